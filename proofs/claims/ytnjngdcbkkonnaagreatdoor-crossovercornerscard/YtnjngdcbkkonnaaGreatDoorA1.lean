/- The structs of chapter 4, the map of kinds, maps of texts to true. -/
import Derived.Test.YtnjngdcbkkonnaaGreatDoorG0
import Derived.Test.YtnjngdcbkkonnaaGreatDoorAbsL
import Derived.Test.YtnjngdcbkkonnaaGreatDoorZM
set_option linter.unusedVariables false
set_option linter.unusedSimpArgs false
set_option maxRecDepth 100000
namespace Go.Z
open Go Go.Abs
structure GEl where
 kind:List UInt8
 a:Int
 b:Int
def vel (p:GEl):AVal:=.agg [.str p.kind,.int .i64 p.a,.int .i64 p.b]
@[go_sem] theorem jta {p:GEl}:(vel p).flat=[.str p.kind,.int .i64 p.a,.int .i64 p.b]:=rfl
@[go_sem] theorem q3s {n:Nat} (p:GEl):below n (vel p)=true:=by rfl
@[go_sem] theorem q1o {n z:Nat} {l:Option (List GEl)}:below n (sl z vel l)=true:=qfn q3s
@[go_sem] theorem jqb {p:GEl}:AVal.vptr (vel p)=.vptr (.agg [.str p.kind,.int .i64 p.a,.int .i64 p.b]):=rfl
theorem qd8 {b t:Nat} {h:qk} {bb:Bool} {p:GEl} {o v:Option (List GEl)} (hv:apO o [p]=some v):appR 3 b h (some t) (some (sl 3 vel o)) (some (.list bb 3 [.agg [.str p.kind,.int .i64 p.a,.int .i64 p.b]]))=ifR (decide (b≤4096)) (some ⟨sl 3 vel v,true,some t,h⟩):=qkn (x:=p) (by omega) rfl hv
theorem qiw {b:Nat} {h:qk} {bb:Bool} {p:GEl} {o v:Option (List GEl)} (hv:apO o [p]=some v) (hn:o.isNone=true):appR 3 b h none (some (sl 3 vel o)) (some (.list bb 3 [.agg [.str p.kind,.int .i64 p.a,.int .i64 p.b]]))=ifR (decide (b≤4096)) (some ⟨sl 3 vel v,true,none,h⟩):=qfl (x:=p) (by omega) rfl hn hv
structure qi where
 name:List UInt8
 kd:List UInt8
 pa:Int
 pb:Int
 sa:Int
 sb:Int
 cost:Int
 stock:Int
def qm (p:qi):AVal:=.agg [.str p.name,.str p.kd,.int .i64 p.pa,.int .i64 p.pb,.int .i64 p.sa,.int .i64 p.sb,.int .i64 p.cost,.int .i64 p.stock]
@[go_sem] theorem jhk {p:qi}:(qm p).flat=[.str p.name,.str p.kd,.int .i64 p.pa,.int .i64 p.pb,.int .i64 p.sa,.int .i64 p.sb,.int .i64 p.cost,.int .i64 p.stock]:=rfl
@[go_sem] theorem qzl {n:Nat} (p:qi):below n (qm p)=true:=by rfl
@[go_sem] theorem jcv {n z:Nat} {l:Option (List qi)}:below n (sl z qm l)=true:=qfn qzl
@[go_sem] theorem jh0 {p:qi}:AVal.vptr (qm p)=.vptr (.agg [.str p.name,.str p.kd,.int .i64 p.pa,.int .i64 p.pb,.int .i64 p.sa,.int .i64 p.sb,.int .i64 p.cost,.int .i64 p.stock]):=rfl
theorem qze {b t:Nat} {h:qk} {bb:Bool} {p:qi} {o v:Option (List qi)} (hv:apO o [p]=some v):appR 8 b h (some t) (some (sl 8 qm o)) (some (.list bb 8 [.agg [.str p.name,.str p.kd,.int .i64 p.pa,.int .i64 p.pb,.int .i64 p.sa,.int .i64 p.sb,.int .i64 p.cost,.int .i64 p.stock]]))=ifR (decide (b≤4096)) (some ⟨sl 8 qm v,true,some t,h⟩):=qkn (x:=p) (by omega) rfl hv
theorem qy2 {b:Nat} {h:qk} {bb:Bool} {p:qi} {o v:Option (List qi)} (hv:apO o [p]=some v) (hn:o.isNone=true):appR 8 b h none (some (sl 8 qm o)) (some (.list bb 8 [.agg [.str p.name,.str p.kd,.int .i64 p.pa,.int .i64 p.pb,.int .i64 p.sa,.int .i64 p.sb,.int .i64 p.cost,.int .i64 p.stock]]))=ifR (decide (b≤4096)) (some ⟨sl 8 qm v,true,none,h⟩):=qfl (x:=p) (by omega) rfl hn hv
structure jm where
 w:Int
 ln:Int
 ld:Int
 mn:Int
 md:Int
def jg (p:jm):AVal:=.agg [.int .i64 p.w,.int .i64 p.ln,.int .i64 p.ld,.int .i64 p.mn,.int .i64 p.md]
@[go_sem] theorem jl6 {p:jm}:(jg p).flat=[.int .i64 p.w,.int .i64 p.ln,.int .i64 p.ld,.int .i64 p.mn,.int .i64 p.md]:=rfl
@[go_sem] theorem qy6 {n:Nat} (p:jm):below n (jg p)=true:=by rfl
@[go_sem] theorem jd8 {n z:Nat} {l:Option (List jm)}:below n (sl z jg l)=true:=qfn qy6
@[go_sem] theorem jlo {p:jm}:AVal.vptr (jg p)=.vptr (.agg [.int .i64 p.w,.int .i64 p.ln,.int .i64 p.ld,.int .i64 p.mn,.int .i64 p.md]):=rfl
theorem qzd {b t:Nat} {h:qk} {bb:Bool} {p:jm} {o v:Option (List jm)} (hv:apO o [p]=some v):appR 5 b h (some t) (some (sl 5 jg o)) (some (.list bb 5 [.agg [.int .i64 p.w,.int .i64 p.ln,.int .i64 p.ld,.int .i64 p.mn,.int .i64 p.md]]))=ifR (decide (b≤4096)) (some ⟨sl 5 jg v,true,some t,h⟩):=qkn (x:=p) (by omega) rfl hv
theorem qzx {b:Nat} {h:qk} {bb:Bool} {p:jm} {o v:Option (List jm)} (hv:apO o [p]=some v) (hn:o.isNone=true):appR 5 b h none (some (sl 5 jg o)) (some (.list bb 5 [.agg [.int .i64 p.w,.int .i64 p.ln,.int .i64 p.ld,.int .i64 p.mn,.int .i64 p.md]]))=ifR (decide (b≤4096)) (some ⟨sl 5 jg v,true,none,h⟩):=qfl (x:=p) (by omega) rfl hn hv
structure jy where
 a:Int
 b:Int
 c:Int
 d:Int
def q3i (p:jy):AVal:=.agg [.int .i64 p.a,.int .i64 p.b,.int .i64 p.c,.int .i64 p.d]
@[go_sem] theorem jib {p:jy}:(q3i p).flat=[.int .i64 p.a,.int .i64 p.b,.int .i64 p.c,.int .i64 p.d]:=rfl
@[go_sem] theorem jge {n:Nat} (p:jy):below n (q3i p)=true:=by rfl
@[go_sem] theorem jmw {p:jy}:AVal.vptr (q3i p)=.vptr (.agg [.int .i64 p.a,.int .i64 p.b,.int .i64 p.c,.int .i64 p.d]):=rfl
structure yb where
 m0:Int
 m1:Int
 m2:Int
 m3:Int
 m4:Int
 m5:Int
 m6:Int
 m7:Int
def q8l (p:yb):AVal:=.agg [.int .i64 p.m0,.int .i64 p.m1,.int .i64 p.m2,.int .i64 p.m3,.int .i64 p.m4,.int .i64 p.m5,.int .i64 p.m6,.int .i64 p.m7]
@[go_sem] theorem jor {p:yb}:(q8l p).flat=[.int .i64 p.m0,.int .i64 p.m1,.int .i64 p.m2,.int .i64 p.m3,.int .i64 p.m4,.int .i64 p.m5,.int .i64 p.m6,.int .i64 p.m7]:=rfl
@[go_sem] theorem jlf {n:Nat} (p:yb):below n (q8l p)=true:=by rfl
@[go_sem] theorem jn7 {p:yb}:AVal.vptr (q8l p)=.vptr (.agg [.int .i64 p.m0,.int .i64 p.m1,.int .i64 p.m2,.int .i64 p.m3,.int .i64 p.m4,.int .i64 p.m5,.int .i64 p.m6,.int .i64 p.m7]):=rfl
structure qin where
 band:Int
 ladder:Option (List GEl)
def q4u (p:qin):AVal:=.agg [.int .i64 p.band,sl 3 vel p.ladder]
@[go_sem] theorem jhc {p:qin}:(q4u p).flat=[.int .i64 p.band,sl 3 vel p.ladder]:=rfl
@[go_sem] theorem jf8 {p:qin}:AVal.vptr (q4u p)=.vptr (.agg [.int .i64 p.band,sl 3 vel p.ladder]):=rfl
structure q23 where
 choice:Option (List Int)
 rband:Int
 rladder:Option (List GEl)
def q9o (p:q23):AVal:=.agg [sl 1 qo p.choice,.int .i64 p.rband,sl 3 vel p.rladder]
@[go_sem] theorem jjx {p:q23}:(q9o p).flat=[sl 1 qo p.choice,.int .i64 p.rband,sl 3 vel p.rladder]:=rfl
@[go_sem] theorem jie {p:q23}:AVal.vptr (q9o p)=.vptr (.agg [sl 1 qo p.choice,.int .i64 p.rband,sl 3 vel p.rladder]):=rfl
structure yl where
 parts:Option (List qi)
 choice:Option (List Int)
 bands:Option (List jm)
def q86 (p:yl):AVal:=.agg [sl 8 qm p.parts,sl 1 qo p.choice,sl 5 jg p.bands]
@[go_sem] theorem jjs {p:yl}:(q86 p).flat=[sl 8 qm p.parts,sl 1 qo p.choice,sl 5 jg p.bands]:=rfl
@[go_sem] theorem jm5 {p:yl}:AVal.vptr (q86 p)=.vptr (.agg [sl 8 qm p.parts,sl 1 qo p.choice,sl 5 jg p.bands]):=rfl
structure q2v where
 parts:Option (List qi)
 bands:Option (List jm)
 n:Int
def q81 (p:q2v):AVal:=.agg [sl 8 qm p.parts,sl 5 jg p.bands,.int .i64 p.n]
@[go_sem] theorem jlq {p:q2v}:(q81 p).flat=[sl 8 qm p.parts,sl 5 jg p.bands,.int .i64 p.n]:=rfl
@[go_sem] theorem jm3 {p:q2v}:AVal.vptr (q81 p)=.vptr (.agg [sl 8 qm p.parts,sl 5 jg p.bands,.int .i64 p.n]):=rfl
structure q2t where
 x:Option (List GEl)
 y:Option (List GEl)
 lo:Int
 hi:Int
def q80 (p:q2t):AVal:=.agg [sl 3 vel p.x,sl 3 vel p.y,.int .i64 p.lo,.int .i64 p.hi]
@[go_sem] theorem jla {p:q2t}:(q80 p).flat=[sl 3 vel p.x,sl 3 vel p.y,.int .i64 p.lo,.int .i64 p.hi]:=rfl
@[go_sem] theorem jk7 {p:q2t}:AVal.vptr (q80 p)=.vptr (.agg [sl 3 vel p.x,sl 3 vel p.y,.int .i64 p.lo,.int .i64 p.hi]):=rfl
theorem qq4 {s:List UInt8} (h0:decide (s=([98,108,111,99,107]:List UInt8))=true):j4 .str (.str s) zd 0=some (some (0,.agg [.str ([116,114,97,112]:List UInt8),.bool true,.fn (.func 218) [] []])):=by
 have e0:(s == ([98,108,111,99,107]:List UInt8))=true:=by simpa using h0
 simp only [zd,j4,qam,e0]
theorem q2c {s:List UInt8} (h0:decide (s=([98,108,111,99,107]:List UInt8))=false) (h1:decide (s=([115,101,114,105,101,115]:List UInt8))=true):j4 .str (.str s) zd 0=some (some (1,.agg [.str ([115,104,117,110,116]:List UInt8),.bool false,.fn (.func 219) [] []])):=by
 have e0:(s == ([98,108,111,99,107]:List UInt8))=false:=by simpa using h0
 have e1:(s == ([115,101,114,105,101,115]:List UInt8))=true:=by simpa using h1
 simp only [zd,j4,qam,e0,e1]
theorem q2w {s:List UInt8} (h0:decide (s=([98,108,111,99,107]:List UInt8))=false) (h1:decide (s=([115,101,114,105,101,115]:List UInt8))=false) (h2:decide (s=([115,104,117,110,116]:List UInt8))=true):j4 .str (.str s) zd 0=some (some (2,.agg [.str ([115,101,114,105,101,115]:List UInt8),.bool false,.fn (.func 220) [] []])):=by
 have e0:(s == ([98,108,111,99,107]:List UInt8))=false:=by simpa using h0
 have e1:(s == ([115,101,114,105,101,115]:List UInt8))=false:=by simpa using h1
 have e2:(s == ([115,104,117,110,116]:List UInt8))=true:=by simpa using h2
 simp only [zd,j4,qam,e0,e1,e2]
theorem qrg {s:List UInt8} (h0:decide (s=([98,108,111,99,107]:List UInt8))=false) (h1:decide (s=([115,101,114,105,101,115]:List UInt8))=false) (h2:decide (s=([115,104,117,110,116]:List UInt8))=false) (h3:decide (s=([116,114,97,112]:List UInt8))=true):j4 .str (.str s) zd 0=some (some (3,.agg [.str ([98,108,111,99,107]:List UInt8),.bool true,.fn (.func 221) [] []])):=by
 have e0:(s == ([98,108,111,99,107]:List UInt8))=false:=by simpa using h0
 have e1:(s == ([115,101,114,105,101,115]:List UInt8))=false:=by simpa using h1
 have e2:(s == ([115,104,117,110,116]:List UInt8))=false:=by simpa using h2
 have e3:(s == ([116,114,97,112]:List UInt8))=true:=by simpa using h3
 simp only [zd,j4,qam,e0,e1,e2,e3]
theorem q9b {s:List UInt8} (h0:decide (s=([98,108,111,99,107]:List UInt8))=false) (h1:decide (s=([115,101,114,105,101,115]:List UInt8))=false) (h2:decide (s=([115,104,117,110,116]:List UInt8))=false) (h3:decide (s=([116,114,97,112]:List UInt8))=false):j4 .str (.str s) zd 0=some (none):=by
 have e0:(s == ([98,108,111,99,107]:List UInt8))=false:=by simpa using h0
 have e1:(s == ([115,101,114,105,101,115]:List UInt8))=false:=by simpa using h1
 have e2:(s == ([115,104,117,110,116]:List UInt8))=false:=by simpa using h2
 have e3:(s == ([116,114,97,112]:List UInt8))=false:=by simpa using h3
 simp only [zd,j4,qam,e0,e1,e2,e3]
@[go_sem] theorem jb9 {n:Nat}:ko n (.map zd)=true:=rfl
@[go_sem] theorem jud:pr.maps 193=some zd:=rfl
def qnl (h:qk) (zero:AVal) (r:Option (Option (Nat × AVal))):Option ORes:=match r with
 | some (some (_,v))=>some ⟨.tup [v,.bool true],false,none,h⟩
 | some none=>some ⟨.tup [zero,.bool false],false,none,h⟩
 | none=>none
@[go_sem] theorem jha {h:qk} {z v:AVal} {i:Nat}:qnl h z (some (some (i,v)))=some ⟨.tup [v,.bool true],false,none,h⟩:=rfl
@[go_sem] theorem jgv {h:qk} {z:AVal}:qnl h z (some none)=some ⟨.tup [z,.bool false],false,none,h⟩:=rfl
def qr2 (h:qk) (kd:Kd) (z kv:AVal) (x:Option ABox):Option ORes:=match x with
 | some (.map es)=>qnl h z (j4 kd kv es 0)
 | _=>none
@[go_sem] theorem jkw {h:qk} {kd:Kd} {z kv:AVal} {es:List (AVal × AVal)}:qr2 h kd z kv (some (.map es))=qnl h z (j4 kd kv es 0):=rfl
def qp5 (h0:Nat) (al:Option (List Nat)) (h:qk) (kd:Kd) (z:AVal) (m k:Option AVal):Option ORes:=match m,k with
 | some (.map b),some kv=>ifR (j8 h0 al b) (qr2 h kd z kv h[b]?)
 | some .nilmap,some _=>some ⟨.tup [z,.bool false],false,none,h⟩
 | _,_=>none
@[go_sem] theorem jeh {h0:Nat} {al:Option (List Nat)} {h:qk} {kd:Kd} {z kv:AVal} {b:Nat}:qp5 h0 al h kd z (some (.map b)) (some kv)=ifR (j8 h0 al b) (qr2 h kd z kv h[b]?):=rfl
@[go_sem] theorem jpb {p:ju} {xc:XC} {h0:Nat} {al:Option (List Nat)} {e:Env} {h:qk} {kd:Kd} {z:AVal} {m k:qu}:qg p xc h0 al e h (.lookup kd z true m k)=qp5 h0 al h kd z (ql e m) (ql e k):=by
 simp only [qg,yp,qp5]
 cases ql e m with
 | none=>cases ql e k <;> rfl
 | some v=>cases ql e k with
  | none=>cases v <;> rfl
  | some kv=>cases v with
   | map b=>
    simp only [ifR,zu,qr2,qnl]
    cases j8 h0 al b with
    | false=>rfl
    | true=>
     simp only [cond_true]
     cases h[b]? with
     | none=>rfl
     | some x=>cases x with
      | map es=>
       simp only []
       cases j4 kd kv es 0 with
       | none=>rfl
       | some r=>cases r <;> rfl
      | _=>rfl
   | _=>rfl
def qhw (l:List (List UInt8)) (s:List UInt8):Bool:=decide (s∈l)
def qqo (l:List (List UInt8)) (s:List UInt8):Option (List (List UInt8)):=if qhw l s then some l else if l.length≤1073741824 then some (l++[s]) else none
theorem q9l {h:qk} {l:List (List UInt8)} {s:List UInt8}:qrr h .str (.bool false) (.str s) (some (.map (ku l)))=some ⟨.bool (qhw l s),false,none,h⟩:=by
 rw [q5e,qqb]
 unfold qhw
 by_cases hm:s∈l <;> simp [hm,q2u,q2x]
theorem q6m {h:qk} {b:Nat} {l v:List (List UInt8)} {s:List UInt8} (hv:qqo l s=some v) (hn:qhw l s=false):qtr h b .str (.str s) (.bool true) (some (.map (ku l)))=qas (jz h b (.map (ku v))) .undef:=by
 unfold qqo at hv
 rw [hn] at hv
 simp only [Bool.false_eq_true,if_false] at hv
 split at hv
 ·rename_i hl
  cases hv
  have hm:¬ s∈l:=by simpa [qhw] using hn
  rw [qwn,qqb,if_neg hm,q4l,q46,Nat.ble_eq_true_of_le hl,q13]
  rfl
 ·cases hv
theorem qk0:∀ (l:List (List UInt8)) (i:Nat) (k:List UInt8),l[i]?=some k→qaz (ku l) i (.bool true)=ku l
 | [],i,k,h=>by simp at h
 | x::l,0,k,h=>rfl
 | x::l,i + 1,k,h=>by
  have:=qk0 l i k (by simpa using h)
  show (AVal.str x,AVal.bool true)::qaz (ku l) i (.bool true)=_
  rw [this]; rfl
theorem jfx {h:qk} {b:Nat} {l v:List (List UInt8)} {s:List UInt8} (hv:qqo l s=some v):qtr h b .str (.str s) (.bool true) (some (.map (ku l)))=qas (jz h b (.map (ku v))) .undef:=by
 cases hn:qhw l s with
 | false=>exact q6m hv hn
 | true=>
  unfold qqo at hv
  rw [hn] at hv
  simp only [if_true,Option.some.injEq] at hv
  subst hv
  have hm:s∈l:=by simpa [qhw] using hn
  rw [qwn,qqb,if_pos hm]
  have hi:l[l.idxOf s]?=some s:=by
   rw [List.getElem?_eq_getElem (List.idxOf_lt_length_of_mem hm),List.getElem_idxOf]
  show qas (jz h b (.map (qaz (ku l) (l.idxOf s) (.bool true)))) .undef=_
  rw [qk0 l _ s hi]
@[go_sem] theorem qy8 {n:Nat}:∀ {l:List (List UInt8)},ko n (.map (ku l))=true
 | []=>rfl
 | x::l=>by
  have:=qy8 (n:=n) (l:=l)
  simp only [ko] at this ⊢
  show (below n (.str x) && below n (.bool true) && qap n (ku l))=true
  rw [this]; rfl
theorem q3o {p:ju} {xc:XC} {h0:Nat} {al:Option (List Nat)} {e:Env} {h:qk} {r:Nat}:qg p xc h0 al e h (.mkmap r)=qas (newBox h0 h r (.map (ku []))) (.map (h0 + r)):=q90
theorem qy {p:ju} {xc:XC} {k:Nat} {args:List AVal} {v:AVal} (hp:p.prims k=none) (hc:∃ hh,jl p xc k args []=some (v,false,hh)) (hz:∀ hh,freezeR hh v=some v) (hv:below 0 v=true):qc p xc k args=some (v,false):=by
 obtain ⟨hh,hc⟩:=hc
 exact ym hp hc (hz hh) hv
set_option maxHeartbeats 4000000
noncomputable def f106 (a0:Bool) (a1:Int):Option Int:=
 cond a0
  (some a1)
  (some 0)
theorem qhu {a0:Bool} {a1:Int} {r} (h:f106 a0 a1=some r):qc pr (X pr) 106 [.bool a0,.int .i64 a1]=some (.int .i64 r,false):=by
 unfold f106 at h
 rcases qb h with ⟨h1,h⟩ | ⟨h1,h⟩
 ·have hr:a1=r:=Option.some.inj h
  subst hr
  refine qy rfl ?_ (fun _=>by first | rfl | simp only [go_sem,seval]) (by first | rfl | simp only [go_sem,seval])
  rw [qh (show pr.fns 106=some c106 from rfl) (by simp)]
  simp only [go_sem,seval,c106,h1]
  exact ⟨_,rfl⟩
 ·have hr:0=r:=Option.some.inj h
  subst hr
  refine qy rfl ?_ (fun _=>by first | rfl | simp only [go_sem,seval]) (by first | rfl | simp only [go_sem,seval])
  rw [qh (show pr.fns 106=some c106 from rfl) (by simp)]
  simp only [go_sem,seval,c106,h1]
  exact ⟨_,rfl⟩
noncomputable def qia (a0:Option (List Int)) (s0:Int):Option (Int ⊕ (Int ⊕ Int)):=
 cond (decide (s0 < ((a0.getD []).length:Int)))
  (qe (zw (a0.getD []) s0) fun v10=>
  cond (decide (v10=0))
   (some (.inl (qf .i64 (s0 + 1))))
   (some (.inr (.inl v10))))
  (some (.inr (.inr s0)))
def qlb (a0:Option (List Int)) (s0:Int):ASt:=⟨[(5,sl 1 qo a0,false),(6,.int .i64 ((a0.getD []).length:Int),false),(7,.int .i64 s0,false)],[]⟩
def qo1 (a0:Option (List Int)):Int ⊕ Int→ji × ASt
 | .inl d=>(.ret,⟨[(2,.int .i64 d,false)],[]⟩)
 | .inr d=>(.exit 0,⟨[(5,sl 1 qo a0,false),(6,.int .i64 ((a0.getD []).length:Int),false),(7,.int .i64 d,false),(8,.bool false,false)],[]⟩)
theorem jes (a0:Option (List Int)) (s0:Int) (r) (h:qia a0 s0=some r):zj pr qf6 (qlb a0) (qo1 a0) s0 r:=by
 unfold qia at h
 rcases qb h with ⟨h9,h⟩ | ⟨h9,h⟩
 ·obtain ⟨v10,h11,h⟩:=qa h
  rcases qb h with ⟨h12,h⟩ | ⟨h12,h⟩
  ·cases h
   exact qq (st':=⟨[(5,sl 1 qo a0,false),(6,.int .i64 ((a0.getD []).length:Int),false),(7,.int .i64 (qf .i64 (s0 + 1)),false)],[]⟩) (by simp only [go_sem,seval,qf6,qlb,h9,q9 h11,h12] <;> rfl) (jb (Nat.le_refl _))
  ·cases h
   exact qj (by simp only [go_sem,seval,qf6,qlb,h9,q9 h11,h12,qo1] <;> rfl)
 ·cases h
  exact qj (by simp only [go_sem,seval,qf6,qlb,h9,qo1] <;> rfl)
theorem q5j (a0:Option (List Int)) {s0:Int} {d} (h:itO (qia a0) s0=some d):X pr (.loop qf6) (qlb a0 s0)=some (qo1 a0 d):=z7 (jes a0) (fun d=>by rcases d with d|d <;> (intro hh; cases hh)) h
noncomputable def f105 (a0:Option (List Int)):Option Int:=
 qe (itO (qia a0) 0) fun d13=>match d13 with
  | .inl d15=>
   some d15
  | .inr d16=>
   some 0
theorem qln {a0:Option (List Int)} {r} (h:f105 a0=some r):qc pr (X pr) 105 [sl 1 qo a0]=some (.int .i64 r,false):=by
 unfold f105 at h
 obtain ⟨d13,h14,h⟩:=qa h
 rcases d13 with d15 | d16
 ·have wh14:X pr (.loop qf6) ⟨[(5,sl 1 qo a0,false),(6,.int .i64 ((a0.getD []).length:Int),false),(7,.int .i64 0,false)],[]⟩=some (.ret,⟨[(2,.int .i64 d15,false)],[]⟩):=q5j a0 h14
  have hr:d15=r:=Option.some.inj h
  subst hr
  refine qy rfl ?_ (fun _=>by first | rfl | simp only [go_sem,seval]) (by first | rfl | simp only [go_sem,seval])
  rw [qh (show pr.fns 105=some c105 from rfl) (by simp)]
  simp only [go_sem,seval,c105,wh14]
  exact ⟨_,rfl⟩
 ·have wh14:X pr (.loop qf6) ⟨[(5,sl 1 qo a0,false),(6,.int .i64 ((a0.getD []).length:Int),false),(7,.int .i64 0,false)],[]⟩=some (.exit 0,⟨[(5,sl 1 qo a0,false),(6,.int .i64 ((a0.getD []).length:Int),false),(7,.int .i64 d16,false),(8,.bool false,false)],[]⟩):=q5j a0 h14
  have hr:0=r:=Option.some.inj h
  subst hr
  refine qy rfl ?_ (fun _=>by first | rfl | simp only [go_sem,seval]) (by first | rfl | simp only [go_sem,seval])
  rw [qh (show pr.fns 105=some c105 from rfl) (by simp)]
  simp only [go_sem,seval,c105,wh14]
  exact ⟨_,rfl⟩
noncomputable def f109 (a0:Int) (a1:Int) (a2:Int):Option Int:=
 cond (decide (a0 < a1))
  (qe (f106 true 3) fun v2=>
  some v2)
  (qe (f106 (decide (a2 < a0)) 3) fun v4=>
  some v4)
theorem qp4 {a0:Int} {a1:Int} {a2:Int} {r} (h:f109 a0 a1 a2=some r):qc pr (X pr) 109 [.int .i64 a0,.int .i64 a1,.int .i64 a2]=some (.int .i64 r,false):=by
 unfold f109 at h
 rcases qb h with ⟨h1,h⟩ | ⟨h1,h⟩
 ·obtain ⟨v2,h3,h⟩:=qa h
  have hr:v2=r:=Option.some.inj h
  subst hr
  refine qy rfl ?_ (fun _=>by first | rfl | simp only [go_sem,seval]) (by first | rfl | simp only [go_sem,seval])
  rw [qh (show pr.fns 109=some c109 from rfl) (by simp)]
  simp only [go_sem,seval,c109,h1,qhu h3]
  exact ⟨_,rfl⟩
 ·obtain ⟨v4,h5,h⟩:=qa h
  have wh5:qc pr (X pr) 106 [.bool (decide (a2 < a0)),.int .i64 3]=some (.int .i64 v4,false):=qhu h5
  have hr:v4=r:=Option.some.inj h
  subst hr
  refine qy rfl ?_ (fun _=>by first | rfl | simp only [go_sem,seval]) (by first | rfl | simp only [go_sem,seval])
  rw [qh (show pr.fns 109=some c109 from rfl) (by simp)]
  simp only [go_sem,seval,c109,h1,wh5]
  exact ⟨_,rfl⟩
noncomputable def qea (a0:List UInt8):Option (Option (Nat) ⊕ (Nat ⊕ Nat)):=
 cond (decide (0 < a0.length))
  (cond (decide (65≤((qn a0 0).1:Int)))
   (cond (decide (((qn a0 0).1:Int)≤90))
    (cond (decide (48≤((qn a0 0).1:Int)))
     (cond (decide (((qn a0 0).1:Int)≤57))
      (some (.inl (some (0 + (qn a0 0).2))))
      (some (.inl (some (0 + (qn a0 0).2)))))
     (some (.inl (some (0 + (qn a0 0).2)))))
    (cond (decide (97≤((qn a0 0).1:Int)))
     (cond (decide (48≤((qn a0 0).1:Int)))
      (cond (decide (((qn a0 0).1:Int)≤57))
       (cond (decide (((qn a0 0).1:Int)≤122))
        (some (.inl (some (0 + (qn a0 0).2))))
        (some (.inr (.inl (0 + (qn a0 0).2)))))
       (cond (decide (((qn a0 0).1:Int)≤122))
        (some (.inl (some (0 + (qn a0 0).2))))
        (some (.inr (.inl (0 + (qn a0 0).2))))))
      (cond (decide (((qn a0 0).1:Int)≤122))
       (some (.inl (some (0 + (qn a0 0).2))))
       (some (.inr (.inl (0 + (qn a0 0).2))))))
     (cond (decide (48≤((qn a0 0).1:Int)))
      (cond (decide (((qn a0 0).1:Int)≤57))
       (some (.inr (.inl (0 + (qn a0 0).2))))
       (some (.inr (.inl (0 + (qn a0 0).2)))))
      (some (.inr (.inl (0 + (qn a0 0).2)))))))
   (cond (decide (97≤((qn a0 0).1:Int)))
    (cond (decide (48≤((qn a0 0).1:Int)))
     (cond (decide (((qn a0 0).1:Int)≤57))
      (cond (decide (((qn a0 0).1:Int)≤122))
       (some (.inl (some (0 + (qn a0 0).2))))
       (some (.inr (.inl (0 + (qn a0 0).2)))))
      (cond (decide (((qn a0 0).1:Int)≤122))
       (some (.inl (some (0 + (qn a0 0).2))))
       (some (.inr (.inl (0 + (qn a0 0).2))))))
     (cond (decide (((qn a0 0).1:Int)≤122))
      (some (.inl (some (0 + (qn a0 0).2))))
      (some (.inr (.inl (0 + (qn a0 0).2))))))
    (cond (decide (48≤((qn a0 0).1:Int)))
     (cond (decide (((qn a0 0).1:Int)≤57))
      (some (.inr (.inl (0 + (qn a0 0).2))))
      (some (.inr (.inl (0 + (qn a0 0).2)))))
     (some (.inr (.inl (0 + (qn a0 0).2)))))))
  (some (.inr (.inr 0)))
noncomputable def qeb (a0:List UInt8) (s0:Nat):Option (Option (Nat) ⊕ (Nat ⊕ Nat)):=
 cond (decide (s0 < a0.length))
  (cond (decide (65≤((qn a0 s0).1:Int)))
   (cond (decide (((qn a0 s0).1:Int)≤90))
    (cond (decide (48≤((qn a0 s0).1:Int)))
     (cond (decide (((qn a0 s0).1:Int)≤57))
      (some (.inl (some (s0 + (qn a0 s0).2))))
      (some (.inl (some (s0 + (qn a0 s0).2)))))
     (some (.inl (some (s0 + (qn a0 s0).2)))))
    (cond (decide (97≤((qn a0 s0).1:Int)))
     (cond (decide (48≤((qn a0 s0).1:Int)))
      (cond (decide (((qn a0 s0).1:Int)≤57))
       (cond (decide (((qn a0 s0).1:Int)≤122))
        (some (.inl (some (s0 + (qn a0 s0).2))))
        (cond (decide ((s0:Int)=0))
         (some (.inr (.inl (s0 + (qn a0 s0).2))))
         (some (.inl (some (s0 + (qn a0 s0).2))))))
       (cond (decide (((qn a0 s0).1:Int)≤122))
        (some (.inl (some (s0 + (qn a0 s0).2))))
        (cond (decide ((s0:Int)=0))
         (some (.inr (.inl (s0 + (qn a0 s0).2))))
         (cond (decide (((qn a0 s0).1:Int)=95))
          (some (.inl (some (s0 + (qn a0 s0).2))))
          (some (.inr (.inl (s0 + (qn a0 s0).2))))))))
      (cond (decide (((qn a0 s0).1:Int)≤122))
       (some (.inl (some (s0 + (qn a0 s0).2))))
       (cond (decide ((s0:Int)=0))
        (some (.inr (.inl (s0 + (qn a0 s0).2))))
        (cond (decide (((qn a0 s0).1:Int)=95))
         (some (.inl (some (s0 + (qn a0 s0).2))))
         (some (.inr (.inl (s0 + (qn a0 s0).2))))))))
     (cond (decide (48≤((qn a0 s0).1:Int)))
      (cond (decide (((qn a0 s0).1:Int)≤57))
       (cond (decide ((s0:Int)=0))
        (some (.inr (.inl (s0 + (qn a0 s0).2))))
        (some (.inl (some (s0 + (qn a0 s0).2)))))
       (cond (decide ((s0:Int)=0))
        (some (.inr (.inl (s0 + (qn a0 s0).2))))
        (cond (decide (((qn a0 s0).1:Int)=95))
         (some (.inl (some (s0 + (qn a0 s0).2))))
         (some (.inr (.inl (s0 + (qn a0 s0).2)))))))
      (cond (decide ((s0:Int)=0))
       (some (.inr (.inl (s0 + (qn a0 s0).2))))
       (cond (decide (((qn a0 s0).1:Int)=95))
        (some (.inl (some (s0 + (qn a0 s0).2))))
        (some (.inr (.inl (s0 + (qn a0 s0).2)))))))))
   (cond (decide (97≤((qn a0 s0).1:Int)))
    (cond (decide (48≤((qn a0 s0).1:Int)))
     (cond (decide (((qn a0 s0).1:Int)≤57))
      (cond (decide (((qn a0 s0).1:Int)≤122))
       (some (.inl (some (s0 + (qn a0 s0).2))))
       (cond (decide ((s0:Int)=0))
        (some (.inr (.inl (s0 + (qn a0 s0).2))))
        (some (.inl (some (s0 + (qn a0 s0).2))))))
      (cond (decide (((qn a0 s0).1:Int)≤122))
       (some (.inl (some (s0 + (qn a0 s0).2))))
       (cond (decide ((s0:Int)=0))
        (some (.inr (.inl (s0 + (qn a0 s0).2))))
        (cond (decide (((qn a0 s0).1:Int)=95))
         (some (.inl (some (s0 + (qn a0 s0).2))))
         (some (.inr (.inl (s0 + (qn a0 s0).2))))))))
     (cond (decide (((qn a0 s0).1:Int)≤122))
      (some (.inl (some (s0 + (qn a0 s0).2))))
      (cond (decide ((s0:Int)=0))
       (some (.inr (.inl (s0 + (qn a0 s0).2))))
       (cond (decide (((qn a0 s0).1:Int)=95))
        (some (.inl (some (s0 + (qn a0 s0).2))))
        (some (.inr (.inl (s0 + (qn a0 s0).2))))))))
    (cond (decide (48≤((qn a0 s0).1:Int)))
     (cond (decide (((qn a0 s0).1:Int)≤57))
      (cond (decide ((s0:Int)=0))
       (some (.inr (.inl (s0 + (qn a0 s0).2))))
       (some (.inl (some (s0 + (qn a0 s0).2)))))
      (cond (decide ((s0:Int)=0))
       (some (.inr (.inl (s0 + (qn a0 s0).2))))
       (cond (decide (((qn a0 s0).1:Int)=95))
        (some (.inl (some (s0 + (qn a0 s0).2))))
        (some (.inr (.inl (s0 + (qn a0 s0).2)))))))
     (cond (decide ((s0:Int)=0))
      (some (.inr (.inl (s0 + (qn a0 s0).2))))
      (cond (decide (((qn a0 s0).1:Int)=95))
       (some (.inl (some (s0 + (qn a0 s0).2))))
       (some (.inr (.inl (s0 + (qn a0 s0).2)))))))))
  (some (.inr (.inr s0)))
noncomputable def qn6 (a0:List UInt8):Option (Nat)→Option (Option (Nat) ⊕ (Nat ⊕ Nat))
 | none=>qea a0
 | some x=>qeb a0 x
def jh (a0:List UInt8) (s0:Nat):ASt:=⟨[(0,.str a0,false),(8,.ptr 0 0,false),(46,.bool false,false)],[.iter a0 s0]⟩
def jj (a0:List UInt8):Option (Nat)→ASt
 | none=>⟨[(0,.str a0,false),(8,.ptr 0 0,false)],[.iter a0 0]⟩
 | some x=>jh a0 x
def zf (a0:List UInt8):Nat ⊕ Nat→ji × ASt
 | .inl d=>(.ret,⟨[(2,.bool false,false)],[.iter a0 d]⟩)
 | .inr d=>(.exit 0,⟨[(0,.str a0,false),(8,.ptr 0 0,false),(9,.tup [.bool false],false),(10,.bool false,false)],[.iter a0 d]⟩)
theorem q9w (a0:List UInt8) (r) (h:qea a0=some r):zj pr jo (jj a0) (zf a0) none r:=by
 unfold qea at h
 rcases qb h with ⟨h171,h⟩ | ⟨h171,h⟩
 ·rcases qb h with ⟨h172,h⟩ | ⟨h172,h⟩
  ·rcases qb h with ⟨h173,h⟩ | ⟨h173,h⟩
   ·rcases qb h with ⟨h174,h⟩ | ⟨h174,h⟩
    ·rcases qb h with ⟨h175,h⟩ | ⟨h175,h⟩
     ·cases h
      exact qq (st':=⟨[(0,.str a0,false),(8,.ptr 0 0,false),(46,.bool false,false)],[.iter a0 (0 + (qn a0 0).2)]⟩) (by simp only [go_sem,seval,jo,jj,jh,h171,jw h171,h172,h173,h174,h175] <;> rfl) (jb (Nat.le_refl _))
     ·cases h
      exact qq (st':=⟨[(0,.str a0,false),(8,.ptr 0 0,false),(46,.bool false,false)],[.iter a0 (0 + (qn a0 0).2)]⟩) (by simp only [go_sem,seval,jo,jj,jh,h171,jw h171,h172,h173,h174,h175] <;> rfl) (jb (Nat.le_refl _))
    ·cases h
     exact qq (st':=⟨[(0,.str a0,false),(8,.ptr 0 0,false),(46,.bool false,false)],[.iter a0 (0 + (qn a0 0).2)]⟩) (by simp only [go_sem,seval,jo,jj,jh,h171,jw h171,h172,h173,h174] <;> rfl) (jb (Nat.le_refl _))
   ·rcases qb h with ⟨h176,h⟩ | ⟨h176,h⟩
    ·rcases qb h with ⟨h177,h⟩ | ⟨h177,h⟩
     ·rcases qb h with ⟨h178,h⟩ | ⟨h178,h⟩
      ·rcases qb h with ⟨h179,h⟩ | ⟨h179,h⟩
       ·cases h
        exact qq (st':=⟨[(0,.str a0,false),(8,.ptr 0 0,false),(46,.bool false,false)],[.iter a0 (0 + (qn a0 0).2)]⟩) (by simp only [go_sem,seval,jo,jj,jh,h171,jw h171,h172,h173,h176,h177,h178,h179] <;> rfl) (jb (Nat.le_refl _))
       ·cases h
        exact qj (by simp only [go_sem,seval,jo,jj,jh,h171,jw h171,h172,h173,h176,h177,h178,h179,zf] <;> rfl)
      ·rcases qb h with ⟨h180,h⟩ | ⟨h180,h⟩
       ·cases h
        exact qq (st':=⟨[(0,.str a0,false),(8,.ptr 0 0,false),(46,.bool false,false)],[.iter a0 (0 + (qn a0 0).2)]⟩) (by simp only [go_sem,seval,jo,jj,jh,h171,jw h171,h172,h173,h176,h177,h178,h180] <;> rfl) (jb (Nat.le_refl _))
       ·cases h
        exact qj (by simp only [go_sem,seval,jo,jj,jh,h171,jw h171,h172,h173,h176,h177,h178,h180,zf] <;> rfl)
     ·rcases qb h with ⟨h181,h⟩ | ⟨h181,h⟩
      ·cases h
       exact qq (st':=⟨[(0,.str a0,false),(8,.ptr 0 0,false),(46,.bool false,false)],[.iter a0 (0 + (qn a0 0).2)]⟩) (by simp only [go_sem,seval,jo,jj,jh,h171,jw h171,h172,h173,h176,h177,h181] <;> rfl) (jb (Nat.le_refl _))
      ·cases h
       exact qj (by simp only [go_sem,seval,jo,jj,jh,h171,jw h171,h172,h173,h176,h177,h181,zf] <;> rfl)
    ·rcases qb h with ⟨h182,h⟩ | ⟨h182,h⟩
     ·rcases qb h with ⟨h183,h⟩ | ⟨h183,h⟩
      ·cases h
       exact qj (by simp only [go_sem,seval,jo,jj,jh,h171,jw h171,h172,h173,h176,h182,h183,zf] <;> rfl)
      ·cases h
       exact qj (by simp only [go_sem,seval,jo,jj,jh,h171,jw h171,h172,h173,h176,h182,h183,zf] <;> rfl)
     ·cases h
      exact qj (by simp only [go_sem,seval,jo,jj,jh,h171,jw h171,h172,h173,h176,h182,zf] <;> rfl)
  ·rcases qb h with ⟨h184,h⟩ | ⟨h184,h⟩
   ·rcases qb h with ⟨h185,h⟩ | ⟨h185,h⟩
    ·rcases qb h with ⟨h186,h⟩ | ⟨h186,h⟩
     ·rcases qb h with ⟨h187,h⟩ | ⟨h187,h⟩
      ·cases h
       exact qq (st':=⟨[(0,.str a0,false),(8,.ptr 0 0,false),(46,.bool false,false)],[.iter a0 (0 + (qn a0 0).2)]⟩) (by simp only [go_sem,seval,jo,jj,jh,h171,jw h171,h172,h184,h185,h186,h187] <;> rfl) (jb (Nat.le_refl _))
      ·cases h
       exact qj (by simp only [go_sem,seval,jo,jj,jh,h171,jw h171,h172,h184,h185,h186,h187,zf] <;> rfl)
     ·rcases qb h with ⟨h188,h⟩ | ⟨h188,h⟩
      ·cases h
       exact qq (st':=⟨[(0,.str a0,false),(8,.ptr 0 0,false),(46,.bool false,false)],[.iter a0 (0 + (qn a0 0).2)]⟩) (by simp only [go_sem,seval,jo,jj,jh,h171,jw h171,h172,h184,h185,h186,h188] <;> rfl) (jb (Nat.le_refl _))
      ·cases h
       exact qj (by simp only [go_sem,seval,jo,jj,jh,h171,jw h171,h172,h184,h185,h186,h188,zf] <;> rfl)
    ·rcases qb h with ⟨h189,h⟩ | ⟨h189,h⟩
     ·cases h
      exact qq (st':=⟨[(0,.str a0,false),(8,.ptr 0 0,false),(46,.bool false,false)],[.iter a0 (0 + (qn a0 0).2)]⟩) (by simp only [go_sem,seval,jo,jj,jh,h171,jw h171,h172,h184,h185,h189] <;> rfl) (jb (Nat.le_refl _))
     ·cases h
      exact qj (by simp only [go_sem,seval,jo,jj,jh,h171,jw h171,h172,h184,h185,h189,zf] <;> rfl)
   ·rcases qb h with ⟨h190,h⟩ | ⟨h190,h⟩
    ·rcases qb h with ⟨h191,h⟩ | ⟨h191,h⟩
     ·cases h
      exact qj (by simp only [go_sem,seval,jo,jj,jh,h171,jw h171,h172,h184,h190,h191,zf] <;> rfl)
     ·cases h
      exact qj (by simp only [go_sem,seval,jo,jj,jh,h171,jw h171,h172,h184,h190,h191,zf] <;> rfl)
    ·cases h
     exact qj (by simp only [go_sem,seval,jo,jj,jh,h171,jw h171,h172,h184,h190,zf] <;> rfl)
 ·cases h
  exact qj (by simp only [go_sem,seval,jo,jj,jh,h171,q4i h171,zf] <;> rfl)
theorem jap (a0:List UInt8) (s0:Nat) (r) (h:qeb a0 s0=some r):zj pr jo (jj a0) (zf a0) (some s0) r:=by
 unfold qeb at h
 rcases qb h with ⟨h130,h⟩ | ⟨h130,h⟩
 ·rcases qb h with ⟨h131,h⟩ | ⟨h131,h⟩
  ·rcases qb h with ⟨h132,h⟩ | ⟨h132,h⟩
   ·rcases qb h with ⟨h133,h⟩ | ⟨h133,h⟩
    ·rcases qb h with ⟨h134,h⟩ | ⟨h134,h⟩
     ·cases h
      exact qq (st':=⟨[(0,.str a0,false),(8,.ptr 0 0,false),(46,.bool false,false)],[.iter a0 (s0 + (qn a0 s0).2)]⟩) (by simp only [go_sem,seval,jo,jj,jh,h130,jw h130,h131,h132,h133,h134] <;> rfl) (jb (Nat.le_refl _))
     ·cases h
      exact qq (st':=⟨[(0,.str a0,false),(8,.ptr 0 0,false),(46,.bool false,false)],[.iter a0 (s0 + (qn a0 s0).2)]⟩) (by simp only [go_sem,seval,jo,jj,jh,h130,jw h130,h131,h132,h133,h134] <;> rfl) (jb (Nat.le_refl _))
    ·cases h
     exact qq (st':=⟨[(0,.str a0,false),(8,.ptr 0 0,false),(46,.bool false,false)],[.iter a0 (s0 + (qn a0 s0).2)]⟩) (by simp only [go_sem,seval,jo,jj,jh,h130,jw h130,h131,h132,h133] <;> rfl) (jb (Nat.le_refl _))
   ·rcases qb h with ⟨h135,h⟩ | ⟨h135,h⟩
    ·rcases qb h with ⟨h136,h⟩ | ⟨h136,h⟩
     ·rcases qb h with ⟨h137,h⟩ | ⟨h137,h⟩
      ·rcases qb h with ⟨h138,h⟩ | ⟨h138,h⟩
       ·cases h
        exact qq (st':=⟨[(0,.str a0,false),(8,.ptr 0 0,false),(46,.bool false,false)],[.iter a0 (s0 + (qn a0 s0).2)]⟩) (by simp only [go_sem,seval,jo,jj,jh,h130,jw h130,h131,h132,h135,h136,h137,h138] <;> rfl) (jb (Nat.le_refl _))
       ·rcases qb h with ⟨h139,h⟩ | ⟨h139,h⟩
        ·cases h
         exact qj (by simp only [go_sem,seval,jo,jj,jh,h130,jw h130,h131,h132,h135,h136,h137,h138,h139,zf] <;> rfl)
        ·cases h
         exact qq (st':=⟨[(0,.str a0,false),(8,.ptr 0 0,false),(46,.bool false,false)],[.iter a0 (s0 + (qn a0 s0).2)]⟩) (by simp only [go_sem,seval,jo,jj,jh,h130,jw h130,h131,h132,h135,h136,h137,h138,h139] <;> rfl) (jb (Nat.le_refl _))
      ·rcases qb h with ⟨h140,h⟩ | ⟨h140,h⟩
       ·cases h
        exact qq (st':=⟨[(0,.str a0,false),(8,.ptr 0 0,false),(46,.bool false,false)],[.iter a0 (s0 + (qn a0 s0).2)]⟩) (by simp only [go_sem,seval,jo,jj,jh,h130,jw h130,h131,h132,h135,h136,h137,h140] <;> rfl) (jb (Nat.le_refl _))
       ·rcases qb h with ⟨h141,h⟩ | ⟨h141,h⟩
        ·cases h
         exact qj (by simp only [go_sem,seval,jo,jj,jh,h130,jw h130,h131,h132,h135,h136,h137,h140,h141,zf] <;> rfl)
        ·rcases qb h with ⟨h142,h⟩ | ⟨h142,h⟩
         ·cases h
          exact qq (st':=⟨[(0,.str a0,false),(8,.ptr 0 0,false),(46,.bool false,false)],[.iter a0 (s0 + (qn a0 s0).2)]⟩) (by simp only [go_sem,seval,jo,jj,jh,h130,jw h130,h131,h132,h135,h136,h137,h140,h141,h142] <;> rfl) (jb (Nat.le_refl _))
         ·cases h
          exact qj (by simp only [go_sem,seval,jo,jj,jh,h130,jw h130,h131,h132,h135,h136,h137,h140,h141,h142,zf] <;> rfl)
     ·rcases qb h with ⟨h143,h⟩ | ⟨h143,h⟩
      ·cases h
       exact qq (st':=⟨[(0,.str a0,false),(8,.ptr 0 0,false),(46,.bool false,false)],[.iter a0 (s0 + (qn a0 s0).2)]⟩) (by simp only [go_sem,seval,jo,jj,jh,h130,jw h130,h131,h132,h135,h136,h143] <;> rfl) (jb (Nat.le_refl _))
      ·rcases qb h with ⟨h144,h⟩ | ⟨h144,h⟩
       ·cases h
        exact qj (by simp only [go_sem,seval,jo,jj,jh,h130,jw h130,h131,h132,h135,h136,h143,h144,zf] <;> rfl)
       ·rcases qb h with ⟨h145,h⟩ | ⟨h145,h⟩
        ·cases h
         exact qq (st':=⟨[(0,.str a0,false),(8,.ptr 0 0,false),(46,.bool false,false)],[.iter a0 (s0 + (qn a0 s0).2)]⟩) (by simp only [go_sem,seval,jo,jj,jh,h130,jw h130,h131,h132,h135,h136,h143,h144,h145] <;> rfl) (jb (Nat.le_refl _))
        ·cases h
         exact qj (by simp only [go_sem,seval,jo,jj,jh,h130,jw h130,h131,h132,h135,h136,h143,h144,h145,zf] <;> rfl)
    ·rcases qb h with ⟨h146,h⟩ | ⟨h146,h⟩
     ·rcases qb h with ⟨h147,h⟩ | ⟨h147,h⟩
      ·rcases qb h with ⟨h148,h⟩ | ⟨h148,h⟩
       ·cases h
        exact qj (by simp only [go_sem,seval,jo,jj,jh,h130,jw h130,h131,h132,h135,h146,h147,h148,zf] <;> rfl)
       ·cases h
        exact qq (st':=⟨[(0,.str a0,false),(8,.ptr 0 0,false),(46,.bool false,false)],[.iter a0 (s0 + (qn a0 s0).2)]⟩) (by simp only [go_sem,seval,jo,jj,jh,h130,jw h130,h131,h132,h135,h146,h147,h148] <;> rfl) (jb (Nat.le_refl _))
      ·rcases qb h with ⟨h149,h⟩ | ⟨h149,h⟩
       ·cases h
        exact qj (by simp only [go_sem,seval,jo,jj,jh,h130,jw h130,h131,h132,h135,h146,h147,h149,zf] <;> rfl)
       ·rcases qb h with ⟨h150,h⟩ | ⟨h150,h⟩
        ·cases h
         exact qq (st':=⟨[(0,.str a0,false),(8,.ptr 0 0,false),(46,.bool false,false)],[.iter a0 (s0 + (qn a0 s0).2)]⟩) (by simp only [go_sem,seval,jo,jj,jh,h130,jw h130,h131,h132,h135,h146,h147,h149,h150] <;> rfl) (jb (Nat.le_refl _))
        ·cases h
         exact qj (by simp only [go_sem,seval,jo,jj,jh,h130,jw h130,h131,h132,h135,h146,h147,h149,h150,zf] <;> rfl)
     ·rcases qb h with ⟨h151,h⟩ | ⟨h151,h⟩
      ·cases h
       exact qj (by simp only [go_sem,seval,jo,jj,jh,h130,jw h130,h131,h132,h135,h146,h151,zf] <;> rfl)
      ·rcases qb h with ⟨h152,h⟩ | ⟨h152,h⟩
       ·cases h
        exact qq (st':=⟨[(0,.str a0,false),(8,.ptr 0 0,false),(46,.bool false,false)],[.iter a0 (s0 + (qn a0 s0).2)]⟩) (by simp only [go_sem,seval,jo,jj,jh,h130,jw h130,h131,h132,h135,h146,h151,h152] <;> rfl) (jb (Nat.le_refl _))
       ·cases h
        exact qj (by simp only [go_sem,seval,jo,jj,jh,h130,jw h130,h131,h132,h135,h146,h151,h152,zf] <;> rfl)
  ·rcases qb h with ⟨h153,h⟩ | ⟨h153,h⟩
   ·rcases qb h with ⟨h154,h⟩ | ⟨h154,h⟩
    ·rcases qb h with ⟨h155,h⟩ | ⟨h155,h⟩
     ·rcases qb h with ⟨h156,h⟩ | ⟨h156,h⟩
      ·cases h
       exact qq (st':=⟨[(0,.str a0,false),(8,.ptr 0 0,false),(46,.bool false,false)],[.iter a0 (s0 + (qn a0 s0).2)]⟩) (by simp only [go_sem,seval,jo,jj,jh,h130,jw h130,h131,h153,h154,h155,h156] <;> rfl) (jb (Nat.le_refl _))
      ·rcases qb h with ⟨h157,h⟩ | ⟨h157,h⟩
       ·cases h
        exact qj (by simp only [go_sem,seval,jo,jj,jh,h130,jw h130,h131,h153,h154,h155,h156,h157,zf] <;> rfl)
       ·cases h
        exact qq (st':=⟨[(0,.str a0,false),(8,.ptr 0 0,false),(46,.bool false,false)],[.iter a0 (s0 + (qn a0 s0).2)]⟩) (by simp only [go_sem,seval,jo,jj,jh,h130,jw h130,h131,h153,h154,h155,h156,h157] <;> rfl) (jb (Nat.le_refl _))
     ·rcases qb h with ⟨h158,h⟩ | ⟨h158,h⟩
      ·cases h
       exact qq (st':=⟨[(0,.str a0,false),(8,.ptr 0 0,false),(46,.bool false,false)],[.iter a0 (s0 + (qn a0 s0).2)]⟩) (by simp only [go_sem,seval,jo,jj,jh,h130,jw h130,h131,h153,h154,h155,h158] <;> rfl) (jb (Nat.le_refl _))
      ·rcases qb h with ⟨h159,h⟩ | ⟨h159,h⟩
       ·cases h
        exact qj (by simp only [go_sem,seval,jo,jj,jh,h130,jw h130,h131,h153,h154,h155,h158,h159,zf] <;> rfl)
       ·rcases qb h with ⟨h160,h⟩ | ⟨h160,h⟩
        ·cases h
         exact qq (st':=⟨[(0,.str a0,false),(8,.ptr 0 0,false),(46,.bool false,false)],[.iter a0 (s0 + (qn a0 s0).2)]⟩) (by simp only [go_sem,seval,jo,jj,jh,h130,jw h130,h131,h153,h154,h155,h158,h159,h160] <;> rfl) (jb (Nat.le_refl _))
        ·cases h
         exact qj (by simp only [go_sem,seval,jo,jj,jh,h130,jw h130,h131,h153,h154,h155,h158,h159,h160,zf] <;> rfl)
    ·rcases qb h with ⟨h161,h⟩ | ⟨h161,h⟩
     ·cases h
      exact qq (st':=⟨[(0,.str a0,false),(8,.ptr 0 0,false),(46,.bool false,false)],[.iter a0 (s0 + (qn a0 s0).2)]⟩) (by simp only [go_sem,seval,jo,jj,jh,h130,jw h130,h131,h153,h154,h161] <;> rfl) (jb (Nat.le_refl _))
     ·rcases qb h with ⟨h162,h⟩ | ⟨h162,h⟩
      ·cases h
       exact qj (by simp only [go_sem,seval,jo,jj,jh,h130,jw h130,h131,h153,h154,h161,h162,zf] <;> rfl)
      ·rcases qb h with ⟨h163,h⟩ | ⟨h163,h⟩
       ·cases h
        exact qq (st':=⟨[(0,.str a0,false),(8,.ptr 0 0,false),(46,.bool false,false)],[.iter a0 (s0 + (qn a0 s0).2)]⟩) (by simp only [go_sem,seval,jo,jj,jh,h130,jw h130,h131,h153,h154,h161,h162,h163] <;> rfl) (jb (Nat.le_refl _))
       ·cases h
        exact qj (by simp only [go_sem,seval,jo,jj,jh,h130,jw h130,h131,h153,h154,h161,h162,h163,zf] <;> rfl)
   ·rcases qb h with ⟨h164,h⟩ | ⟨h164,h⟩
    ·rcases qb h with ⟨h165,h⟩ | ⟨h165,h⟩
     ·rcases qb h with ⟨h166,h⟩ | ⟨h166,h⟩
      ·cases h
       exact qj (by simp only [go_sem,seval,jo,jj,jh,h130,jw h130,h131,h153,h164,h165,h166,zf] <;> rfl)
      ·cases h
       exact qq (st':=⟨[(0,.str a0,false),(8,.ptr 0 0,false),(46,.bool false,false)],[.iter a0 (s0 + (qn a0 s0).2)]⟩) (by simp only [go_sem,seval,jo,jj,jh,h130,jw h130,h131,h153,h164,h165,h166] <;> rfl) (jb (Nat.le_refl _))
     ·rcases qb h with ⟨h167,h⟩ | ⟨h167,h⟩
      ·cases h
       exact qj (by simp only [go_sem,seval,jo,jj,jh,h130,jw h130,h131,h153,h164,h165,h167,zf] <;> rfl)
      ·rcases qb h with ⟨h168,h⟩ | ⟨h168,h⟩
       ·cases h
        exact qq (st':=⟨[(0,.str a0,false),(8,.ptr 0 0,false),(46,.bool false,false)],[.iter a0 (s0 + (qn a0 s0).2)]⟩) (by simp only [go_sem,seval,jo,jj,jh,h130,jw h130,h131,h153,h164,h165,h167,h168] <;> rfl) (jb (Nat.le_refl _))
       ·cases h
        exact qj (by simp only [go_sem,seval,jo,jj,jh,h130,jw h130,h131,h153,h164,h165,h167,h168,zf] <;> rfl)
    ·rcases qb h with ⟨h169,h⟩ | ⟨h169,h⟩
     ·cases h
      exact qj (by simp only [go_sem,seval,jo,jj,jh,h130,jw h130,h131,h153,h164,h169,zf] <;> rfl)
     ·rcases qb h with ⟨h170,h⟩ | ⟨h170,h⟩
      ·cases h
       exact qq (st':=⟨[(0,.str a0,false),(8,.ptr 0 0,false),(46,.bool false,false)],[.iter a0 (s0 + (qn a0 s0).2)]⟩) (by simp only [go_sem,seval,jo,jj,jh,h130,jw h130,h131,h153,h164,h169,h170] <;> rfl) (jb (Nat.le_refl _))
      ·cases h
       exact qj (by simp only [go_sem,seval,jo,jj,jh,h130,jw h130,h131,h153,h164,h169,h170,zf] <;> rfl)
 ·cases h
  exact qj (by simp only [go_sem,seval,jo,jj,jh,h130,q4i h130,zf] <;> rfl)
theorem je8 (a0:List UInt8):∀ (x:Option (Nat)) (r) (h:qn6 a0 x=some r),zj pr jo (jj a0) (zf a0) x r
 | none,r,h=>q9w a0 r h
 | some x,r,h=>jap a0 x r h
theorem q4t (a0:List UInt8) {s0:Option (Nat)} {d} (h:itO (qn6 a0) s0=some d):X pr (.loop jo) (jj a0 s0)=some (zf a0 d):=z7 (je8 a0) (fun d=>by rcases d with d|d <;> (intro hh; cases hh)) h
noncomputable def f107 (a0:List UInt8):Option Bool:=
 qe (itO (qn6 a0) none) fun d192=>match d192 with
  | .inl d194=>
   some false
  | .inr d195=>
   cond (decide (a0=[]))
    (some false)
    (some (decide ((a0.length:Int)≤24)))
theorem jq6 {a0:List UInt8} {r} (h:f107 a0=some r):qc pr (X pr) 107 [.str a0]=some (.bool r,false):=by
 unfold f107 at h
 obtain ⟨d192,h193,h⟩:=qa h
 rcases d192 with d194 | d195
 ·have wh193:X pr (.loop jo) ⟨[(0,.str a0,false),(8,.ptr 0 0,false)],[.iter a0 0]⟩=some (.ret,⟨[(2,.bool false,false)],[.iter a0 d194]⟩):=q4t a0 h193
  have hr:false=r:=Option.some.inj h
  subst hr
  refine qy rfl ?_ (fun _=>by first | rfl | simp only [go_sem,seval]) (by first | rfl | simp only [go_sem,seval])
  rw [qh (show pr.fns 107=some c107 from rfl) (by simp)]
  simp only [go_sem,seval,c107,wh193]
  exact ⟨_,rfl⟩
 ·have wh193:X pr (.loop jo) ⟨[(0,.str a0,false),(8,.ptr 0 0,false)],[.iter a0 0]⟩=some (.exit 0,⟨[(0,.str a0,false),(8,.ptr 0 0,false),(9,.tup [.bool false],false),(10,.bool false,false)],[.iter a0 d195]⟩):=q4t a0 h193
  rcases qb h with ⟨h196,h⟩ | ⟨h196,h⟩
  ·have hr:false=r:=Option.some.inj h
   subst hr
   refine qy rfl ?_ (fun _=>by first | rfl | simp only [go_sem,seval]) (by first | rfl | simp only [go_sem,seval])
   rw [qh (show pr.fns 107=some c107 from rfl) (by simp)]
   simp only [go_sem,seval,c107,wh193,h196]
   exact ⟨_,rfl⟩
  ·have hr:decide ((a0.length:Int)≤24)=r:=Option.some.inj h
   subst hr
   refine qy rfl ?_ (fun _=>by first | rfl | simp only [go_sem,seval]) (by first | rfl | simp only [go_sem,seval])
   rw [qh (show pr.fns 107=some c107 from rfl) (by simp)]
   simp only [go_sem,seval,c107,wh193,h196]
   exact ⟨_,rfl⟩
noncomputable def f194 (a0:Bool) (a1:Int):Option Int:=
 cond a0
  (some a1)
  (some 0)
theorem qau {a0:Bool} {a1:Int} {r} (h:f194 a0 a1=some r):qc pr (X pr) 194 [.bool a0,.int .i64 a1]=some (.int .i64 r,false):=by
 unfold f194 at h
 rcases qb h with ⟨h1,h⟩ | ⟨h1,h⟩
 ·have hr:a1=r:=Option.some.inj h
  subst hr
  refine qy rfl ?_ (fun _=>by first | rfl | simp only [go_sem,seval]) (by first | rfl | simp only [go_sem,seval])
  rw [qh (show pr.fns 194=some c194 from rfl) (by simp)]
  simp only [go_sem,seval,c194,h1]
  exact ⟨_,rfl⟩
 ·have hr:0=r:=Option.some.inj h
  subst hr
  refine qy rfl ?_ (fun _=>by first | rfl | simp only [go_sem,seval]) (by first | rfl | simp only [go_sem,seval])
  rw [qh (show pr.fns 194=some c194 from rfl) (by simp)]
  simp only [go_sem,seval,c194,h1]
  exact ⟨_,rfl⟩
noncomputable def f195 (a0:Int) (a1:Int) (a2:Int):Option Int:=
 cond (decide (a0 < a1))
  (qe (f194 true 3) fun v2=>
  some v2)
  (qe (f194 (decide (a2 < a0)) 3) fun v4=>
  some v4)
theorem qim {a0:Int} {a1:Int} {a2:Int} {r} (h:f195 a0 a1 a2=some r):qc pr (X pr) 195 [.int .i64 a0,.int .i64 a1,.int .i64 a2]=some (.int .i64 r,false):=by
 unfold f195 at h
 rcases qb h with ⟨h1,h⟩ | ⟨h1,h⟩
 ·obtain ⟨v2,h3,h⟩:=qa h
  have hr:v2=r:=Option.some.inj h
  subst hr
  refine qy rfl ?_ (fun _=>by first | rfl | simp only [go_sem,seval]) (by first | rfl | simp only [go_sem,seval])
  rw [qh (show pr.fns 195=some c195 from rfl) (by simp)]
  simp only [go_sem,seval,c195,h1,qau h3]
  exact ⟨_,rfl⟩
 ·obtain ⟨v4,h5,h⟩:=qa h
  have wh5:qc pr (X pr) 194 [.bool (decide (a2 < a0)),.int .i64 3]=some (.int .i64 v4,false):=qau h5
  have hr:v4=r:=Option.some.inj h
  subst hr
  refine qy rfl ?_ (fun _=>by first | rfl | simp only [go_sem,seval]) (by first | rfl | simp only [go_sem,seval])
  rw [qh (show pr.fns 195=some c195 from rfl) (by simp)]
  simp only [go_sem,seval,c195,h1,wh5]
  exact ⟨_,rfl⟩
noncomputable def qh7 (a0:Option (List Int)) (s0:Int):Option (Int ⊕ (Int ⊕ Int)):=
 cond (decide (s0 < ((a0.getD []).length:Int)))
  (qe (zw (a0.getD []) s0) fun v10=>
  cond (decide (v10=0))
   (some (.inl (qf .i64 (s0 + 1))))
   (some (.inr (.inl v10))))
  (some (.inr (.inr s0)))
def qk2 (a0:Option (List Int)) (s0:Int):ASt:=⟨[(5,sl 1 qo a0,false),(6,.int .i64 ((a0.getD []).length:Int),false),(7,.int .i64 s0,false)],[]⟩
def qpc (a0:Option (List Int)):Int ⊕ Int→ji × ASt
 | .inl d=>(.ret,⟨[(2,.int .i64 d,false)],[]⟩)
 | .inr d=>(.exit 0,⟨[(5,sl 1 qo a0,false),(6,.int .i64 ((a0.getD []).length:Int),false),(7,.int .i64 d,false),(8,.bool false,false)],[]⟩)
theorem jfa (a0:Option (List Int)) (s0:Int) (r) (h:qh7 a0 s0=some r):zj pr qf9 (qk2 a0) (qpc a0) s0 r:=by
 unfold qh7 at h
 rcases qb h with ⟨h9,h⟩ | ⟨h9,h⟩
 ·obtain ⟨v10,h11,h⟩:=qa h
  rcases qb h with ⟨h12,h⟩ | ⟨h12,h⟩
  ·cases h
   exact qq (st':=⟨[(5,sl 1 qo a0,false),(6,.int .i64 ((a0.getD []).length:Int),false),(7,.int .i64 (qf .i64 (s0 + 1)),false)],[]⟩) (by simp only [go_sem,seval,qf9,qk2,h9,q9 h11,h12] <;> rfl) (jb (Nat.le_refl _))
  ·cases h
   exact qj (by simp only [go_sem,seval,qf9,qk2,h9,q9 h11,h12,qpc] <;> rfl)
 ·cases h
  exact qj (by simp only [go_sem,seval,qf9,qk2,h9,qpc] <;> rfl)
theorem q32 (a0:Option (List Int)) {s0:Int} {d} (h:itO (qh7 a0) s0=some d):X pr (.loop qf9) (qk2 a0 s0)=some (qpc a0 d):=z7 (jfa a0) (fun d=>by rcases d with d|d <;> (intro hh; cases hh)) h
noncomputable def f171 (a0:Option (List Int)):Option Int:=
 qe (itO (qh7 a0) 0) fun d13=>match d13 with
  | .inl d15=>
   some d15
  | .inr d16=>
   some 0
theorem qog {a0:Option (List Int)} {r} (h:f171 a0=some r):qc pr (X pr) 171 [sl 1 qo a0]=some (.int .i64 r,false):=by
 unfold f171 at h
 obtain ⟨d13,h14,h⟩:=qa h
 rcases d13 with d15 | d16
 ·have wh14:X pr (.loop qf9) ⟨[(5,sl 1 qo a0,false),(6,.int .i64 ((a0.getD []).length:Int),false),(7,.int .i64 0,false)],[]⟩=some (.ret,⟨[(2,.int .i64 d15,false)],[]⟩):=q32 a0 h14
  have hr:d15=r:=Option.some.inj h
  subst hr
  refine qy rfl ?_ (fun _=>by first | rfl | simp only [go_sem,seval]) (by first | rfl | simp only [go_sem,seval])
  rw [qh (show pr.fns 171=some c171 from rfl) (by simp)]
  simp only [go_sem,seval,c171,wh14]
  exact ⟨_,rfl⟩
 ·have wh14:X pr (.loop qf9) ⟨[(5,sl 1 qo a0,false),(6,.int .i64 ((a0.getD []).length:Int),false),(7,.int .i64 0,false)],[]⟩=some (.exit 0,⟨[(5,sl 1 qo a0,false),(6,.int .i64 ((a0.getD []).length:Int),false),(7,.int .i64 d16,false),(8,.bool false,false)],[]⟩):=q32 a0 h14
  have hr:0=r:=Option.some.inj h
  subst hr
  refine qy rfl ?_ (fun _=>by first | rfl | simp only [go_sem,seval]) (by first | rfl | simp only [go_sem,seval])
  rw [qh (show pr.fns 171=some c171 from rfl) (by simp)]
  simp only [go_sem,seval,c171,wh14]
  exact ⟨_,rfl⟩
noncomputable def f172 (a0:Int):Option Int:=
 qe (f195 a0 1 8) fun v1=>
 some v1
theorem jfz {a0:Int} {r} (h:f172 a0=some r):qc pr (X pr) 172 [.int .i64 a0]=some (.int .i64 r,false):=by
 unfold f172 at h
 obtain ⟨v1,h2,h⟩:=qa h
 have hr:v1=r:=Option.some.inj h
 subst hr
 refine qy rfl ?_ (fun _=>by first | rfl | simp only [go_sem,seval]) (by first | rfl | simp only [go_sem,seval])
 rw [qh (show pr.fns 172=some c172 from rfl) (by simp)]
 simp only [go_sem,seval,c172,qim h2]
 exact ⟨_,rfl⟩
noncomputable def f122 (a0:Int):Option Int:=
 qe (f109 a0 1 8) fun v1=>
 some v1
theorem jec {a0:Int} {r} (h:f122 a0=some r):qc pr (X pr) 122 [.int .i64 a0]=some (.int .i64 r,false):=by
 unfold f122 at h
 obtain ⟨v1,h2,h⟩:=qa h
 have hr:v1=r:=Option.some.inj h
 subst hr
 refine qy rfl ?_ (fun _=>by first | rfl | simp only [go_sem,seval]) (by first | rfl | simp only [go_sem,seval])
 rw [qh (show pr.fns 122=some c122 from rfl) (by simp)]
 simp only [go_sem,seval,c122,qp4 h2]
 exact ⟨_,rfl⟩
noncomputable def qic (a0:Option (List GEl)) (s0:Int):Option (Int ⊕ ((Int × (List UInt8) × Int × Int) ⊕ (Int × (List UInt8) × Int × Int) ⊕ (Int × (List UInt8) × Int × Int) ⊕ (Int × (List UInt8) × Int × Int) ⊕ (Int × (List UInt8) × Int × Int) ⊕ Int)):=
 cond (decide (s0 < ((a0.getD []).length:Int)))
  (qe (zw (a0.getD []) s0) fun v151=>
  cond (decide (v151.kind=([98,108,111,99,107]:List UInt8)))
   (qe (f194 false 13) fun v154=>
   qe (f195 v151.a 0 8) fun v156=>
   qe (f195 v151.b 0 8) fun v158=>
   cond (decide (v151.a=0))
    (qe (f194 (decide (v151.b=0)) 6) fun v161=>
    qe (f171 (some [v154,v156,v158,v161])) fun v163=>
    cond (decide (v163=0))
     (some (.inl (qf .i64 (s0 + 1))))
     (some (.inr (.inl (v163,v151.kind,v151.a,v151.b)))))
    (qe (f194 false 6) fun v166=>
    qe (f171 (some [v154,v156,v158,v166])) fun v168=>
    cond (decide (v168=0))
     (some (.inl (qf .i64 (s0 + 1))))
     (some (.inr (.inl (v168,v151.kind,v151.a,v151.b))))))
   (cond (decide (v151.kind=([115,101,114,105,101,115]:List UInt8)))
    (qe (f194 false 13) fun v172=>
    qe (f195 v151.a 0 8) fun v174=>
    qe (f195 v151.b 0 8) fun v176=>
    qe (f194 false 6) fun v178=>
    qe (f171 (some [v172,v174,v176,v178])) fun v180=>
    cond (decide (v180=0))
     (some (.inl (qf .i64 (s0 + 1))))
     (some (.inr (.inr (.inl (v180,v151.kind,v151.a,v151.b))))))
    (cond (decide (v151.kind=([115,104,117,110,116]:List UInt8)))
     (qe (f194 false 13) fun v184=>
     qe (f195 v151.a 0 8) fun v186=>
     qe (f195 v151.b 0 8) fun v188=>
     qe (f194 false 6) fun v190=>
     qe (f171 (some [v184,v186,v188,v190])) fun v192=>
     cond (decide (v192=0))
      (some (.inl (qf .i64 (s0 + 1))))
      (some (.inr (.inr (.inr (.inl (v192,v151.kind,v151.a,v151.b)))))))
     (cond (decide (v151.kind=([116,114,97,112]:List UInt8)))
      (qe (f194 false 13) fun v196=>
      qe (f195 v151.a 0 8) fun v198=>
      qe (f195 v151.b 0 8) fun v200=>
      cond (decide (v151.a=0))
       (qe (f194 (decide (v151.b=0)) 6) fun v203=>
       qe (f171 (some [v196,v198,v200,v203])) fun v205=>
       cond (decide (v205=0))
        (some (.inl (qf .i64 (s0 + 1))))
        (some (.inr (.inr (.inr (.inr (.inl (v205,v151.kind,v151.a,v151.b))))))))
       (qe (f194 false 6) fun v208=>
       qe (f171 (some [v196,v198,v200,v208])) fun v210=>
       cond (decide (v210=0))
        (some (.inl (qf .i64 (s0 + 1))))
        (some (.inr (.inr (.inr (.inr (.inl (v210,v151.kind,v151.a,v151.b)))))))))
      (qe (f194 true 13) fun v213=>
      qe (f195 v151.a 0 8) fun v215=>
      qe (f195 v151.b 0 8) fun v217=>
      qe (f194 false 6) fun v219=>
      qe (f171 (some [v213,v215,v217,v219])) fun v221=>
      cond (decide (v221=0))
       (some (.inl (qf .i64 (s0 + 1))))
       (some (.inr (.inr (.inr (.inr (.inr (.inl (v221,v151.kind,v151.a,v151.b)))))))))))))
  (some (.inr (.inr (.inr (.inr (.inr (.inr s0)))))))
def zx (a0:Option (List GEl)) (s0:Int):ASt:=⟨[(11,sl 3 vel a0,false),(12,.int .i64 ((a0.getD []).length:Int),false),(13,.int .i64 s0,false)],[]⟩
def qcy (a0:Option (List GEl)):(Int × (List UInt8) × Int × Int) ⊕ (Int × (List UInt8) × Int × Int) ⊕ (Int × (List UInt8) × Int × Int) ⊕ (Int × (List UInt8) × Int × Int) ⊕ (Int × (List UInt8) × Int × Int) ⊕ Int→ji × ASt
 | .inl d=>(.ret,⟨[(2,.int .i64 d.1,false)],[.cells [(.str d.2.1,false),(.int .i64 d.2.2.1,false),(.int .i64 d.2.2.2,false)],.map zd,.cells [(.str ([116,114,97,112]:List UInt8),false),(.bool true,false),(.fn (.func 218) [] [],false)]]⟩)
 | .inr (.inl d)=>(.ret,⟨[(2,.int .i64 d.1,false)],[.cells [(.str d.2.1,false),(.int .i64 d.2.2.1,false),(.int .i64 d.2.2.2,false)],.map zd,.cells [(.str ([115,104,117,110,116]:List UInt8),false),(.bool false,false),(.fn (.func 219) [] [],false)]]⟩)
 | .inr (.inr (.inl d))=>(.ret,⟨[(2,.int .i64 d.1,false)],[.cells [(.str d.2.1,false),(.int .i64 d.2.2.1,false),(.int .i64 d.2.2.2,false)],.map zd,.cells [(.str ([115,101,114,105,101,115]:List UInt8),false),(.bool false,false),(.fn (.func 220) [] [],false)]]⟩)
 | .inr (.inr (.inr (.inl d)))=>(.ret,⟨[(2,.int .i64 d.1,false)],[.cells [(.str d.2.1,false),(.int .i64 d.2.2.1,false),(.int .i64 d.2.2.2,false)],.map zd,.cells [(.str ([98,108,111,99,107]:List UInt8),false),(.bool true,false),(.fn (.func 221) [] [],false)]]⟩)
 | .inr (.inr (.inr (.inr (.inl d))))=>(.ret,⟨[(2,.int .i64 d.1,false)],[.cells [(.str d.2.1,false),(.int .i64 d.2.2.1,false),(.int .i64 d.2.2.2,false)],.map zd,.cells [(.str [],false),(.bool false,false),(.nilfn,false)]]⟩)
 | .inr (.inr (.inr (.inr (.inr d))))=>(.exit 0,⟨[(11,sl 3 vel a0,false),(12,.int .i64 ((a0.getD []).length:Int),false),(13,.int .i64 d,false),(14,.bool false,false)],[]⟩)
theorem jdn (a0:Option (List GEl)) (s0:Int) (r) (h:qic a0 s0=some r):zj pr kw (zx a0) (qcy a0) s0 r:=by
 unfold qic at h
 rcases qb h with ⟨h150,h⟩ | ⟨h150,h⟩
 ·obtain ⟨v151,h152,h⟩:=qa h
  rcases qb h with ⟨h153,h⟩ | ⟨h153,h⟩
  ·obtain ⟨v154,h155,h⟩:=qa h
   obtain ⟨v156,h157,h⟩:=qa h
   have wh157:qc pr (X pr) 195 [.int .i64 v151.a,.int .i64 0,.int .i64 8]=some (.int .i64 v156,false):=qim h157
   obtain ⟨v158,h159,h⟩:=qa h
   have wh159:qc pr (X pr) 195 [.int .i64 v151.b,.int .i64 0,.int .i64 8]=some (.int .i64 v158,false):=qim h159
   rcases qb h with ⟨h160,h⟩ | ⟨h160,h⟩
   ·obtain ⟨v161,h162,h⟩:=qa h
    have wh162:qc pr (X pr) 194 [.bool (decide (v151.b=0)),.int .i64 6]=some (.int .i64 v161,false):=qau h162
    obtain ⟨v163,h164,h⟩:=qa h
    have wh164:qc pr (X pr) 171 [.list false 1 [.int .i64 v154,.int .i64 v156,.int .i64 v158,.int .i64 v161]]=some (.int .i64 v163,false):=qog h164
    rcases qb h with ⟨h165,h⟩ | ⟨h165,h⟩
    ·cases h
     exact qq (st':=⟨[(11,sl 3 vel a0,false),(12,.int .i64 ((a0.getD []).length:Int),false),(13,.int .i64 (qf .i64 (s0 + 1)),false)],[]++[.cells [(.str v151.kind,false),(.int .i64 v151.a,false),(.int .i64 v151.b,false)],.map zd,.cells [(.str ([116,114,97,112]:List UInt8),false),(.bool true,false),(.fn (.func 218) [] [],false)]]⟩) (by simp only [go_sem,seval,kw,zx,h150,q9 h152,h153,qq4 h153,qau h155,wh157,wh159,h160,wh162,wh164,h165] <;> rfl) (zz rfl rfl (by first | simp only [go_sem,seval,zx] | rfl) (by first | simp only [go_sem,seval,zx] | rfl))
    ·cases h
     exact qj (by simp only [go_sem,seval,kw,zx,h150,q9 h152,h153,qq4 h153,qau h155,wh157,wh159,h160,wh162,wh164,h165,qcy] <;> rfl)
   ·obtain ⟨v166,h167,h⟩:=qa h
    obtain ⟨v168,h169,h⟩:=qa h
    have wh169:qc pr (X pr) 171 [.list false 1 [.int .i64 v154,.int .i64 v156,.int .i64 v158,.int .i64 v166]]=some (.int .i64 v168,false):=qog h169
    rcases qb h with ⟨h170,h⟩ | ⟨h170,h⟩
    ·cases h
     exact qq (st':=⟨[(11,sl 3 vel a0,false),(12,.int .i64 ((a0.getD []).length:Int),false),(13,.int .i64 (qf .i64 (s0 + 1)),false)],[]++[.cells [(.str v151.kind,false),(.int .i64 v151.a,false),(.int .i64 v151.b,false)],.map zd,.cells [(.str ([116,114,97,112]:List UInt8),false),(.bool true,false),(.fn (.func 218) [] [],false)]]⟩) (by simp only [go_sem,seval,kw,zx,h150,q9 h152,h153,qq4 h153,qau h155,wh157,wh159,h160,qau h167,wh169,h170] <;> rfl) (zz rfl rfl (by first | simp only [go_sem,seval,zx] | rfl) (by first | simp only [go_sem,seval,zx] | rfl))
    ·cases h
     exact qj (by simp only [go_sem,seval,kw,zx,h150,q9 h152,h153,qq4 h153,qau h155,wh157,wh159,h160,qau h167,wh169,h170,qcy] <;> rfl)
  ·rcases qb h with ⟨h171,h⟩ | ⟨h171,h⟩
   ·obtain ⟨v172,h173,h⟩:=qa h
    obtain ⟨v174,h175,h⟩:=qa h
    have wh175:qc pr (X pr) 195 [.int .i64 v151.a,.int .i64 0,.int .i64 8]=some (.int .i64 v174,false):=qim h175
    obtain ⟨v176,h177,h⟩:=qa h
    have wh177:qc pr (X pr) 195 [.int .i64 v151.b,.int .i64 0,.int .i64 8]=some (.int .i64 v176,false):=qim h177
    obtain ⟨v178,h179,h⟩:=qa h
    obtain ⟨v180,h181,h⟩:=qa h
    have wh181:qc pr (X pr) 171 [.list false 1 [.int .i64 v172,.int .i64 v174,.int .i64 v176,.int .i64 v178]]=some (.int .i64 v180,false):=qog h181
    rcases qb h with ⟨h182,h⟩ | ⟨h182,h⟩
    ·cases h
     exact qq (st':=⟨[(11,sl 3 vel a0,false),(12,.int .i64 ((a0.getD []).length:Int),false),(13,.int .i64 (qf .i64 (s0 + 1)),false)],[]++[.cells [(.str v151.kind,false),(.int .i64 v151.a,false),(.int .i64 v151.b,false)],.map zd,.cells [(.str ([115,104,117,110,116]:List UInt8),false),(.bool false,false),(.fn (.func 219) [] [],false)]]⟩) (by simp only [go_sem,seval,kw,zx,h150,q9 h152,h153,h171,q2c h153 h171,qau h173,wh175,wh177,qau h179,wh181,h182] <;> rfl) (zz rfl rfl (by first | simp only [go_sem,seval,zx] | rfl) (by first | simp only [go_sem,seval,zx] | rfl))
    ·cases h
     exact qj (by simp only [go_sem,seval,kw,zx,h150,q9 h152,h153,h171,q2c h153 h171,qau h173,wh175,wh177,qau h179,wh181,h182,qcy] <;> rfl)
   ·rcases qb h with ⟨h183,h⟩ | ⟨h183,h⟩
    ·obtain ⟨v184,h185,h⟩:=qa h
     obtain ⟨v186,h187,h⟩:=qa h
     have wh187:qc pr (X pr) 195 [.int .i64 v151.a,.int .i64 0,.int .i64 8]=some (.int .i64 v186,false):=qim h187
     obtain ⟨v188,h189,h⟩:=qa h
     have wh189:qc pr (X pr) 195 [.int .i64 v151.b,.int .i64 0,.int .i64 8]=some (.int .i64 v188,false):=qim h189
     obtain ⟨v190,h191,h⟩:=qa h
     obtain ⟨v192,h193,h⟩:=qa h
     have wh193:qc pr (X pr) 171 [.list false 1 [.int .i64 v184,.int .i64 v186,.int .i64 v188,.int .i64 v190]]=some (.int .i64 v192,false):=qog h193
     rcases qb h with ⟨h194,h⟩ | ⟨h194,h⟩
     ·cases h
      exact qq (st':=⟨[(11,sl 3 vel a0,false),(12,.int .i64 ((a0.getD []).length:Int),false),(13,.int .i64 (qf .i64 (s0 + 1)),false)],[]++[.cells [(.str v151.kind,false),(.int .i64 v151.a,false),(.int .i64 v151.b,false)],.map zd,.cells [(.str ([115,101,114,105,101,115]:List UInt8),false),(.bool false,false),(.fn (.func 220) [] [],false)]]⟩) (by simp only [go_sem,seval,kw,zx,h150,q9 h152,h153,h171,h183,q2w h153 h171 h183,qau h185,wh187,wh189,qau h191,wh193,h194] <;> rfl) (zz rfl rfl (by first | simp only [go_sem,seval,zx] | rfl) (by first | simp only [go_sem,seval,zx] | rfl))
     ·cases h
      exact qj (by simp only [go_sem,seval,kw,zx,h150,q9 h152,h153,h171,h183,q2w h153 h171 h183,qau h185,wh187,wh189,qau h191,wh193,h194,qcy] <;> rfl)
    ·rcases qb h with ⟨h195,h⟩ | ⟨h195,h⟩
     ·obtain ⟨v196,h197,h⟩:=qa h
      obtain ⟨v198,h199,h⟩:=qa h
      have wh199:qc pr (X pr) 195 [.int .i64 v151.a,.int .i64 0,.int .i64 8]=some (.int .i64 v198,false):=qim h199
      obtain ⟨v200,h201,h⟩:=qa h
      have wh201:qc pr (X pr) 195 [.int .i64 v151.b,.int .i64 0,.int .i64 8]=some (.int .i64 v200,false):=qim h201
      rcases qb h with ⟨h202,h⟩ | ⟨h202,h⟩
      ·obtain ⟨v203,h204,h⟩:=qa h
       have wh204:qc pr (X pr) 194 [.bool (decide (v151.b=0)),.int .i64 6]=some (.int .i64 v203,false):=qau h204
       obtain ⟨v205,h206,h⟩:=qa h
       have wh206:qc pr (X pr) 171 [.list false 1 [.int .i64 v196,.int .i64 v198,.int .i64 v200,.int .i64 v203]]=some (.int .i64 v205,false):=qog h206
       rcases qb h with ⟨h207,h⟩ | ⟨h207,h⟩
       ·cases h
        exact qq (st':=⟨[(11,sl 3 vel a0,false),(12,.int .i64 ((a0.getD []).length:Int),false),(13,.int .i64 (qf .i64 (s0 + 1)),false)],[]++[.cells [(.str v151.kind,false),(.int .i64 v151.a,false),(.int .i64 v151.b,false)],.map zd,.cells [(.str ([98,108,111,99,107]:List UInt8),false),(.bool true,false),(.fn (.func 221) [] [],false)]]⟩) (by simp only [go_sem,seval,kw,zx,h150,q9 h152,h153,h171,h183,h195,qrg h153 h171 h183 h195,qau h197,wh199,wh201,h202,wh204,wh206,h207] <;> rfl) (zz rfl rfl (by first | simp only [go_sem,seval,zx] | rfl) (by first | simp only [go_sem,seval,zx] | rfl))
       ·cases h
        exact qj (by simp only [go_sem,seval,kw,zx,h150,q9 h152,h153,h171,h183,h195,qrg h153 h171 h183 h195,qau h197,wh199,wh201,h202,wh204,wh206,h207,qcy] <;> rfl)
      ·obtain ⟨v208,h209,h⟩:=qa h
       obtain ⟨v210,h211,h⟩:=qa h
       have wh211:qc pr (X pr) 171 [.list false 1 [.int .i64 v196,.int .i64 v198,.int .i64 v200,.int .i64 v208]]=some (.int .i64 v210,false):=qog h211
       rcases qb h with ⟨h212,h⟩ | ⟨h212,h⟩
       ·cases h
        exact qq (st':=⟨[(11,sl 3 vel a0,false),(12,.int .i64 ((a0.getD []).length:Int),false),(13,.int .i64 (qf .i64 (s0 + 1)),false)],[]++[.cells [(.str v151.kind,false),(.int .i64 v151.a,false),(.int .i64 v151.b,false)],.map zd,.cells [(.str ([98,108,111,99,107]:List UInt8),false),(.bool true,false),(.fn (.func 221) [] [],false)]]⟩) (by simp only [go_sem,seval,kw,zx,h150,q9 h152,h153,h171,h183,h195,qrg h153 h171 h183 h195,qau h197,wh199,wh201,h202,qau h209,wh211,h212] <;> rfl) (zz rfl rfl (by first | simp only [go_sem,seval,zx] | rfl) (by first | simp only [go_sem,seval,zx] | rfl))
       ·cases h
        exact qj (by simp only [go_sem,seval,kw,zx,h150,q9 h152,h153,h171,h183,h195,qrg h153 h171 h183 h195,qau h197,wh199,wh201,h202,qau h209,wh211,h212,qcy] <;> rfl)
     ·obtain ⟨v213,h214,h⟩:=qa h
      obtain ⟨v215,h216,h⟩:=qa h
      have wh216:qc pr (X pr) 195 [.int .i64 v151.a,.int .i64 0,.int .i64 8]=some (.int .i64 v215,false):=qim h216
      obtain ⟨v217,h218,h⟩:=qa h
      have wh218:qc pr (X pr) 195 [.int .i64 v151.b,.int .i64 0,.int .i64 8]=some (.int .i64 v217,false):=qim h218
      obtain ⟨v219,h220,h⟩:=qa h
      obtain ⟨v221,h222,h⟩:=qa h
      have wh222:qc pr (X pr) 171 [.list false 1 [.int .i64 v213,.int .i64 v215,.int .i64 v217,.int .i64 v219]]=some (.int .i64 v221,false):=qog h222
      rcases qb h with ⟨h223,h⟩ | ⟨h223,h⟩
      ·cases h
       exact qq (st':=⟨[(11,sl 3 vel a0,false),(12,.int .i64 ((a0.getD []).length:Int),false),(13,.int .i64 (qf .i64 (s0 + 1)),false)],[]++[.cells [(.str v151.kind,false),(.int .i64 v151.a,false),(.int .i64 v151.b,false)],.map zd,.cells [(.str [],false),(.bool false,false),(.nilfn,false)]]⟩) (by simp only [go_sem,seval,kw,zx,h150,q9 h152,h153,h171,h183,h195,q9b h153 h171 h183 h195,qau h214,wh216,wh218,qau h220,wh222,h223] <;> rfl) (zz rfl rfl (by first | simp only [go_sem,seval,zx] | rfl) (by first | simp only [go_sem,seval,zx] | rfl))
      ·cases h
       exact qj (by simp only [go_sem,seval,kw,zx,h150,q9 h152,h153,h171,h183,h195,q9b h153 h171 h183 h195,qau h214,wh216,wh218,qau h220,wh222,h223,qcy] <;> rfl)
 ·cases h
  exact qj (by simp only [go_sem,seval,kw,zx,h150,qcy] <;> rfl)
theorem qkt (a0:Option (List GEl)) {s0:Int} {d} (h:itO (qic a0) s0=some d):X pr (.loop kw) (zx a0 s0)=some (qcy a0 d):=z7 (jdn a0) (fun d=>by rcases d with d|d|d|d|d|d <;> (intro hh; cases hh)) h
noncomputable def f158 (a0:Option (List GEl)):Option Int:=
 cond (decide (5 < ((a0.getD []).length:Int)))
  (some 5)
  (qe (itO (qic a0) 0) fun d224=>match d224 with
   | .inl d226=>
    some d226.1
   | .inr (.inl d227)=>
    some d227.1
   | .inr (.inr (.inl d228))=>
    some d228.1
   | .inr (.inr (.inr (.inl d229)))=>
    some d229.1
   | .inr (.inr (.inr (.inr (.inl d230))))=>
    some d230.1
   | .inr (.inr (.inr (.inr (.inr d231))))=>
    some 0)
theorem q2s {a0:Option (List GEl)} {r} (h:f158 a0=some r):qc pr (X pr) 158 [sl 3 vel a0]=some (.int .i64 r,false):=by
 unfold f158 at h
 rcases qb h with ⟨h1,h⟩ | ⟨h1,h⟩
 ·have hr:5=r:=Option.some.inj h
  subst hr
  refine qy rfl ?_ (fun _=>by first | rfl | simp only [go_sem,seval]) (by first | rfl | simp only [go_sem,seval])
  rw [qh (show pr.fns 158=some c158 from rfl) (by simp)]
  simp only [go_sem,seval,c158,h1]
  exact ⟨_,rfl⟩
 ·obtain ⟨d224,h225,h⟩:=qa h
  rcases d224 with d226 | d227 | d228 | d229 | d230 | d231
  ·have wh225:X pr (.loop kw) ⟨[(11,sl 3 vel a0,false),(12,.int .i64 ((a0.getD []).length:Int),false),(13,.int .i64 0,false)],[]⟩=some (.ret,⟨[(2,.int .i64 d226.1,false)],[.cells [(.str d226.2.1,false),(.int .i64 d226.2.2.1,false),(.int .i64 d226.2.2.2,false)],.map zd,.cells [(.str ([116,114,97,112]:List UInt8),false),(.bool true,false),(.fn (.func 218) [] [],false)]]⟩):=qkt a0 h225
   have hr:d226.1=r:=Option.some.inj h
   subst hr
   refine qy rfl ?_ (fun _=>by first | rfl | simp only [go_sem,seval]) (by first | rfl | simp only [go_sem,seval])
   rw [qh (show pr.fns 158=some c158 from rfl) (by simp)]
   simp only [go_sem,seval,c158,h1,wh225]
   exact ⟨_,rfl⟩
  ·have wh225:X pr (.loop kw) ⟨[(11,sl 3 vel a0,false),(12,.int .i64 ((a0.getD []).length:Int),false),(13,.int .i64 0,false)],[]⟩=some (.ret,⟨[(2,.int .i64 d227.1,false)],[.cells [(.str d227.2.1,false),(.int .i64 d227.2.2.1,false),(.int .i64 d227.2.2.2,false)],.map zd,.cells [(.str ([115,104,117,110,116]:List UInt8),false),(.bool false,false),(.fn (.func 219) [] [],false)]]⟩):=qkt a0 h225
   have hr:d227.1=r:=Option.some.inj h
   subst hr
   refine qy rfl ?_ (fun _=>by first | rfl | simp only [go_sem,seval]) (by first | rfl | simp only [go_sem,seval])
   rw [qh (show pr.fns 158=some c158 from rfl) (by simp)]
   simp only [go_sem,seval,c158,h1,wh225]
   exact ⟨_,rfl⟩
  ·have wh225:X pr (.loop kw) ⟨[(11,sl 3 vel a0,false),(12,.int .i64 ((a0.getD []).length:Int),false),(13,.int .i64 0,false)],[]⟩=some (.ret,⟨[(2,.int .i64 d228.1,false)],[.cells [(.str d228.2.1,false),(.int .i64 d228.2.2.1,false),(.int .i64 d228.2.2.2,false)],.map zd,.cells [(.str ([115,101,114,105,101,115]:List UInt8),false),(.bool false,false),(.fn (.func 220) [] [],false)]]⟩):=qkt a0 h225
   have hr:d228.1=r:=Option.some.inj h
   subst hr
   refine qy rfl ?_ (fun _=>by first | rfl | simp only [go_sem,seval]) (by first | rfl | simp only [go_sem,seval])
   rw [qh (show pr.fns 158=some c158 from rfl) (by simp)]
   simp only [go_sem,seval,c158,h1,wh225]
   exact ⟨_,rfl⟩
  ·have wh225:X pr (.loop kw) ⟨[(11,sl 3 vel a0,false),(12,.int .i64 ((a0.getD []).length:Int),false),(13,.int .i64 0,false)],[]⟩=some (.ret,⟨[(2,.int .i64 d229.1,false)],[.cells [(.str d229.2.1,false),(.int .i64 d229.2.2.1,false),(.int .i64 d229.2.2.2,false)],.map zd,.cells [(.str ([98,108,111,99,107]:List UInt8),false),(.bool true,false),(.fn (.func 221) [] [],false)]]⟩):=qkt a0 h225
   have hr:d229.1=r:=Option.some.inj h
   subst hr
   refine qy rfl ?_ (fun _=>by first | rfl | simp only [go_sem,seval]) (by first | rfl | simp only [go_sem,seval])
   rw [qh (show pr.fns 158=some c158 from rfl) (by simp)]
   simp only [go_sem,seval,c158,h1,wh225]
   exact ⟨_,rfl⟩
  ·have wh225:X pr (.loop kw) ⟨[(11,sl 3 vel a0,false),(12,.int .i64 ((a0.getD []).length:Int),false),(13,.int .i64 0,false)],[]⟩=some (.ret,⟨[(2,.int .i64 d230.1,false)],[.cells [(.str d230.2.1,false),(.int .i64 d230.2.2.1,false),(.int .i64 d230.2.2.2,false)],.map zd,.cells [(.str [],false),(.bool false,false),(.nilfn,false)]]⟩):=qkt a0 h225
   have hr:d230.1=r:=Option.some.inj h
   subst hr
   refine qy rfl ?_ (fun _=>by first | rfl | simp only [go_sem,seval]) (by first | rfl | simp only [go_sem,seval])
   rw [qh (show pr.fns 158=some c158 from rfl) (by simp)]
   simp only [go_sem,seval,c158,h1,wh225]
   exact ⟨_,rfl⟩
  ·have wh225:X pr (.loop kw) ⟨[(11,sl 3 vel a0,false),(12,.int .i64 ((a0.getD []).length:Int),false),(13,.int .i64 0,false)],[]⟩=some (.exit 0,⟨[(11,sl 3 vel a0,false),(12,.int .i64 ((a0.getD []).length:Int),false),(13,.int .i64 d231,false),(14,.bool false,false)],[]⟩):=qkt a0 h225
   have hr:0=r:=Option.some.inj h
   subst hr
   refine qy rfl ?_ (fun _=>by first | rfl | simp only [go_sem,seval]) (by first | rfl | simp only [go_sem,seval])
   rw [qh (show pr.fns 158=some c158 from rfl) (by simp)]
   simp only [go_sem,seval,c158,h1,wh225]
   exact ⟨_,rfl⟩
noncomputable def f108 (a0:GEl):Option Int:=
 qe (f158 (some [a0])) fun v1=>
 some v1
theorem jr5 {a0:GEl} {r} (h:f108 a0=some r):qc pr (X pr) 108 [.agg [.str a0.kind,.int .i64 a0.a,.int .i64 a0.b]]=some (.int .i64 r,false):=by
 unfold f108 at h
 obtain ⟨v1,h2,h⟩:=qa h
 have wh2:qc pr (X pr) 158 [.list false 3 [.agg [.str a0.kind,.int .i64 a0.a,.int .i64 a0.b]]]=some (.int .i64 v1,false):=q2s h2
 have hr:v1=r:=Option.some.inj h
 subst hr
 refine qy rfl ?_ (fun _=>by first | rfl | simp only [go_sem,seval]) (by first | rfl | simp only [go_sem,seval])
 rw [qh (show pr.fns 108=some c108 from rfl) (by simp)]
 simp only [go_sem,seval,c108,wh2]
 exact ⟨_,rfl⟩
noncomputable def qvf (a0:GEl):Option Int:=
 qe (f158 (some [a0])) fun v1=>
 some v1
theorem jlc (hp:qk) {a0:GEl} {r} (h:qvf a0=some r):jl pr (X pr) 108 [.agg [.str a0.kind,.int .i64 a0.a,.int .i64 a0.b]] hp=some (.int .i64 r,false,hp):=by
 unfold qvf at h
 obtain ⟨v1,h2,h⟩:=qa h
 have wh2:qc pr (X pr) 158 [.list false 3 [.agg [.str a0.kind,.int .i64 a0.a,.int .i64 a0.b]]]=some (.int .i64 v1,false):=q2s h2
 have hr:v1=r:=Option.some.inj h
 subst hr
 rw [qh (show pr.fns 108=some c108 from rfl) (by simp)]
 simp only [go_sem,seval,c108,wh2] <;> rfl
noncomputable def f155 (a0:Int) (a1:Int):Option GRat:=
 some (⟨qf .i64 (a0 - a1),qf .i64 (a0 + a1)⟩)
theorem jfk {a0:Int} {a1:Int} {r} (h:f155 a0 a1=some r):qc pr (X pr) 155 [.int .i64 a0,.int .i64 a1]=some (.agg [.int .i64 r.num,.int .i64 r.den],false):=by
 unfold f155 at h
 have hr:⟨qf .i64 (a0 - a1),qf .i64 (a0 + a1)⟩=r:=Option.some.inj h
 subst hr
 refine qy rfl ?_ (fun _=>by first | rfl | simp only [go_sem,seval]) (by first | rfl | simp only [go_sem,seval])
 rw [qh (show pr.fns 155=some c155 from rfl) (by simp)]
 simp only [go_sem,seval,c155]
 exact ⟨_,rfl⟩
noncomputable def qhv (a0:GRat) (s0:(Option (List Int)) × Int × Bool):Option (((Option (List Int)) × Int × Bool) ⊕ (((Option (List Int)) × Bool × Int))):=
 cond (decide (s0.2.1≤a0.den))
  (cond s0.2.2
   (qe (apO s0.1 [s0.2.1]) fun v13=>
   some (.inl (v13,qf .i64 (s0.2.1 + 1),true)))
   (cond s0.1.isNone
    (qe (apO s0.1 [s0.2.1]) fun v16=>
    some (.inl (v16,qf .i64 (s0.2.1 + 1),true)))
    (none)))
  (some (.inr (s0.1,s0.2.2,s0.2.1)))
def qkj (a0:GRat) (s0:(Option (List Int)) × Int × Bool):ASt:=⟨[(2,.vptr (.agg [.int .i64 a0.num,.int .i64 a0.den]),false),(5,sl 1 qo s0.1,s0.2.2),(6,.int .i64 s0.2.1,false)],[]⟩
def qs0 (a0:GRat) (d:((Option (List Int)) × Bool × Int)):ji × ASt:=(.exit 0,⟨[(2,.vptr (.agg [.int .i64 a0.num,.int .i64 a0.den]),false),(5,sl 1 qo d.1,d.2.1),(6,.int .i64 d.2.2,false),(28,.bool false,false)],[]⟩)
theorem jci (a0:GRat) (s0:(Option (List Int)) × Int × Bool) (r) (h:qhv a0 s0=some r):zj pr qig (qkj a0) (qs0 a0) s0 r:=by
 unfold qhv at h
 rcases qb h with ⟨h11,h⟩ | ⟨h11,h⟩
 ·rcases qb h with ⟨h12,h⟩ | ⟨h12,h⟩
  ·obtain ⟨v13,h14,h⟩:=qa h
   cases h
   exact qq (st':=⟨[(2,.vptr (.agg [.int .i64 a0.num,.int .i64 a0.den]),false),(5,sl 1 qo v13,true),(6,.int .i64 (qf .i64 (s0.2.1 + 1)),false)],[]⟩) (by simp only [go_sem,seval,qig,qkj,h11,h12,qrd h14] <;> rfl) (jb (Nat.le_refl _))
  ·rcases qb h with ⟨h15,h⟩ | ⟨h15,h⟩
   ·obtain ⟨v16,h17,h⟩:=qa h
    cases h
    exact qq (st':=⟨[(2,.vptr (.agg [.int .i64 a0.num,.int .i64 a0.den]),false),(5,sl 1 qo v16,true),(6,.int .i64 (qf .i64 (s0.2.1 + 1)),false)],[]⟩) (by simp only [go_sem,seval,qig,qkj,h11,h12,h15,qsf h17 h15] <;> rfl) (jb (Nat.le_refl _))
   ·cases h
 ·cases h
  exact qj (by simp only [go_sem,seval,qig,qkj,h11,qs0] <;> rfl)
theorem jc0 (a0:GRat) {s0:(Option (List Int)) × Int × Bool} {d} (h:itO (qhv a0) s0=some d):X pr (.loop qig) (qkj a0 s0)=some (qs0 a0 d):=z7 (jci a0) (fun d hh=>by cases hh) h
noncomputable def f156 (a0:GRat) (a1:Bool):Option ((Option (List Int)) × Bool):=
 cond (decide (a0.den=a0.num))
  (some (some [a0.num],true))
  (cond a1
   (some (some [a0.num,a0.den],true))
   (qe (itO (qhv a0) (none,a0.num,false)) fun d18=>
   some (d18.1,d18.2.1)))
theorem jc3 {a0:GRat} {a1:Bool} {r} (h:f156 a0 a1=some r):qc pr (X pr) 156 [.agg [.int .i64 a0.num,.int .i64 a0.den],.bool a1]=some (sl 1 qo r.1,r.2):=by
 unfold f156 at h
 rcases qb h with ⟨h1,h⟩ | ⟨h1,h⟩
 ·have hr:(some [a0.num],true)=r:=Option.some.inj h
  subst hr
  have this:∃ hh,jl pr (X pr) 156 [.agg [.int .i64 a0.num,.int .i64 a0.den],.bool a1] []=some (.list false 1 [.int .i64 a0.num],true,hh):=by
   rw [qh (show pr.fns 156=some c156 from rfl) (by simp)]
   simp only [go_sem,seval,c156,h1]
   exact ⟨_,rfl⟩
  obtain ⟨hh,this⟩:=this
  exact z6 rfl this (by first | rfl | simp only [go_sem,seval]) (by first | rfl | simp only [go_sem,seval]) (by first | rfl | simp only [go_sem,seval])
 ·rcases qb h with ⟨h2,h⟩ | ⟨h2,h⟩
  ·have hr:(some [a0.num,a0.den],true)=r:=Option.some.inj h
   subst hr
   have this:∃ hh,jl pr (X pr) 156 [.agg [.int .i64 a0.num,.int .i64 a0.den],.bool a1] []=some (.list false 1 [.int .i64 a0.num,.int .i64 a0.den],true,hh):=by
    rw [qh (show pr.fns 156=some c156 from rfl) (by simp)]
    simp only [go_sem,seval,c156,h1,h2]
    exact ⟨_,rfl⟩
   obtain ⟨hh,this⟩:=this
   exact z6 rfl this (by first | rfl | simp only [go_sem,seval]) (by first | rfl | simp only [go_sem,seval]) (by first | rfl | simp only [go_sem,seval])
  ·obtain ⟨d18,h19,h⟩:=qa h
   have wh19:X pr (.loop qig) ⟨[(2,.vptr (.agg [.int .i64 a0.num,.int .i64 a0.den]),false),(5,.list true 0 [],false),(6,.int .i64 a0.num,false)],[]⟩=some (.exit 0,⟨[(2,.vptr (.agg [.int .i64 a0.num,.int .i64 a0.den]),false),(5,sl 1 qo d18.1,d18.2.1),(6,.int .i64 d18.2.2,false),(28,.bool false,false)],[]⟩):=jc0 a0 h19
   have hr:(d18.1,d18.2.1)=r:=Option.some.inj h
   subst hr
   have this:∃ hh,jl pr (X pr) 156 [.agg [.int .i64 a0.num,.int .i64 a0.den],.bool a1] []=some (sl 1 qo d18.1,d18.2.1,hh):=by
    rw [qh (show pr.fns 156=some c156 from rfl) (by simp)]
    simp only [go_sem,seval,c156,h1,h2,wh19]
    exact ⟨_,rfl⟩
   obtain ⟨hh,this⟩:=this
   exact z6 rfl this (by first | rfl | simp only [go_sem,seval]) (by first | rfl | simp only [go_sem,seval]) (by first | rfl | simp only [go_sem,seval])
noncomputable def qmc (a0:qi) (a1:Bool) (v3:(Option (List Int)) × Bool) (s0:(Option (List GEl)) × Int × Bool) (v72:Int) (v76:(Option (List Int)) × Bool) (s1:(Option (List GEl)) × Int × Bool):Option (((Option (List GEl)) × Int × Bool) ⊕ (((Option (List GEl)) × Bool × Int))):=
 cond (decide (s1.2.1 < ((v76.1.getD []).length:Int)))
  (qe (zw (v76.1.getD []) s1.2.1) fun v97=>
  cond s1.2.2
   (qe (apO s1.1 [⟨a0.kd,v72,v97⟩]) fun v100=>
   some (.inl (v100,qf .i64 (s1.2.1 + 1),true)))
   (cond s1.1.isNone
    (qe (apO s1.1 [⟨a0.kd,v72,v97⟩]) fun v103=>
    some (.inl (v103,qf .i64 (s1.2.1 + 1),true)))
    (none)))
  (some (.inr (s1.1,s1.2.2,s1.2.1)))
def qm9 (a0:qi) (a1:Bool) (v3:(Option (List Int)) × Bool) (s0:(Option (List GEl)) × Int × Bool) (v72:Int) (v76:(Option (List Int)) × Bool) (s1:(Option (List GEl)) × Int × Bool):ASt:=⟨[(1,.bool a1,false),(2,.vptr (.agg [.str a0.name,.str a0.kd,.int .i64 a0.pa,.int .i64 a0.pb,.int .i64 a0.sa,.int .i64 a0.sb,.int .i64 a0.cost,.int .i64 a0.stock]),false),(5,sl 3 vel s1.1,s1.2.2),(7,.int .i64 v72,false),(17,sl 1 qo v3.1,v3.2),(18,.int .i64 ((v3.1.getD []).length:Int),false),(19,.int .i64 s0.2.1,false),(30,sl 1 qo v76.1,v76.2),(31,.int .i64 ((v76.1.getD []).length:Int),false),(32,.int .i64 s1.2.1,false)],[]⟩
def qwy (a0:qi) (a1:Bool) (v3:(Option (List Int)) × Bool) (s0:(Option (List GEl)) × Int × Bool) (v72:Int) (v76:(Option (List Int)) × Bool) (d:((Option (List GEl)) × Bool × Int)):ji × ASt:=(.exit 2,⟨[(1,.bool a1,false),(2,.vptr (.agg [.str a0.name,.str a0.kd,.int .i64 a0.pa,.int .i64 a0.pb,.int .i64 a0.sa,.int .i64 a0.sb,.int .i64 a0.cost,.int .i64 a0.stock]),false),(5,sl 3 vel d.1,d.2.1),(7,.int .i64 v72,false),(17,sl 1 qo v3.1,v3.2),(18,.int .i64 ((v3.1.getD []).length:Int),false),(19,.int .i64 s0.2.1,false),(30,sl 1 qo v76.1,v76.2),(31,.int .i64 ((v76.1.getD []).length:Int),false),(32,.int .i64 d.2.2,false),(33,.bool false,false)],[]⟩)
theorem jh2 (a0:qi) (a1:Bool) (v3:(Option (List Int)) × Bool) (s0:(Option (List GEl)) × Int × Bool) (v72:Int) (v76:(Option (List Int)) × Bool) (s1:(Option (List GEl)) × Int × Bool) (r) (h:qmc a0 a1 v3 s0 v72 v76 s1=some r):zj pr ql1 (qm9 a0 a1 v3 s0 v72 v76) (qwy a0 a1 v3 s0 v72 v76) s1 r:=by
 unfold qmc at h
 rcases qb h with ⟨h96,h⟩ | ⟨h96,h⟩
 ·obtain ⟨v97,h98,h⟩:=qa h
  rcases qb h with ⟨h99,h⟩ | ⟨h99,h⟩
  ·obtain ⟨v100,h101,h⟩:=qa h
   cases h
   exact qq (st':=⟨[(1,.bool a1,false),(2,.vptr (.agg [.str a0.name,.str a0.kd,.int .i64 a0.pa,.int .i64 a0.pb,.int .i64 a0.sa,.int .i64 a0.sb,.int .i64 a0.cost,.int .i64 a0.stock]),false),(5,sl 3 vel v100,true),(7,.int .i64 v72,false),(17,sl 1 qo v3.1,v3.2),(18,.int .i64 ((v3.1.getD []).length:Int),false),(19,.int .i64 s0.2.1,false),(30,sl 1 qo v76.1,v76.2),(31,.int .i64 ((v76.1.getD []).length:Int),false),(32,.int .i64 (qf .i64 (s1.2.1 + 1)),false)],[]⟩) (by simp only [go_sem,seval,ql1,qm9,h96,q9 h98,h99,qd8 h101] <;> rfl) (jb (Nat.le_refl _))
  ·rcases qb h with ⟨h102,h⟩ | ⟨h102,h⟩
   ·obtain ⟨v103,h104,h⟩:=qa h
    cases h
    exact qq (st':=⟨[(1,.bool a1,false),(2,.vptr (.agg [.str a0.name,.str a0.kd,.int .i64 a0.pa,.int .i64 a0.pb,.int .i64 a0.sa,.int .i64 a0.sb,.int .i64 a0.cost,.int .i64 a0.stock]),false),(5,sl 3 vel v103,true),(7,.int .i64 v72,false),(17,sl 1 qo v3.1,v3.2),(18,.int .i64 ((v3.1.getD []).length:Int),false),(19,.int .i64 s0.2.1,false),(30,sl 1 qo v76.1,v76.2),(31,.int .i64 ((v76.1.getD []).length:Int),false),(32,.int .i64 (qf .i64 (s1.2.1 + 1)),false)],[]⟩) (by simp only [go_sem,seval,ql1,qm9,h96,q9 h98,h99,h102,qiw h104 h102] <;> rfl) (jb (Nat.le_refl _))
   ·cases h
 ·cases h
  exact qj (by simp only [go_sem,seval,ql1,qm9,h96,qwy] <;> rfl)
theorem jm8 (a0:qi) (a1:Bool) (v3:(Option (List Int)) × Bool) (s0:(Option (List GEl)) × Int × Bool) (v72:Int) (v76:(Option (List Int)) × Bool) {s1:(Option (List GEl)) × Int × Bool} {d} (h:itO (qmc a0 a1 v3 s0 v72 v76) s1=some d):X pr (.loop ql1) (qm9 a0 a1 v3 s0 v72 v76 s1)=some (qwy a0 a1 v3 s0 v72 v76 d):=z7 (jh2 a0 a1 v3 s0 v72 v76) (fun d hh=>by cases hh) h
noncomputable def qmp (a0:qi) (a1:Bool) (v3:(Option (List Int)) × Bool) (s0:(Option (List GEl)) × Int × Bool):Option (((Option (List GEl)) × Int × Bool) ⊕ (((Option (List GEl)) × Bool × Int))):=
 cond (decide (s0.2.1 < ((v3.1.getD []).length:Int)))
  (qe (zw (v3.1.getD []) s0.2.1) fun v72=>
  qe (f155 a0.pb a0.sb) fun v74=>
  qe (f156 v74 a1) fun v76=>
  qe (itO (qmc a0 a1 v3 s0 v72 v76) (s0.1,0,s0.2.2)) fun d105=>
  some (.inl (d105.1,qf .i64 (s0.2.1 + 1),d105.2.1)))
  (some (.inr (s0.1,s0.2.2,s0.2.1)))
def qr3 (a0:qi) (a1:Bool) (v3:(Option (List Int)) × Bool) (s0:(Option (List GEl)) × Int × Bool):ASt:=⟨[(1,.bool a1,false),(2,.vptr (.agg [.str a0.name,.str a0.kd,.int .i64 a0.pa,.int .i64 a0.pb,.int .i64 a0.sa,.int .i64 a0.sb,.int .i64 a0.cost,.int .i64 a0.stock]),false),(5,sl 3 vel s0.1,s0.2.2),(17,sl 1 qo v3.1,v3.2),(18,.int .i64 ((v3.1.getD []).length:Int),false),(19,.int .i64 s0.2.1,false)],[]⟩
def qwp (a0:qi) (a1:Bool) (v3:(Option (List Int)) × Bool) (d:((Option (List GEl)) × Bool × Int)):ji × ASt:=(.exit 0,⟨[(1,.bool a1,false),(2,.vptr (.agg [.str a0.name,.str a0.kd,.int .i64 a0.pa,.int .i64 a0.pb,.int .i64 a0.sa,.int .i64 a0.sb,.int .i64 a0.cost,.int .i64 a0.stock]),false),(5,sl 3 vel d.1,d.2.1),(17,sl 1 qo v3.1,v3.2),(18,.int .i64 ((v3.1.getD []).length:Int),false),(19,.int .i64 d.2.2,false),(20,.bool false,false)],[]⟩)
theorem jiv (a0:qi) (a1:Bool) (v3:(Option (List Int)) × Bool) (s0:(Option (List GEl)) × Int × Bool) (r) (h:qmp a0 a1 v3 s0=some r):zj pr qot (qr3 a0 a1 v3) (qwp a0 a1 v3) s0 r:=by
 unfold qmp at h
 rcases qb h with ⟨h71,h⟩ | ⟨h71,h⟩
 ·obtain ⟨v72,h73,h⟩:=qa h
  obtain ⟨v74,h75,h⟩:=qa h
  have wh75:qc pr (X pr) 155 [.int .i64 a0.pb,.int .i64 a0.sb]=some (.agg [.int .i64 v74.num,.int .i64 v74.den],false):=jfk h75
  obtain ⟨v76,h77,h⟩:=qa h
  have wh77:qc pr (X pr) 156 [.agg [.int .i64 v74.num,.int .i64 v74.den],.bool a1]=some (sl 1 qo v76.1,v76.2):=jc3 h77
  obtain ⟨d105,h106,h⟩:=qa h
  have wh106:X pr (.loop ql1) ⟨[(1,.bool a1,false),(2,.vptr (.agg [.str a0.name,.str a0.kd,.int .i64 a0.pa,.int .i64 a0.pb,.int .i64 a0.sa,.int .i64 a0.sb,.int .i64 a0.cost,.int .i64 a0.stock]),false),(5,sl 3 vel s0.1,s0.2.2),(7,.int .i64 v72,false),(17,sl 1 qo v3.1,v3.2),(18,.int .i64 ((v3.1.getD []).length:Int),false),(19,.int .i64 s0.2.1,false),(30,sl 1 qo v76.1,v76.2),(31,.int .i64 ((v76.1.getD []).length:Int),false),(32,.int .i64 0,false)],[]⟩=some (.exit 2,⟨[(1,.bool a1,false),(2,.vptr (.agg [.str a0.name,.str a0.kd,.int .i64 a0.pa,.int .i64 a0.pb,.int .i64 a0.sa,.int .i64 a0.sb,.int .i64 a0.cost,.int .i64 a0.stock]),false),(5,sl 3 vel d105.1,d105.2.1),(7,.int .i64 v72,false),(17,sl 1 qo v3.1,v3.2),(18,.int .i64 ((v3.1.getD []).length:Int),false),(19,.int .i64 s0.2.1,false),(30,sl 1 qo v76.1,v76.2),(31,.int .i64 ((v76.1.getD []).length:Int),false),(32,.int .i64 d105.2.2,false),(33,.bool false,false)],[]⟩):=jm8 a0 a1 v3 s0 v72 v76 h106
  cases h
  exact qq (st':=⟨[(1,.bool a1,false),(2,.vptr (.agg [.str a0.name,.str a0.kd,.int .i64 a0.pa,.int .i64 a0.pb,.int .i64 a0.sa,.int .i64 a0.sb,.int .i64 a0.cost,.int .i64 a0.stock]),false),(5,sl 3 vel d105.1,d105.2.1),(17,sl 1 qo v3.1,v3.2),(18,.int .i64 ((v3.1.getD []).length:Int),false),(19,.int .i64 (qf .i64 (s0.2.1 + 1)),false)],[]⟩) (by simp only [go_sem,seval,qot,qr3,h71,q9 h73,wh75,wh77,wh106] <;> rfl) (jb (Nat.le_refl _))
 ·cases h
  exact qj (by simp only [go_sem,seval,qot,qr3,h71,qwp] <;> rfl)
theorem jlt (a0:qi) (a1:Bool) (v3:(Option (List Int)) × Bool) {s0:(Option (List GEl)) × Int × Bool} {d} (h:itO (qmp a0 a1 v3) s0=some d):X pr (.loop qot) (qr3 a0 a1 v3 s0)=some (qwp a0 a1 v3 d):=z7 (jiv a0 a1 v3) (fun d hh=>by cases hh) h
noncomputable def f99 (a0:qi) (a1:Bool):Option ((Option (List GEl)) × Bool):=
 qe (f155 a0.pa a0.sa) fun v1=>
 qe (f156 v1 a1) fun v3=>
 qe (itO (qmp a0 a1 v3) (none,0,false)) fun d107=>
 some (d107.1,d107.2.1)
theorem W99 {a0:qi} {a1:Bool} {r} (h:f99 a0 a1=some r):qc pr (X pr) 99 [.agg [.str a0.name,.str a0.kd,.int .i64 a0.pa,.int .i64 a0.pb,.int .i64 a0.sa,.int .i64 a0.sb,.int .i64 a0.cost,.int .i64 a0.stock],.bool a1]=some (sl 3 vel r.1,r.2):=by
 unfold f99 at h
 obtain ⟨v1,h2,h⟩:=qa h
 have wh2:qc pr (X pr) 155 [.int .i64 a0.pa,.int .i64 a0.sa]=some (.agg [.int .i64 v1.num,.int .i64 v1.den],false):=jfk h2
 obtain ⟨v3,h4,h⟩:=qa h
 have wh4:qc pr (X pr) 156 [.agg [.int .i64 v1.num,.int .i64 v1.den],.bool a1]=some (sl 1 qo v3.1,v3.2):=jc3 h4
 obtain ⟨d107,h108,h⟩:=qa h
 have wh108:X pr (.loop qot) ⟨[(1,.bool a1,false),(2,.vptr (.agg [.str a0.name,.str a0.kd,.int .i64 a0.pa,.int .i64 a0.pb,.int .i64 a0.sa,.int .i64 a0.sb,.int .i64 a0.cost,.int .i64 a0.stock]),false),(5,.list true 0 [],false),(17,sl 1 qo v3.1,v3.2),(18,.int .i64 ((v3.1.getD []).length:Int),false),(19,.int .i64 0,false)],[]⟩=some (.exit 0,⟨[(1,.bool a1,false),(2,.vptr (.agg [.str a0.name,.str a0.kd,.int .i64 a0.pa,.int .i64 a0.pb,.int .i64 a0.sa,.int .i64 a0.sb,.int .i64 a0.cost,.int .i64 a0.stock]),false),(5,sl 3 vel d107.1,d107.2.1),(17,sl 1 qo v3.1,v3.2),(18,.int .i64 ((v3.1.getD []).length:Int),false),(19,.int .i64 d107.2.2,false),(20,.bool false,false)],[]⟩):=jlt a0 a1 v3 h108
 have hr:(d107.1,d107.2.1)=r:=Option.some.inj h
 subst hr
 have this:∃ hh,jl pr (X pr) 99 [.agg [.str a0.name,.str a0.kd,.int .i64 a0.pa,.int .i64 a0.pb,.int .i64 a0.sa,.int .i64 a0.sb,.int .i64 a0.cost,.int .i64 a0.stock],.bool a1] []=some (sl 3 vel d107.1,d107.2.1,hh):=by
  rw [qh (show pr.fns 99=some c99 from rfl) (by simp)]
  simp only [go_sem,seval,c99,wh2,wh4,wh108]
  exact ⟨_,rfl⟩
 obtain ⟨hh,this⟩:=this
 exact z6 rfl this (by first | rfl | simp only [go_sem,seval]) (by first | rfl | simp only [go_sem,seval]) (by first | rfl | simp only [go_sem,seval])
noncomputable def qif (a0:Option (List GEl)) (s0:(Option (List Int)) × Int × Bool):Option (((Option (List Int)) × Int × Bool) ⊕ (((Option (List Int)) × Bool × Int))):=
 cond (decide (s0.2.1 < ((a0.getD []).length:Int)))
  (qe (zw (a0.getD []) s0.2.1) fun v18=>
  qe (qvf v18) fun v20=>
  cond s0.2.2
   (qe (apO s0.1 [v20]) fun v23=>
   some (.inl (v23,qf .i64 (s0.2.1 + 1),true)))
   (cond s0.1.isNone
    (qe (apO s0.1 [v20]) fun v26=>
    some (.inl (v26,qf .i64 (s0.2.1 + 1),true)))
    (none)))
  (some (.inr (s0.1,s0.2.2,s0.2.1)))
def qdm (a0:Option (List GEl)) (s0:(Option (List Int)) × Int × Bool):ASt:=⟨[(1,.fn (.func 108) [] [],false),(5,sl 1 qo s0.1,s0.2.2),(8,sl 3 vel a0,false),(9,.int .i64 ((a0.getD []).length:Int),false),(10,.int .i64 s0.2.1,false)],[]⟩
def qs4 (a0:Option (List GEl)) (d:((Option (List Int)) × Bool × Int)):ji × ASt:=(.exit 0,⟨[(1,.fn (.func 108) [] [],false),(5,sl 1 qo d.1,d.2.1),(8,sl 3 vel a0,false),(9,.int .i64 ((a0.getD []).length:Int),false),(10,.int .i64 d.2.2,false),(11,.bool false,false)],[]⟩)
theorem jfg (a0:Option (List GEl)) (s0:(Option (List Int)) × Int × Bool) (r) (h:qif a0 s0=some r):zj pr qh4 (qdm a0) (qs4 a0) s0 r:=by
 unfold qif at h
 rcases qb h with ⟨h17,h⟩ | ⟨h17,h⟩
 ·obtain ⟨v18,h19,h⟩:=qa h
  obtain ⟨v20,h21,h⟩:=qa h
  have wh21:jl pr (X pr) 108 [.agg [.str v18.kind,.int .i64 v18.a,.int .i64 v18.b]] [.cells [(.str v18.kind,false),(.int .i64 v18.a,false),(.int .i64 v18.b,false)]]=some (.int .i64 v20,false,[.cells [(.str v18.kind,false),(.int .i64 v18.a,false),(.int .i64 v18.b,false)]]):=jlc [.cells [(.str v18.kind,false),(.int .i64 v18.a,false),(.int .i64 v18.b,false)]] h21
  rcases qb h with ⟨h22,h⟩ | ⟨h22,h⟩
  ·obtain ⟨v23,h24,h⟩:=qa h
   cases h
   exact qq (st':=⟨[(1,.fn (.func 108) [] [],false),(5,sl 1 qo v23,true),(8,sl 3 vel a0,false),(9,.int .i64 ((a0.getD []).length:Int),false),(10,.int .i64 (qf .i64 (s0.2.1 + 1)),false)],[]++[.cells [(.str v18.kind,false),(.int .i64 v18.a,false),(.int .i64 v18.b,false)]]⟩) (by simp only [go_sem,seval,qh4,qdm,h17,q9 h19,wh21,h22,qrd h24] <;> rfl) (zz rfl rfl (by first | simp only [go_sem,seval,qdm] | rfl) (by first | simp only [go_sem,seval,qdm] | rfl))
  ·rcases qb h with ⟨h25,h⟩ | ⟨h25,h⟩
   ·obtain ⟨v26,h27,h⟩:=qa h
    cases h
    exact qq (st':=⟨[(1,.fn (.func 108) [] [],false),(5,sl 1 qo v26,true),(8,sl 3 vel a0,false),(9,.int .i64 ((a0.getD []).length:Int),false),(10,.int .i64 (qf .i64 (s0.2.1 + 1)),false)],[]++[.cells [(.str v18.kind,false),(.int .i64 v18.a,false),(.int .i64 v18.b,false)]]⟩) (by simp only [go_sem,seval,qh4,qdm,h17,q9 h19,wh21,h22,h25,qsf h27 h25] <;> rfl) (zz rfl rfl (by first | simp only [go_sem,seval,qdm] | rfl) (by first | simp only [go_sem,seval,qdm] | rfl))
   ·cases h
 ·cases h
  exact qj (by simp only [go_sem,seval,qh4,qdm,h17,qs4] <;> rfl)
theorem jde (a0:Option (List GEl)) {s0:(Option (List Int)) × Int × Bool} {d} (h:itO (qif a0) s0=some d):X pr (.loop qh4) (qdm a0 s0)=some (qs4 a0 d):=z7 (jfg a0) (fun d hh=>by cases hh) h
noncomputable def f110 (a0:Option (List GEl)):Option ((Option (List Int)) × Bool):=
 qe (itO (qif a0) (none,0,false)) fun d28=>
 some (d28.1,d28.2.1)
theorem jpv {a0:Option (List GEl)} {r} (h:f110 a0=some r):qc pr (X pr) 110 [sl 3 vel a0,.fn (.func 108) [] []]=some (sl 1 qo r.1,r.2):=by
 unfold f110 at h
 obtain ⟨d28,h29,h⟩:=qa h
 have wh29:X pr (.loop qh4) ⟨[(1,.fn (.func 108) [] [],false),(5,.list true 0 [],false),(8,sl 3 vel a0,false),(9,.int .i64 ((a0.getD []).length:Int),false),(10,.int .i64 0,false)],[]⟩=some (.exit 0,⟨[(1,.fn (.func 108) [] [],false),(5,sl 1 qo d28.1,d28.2.1),(8,sl 3 vel a0,false),(9,.int .i64 ((a0.getD []).length:Int),false),(10,.int .i64 d28.2.2,false),(11,.bool false,false)],[]⟩):=jde a0 h29
 have hr:(d28.1,d28.2.1)=r:=Option.some.inj h
 subst hr
 have this:∃ hh,jl pr (X pr) 110 [sl 3 vel a0,.fn (.func 108) [] []] []=some (sl 1 qo d28.1,d28.2.1,hh):=by
  rw [qh (show pr.fns 110=some c110 from rfl) (by simp)]
  simp only [go_sem,seval,c110,wh29]
  exact ⟨_,rfl⟩
 obtain ⟨hh,this⟩:=this
 exact z6 rfl this (by first | rfl | simp only [go_sem,seval]) (by first | rfl | simp only [go_sem,seval]) (by first | rfl | simp only [go_sem,seval])
noncomputable def f22 (a0:qi):Option Int:=
 qe (f107 a0.name) fun v1=>
 qe (f106 (!v1) 8) fun v3=>
 qe (f108 (⟨a0.kd,a0.pa,a0.pb⟩)) fun v5=>
 qe (f109 a0.sa 0 1) fun v7=>
 qe (f109 a0.sb 0 1) fun v9=>
 qe (f109 a0.cost 1 1000000) fun v11=>
 qe (f109 a0.stock 0 100) fun v13=>
 qe (f105 (some [v3,v5,v7,v9,v11,v13])) fun v15=>
 cond (decide (v15=0))
  (qe (f99 a0 false) fun v18=>
  qe (f110 v18.1) fun v20=>
  qe (f105 v20.1) fun v22=>
  qe (f106 (!decide (v22=0)) 1) fun v24=>
  some v24)
  (some v15)
theorem W22 {a0:qi} {r} (h:f22 a0=some r):qc pr (X pr) 22 [.agg [.str a0.name,.str a0.kd,.int .i64 a0.pa,.int .i64 a0.pb,.int .i64 a0.sa,.int .i64 a0.sb,.int .i64 a0.cost,.int .i64 a0.stock]]=some (.int .i64 r,false):=by
 unfold f22 at h
 obtain ⟨v1,h2,h⟩:=qa h
 have wh2:qc pr (X pr) 107 [.str a0.name]=some (.bool v1,false):=jq6 h2
 obtain ⟨v3,h4,h⟩:=qa h
 have wh4:qc pr (X pr) 106 [.bool (!v1),.int .i64 8]=some (.int .i64 v3,false):=qhu h4
 obtain ⟨v5,h6,h⟩:=qa h
 have wh6:qc pr (X pr) 108 [.agg [.str a0.kd,.int .i64 a0.pa,.int .i64 a0.pb]]=some (.int .i64 v5,false):=jr5 h6
 obtain ⟨v7,h8,h⟩:=qa h
 have wh8:qc pr (X pr) 109 [.int .i64 a0.sa,.int .i64 0,.int .i64 1]=some (.int .i64 v7,false):=qp4 h8
 obtain ⟨v9,h10,h⟩:=qa h
 have wh10:qc pr (X pr) 109 [.int .i64 a0.sb,.int .i64 0,.int .i64 1]=some (.int .i64 v9,false):=qp4 h10
 obtain ⟨v11,h12,h⟩:=qa h
 have wh12:qc pr (X pr) 109 [.int .i64 a0.cost,.int .i64 1,.int .i64 1000000]=some (.int .i64 v11,false):=qp4 h12
 obtain ⟨v13,h14,h⟩:=qa h
 have wh14:qc pr (X pr) 109 [.int .i64 a0.stock,.int .i64 0,.int .i64 100]=some (.int .i64 v13,false):=qp4 h14
 obtain ⟨v15,h16,h⟩:=qa h
 have wh16:qc pr (X pr) 105 [.list false 1 [.int .i64 v3,.int .i64 v5,.int .i64 v7,.int .i64 v9,.int .i64 v11,.int .i64 v13]]=some (.int .i64 v15,false):=qln h16
 rcases qb h with ⟨h17,h⟩ | ⟨h17,h⟩
 ·obtain ⟨v18,h19,h⟩:=qa h
  have wh19:qc pr (X pr) 99 [.agg [.str a0.name,.str a0.kd,.int .i64 a0.pa,.int .i64 a0.pb,.int .i64 a0.sa,.int .i64 a0.sb,.int .i64 a0.cost,.int .i64 a0.stock],.bool false]=some (sl 3 vel v18.1,v18.2):=W99 h19
  obtain ⟨v20,h21,h⟩:=qa h
  have wh21:qc pr (X pr) 110 [sl 3 vel v18.1,.fn (.func 108) [] []]=some (sl 1 qo v20.1,v20.2):=jpv h21
  obtain ⟨v22,h23,h⟩:=qa h
  have wh23:qc pr (X pr) 105 [sl 1 qo v20.1]=some (.int .i64 v22,false):=qln h23
  obtain ⟨v24,h25,h⟩:=qa h
  have wh25:qc pr (X pr) 106 [.bool (!decide (v22=0)),.int .i64 1]=some (.int .i64 v24,false):=qhu h25
  have hr:v24=r:=Option.some.inj h
  subst hr
  refine qy rfl ?_ (fun _=>by first | rfl | simp only [go_sem,seval]) (by first | rfl | simp only [go_sem,seval])
  rw [qh (show pr.fns 22=some c22 from rfl) (by simp)]
  simp only [go_sem,seval,c22,wh2,wh4,wh6,wh8,wh10,wh12,wh14,wh16,h17,wh19,wh21,wh23,wh25]
  exact ⟨_,rfl⟩
 ·have hr:v15=r:=Option.some.inj h
  subst hr
  refine qy rfl ?_ (fun _=>by first | rfl | simp only [go_sem,seval]) (by first | rfl | simp only [go_sem,seval])
  rw [qh (show pr.fns 22=some c22 from rfl) (by simp)]
  simp only [go_sem,seval,c22,wh2,wh4,wh6,wh8,wh10,wh12,wh14,wh16,h17]
  exact ⟨_,rfl⟩
noncomputable def qjk (a0:Option (List qi)) (s0:Int × (List (List UInt8))):Option ((Int × (List (List UInt8))) ⊕ ((Int × (List (List UInt8)) × (List UInt8) × (List UInt8) × Int × Int × Int × Int × Int × Int) ⊕ (Int × (List (List UInt8))))):=
 cond (decide (s0.1 < ((a0.getD []).length:Int)))
  (qe (zw (a0.getD []) s0.1) fun v27=>
  qe (f22 v27) fun v29=>
  qe (f106 (qhw s0.2 v27.name) 9) fun v31=>
  qe (f105 (some [v29,v31])) fun v33=>
  cond (decide (v33=0))
   (qe (qqo s0.2 v27.name) fun v36=>
   some (.inl (qf .i64 (s0.1 + 1),v36)))
   (some (.inr (.inl (v33,s0.2,v27.name,v27.kd,v27.pa,v27.pb,v27.sa,v27.sb,v27.cost,v27.stock)))))
  (some (.inr (.inr (s0.1,s0.2))))
def qh0 (a0:Option (List qi)) (s0:Int × (List (List UInt8))):ASt:=⟨[(3,.map 0,false),(11,sl 8 qm a0,false),(12,.int .i64 ((a0.getD []).length:Int),false),(13,.int .i64 s0.1,false)],[.map (ku s0.2)]⟩
def qq6 (a0:Option (List qi)):(Int × (List (List UInt8)) × (List UInt8) × (List UInt8) × Int × Int × Int × Int × Int × Int) ⊕ (Int × (List (List UInt8)))→ji × ASt
 | .inl d=>(.ret,⟨[(2,.int .i64 d.1,false)],[.map (ku d.2.1),.cells [(.str d.2.2.1,false),(.str d.2.2.2.1,false),(.int .i64 d.2.2.2.2.1,false),(.int .i64 d.2.2.2.2.2.1,false),(.int .i64 d.2.2.2.2.2.2.1,false),(.int .i64 d.2.2.2.2.2.2.2.1,false),(.int .i64 d.2.2.2.2.2.2.2.2.1,false),(.int .i64 d.2.2.2.2.2.2.2.2.2,false)]]⟩)
 | .inr d=>(.exit 0,⟨[(3,.map 0,false),(11,sl 8 qm a0,false),(12,.int .i64 ((a0.getD []).length:Int),false),(13,.int .i64 d.1,false),(14,.bool false,false)],[.map (ku d.2)]⟩)
theorem jj5 (a0:Option (List qi)) (s0:Int × (List (List UInt8))) (r) (h:qjk a0 s0=some r):zj pr qiv (qh0 a0) (qq6 a0) s0 r:=by
 unfold qjk at h
 rcases qb h with ⟨h26,h⟩ | ⟨h26,h⟩
 ·obtain ⟨v27,h28,h⟩:=qa h
  obtain ⟨v29,h30,h⟩:=qa h
  have wh30:qc pr (X pr) 22 [.agg [.str v27.name,.str v27.kd,.int .i64 v27.pa,.int .i64 v27.pb,.int .i64 v27.sa,.int .i64 v27.sb,.int .i64 v27.cost,.int .i64 v27.stock]]=some (.int .i64 v29,false):=W22 h30
  obtain ⟨v31,h32,h⟩:=qa h
  have wh32:qc pr (X pr) 106 [.bool (qhw s0.2 v27.name),.int .i64 9]=some (.int .i64 v31,false):=qhu h32
  obtain ⟨v33,h34,h⟩:=qa h
  have wh34:qc pr (X pr) 105 [.list false 1 [.int .i64 v29,.int .i64 v31]]=some (.int .i64 v33,false):=qln h34
  rcases qb h with ⟨h35,h⟩ | ⟨h35,h⟩
  ·obtain ⟨v36,h37,h⟩:=qa h
   cases h
   exact qq (st':=⟨[(3,.map 0,false),(11,sl 8 qm a0,false),(12,.int .i64 ((a0.getD []).length:Int),false),(13,.int .i64 (qf .i64 (s0.1 + 1)),false)],[.map (ku v36)]++[.cells [(.str v27.name,false),(.str v27.kd,false),(.int .i64 v27.pa,false),(.int .i64 v27.pb,false),(.int .i64 v27.sa,false),(.int .i64 v27.sb,false),(.int .i64 v27.cost,false),(.int .i64 v27.stock,false)]]⟩) (by simp only [go_sem,seval,qiv,qh0,h26,q9 h28,wh30,q9l,wh32,wh34,h35,jfx h37] <;> rfl) (zz rfl rfl (by first | simp only [go_sem,seval,qh0] | rfl) (by first | simp only [go_sem,seval,qh0] | rfl))
  ·cases h
   exact qj (by simp only [go_sem,seval,qiv,qh0,h26,q9 h28,wh30,q9l,wh32,wh34,h35,qq6] <;> rfl)
 ·cases h
  exact qj (by simp only [go_sem,seval,qiv,qh0,h26,qq6] <;> rfl)
theorem q87 (a0:Option (List qi)) {s0:Int × (List (List UInt8))} {d} (h:itO (qjk a0) s0=some d):X pr (.loop qiv) (qh0 a0 s0)=some (qq6 a0 d):=z7 (jj5 a0) (fun d=>by rcases d with d|d <;> (intro hh; cases hh)) h
noncomputable def f23 (a0:Option (List qi)):Option Int:=
 cond (decide (6 < ((a0.getD []).length:Int)))
  (some 5)
  (qe (itO (qjk a0) (0,[])) fun d38=>match d38 with
   | .inl d40=>
    some d40.1
   | .inr d41=>
    some 0)
theorem W23 {a0:Option (List qi)} {r} (h:f23 a0=some r):qc pr (X pr) 23 [sl 8 qm a0]=some (.int .i64 r,false):=by
 unfold f23 at h
 rcases qb h with ⟨h1,h⟩ | ⟨h1,h⟩
 ·have hr:5=r:=Option.some.inj h
  subst hr
  refine qy rfl ?_ (fun _=>by first | rfl | simp only [go_sem,seval]) (by first | rfl | simp only [go_sem,seval])
  rw [qh (show pr.fns 23=some c23 from rfl) (by simp)]
  simp only [go_sem,seval,c23,h1]
  exact ⟨_,rfl⟩
 ·obtain ⟨d38,h39,h⟩:=qa h
  rcases d38 with d40 | d41
  ·have wh39:X pr (.loop qiv) ⟨[(3,.map 0,false),(11,sl 8 qm a0,false),(12,.int .i64 ((a0.getD []).length:Int),false),(13,.int .i64 0,false)],[.map (ku [])]⟩=some (.ret,⟨[(2,.int .i64 d40.1,false)],[.map (ku d40.2.1),.cells [(.str d40.2.2.1,false),(.str d40.2.2.2.1,false),(.int .i64 d40.2.2.2.2.1,false),(.int .i64 d40.2.2.2.2.2.1,false),(.int .i64 d40.2.2.2.2.2.2.1,false),(.int .i64 d40.2.2.2.2.2.2.2.1,false),(.int .i64 d40.2.2.2.2.2.2.2.2.1,false),(.int .i64 d40.2.2.2.2.2.2.2.2.2,false)]]⟩):=q87 a0 h39
   have hr:d40.1=r:=Option.some.inj h
   subst hr
   refine qy rfl ?_ (fun _=>by first | rfl | simp only [go_sem,seval]) (by first | rfl | simp only [go_sem,seval])
   rw [qh (show pr.fns 23=some c23 from rfl) (by simp)]
   simp only [go_sem,seval,c23,h1,q3o,wh39]
   exact ⟨_,rfl⟩
  ·have wh39:X pr (.loop qiv) ⟨[(3,.map 0,false),(11,sl 8 qm a0,false),(12,.int .i64 ((a0.getD []).length:Int),false),(13,.int .i64 0,false)],[.map (ku [])]⟩=some (.exit 0,⟨[(3,.map 0,false),(11,sl 8 qm a0,false),(12,.int .i64 ((a0.getD []).length:Int),false),(13,.int .i64 d41.1,false),(14,.bool false,false)],[.map (ku d41.2)]⟩):=q87 a0 h39
   have hr:0=r:=Option.some.inj h
   subst hr
   refine qy rfl ?_ (fun _=>by first | rfl | simp only [go_sem,seval]) (by first | rfl | simp only [go_sem,seval])
   rw [qh (show pr.fns 23=some c23 from rfl) (by simp)]
   simp only [go_sem,seval,c23,h1,q3o,wh39]
   exact ⟨_,rfl⟩
noncomputable def f101 (a0:Bool) (a1:Int):Option Int:=
 cond a0
  (some a1)
  (some 0)
theorem jej {a0:Bool} {a1:Int} {r} (h:f101 a0 a1=some r):qc pr (X pr) 101 [.bool a0,.int .i64 a1]=some (.int .i64 r,false):=by
 unfold f101 at h
 rcases qb h with ⟨h1,h⟩ | ⟨h1,h⟩
 ·have hr:a1=r:=Option.some.inj h
  subst hr
  refine qy rfl ?_ (fun _=>by first | rfl | simp only [go_sem,seval]) (by first | rfl | simp only [go_sem,seval])
  rw [qh (show pr.fns 101=some c101 from rfl) (by simp)]
  simp only [go_sem,seval,c101,h1]
  exact ⟨_,rfl⟩
 ·have hr:0=r:=Option.some.inj h
  subst hr
  refine qy rfl ?_ (fun _=>by first | rfl | simp only [go_sem,seval]) (by first | rfl | simp only [go_sem,seval])
  rw [qh (show pr.fns 101=some c101 from rfl) (by simp)]
  simp only [go_sem,seval,c101,h1]
  exact ⟨_,rfl⟩
noncomputable def qid (a0:Option (List Int)) (s0:Int):Option (Int ⊕ (Int ⊕ Int)):=
 cond (decide (s0 < ((a0.getD []).length:Int)))
  (qe (zw (a0.getD []) s0) fun v10=>
  cond (decide (v10=0))
   (some (.inl (qf .i64 (s0 + 1))))
   (some (.inr (.inl v10))))
  (some (.inr (.inr s0)))
def qkl (a0:Option (List Int)) (s0:Int):ASt:=⟨[(0,sl 1 qo a0,false),(3,.int .i64 s0,false)],[]⟩
def qpa (a0:Option (List Int)):Int ⊕ Int→ji × ASt
 | .inl d=>(.ret,⟨[(2,.int .i64 d,false)],[]⟩)
 | .inr d=>(.exit 0,⟨[(0,sl 1 qo a0,false),(3,.int .i64 d,false),(7,.bool false,false)],[]⟩)
theorem jd3 (a0:Option (List Int)) (s0:Int) (r) (h:qid a0 s0=some r):zj pr qf3 (qkl a0) (qpa a0) s0 r:=by
 unfold qid at h
 rcases qb h with ⟨h9,h⟩ | ⟨h9,h⟩
 ·obtain ⟨v10,h11,h⟩:=qa h
  rcases qb h with ⟨h12,h⟩ | ⟨h12,h⟩
  ·cases h
   exact qq (st':=⟨[(0,sl 1 qo a0,false),(3,.int .i64 (qf .i64 (s0 + 1)),false)],[]⟩) (by simp only [go_sem,seval,qf3,qkl,h9,q9 h11,h12] <;> rfl) (jb (Nat.le_refl _))
  ·cases h
   exact qj (by simp only [go_sem,seval,qf3,qkl,h9,q9 h11,h12,qpa] <;> rfl)
 ·cases h
  exact qj (by simp only [go_sem,seval,qf3,qkl,h9,qpa] <;> rfl)
theorem q4g (a0:Option (List Int)) {s0:Int} {d} (h:itO (qid a0) s0=some d):X pr (.loop qf3) (qkl a0 s0)=some (qpa a0 d):=z7 (jd3 a0) (fun d=>by rcases d with d|d <;> (intro hh; cases hh)) h
noncomputable def f100 (a0:Option (List Int)):Option Int:=
 qe (itO (qid a0) 0) fun d13=>match d13 with
  | .inl d15=>
   some d15
  | .inr d16=>
   some 0
theorem qwh {a0:Option (List Int)} {r} (h:f100 a0=some r):qc pr (X pr) 100 [sl 1 qo a0]=some (.int .i64 r,false):=by
 unfold f100 at h
 obtain ⟨d13,h14,h⟩:=qa h
 rcases d13 with d15 | d16
 ·have wh14:X pr (.loop qf3) ⟨[(0,sl 1 qo a0,false),(3,.int .i64 0,false)],[]⟩=some (.ret,⟨[(2,.int .i64 d15,false)],[]⟩):=q4g a0 h14
  have hr:d15=r:=Option.some.inj h
  subst hr
  refine qy rfl ?_ (fun _=>by first | rfl | simp only [go_sem,seval]) (by first | rfl | simp only [go_sem,seval])
  rw [qh (show pr.fns 100=some c100 from rfl) (by simp)]
  simp only [go_sem,seval,c100,wh14]
  exact ⟨_,rfl⟩
 ·have wh14:X pr (.loop qf3) ⟨[(0,sl 1 qo a0,false),(3,.int .i64 0,false)],[]⟩=some (.exit 0,⟨[(0,sl 1 qo a0,false),(3,.int .i64 d16,false),(7,.bool false,false)],[]⟩):=q4g a0 h14
  have hr:0=r:=Option.some.inj h
  subst hr
  refine qy rfl ?_ (fun _=>by first | rfl | simp only [go_sem,seval]) (by first | rfl | simp only [go_sem,seval])
  rw [qh (show pr.fns 100=some c100 from rfl) (by simp)]
  simp only [go_sem,seval,c100,wh14]
  exact ⟨_,rfl⟩
noncomputable def f40 (a0:Int) (a1:Int) (a2:Int):Option Int:=
 cond (decide (a0 < a1))
  (some 3)
  (cond (decide (a2 < a0))
   (some 3)
   (some 0))
theorem W40 {a0:Int} {a1:Int} {a2:Int} {r} (h:f40 a0 a1 a2=some r):qc pr (X pr) 40 [.int .i64 a0,.int .i64 a1,.int .i64 a2]=some (.int .i64 r,false):=by
 unfold f40 at h
 rcases qb h with ⟨h1,h⟩ | ⟨h1,h⟩
 ·have hr:3=r:=Option.some.inj h
  subst hr
  refine qy rfl ?_ (fun _=>by first | rfl | simp only [go_sem,seval]) (by first | rfl | simp only [go_sem,seval])
  rw [qh (show pr.fns 40=some c40 from rfl) (by simp)]
  simp only [go_sem,seval,c40,h1]
  exact ⟨_,rfl⟩
 ·rcases qb h with ⟨h2,h⟩ | ⟨h2,h⟩
  ·have hr:3=r:=Option.some.inj h
   subst hr
   refine qy rfl ?_ (fun _=>by first | rfl | simp only [go_sem,seval]) (by first | rfl | simp only [go_sem,seval])
   rw [qh (show pr.fns 40=some c40 from rfl) (by simp)]
   simp only [go_sem,seval,c40,h1,h2]
   exact ⟨_,rfl⟩
  ·have hr:0=r:=Option.some.inj h
   subst hr
   refine qy rfl ?_ (fun _=>by first | rfl | simp only [go_sem,seval]) (by first | rfl | simp only [go_sem,seval])
   rw [qh (show pr.fns 40=some c40 from rfl) (by simp)]
   simp only [go_sem,seval,c40,h1,h2]
   exact ⟨_,rfl⟩
noncomputable def qf8 (a0:List UInt8) (s0:Int):Option (Int ⊕ (Unit ⊕ Int)):=
 cond (decide (s0 < (a0.length:Int)))
  (qe (zw a0 s0) fun v70=>
  cond (decide (65≤(v70.toNat:Int)))
   (cond (decide ((v70.toNat:Int)≤90))
    (cond (decide (48≤(v70.toNat:Int)))
     (cond (decide ((v70.toNat:Int)≤57))
      (some (.inl (qf .i64 (s0 + 1))))
      (some (.inl (qf .i64 (s0 + 1)))))
     (some (.inl (qf .i64 (s0 + 1)))))
    (cond (decide (97≤(v70.toNat:Int)))
     (cond (decide (48≤(v70.toNat:Int)))
      (cond (decide ((v70.toNat:Int)≤57))
       (cond (decide ((v70.toNat:Int)≤122))
        (some (.inl (qf .i64 (s0 + 1))))
        (cond (decide (s0=0))
         (some (.inr (.inl ())))
         (some (.inl (qf .i64 (s0 + 1))))))
       (cond (decide ((v70.toNat:Int)≤122))
        (some (.inl (qf .i64 (s0 + 1))))
        (cond (decide (s0=0))
         (some (.inr (.inl ())))
         (cond (decide ((v70.toNat:Int)=95))
          (some (.inl (qf .i64 (s0 + 1))))
          (some (.inr (.inl ())))))))
      (cond (decide ((v70.toNat:Int)≤122))
       (some (.inl (qf .i64 (s0 + 1))))
       (cond (decide (s0=0))
        (some (.inr (.inl ())))
        (cond (decide ((v70.toNat:Int)=95))
         (some (.inl (qf .i64 (s0 + 1))))
         (some (.inr (.inl ())))))))
     (cond (decide (48≤(v70.toNat:Int)))
      (cond (decide ((v70.toNat:Int)≤57))
       (cond (decide (s0=0))
        (some (.inr (.inl ())))
        (some (.inl (qf .i64 (s0 + 1)))))
       (cond (decide (s0=0))
        (some (.inr (.inl ())))
        (cond (decide ((v70.toNat:Int)=95))
         (some (.inl (qf .i64 (s0 + 1))))
         (some (.inr (.inl ()))))))
      (cond (decide (s0=0))
       (some (.inr (.inl ())))
       (cond (decide ((v70.toNat:Int)=95))
        (some (.inl (qf .i64 (s0 + 1))))
        (some (.inr (.inl ()))))))))
   (cond (decide (97≤(v70.toNat:Int)))
    (cond (decide (48≤(v70.toNat:Int)))
     (cond (decide ((v70.toNat:Int)≤57))
      (cond (decide ((v70.toNat:Int)≤122))
       (some (.inl (qf .i64 (s0 + 1))))
       (cond (decide (s0=0))
        (some (.inr (.inl ())))
        (some (.inl (qf .i64 (s0 + 1))))))
      (cond (decide ((v70.toNat:Int)≤122))
       (some (.inl (qf .i64 (s0 + 1))))
       (cond (decide (s0=0))
        (some (.inr (.inl ())))
        (cond (decide ((v70.toNat:Int)=95))
         (some (.inl (qf .i64 (s0 + 1))))
         (some (.inr (.inl ())))))))
     (cond (decide ((v70.toNat:Int)≤122))
      (some (.inl (qf .i64 (s0 + 1))))
      (cond (decide (s0=0))
       (some (.inr (.inl ())))
       (cond (decide ((v70.toNat:Int)=95))
        (some (.inl (qf .i64 (s0 + 1))))
        (some (.inr (.inl ())))))))
    (cond (decide (48≤(v70.toNat:Int)))
     (cond (decide ((v70.toNat:Int)≤57))
      (cond (decide (s0=0))
       (some (.inr (.inl ())))
       (some (.inl (qf .i64 (s0 + 1)))))
      (cond (decide (s0=0))
       (some (.inr (.inl ())))
       (cond (decide ((v70.toNat:Int)=95))
        (some (.inl (qf .i64 (s0 + 1))))
        (some (.inr (.inl ()))))))
     (cond (decide (s0=0))
      (some (.inr (.inl ())))
      (cond (decide ((v70.toNat:Int)=95))
       (some (.inl (qf .i64 (s0 + 1))))
       (some (.inr (.inl ()))))))))
  (some (.inr (.inr s0)))
def j7 (a0:List UInt8) (s0:Int):ASt:=⟨[(0,.str a0,false),(3,.int .i64 s0,false)],[]⟩
def y8 (a0:List UInt8):Unit ⊕ Int→ji × ASt
 | .inl d=>(.ret,⟨[(2,.bool false,false)],[]⟩)
 | .inr d=>(.exit 0,⟨[(0,.str a0,false),(3,.int .i64 d,false),(17,.bool false,false)],[]⟩)
theorem jfn (a0:List UInt8) (s0:Int) (r) (h:qf8 a0 s0=some r):zj pr zc (j7 a0) (y8 a0) s0 r:=by
 unfold qf8 at h
 rcases qb h with ⟨h69,h⟩ | ⟨h69,h⟩
 ·obtain ⟨v70,h71,h⟩:=qa h
  rcases qb h with ⟨h72,h⟩ | ⟨h72,h⟩
  ·rcases qb h with ⟨h73,h⟩ | ⟨h73,h⟩
   ·rcases qb h with ⟨h74,h⟩ | ⟨h74,h⟩
    ·rcases qb h with ⟨h75,h⟩ | ⟨h75,h⟩
     ·cases h
      exact qq (st':=⟨[(0,.str a0,false),(3,.int .i64 (qf .i64 (s0 + 1)),false)],[]⟩) (by simp only [go_sem,seval,zc,j7,h69,j0 h71,h72,h73,h74,h75] <;> rfl) (jb (Nat.le_refl _))
     ·cases h
      exact qq (st':=⟨[(0,.str a0,false),(3,.int .i64 (qf .i64 (s0 + 1)),false)],[]⟩) (by simp only [go_sem,seval,zc,j7,h69,j0 h71,h72,h73,h74,h75] <;> rfl) (jb (Nat.le_refl _))
    ·cases h
     exact qq (st':=⟨[(0,.str a0,false),(3,.int .i64 (qf .i64 (s0 + 1)),false)],[]⟩) (by simp only [go_sem,seval,zc,j7,h69,j0 h71,h72,h73,h74] <;> rfl) (jb (Nat.le_refl _))
   ·rcases qb h with ⟨h76,h⟩ | ⟨h76,h⟩
    ·rcases qb h with ⟨h77,h⟩ | ⟨h77,h⟩
     ·rcases qb h with ⟨h78,h⟩ | ⟨h78,h⟩
      ·rcases qb h with ⟨h79,h⟩ | ⟨h79,h⟩
       ·cases h
        exact qq (st':=⟨[(0,.str a0,false),(3,.int .i64 (qf .i64 (s0 + 1)),false)],[]⟩) (by simp only [go_sem,seval,zc,j7,h69,j0 h71,h72,h73,h76,h77,h78,h79] <;> rfl) (jb (Nat.le_refl _))
       ·rcases qb h with ⟨h80,h⟩ | ⟨h80,h⟩
        ·cases h
         exact qj (by simp only [go_sem,seval,zc,j7,h69,j0 h71,h72,h73,h76,h77,h78,h79,h80,y8] <;> rfl)
        ·cases h
         exact qq (st':=⟨[(0,.str a0,false),(3,.int .i64 (qf .i64 (s0 + 1)),false)],[]⟩) (by simp only [go_sem,seval,zc,j7,h69,j0 h71,h72,h73,h76,h77,h78,h79,h80] <;> rfl) (jb (Nat.le_refl _))
      ·rcases qb h with ⟨h81,h⟩ | ⟨h81,h⟩
       ·cases h
        exact qq (st':=⟨[(0,.str a0,false),(3,.int .i64 (qf .i64 (s0 + 1)),false)],[]⟩) (by simp only [go_sem,seval,zc,j7,h69,j0 h71,h72,h73,h76,h77,h78,h81] <;> rfl) (jb (Nat.le_refl _))
       ·rcases qb h with ⟨h82,h⟩ | ⟨h82,h⟩
        ·cases h
         exact qj (by simp only [go_sem,seval,zc,j7,h69,j0 h71,h72,h73,h76,h77,h78,h81,h82,y8] <;> rfl)
        ·rcases qb h with ⟨h83,h⟩ | ⟨h83,h⟩
         ·cases h
          exact qq (st':=⟨[(0,.str a0,false),(3,.int .i64 (qf .i64 (s0 + 1)),false)],[]⟩) (by simp only [go_sem,seval,zc,j7,h69,j0 h71,h72,h73,h76,h77,h78,h81,h82,h83] <;> rfl) (jb (Nat.le_refl _))
         ·cases h
          exact qj (by simp only [go_sem,seval,zc,j7,h69,j0 h71,h72,h73,h76,h77,h78,h81,h82,h83,y8] <;> rfl)
     ·rcases qb h with ⟨h84,h⟩ | ⟨h84,h⟩
      ·cases h
       exact qq (st':=⟨[(0,.str a0,false),(3,.int .i64 (qf .i64 (s0 + 1)),false)],[]⟩) (by simp only [go_sem,seval,zc,j7,h69,j0 h71,h72,h73,h76,h77,h84] <;> rfl) (jb (Nat.le_refl _))
      ·rcases qb h with ⟨h85,h⟩ | ⟨h85,h⟩
       ·cases h
        exact qj (by simp only [go_sem,seval,zc,j7,h69,j0 h71,h72,h73,h76,h77,h84,h85,y8] <;> rfl)
       ·rcases qb h with ⟨h86,h⟩ | ⟨h86,h⟩
        ·cases h
         exact qq (st':=⟨[(0,.str a0,false),(3,.int .i64 (qf .i64 (s0 + 1)),false)],[]⟩) (by simp only [go_sem,seval,zc,j7,h69,j0 h71,h72,h73,h76,h77,h84,h85,h86] <;> rfl) (jb (Nat.le_refl _))
        ·cases h
         exact qj (by simp only [go_sem,seval,zc,j7,h69,j0 h71,h72,h73,h76,h77,h84,h85,h86,y8] <;> rfl)
    ·rcases qb h with ⟨h87,h⟩ | ⟨h87,h⟩
     ·rcases qb h with ⟨h88,h⟩ | ⟨h88,h⟩
      ·rcases qb h with ⟨h89,h⟩ | ⟨h89,h⟩
       ·cases h
        exact qj (by simp only [go_sem,seval,zc,j7,h69,j0 h71,h72,h73,h76,h87,h88,h89,y8] <;> rfl)
       ·cases h
        exact qq (st':=⟨[(0,.str a0,false),(3,.int .i64 (qf .i64 (s0 + 1)),false)],[]⟩) (by simp only [go_sem,seval,zc,j7,h69,j0 h71,h72,h73,h76,h87,h88,h89] <;> rfl) (jb (Nat.le_refl _))
      ·rcases qb h with ⟨h90,h⟩ | ⟨h90,h⟩
       ·cases h
        exact qj (by simp only [go_sem,seval,zc,j7,h69,j0 h71,h72,h73,h76,h87,h88,h90,y8] <;> rfl)
       ·rcases qb h with ⟨h91,h⟩ | ⟨h91,h⟩
        ·cases h
         exact qq (st':=⟨[(0,.str a0,false),(3,.int .i64 (qf .i64 (s0 + 1)),false)],[]⟩) (by simp only [go_sem,seval,zc,j7,h69,j0 h71,h72,h73,h76,h87,h88,h90,h91] <;> rfl) (jb (Nat.le_refl _))
        ·cases h
         exact qj (by simp only [go_sem,seval,zc,j7,h69,j0 h71,h72,h73,h76,h87,h88,h90,h91,y8] <;> rfl)
     ·rcases qb h with ⟨h92,h⟩ | ⟨h92,h⟩
      ·cases h
       exact qj (by simp only [go_sem,seval,zc,j7,h69,j0 h71,h72,h73,h76,h87,h92,y8] <;> rfl)
      ·rcases qb h with ⟨h93,h⟩ | ⟨h93,h⟩
       ·cases h
        exact qq (st':=⟨[(0,.str a0,false),(3,.int .i64 (qf .i64 (s0 + 1)),false)],[]⟩) (by simp only [go_sem,seval,zc,j7,h69,j0 h71,h72,h73,h76,h87,h92,h93] <;> rfl) (jb (Nat.le_refl _))
       ·cases h
        exact qj (by simp only [go_sem,seval,zc,j7,h69,j0 h71,h72,h73,h76,h87,h92,h93,y8] <;> rfl)
  ·rcases qb h with ⟨h94,h⟩ | ⟨h94,h⟩
   ·rcases qb h with ⟨h95,h⟩ | ⟨h95,h⟩
    ·rcases qb h with ⟨h96,h⟩ | ⟨h96,h⟩
     ·rcases qb h with ⟨h97,h⟩ | ⟨h97,h⟩
      ·cases h
       exact qq (st':=⟨[(0,.str a0,false),(3,.int .i64 (qf .i64 (s0 + 1)),false)],[]⟩) (by simp only [go_sem,seval,zc,j7,h69,j0 h71,h72,h94,h95,h96,h97] <;> rfl) (jb (Nat.le_refl _))
      ·rcases qb h with ⟨h98,h⟩ | ⟨h98,h⟩
       ·cases h
        exact qj (by simp only [go_sem,seval,zc,j7,h69,j0 h71,h72,h94,h95,h96,h97,h98,y8] <;> rfl)
       ·cases h
        exact qq (st':=⟨[(0,.str a0,false),(3,.int .i64 (qf .i64 (s0 + 1)),false)],[]⟩) (by simp only [go_sem,seval,zc,j7,h69,j0 h71,h72,h94,h95,h96,h97,h98] <;> rfl) (jb (Nat.le_refl _))
     ·rcases qb h with ⟨h99,h⟩ | ⟨h99,h⟩
      ·cases h
       exact qq (st':=⟨[(0,.str a0,false),(3,.int .i64 (qf .i64 (s0 + 1)),false)],[]⟩) (by simp only [go_sem,seval,zc,j7,h69,j0 h71,h72,h94,h95,h96,h99] <;> rfl) (jb (Nat.le_refl _))
      ·rcases qb h with ⟨h100,h⟩ | ⟨h100,h⟩
       ·cases h
        exact qj (by simp only [go_sem,seval,zc,j7,h69,j0 h71,h72,h94,h95,h96,h99,h100,y8] <;> rfl)
       ·rcases qb h with ⟨h101,h⟩ | ⟨h101,h⟩
        ·cases h
         exact qq (st':=⟨[(0,.str a0,false),(3,.int .i64 (qf .i64 (s0 + 1)),false)],[]⟩) (by simp only [go_sem,seval,zc,j7,h69,j0 h71,h72,h94,h95,h96,h99,h100,h101] <;> rfl) (jb (Nat.le_refl _))
        ·cases h
         exact qj (by simp only [go_sem,seval,zc,j7,h69,j0 h71,h72,h94,h95,h96,h99,h100,h101,y8] <;> rfl)
    ·rcases qb h with ⟨h102,h⟩ | ⟨h102,h⟩
     ·cases h
      exact qq (st':=⟨[(0,.str a0,false),(3,.int .i64 (qf .i64 (s0 + 1)),false)],[]⟩) (by simp only [go_sem,seval,zc,j7,h69,j0 h71,h72,h94,h95,h102] <;> rfl) (jb (Nat.le_refl _))
     ·rcases qb h with ⟨h103,h⟩ | ⟨h103,h⟩
      ·cases h
       exact qj (by simp only [go_sem,seval,zc,j7,h69,j0 h71,h72,h94,h95,h102,h103,y8] <;> rfl)
      ·rcases qb h with ⟨h104,h⟩ | ⟨h104,h⟩
       ·cases h
        exact qq (st':=⟨[(0,.str a0,false),(3,.int .i64 (qf .i64 (s0 + 1)),false)],[]⟩) (by simp only [go_sem,seval,zc,j7,h69,j0 h71,h72,h94,h95,h102,h103,h104] <;> rfl) (jb (Nat.le_refl _))
       ·cases h
        exact qj (by simp only [go_sem,seval,zc,j7,h69,j0 h71,h72,h94,h95,h102,h103,h104,y8] <;> rfl)
   ·rcases qb h with ⟨h105,h⟩ | ⟨h105,h⟩
    ·rcases qb h with ⟨h106,h⟩ | ⟨h106,h⟩
     ·rcases qb h with ⟨h107,h⟩ | ⟨h107,h⟩
      ·cases h
       exact qj (by simp only [go_sem,seval,zc,j7,h69,j0 h71,h72,h94,h105,h106,h107,y8] <;> rfl)
      ·cases h
       exact qq (st':=⟨[(0,.str a0,false),(3,.int .i64 (qf .i64 (s0 + 1)),false)],[]⟩) (by simp only [go_sem,seval,zc,j7,h69,j0 h71,h72,h94,h105,h106,h107] <;> rfl) (jb (Nat.le_refl _))
     ·rcases qb h with ⟨h108,h⟩ | ⟨h108,h⟩
      ·cases h
       exact qj (by simp only [go_sem,seval,zc,j7,h69,j0 h71,h72,h94,h105,h106,h108,y8] <;> rfl)
      ·rcases qb h with ⟨h109,h⟩ | ⟨h109,h⟩
       ·cases h
        exact qq (st':=⟨[(0,.str a0,false),(3,.int .i64 (qf .i64 (s0 + 1)),false)],[]⟩) (by simp only [go_sem,seval,zc,j7,h69,j0 h71,h72,h94,h105,h106,h108,h109] <;> rfl) (jb (Nat.le_refl _))
       ·cases h
        exact qj (by simp only [go_sem,seval,zc,j7,h69,j0 h71,h72,h94,h105,h106,h108,h109,y8] <;> rfl)
    ·rcases qb h with ⟨h110,h⟩ | ⟨h110,h⟩
     ·cases h
      exact qj (by simp only [go_sem,seval,zc,j7,h69,j0 h71,h72,h94,h105,h110,y8] <;> rfl)
     ·rcases qb h with ⟨h111,h⟩ | ⟨h111,h⟩
      ·cases h
       exact qq (st':=⟨[(0,.str a0,false),(3,.int .i64 (qf .i64 (s0 + 1)),false)],[]⟩) (by simp only [go_sem,seval,zc,j7,h69,j0 h71,h72,h94,h105,h110,h111] <;> rfl) (jb (Nat.le_refl _))
      ·cases h
       exact qj (by simp only [go_sem,seval,zc,j7,h69,j0 h71,h72,h94,h105,h110,h111,y8] <;> rfl)
 ·cases h
  exact qj (by simp only [go_sem,seval,zc,j7,h69,y8] <;> rfl)
theorem q6f (a0:List UInt8) {s0:Int} {d} (h:itO (qf8 a0) s0=some d):X pr (.loop zc) (j7 a0 s0)=some (y8 a0 d):=z7 (jfn a0) (fun d=>by rcases d with d|d <;> (intro hh; cases hh)) h
noncomputable def f102 (a0:List UInt8):Option Bool:=
 cond (decide ((a0.length:Int)=0))
  (some false)
  (cond (decide (24 < (a0.length:Int)))
   (some false)
   (qe (itO (qf8 a0) 0) fun d112=>match d112 with
    | .inl d114=>
     some false
    | .inr d115=>
     some true))
theorem jrd {a0:List UInt8} {r} (h:f102 a0=some r):qc pr (X pr) 102 [.str a0]=some (.bool r,false):=by
 unfold f102 at h
 rcases qb h with ⟨h1,h⟩ | ⟨h1,h⟩
 ·have hr:false=r:=Option.some.inj h
  subst hr
  refine qy rfl ?_ (fun _=>by first | rfl | simp only [go_sem,seval]) (by first | rfl | simp only [go_sem,seval])
  rw [qh (show pr.fns 102=some c102 from rfl) (by simp)]
  simp only [go_sem,seval,c102,h1]
  exact ⟨_,rfl⟩
 ·rcases qb h with ⟨h2,h⟩ | ⟨h2,h⟩
  ·have hr:false=r:=Option.some.inj h
   subst hr
   refine qy rfl ?_ (fun _=>by first | rfl | simp only [go_sem,seval]) (by first | rfl | simp only [go_sem,seval])
   rw [qh (show pr.fns 102=some c102 from rfl) (by simp)]
   simp only [go_sem,seval,c102,h1,h2]
   exact ⟨_,rfl⟩
  ·obtain ⟨d112,h113,h⟩:=qa h
   rcases d112 with d114 | d115
   ·have wh113:X pr (.loop zc) ⟨[(0,.str a0,false),(3,.int .i64 0,false)],[]⟩=some (.ret,⟨[(2,.bool false,false)],[]⟩):=q6f a0 h113
    have hr:false=r:=Option.some.inj h
    subst hr
    refine qy rfl ?_ (fun _=>by first | rfl | simp only [go_sem,seval]) (by first | rfl | simp only [go_sem,seval])
    rw [qh (show pr.fns 102=some c102 from rfl) (by simp)]
    simp only [go_sem,seval,c102,h1,h2,wh113]
    exact ⟨_,rfl⟩
   ·have wh113:X pr (.loop zc) ⟨[(0,.str a0,false),(3,.int .i64 0,false)],[]⟩=some (.exit 0,⟨[(0,.str a0,false),(3,.int .i64 d115,false),(17,.bool false,false)],[]⟩):=q6f a0 h113
    have hr:true=r:=Option.some.inj h
    subst hr
    refine qy rfl ?_ (fun _=>by first | rfl | simp only [go_sem,seval]) (by first | rfl | simp only [go_sem,seval])
    rw [qh (show pr.fns 102=some c102 from rfl) (by simp)]
    simp only [go_sem,seval,c102,h1,h2,wh113]
    exact ⟨_,rfl⟩
noncomputable def qh6 (a0:Option (List (List UInt8))) (a1:List UInt8) (s0:Int):Option (Int ⊕ (Unit ⊕ Int)):=
 cond (decide (s0 < ((a0.getD []).length:Int)))
  (qe (zw (a0.getD []) s0) fun v10=>
  cond (decide (v10=a1))
   (some (.inr (.inl ())))
   (some (.inl (qf .i64 (s0 + 1)))))
  (some (.inr (.inr s0)))
def qj6 (a0:Option (List (List UInt8))) (a1:List UInt8) (s0:Int):ASt:=⟨[(0,sl 1 qao a0,false),(1,.str a1,false),(5,.int .i64 s0,false)],[]⟩
def qok (a0:Option (List (List UInt8))) (a1:List UInt8):Unit ⊕ Int→ji × ASt
 | .inl d=>(.ret,⟨[(4,.bool true,false)],[]⟩)
 | .inr d=>(.exit 0,⟨[(0,sl 1 qao a0,false),(1,.str a1,false),(5,.int .i64 d,false),(9,.bool false,false)],[]⟩)
theorem jdj (a0:Option (List (List UInt8))) (a1:List UInt8) (s0:Int) (r) (h:qh6 a0 a1 s0=some r):zj pr qge (qj6 a0 a1) (qok a0 a1) s0 r:=by
 unfold qh6 at h
 rcases qb h with ⟨h9,h⟩ | ⟨h9,h⟩
 ·obtain ⟨v10,h11,h⟩:=qa h
  rcases qb h with ⟨h12,h⟩ | ⟨h12,h⟩
  ·cases h
   exact qj (by simp only [go_sem,seval,qge,qj6,h9,q9 h11,h12,qok] <;> rfl)
  ·cases h
   exact qq (st':=⟨[(0,sl 1 qao a0,false),(1,.str a1,false),(5,.int .i64 (qf .i64 (s0 + 1)),false)],[]⟩) (by simp only [go_sem,seval,qge,qj6,h9,q9 h11,h12] <;> rfl) (jb (Nat.le_refl _))
 ·cases h
  exact qj (by simp only [go_sem,seval,qge,qj6,h9,qok] <;> rfl)
theorem q39 (a0:Option (List (List UInt8))) (a1:List UInt8) {s0:Int} {d} (h:itO (qh6 a0 a1) s0=some d):X pr (.loop qge) (qj6 a0 a1 s0)=some (qok a0 a1 d):=z7 (jdj a0 a1) (fun d=>by rcases d with d|d <;> (intro hh; cases hh)) h
noncomputable def f191 (a0:Option (List (List UInt8))) (a1:List UInt8):Option Bool:=
 qe (itO (qh6 a0 a1) 0) fun d13=>match d13 with
  | .inl d15=>
   some true
  | .inr d16=>
   some false
theorem jqv {a0:Option (List (List UInt8))} {a1:List UInt8} {r} (h:f191 a0 a1=some r):qc pr (X pr) 191 [sl 1 qao a0,.str a1]=some (.bool r,false):=by
 unfold f191 at h
 obtain ⟨d13,h14,h⟩:=qa h
 rcases d13 with d15 | d16
 ·have wh14:X pr (.loop qge) ⟨[(0,sl 1 qao a0,false),(1,.str a1,false),(5,.int .i64 0,false)],[]⟩=some (.ret,⟨[(4,.bool true,false)],[]⟩):=q39 a0 a1 h14
  have hr:true=r:=Option.some.inj h
  subst hr
  refine qy rfl ?_ (fun _=>by first | rfl | simp only [go_sem,seval]) (by first | rfl | simp only [go_sem,seval])
  rw [qh (show pr.fns 191=some c191 from rfl) (by simp)]
  simp only [go_sem,seval,c191,wh14]
  exact ⟨_,rfl⟩
 ·have wh14:X pr (.loop qge) ⟨[(0,sl 1 qao a0,false),(1,.str a1,false),(5,.int .i64 0,false)],[]⟩=some (.exit 0,⟨[(0,sl 1 qao a0,false),(1,.str a1,false),(5,.int .i64 d16,false),(9,.bool false,false)],[]⟩):=q39 a0 a1 h14
  have hr:false=r:=Option.some.inj h
  subst hr
  refine qy rfl ?_ (fun _=>by first | rfl | simp only [go_sem,seval]) (by first | rfl | simp only [go_sem,seval])
  rw [qh (show pr.fns 191=some c191 from rfl) (by simp)]
  simp only [go_sem,seval,c191,wh14]
  exact ⟨_,rfl⟩
noncomputable def f192:Option (Option (List (List UInt8))):=
 some (some [([98,108,111,99,107]:List UInt8),([115,101,114,105,101,115]:List UInt8),([115,104,117,110,116]:List UInt8),([116,114,97,112]:List UInt8)])
theorem qst {r} (h:f192=some r):qc pr (X pr) 192 []=some (sl 1 qao r,true):=by
 unfold f192 at h
 have hr:some [([98,108,111,99,107]:List UInt8),([115,101,114,105,101,115]:List UInt8),([115,104,117,110,116]:List UInt8),([116,114,97,112]:List UInt8)]=r:=Option.some.inj h
 subst hr
 have this:∃ hh,jl pr (X pr) 192 [] []=some (.list false 1 [.str ([98,108,111,99,107]:List UInt8),.str ([115,101,114,105,101,115]:List UInt8),.str ([115,104,117,110,116]:List UInt8),.str ([116,114,97,112]:List UInt8)],true,hh):=by
  rw [qh (show pr.fns 192=some c192 from rfl) (by simp)]
  simp only [go_sem,seval,c192]
  exact ⟨_,rfl⟩
 obtain ⟨hh,this⟩:=this
 exact z6 rfl this (by first | rfl | simp only [go_sem,seval]) (by first | rfl | simp only [go_sem,seval]) (by first | rfl | simp only [go_sem,seval])
noncomputable def f55 (a0:List UInt8):Option Bool:=
 cond (decide (a0=([98,108,111,99,107]:List UInt8)))
  (some true)
  (some (decide (a0=([116,114,97,112]:List UInt8))))
theorem W55 {a0:List UInt8} {r} (h:f55 a0=some r):qc pr (X pr) 55 [.str a0]=some (.bool r,false):=by
 unfold f55 at h
 rcases qb h with ⟨h1,h⟩ | ⟨h1,h⟩
 ·have hr:true=r:=Option.some.inj h
  subst hr
  refine qy rfl ?_ (fun _=>by first | rfl | simp only [go_sem,seval]) (by first | rfl | simp only [go_sem,seval])
  rw [qh (show pr.fns 55=some c55 from rfl) (by simp)]
  simp only [go_sem,seval,c55,h1]
  exact ⟨_,rfl⟩
 ·have hr:decide (a0=([116,114,97,112]:List UInt8))=r:=Option.some.inj h
  subst hr
  refine qy rfl ?_ (fun _=>by first | rfl | simp only [go_sem,seval]) (by first | rfl | simp only [go_sem,seval])
  rw [qh (show pr.fns 55=some c55 from rfl) (by simp)]
  simp only [go_sem,seval,c55,h1]
  exact ⟨_,rfl⟩
noncomputable def f157 (a0:GEl):Option Int:=
 qe (f192) fun v1=>
 qe (f191 v1 a0.kind) fun v3=>
 cond v3
  (qe (f40 a0.a 0 8) fun v6=>
  qe (f40 a0.b 0 8) fun v8=>
  qe (f100 (some [v6,v8])) fun v10=>
  cond (decide (v10=0))
   (qe (f55 a0.kind) fun v13=>
   cond v13
    (cond (decide (a0.a=0))
     (cond (decide (a0.b=0))
      (some 6)
      (some 0))
     (some 0))
    (some 0))
   (some v10))
  (some 13)
theorem jqq {a0:GEl} {r} (h:f157 a0=some r):qc pr (X pr) 157 [.agg [.str a0.kind,.int .i64 a0.a,.int .i64 a0.b]]=some (.int .i64 r,false):=by
 unfold f157 at h
 obtain ⟨v1,h2,h⟩:=qa h
 obtain ⟨v3,h4,h⟩:=qa h
 have wh4:qc pr (X pr) 191 [sl 1 qao v1,.str a0.kind]=some (.bool v3,false):=jqv h4
 rcases qb h with ⟨h5,h⟩ | ⟨h5,h⟩
 ·obtain ⟨v6,h7,h⟩:=qa h
  have wh7:qc pr (X pr) 40 [.int .i64 a0.a,.int .i64 0,.int .i64 8]=some (.int .i64 v6,false):=W40 h7
  obtain ⟨v8,h9,h⟩:=qa h
  have wh9:qc pr (X pr) 40 [.int .i64 a0.b,.int .i64 0,.int .i64 8]=some (.int .i64 v8,false):=W40 h9
  obtain ⟨v10,h11,h⟩:=qa h
  have wh11:qc pr (X pr) 100 [.list false 1 [.int .i64 v6,.int .i64 v8]]=some (.int .i64 v10,false):=qwh h11
  rcases qb h with ⟨h12,h⟩ | ⟨h12,h⟩
  ·obtain ⟨v13,h14,h⟩:=qa h
   have wh14:qc pr (X pr) 55 [.str a0.kind]=some (.bool v13,false):=W55 h14
   rcases qb h with ⟨h15,h⟩ | ⟨h15,h⟩
   ·rcases qb h with ⟨h16,h⟩ | ⟨h16,h⟩
    ·rcases qb h with ⟨h17,h⟩ | ⟨h17,h⟩
     ·have hr:6=r:=Option.some.inj h
      subst hr
      refine qy rfl ?_ (fun _=>by first | rfl | simp only [go_sem,seval]) (by first | rfl | simp only [go_sem,seval])
      rw [qh (show pr.fns 157=some c157 from rfl) (by simp)]
      simp only [go_sem,seval,c157,qst h2,wh4,h5,wh7,wh9,wh11,h12,wh14,h15,h16,h17]
      exact ⟨_,rfl⟩
     ·have hr:0=r:=Option.some.inj h
      subst hr
      refine qy rfl ?_ (fun _=>by first | rfl | simp only [go_sem,seval]) (by first | rfl | simp only [go_sem,seval])
      rw [qh (show pr.fns 157=some c157 from rfl) (by simp)]
      simp only [go_sem,seval,c157,qst h2,wh4,h5,wh7,wh9,wh11,h12,wh14,h15,h16,h17]
      exact ⟨_,rfl⟩
    ·have hr:0=r:=Option.some.inj h
     subst hr
     refine qy rfl ?_ (fun _=>by first | rfl | simp only [go_sem,seval]) (by first | rfl | simp only [go_sem,seval])
     rw [qh (show pr.fns 157=some c157 from rfl) (by simp)]
     simp only [go_sem,seval,c157,qst h2,wh4,h5,wh7,wh9,wh11,h12,wh14,h15,h16]
     exact ⟨_,rfl⟩
   ·have hr:0=r:=Option.some.inj h
    subst hr
    refine qy rfl ?_ (fun _=>by first | rfl | simp only [go_sem,seval]) (by first | rfl | simp only [go_sem,seval])
    rw [qh (show pr.fns 157=some c157 from rfl) (by simp)]
    simp only [go_sem,seval,c157,qst h2,wh4,h5,wh7,wh9,wh11,h12,wh14,h15]
    exact ⟨_,rfl⟩
  ·have hr:v10=r:=Option.some.inj h
   subst hr
   refine qy rfl ?_ (fun _=>by first | rfl | simp only [go_sem,seval]) (by first | rfl | simp only [go_sem,seval])
   rw [qh (show pr.fns 157=some c157 from rfl) (by simp)]
   simp only [go_sem,seval,c157,qst h2,wh4,h5,wh7,wh9,wh11,h12]
   exact ⟨_,rfl⟩
 ·have hr:13=r:=Option.some.inj h
  subst hr
  refine qy rfl ?_ (fun _=>by first | rfl | simp only [go_sem,seval]) (by first | rfl | simp only [go_sem,seval])
  rw [qh (show pr.fns 157=some c157 from rfl) (by simp)]
  simp only [go_sem,seval,c157,qst h2,wh4,h5]
  exact ⟨_,rfl⟩
noncomputable def qio (a0:Option (List GEl)) (s0:Int):Option (Int ⊕ (Int ⊕ Int)):=
 cond (decide (s0 < ((a0.getD []).length:Int)))
  (qe (zw (a0.getD []) s0) fun v15=>
  qe (f157 v15) fun v17=>
  cond (decide (v17=0))
   (some (.inl (qf .i64 (s0 + 1))))
   (some (.inr (.inl v17))))
  (some (.inr (.inr s0)))
def qj9 (a0:Option (List GEl)) (s0:Int):ASt:=⟨[(0,sl 3 vel a0,false),(3,.int .i64 s0,false)],[]⟩
def qol (a0:Option (List GEl)):Int ⊕ Int→ji × ASt
 | .inl d=>(.ret,⟨[(2,.int .i64 d,false)],[]⟩)
 | .inr d=>(.exit 0,⟨[(0,sl 3 vel a0,false),(3,.int .i64 d,false),(11,.bool false,false)],[]⟩)
theorem jda (a0:Option (List GEl)) (s0:Int) (r) (h:qio a0 s0=some r):zj pr qgk (qj9 a0) (qol a0) s0 r:=by
 unfold qio at h
 rcases qb h with ⟨h14,h⟩ | ⟨h14,h⟩
 ·obtain ⟨v15,h16,h⟩:=qa h
  obtain ⟨v17,h18,h⟩:=qa h
  have wh18:qc pr (X pr) 157 [.agg [.str v15.kind,.int .i64 v15.a,.int .i64 v15.b]]=some (.int .i64 v17,false):=jqq h18
  rcases qb h with ⟨h19,h⟩ | ⟨h19,h⟩
  ·cases h
   exact qq (st':=⟨[(0,sl 3 vel a0,false),(3,.int .i64 (qf .i64 (s0 + 1)),false)],[]⟩) (by simp only [go_sem,seval,qgk,qj9,h14,q9 h16,wh18,h19] <;> rfl) (jb (Nat.le_refl _))
  ·cases h
   exact qj (by simp only [go_sem,seval,qgk,qj9,h14,q9 h16,wh18,h19,qol] <;> rfl)
 ·cases h
  exact qj (by simp only [go_sem,seval,qgk,qj9,h14,qol] <;> rfl)
theorem q4z (a0:Option (List GEl)) {s0:Int} {d} (h:itO (qio a0) s0=some d):X pr (.loop qgk) (qj9 a0 s0)=some (qol a0 d):=z7 (jda a0) (fun d=>by rcases d with d|d <;> (intro hh; cases hh)) h
noncomputable def f103 (a0:Option (List GEl)):Option Int:=
 cond (decide (5 < ((a0.getD []).length:Int)))
  (some 5)
  (qe (itO (qio a0) 0) fun d20=>match d20 with
   | .inl d22=>
    some d22
   | .inr d23=>
    some 0)
theorem q65 {a0:Option (List GEl)} {r} (h:f103 a0=some r):qc pr (X pr) 103 [sl 3 vel a0]=some (.int .i64 r,false):=by
 unfold f103 at h
 rcases qb h with ⟨h1,h⟩ | ⟨h1,h⟩
 ·have hr:5=r:=Option.some.inj h
  subst hr
  refine qy rfl ?_ (fun _=>by first | rfl | simp only [go_sem,seval]) (by first | rfl | simp only [go_sem,seval])
  rw [qh (show pr.fns 103=some c103 from rfl) (by simp)]
  simp only [go_sem,seval,c103,h1]
  exact ⟨_,rfl⟩
 ·obtain ⟨d20,h21,h⟩:=qa h
  rcases d20 with d22 | d23
  ·have wh21:X pr (.loop qgk) ⟨[(0,sl 3 vel a0,false),(3,.int .i64 0,false)],[]⟩=some (.ret,⟨[(2,.int .i64 d22,false)],[]⟩):=q4z a0 h21
   have hr:d22=r:=Option.some.inj h
   subst hr
   refine qy rfl ?_ (fun _=>by first | rfl | simp only [go_sem,seval]) (by first | rfl | simp only [go_sem,seval])
   rw [qh (show pr.fns 103=some c103 from rfl) (by simp)]
   simp only [go_sem,seval,c103,h1,wh21]
   exact ⟨_,rfl⟩
  ·have wh21:X pr (.loop qgk) ⟨[(0,sl 3 vel a0,false),(3,.int .i64 0,false)],[]⟩=some (.exit 0,⟨[(0,sl 3 vel a0,false),(3,.int .i64 d23,false),(11,.bool false,false)],[]⟩):=q4z a0 h21
   have hr:0=r:=Option.some.inj h
   subst hr
   refine qy rfl ?_ (fun _=>by first | rfl | simp only [go_sem,seval]) (by first | rfl | simp only [go_sem,seval])
   rw [qh (show pr.fns 103=some c103 from rfl) (by simp)]
   simp only [go_sem,seval,c103,h1,wh21]
   exact ⟨_,rfl⟩
noncomputable def qh1 (a0:qi) (s0:(Option (List GEl)) × Int × Bool) (s1:(Option (List GEl)) × Int × Bool):Option (((Option (List GEl)) × Int × Bool) ⊕ (((Option (List GEl)) × Bool × Int))):=
 cond (decide (s1.2.1≤(qf .i64 (a0.pb + a0.sb))))
  (cond s1.2.2
   (qe (apO s1.1 [⟨a0.kd,s0.2.1,s1.2.1⟩]) fun v60=>
   some (.inl (v60,qf .i64 (s1.2.1 + 1),true)))
   (cond s1.1.isNone
    (qe (apO s1.1 [⟨a0.kd,s0.2.1,s1.2.1⟩]) fun v63=>
    some (.inl (v63,qf .i64 (s1.2.1 + 1),true)))
    (none)))
  (some (.inr (s1.1,s1.2.2,s1.2.1)))
def qk6 (a0:qi) (s0:(Option (List GEl)) × Int × Bool) (s1:(Option (List GEl)) × Int × Bool):ASt:=⟨[(1,.vptr (.agg [.str a0.name,.str a0.kd,.int .i64 a0.pa,.int .i64 a0.pb,.int .i64 a0.sa,.int .i64 a0.sb,.int .i64 a0.cost,.int .i64 a0.stock]),false),(3,sl 3 vel s1.1,s1.2.2),(4,.int .i64 s0.2.1,false),(5,.int .i64 s1.2.1,false)],[]⟩
def qsy (a0:qi) (s0:(Option (List GEl)) × Int × Bool) (d:((Option (List GEl)) × Bool × Int)):ji × ASt:=(.exit 2,⟨[(1,.vptr (.agg [.str a0.name,.str a0.kd,.int .i64 a0.pa,.int .i64 a0.pb,.int .i64 a0.sa,.int .i64 a0.sb,.int .i64 a0.cost,.int .i64 a0.stock]),false),(3,sl 3 vel d.1,d.2.1),(4,.int .i64 s0.2.1,false),(5,.int .i64 d.2.2,false),(35,.bool false,false)],[]⟩)
theorem jer (a0:qi) (s0:(Option (List GEl)) × Int × Bool) (s1:(Option (List GEl)) × Int × Bool) (r) (h:qh1 a0 s0 s1=some r):zj pr qh5 (qk6 a0 s0) (qsy a0 s0) s1 r:=by
 unfold qh1 at h
 rcases qb h with ⟨h58,h⟩ | ⟨h58,h⟩
 ·rcases qb h with ⟨h59,h⟩ | ⟨h59,h⟩
  ·obtain ⟨v60,h61,h⟩:=qa h
   cases h
   exact qq (st':=⟨[(1,.vptr (.agg [.str a0.name,.str a0.kd,.int .i64 a0.pa,.int .i64 a0.pb,.int .i64 a0.sa,.int .i64 a0.sb,.int .i64 a0.cost,.int .i64 a0.stock]),false),(3,sl 3 vel v60,true),(4,.int .i64 s0.2.1,false),(5,.int .i64 (qf .i64 (s1.2.1 + 1)),false)],[]⟩) (by simp only [go_sem,seval,qh5,qk6,h58,h59,qd8 h61] <;> rfl) (jb (Nat.le_refl _))
  ·rcases qb h with ⟨h62,h⟩ | ⟨h62,h⟩
   ·obtain ⟨v63,h64,h⟩:=qa h
    cases h
    exact qq (st':=⟨[(1,.vptr (.agg [.str a0.name,.str a0.kd,.int .i64 a0.pa,.int .i64 a0.pb,.int .i64 a0.sa,.int .i64 a0.sb,.int .i64 a0.cost,.int .i64 a0.stock]),false),(3,sl 3 vel v63,true),(4,.int .i64 s0.2.1,false),(5,.int .i64 (qf .i64 (s1.2.1 + 1)),false)],[]⟩) (by simp only [go_sem,seval,qh5,qk6,h58,h59,h62,qiw h64 h62] <;> rfl) (jb (Nat.le_refl _))
   ·cases h
 ·cases h
  exact qj (by simp only [go_sem,seval,qh5,qk6,h58,qsy] <;> rfl)
theorem jf2 (a0:qi) (s0:(Option (List GEl)) × Int × Bool) {s1:(Option (List GEl)) × Int × Bool} {d} (h:itO (qh1 a0 s0) s1=some d):X pr (.loop qh5) (qk6 a0 s0 s1)=some (qsy a0 s0 d):=z7 (jer a0 s0) (fun d hh=>by cases hh) h
noncomputable def qip (a0:qi) (s0:(Option (List GEl)) × Int × Bool):Option (((Option (List GEl)) × Int × Bool) ⊕ (((Option (List GEl)) × Bool × Int))):=
 cond (decide (s0.2.1≤(qf .i64 (a0.pa + a0.sa))))
  (qe (itO (qh1 a0 s0) (s0.1,qf .i64 (a0.pb - a0.sb),s0.2.2)) fun d65=>
  some (.inl (d65.1,qf .i64 (s0.2.1 + 1),d65.2.1)))
  (some (.inr (s0.1,s0.2.2,s0.2.1)))
def qou (a0:qi) (s0:(Option (List GEl)) × Int × Bool):ASt:=⟨[(1,.vptr (.agg [.str a0.name,.str a0.kd,.int .i64 a0.pa,.int .i64 a0.pb,.int .i64 a0.sa,.int .i64 a0.sb,.int .i64 a0.cost,.int .i64 a0.stock]),false),(3,sl 3 vel s0.1,s0.2.2),(4,.int .i64 s0.2.1,false)],[]⟩
def qts (a0:qi) (d:((Option (List GEl)) × Bool × Int)):ji × ASt:=(.exit 0,⟨[(1,.vptr (.agg [.str a0.name,.str a0.kd,.int .i64 a0.pa,.int .i64 a0.pb,.int .i64 a0.sa,.int .i64 a0.sb,.int .i64 a0.cost,.int .i64 a0.stock]),false),(3,sl 3 vel d.1,d.2.1),(4,.int .i64 d.2.2,false),(19,.bool false,false)],[]⟩)
theorem jeq (a0:qi) (s0:(Option (List GEl)) × Int × Bool) (r) (h:qip a0 s0=some r):zj pr qky (qou a0) (qts a0) s0 r:=by
 unfold qip at h
 rcases qb h with ⟨h43,h⟩ | ⟨h43,h⟩
 ·obtain ⟨d65,h66,h⟩:=qa h
  have wh66:X pr (.loop qh5) ⟨[(1,.vptr (.agg [.str a0.name,.str a0.kd,.int .i64 a0.pa,.int .i64 a0.pb,.int .i64 a0.sa,.int .i64 a0.sb,.int .i64 a0.cost,.int .i64 a0.stock]),false),(3,sl 3 vel s0.1,s0.2.2),(4,.int .i64 s0.2.1,false),(5,.int .i64 (qf .i64 (a0.pb - a0.sb)),false)],[]⟩=some (.exit 2,⟨[(1,.vptr (.agg [.str a0.name,.str a0.kd,.int .i64 a0.pa,.int .i64 a0.pb,.int .i64 a0.sa,.int .i64 a0.sb,.int .i64 a0.cost,.int .i64 a0.stock]),false),(3,sl 3 vel d65.1,d65.2.1),(4,.int .i64 s0.2.1,false),(5,.int .i64 d65.2.2,false),(35,.bool false,false)],[]⟩):=jf2 a0 s0 h66
  cases h
  exact qq (st':=⟨[(1,.vptr (.agg [.str a0.name,.str a0.kd,.int .i64 a0.pa,.int .i64 a0.pb,.int .i64 a0.sa,.int .i64 a0.sb,.int .i64 a0.cost,.int .i64 a0.stock]),false),(3,sl 3 vel d65.1,d65.2.1),(4,.int .i64 (qf .i64 (s0.2.1 + 1)),false)],[]⟩) (by simp only [go_sem,seval,qky,qou,h43,wh66] <;> rfl) (jb (Nat.le_refl _))
 ·cases h
  exact qj (by simp only [go_sem,seval,qky,qou,h43,qts] <;> rfl)
theorem jef (a0:qi) {s0:(Option (List GEl)) × Int × Bool} {d} (h:itO (qip a0) s0=some d):X pr (.loop qky) (qou a0 s0)=some (qts a0 d):=z7 (jeq a0) (fun d hh=>by cases hh) h
noncomputable def f104 (a0:qi):Option ((Option (List GEl)) × Bool):=
 qe (itO (qip a0) (none,qf .i64 (a0.pa - a0.sa),false)) fun d67=>
 some (d67.1,d67.2.1)
theorem js7 {a0:qi} {r} (h:f104 a0=some r):qc pr (X pr) 104 [.agg [.str a0.name,.str a0.kd,.int .i64 a0.pa,.int .i64 a0.pb,.int .i64 a0.sa,.int .i64 a0.sb,.int .i64 a0.cost,.int .i64 a0.stock]]=some (sl 3 vel r.1,r.2):=by
 unfold f104 at h
 obtain ⟨d67,h68,h⟩:=qa h
 have wh68:X pr (.loop qky) ⟨[(1,.vptr (.agg [.str a0.name,.str a0.kd,.int .i64 a0.pa,.int .i64 a0.pb,.int .i64 a0.sa,.int .i64 a0.sb,.int .i64 a0.cost,.int .i64 a0.stock]),false),(3,.list true 0 [],false),(4,.int .i64 (qf .i64 (a0.pa - a0.sa)),false)],[]⟩=some (.exit 0,⟨[(1,.vptr (.agg [.str a0.name,.str a0.kd,.int .i64 a0.pa,.int .i64 a0.pb,.int .i64 a0.sa,.int .i64 a0.sb,.int .i64 a0.cost,.int .i64 a0.stock]),false),(3,sl 3 vel d67.1,d67.2.1),(4,.int .i64 d67.2.2,false),(19,.bool false,false)],[]⟩):=jef a0 h68
 have hr:(d67.1,d67.2.1)=r:=Option.some.inj h
 subst hr
 have this:∃ hh,jl pr (X pr) 104 [.agg [.str a0.name,.str a0.kd,.int .i64 a0.pa,.int .i64 a0.pb,.int .i64 a0.sa,.int .i64 a0.sb,.int .i64 a0.cost,.int .i64 a0.stock]] []=some (sl 3 vel d67.1,d67.2.1,hh):=by
  rw [qh (show pr.fns 104=some c104 from rfl) (by simp)]
  simp only [go_sem,seval,c104,wh68]
  exact ⟨_,rfl⟩
 obtain ⟨hh,this⟩:=this
 exact z6 rfl this (by first | rfl | simp only [go_sem,seval]) (by first | rfl | simp only [go_sem,seval]) (by first | rfl | simp only [go_sem,seval])
noncomputable def qme (v18:(Option (List GEl)) × Bool) (s0:Int):Option (Int ⊕ (Unit ⊕ Int)):=
 cond (decide (s0 < ((v18.1.getD []).length:Int)))
  (qe (qo9 v18.1 (some s0) (some (qf .i64 (s0 + 1)))) fun v33=>
  qe (f103 v33) fun v35=>
  cond (decide (v35=0))
   (some (.inl (qf .i64 (s0 + 1))))
   (some (.inr (.inl ()))))
  (some (.inr (.inr s0)))
def qnf (v18:(Option (List GEl)) × Bool) (s0:Int):ASt:=⟨[(4,sl 3 vel v18.1,v18.2),(5,.int .i64 s0,false)],[]⟩
def qq0 (v18:(Option (List GEl)) × Bool):Unit ⊕ Int→ji × ASt
 | .inl d=>(.ret,⟨[(2,.int .i64 1,false)],[]⟩)
 | .inr d=>(.exit 0,⟨[(4,sl 3 vel v18.1,v18.2),(5,.int .i64 d,false),(37,.bool false,false)],[]⟩)
theorem jmu (v18:(Option (List GEl)) × Bool) (s0:Int) (r) (h:qme v18 s0=some r):zj pr qi7 (qnf v18) (qq0 v18) s0 r:=by
 unfold qme at h
 rcases qb h with ⟨h32,h⟩ | ⟨h32,h⟩
 ·obtain ⟨v33,h34,h⟩:=qa h
  obtain ⟨v35,h36,h⟩:=qa h
  rcases qb h with ⟨h37,h⟩ | ⟨h37,h⟩
  ·cases h
   exact qq (st':=⟨[(4,sl 3 vel v18.1,v18.2),(5,.int .i64 (qf .i64 (s0 + 1)),false)],[]⟩) (by simp only [go_sem,seval,qi7,qnf,h32,qxv h34,q65 h36,h37] <;> rfl) (jb (Nat.le_refl _))
  ·cases h
   exact qj (by simp only [go_sem,seval,qi7,qnf,h32,qxv h34,q65 h36,h37,qq0] <;> rfl)
 ·cases h
  exact qj (by simp only [go_sem,seval,qi7,qnf,h32,qq0] <;> rfl)
theorem q88 (v18:(Option (List GEl)) × Bool) {s0:Int} {d} (h:itO (qme v18) s0=some d):X pr (.loop qi7) (qnf v18 s0)=some (qq0 v18 d):=z7 (jmu v18) (fun d=>by rcases d with d|d <;> (intro hh; cases hh)) h
noncomputable def f20 (a0:qi):Option Int:=
 qe (f102 a0.name) fun v1=>
 qe (f101 (!v1) 8) fun v3=>
 qe (f103 (some [⟨a0.kd,a0.pa,a0.pb⟩])) fun v5=>
 qe (f40 a0.sa 0 1) fun v7=>
 qe (f40 a0.sb 0 1) fun v9=>
 qe (f40 a0.cost 1 1000000) fun v11=>
 qe (f40 a0.stock 0 100) fun v13=>
 qe (f100 (some [v3,v5,v7,v9,v11,v13])) fun v15=>
 cond (decide (v15=0))
  (qe (f104 a0) fun v18=>
  qe (itO (qme v18) 0) fun d38=>match d38 with
   | .inl d40=>
    some 1
   | .inr d41=>
    some 0)
  (some v15)
theorem W20 {a0:qi} {r} (h:f20 a0=some r):qc pr (X pr) 20 [.agg [.str a0.name,.str a0.kd,.int .i64 a0.pa,.int .i64 a0.pb,.int .i64 a0.sa,.int .i64 a0.sb,.int .i64 a0.cost,.int .i64 a0.stock]]=some (.int .i64 r,false):=by
 unfold f20 at h
 obtain ⟨v1,h2,h⟩:=qa h
 have wh2:qc pr (X pr) 102 [.str a0.name]=some (.bool v1,false):=jrd h2
 obtain ⟨v3,h4,h⟩:=qa h
 have wh4:qc pr (X pr) 101 [.bool (!v1),.int .i64 8]=some (.int .i64 v3,false):=jej h4
 obtain ⟨v5,h6,h⟩:=qa h
 have wh6:qc pr (X pr) 103 [.list false 3 [.agg [.str a0.kd,.int .i64 a0.pa,.int .i64 a0.pb]]]=some (.int .i64 v5,false):=q65 h6
 obtain ⟨v7,h8,h⟩:=qa h
 have wh8:qc pr (X pr) 40 [.int .i64 a0.sa,.int .i64 0,.int .i64 1]=some (.int .i64 v7,false):=W40 h8
 obtain ⟨v9,h10,h⟩:=qa h
 have wh10:qc pr (X pr) 40 [.int .i64 a0.sb,.int .i64 0,.int .i64 1]=some (.int .i64 v9,false):=W40 h10
 obtain ⟨v11,h12,h⟩:=qa h
 have wh12:qc pr (X pr) 40 [.int .i64 a0.cost,.int .i64 1,.int .i64 1000000]=some (.int .i64 v11,false):=W40 h12
 obtain ⟨v13,h14,h⟩:=qa h
 have wh14:qc pr (X pr) 40 [.int .i64 a0.stock,.int .i64 0,.int .i64 100]=some (.int .i64 v13,false):=W40 h14
 obtain ⟨v15,h16,h⟩:=qa h
 have wh16:qc pr (X pr) 100 [.list false 1 [.int .i64 v3,.int .i64 v5,.int .i64 v7,.int .i64 v9,.int .i64 v11,.int .i64 v13]]=some (.int .i64 v15,false):=qwh h16
 rcases qb h with ⟨h17,h⟩ | ⟨h17,h⟩
 ·obtain ⟨v18,h19,h⟩:=qa h
  have wh19:qc pr (X pr) 104 [.agg [.str a0.name,.str a0.kd,.int .i64 a0.pa,.int .i64 a0.pb,.int .i64 a0.sa,.int .i64 a0.sb,.int .i64 a0.cost,.int .i64 a0.stock]]=some (sl 3 vel v18.1,v18.2):=js7 h19
  obtain ⟨d38,h39,h⟩:=qa h
  rcases d38 with d40 | d41
  ·have wh39:X pr (.loop qi7) ⟨[(4,sl 3 vel v18.1,v18.2),(5,.int .i64 0,false)],[]⟩=some (.ret,⟨[(2,.int .i64 1,false)],[]⟩):=q88 v18 h39
   have hr:1=r:=Option.some.inj h
   subst hr
   refine qy rfl ?_ (fun _=>by first | rfl | simp only [go_sem,seval]) (by first | rfl | simp only [go_sem,seval])
   rw [qh (show pr.fns 20=some c20 from rfl) (by simp)]
   simp only [go_sem,seval,c20,wh2,wh4,wh6,wh8,wh10,wh12,wh14,wh16,h17,wh19,wh39]
   exact ⟨_,rfl⟩
  ·have wh39:X pr (.loop qi7) ⟨[(4,sl 3 vel v18.1,v18.2),(5,.int .i64 0,false)],[]⟩=some (.exit 0,⟨[(4,sl 3 vel v18.1,v18.2),(5,.int .i64 d41,false),(37,.bool false,false)],[]⟩):=q88 v18 h39
   have hr:0=r:=Option.some.inj h
   subst hr
   refine qy rfl ?_ (fun _=>by first | rfl | simp only [go_sem,seval]) (by first | rfl | simp only [go_sem,seval])
   rw [qh (show pr.fns 20=some c20 from rfl) (by simp)]
   simp only [go_sem,seval,c20,wh2,wh4,wh6,wh8,wh10,wh12,wh14,wh16,h17,wh19,wh39]
   exact ⟨_,rfl⟩
 ·have hr:v15=r:=Option.some.inj h
  subst hr
  refine qy rfl ?_ (fun _=>by first | rfl | simp only [go_sem,seval]) (by first | rfl | simp only [go_sem,seval])
  rw [qh (show pr.fns 20=some c20 from rfl) (by simp)]
  simp only [go_sem,seval,c20,wh2,wh4,wh6,wh8,wh10,wh12,wh14,wh16,h17]
  exact ⟨_,rfl⟩
noncomputable def qlk (a0:Option (List qi)) (s0:Int) (s1:Int):Option (Int ⊕ (Unit ⊕ Int)):=
 cond (decide (s1 < s0))
  (qe (zw (a0.getD []) s1) fun v55=>
  qe (zw (a0.getD []) s0) fun v57=>
  cond (decide (v55.name=v57.name))
   (some (.inr (.inl ())))
   (some (.inl (qf .i64 (s1 + 1)))))
  (some (.inr (.inr s1)))
def qnd (a0:Option (List qi)) (s0:Int) (s1:Int):ASt:=⟨[(0,sl 8 qm a0,false),(3,.int .i64 s0,false),(5,.int .i64 s1,false)],[]⟩
def qrw (a0:Option (List qi)) (s0:Int):Unit ⊕ Int→ji × ASt
 | .inl d=>(.ret,⟨[(2,.int .i64 9,false)],[]⟩)
 | .inr d=>(.exit 2,⟨[(0,sl 8 qm a0,false),(3,.int .i64 s0,false),(5,.int .i64 d,false),(25,.bool false,false)],[]⟩)
theorem jkj (a0:Option (List qi)) (s0:Int) (s1:Int) (r) (h:qlk a0 s0 s1=some r):zj pr qjc (qnd a0 s0) (qrw a0 s0) s1 r:=by
 unfold qlk at h
 rcases qb h with ⟨h54,h⟩ | ⟨h54,h⟩
 ·obtain ⟨v55,h56,h⟩:=qa h
  obtain ⟨v57,h58,h⟩:=qa h
  rcases qb h with ⟨h59,h⟩ | ⟨h59,h⟩
  ·cases h
   exact qj (by simp only [go_sem,seval,qjc,qnd,h54,q9 h56,q9 h58,h59,qrw] <;> rfl)
  ·cases h
   exact qq (st':=⟨[(0,sl 8 qm a0,false),(3,.int .i64 s0,false),(5,.int .i64 (qf .i64 (s1 + 1)),false)],[]⟩) (by simp only [go_sem,seval,qjc,qnd,h54,q9 h56,q9 h58,h59] <;> rfl) (jb (Nat.le_refl _))
 ·cases h
  exact qj (by simp only [go_sem,seval,qjc,qnd,h54,qrw] <;> rfl)
theorem q9g (a0:Option (List qi)) (s0:Int) {s1:Int} {d} (h:itO (qlk a0 s0) s1=some d):X pr (.loop qjc) (qnd a0 s0 s1)=some (qrw a0 s0 d):=z7 (jkj a0 s0) (fun d=>by rcases d with d|d <;> (intro hh; cases hh)) h
noncomputable def qi5 (a0:Option (List qi)) (s0:Int):Option (Int ⊕ (Int ⊕ Int)):=
 cond (decide (s0 < ((a0.getD []).length:Int)))
  (qe (zw (a0.getD []) s0) fun v37=>
  qe (f20 v37) fun v39=>
  cond (decide (v39=0))
   (qe (itO (qlk a0 s0) 0) fun d60=>match d60 with
    | .inl d62=>
     some (.inr (.inl 9))
    | .inr d63=>
     some (.inl (qf .i64 (s0 + 1))))
   (some (.inr (.inl v39))))
  (some (.inr (.inr s0)))
def qli (a0:Option (List qi)) (s0:Int):ASt:=⟨[(0,sl 8 qm a0,false),(3,.int .i64 s0,false)],[]⟩
def qn0 (a0:Option (List qi)):Int ⊕ Int→ji × ASt
 | .inl d=>(.ret,⟨[(2,.int .i64 d,false)],[]⟩)
 | .inr d=>(.exit 0,⟨[(0,sl 8 qm a0,false),(3,.int .i64 d,false),(12,.bool false,false)],[]⟩)
theorem jkn (a0:Option (List qi)) (s0:Int) (r) (h:qi5 a0 s0=some r):zj pr qhj (qli a0) (qn0 a0) s0 r:=by
 unfold qi5 at h
 rcases qb h with ⟨h36,h⟩ | ⟨h36,h⟩
 ·obtain ⟨v37,h38,h⟩:=qa h
  obtain ⟨v39,h40,h⟩:=qa h
  have wh40:qc pr (X pr) 20 [.agg [.str v37.name,.str v37.kd,.int .i64 v37.pa,.int .i64 v37.pb,.int .i64 v37.sa,.int .i64 v37.sb,.int .i64 v37.cost,.int .i64 v37.stock]]=some (.int .i64 v39,false):=W20 h40
  rcases qb h with ⟨h41,h⟩ | ⟨h41,h⟩
  ·obtain ⟨d60,h61,h⟩:=qa h
   rcases d60 with d62 | d63
   ·have wh61:X pr (.loop qjc) ⟨[(0,sl 8 qm a0,false),(3,.int .i64 s0,false),(5,.int .i64 0,false)],[]⟩=some (.ret,⟨[(2,.int .i64 9,false)],[]⟩):=q9g a0 s0 h61
    cases h
    exact qj (by simp only [go_sem,seval,qhj,qli,h36,q9 h38,wh40,h41,wh61,qn0] <;> rfl)
   ·have wh61:X pr (.loop qjc) ⟨[(0,sl 8 qm a0,false),(3,.int .i64 s0,false),(5,.int .i64 0,false)],[]⟩=some (.exit 2,⟨[(0,sl 8 qm a0,false),(3,.int .i64 s0,false),(5,.int .i64 d63,false),(25,.bool false,false)],[]⟩):=q9g a0 s0 h61
    cases h
    exact qq (st':=⟨[(0,sl 8 qm a0,false),(3,.int .i64 (qf .i64 (s0 + 1)),false)],[]⟩) (by simp only [go_sem,seval,qhj,qli,h36,q9 h38,wh40,h41,wh61] <;> rfl) (jb (Nat.le_refl _))
  ·cases h
   exact qj (by simp only [go_sem,seval,qhj,qli,h36,q9 h38,wh40,h41,qn0] <;> rfl)
 ·cases h
  exact qj (by simp only [go_sem,seval,qhj,qli,h36,qn0] <;> rfl)
theorem q9r (a0:Option (List qi)) {s0:Int} {d} (h:itO (qi5 a0) s0=some d):X pr (.loop qhj) (qli a0 s0)=some (qn0 a0 d):=z7 (jkn a0) (fun d=>by rcases d with d|d <;> (intro hh; cases hh)) h
noncomputable def f25 (a0:Option (List qi)):Option Int:=
 cond (decide (6 < ((a0.getD []).length:Int)))
  (some 5)
  (qe (itO (qi5 a0) 0) fun d64=>match d64 with
   | .inl d66=>
    some d66
   | .inr d67=>
    some 0)
theorem W25 {a0:Option (List qi)} {r} (h:f25 a0=some r):qc pr (X pr) 25 [sl 8 qm a0]=some (.int .i64 r,false):=by
 unfold f25 at h
 rcases qb h with ⟨h1,h⟩ | ⟨h1,h⟩
 ·have hr:5=r:=Option.some.inj h
  subst hr
  refine qy rfl ?_ (fun _=>by first | rfl | simp only [go_sem,seval]) (by first | rfl | simp only [go_sem,seval])
  rw [qh (show pr.fns 25=some c25 from rfl) (by simp)]
  simp only [go_sem,seval,c25,h1]
  exact ⟨_,rfl⟩
 ·obtain ⟨d64,h65,h⟩:=qa h
  rcases d64 with d66 | d67
  ·have wh65:X pr (.loop qhj) ⟨[(0,sl 8 qm a0,false),(3,.int .i64 0,false)],[]⟩=some (.ret,⟨[(2,.int .i64 d66,false)],[]⟩):=q9r a0 h65
   have hr:d66=r:=Option.some.inj h
   subst hr
   refine qy rfl ?_ (fun _=>by first | rfl | simp only [go_sem,seval]) (by first | rfl | simp only [go_sem,seval])
   rw [qh (show pr.fns 25=some c25 from rfl) (by simp)]
   simp only [go_sem,seval,c25,h1,wh65]
   exact ⟨_,rfl⟩
  ·have wh65:X pr (.loop qhj) ⟨[(0,sl 8 qm a0,false),(3,.int .i64 0,false)],[]⟩=some (.exit 0,⟨[(0,sl 8 qm a0,false),(3,.int .i64 d67,false),(12,.bool false,false)],[]⟩):=q9r a0 h65
   have hr:0=r:=Option.some.inj h
   subst hr
   refine qy rfl ?_ (fun _=>by first | rfl | simp only [go_sem,seval]) (by first | rfl | simp only [go_sem,seval])
   rw [qh (show pr.fns 25=some c25 from rfl) (by simp)]
   simp only [go_sem,seval,c25,h1,wh65]
   exact ⟨_,rfl⟩
noncomputable def qhf (a0:Option (List qi)) (s0:Int):Option (Int ⊕ (Unit ⊕ Int)):=
 cond (decide (s0 < ((a0.getD []).length:Int)))
  (qe (zw (a0.getD []) s0) fun v14=>
  cond (decide (60 < (v14.name.length:Int)))
   (some (.inr (.inl ())))
   (cond (decide (60 < (v14.kd.length:Int)))
    (some (.inr (.inl ())))
    (some (.inl (qf .i64 (s0 + 1))))))
  (some (.inr (.inr s0)))
def qkg (a0:Option (List qi)) (s0:Int):ASt:=⟨[(0,sl 8 qm a0,false),(3,.int .i64 s0,false)],[]⟩
def qny (a0:Option (List qi)):Unit ⊕ Int→ji × ASt
 | .inl d=>(.ret,⟨[(2,.bool false,false)],[]⟩)
 | .inr d=>(.exit 0,⟨[(0,sl 8 qm a0,false),(3,.int .i64 d,false),(15,.bool false,false)],[]⟩)
theorem jne (a0:Option (List qi)) (s0:Int) (r) (h:qhf a0 s0=some r):zj pr qbr (qkg a0) (qny a0) s0 r:=by
 unfold qhf at h
 rcases qb h with ⟨h13,h⟩ | ⟨h13,h⟩
 ·obtain ⟨v14,h15,h⟩:=qa h
  rcases qb h with ⟨h16,h⟩ | ⟨h16,h⟩
  ·cases h
   exact qj (by simp only [go_sem,seval,qbr,qkg,h13,q9 h15,h16,qny] <;> rfl)
  ·rcases qb h with ⟨h17,h⟩ | ⟨h17,h⟩
   ·cases h
    exact qj (by simp only [go_sem,seval,qbr,qkg,h13,q9 h15,h16,h17,qny] <;> rfl)
   ·cases h
    exact qq (st':=⟨[(0,sl 8 qm a0,false),(3,.int .i64 (qf .i64 (s0 + 1)),false)],[]⟩) (by simp only [go_sem,seval,qbr,qkg,h13,q9 h15,h16,h17] <;> rfl) (jb (Nat.le_refl _))
 ·cases h
  exact qj (by simp only [go_sem,seval,qbr,qkg,h13,qny] <;> rfl)
theorem q9f (a0:Option (List qi)) {s0:Int} {d} (h:itO (qhf a0) s0=some d):X pr (.loop qbr) (qkg a0 s0)=some (qny a0 d):=z7 (jne a0) (fun d=>by rcases d with d|d <;> (intro hh; cases hh)) h
noncomputable def qob (a0:Option (List qi)) (s0:Int):Option (Int ⊕ (Unit ⊕ Int)):=
 cond (decide (s0 < ((a0.getD []).length:Int)))
  (qe (zw (a0.getD []) s0) fun v33=>
  cond (decide (60 < (v33.name.length:Int)))
   (some (.inr (.inl ())))
   (cond (decide (60 < (v33.kd.length:Int)))
    (some (.inr (.inl ())))
    (some (.inl (qf .i64 (s0 + 1))))))
  (some (.inr (.inr s0)))
def qhq (a0:Option (List qi)) (s0:Int):ASt:=⟨[(0,sl 8 qm a0,false),(3,.int .i64 s0,false)],[]⟩
def qlh (a0:Option (List qi)):Unit ⊕ Int→ji × ASt
 | .inl d=>(.ret,⟨[(2,.bool false,false)],[]⟩)
 | .inr d=>(.exit 0,⟨[(0,sl 8 qm a0,false),(3,.int .i64 d,false),(15,.bool false,false)],[]⟩)
theorem je5 (a0:Option (List qi)) (s0:Int) (r) (h:qob a0 s0=some r):zj pr qbr (qhq a0) (qlh a0) s0 r:=by
 unfold qob at h
 rcases qb h with ⟨h32,h⟩ | ⟨h32,h⟩
 ·obtain ⟨v33,h34,h⟩:=qa h
  rcases qb h with ⟨h35,h⟩ | ⟨h35,h⟩
  ·cases h
   exact qj (by simp only [go_sem,seval,qbr,qhq,h32,q9 h34,h35,qlh] <;> rfl)
  ·rcases qb h with ⟨h36,h⟩ | ⟨h36,h⟩
   ·cases h
    exact qj (by simp only [go_sem,seval,qbr,qhq,h32,q9 h34,h35,h36,qlh] <;> rfl)
   ·cases h
    exact qq (st':=⟨[(0,sl 8 qm a0,false),(3,.int .i64 (qf .i64 (s0 + 1)),false)],[]⟩) (by simp only [go_sem,seval,qbr,qhq,h32,q9 h34,h35,h36] <;> rfl) (jb (Nat.le_refl _))
 ·cases h
  exact qj (by simp only [go_sem,seval,qbr,qhq,h32,qlh] <;> rfl)
theorem q5o (a0:Option (List qi)) {s0:Int} {d} (h:itO (qob a0) s0=some d):X pr (.loop qbr) (qhq a0 s0)=some (qlh a0 d):=z7 (je5 a0) (fun d=>by rcases d with d|d <;> (intro hh; cases hh)) h
noncomputable def f17 (a0:Option (List qi)):Option Bool:=
 cond (decide (4 < ((a0.getD []).length:Int)))
  (cond (decide (((a0.getD []).length:Int)=7))
   (qe (itO (qhf a0) 0) fun d18=>match d18 with
    | .inl d20=>
     some false
    | .inr d21=>
     some true)
   (some false))
  (qe (itO (qob a0) 0) fun d37=>match d37 with
   | .inl d39=>
    some false
   | .inr d40=>
    some true)
theorem W17 {a0:Option (List qi)} {r} (h:f17 a0=some r):qc pr (X pr) 17 [sl 8 qm a0]=some (.bool r,false):=by
 unfold f17 at h
 rcases qb h with ⟨h1,h⟩ | ⟨h1,h⟩
 ·rcases qb h with ⟨h2,h⟩ | ⟨h2,h⟩
  ·obtain ⟨d18,h19,h⟩:=qa h
   rcases d18 with d20 | d21
   ·have wh19:X pr (.loop qbr) ⟨[(0,sl 8 qm a0,false),(3,.int .i64 0,false)],[]⟩=some (.ret,⟨[(2,.bool false,false)],[]⟩):=q9f a0 h19
    have hr:false=r:=Option.some.inj h
    subst hr
    refine qy rfl ?_ (fun _=>by first | rfl | simp only [go_sem,seval]) (by first | rfl | simp only [go_sem,seval])
    rw [qh (show pr.fns 17=some c17 from rfl) (by simp)]
    simp only [go_sem,seval,c17,h1,h2,wh19]
    exact ⟨_,rfl⟩
   ·have wh19:X pr (.loop qbr) ⟨[(0,sl 8 qm a0,false),(3,.int .i64 0,false)],[]⟩=some (.exit 0,⟨[(0,sl 8 qm a0,false),(3,.int .i64 d21,false),(15,.bool false,false)],[]⟩):=q9f a0 h19
    have hr:true=r:=Option.some.inj h
    subst hr
    refine qy rfl ?_ (fun _=>by first | rfl | simp only [go_sem,seval]) (by first | rfl | simp only [go_sem,seval])
    rw [qh (show pr.fns 17=some c17 from rfl) (by simp)]
    simp only [go_sem,seval,c17,h1,h2,wh19]
    exact ⟨_,rfl⟩
  ·have hr:false=r:=Option.some.inj h
   subst hr
   refine qy rfl ?_ (fun _=>by first | rfl | simp only [go_sem,seval]) (by first | rfl | simp only [go_sem,seval])
   rw [qh (show pr.fns 17=some c17 from rfl) (by simp)]
   simp only [go_sem,seval,c17,h1,h2]
   exact ⟨_,rfl⟩
 ·obtain ⟨d37,h38,h⟩:=qa h
  rcases d37 with d39 | d40
  ·have wh38:X pr (.loop qbr) ⟨[(0,sl 8 qm a0,false),(3,.int .i64 0,false)],[]⟩=some (.ret,⟨[(2,.bool false,false)],[]⟩):=q5o a0 h38
   have hr:false=r:=Option.some.inj h
   subst hr
   refine qy rfl ?_ (fun _=>by first | rfl | simp only [go_sem,seval]) (by first | rfl | simp only [go_sem,seval])
   rw [qh (show pr.fns 17=some c17 from rfl) (by simp)]
   simp only [go_sem,seval,c17,h1,wh38]
   exact ⟨_,rfl⟩
  ·have wh38:X pr (.loop qbr) ⟨[(0,sl 8 qm a0,false),(3,.int .i64 0,false)],[]⟩=some (.exit 0,⟨[(0,sl 8 qm a0,false),(3,.int .i64 d40,false),(15,.bool false,false)],[]⟩):=q5o a0 h38
   have hr:true=r:=Option.some.inj h
   subst hr
   refine qy rfl ?_ (fun _=>by first | rfl | simp only [go_sem,seval]) (by first | rfl | simp only [go_sem,seval])
   rw [qh (show pr.fns 17=some c17 from rfl) (by simp)]
   simp only [go_sem,seval,c17,h1,wh38]
   exact ⟨_,rfl⟩
noncomputable def f19 (a0:qi):Option qi:=
 some a0
theorem W19 {a0:qi} {r} (h:f19 a0=some r):qc pr (X pr) 19 [.agg [.str a0.name,.str a0.kd,.int .i64 a0.pa,.int .i64 a0.pb,.int .i64 a0.sa,.int .i64 a0.sb,.int .i64 a0.cost,.int .i64 a0.stock]]=some (.agg [.str r.name,.str r.kd,.int .i64 r.pa,.int .i64 r.pb,.int .i64 r.sa,.int .i64 r.sb,.int .i64 r.cost,.int .i64 r.stock],false):=by
 unfold f19 at h
 have hr:a0=r:=Option.some.inj h
 subst hr
 refine qy rfl ?_ (fun _=>by first | rfl | simp only [go_sem,seval]) (by first | rfl | simp only [go_sem,seval])
 rw [qh (show pr.fns 19=some c19 from rfl) (by simp)]
 simp only [go_sem,seval,c19]
 exact ⟨_,rfl⟩
noncomputable def qmm (a0:Option (List qi)) (s0:(Option (List qi)) × Int × Bool):Option (((Option (List qi)) × Int × Bool) ⊕ (((Option (List qi)) × Bool × Int))):=
 cond (decide (s0.2.1 < ((a0.getD []).length:Int)))
  (qe (zw (a0.getD []) s0.2.1) fun v18=>
  qe (f19 v18) fun v20=>
  cond s0.2.2
   (qe (apO s0.1 [v20]) fun v23=>
   some (.inl (v23,qf .i64 (s0.2.1 + 1),true)))
   (cond s0.1.isNone
    (qe (apO s0.1 [v20]) fun v26=>
    some (.inl (v26,qf .i64 (s0.2.1 + 1),true)))
    (none)))
  (some (.inr (s0.1,s0.2.2,s0.2.1)))
def qej (a0:Option (List qi)) (s0:(Option (List qi)) × Int × Bool):ASt:=⟨[(3,sl 8 qm s0.1,s0.2.2),(6,sl 8 qm a0,false),(7,.int .i64 ((a0.getD []).length:Int),false),(8,.int .i64 s0.2.1,false)],[]⟩
def qwb (a0:Option (List qi)) (d:((Option (List qi)) × Bool × Int)):ji × ASt:=(.exit 0,⟨[(3,sl 8 qm d.1,d.2.1),(6,sl 8 qm a0,false),(7,.int .i64 ((a0.getD []).length:Int),false),(8,.int .i64 d.2.2,false),(9,.bool false,false)],[]⟩)
theorem jlz (a0:Option (List qi)) (s0:(Option (List qi)) × Int × Bool) (r) (h:qmm a0 s0=some r):zj pr qlj (qej a0) (qwb a0) s0 r:=by
 unfold qmm at h
 rcases qb h with ⟨h17,h⟩ | ⟨h17,h⟩
 ·obtain ⟨v18,h19,h⟩:=qa h
  obtain ⟨v20,h21,h⟩:=qa h
  have wh21:qc pr (X pr) 19 [.agg [.str v18.name,.str v18.kd,.int .i64 v18.pa,.int .i64 v18.pb,.int .i64 v18.sa,.int .i64 v18.sb,.int .i64 v18.cost,.int .i64 v18.stock]]=some (.agg [.str v20.name,.str v20.kd,.int .i64 v20.pa,.int .i64 v20.pb,.int .i64 v20.sa,.int .i64 v20.sb,.int .i64 v20.cost,.int .i64 v20.stock],false):=W19 h21
  rcases qb h with ⟨h22,h⟩ | ⟨h22,h⟩
  ·obtain ⟨v23,h24,h⟩:=qa h
   cases h
   exact qq (st':=⟨[(3,sl 8 qm v23,true),(6,sl 8 qm a0,false),(7,.int .i64 ((a0.getD []).length:Int),false),(8,.int .i64 (qf .i64 (s0.2.1 + 1)),false)],[]++[.cells [(.str v18.name,false),(.str v18.kd,false),(.int .i64 v18.pa,false),(.int .i64 v18.pb,false),(.int .i64 v18.sa,false),(.int .i64 v18.sb,false),(.int .i64 v18.cost,false),(.int .i64 v18.stock,false)]]⟩) (by simp only [go_sem,seval,qlj,qej,h17,q9 h19,wh21,h22,qze h24] <;> rfl) (zz rfl rfl (by first | simp only [go_sem,seval,qej] | rfl) (by first | simp only [go_sem,seval,qej] | rfl))
  ·rcases qb h with ⟨h25,h⟩ | ⟨h25,h⟩
   ·obtain ⟨v26,h27,h⟩:=qa h
    cases h
    exact qq (st':=⟨[(3,sl 8 qm v26,true),(6,sl 8 qm a0,false),(7,.int .i64 ((a0.getD []).length:Int),false),(8,.int .i64 (qf .i64 (s0.2.1 + 1)),false)],[]++[.cells [(.str v18.name,false),(.str v18.kd,false),(.int .i64 v18.pa,false),(.int .i64 v18.pb,false),(.int .i64 v18.sa,false),(.int .i64 v18.sb,false),(.int .i64 v18.cost,false),(.int .i64 v18.stock,false)]]⟩) (by simp only [go_sem,seval,qlj,qej,h17,q9 h19,wh21,h22,h25,qy2 h27 h25] <;> rfl) (zz rfl rfl (by first | simp only [go_sem,seval,qej] | rfl) (by first | simp only [go_sem,seval,qej] | rfl))
   ·cases h
 ·cases h
  exact qj (by simp only [go_sem,seval,qlj,qej,h17,qwb] <;> rfl)
theorem jm6 (a0:Option (List qi)) {s0:(Option (List qi)) × Int × Bool} {d} (h:itO (qmm a0) s0=some d):X pr (.loop qlj) (qej a0 s0)=some (qwb a0 d):=z7 (jlz a0) (fun d hh=>by cases hh) h
noncomputable def f24 (a0:Option (List qi)):Option ((Option (List qi)) × Bool):=
 qe (itO (qmm a0) (none,0,false)) fun d28=>
 some (d28.1,d28.2.1)
theorem W24 {a0:Option (List qi)} {r} (h:f24 a0=some r):qc pr (X pr) 24 [sl 8 qm a0]=some (sl 8 qm r.1,r.2):=by
 unfold f24 at h
 obtain ⟨d28,h29,h⟩:=qa h
 have wh29:X pr (.loop qlj) ⟨[(3,.list true 0 [],false),(6,sl 8 qm a0,false),(7,.int .i64 ((a0.getD []).length:Int),false),(8,.int .i64 0,false)],[]⟩=some (.exit 0,⟨[(3,sl 8 qm d28.1,d28.2.1),(6,sl 8 qm a0,false),(7,.int .i64 ((a0.getD []).length:Int),false),(8,.int .i64 d28.2.2,false),(9,.bool false,false)],[]⟩):=jm6 a0 h29
 have hr:(d28.1,d28.2.1)=r:=Option.some.inj h
 subst hr
 have this:∃ hh,jl pr (X pr) 24 [sl 8 qm a0] []=some (sl 8 qm d28.1,d28.2.1,hh):=by
  rw [qh (show pr.fns 24=some c24 from rfl) (by simp)]
  simp only [go_sem,seval,c24,wh29]
  exact ⟨_,rfl⟩
 obtain ⟨hh,this⟩:=this
 exact z6 rfl this (by first | rfl | simp only [go_sem,seval]) (by first | rfl | simp only [go_sem,seval]) (by first | rfl | simp only [go_sem,seval])
end Go.Z
