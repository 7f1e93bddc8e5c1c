/- The structs of chapter 4, the map of kinds, maps of texts to true. -/
import Derived.Test.YtnjngdcbkkonnaaGreatDoorG0
import Derived.Test.YtnjngdcbkkonnaaGreatDoorAbsL
import Derived.Test.YtnjngdcbkkonnaaGreatDoorZM
set_option linter.unusedVariables false
set_option linter.unusedSimpArgs false
set_option maxRecDepth 100000
namespace Go.Z
open Go Go.Abs
structure GEl where
 kind:List UInt8
 a:Int
 b:Int
def vel (p:GEl):AVal:=.agg [.str p.kind,.int .i64 p.a,.int .i64 p.b]
@[go_sem] theorem jwt {p:GEl}:(vel p).flat=[.str p.kind,.int .i64 p.a,.int .i64 p.b]:=rfl
@[go_sem] theorem q65 {n:Nat} (p:GEl):below n (vel p)=true:=by rfl
@[go_sem] theorem q4u {n z:Nat} {l:Option (List GEl)}:below n (sl z vel l)=true:=qdf q65
@[go_sem] theorem ju0 {p:GEl}:AVal.vptr (vel p)=.vptr (.agg [.str p.kind,.int .i64 p.a,.int .i64 p.b]):=rfl
theorem qbt {b t:Nat} {h:qk} {bb:Bool} {p:GEl} {o v:Option (List GEl)} (hv:apO o [p]=some v):appR 3 b h (some t) (some (sl 3 vel o)) (some (.list bb 3 [.agg [.str p.kind,.int .i64 p.a,.int .i64 p.b]]))=ifR (decide (b≤4096)) (some ⟨sl 3 vel v,true,some t,h⟩):=qjj (x:=p) (by omega) rfl hv
theorem qoy {b:Nat} {h:qk} {bb:Bool} {p:GEl} {o v:Option (List GEl)} (hv:apO o [p]=some v) (hn:o.isNone=true):appR 3 b h none (some (sl 3 vel o)) (some (.list bb 3 [.agg [.str p.kind,.int .i64 p.a,.int .i64 p.b]]))=ifR (decide (b≤4096)) (some ⟨sl 3 vel v,true,none,h⟩):=qek (x:=p) (by omega) rfl hn hv
structure ql where
 name:List UInt8
 kd:List UInt8
 pa:Int
 pb:Int
 sa:Int
 sb:Int
 cost:Int
 stock:Int
def qq (p:ql):AVal:=.agg [.str p.name,.str p.kd,.int .i64 p.pa,.int .i64 p.pb,.int .i64 p.sa,.int .i64 p.sb,.int .i64 p.cost,.int .i64 p.stock]
@[go_sem] theorem jq4 {p:ql}:(qq p).flat=[.str p.name,.str p.kd,.int .i64 p.pa,.int .i64 p.pb,.int .i64 p.sa,.int .i64 p.sb,.int .i64 p.cost,.int .i64 p.stock]:=rfl
@[go_sem] theorem q1r {n:Nat} (p:ql):below n (qq p)=true:=by rfl
@[go_sem] theorem jfq {n z:Nat} {l:Option (List ql)}:below n (sl z qq l)=true:=qdf q1r
@[go_sem] theorem jnr {p:ql}:AVal.vptr (qq p)=.vptr (.agg [.str p.name,.str p.kd,.int .i64 p.pa,.int .i64 p.pb,.int .i64 p.sa,.int .i64 p.sb,.int .i64 p.cost,.int .i64 p.stock]):=rfl
theorem q13 {b t:Nat} {h:qk} {bb:Bool} {p:ql} {o v:Option (List ql)} (hv:apO o [p]=some v):appR 8 b h (some t) (some (sl 8 qq o)) (some (.list bb 8 [.agg [.str p.name,.str p.kd,.int .i64 p.pa,.int .i64 p.pb,.int .i64 p.sa,.int .i64 p.sb,.int .i64 p.cost,.int .i64 p.stock]]))=ifR (decide (b≤4096)) (some ⟨sl 8 qq v,true,some t,h⟩):=qjj (x:=p) (by omega) rfl hv
theorem q1k {b:Nat} {h:qk} {bb:Bool} {p:ql} {o v:Option (List ql)} (hv:apO o [p]=some v) (hn:o.isNone=true):appR 8 b h none (some (sl 8 qq o)) (some (.list bb 8 [.agg [.str p.name,.str p.kd,.int .i64 p.pa,.int .i64 p.pb,.int .i64 p.sa,.int .i64 p.sb,.int .i64 p.cost,.int .i64 p.stock]]))=ifR (decide (b≤4096)) (some ⟨sl 8 qq v,true,none,h⟩):=qek (x:=p) (by omega) rfl hn hv
structure za where
 w:Int
 ln:Int
 ld:Int
 mn:Int
 md:Int
def j5 (p:za):AVal:=.agg [.int .i64 p.w,.int .i64 p.ln,.int .i64 p.ld,.int .i64 p.mn,.int .i64 p.md]
@[go_sem] theorem jlu {p:za}:(j5 p).flat=[.int .i64 p.w,.int .i64 p.ln,.int .i64 p.ld,.int .i64 p.mn,.int .i64 p.md]:=rfl
@[go_sem] theorem q09 {n:Nat} (p:za):below n (j5 p)=true:=by rfl
@[go_sem] theorem jix {n z:Nat} {l:Option (List za)}:below n (sl z j5 l)=true:=qdf q09
@[go_sem] theorem jop {p:za}:AVal.vptr (j5 p)=.vptr (.agg [.int .i64 p.w,.int .i64 p.ln,.int .i64 p.ld,.int .i64 p.mn,.int .i64 p.md]):=rfl
theorem q14 {b t:Nat} {h:qk} {bb:Bool} {p:za} {o v:Option (List za)} (hv:apO o [p]=some v):appR 5 b h (some t) (some (sl 5 j5 o)) (some (.list bb 5 [.agg [.int .i64 p.w,.int .i64 p.ln,.int .i64 p.ld,.int .i64 p.mn,.int .i64 p.md]]))=ifR (decide (b≤4096)) (some ⟨sl 5 j5 v,true,some t,h⟩):=qjj (x:=p) (by omega) rfl hv
theorem q11 {b:Nat} {h:qk} {bb:Bool} {p:za} {o v:Option (List za)} (hv:apO o [p]=some v) (hn:o.isNone=true):appR 5 b h none (some (sl 5 j5 o)) (some (.list bb 5 [.agg [.int .i64 p.w,.int .i64 p.ln,.int .i64 p.ld,.int .i64 p.mn,.int .i64 p.md]]))=ifR (decide (b≤4096)) (some ⟨sl 5 j5 v,true,none,h⟩):=qek (x:=p) (by omega) rfl hn hv
structure qdq where
 a:Int
 b:Int
 c:Int
 d:Int
def q3w (p:qdq):AVal:=.agg [.int .i64 p.a,.int .i64 p.b,.int .i64 p.c,.int .i64 p.d]
@[go_sem] theorem joi {p:qdq}:(q3w p).flat=[.int .i64 p.a,.int .i64 p.b,.int .i64 p.c,.int .i64 p.d]:=rfl
@[go_sem] theorem jkt {n:Nat} (p:qdq):below n (q3w p)=true:=by rfl
@[go_sem] theorem jol {p:qdq}:AVal.vptr (q3w p)=.vptr (.agg [.int .i64 p.a,.int .i64 p.b,.int .i64 p.c,.int .i64 p.d]):=rfl
structure zm where
 m0:Int
 m1:Int
 m2:Int
 m3:Int
 m4:Int
 m5:Int
 m6:Int
 m7:Int
def jau (p:zm):AVal:=.agg [.int .i64 p.m0,.int .i64 p.m1,.int .i64 p.m2,.int .i64 p.m3,.int .i64 p.m4,.int .i64 p.m5,.int .i64 p.m6,.int .i64 p.m7]
@[go_sem] theorem jrv {p:zm}:(jau p).flat=[.int .i64 p.m0,.int .i64 p.m1,.int .i64 p.m2,.int .i64 p.m3,.int .i64 p.m4,.int .i64 p.m5,.int .i64 p.m6,.int .i64 p.m7]:=rfl
@[go_sem] theorem jl8 {n:Nat} (p:zm):below n (jau p)=true:=by rfl
@[go_sem] theorem jsw {p:zm}:AVal.vptr (jau p)=.vptr (.agg [.int .i64 p.m0,.int .i64 p.m1,.int .i64 p.m2,.int .i64 p.m3,.int .i64 p.m4,.int .i64 p.m5,.int .i64 p.m6,.int .i64 p.m7]):=rfl
structure qgu where
 band:Int
 ladder:Option (List GEl)
def q6u (p:qgu):AVal:=.agg [.int .i64 p.band,sl 3 vel p.ladder]
@[go_sem] theorem jj9 {p:qgu}:(q6u p).flat=[.int .i64 p.band,sl 3 vel p.ladder]:=rfl
@[go_sem] theorem jka {p:qgu}:AVal.vptr (q6u p)=.vptr (.agg [.int .i64 p.band,sl 3 vel p.ladder]):=rfl
structure q3h where
 choice:Option (List Int)
 rband:Int
 rladder:Option (List GEl)
def jbu (p:q3h):AVal:=.agg [sl 1 qm p.choice,.int .i64 p.rband,sl 3 vel p.rladder]
@[go_sem] theorem jns {p:q3h}:(jbu p).flat=[sl 1 qm p.choice,.int .i64 p.rband,sl 3 vel p.rladder]:=rfl
@[go_sem] theorem jpf {p:q3h}:AVal.vptr (jbu p)=.vptr (.agg [sl 1 qm p.choice,.int .i64 p.rband,sl 3 vel p.rladder]):=rfl
structure q3v where
 parts:Option (List ql)
 choice:Option (List Int)
 bands:Option (List za)
def jbg (p:q3v):AVal:=.agg [sl 8 qq p.parts,sl 1 qm p.choice,sl 5 j5 p.bands]
@[go_sem] theorem jpi {p:q3v}:(jbg p).flat=[sl 8 qq p.parts,sl 1 qm p.choice,sl 5 j5 p.bands]:=rfl
@[go_sem] theorem jnx {p:q3v}:AVal.vptr (jbg p)=.vptr (.agg [sl 8 qq p.parts,sl 1 qm p.choice,sl 5 j5 p.bands]):=rfl
structure q4j where
 parts:Option (List ql)
 bands:Option (List za)
 n:Int
def jbc (p:q4j):AVal:=.agg [sl 8 qq p.parts,sl 5 j5 p.bands,.int .i64 p.n]
@[go_sem] theorem jk5 {p:q4j}:(jbc p).flat=[sl 8 qq p.parts,sl 5 j5 p.bands,.int .i64 p.n]:=rfl
@[go_sem] theorem jln {p:q4j}:AVal.vptr (jbc p)=.vptr (.agg [sl 8 qq p.parts,sl 5 j5 p.bands,.int .i64 p.n]):=rfl
structure q4v where
 x:Option (List GEl)
 y:Option (List GEl)
 lo:Int
 hi:Int
def jb0 (p:q4v):AVal:=.agg [sl 3 vel p.x,sl 3 vel p.y,.int .i64 p.lo,.int .i64 p.hi]
@[go_sem] theorem jlg {p:q4v}:(jb0 p).flat=[sl 3 vel p.x,sl 3 vel p.y,.int .i64 p.lo,.int .i64 p.hi]:=rfl
@[go_sem] theorem jor {p:q4v}:AVal.vptr (jb0 p)=.vptr (.agg [sl 3 vel p.x,sl 3 vel p.y,.int .i64 p.lo,.int .i64 p.hi]):=rfl
theorem qut {s:List UInt8} (h0:decide (s=([98,108,111,99,107]:List UInt8))=true):j0 .str (.str s) yh 0=some (some (0,.agg [.str ([116,114,97,112]:List UInt8),.bool true,.fn (.func 218) [] []])):=by
 have e0:(s == ([98,108,111,99,107]:List UInt8))=true:=by simpa using h0
 simp only [yh,j0,qak,e0]
theorem q4h {s:List UInt8} (h0:decide (s=([98,108,111,99,107]:List UInt8))=false) (h1:decide (s=([115,101,114,105,101,115]:List UInt8))=true):j0 .str (.str s) yh 0=some (some (1,.agg [.str ([115,104,117,110,116]:List UInt8),.bool false,.fn (.func 219) [] []])):=by
 have e0:(s == ([98,108,111,99,107]:List UInt8))=false:=by simpa using h0
 have e1:(s == ([115,101,114,105,101,115]:List UInt8))=true:=by simpa using h1
 simp only [yh,j0,qak,e0,e1]
theorem q43 {s:List UInt8} (h0:decide (s=([98,108,111,99,107]:List UInt8))=false) (h1:decide (s=([115,101,114,105,101,115]:List UInt8))=false) (h2:decide (s=([115,104,117,110,116]:List UInt8))=true):j0 .str (.str s) yh 0=some (some (2,.agg [.str ([115,101,114,105,101,115]:List UInt8),.bool false,.fn (.func 220) [] []])):=by
 have e0:(s == ([98,108,111,99,107]:List UInt8))=false:=by simpa using h0
 have e1:(s == ([115,101,114,105,101,115]:List UInt8))=false:=by simpa using h1
 have e2:(s == ([115,104,117,110,116]:List UInt8))=true:=by simpa using h2
 simp only [yh,j0,qak,e0,e1,e2]
theorem qu8 {s:List UInt8} (h0:decide (s=([98,108,111,99,107]:List UInt8))=false) (h1:decide (s=([115,101,114,105,101,115]:List UInt8))=false) (h2:decide (s=([115,104,117,110,116]:List UInt8))=false) (h3:decide (s=([116,114,97,112]:List UInt8))=true):j0 .str (.str s) yh 0=some (some (3,.agg [.str ([98,108,111,99,107]:List UInt8),.bool true,.fn (.func 221) [] []])):=by
 have e0:(s == ([98,108,111,99,107]:List UInt8))=false:=by simpa using h0
 have e1:(s == ([115,101,114,105,101,115]:List UInt8))=false:=by simpa using h1
 have e2:(s == ([115,104,117,110,116]:List UInt8))=false:=by simpa using h2
 have e3:(s == ([116,114,97,112]:List UInt8))=true:=by simpa using h3
 simp only [yh,j0,qak,e0,e1,e2,e3]
theorem jbh {s:List UInt8} (h0:decide (s=([98,108,111,99,107]:List UInt8))=false) (h1:decide (s=([115,101,114,105,101,115]:List UInt8))=false) (h2:decide (s=([115,104,117,110,116]:List UInt8))=false) (h3:decide (s=([116,114,97,112]:List UInt8))=false):j0 .str (.str s) yh 0=some (none):=by
 have e0:(s == ([98,108,111,99,107]:List UInt8))=false:=by simpa using h0
 have e1:(s == ([115,101,114,105,101,115]:List UInt8))=false:=by simpa using h1
 have e2:(s == ([115,104,117,110,116]:List UInt8))=false:=by simpa using h2
 have e3:(s == ([116,114,97,112]:List UInt8))=false:=by simpa using h3
 simp only [yh,j0,qak,e0,e1,e2,e3]
@[go_sem] theorem je6 {n:Nat}:kh n (.map yh)=true:=rfl
@[go_sem] theorem jzd:pr.maps 193=some yh:=rfl
def qpw (h:qk) (zero:AVal) (r:Option (Option (Nat × AVal))):Option ORes:=match r with
 | some (some (_,v))=>some ⟨.tup [v,.bool true],false,none,h⟩
 | some none=>some ⟨.tup [zero,.bool false],false,none,h⟩
 | none=>none
@[go_sem] theorem jke {h:qk} {z v:AVal} {i:Nat}:qpw h z (some (some (i,v)))=some ⟨.tup [v,.bool true],false,none,h⟩:=rfl
@[go_sem] theorem jkv {h:qk} {z:AVal}:qpw h z (some none)=some ⟨.tup [z,.bool false],false,none,h⟩:=rfl
def qtk (h:qk) (kd:Kd) (z kv:AVal) (x:Option ABox):Option ORes:=match x with
 | some (.map es)=>qpw h z (j0 kd kv es 0)
 | _=>none
@[go_sem] theorem jq1 {h:qk} {kd:Kd} {z kv:AVal} {es:List (AVal × AVal)}:qtk h kd z kv (some (.map es))=qpw h z (j0 kd kv es 0):=rfl
def qsj (h0:Nat) (al:Option (List Nat)) (h:qk) (kd:Kd) (z:AVal) (m k:Option AVal):Option ORes:=match m,k with
 | some (.map b),some kv=>ifR (j6 h0 al b) (qtk h kd z kv h[b]?)
 | some .nilmap,some _=>some ⟨.tup [z,.bool false],false,none,h⟩
 | _,_=>none
@[go_sem] theorem jf4 {h0:Nat} {al:Option (List Nat)} {h:qk} {kd:Kd} {z kv:AVal} {b:Nat}:qsj h0 al h kd z (some (.map b)) (some kv)=ifR (j6 h0 al b) (qtk h kd z kv h[b]?):=rfl
@[go_sem] theorem jte {p:jl} {xc:XC} {h0:Nat} {al:Option (List Nat)} {e:Env} {h:qk} {kd:Kd} {z:AVal} {m k:qv}:qe p xc h0 al e h (.lookup kd z true m k)=qsj h0 al h kd z (qj e m) (qj e k):=by
 simp only [qe,yl,qsj]
 cases qj e m with
 | none=>cases qj e k <;> rfl
 | some v=>cases qj e k with
  | none=>cases v <;> rfl
  | some kv=>cases v with
   | map b=>
    simp only [ifR,yd,qtk,qpw]
    cases j6 h0 al b with
    | false=>rfl
    | true=>
     simp only [cond_true]
     cases h[b]? with
     | none=>rfl
     | some x=>cases x with
      | map es=>
       simp only []
       cases j0 kd kv es 0 with
       | none=>rfl
       | some r=>cases r <;> rfl
      | _=>rfl
   | _=>rfl
def qk0 (l:List (List UInt8)) (s:List UInt8):Bool:=decide (s∈l)
def qsm (l:List (List UInt8)) (s:List UInt8):Option (List (List UInt8)):=if qk0 l s then some l else if l.length≤1073741824 then some (l++[s]) else none
theorem jby {h:qk} {l:List (List UInt8)} {s:List UInt8}:qub h .str (.bool false) (.str s) (some (.map (qaf l)))=some ⟨.bool (qk0 l s),false,none,h⟩:=by
 rw [q5p,qsr]
 unfold qk0
 by_cases hm:s∈l <;> simp [hm,q5c,q4w]
theorem q9b {h:qk} {b:Nat} {l v:List (List UInt8)} {s:List UInt8} (hv:qsm l s=some v) (hn:qk0 l s=false):qwc h b .str (.str s) (.bool true) (some (.map (qaf l)))=qaa (jw h b (.map (qaf v))) .undef:=by
 unfold qsm at hv
 rw [hn] at hv
 simp only [Bool.false_eq_true,if_false] at hv
 split at hv
 ·rename_i hl
  cases hv
  have hm:¬ s∈l:=by simpa [qk0] using hn
  rw [qy1,qsr,if_neg hm,q5x,q6s,Nat.ble_eq_true_of_le hl,q5m]
  rfl
 ·cases hv
theorem qmz:∀ (l:List (List UInt8)) (i:Nat) (k:List UInt8),l[i]?=some k→qaq (qaf l) i (.bool true)=qaf l
 | [],i,k,h=>by simp at h
 | x::l,0,k,h=>rfl
 | x::l,i + 1,k,h=>by
  have:=qmz l i k (by simpa using h)
  show (AVal.str x,AVal.bool true)::qaq (qaf l) i (.bool true)=_
  rw [this]; rfl
theorem jit {h:qk} {b:Nat} {l v:List (List UInt8)} {s:List UInt8} (hv:qsm l s=some v):qwc h b .str (.str s) (.bool true) (some (.map (qaf l)))=qaa (jw h b (.map (qaf v))) .undef:=by
 cases hn:qk0 l s with
 | false=>exact q9b hv hn
 | true=>
  unfold qsm at hv
  rw [hn] at hv
  simp only [if_true,Option.some.injEq] at hv
  subst hv
  have hm:s∈l:=by simpa [qk0] using hn
  rw [qy1,qsr,if_pos hm]
  have hi:l[l.idxOf s]?=some s:=by
   rw [List.getElem?_eq_getElem (List.idxOf_lt_length_of_mem hm),List.getElem_idxOf]
  show qaa (jw h b (.map (qaq (qaf l) (l.idxOf s) (.bool true)))) .undef=_
  rw [qmz l _ s hi]
@[go_sem] theorem q1c {n:Nat}:∀ {l:List (List UInt8)},kh n (.map (qaf l))=true
 | []=>rfl
 | x::l=>by
  have:=q1c (n:=n) (l:=l)
  simp only [kh] at this ⊢
  show (below n (.str x) && below n (.bool true) && qah n (qaf l))=true
  rw [this]; rfl
theorem q67 {p:jl} {xc:XC} {h0:Nat} {al:Option (List Nat)} {e:Env} {h:qk} {r:Nat}:qe p xc h0 al e h (.mkmap r)=qaa (newBox h0 h r (.map (qaf []))) (.map (h0 + r)):=jdl
theorem jz9 {p:jl} {xc:XC} {k:Nat} {args:List AVal} {v:AVal} (hp:p.prims k=none) (hc:∃ hh,jg p xc k args []=some (v,false,hh)) (hz:∀ hh,freezeR hh v=some v) (hv:below 0 v=true):qf p xc k args=some (v,false):=by
 obtain ⟨hh,hc⟩:=hc
 exact qch hp hc (hz hh) hv
theorem qj7 {hh:qk}:∀ {xs:List AVal},jq 0 xs=true→qac hh xs=some xs
 | [],_=>rfl
 | x::xs,h=>by
  simp only [jq,Bool.and_eq_true] at h
  have hx:ku hh x=some x:=by
   cases x with
   | ms b o n=>simp [Abs.below,Nat.blt] at h
   | _=>rfl
  simp only [qac,hx,qj7 h.2]
theorem jhj {hh:qk} {x:AVal} (h:Abs.below 0 x=true):ku hh x=some x:=by
 cases x with
 | ms b o n=>simp [Abs.below,Nat.blt] at h
 | _=>rfl
theorem qpa {hh:qk}:∀ {xs:List AVal},jq 0 xs=true→freezeR.freezeT hh xs=some xs
 | [],_=>rfl
 | x::xs,h=>by
  simp only [jq,Bool.and_eq_true] at h
  have ih:=qpa (hh:=hh) h.2
  cases x with
  | agg cs=>
   have h1:=h.1
   simp only [Abs.below] at h1
   simp only [freezeR.freezeT,qj7 h1,ih]
  | ms b o n=>simp [Abs.below,Nat.blt] at h
  | _=>simp only [freezeR.freezeT,ku,ih]
theorem qyt {hh:qk} {x:AVal} (h:Abs.below 0 x=true):freezeR hh x=some x:=by
 cases x with
 | agg cs=>
  simp only [Abs.below] at h
  simp only [freezeR,qj7 h]
 | tup vs=>
  simp only [Abs.below] at h
  simp only [freezeR,qpa h]
 | ms b o n=>simp [Abs.below,Nat.blt] at h
 | _=>rfl
theorem qn {p:jl} {k:Nat} {f:qz} {args:List AVal} {v:AVal} (hp:p.prims k=none) (hf:p.fns k=some f) (hl:Nat.ble args.length f.ntmps=true) (hv:below 0 v=true) (hc:∃ hh,qyr f.results (X p f.body ⟨qad 0 args,[]⟩)=some (v,false,hh)):qf p (X p) k args=some (v,false):=by
 obtain ⟨hh,hc⟩:=hc
 cases f with
 | mk n b r=>exact qch hp (by rw [j8 hf (Nat.le_of_ble_eq_true hl)]; exact hc) (qyt hv) hv
theorem qw {σ δ:Type} {p:jl} {c:ACode} {St:σ→ASt} {Ex:δ→jb × ASt} {s s':σ} (h:X p c (St s)=some (.normal,St s')) (hl:(St s').heap.length≤(St s).heap.length):jt p c St Ex s (.inl s'):=qdi h (qib hl)
theorem zt {σ δ:Type} {p:jl} {c:ACode} {St:σ→ASt} {Ex:δ→jb × ASt} {s s':σ} (h:∃ t,X p c (St s)=some (.normal,⟨(St s').env,(St s').heap++t⟩)) (hn:(St s).heap.length=(St s').heap.length) (h1:yy (St s).heap.length (St s').env=true) (h2:ju (St s).heap.length (St s').heap=true):jt p c St Ex s (.inl s'):=by
 obtain ⟨t,h⟩:=h
 exact qdi h (qrm hn rfl h1 h2)
abbrev TI:=Option (List Int)
abbrev TE:=Option (List GEl)
abbrev TP:=Option (List ql)
abbrev TB:=Option (List za)
abbrev TTI:=Option (List TI)
abbrev TTE:=Option (List TE)
theorem qdx {α:Type} {z:Nat} {f:α→AVal}:sl z f none=.list true 0 []:=rfl
set_option maxHeartbeats 4000000
noncomputable def f106 (a0:Bool) (a1:Int):Option Int:=
 cond a0
  (some a1)
  (some 0)
theorem qpq {a0:Bool} {a1:Int} {r} (h:f106 a0 a1=some r):qf pr (X pr) 106 [.bool a0,.int .i64 a1]=some (.int .i64 r,false):=by
 unfold f106 at h
 rcases qb h with ⟨h1,h⟩ | ⟨h1,h⟩
 ·obtain rfl:=Option.some.inj h
  refine qn (f:=c106) rfl rfl rfl (by first | rfl | simp only [go_sem,seval]) ?_
  simp only [go_sem,seval,c106,h1]
  exact ⟨_,rfl⟩
 obtain rfl:=Option.some.inj h
 refine qn (f:=c106) rfl rfl rfl (by first | rfl | simp only [go_sem,seval]) ?_
 simp only [go_sem,seval,c106,h1]
 exact ⟨_,rfl⟩
noncomputable def qi8 (a0:TI) (s0:Int):Option (Int ⊕ (Int ⊕ Int)):=
 cond (decide (s0 < ((a0.getD []).length:Int)))
  (qc (js (a0.getD []) s0) fun v10=>
  cond (decide (v10=0))
   (some (.inl (qg .i64 (s0 + 1))))
   (some (.inr (.inl v10))))
  (some (.inr (.inr s0)))
def qfz (a0:TI) (s0:Int):ASt:=⟨[(5,sl 1 qm a0,false),(6,.int .i64 ((a0.getD []).length:Int),false),(7,.int .i64 s0,false)],[]⟩
def qix (a0:TI):Int ⊕ Int→jb × ASt
 | .inl d=>(.ret,⟨[(2,.int .i64 d,false)],[]⟩)
 | .inr d=>(.exit 0,⟨[(5,sl 1 qm a0,false),(6,.int .i64 ((a0.getD []).length:Int),false),(7,.int .i64 d,false),(8,.bool false,false)],[]⟩)
theorem jjq (a0:TI) (s0:Int) (r) (h:qi8 a0 s0=some r):jt pr ql8 (qfz a0) (qix a0) s0 r:=by
 unfold qi8 at h
 rcases qb h with ⟨h9,h⟩ | ⟨h9,h⟩
 ·obtain ⟨v10,h11,h⟩:=qa h
  rcases qb h with ⟨h12,h⟩ | ⟨h12,h⟩
  ·cases h
   exact qw (by simp only [go_sem,seval,ql8,qfz,h9,qu h11,h12] <;> rfl) (Nat.le_refl _)
  cases h
  exact qh (by simp only [go_sem,seval,ql8,qfz,h9,qu h11,h12,qix] <;> rfl)
 cases h
 exact qh (by simp only [go_sem,seval,ql8,qfz,h9,qix] <;> rfl)
theorem q6j (a0:TI) {s0:Int} {d} (h:itO (qi8 a0) s0=some d):X pr (.loop ql8) (qfz a0 s0)=some (qix a0 d):=j9 (jjq a0) (fun d=>by rcases d with d|d <;> (intro hh; cases hh)) h
noncomputable def f105 (a0:TI):Option Int:=
 qc (itO (qi8 a0) 0) fun d13=>match d13 with
  | .inl d15=>
   some d15
  | .inr d16=>
   some 0
theorem qs2 {a0:TI} {r} (h:f105 a0=some r):qf pr (X pr) 105 [sl 1 qm a0]=some (.int .i64 r,false):=by
 unfold f105 at h
 obtain ⟨d13,h14,h⟩:=qa h
 rcases d13 with d15 | d16
 ·have wh14:=q6j a0 h14
  dsimp only [qfz,qix] at wh14
  obtain rfl:=Option.some.inj h
  refine qn (f:=c105) rfl rfl rfl (by first | rfl | simp only [go_sem,seval]) ?_
  simp only [go_sem,seval,c105,wh14]
  exact ⟨_,rfl⟩
 have wh14:=q6j a0 h14
 dsimp only [qfz,qix] at wh14
 obtain rfl:=Option.some.inj h
 refine qn (f:=c105) rfl rfl rfl (by first | rfl | simp only [go_sem,seval]) ?_
 simp only [go_sem,seval,c105,wh14]
 exact ⟨_,rfl⟩
noncomputable def f109 (a0:Int) (a1:Int) (a2:Int):Option Int:=
 cond (decide (a0 < a1))
  (qc (f106 true 3) fun v2=>
  some v2)
  (qc (f106 (decide (a2 < a0)) 3) fun v4=>
  some v4)
theorem qow {a0:Int} {a1:Int} {a2:Int} {r} (h:f109 a0 a1 a2=some r):qf pr (X pr) 109 [.int .i64 a0,.int .i64 a1,.int .i64 a2]=some (.int .i64 r,false):=by
 unfold f109 at h
 rcases qb h with ⟨h1,h⟩ | ⟨h1,h⟩
 ·obtain ⟨v2,h3,h⟩:=qa h
  obtain rfl:=Option.some.inj h
  refine qn (f:=c109) rfl rfl rfl (by first | rfl | simp only [go_sem,seval]) ?_
  simp only [go_sem,seval,c109,h1,qpq h3]
  exact ⟨_,rfl⟩
 obtain ⟨v4,h5,h⟩:=qa h
 have wh5:=qpq h5
 obtain rfl:=Option.some.inj h
 refine qn (f:=c109) rfl rfl rfl (by first | rfl | simp only [go_sem,seval]) ?_
 simp only [go_sem,seval,c109,h1,wh5]
 exact ⟨_,rfl⟩
noncomputable def qem (a0:List UInt8):Option (Option (Nat) ⊕ (Nat ⊕ Nat)):=
 cond (decide (0 < a0.length))
  (cond (decide (65≤((qp a0 0).1:Int)))
   (cond (decide (((qp a0 0).1:Int)≤90))
    (cond (decide (48≤((qp a0 0).1:Int)))
     (cond (decide (((qp a0 0).1:Int)≤57))
      (some (.inl (some (0 + (qp a0 0).2))))
      (some (.inl (some (0 + (qp a0 0).2)))))
     (some (.inl (some (0 + (qp a0 0).2)))))
    (cond (decide (97≤((qp a0 0).1:Int)))
     (cond (decide (48≤((qp a0 0).1:Int)))
      (cond (decide (((qp a0 0).1:Int)≤57))
       (cond (decide (((qp a0 0).1:Int)≤122))
        (some (.inl (some (0 + (qp a0 0).2))))
        (some (.inr (.inl (0 + (qp a0 0).2)))))
       (cond (decide (((qp a0 0).1:Int)≤122))
        (some (.inl (some (0 + (qp a0 0).2))))
        (some (.inr (.inl (0 + (qp a0 0).2))))))
      (cond (decide (((qp a0 0).1:Int)≤122))
       (some (.inl (some (0 + (qp a0 0).2))))
       (some (.inr (.inl (0 + (qp a0 0).2))))))
     (cond (decide (48≤((qp a0 0).1:Int)))
      (cond (decide (((qp a0 0).1:Int)≤57))
       (some (.inr (.inl (0 + (qp a0 0).2))))
       (some (.inr (.inl (0 + (qp a0 0).2)))))
      (some (.inr (.inl (0 + (qp a0 0).2)))))))
   (cond (decide (97≤((qp a0 0).1:Int)))
    (cond (decide (48≤((qp a0 0).1:Int)))
     (cond (decide (((qp a0 0).1:Int)≤57))
      (cond (decide (((qp a0 0).1:Int)≤122))
       (some (.inl (some (0 + (qp a0 0).2))))
       (some (.inr (.inl (0 + (qp a0 0).2)))))
      (cond (decide (((qp a0 0).1:Int)≤122))
       (some (.inl (some (0 + (qp a0 0).2))))
       (some (.inr (.inl (0 + (qp a0 0).2))))))
     (cond (decide (((qp a0 0).1:Int)≤122))
      (some (.inl (some (0 + (qp a0 0).2))))
      (some (.inr (.inl (0 + (qp a0 0).2))))))
    (cond (decide (48≤((qp a0 0).1:Int)))
     (cond (decide (((qp a0 0).1:Int)≤57))
      (some (.inr (.inl (0 + (qp a0 0).2))))
      (some (.inr (.inl (0 + (qp a0 0).2)))))
     (some (.inr (.inl (0 + (qp a0 0).2)))))))
  (some (.inr (.inr 0)))
noncomputable def qes (a0:List UInt8) (s0:Nat):Option (Option (Nat) ⊕ (Nat ⊕ Nat)):=
 cond (decide (s0 < a0.length))
  (cond (decide (65≤((qp a0 s0).1:Int)))
   (cond (decide (((qp a0 s0).1:Int)≤90))
    (cond (decide (48≤((qp a0 s0).1:Int)))
     (cond (decide (((qp a0 s0).1:Int)≤57))
      (some (.inl (some (s0 + (qp a0 s0).2))))
      (some (.inl (some (s0 + (qp a0 s0).2)))))
     (some (.inl (some (s0 + (qp a0 s0).2)))))
    (cond (decide (97≤((qp a0 s0).1:Int)))
     (cond (decide (48≤((qp a0 s0).1:Int)))
      (cond (decide (((qp a0 s0).1:Int)≤57))
       (cond (decide (((qp a0 s0).1:Int)≤122))
        (some (.inl (some (s0 + (qp a0 s0).2))))
        (cond (decide ((s0:Int)=0))
         (some (.inr (.inl (s0 + (qp a0 s0).2))))
         (some (.inl (some (s0 + (qp a0 s0).2))))))
       (cond (decide (((qp a0 s0).1:Int)≤122))
        (some (.inl (some (s0 + (qp a0 s0).2))))
        (cond (decide ((s0:Int)=0))
         (some (.inr (.inl (s0 + (qp a0 s0).2))))
         (cond (decide (((qp a0 s0).1:Int)=95))
          (some (.inl (some (s0 + (qp a0 s0).2))))
          (some (.inr (.inl (s0 + (qp a0 s0).2))))))))
      (cond (decide (((qp a0 s0).1:Int)≤122))
       (some (.inl (some (s0 + (qp a0 s0).2))))
       (cond (decide ((s0:Int)=0))
        (some (.inr (.inl (s0 + (qp a0 s0).2))))
        (cond (decide (((qp a0 s0).1:Int)=95))
         (some (.inl (some (s0 + (qp a0 s0).2))))
         (some (.inr (.inl (s0 + (qp a0 s0).2))))))))
     (cond (decide (48≤((qp a0 s0).1:Int)))
      (cond (decide (((qp a0 s0).1:Int)≤57))
       (cond (decide ((s0:Int)=0))
        (some (.inr (.inl (s0 + (qp a0 s0).2))))
        (some (.inl (some (s0 + (qp a0 s0).2)))))
       (cond (decide ((s0:Int)=0))
        (some (.inr (.inl (s0 + (qp a0 s0).2))))
        (cond (decide (((qp a0 s0).1:Int)=95))
         (some (.inl (some (s0 + (qp a0 s0).2))))
         (some (.inr (.inl (s0 + (qp a0 s0).2)))))))
      (cond (decide ((s0:Int)=0))
       (some (.inr (.inl (s0 + (qp a0 s0).2))))
       (cond (decide (((qp a0 s0).1:Int)=95))
        (some (.inl (some (s0 + (qp a0 s0).2))))
        (some (.inr (.inl (s0 + (qp a0 s0).2)))))))))
   (cond (decide (97≤((qp a0 s0).1:Int)))
    (cond (decide (48≤((qp a0 s0).1:Int)))
     (cond (decide (((qp a0 s0).1:Int)≤57))
      (cond (decide (((qp a0 s0).1:Int)≤122))
       (some (.inl (some (s0 + (qp a0 s0).2))))
       (cond (decide ((s0:Int)=0))
        (some (.inr (.inl (s0 + (qp a0 s0).2))))
        (some (.inl (some (s0 + (qp a0 s0).2))))))
      (cond (decide (((qp a0 s0).1:Int)≤122))
       (some (.inl (some (s0 + (qp a0 s0).2))))
       (cond (decide ((s0:Int)=0))
        (some (.inr (.inl (s0 + (qp a0 s0).2))))
        (cond (decide (((qp a0 s0).1:Int)=95))
         (some (.inl (some (s0 + (qp a0 s0).2))))
         (some (.inr (.inl (s0 + (qp a0 s0).2))))))))
     (cond (decide (((qp a0 s0).1:Int)≤122))
      (some (.inl (some (s0 + (qp a0 s0).2))))
      (cond (decide ((s0:Int)=0))
       (some (.inr (.inl (s0 + (qp a0 s0).2))))
       (cond (decide (((qp a0 s0).1:Int)=95))
        (some (.inl (some (s0 + (qp a0 s0).2))))
        (some (.inr (.inl (s0 + (qp a0 s0).2))))))))
    (cond (decide (48≤((qp a0 s0).1:Int)))
     (cond (decide (((qp a0 s0).1:Int)≤57))
      (cond (decide ((s0:Int)=0))
       (some (.inr (.inl (s0 + (qp a0 s0).2))))
       (some (.inl (some (s0 + (qp a0 s0).2)))))
      (cond (decide ((s0:Int)=0))
       (some (.inr (.inl (s0 + (qp a0 s0).2))))
       (cond (decide (((qp a0 s0).1:Int)=95))
        (some (.inl (some (s0 + (qp a0 s0).2))))
        (some (.inr (.inl (s0 + (qp a0 s0).2)))))))
     (cond (decide ((s0:Int)=0))
      (some (.inr (.inl (s0 + (qp a0 s0).2))))
      (cond (decide (((qp a0 s0).1:Int)=95))
       (some (.inl (some (s0 + (qp a0 s0).2))))
       (some (.inr (.inl (s0 + (qp a0 s0).2)))))))))
  (some (.inr (.inr s0)))
noncomputable def qos (a0:List UInt8):Option (Nat)→Option (Option (Nat) ⊕ (Nat ⊕ Nat))
 | none=>qem a0
 | some x=>qes a0 x
def jd (a0:List UInt8) (s0:Nat):ASt:=⟨[(0,.str a0,false),(8,.ptr 0 0,false),(46,.bool false,false)],[.iter a0 s0]⟩
def jf (a0:List UInt8):Option (Nat)→ASt
 | none=>⟨[(0,.str a0,false),(8,.ptr 0 0,false)],[.iter a0 0]⟩
 | some x=>jd a0 x
def zd (a0:List UInt8):Nat ⊕ Nat→jb × ASt
 | .inl d=>(.ret,⟨[(2,.bool false,false)],[.iter a0 d]⟩)
 | .inr d=>(.exit 0,⟨[(0,.str a0,false),(8,.ptr 0 0,false),(9,.tup [.bool false],false),(10,.bool false,false)],[.iter a0 d]⟩)
theorem jd3 (a0:List UInt8) (r) (h:qem a0=some r):jt pr jj (jf a0) (zd a0) none r:=by
 unfold qem at h
 rcases qb h with ⟨h171,h⟩ | ⟨h171,h⟩
 ·rcases qb h with ⟨h172,h⟩ | ⟨h172,h⟩
  ·rcases qb h with ⟨h173,h⟩ | ⟨h173,h⟩
   ·rcases qb h with ⟨h174,h⟩ | ⟨h174,h⟩
    ·rcases qb h with ⟨h175,h⟩ | ⟨h175,h⟩
     ·cases h
      exact qw (by simp only [go_sem,seval,jj,jf,jd,h171,jp h171,h172,h173,h174,h175] <;> rfl) (Nat.le_refl _)
     cases h
     exact qw (by simp only [go_sem,seval,jj,jf,jd,h171,jp h171,h172,h173,h174,h175] <;> rfl) (Nat.le_refl _)
    cases h
    exact qw (by simp only [go_sem,seval,jj,jf,jd,h171,jp h171,h172,h173,h174] <;> rfl) (Nat.le_refl _)
   rcases qb h with ⟨h176,h⟩ | ⟨h176,h⟩
   ·rcases qb h with ⟨h177,h⟩ | ⟨h177,h⟩
    ·rcases qb h with ⟨h178,h⟩ | ⟨h178,h⟩
     ·rcases qb h with ⟨h179,h⟩ | ⟨h179,h⟩
      ·cases h
       exact qw (by simp only [go_sem,seval,jj,jf,jd,h171,jp h171,h172,h173,h176,h177,h178,h179] <;> rfl) (Nat.le_refl _)
      cases h
      exact qh (by simp only [go_sem,seval,jj,jf,jd,h171,jp h171,h172,h173,h176,h177,h178,h179,zd] <;> rfl)
     rcases qb h with ⟨h180,h⟩ | ⟨h180,h⟩
     ·cases h
      exact qw (by simp only [go_sem,seval,jj,jf,jd,h171,jp h171,h172,h173,h176,h177,h178,h180] <;> rfl) (Nat.le_refl _)
     cases h
     exact qh (by simp only [go_sem,seval,jj,jf,jd,h171,jp h171,h172,h173,h176,h177,h178,h180,zd] <;> rfl)
    rcases qb h with ⟨h181,h⟩ | ⟨h181,h⟩
    ·cases h
     exact qw (by simp only [go_sem,seval,jj,jf,jd,h171,jp h171,h172,h173,h176,h177,h181] <;> rfl) (Nat.le_refl _)
    cases h
    exact qh (by simp only [go_sem,seval,jj,jf,jd,h171,jp h171,h172,h173,h176,h177,h181,zd] <;> rfl)
   rcases qb h with ⟨h182,h⟩ | ⟨h182,h⟩
   ·rcases qb h with ⟨h183,h⟩ | ⟨h183,h⟩
    ·cases h
     exact qh (by simp only [go_sem,seval,jj,jf,jd,h171,jp h171,h172,h173,h176,h182,h183,zd] <;> rfl)
    cases h
    exact qh (by simp only [go_sem,seval,jj,jf,jd,h171,jp h171,h172,h173,h176,h182,h183,zd] <;> rfl)
   cases h
   exact qh (by simp only [go_sem,seval,jj,jf,jd,h171,jp h171,h172,h173,h176,h182,zd] <;> rfl)
  rcases qb h with ⟨h184,h⟩ | ⟨h184,h⟩
  ·rcases qb h with ⟨h185,h⟩ | ⟨h185,h⟩
   ·rcases qb h with ⟨h186,h⟩ | ⟨h186,h⟩
    ·rcases qb h with ⟨h187,h⟩ | ⟨h187,h⟩
     ·cases h
      exact qw (by simp only [go_sem,seval,jj,jf,jd,h171,jp h171,h172,h184,h185,h186,h187] <;> rfl) (Nat.le_refl _)
     cases h
     exact qh (by simp only [go_sem,seval,jj,jf,jd,h171,jp h171,h172,h184,h185,h186,h187,zd] <;> rfl)
    rcases qb h with ⟨h188,h⟩ | ⟨h188,h⟩
    ·cases h
     exact qw (by simp only [go_sem,seval,jj,jf,jd,h171,jp h171,h172,h184,h185,h186,h188] <;> rfl) (Nat.le_refl _)
    cases h
    exact qh (by simp only [go_sem,seval,jj,jf,jd,h171,jp h171,h172,h184,h185,h186,h188,zd] <;> rfl)
   rcases qb h with ⟨h189,h⟩ | ⟨h189,h⟩
   ·cases h
    exact qw (by simp only [go_sem,seval,jj,jf,jd,h171,jp h171,h172,h184,h185,h189] <;> rfl) (Nat.le_refl _)
   cases h
   exact qh (by simp only [go_sem,seval,jj,jf,jd,h171,jp h171,h172,h184,h185,h189,zd] <;> rfl)
  rcases qb h with ⟨h190,h⟩ | ⟨h190,h⟩
  ·rcases qb h with ⟨h191,h⟩ | ⟨h191,h⟩
   ·cases h
    exact qh (by simp only [go_sem,seval,jj,jf,jd,h171,jp h171,h172,h184,h190,h191,zd] <;> rfl)
   cases h
   exact qh (by simp only [go_sem,seval,jj,jf,jd,h171,jp h171,h172,h184,h190,h191,zd] <;> rfl)
  cases h
  exact qh (by simp only [go_sem,seval,jj,jf,jd,h171,jp h171,h172,h184,h190,zd] <;> rfl)
 cases h
 exact qh (by simp only [go_sem,seval,jj,jf,jd,h171,q6p h171,zd] <;> rfl)
theorem jdn (a0:List UInt8) (s0:Nat) (r) (h:qes a0 s0=some r):jt pr jj (jf a0) (zd a0) (some s0) r:=by
 unfold qes at h
 rcases qb h with ⟨h130,h⟩ | ⟨h130,h⟩
 ·rcases qb h with ⟨h131,h⟩ | ⟨h131,h⟩
  ·rcases qb h with ⟨h132,h⟩ | ⟨h132,h⟩
   ·rcases qb h with ⟨h133,h⟩ | ⟨h133,h⟩
    ·rcases qb h with ⟨h134,h⟩ | ⟨h134,h⟩
     ·cases h
      exact qw (by simp only [go_sem,seval,jj,jf,jd,h130,jp h130,h131,h132,h133,h134] <;> rfl) (Nat.le_refl _)
     cases h
     exact qw (by simp only [go_sem,seval,jj,jf,jd,h130,jp h130,h131,h132,h133,h134] <;> rfl) (Nat.le_refl _)
    cases h
    exact qw (by simp only [go_sem,seval,jj,jf,jd,h130,jp h130,h131,h132,h133] <;> rfl) (Nat.le_refl _)
   rcases qb h with ⟨h135,h⟩ | ⟨h135,h⟩
   ·rcases qb h with ⟨h136,h⟩ | ⟨h136,h⟩
    ·rcases qb h with ⟨h137,h⟩ | ⟨h137,h⟩
     ·rcases qb h with ⟨h138,h⟩ | ⟨h138,h⟩
      ·cases h
       exact qw (by simp only [go_sem,seval,jj,jf,jd,h130,jp h130,h131,h132,h135,h136,h137,h138] <;> rfl) (Nat.le_refl _)
      rcases qb h with ⟨h139,h⟩ | ⟨h139,h⟩
      ·cases h
       exact qh (by simp only [go_sem,seval,jj,jf,jd,h130,jp h130,h131,h132,h135,h136,h137,h138,h139,zd] <;> rfl)
      cases h
      exact qw (by simp only [go_sem,seval,jj,jf,jd,h130,jp h130,h131,h132,h135,h136,h137,h138,h139] <;> rfl) (Nat.le_refl _)
     rcases qb h with ⟨h140,h⟩ | ⟨h140,h⟩
     ·cases h
      exact qw (by simp only [go_sem,seval,jj,jf,jd,h130,jp h130,h131,h132,h135,h136,h137,h140] <;> rfl) (Nat.le_refl _)
     rcases qb h with ⟨h141,h⟩ | ⟨h141,h⟩
     ·cases h
      exact qh (by simp only [go_sem,seval,jj,jf,jd,h130,jp h130,h131,h132,h135,h136,h137,h140,h141,zd] <;> rfl)
     rcases qb h with ⟨h142,h⟩ | ⟨h142,h⟩
     ·cases h
      exact qw (by simp only [go_sem,seval,jj,jf,jd,h130,jp h130,h131,h132,h135,h136,h137,h140,h141,h142] <;> rfl) (Nat.le_refl _)
     cases h
     exact qh (by simp only [go_sem,seval,jj,jf,jd,h130,jp h130,h131,h132,h135,h136,h137,h140,h141,h142,zd] <;> rfl)
    rcases qb h with ⟨h143,h⟩ | ⟨h143,h⟩
    ·cases h
     exact qw (by simp only [go_sem,seval,jj,jf,jd,h130,jp h130,h131,h132,h135,h136,h143] <;> rfl) (Nat.le_refl _)
    rcases qb h with ⟨h144,h⟩ | ⟨h144,h⟩
    ·cases h
     exact qh (by simp only [go_sem,seval,jj,jf,jd,h130,jp h130,h131,h132,h135,h136,h143,h144,zd] <;> rfl)
    rcases qb h with ⟨h145,h⟩ | ⟨h145,h⟩
    ·cases h
     exact qw (by simp only [go_sem,seval,jj,jf,jd,h130,jp h130,h131,h132,h135,h136,h143,h144,h145] <;> rfl) (Nat.le_refl _)
    cases h
    exact qh (by simp only [go_sem,seval,jj,jf,jd,h130,jp h130,h131,h132,h135,h136,h143,h144,h145,zd] <;> rfl)
   rcases qb h with ⟨h146,h⟩ | ⟨h146,h⟩
   ·rcases qb h with ⟨h147,h⟩ | ⟨h147,h⟩
    ·rcases qb h with ⟨h148,h⟩ | ⟨h148,h⟩
     ·cases h
      exact qh (by simp only [go_sem,seval,jj,jf,jd,h130,jp h130,h131,h132,h135,h146,h147,h148,zd] <;> rfl)
     cases h
     exact qw (by simp only [go_sem,seval,jj,jf,jd,h130,jp h130,h131,h132,h135,h146,h147,h148] <;> rfl) (Nat.le_refl _)
    rcases qb h with ⟨h149,h⟩ | ⟨h149,h⟩
    ·cases h
     exact qh (by simp only [go_sem,seval,jj,jf,jd,h130,jp h130,h131,h132,h135,h146,h147,h149,zd] <;> rfl)
    rcases qb h with ⟨h150,h⟩ | ⟨h150,h⟩
    ·cases h
     exact qw (by simp only [go_sem,seval,jj,jf,jd,h130,jp h130,h131,h132,h135,h146,h147,h149,h150] <;> rfl) (Nat.le_refl _)
    cases h
    exact qh (by simp only [go_sem,seval,jj,jf,jd,h130,jp h130,h131,h132,h135,h146,h147,h149,h150,zd] <;> rfl)
   rcases qb h with ⟨h151,h⟩ | ⟨h151,h⟩
   ·cases h
    exact qh (by simp only [go_sem,seval,jj,jf,jd,h130,jp h130,h131,h132,h135,h146,h151,zd] <;> rfl)
   rcases qb h with ⟨h152,h⟩ | ⟨h152,h⟩
   ·cases h
    exact qw (by simp only [go_sem,seval,jj,jf,jd,h130,jp h130,h131,h132,h135,h146,h151,h152] <;> rfl) (Nat.le_refl _)
   cases h
   exact qh (by simp only [go_sem,seval,jj,jf,jd,h130,jp h130,h131,h132,h135,h146,h151,h152,zd] <;> rfl)
  rcases qb h with ⟨h153,h⟩ | ⟨h153,h⟩
  ·rcases qb h with ⟨h154,h⟩ | ⟨h154,h⟩
   ·rcases qb h with ⟨h155,h⟩ | ⟨h155,h⟩
    ·rcases qb h with ⟨h156,h⟩ | ⟨h156,h⟩
     ·cases h
      exact qw (by simp only [go_sem,seval,jj,jf,jd,h130,jp h130,h131,h153,h154,h155,h156] <;> rfl) (Nat.le_refl _)
     rcases qb h with ⟨h157,h⟩ | ⟨h157,h⟩
     ·cases h
      exact qh (by simp only [go_sem,seval,jj,jf,jd,h130,jp h130,h131,h153,h154,h155,h156,h157,zd] <;> rfl)
     cases h
     exact qw (by simp only [go_sem,seval,jj,jf,jd,h130,jp h130,h131,h153,h154,h155,h156,h157] <;> rfl) (Nat.le_refl _)
    rcases qb h with ⟨h158,h⟩ | ⟨h158,h⟩
    ·cases h
     exact qw (by simp only [go_sem,seval,jj,jf,jd,h130,jp h130,h131,h153,h154,h155,h158] <;> rfl) (Nat.le_refl _)
    rcases qb h with ⟨h159,h⟩ | ⟨h159,h⟩
    ·cases h
     exact qh (by simp only [go_sem,seval,jj,jf,jd,h130,jp h130,h131,h153,h154,h155,h158,h159,zd] <;> rfl)
    rcases qb h with ⟨h160,h⟩ | ⟨h160,h⟩
    ·cases h
     exact qw (by simp only [go_sem,seval,jj,jf,jd,h130,jp h130,h131,h153,h154,h155,h158,h159,h160] <;> rfl) (Nat.le_refl _)
    cases h
    exact qh (by simp only [go_sem,seval,jj,jf,jd,h130,jp h130,h131,h153,h154,h155,h158,h159,h160,zd] <;> rfl)
   rcases qb h with ⟨h161,h⟩ | ⟨h161,h⟩
   ·cases h
    exact qw (by simp only [go_sem,seval,jj,jf,jd,h130,jp h130,h131,h153,h154,h161] <;> rfl) (Nat.le_refl _)
   rcases qb h with ⟨h162,h⟩ | ⟨h162,h⟩
   ·cases h
    exact qh (by simp only [go_sem,seval,jj,jf,jd,h130,jp h130,h131,h153,h154,h161,h162,zd] <;> rfl)
   rcases qb h with ⟨h163,h⟩ | ⟨h163,h⟩
   ·cases h
    exact qw (by simp only [go_sem,seval,jj,jf,jd,h130,jp h130,h131,h153,h154,h161,h162,h163] <;> rfl) (Nat.le_refl _)
   cases h
   exact qh (by simp only [go_sem,seval,jj,jf,jd,h130,jp h130,h131,h153,h154,h161,h162,h163,zd] <;> rfl)
  rcases qb h with ⟨h164,h⟩ | ⟨h164,h⟩
  ·rcases qb h with ⟨h165,h⟩ | ⟨h165,h⟩
   ·rcases qb h with ⟨h166,h⟩ | ⟨h166,h⟩
    ·cases h
     exact qh (by simp only [go_sem,seval,jj,jf,jd,h130,jp h130,h131,h153,h164,h165,h166,zd] <;> rfl)
    cases h
    exact qw (by simp only [go_sem,seval,jj,jf,jd,h130,jp h130,h131,h153,h164,h165,h166] <;> rfl) (Nat.le_refl _)
   rcases qb h with ⟨h167,h⟩ | ⟨h167,h⟩
   ·cases h
    exact qh (by simp only [go_sem,seval,jj,jf,jd,h130,jp h130,h131,h153,h164,h165,h167,zd] <;> rfl)
   rcases qb h with ⟨h168,h⟩ | ⟨h168,h⟩
   ·cases h
    exact qw (by simp only [go_sem,seval,jj,jf,jd,h130,jp h130,h131,h153,h164,h165,h167,h168] <;> rfl) (Nat.le_refl _)
   cases h
   exact qh (by simp only [go_sem,seval,jj,jf,jd,h130,jp h130,h131,h153,h164,h165,h167,h168,zd] <;> rfl)
  rcases qb h with ⟨h169,h⟩ | ⟨h169,h⟩
  ·cases h
   exact qh (by simp only [go_sem,seval,jj,jf,jd,h130,jp h130,h131,h153,h164,h169,zd] <;> rfl)
  rcases qb h with ⟨h170,h⟩ | ⟨h170,h⟩
  ·cases h
   exact qw (by simp only [go_sem,seval,jj,jf,jd,h130,jp h130,h131,h153,h164,h169,h170] <;> rfl) (Nat.le_refl _)
  cases h
  exact qh (by simp only [go_sem,seval,jj,jf,jd,h130,jp h130,h131,h153,h164,h169,h170,zd] <;> rfl)
 cases h
 exact qh (by simp only [go_sem,seval,jj,jf,jd,h130,q6p h130,zd] <;> rfl)
theorem jf2 (a0:List UInt8):∀ (x:Option (Nat)) (r) (h:qos a0 x=some r),jt pr jj (jf a0) (zd a0) x r
 | none,r,h=>jd3 a0 r h
 | some x,r,h=>jdn a0 x r h
theorem q54 (a0:List UInt8) {s0:Option (Nat)} {d} (h:itO (qos a0) s0=some d):X pr (.loop jj) (jf a0 s0)=some (zd a0 d):=j9 (jf2 a0) (fun d=>by rcases d with d|d <;> (intro hh; cases hh)) h
noncomputable def f107 (a0:List UInt8):Option Bool:=
 qc (itO (qos a0) none) fun d192=>match d192 with
  | .inl d194=>
   some false
  | .inr d195=>
   cond (decide (a0=[]))
    (some false)
    (some (decide ((a0.length:Int)≤24)))
theorem jup {a0:List UInt8} {r} (h:f107 a0=some r):qf pr (X pr) 107 [.str a0]=some (.bool r,false):=by
 unfold f107 at h
 obtain ⟨d192,h193,h⟩:=qa h
 rcases d192 with d194 | d195
 ·have wh193:=q54 a0 h193
  dsimp only [jf,jd,zd] at wh193
  obtain rfl:=Option.some.inj h
  refine qn (f:=c107) rfl rfl rfl (by first | rfl | simp only [go_sem,seval]) ?_
  simp only [go_sem,seval,c107,wh193]
  exact ⟨_,rfl⟩
 have wh193:=q54 a0 h193
 dsimp only [jf,jd,zd] at wh193
 rcases qb h with ⟨h196,h⟩ | ⟨h196,h⟩
 ·obtain rfl:=Option.some.inj h
  refine qn (f:=c107) rfl rfl rfl (by first | rfl | simp only [go_sem,seval]) ?_
  simp only [go_sem,seval,c107,wh193,h196]
  exact ⟨_,rfl⟩
 obtain rfl:=Option.some.inj h
 refine qn (f:=c107) rfl rfl rfl (by first | rfl | simp only [go_sem,seval]) ?_
 simp only [go_sem,seval,c107,wh193,h196]
 exact ⟨_,rfl⟩
noncomputable def f194 (a0:Bool) (a1:Int):Option Int:=
 cond a0
  (some a1)
  (some 0)
theorem qan {a0:Bool} {a1:Int} {r} (h:f194 a0 a1=some r):qf pr (X pr) 194 [.bool a0,.int .i64 a1]=some (.int .i64 r,false):=by
 unfold f194 at h
 rcases qb h with ⟨h1,h⟩ | ⟨h1,h⟩
 ·obtain rfl:=Option.some.inj h
  refine qn (f:=c194) rfl rfl rfl (by first | rfl | simp only [go_sem,seval]) ?_
  simp only [go_sem,seval,c194,h1]
  exact ⟨_,rfl⟩
 obtain rfl:=Option.some.inj h
 refine qn (f:=c194) rfl rfl rfl (by first | rfl | simp only [go_sem,seval]) ?_
 simp only [go_sem,seval,c194,h1]
 exact ⟨_,rfl⟩
noncomputable def f195 (a0:Int) (a1:Int) (a2:Int):Option Int:=
 cond (decide (a0 < a1))
  (qc (f194 true 3) fun v2=>
  some v2)
  (qc (f194 (decide (a2 < a0)) 3) fun v4=>
  some v4)
theorem qjg {a0:Int} {a1:Int} {a2:Int} {r} (h:f195 a0 a1 a2=some r):qf pr (X pr) 195 [.int .i64 a0,.int .i64 a1,.int .i64 a2]=some (.int .i64 r,false):=by
 unfold f195 at h
 rcases qb h with ⟨h1,h⟩ | ⟨h1,h⟩
 ·obtain ⟨v2,h3,h⟩:=qa h
  obtain rfl:=Option.some.inj h
  refine qn (f:=c195) rfl rfl rfl (by first | rfl | simp only [go_sem,seval]) ?_
  simp only [go_sem,seval,c195,h1,qan h3]
  exact ⟨_,rfl⟩
 obtain ⟨v4,h5,h⟩:=qa h
 have wh5:=qan h5
 obtain rfl:=Option.some.inj h
 refine qn (f:=c195) rfl rfl rfl (by first | rfl | simp only [go_sem,seval]) ?_
 simp only [go_sem,seval,c195,h1,wh5]
 exact ⟨_,rfl⟩
noncomputable def qjb (a0:TI) (s0:Int):Option (Int ⊕ (Int ⊕ Int)):=
 cond (decide (s0 < ((a0.getD []).length:Int)))
  (qc (js (a0.getD []) s0) fun v10=>
  cond (decide (v10=0))
   (some (.inl (qg .i64 (s0 + 1))))
   (some (.inr (.inl v10))))
  (some (.inr (.inr s0)))
def qfv (a0:TI) (s0:Int):ASt:=⟨[(5,sl 1 qm a0,false),(6,.int .i64 ((a0.getD []).length:Int),false),(7,.int .i64 s0,false)],[]⟩
def qij (a0:TI):Int ⊕ Int→jb × ASt
 | .inl d=>(.ret,⟨[(2,.int .i64 d,false)],[]⟩)
 | .inr d=>(.exit 0,⟨[(5,sl 1 qm a0,false),(6,.int .i64 ((a0.getD []).length:Int),false),(7,.int .i64 d,false),(8,.bool false,false)],[]⟩)
theorem ji3 (a0:TI) (s0:Int) (r) (h:qjb a0 s0=some r):jt pr qm5 (qfv a0) (qij a0) s0 r:=by
 unfold qjb at h
 rcases qb h with ⟨h9,h⟩ | ⟨h9,h⟩
 ·obtain ⟨v10,h11,h⟩:=qa h
  rcases qb h with ⟨h12,h⟩ | ⟨h12,h⟩
  ·cases h
   exact qw (by simp only [go_sem,seval,qm5,qfv,h9,qu h11,h12] <;> rfl) (Nat.le_refl _)
  cases h
  exact qh (by simp only [go_sem,seval,qm5,qfv,h9,qu h11,h12,qij] <;> rfl)
 cases h
 exact qh (by simp only [go_sem,seval,qm5,qfv,h9,qij] <;> rfl)
theorem q51 (a0:TI) {s0:Int} {d} (h:itO (qjb a0) s0=some d):X pr (.loop qm5) (qfv a0 s0)=some (qij a0 d):=j9 (ji3 a0) (fun d=>by rcases d with d|d <;> (intro hh; cases hh)) h
noncomputable def f171 (a0:TI):Option Int:=
 qc (itO (qjb a0) 0) fun d13=>match d13 with
  | .inl d15=>
   some d15
  | .inr d16=>
   some 0
theorem qpd {a0:TI} {r} (h:f171 a0=some r):qf pr (X pr) 171 [sl 1 qm a0]=some (.int .i64 r,false):=by
 unfold f171 at h
 obtain ⟨d13,h14,h⟩:=qa h
 rcases d13 with d15 | d16
 ·have wh14:=q51 a0 h14
  dsimp only [qfv,qij] at wh14
  obtain rfl:=Option.some.inj h
  refine qn (f:=c171) rfl rfl rfl (by first | rfl | simp only [go_sem,seval]) ?_
  simp only [go_sem,seval,c171,wh14]
  exact ⟨_,rfl⟩
 have wh14:=q51 a0 h14
 dsimp only [qfv,qij] at wh14
 obtain rfl:=Option.some.inj h
 refine qn (f:=c171) rfl rfl rfl (by first | rfl | simp only [go_sem,seval]) ?_
 simp only [go_sem,seval,c171,wh14]
 exact ⟨_,rfl⟩
noncomputable def f172 (a0:Int):Option Int:=
 qc (f195 a0 1 8) fun v1=>
 some v1
theorem jjb {a0:Int} {r} (h:f172 a0=some r):qf pr (X pr) 172 [.int .i64 a0]=some (.int .i64 r,false):=by
 unfold f172 at h
 obtain ⟨v1,h2,h⟩:=qa h
 obtain rfl:=Option.some.inj h
 refine qn (f:=c172) rfl rfl rfl (by first | rfl | simp only [go_sem,seval]) ?_
 simp only [go_sem,seval,c172,qjg h2]
 exact ⟨_,rfl⟩
noncomputable def f122 (a0:Int):Option Int:=
 qc (f109 a0 1 8) fun v1=>
 some v1
theorem jxt {a0:Int} {r} (h:f122 a0=some r):qf pr (X pr) 122 [.int .i64 a0]=some (.int .i64 r,false):=by
 unfold f122 at h
 obtain ⟨v1,h2,h⟩:=qa h
 obtain rfl:=Option.some.inj h
 refine qn (f:=c122) rfl rfl rfl (by first | rfl | simp only [go_sem,seval]) ?_
 simp only [go_sem,seval,c122,qow h2]
 exact ⟨_,rfl⟩
noncomputable def qj4 (a0:TE) (s0:Int):Option (Int ⊕ ((Int × (List UInt8) × Int × Int) ⊕ (Int × (List UInt8) × Int × Int) ⊕ (Int × (List UInt8) × Int × Int) ⊕ (Int × (List UInt8) × Int × Int) ⊕ (Int × (List UInt8) × Int × Int) ⊕ Int)):=
 cond (decide (s0 < ((a0.getD []).length:Int)))
  (qc (js (a0.getD []) s0) fun v151=>
  cond (decide (v151.kind=([98,108,111,99,107]:List UInt8)))
   (qc (f194 false 13) fun v154=>
   qc (f195 v151.a 0 8) fun v156=>
   qc (f195 v151.b 0 8) fun v158=>
   cond (decide (v151.a=0))
    (qc (f194 (decide (v151.b=0)) 6) fun v161=>
    qc (f171 (some [v154,v156,v158,v161])) fun v163=>
    cond (decide (v163=0))
     (some (.inl (qg .i64 (s0 + 1))))
     (some (.inr (.inl (v163,v151.kind,v151.a,v151.b)))))
    (qc (f194 false 6) fun v166=>
    qc (f171 (some [v154,v156,v158,v166])) fun v168=>
    cond (decide (v168=0))
     (some (.inl (qg .i64 (s0 + 1))))
     (some (.inr (.inl (v168,v151.kind,v151.a,v151.b))))))
   (cond (decide (v151.kind=([115,101,114,105,101,115]:List UInt8)))
    (qc (f194 false 13) fun v172=>
    qc (f195 v151.a 0 8) fun v174=>
    qc (f195 v151.b 0 8) fun v176=>
    qc (f194 false 6) fun v178=>
    qc (f171 (some [v172,v174,v176,v178])) fun v180=>
    cond (decide (v180=0))
     (some (.inl (qg .i64 (s0 + 1))))
     (some (.inr (.inr (.inl (v180,v151.kind,v151.a,v151.b))))))
    (cond (decide (v151.kind=([115,104,117,110,116]:List UInt8)))
     (qc (f194 false 13) fun v184=>
     qc (f195 v151.a 0 8) fun v186=>
     qc (f195 v151.b 0 8) fun v188=>
     qc (f194 false 6) fun v190=>
     qc (f171 (some [v184,v186,v188,v190])) fun v192=>
     cond (decide (v192=0))
      (some (.inl (qg .i64 (s0 + 1))))
      (some (.inr (.inr (.inr (.inl (v192,v151.kind,v151.a,v151.b)))))))
     (cond (decide (v151.kind=([116,114,97,112]:List UInt8)))
      (qc (f194 false 13) fun v196=>
      qc (f195 v151.a 0 8) fun v198=>
      qc (f195 v151.b 0 8) fun v200=>
      cond (decide (v151.a=0))
       (qc (f194 (decide (v151.b=0)) 6) fun v203=>
       qc (f171 (some [v196,v198,v200,v203])) fun v205=>
       cond (decide (v205=0))
        (some (.inl (qg .i64 (s0 + 1))))
        (some (.inr (.inr (.inr (.inr (.inl (v205,v151.kind,v151.a,v151.b))))))))
       (qc (f194 false 6) fun v208=>
       qc (f171 (some [v196,v198,v200,v208])) fun v210=>
       cond (decide (v210=0))
        (some (.inl (qg .i64 (s0 + 1))))
        (some (.inr (.inr (.inr (.inr (.inl (v210,v151.kind,v151.a,v151.b)))))))))
      (qc (f194 true 13) fun v213=>
      qc (f195 v151.a 0 8) fun v215=>
      qc (f195 v151.b 0 8) fun v217=>
      qc (f194 false 6) fun v219=>
      qc (f171 (some [v213,v215,v217,v219])) fun v221=>
      cond (decide (v221=0))
       (some (.inl (qg .i64 (s0 + 1))))
       (some (.inr (.inr (.inr (.inr (.inr (.inl (v221,v151.kind,v151.a,v151.b)))))))))))))
  (some (.inr (.inr (.inr (.inr (.inr (.inr s0)))))))
def zg (a0:TE) (s0:Int):ASt:=⟨[(11,sl 3 vel a0,false),(12,.int .i64 ((a0.getD []).length:Int),false),(13,.int .i64 s0,false)],[]⟩
def qal (a0:TE):(Int × (List UInt8) × Int × Int) ⊕ (Int × (List UInt8) × Int × Int) ⊕ (Int × (List UInt8) × Int × Int) ⊕ (Int × (List UInt8) × Int × Int) ⊕ (Int × (List UInt8) × Int × Int) ⊕ Int→jb × ASt
 | .inl d=>(.ret,⟨[(2,.int .i64 d.1,false)],[.cells [(.str d.2.1,false),(.int .i64 d.2.2.1,false),(.int .i64 d.2.2.2,false)],.map yh,.cells [(.str ([116,114,97,112]:List UInt8),false),(.bool true,false),(.fn (.func 218) [] [],false)]]⟩)
 | .inr (.inl d)=>(.ret,⟨[(2,.int .i64 d.1,false)],[.cells [(.str d.2.1,false),(.int .i64 d.2.2.1,false),(.int .i64 d.2.2.2,false)],.map yh,.cells [(.str ([115,104,117,110,116]:List UInt8),false),(.bool false,false),(.fn (.func 219) [] [],false)]]⟩)
 | .inr (.inr (.inl d))=>(.ret,⟨[(2,.int .i64 d.1,false)],[.cells [(.str d.2.1,false),(.int .i64 d.2.2.1,false),(.int .i64 d.2.2.2,false)],.map yh,.cells [(.str ([115,101,114,105,101,115]:List UInt8),false),(.bool false,false),(.fn (.func 220) [] [],false)]]⟩)
 | .inr (.inr (.inr (.inl d)))=>(.ret,⟨[(2,.int .i64 d.1,false)],[.cells [(.str d.2.1,false),(.int .i64 d.2.2.1,false),(.int .i64 d.2.2.2,false)],.map yh,.cells [(.str ([98,108,111,99,107]:List UInt8),false),(.bool true,false),(.fn (.func 221) [] [],false)]]⟩)
 | .inr (.inr (.inr (.inr (.inl d))))=>(.ret,⟨[(2,.int .i64 d.1,false)],[.cells [(.str d.2.1,false),(.int .i64 d.2.2.1,false),(.int .i64 d.2.2.2,false)],.map yh,.cells [(.str [],false),(.bool false,false),(.nilfn,false)]]⟩)
 | .inr (.inr (.inr (.inr (.inr d))))=>(.exit 0,⟨[(11,sl 3 vel a0,false),(12,.int .i64 ((a0.getD []).length:Int),false),(13,.int .i64 d,false),(14,.bool false,false)],[]⟩)
theorem jjr (a0:TE) (s0:Int) (r) (h:qj4 a0 s0=some r):jt pr qap (zg a0) (qal a0) s0 r:=by
 unfold qj4 at h
 rcases qb h with ⟨h150,h⟩ | ⟨h150,h⟩
 ·obtain ⟨v151,h152,h⟩:=qa h
  rcases qb h with ⟨h153,h⟩ | ⟨h153,h⟩
  ·obtain ⟨v154,h155,h⟩:=qa h
   obtain ⟨v156,h157,h⟩:=qa h
   have wh157:=qjg h157
   obtain ⟨v158,h159,h⟩:=qa h
   have wh159:=qjg h159
   rcases qb h with ⟨h160,h⟩ | ⟨h160,h⟩
   ·obtain ⟨v161,h162,h⟩:=qa h
    have wh162:=qan h162
    obtain ⟨v163,h164,h⟩:=qa h
    have wh164:qf pr (X pr) 171 [.list false 1 [.int .i64 v154,.int .i64 v156,.int .i64 v158,.int .i64 v161]]=some (.int .i64 v163,false):=qpd h164
    rcases qb h with ⟨h165,h⟩ | ⟨h165,h⟩
    ·cases h
     exact zt (by simp only [go_sem,seval,qap,zg,h150,qu h152,h153,qut h153,qan h155,wh157,wh159,h160,wh162,wh164,h165]; exact ⟨_,rfl⟩) rfl (by first | simp only [go_sem,seval,zg] | rfl) (by first | simp only [go_sem,seval,zg] | rfl)
    cases h
    exact qh (by simp only [go_sem,seval,qap,zg,h150,qu h152,h153,qut h153,qan h155,wh157,wh159,h160,wh162,wh164,h165,qal] <;> rfl)
   obtain ⟨v166,h167,h⟩:=qa h
   obtain ⟨v168,h169,h⟩:=qa h
   have wh169:qf pr (X pr) 171 [.list false 1 [.int .i64 v154,.int .i64 v156,.int .i64 v158,.int .i64 v166]]=some (.int .i64 v168,false):=qpd h169
   rcases qb h with ⟨h170,h⟩ | ⟨h170,h⟩
   ·cases h
    exact zt (by simp only [go_sem,seval,qap,zg,h150,qu h152,h153,qut h153,qan h155,wh157,wh159,h160,qan h167,wh169,h170]; exact ⟨_,rfl⟩) rfl (by first | simp only [go_sem,seval,zg] | rfl) (by first | simp only [go_sem,seval,zg] | rfl)
   cases h
   exact qh (by simp only [go_sem,seval,qap,zg,h150,qu h152,h153,qut h153,qan h155,wh157,wh159,h160,qan h167,wh169,h170,qal] <;> rfl)
  rcases qb h with ⟨h171,h⟩ | ⟨h171,h⟩
  ·obtain ⟨v172,h173,h⟩:=qa h
   obtain ⟨v174,h175,h⟩:=qa h
   have wh175:=qjg h175
   obtain ⟨v176,h177,h⟩:=qa h
   have wh177:=qjg h177
   obtain ⟨v178,h179,h⟩:=qa h
   obtain ⟨v180,h181,h⟩:=qa h
   have wh181:qf pr (X pr) 171 [.list false 1 [.int .i64 v172,.int .i64 v174,.int .i64 v176,.int .i64 v178]]=some (.int .i64 v180,false):=qpd h181
   rcases qb h with ⟨h182,h⟩ | ⟨h182,h⟩
   ·cases h
    exact zt (by simp only [go_sem,seval,qap,zg,h150,qu h152,h153,h171,q4h h153 h171,qan h173,wh175,wh177,qan h179,wh181,h182]; exact ⟨_,rfl⟩) rfl (by first | simp only [go_sem,seval,zg] | rfl) (by first | simp only [go_sem,seval,zg] | rfl)
   cases h
   exact qh (by simp only [go_sem,seval,qap,zg,h150,qu h152,h153,h171,q4h h153 h171,qan h173,wh175,wh177,qan h179,wh181,h182,qal] <;> rfl)
  rcases qb h with ⟨h183,h⟩ | ⟨h183,h⟩
  ·obtain ⟨v184,h185,h⟩:=qa h
   obtain ⟨v186,h187,h⟩:=qa h
   have wh187:=qjg h187
   obtain ⟨v188,h189,h⟩:=qa h
   have wh189:=qjg h189
   obtain ⟨v190,h191,h⟩:=qa h
   obtain ⟨v192,h193,h⟩:=qa h
   have wh193:qf pr (X pr) 171 [.list false 1 [.int .i64 v184,.int .i64 v186,.int .i64 v188,.int .i64 v190]]=some (.int .i64 v192,false):=qpd h193
   rcases qb h with ⟨h194,h⟩ | ⟨h194,h⟩
   ·cases h
    exact zt (by simp only [go_sem,seval,qap,zg,h150,qu h152,h153,h171,h183,q43 h153 h171 h183,qan h185,wh187,wh189,qan h191,wh193,h194]; exact ⟨_,rfl⟩) rfl (by first | simp only [go_sem,seval,zg] | rfl) (by first | simp only [go_sem,seval,zg] | rfl)
   cases h
   exact qh (by simp only [go_sem,seval,qap,zg,h150,qu h152,h153,h171,h183,q43 h153 h171 h183,qan h185,wh187,wh189,qan h191,wh193,h194,qal] <;> rfl)
  rcases qb h with ⟨h195,h⟩ | ⟨h195,h⟩
  ·obtain ⟨v196,h197,h⟩:=qa h
   obtain ⟨v198,h199,h⟩:=qa h
   have wh199:=qjg h199
   obtain ⟨v200,h201,h⟩:=qa h
   have wh201:=qjg h201
   rcases qb h with ⟨h202,h⟩ | ⟨h202,h⟩
   ·obtain ⟨v203,h204,h⟩:=qa h
    have wh204:=qan h204
    obtain ⟨v205,h206,h⟩:=qa h
    have wh206:qf pr (X pr) 171 [.list false 1 [.int .i64 v196,.int .i64 v198,.int .i64 v200,.int .i64 v203]]=some (.int .i64 v205,false):=qpd h206
    rcases qb h with ⟨h207,h⟩ | ⟨h207,h⟩
    ·cases h
     exact zt (by simp only [go_sem,seval,qap,zg,h150,qu h152,h153,h171,h183,h195,qu8 h153 h171 h183 h195,qan h197,wh199,wh201,h202,wh204,wh206,h207]; exact ⟨_,rfl⟩) rfl (by first | simp only [go_sem,seval,zg] | rfl) (by first | simp only [go_sem,seval,zg] | rfl)
    cases h
    exact qh (by simp only [go_sem,seval,qap,zg,h150,qu h152,h153,h171,h183,h195,qu8 h153 h171 h183 h195,qan h197,wh199,wh201,h202,wh204,wh206,h207,qal] <;> rfl)
   obtain ⟨v208,h209,h⟩:=qa h
   obtain ⟨v210,h211,h⟩:=qa h
   have wh211:qf pr (X pr) 171 [.list false 1 [.int .i64 v196,.int .i64 v198,.int .i64 v200,.int .i64 v208]]=some (.int .i64 v210,false):=qpd h211
   rcases qb h with ⟨h212,h⟩ | ⟨h212,h⟩
   ·cases h
    exact zt (by simp only [go_sem,seval,qap,zg,h150,qu h152,h153,h171,h183,h195,qu8 h153 h171 h183 h195,qan h197,wh199,wh201,h202,qan h209,wh211,h212]; exact ⟨_,rfl⟩) rfl (by first | simp only [go_sem,seval,zg] | rfl) (by first | simp only [go_sem,seval,zg] | rfl)
   cases h
   exact qh (by simp only [go_sem,seval,qap,zg,h150,qu h152,h153,h171,h183,h195,qu8 h153 h171 h183 h195,qan h197,wh199,wh201,h202,qan h209,wh211,h212,qal] <;> rfl)
  obtain ⟨v213,h214,h⟩:=qa h
  obtain ⟨v215,h216,h⟩:=qa h
  have wh216:=qjg h216
  obtain ⟨v217,h218,h⟩:=qa h
  have wh218:=qjg h218
  obtain ⟨v219,h220,h⟩:=qa h
  obtain ⟨v221,h222,h⟩:=qa h
  have wh222:qf pr (X pr) 171 [.list false 1 [.int .i64 v213,.int .i64 v215,.int .i64 v217,.int .i64 v219]]=some (.int .i64 v221,false):=qpd h222
  rcases qb h with ⟨h223,h⟩ | ⟨h223,h⟩
  ·cases h
   exact zt (by simp only [go_sem,seval,qap,zg,h150,qu h152,h153,h171,h183,h195,jbh h153 h171 h183 h195,qan h214,wh216,wh218,qan h220,wh222,h223]; exact ⟨_,rfl⟩) rfl (by first | simp only [go_sem,seval,zg] | rfl) (by first | simp only [go_sem,seval,zg] | rfl)
  cases h
  exact qh (by simp only [go_sem,seval,qap,zg,h150,qu h152,h153,h171,h183,h195,jbh h153 h171 h183 h195,qan h214,wh216,wh218,qan h220,wh222,h223,qal] <;> rfl)
 cases h
 exact qh (by simp only [go_sem,seval,qap,zg,h150,qal] <;> rfl)
theorem qml (a0:TE) {s0:Int} {d} (h:itO (qj4 a0) s0=some d):X pr (.loop qap) (zg a0 s0)=some (qal a0 d):=j9 (jjr a0) (fun d=>by rcases d with d|d|d|d|d|d <;> (intro hh; cases hh)) h
noncomputable def f158 (a0:TE):Option Int:=
 cond (decide (5 < ((a0.getD []).length:Int)))
  (some 5)
  (qc (itO (qj4 a0) 0) fun d224=>match d224 with
   | .inl d226=>
    some d226.1
   | .inr (.inl d227)=>
    some d227.1
   | .inr (.inr (.inl d228))=>
    some d228.1
   | .inr (.inr (.inr (.inl d229)))=>
    some d229.1
   | .inr (.inr (.inr (.inr (.inl d230))))=>
    some d230.1
   | .inr (.inr (.inr (.inr (.inr d231))))=>
    some 0)
theorem q36 {a0:TE} {r} (h:f158 a0=some r):qf pr (X pr) 158 [sl 3 vel a0]=some (.int .i64 r,false):=by
 unfold f158 at h
 rcases qb h with ⟨h1,h⟩ | ⟨h1,h⟩
 ·obtain rfl:=Option.some.inj h
  refine qn (f:=c158) rfl rfl rfl (by first | rfl | simp only [go_sem,seval]) ?_
  simp only [go_sem,seval,c158,h1]
  exact ⟨_,rfl⟩
 obtain ⟨d224,h225,h⟩:=qa h
 rcases d224 with d226 | d227 | d228 | d229 | d230 | d231
 ·have wh225:=qml a0 h225
  dsimp only [zg,qal] at wh225
  obtain rfl:=Option.some.inj h
  refine qn (f:=c158) rfl rfl rfl (by first | rfl | simp only [go_sem,seval]) ?_
  simp only [go_sem,seval,c158,h1,wh225]
  exact ⟨_,rfl⟩
 ·have wh225:=qml a0 h225
  dsimp only [zg,qal] at wh225
  obtain rfl:=Option.some.inj h
  refine qn (f:=c158) rfl rfl rfl (by first | rfl | simp only [go_sem,seval]) ?_
  simp only [go_sem,seval,c158,h1,wh225]
  exact ⟨_,rfl⟩
 ·have wh225:=qml a0 h225
  dsimp only [zg,qal] at wh225
  obtain rfl:=Option.some.inj h
  refine qn (f:=c158) rfl rfl rfl (by first | rfl | simp only [go_sem,seval]) ?_
  simp only [go_sem,seval,c158,h1,wh225]
  exact ⟨_,rfl⟩
 ·have wh225:=qml a0 h225
  dsimp only [zg,qal] at wh225
  obtain rfl:=Option.some.inj h
  refine qn (f:=c158) rfl rfl rfl (by first | rfl | simp only [go_sem,seval]) ?_
  simp only [go_sem,seval,c158,h1,wh225]
  exact ⟨_,rfl⟩
 ·have wh225:=qml a0 h225
  dsimp only [zg,qal] at wh225
  obtain rfl:=Option.some.inj h
  refine qn (f:=c158) rfl rfl rfl (by first | rfl | simp only [go_sem,seval]) ?_
  simp only [go_sem,seval,c158,h1,wh225]
  exact ⟨_,rfl⟩
 have wh225:=qml a0 h225
 dsimp only [zg,qal] at wh225
 obtain rfl:=Option.some.inj h
 refine qn (f:=c158) rfl rfl rfl (by first | rfl | simp only [go_sem,seval]) ?_
 simp only [go_sem,seval,c158,h1,wh225]
 exact ⟨_,rfl⟩
noncomputable def f108 (a0:GEl):Option Int:=
 qc (f158 (some [a0])) fun v1=>
 some v1
theorem jv2 {a0:GEl} {r} (h:f108 a0=some r):qf pr (X pr) 108 [.agg [.str a0.kind,.int .i64 a0.a,.int .i64 a0.b]]=some (.int .i64 r,false):=by
 unfold f108 at h
 obtain ⟨v1,h2,h⟩:=qa h
 have wh2:qf pr (X pr) 158 [.list false 3 [.agg [.str a0.kind,.int .i64 a0.a,.int .i64 a0.b]]]=some (.int .i64 v1,false):=q36 h2
 obtain rfl:=Option.some.inj h
 refine qn (f:=c108) rfl rfl rfl (by first | rfl | simp only [go_sem,seval]) ?_
 simp only [go_sem,seval,c108,wh2]
 exact ⟨_,rfl⟩
noncomputable def qx8 (a0:GEl):Option Int:=
 qc (f158 (some [a0])) fun v1=>
 some v1
theorem jmk (hp:qk) {a0:GEl} {r} (h:qx8 a0=some r):jg pr (X pr) 108 [.agg [.str a0.kind,.int .i64 a0.a,.int .i64 a0.b]] hp=some (.int .i64 r,false,hp):=by
 unfold qx8 at h
 obtain ⟨v1,h2,h⟩:=qa h
 have wh2:qf pr (X pr) 158 [.list false 3 [.agg [.str a0.kind,.int .i64 a0.a,.int .i64 a0.b]]]=some (.int .i64 v1,false):=q36 h2
 have hr:v1=r:=Option.some.inj h
 subst hr
 rw [j8 (show pr.fns 108=some c108 from rfl) (by simp)]
 simp only [go_sem,seval,c108,wh2] <;> rfl
noncomputable def f155 (a0:Int) (a1:Int):Option qy:=
 some (⟨qg .i64 (a0 - a1),qg .i64 (a0 + a1)⟩)
theorem ji2 {a0:Int} {a1:Int} {r} (h:f155 a0 a1=some r):qf pr (X pr) 155 [.int .i64 a0,.int .i64 a1]=some (.agg [.int .i64 r.num,.int .i64 r.den],false):=by
 unfold f155 at h
 obtain rfl:=Option.some.inj h
 refine qn (f:=c155) rfl rfl rfl (by first | rfl | simp only [go_sem,seval]) ?_
 simp only [go_sem,seval,c155]
 exact ⟨_,rfl⟩
noncomputable def qj2 (a0:qy) (s0:TI × Int × Bool):Option ((TI × Int × Bool) ⊕ ((TI × Bool × Int))):=
 cond (decide (s0.2.1≤a0.den))
  (cond s0.2.2
   (qc (apO s0.1 [s0.2.1]) fun v13=>
   some (.inl (v13,qg .i64 (s0.2.1 + 1),true)))
   (cond s0.1.isNone
    (qc (apO s0.1 [s0.2.1]) fun v16=>
    some (.inl (v16,qg .i64 (s0.2.1 + 1),true)))
    (none)))
  (some (.inr (s0.1,s0.2.2,s0.2.1)))
def qih (a0:qy) (s0:TI × Int × Bool):ASt:=⟨[(2,.vptr (.agg [.int .i64 a0.num,.int .i64 a0.den]),false),(5,sl 1 qm s0.1,s0.2.2),(6,.int .i64 s0.2.1,false)],[]⟩
def qre (a0:qy) (d:(TI × Bool × Int)):jb × ASt:=(.exit 0,⟨[(2,.vptr (.agg [.int .i64 a0.num,.int .i64 a0.den]),false),(5,sl 1 qm d.1,d.2.1),(6,.int .i64 d.2.2,false),(28,.bool false,false)],[]⟩)
theorem jf7 (a0:qy) (s0:TI × Int × Bool) (r) (h:qj2 a0 s0=some r):jt pr qmh (qih a0) (qre a0) s0 r:=by
 unfold qj2 at h
 rcases qb h with ⟨h11,h⟩ | ⟨h11,h⟩
 ·rcases qb h with ⟨h12,h⟩ | ⟨h12,h⟩
  ·obtain ⟨v13,h14,h⟩:=qa h
   cases h
   exact qw (by simp only [go_sem,seval,qmh,qih,h11,h12,qbr h14] <;> rfl) (Nat.le_refl _)
  rcases qb h with ⟨h15,h⟩ | ⟨h15,h⟩
  ·obtain ⟨v16,h17,h⟩:=qa h
   cases h
   exact qw (by simp only [go_sem,seval,qmh,qih,h11,h12,h15,qe1 h17 h15] <;> rfl) (Nat.le_refl _)
  cases h
 cases h
 exact qh (by simp only [go_sem,seval,qmh,qih,h11,qre] <;> rfl)
theorem jgf (a0:qy) {s0:TI × Int × Bool} {d} (h:itO (qj2 a0) s0=some d):X pr (.loop qmh) (qih a0 s0)=some (qre a0 d):=j9 (jf7 a0) (fun d hh=>by cases hh) h
noncomputable def f156 (a0:qy) (a1:Bool):Option (TI × Bool):=
 cond (decide (a0.den=a0.num))
  (some (some [a0.num],true))
  (cond a1
   (some (some [a0.num,a0.den],true))
   (qc (itO (qj2 a0) (none,a0.num,false)) fun d18=>
   some (d18.1,d18.2.1)))
theorem je8 {a0:qy} {a1:Bool} {r} (h:f156 a0 a1=some r):qf pr (X pr) 156 [.agg [.int .i64 a0.num,.int .i64 a0.den],.bool a1]=some (sl 1 qm r.1,r.2):=by
 unfold f156 at h
 rcases qb h with ⟨h1,h⟩ | ⟨h1,h⟩
 ·have hr:(some [a0.num],true)=r:=Option.some.inj h
  subst hr
  have this:∃ hh,jg pr (X pr) 156 [.agg [.int .i64 a0.num,.int .i64 a0.den],.bool a1] []=some (.list false 1 [.int .i64 a0.num],true,hh):=by
   rw [j8 (show pr.fns 156=some c156 from rfl) (by simp)]
   simp only [go_sem,seval,c156,h1]
   exact ⟨_,rfl⟩
  obtain ⟨hh,this⟩:=this
  exact zk rfl this (by first | rfl | simp only [go_sem,seval]) (by first | rfl | simp only [go_sem,seval]) (by first | rfl | simp only [go_sem,seval])
 rcases qb h with ⟨h2,h⟩ | ⟨h2,h⟩
 ·have hr:(some [a0.num,a0.den],true)=r:=Option.some.inj h
  subst hr
  have this:∃ hh,jg pr (X pr) 156 [.agg [.int .i64 a0.num,.int .i64 a0.den],.bool a1] []=some (.list false 1 [.int .i64 a0.num,.int .i64 a0.den],true,hh):=by
   rw [j8 (show pr.fns 156=some c156 from rfl) (by simp)]
   simp only [go_sem,seval,c156,h1,h2]
   exact ⟨_,rfl⟩
  obtain ⟨hh,this⟩:=this
  exact zk rfl this (by first | rfl | simp only [go_sem,seval]) (by first | rfl | simp only [go_sem,seval]) (by first | rfl | simp only [go_sem,seval])
 obtain ⟨d18,h19,h⟩:=qa h
 have wh19:=jgf a0 h19
 dsimp only [qih,qre,qdx] at wh19
 have hr:(d18.1,d18.2.1)=r:=Option.some.inj h
 subst hr
 have this:∃ hh,jg pr (X pr) 156 [.agg [.int .i64 a0.num,.int .i64 a0.den],.bool a1] []=some (sl 1 qm d18.1,d18.2.1,hh):=by
  rw [j8 (show pr.fns 156=some c156 from rfl) (by simp)]
  simp only [go_sem,seval,c156,h1,h2,wh19]
  exact ⟨_,rfl⟩
 obtain ⟨hh,this⟩:=this
 exact zk rfl this (by first | rfl | simp only [go_sem,seval]) (by first | rfl | simp only [go_sem,seval]) (by first | rfl | simp only [go_sem,seval])
noncomputable def qn8 (a0:ql) (a1:Bool) (v3:TI × Bool) (s0:TE × Int × Bool) (v72:Int) (v76:TI × Bool) (s1:TE × Int × Bool):Option ((TE × Int × Bool) ⊕ ((TE × Bool × Int))):=
 cond (decide (s1.2.1 < ((v76.1.getD []).length:Int)))
  (qc (js (v76.1.getD []) s1.2.1) fun v97=>
  cond s1.2.2
   (qc (apO s1.1 [⟨a0.kd,v72,v97⟩]) fun v100=>
   some (.inl (v100,qg .i64 (s1.2.1 + 1),true)))
   (cond s1.1.isNone
    (qc (apO s1.1 [⟨a0.kd,v72,v97⟩]) fun v103=>
    some (.inl (v103,qg .i64 (s1.2.1 + 1),true)))
    (none)))
  (some (.inr (s1.1,s1.2.2,s1.2.1)))
def qmn (a0:ql) (a1:Bool) (v3:TI × Bool) (s0:TE × Int × Bool) (v72:Int) (v76:TI × Bool) (s1:TE × Int × Bool):ASt:=⟨[(1,.bool a1,false),(2,.vptr (.agg [.str a0.name,.str a0.kd,.int .i64 a0.pa,.int .i64 a0.pb,.int .i64 a0.sa,.int .i64 a0.sb,.int .i64 a0.cost,.int .i64 a0.stock]),false),(5,sl 3 vel s1.1,s1.2.2),(7,.int .i64 v72,false),(17,sl 1 qm v3.1,v3.2),(18,.int .i64 ((v3.1.getD []).length:Int),false),(19,.int .i64 s0.2.1,false),(30,sl 1 qm v76.1,v76.2),(31,.int .i64 ((v76.1.getD []).length:Int),false),(32,.int .i64 s1.2.1,false)],[]⟩
def quj (a0:ql) (a1:Bool) (v3:TI × Bool) (s0:TE × Int × Bool) (v72:Int) (v76:TI × Bool) (d:(TE × Bool × Int)):jb × ASt:=(.exit 2,⟨[(1,.bool a1,false),(2,.vptr (.agg [.str a0.name,.str a0.kd,.int .i64 a0.pa,.int .i64 a0.pb,.int .i64 a0.sa,.int .i64 a0.sb,.int .i64 a0.cost,.int .i64 a0.stock]),false),(5,sl 3 vel d.1,d.2.1),(7,.int .i64 v72,false),(17,sl 1 qm v3.1,v3.2),(18,.int .i64 ((v3.1.getD []).length:Int),false),(19,.int .i64 s0.2.1,false),(30,sl 1 qm v76.1,v76.2),(31,.int .i64 ((v76.1.getD []).length:Int),false),(32,.int .i64 d.2.2,false),(33,.bool false,false)],[]⟩)
theorem jqv (a0:ql) (a1:Bool) (v3:TI × Bool) (s0:TE × Int × Bool) (v72:Int) (v76:TI × Bool) (s1:TE × Int × Bool) (r) (h:qn8 a0 a1 v3 s0 v72 v76 s1=some r):jt pr qrs (qmn a0 a1 v3 s0 v72 v76) (quj a0 a1 v3 s0 v72 v76) s1 r:=by
 unfold qn8 at h
 rcases qb h with ⟨h96,h⟩ | ⟨h96,h⟩
 ·obtain ⟨v97,h98,h⟩:=qa h
  rcases qb h with ⟨h99,h⟩ | ⟨h99,h⟩
  ·obtain ⟨v100,h101,h⟩:=qa h
   cases h
   exact qw (by simp only [go_sem,seval,qrs,qmn,h96,qu h98,h99,qbt h101] <;> rfl) (Nat.le_refl _)
  rcases qb h with ⟨h102,h⟩ | ⟨h102,h⟩
  ·obtain ⟨v103,h104,h⟩:=qa h
   cases h
   exact qw (by simp only [go_sem,seval,qrs,qmn,h96,qu h98,h99,h102,qoy h104 h102] <;> rfl) (Nat.le_refl _)
  cases h
 cases h
 exact qh (by simp only [go_sem,seval,qrs,qmn,h96,quj] <;> rfl)
theorem jny (a0:ql) (a1:Bool) (v3:TI × Bool) (s0:TE × Int × Bool) (v72:Int) (v76:TI × Bool) {s1:TE × Int × Bool} {d} (h:itO (qn8 a0 a1 v3 s0 v72 v76) s1=some d):X pr (.loop qrs) (qmn a0 a1 v3 s0 v72 v76 s1)=some (quj a0 a1 v3 s0 v72 v76 d):=j9 (jqv a0 a1 v3 s0 v72 v76) (fun d hh=>by cases hh) h
noncomputable def qne (a0:ql) (a1:Bool) (v3:TI × Bool) (s0:TE × Int × Bool):Option ((TE × Int × Bool) ⊕ ((TE × Bool × Int))):=
 cond (decide (s0.2.1 < ((v3.1.getD []).length:Int)))
  (qc (js (v3.1.getD []) s0.2.1) fun v72=>
  qc (f155 a0.pb a0.sb) fun v74=>
  qc (f156 v74 a1) fun v76=>
  qc (itO (qn8 a0 a1 v3 s0 v72 v76) (s0.1,0,s0.2.2)) fun d105=>
  some (.inl (d105.1,qg .i64 (s0.2.1 + 1),d105.2.1)))
  (some (.inr (s0.1,s0.2.2,s0.2.1)))
def qqb (a0:ql) (a1:Bool) (v3:TI × Bool) (s0:TE × Int × Bool):ASt:=⟨[(1,.bool a1,false),(2,.vptr (.agg [.str a0.name,.str a0.kd,.int .i64 a0.pa,.int .i64 a0.pb,.int .i64 a0.sa,.int .i64 a0.sb,.int .i64 a0.cost,.int .i64 a0.stock]),false),(5,sl 3 vel s0.1,s0.2.2),(17,sl 1 qm v3.1,v3.2),(18,.int .i64 ((v3.1.getD []).length:Int),false),(19,.int .i64 s0.2.1,false)],[]⟩
def qtt (a0:ql) (a1:Bool) (v3:TI × Bool) (d:(TE × Bool × Int)):jb × ASt:=(.exit 0,⟨[(1,.bool a1,false),(2,.vptr (.agg [.str a0.name,.str a0.kd,.int .i64 a0.pa,.int .i64 a0.pb,.int .i64 a0.sa,.int .i64 a0.sb,.int .i64 a0.cost,.int .i64 a0.stock]),false),(5,sl 3 vel d.1,d.2.1),(17,sl 1 qm v3.1,v3.2),(18,.int .i64 ((v3.1.getD []).length:Int),false),(19,.int .i64 d.2.2,false),(20,.bool false,false)],[]⟩)
theorem jmw (a0:ql) (a1:Bool) (v3:TI × Bool) (s0:TE × Int × Bool) (r) (h:qne a0 a1 v3 s0=some r):jt pr qun (qqb a0 a1 v3) (qtt a0 a1 v3) s0 r:=by
 unfold qne at h
 rcases qb h with ⟨h71,h⟩ | ⟨h71,h⟩
 ·obtain ⟨v72,h73,h⟩:=qa h
  obtain ⟨v74,h75,h⟩:=qa h
  have wh75:=ji2 h75
  obtain ⟨v76,h77,h⟩:=qa h
  have wh77:=je8 h77
  obtain ⟨d105,h106,h⟩:=qa h
  have wh106:=jny a0 a1 v3 s0 v72 v76 h106
  dsimp only [qmn,quj] at wh106
  cases h
  exact qw (by simp only [go_sem,seval,qun,qqb,h71,qu h73,wh75,wh77,wh106] <;> rfl) (Nat.le_refl _)
 cases h
 exact qh (by simp only [go_sem,seval,qun,qqb,h71,qtt] <;> rfl)
theorem jlx (a0:ql) (a1:Bool) (v3:TI × Bool) {s0:TE × Int × Bool} {d} (h:itO (qne a0 a1 v3) s0=some d):X pr (.loop qun) (qqb a0 a1 v3 s0)=some (qtt a0 a1 v3 d):=j9 (jmw a0 a1 v3) (fun d hh=>by cases hh) h
noncomputable def f99 (a0:ql) (a1:Bool):Option (TE × Bool):=
 qc (f155 a0.pa a0.sa) fun v1=>
 qc (f156 v1 a1) fun v3=>
 qc (itO (qne a0 a1 v3) (none,0,false)) fun d107=>
 some (d107.1,d107.2.1)
theorem W99 {a0:ql} {a1:Bool} {r} (h:f99 a0 a1=some r):qf pr (X pr) 99 [.agg [.str a0.name,.str a0.kd,.int .i64 a0.pa,.int .i64 a0.pb,.int .i64 a0.sa,.int .i64 a0.sb,.int .i64 a0.cost,.int .i64 a0.stock],.bool a1]=some (sl 3 vel r.1,r.2):=by
 unfold f99 at h
 obtain ⟨v1,h2,h⟩:=qa h
 have wh2:=ji2 h2
 obtain ⟨v3,h4,h⟩:=qa h
 have wh4:=je8 h4
 obtain ⟨d107,h108,h⟩:=qa h
 have wh108:=jlx a0 a1 v3 h108
 dsimp only [qqb,qtt,qdx] at wh108
 have hr:(d107.1,d107.2.1)=r:=Option.some.inj h
 subst hr
 have this:∃ hh,jg pr (X pr) 99 [.agg [.str a0.name,.str a0.kd,.int .i64 a0.pa,.int .i64 a0.pb,.int .i64 a0.sa,.int .i64 a0.sb,.int .i64 a0.cost,.int .i64 a0.stock],.bool a1] []=some (sl 3 vel d107.1,d107.2.1,hh):=by
  rw [j8 (show pr.fns 99=some c99 from rfl) (by simp)]
  simp only [go_sem,seval,c99,wh2,wh4,wh108]
  exact ⟨_,rfl⟩
 obtain ⟨hh,this⟩:=this
 exact zk rfl this (by first | rfl | simp only [go_sem,seval]) (by first | rfl | simp only [go_sem,seval]) (by first | rfl | simp only [go_sem,seval])
noncomputable def qjr (a0:TE) (s0:TI × Int × Bool):Option ((TI × Int × Bool) ⊕ ((TI × Bool × Int))):=
 cond (decide (s0.2.1 < ((a0.getD []).length:Int)))
  (qc (js (a0.getD []) s0.2.1) fun v18=>
  qc (qx8 v18) fun v20=>
  cond s0.2.2
   (qc (apO s0.1 [v20]) fun v23=>
   some (.inl (v23,qg .i64 (s0.2.1 + 1),true)))
   (cond s0.1.isNone
    (qc (apO s0.1 [v20]) fun v26=>
    some (.inl (v26,qg .i64 (s0.2.1 + 1),true)))
    (none)))
  (some (.inr (s0.1,s0.2.2,s0.2.1)))
def qcv (a0:TE) (s0:TI × Int × Bool):ASt:=⟨[(1,.fn (.func 108) [] [],false),(5,sl 1 qm s0.1,s0.2.2),(8,sl 3 vel a0,false),(9,.int .i64 ((a0.getD []).length:Int),false),(10,.int .i64 s0.2.1,false)],[]⟩
def qqs (a0:TE) (d:(TI × Bool × Int)):jb × ASt:=(.exit 0,⟨[(1,.fn (.func 108) [] [],false),(5,sl 1 qm d.1,d.2.1),(8,sl 3 vel a0,false),(9,.int .i64 ((a0.getD []).length:Int),false),(10,.int .i64 d.2.2,false),(11,.bool false,false)],[]⟩)
theorem jiq (a0:TE) (s0:TI × Int × Bool) (r) (h:qjr a0 s0=some r):jt pr qmg (qcv a0) (qqs a0) s0 r:=by
 unfold qjr at h
 rcases qb h with ⟨h17,h⟩ | ⟨h17,h⟩
 ·obtain ⟨v18,h19,h⟩:=qa h
  obtain ⟨v20,h21,h⟩:=qa h
  have wh21:jg pr (X pr) 108 [.agg [.str v18.kind,.int .i64 v18.a,.int .i64 v18.b]] [.cells [(.str v18.kind,false),(.int .i64 v18.a,false),(.int .i64 v18.b,false)]]=some (.int .i64 v20,false,[.cells [(.str v18.kind,false),(.int .i64 v18.a,false),(.int .i64 v18.b,false)]]):=jmk [.cells [(.str v18.kind,false),(.int .i64 v18.a,false),(.int .i64 v18.b,false)]] h21
  rcases qb h with ⟨h22,h⟩ | ⟨h22,h⟩
  ·obtain ⟨v23,h24,h⟩:=qa h
   cases h
   exact zt (by simp only [go_sem,seval,qmg,qcv,h17,qu h19,wh21,h22,qbr h24]; exact ⟨_,rfl⟩) rfl (by first | simp only [go_sem,seval,qcv] | rfl) (by first | simp only [go_sem,seval,qcv] | rfl)
  rcases qb h with ⟨h25,h⟩ | ⟨h25,h⟩
  ·obtain ⟨v26,h27,h⟩:=qa h
   cases h
   exact zt (by simp only [go_sem,seval,qmg,qcv,h17,qu h19,wh21,h22,h25,qe1 h27 h25]; exact ⟨_,rfl⟩) rfl (by first | simp only [go_sem,seval,qcv] | rfl) (by first | simp only [go_sem,seval,qcv] | rfl)
  cases h
 cases h
 exact qh (by simp only [go_sem,seval,qmg,qcv,h17,qqs] <;> rfl)
theorem jf9 (a0:TE) {s0:TI × Int × Bool} {d} (h:itO (qjr a0) s0=some d):X pr (.loop qmg) (qcv a0 s0)=some (qqs a0 d):=j9 (jiq a0) (fun d hh=>by cases hh) h
noncomputable def f110 (a0:TE):Option (TI × Bool):=
 qc (itO (qjr a0) (none,0,false)) fun d28=>
 some (d28.1,d28.2.1)
theorem jx7 {a0:TE} {r} (h:f110 a0=some r):qf pr (X pr) 110 [sl 3 vel a0,.fn (.func 108) [] []]=some (sl 1 qm r.1,r.2):=by
 unfold f110 at h
 obtain ⟨d28,h29,h⟩:=qa h
 have wh29:=jf9 a0 h29
 dsimp only [qcv,qqs,qdx] at wh29
 have hr:(d28.1,d28.2.1)=r:=Option.some.inj h
 subst hr
 have this:∃ hh,jg pr (X pr) 110 [sl 3 vel a0,.fn (.func 108) [] []] []=some (sl 1 qm d28.1,d28.2.1,hh):=by
  rw [j8 (show pr.fns 110=some c110 from rfl) (by simp)]
  simp only [go_sem,seval,c110,wh29]
  exact ⟨_,rfl⟩
 obtain ⟨hh,this⟩:=this
 exact zk rfl this (by first | rfl | simp only [go_sem,seval]) (by first | rfl | simp only [go_sem,seval]) (by first | rfl | simp only [go_sem,seval])
noncomputable def f22 (a0:ql):Option Int:=
 qc (f107 a0.name) fun v1=>
 qc (f106 (!v1) 8) fun v3=>
 qc (f108 (⟨a0.kd,a0.pa,a0.pb⟩)) fun v5=>
 qc (f109 a0.sa 0 1) fun v7=>
 qc (f109 a0.sb 0 1) fun v9=>
 qc (f109 a0.cost 1 1000000) fun v11=>
 qc (f109 a0.stock 0 100) fun v13=>
 qc (f105 (some [v3,v5,v7,v9,v11,v13])) fun v15=>
 cond (decide (v15=0))
  (qc (f99 a0 false) fun v18=>
  qc (f110 v18.1) fun v20=>
  qc (f105 v20.1) fun v22=>
  qc (f106 (!decide (v22=0)) 1) fun v24=>
  some v24)
  (some v15)
theorem W22 {a0:ql} {r} (h:f22 a0=some r):qf pr (X pr) 22 [.agg [.str a0.name,.str a0.kd,.int .i64 a0.pa,.int .i64 a0.pb,.int .i64 a0.sa,.int .i64 a0.sb,.int .i64 a0.cost,.int .i64 a0.stock]]=some (.int .i64 r,false):=by
 unfold f22 at h
 obtain ⟨v1,h2,h⟩:=qa h
 have wh2:=jup h2
 obtain ⟨v3,h4,h⟩:=qa h
 have wh4:=qpq h4
 obtain ⟨v5,h6,h⟩:=qa h
 have wh6:=jv2 h6
 obtain ⟨v7,h8,h⟩:=qa h
 have wh8:=qow h8
 obtain ⟨v9,h10,h⟩:=qa h
 have wh10:=qow h10
 obtain ⟨v11,h12,h⟩:=qa h
 have wh12:=qow h12
 obtain ⟨v13,h14,h⟩:=qa h
 have wh14:=qow h14
 obtain ⟨v15,h16,h⟩:=qa h
 have wh16:qf pr (X pr) 105 [.list false 1 [.int .i64 v3,.int .i64 v5,.int .i64 v7,.int .i64 v9,.int .i64 v11,.int .i64 v13]]=some (.int .i64 v15,false):=qs2 h16
 rcases qb h with ⟨h17,h⟩ | ⟨h17,h⟩
 ·obtain ⟨v18,h19,h⟩:=qa h
  have wh19:=W99 h19
  obtain ⟨v20,h21,h⟩:=qa h
  have wh21:qf pr (X pr) 110 [sl 3 vel v18.1,.fn (.func 108) [] []]=some (sl 1 qm v20.1,v20.2):=jx7 h21
  obtain ⟨v22,h23,h⟩:=qa h
  have wh23:=qs2 h23
  obtain ⟨v24,h25,h⟩:=qa h
  have wh25:=qpq h25
  obtain rfl:=Option.some.inj h
  refine qn (f:=c22) rfl rfl rfl (by first | rfl | simp only [go_sem,seval]) ?_
  simp only [go_sem,seval,c22,wh2,wh4,wh6,wh8,wh10,wh12,wh14,wh16,h17,wh19,wh21,wh23,wh25]
  exact ⟨_,rfl⟩
 obtain rfl:=Option.some.inj h
 refine qn (f:=c22) rfl rfl rfl (by first | rfl | simp only [go_sem,seval]) ?_
 simp only [go_sem,seval,c22,wh2,wh4,wh6,wh8,wh10,wh12,wh14,wh16,h17]
 exact ⟨_,rfl⟩
noncomputable def qj9 (a0:TP) (s0:Int × (List (List UInt8))):Option ((Int × (List (List UInt8))) ⊕ ((Int × (List (List UInt8)) × (List UInt8) × (List UInt8) × Int × Int × Int × Int × Int × Int) ⊕ (Int × (List (List UInt8))))):=
 cond (decide (s0.1 < ((a0.getD []).length:Int)))
  (qc (js (a0.getD []) s0.1) fun v27=>
  qc (f22 v27) fun v29=>
  qc (f106 (qk0 s0.2 v27.name) 9) fun v31=>
  qc (f105 (some [v29,v31])) fun v33=>
  cond (decide (v33=0))
   (qc (qsm s0.2 v27.name) fun v36=>
   some (.inl (qg .i64 (s0.1 + 1),v36)))
   (some (.inr (.inl (v33,s0.2,v27.name,v27.kd,v27.pa,v27.pb,v27.sa,v27.sb,v27.cost,v27.stock)))))
  (some (.inr (.inr (s0.1,s0.2))))
def qfa (a0:TP) (s0:Int × (List (List UInt8))):ASt:=⟨[(3,.map 0,false),(11,sl 8 qq a0,false),(12,.int .i64 ((a0.getD []).length:Int),false),(13,.int .i64 s0.1,false)],[.map (qaf s0.2)]⟩
def ql3 (a0:TP):(Int × (List (List UInt8)) × (List UInt8) × (List UInt8) × Int × Int × Int × Int × Int × Int) ⊕ (Int × (List (List UInt8)))→jb × ASt
 | .inl d=>(.ret,⟨[(2,.int .i64 d.1,false)],[.map (qaf d.2.1),.cells [(.str d.2.2.1,false),(.str d.2.2.2.1,false),(.int .i64 d.2.2.2.2.1,false),(.int .i64 d.2.2.2.2.2.1,false),(.int .i64 d.2.2.2.2.2.2.1,false),(.int .i64 d.2.2.2.2.2.2.2.1,false),(.int .i64 d.2.2.2.2.2.2.2.2.1,false),(.int .i64 d.2.2.2.2.2.2.2.2.2,false)]]⟩)
 | .inr d=>(.exit 0,⟨[(3,.map 0,false),(11,sl 8 qq a0,false),(12,.int .i64 ((a0.getD []).length:Int),false),(13,.int .i64 d.1,false),(14,.bool false,false)],[.map (qaf d.2)]⟩)
theorem jlo (a0:TP) (s0:Int × (List (List UInt8))) (r) (h:qj9 a0 s0=some r):jt pr qq5 (qfa a0) (ql3 a0) s0 r:=by
 unfold qj9 at h
 rcases qb h with ⟨h26,h⟩ | ⟨h26,h⟩
 ·obtain ⟨v27,h28,h⟩:=qa h
  obtain ⟨v29,h30,h⟩:=qa h
  have wh30:=W22 h30
  obtain ⟨v31,h32,h⟩:=qa h
  have wh32:=qpq h32
  obtain ⟨v33,h34,h⟩:=qa h
  have wh34:qf pr (X pr) 105 [.list false 1 [.int .i64 v29,.int .i64 v31]]=some (.int .i64 v33,false):=qs2 h34
  rcases qb h with ⟨h35,h⟩ | ⟨h35,h⟩
  ·obtain ⟨v36,h37,h⟩:=qa h
   cases h
   exact zt (by simp only [go_sem,seval,qq5,qfa,h26,qu h28,wh30,jby,wh32,wh34,h35,jit h37]; exact ⟨_,rfl⟩) rfl (by first | simp only [go_sem,seval,qfa] | rfl) (by first | simp only [go_sem,seval,qfa] | rfl)
  cases h
  exact qh (by simp only [go_sem,seval,qq5,qfa,h26,qu h28,wh30,jby,wh32,wh34,h35,ql3] <;> rfl)
 cases h
 exact qh (by simp only [go_sem,seval,qq5,qfa,h26,ql3] <;> rfl)
theorem jb4 (a0:TP) {s0:Int × (List (List UInt8))} {d} (h:itO (qj9 a0) s0=some d):X pr (.loop qq5) (qfa a0 s0)=some (ql3 a0 d):=j9 (jlo a0) (fun d=>by rcases d with d|d <;> (intro hh; cases hh)) h
noncomputable def f23 (a0:TP):Option Int:=
 cond (decide (6 < ((a0.getD []).length:Int)))
  (some 5)
  (qc (itO (qj9 a0) (0,[])) fun d38=>match d38 with
   | .inl d40=>
    some d40.1
   | .inr d41=>
    some 0)
theorem W23 {a0:TP} {r} (h:f23 a0=some r):qf pr (X pr) 23 [sl 8 qq a0]=some (.int .i64 r,false):=by
 unfold f23 at h
 rcases qb h with ⟨h1,h⟩ | ⟨h1,h⟩
 ·obtain rfl:=Option.some.inj h
  refine qn (f:=c23) rfl rfl rfl (by first | rfl | simp only [go_sem,seval]) ?_
  simp only [go_sem,seval,c23,h1]
  exact ⟨_,rfl⟩
 obtain ⟨d38,h39,h⟩:=qa h
 rcases d38 with d40 | d41
 ·have wh39:=jb4 a0 h39
  dsimp only [qfa,ql3] at wh39
  obtain rfl:=Option.some.inj h
  refine qn (f:=c23) rfl rfl rfl (by first | rfl | simp only [go_sem,seval]) ?_
  simp only [go_sem,seval,c23,h1,q67,wh39]
  exact ⟨_,rfl⟩
 have wh39:=jb4 a0 h39
 dsimp only [qfa,ql3] at wh39
 obtain rfl:=Option.some.inj h
 refine qn (f:=c23) rfl rfl rfl (by first | rfl | simp only [go_sem,seval]) ?_
 simp only [go_sem,seval,c23,h1,q67,wh39]
 exact ⟨_,rfl⟩
noncomputable def f101 (a0:Bool) (a1:Int):Option Int:=
 cond a0
  (some a1)
  (some 0)
theorem jjc {a0:Bool} {a1:Int} {r} (h:f101 a0 a1=some r):qf pr (X pr) 101 [.bool a0,.int .i64 a1]=some (.int .i64 r,false):=by
 unfold f101 at h
 rcases qb h with ⟨h1,h⟩ | ⟨h1,h⟩
 ·obtain rfl:=Option.some.inj h
  refine qn (f:=c101) rfl rfl rfl (by first | rfl | simp only [go_sem,seval]) ?_
  simp only [go_sem,seval,c101,h1]
  exact ⟨_,rfl⟩
 obtain rfl:=Option.some.inj h
 refine qn (f:=c101) rfl rfl rfl (by first | rfl | simp only [go_sem,seval]) ?_
 simp only [go_sem,seval,c101,h1]
 exact ⟨_,rfl⟩
noncomputable def qjl (a0:TI) (s0:Int):Option (Int ⊕ (Int ⊕ Int)):=
 cond (decide (s0 < ((a0.getD []).length:Int)))
  (qc (js (a0.getD []) s0) fun v10=>
  cond (decide (v10=0))
   (some (.inl (qg .i64 (s0 + 1))))
   (some (.inr (.inl v10))))
  (some (.inr (.inr s0)))
def qfy (a0:TI) (s0:Int):ASt:=⟨[(0,sl 1 qm a0,false),(3,.int .i64 s0,false)],[]⟩
def qie (a0:TI):Int ⊕ Int→jb × ASt
 | .inl d=>(.ret,⟨[(2,.int .i64 d,false)],[]⟩)
 | .inr d=>(.exit 0,⟨[(0,sl 1 qm a0,false),(3,.int .i64 d,false),(7,.bool false,false)],[]⟩)
theorem jfi (a0:TI) (s0:Int) (r) (h:qjl a0 s0=some r):jt pr qmw (qfy a0) (qie a0) s0 r:=by
 unfold qjl at h
 rcases qb h with ⟨h9,h⟩ | ⟨h9,h⟩
 ·obtain ⟨v10,h11,h⟩:=qa h
  rcases qb h with ⟨h12,h⟩ | ⟨h12,h⟩
  ·cases h
   exact qw (by simp only [go_sem,seval,qmw,qfy,h9,qu h11,h12] <;> rfl) (Nat.le_refl _)
  cases h
  exact qh (by simp only [go_sem,seval,qmw,qfy,h9,qu h11,h12,qie] <;> rfl)
 cases h
 exact qh (by simp only [go_sem,seval,qmw,qfy,h9,qie] <;> rfl)
theorem q5z (a0:TI) {s0:Int} {d} (h:itO (qjl a0) s0=some d):X pr (.loop qmw) (qfy a0 s0)=some (qie a0 d):=j9 (jfi a0) (fun d=>by rcases d with d|d <;> (intro hh; cases hh)) h
noncomputable def f100 (a0:TI):Option Int:=
 qc (itO (qjl a0) 0) fun d13=>match d13 with
  | .inl d15=>
   some d15
  | .inr d16=>
   some 0
theorem qza {a0:TI} {r} (h:f100 a0=some r):qf pr (X pr) 100 [sl 1 qm a0]=some (.int .i64 r,false):=by
 unfold f100 at h
 obtain ⟨d13,h14,h⟩:=qa h
 rcases d13 with d15 | d16
 ·have wh14:=q5z a0 h14
  dsimp only [qfy,qie] at wh14
  obtain rfl:=Option.some.inj h
  refine qn (f:=c100) rfl rfl rfl (by first | rfl | simp only [go_sem,seval]) ?_
  simp only [go_sem,seval,c100,wh14]
  exact ⟨_,rfl⟩
 have wh14:=q5z a0 h14
 dsimp only [qfy,qie] at wh14
 obtain rfl:=Option.some.inj h
 refine qn (f:=c100) rfl rfl rfl (by first | rfl | simp only [go_sem,seval]) ?_
 simp only [go_sem,seval,c100,wh14]
 exact ⟨_,rfl⟩
noncomputable def f40 (a0:Int) (a1:Int) (a2:Int):Option Int:=
 cond (decide (a0 < a1))
  (some 3)
  (cond (decide (a2 < a0))
   (some 3)
   (some 0))
theorem W40 {a0:Int} {a1:Int} {a2:Int} {r} (h:f40 a0 a1 a2=some r):qf pr (X pr) 40 [.int .i64 a0,.int .i64 a1,.int .i64 a2]=some (.int .i64 r,false):=by
 unfold f40 at h
 rcases qb h with ⟨h1,h⟩ | ⟨h1,h⟩
 ·obtain rfl:=Option.some.inj h
  refine qn (f:=c40) rfl rfl rfl (by first | rfl | simp only [go_sem,seval]) ?_
  simp only [go_sem,seval,c40,h1]
  exact ⟨_,rfl⟩
 rcases qb h with ⟨h2,h⟩ | ⟨h2,h⟩
 ·obtain rfl:=Option.some.inj h
  refine qn (f:=c40) rfl rfl rfl (by first | rfl | simp only [go_sem,seval]) ?_
  simp only [go_sem,seval,c40,h1,h2]
  exact ⟨_,rfl⟩
 obtain rfl:=Option.some.inj h
 refine qn (f:=c40) rfl rfl rfl (by first | rfl | simp only [go_sem,seval]) ?_
 simp only [go_sem,seval,c40,h1,h2]
 exact ⟨_,rfl⟩
noncomputable def qgy (a0:List UInt8) (s0:Int):Option (Int ⊕ (Unit ⊕ Int)):=
 cond (decide (s0 < (a0.length:Int)))
  (qc (js a0 s0) fun v70=>
  cond (decide (65≤(v70.toNat:Int)))
   (cond (decide ((v70.toNat:Int)≤90))
    (cond (decide (48≤(v70.toNat:Int)))
     (cond (decide ((v70.toNat:Int)≤57))
      (some (.inl (qg .i64 (s0 + 1))))
      (some (.inl (qg .i64 (s0 + 1)))))
     (some (.inl (qg .i64 (s0 + 1)))))
    (cond (decide (97≤(v70.toNat:Int)))
     (cond (decide (48≤(v70.toNat:Int)))
      (cond (decide ((v70.toNat:Int)≤57))
       (cond (decide ((v70.toNat:Int)≤122))
        (some (.inl (qg .i64 (s0 + 1))))
        (cond (decide (s0=0))
         (some (.inr (.inl ())))
         (some (.inl (qg .i64 (s0 + 1))))))
       (cond (decide ((v70.toNat:Int)≤122))
        (some (.inl (qg .i64 (s0 + 1))))
        (cond (decide (s0=0))
         (some (.inr (.inl ())))
         (cond (decide ((v70.toNat:Int)=95))
          (some (.inl (qg .i64 (s0 + 1))))
          (some (.inr (.inl ())))))))
      (cond (decide ((v70.toNat:Int)≤122))
       (some (.inl (qg .i64 (s0 + 1))))
       (cond (decide (s0=0))
        (some (.inr (.inl ())))
        (cond (decide ((v70.toNat:Int)=95))
         (some (.inl (qg .i64 (s0 + 1))))
         (some (.inr (.inl ())))))))
     (cond (decide (48≤(v70.toNat:Int)))
      (cond (decide ((v70.toNat:Int)≤57))
       (cond (decide (s0=0))
        (some (.inr (.inl ())))
        (some (.inl (qg .i64 (s0 + 1)))))
       (cond (decide (s0=0))
        (some (.inr (.inl ())))
        (cond (decide ((v70.toNat:Int)=95))
         (some (.inl (qg .i64 (s0 + 1))))
         (some (.inr (.inl ()))))))
      (cond (decide (s0=0))
       (some (.inr (.inl ())))
       (cond (decide ((v70.toNat:Int)=95))
        (some (.inl (qg .i64 (s0 + 1))))
        (some (.inr (.inl ()))))))))
   (cond (decide (97≤(v70.toNat:Int)))
    (cond (decide (48≤(v70.toNat:Int)))
     (cond (decide ((v70.toNat:Int)≤57))
      (cond (decide ((v70.toNat:Int)≤122))
       (some (.inl (qg .i64 (s0 + 1))))
       (cond (decide (s0=0))
        (some (.inr (.inl ())))
        (some (.inl (qg .i64 (s0 + 1))))))
      (cond (decide ((v70.toNat:Int)≤122))
       (some (.inl (qg .i64 (s0 + 1))))
       (cond (decide (s0=0))
        (some (.inr (.inl ())))
        (cond (decide ((v70.toNat:Int)=95))
         (some (.inl (qg .i64 (s0 + 1))))
         (some (.inr (.inl ())))))))
     (cond (decide ((v70.toNat:Int)≤122))
      (some (.inl (qg .i64 (s0 + 1))))
      (cond (decide (s0=0))
       (some (.inr (.inl ())))
       (cond (decide ((v70.toNat:Int)=95))
        (some (.inl (qg .i64 (s0 + 1))))
        (some (.inr (.inl ())))))))
    (cond (decide (48≤(v70.toNat:Int)))
     (cond (decide ((v70.toNat:Int)≤57))
      (cond (decide (s0=0))
       (some (.inr (.inl ())))
       (some (.inl (qg .i64 (s0 + 1)))))
      (cond (decide (s0=0))
       (some (.inr (.inl ())))
       (cond (decide ((v70.toNat:Int)=95))
        (some (.inl (qg .i64 (s0 + 1))))
        (some (.inr (.inl ()))))))
     (cond (decide (s0=0))
      (some (.inr (.inl ())))
      (cond (decide ((v70.toNat:Int)=95))
       (some (.inl (qg .i64 (s0 + 1))))
       (some (.inr (.inl ()))))))))
  (some (.inr (.inr s0)))
def j4 (a0:List UInt8) (s0:Int):ASt:=⟨[(0,.str a0,false),(3,.int .i64 s0,false)],[]⟩
def yo (a0:List UInt8):Unit ⊕ Int→jb × ASt
 | .inl d=>(.ret,⟨[(2,.bool false,false)],[]⟩)
 | .inr d=>(.exit 0,⟨[(0,.str a0,false),(3,.int .i64 d,false),(17,.bool false,false)],[]⟩)
theorem jfl (a0:List UInt8) (s0:Int) (r) (h:qgy a0 s0=some r):jt pr ze (j4 a0) (yo a0) s0 r:=by
 unfold qgy at h
 rcases qb h with ⟨h69,h⟩ | ⟨h69,h⟩
 ·obtain ⟨v70,h71,h⟩:=qa h
  rcases qb h with ⟨h72,h⟩ | ⟨h72,h⟩
  ·rcases qb h with ⟨h73,h⟩ | ⟨h73,h⟩
   ·rcases qb h with ⟨h74,h⟩ | ⟨h74,h⟩
    ·rcases qb h with ⟨h75,h⟩ | ⟨h75,h⟩
     ·cases h
      exact qw (by simp only [go_sem,seval,ze,j4,h69,jx h71,h72,h73,h74,h75] <;> rfl) (Nat.le_refl _)
     cases h
     exact qw (by simp only [go_sem,seval,ze,j4,h69,jx h71,h72,h73,h74,h75] <;> rfl) (Nat.le_refl _)
    cases h
    exact qw (by simp only [go_sem,seval,ze,j4,h69,jx h71,h72,h73,h74] <;> rfl) (Nat.le_refl _)
   rcases qb h with ⟨h76,h⟩ | ⟨h76,h⟩
   ·rcases qb h with ⟨h77,h⟩ | ⟨h77,h⟩
    ·rcases qb h with ⟨h78,h⟩ | ⟨h78,h⟩
     ·rcases qb h with ⟨h79,h⟩ | ⟨h79,h⟩
      ·cases h
       exact qw (by simp only [go_sem,seval,ze,j4,h69,jx h71,h72,h73,h76,h77,h78,h79] <;> rfl) (Nat.le_refl _)
      rcases qb h with ⟨h80,h⟩ | ⟨h80,h⟩
      ·cases h
       exact qh (by simp only [go_sem,seval,ze,j4,h69,jx h71,h72,h73,h76,h77,h78,h79,h80,yo] <;> rfl)
      cases h
      exact qw (by simp only [go_sem,seval,ze,j4,h69,jx h71,h72,h73,h76,h77,h78,h79,h80] <;> rfl) (Nat.le_refl _)
     rcases qb h with ⟨h81,h⟩ | ⟨h81,h⟩
     ·cases h
      exact qw (by simp only [go_sem,seval,ze,j4,h69,jx h71,h72,h73,h76,h77,h78,h81] <;> rfl) (Nat.le_refl _)
     rcases qb h with ⟨h82,h⟩ | ⟨h82,h⟩
     ·cases h
      exact qh (by simp only [go_sem,seval,ze,j4,h69,jx h71,h72,h73,h76,h77,h78,h81,h82,yo] <;> rfl)
     rcases qb h with ⟨h83,h⟩ | ⟨h83,h⟩
     ·cases h
      exact qw (by simp only [go_sem,seval,ze,j4,h69,jx h71,h72,h73,h76,h77,h78,h81,h82,h83] <;> rfl) (Nat.le_refl _)
     cases h
     exact qh (by simp only [go_sem,seval,ze,j4,h69,jx h71,h72,h73,h76,h77,h78,h81,h82,h83,yo] <;> rfl)
    rcases qb h with ⟨h84,h⟩ | ⟨h84,h⟩
    ·cases h
     exact qw (by simp only [go_sem,seval,ze,j4,h69,jx h71,h72,h73,h76,h77,h84] <;> rfl) (Nat.le_refl _)
    rcases qb h with ⟨h85,h⟩ | ⟨h85,h⟩
    ·cases h
     exact qh (by simp only [go_sem,seval,ze,j4,h69,jx h71,h72,h73,h76,h77,h84,h85,yo] <;> rfl)
    rcases qb h with ⟨h86,h⟩ | ⟨h86,h⟩
    ·cases h
     exact qw (by simp only [go_sem,seval,ze,j4,h69,jx h71,h72,h73,h76,h77,h84,h85,h86] <;> rfl) (Nat.le_refl _)
    cases h
    exact qh (by simp only [go_sem,seval,ze,j4,h69,jx h71,h72,h73,h76,h77,h84,h85,h86,yo] <;> rfl)
   rcases qb h with ⟨h87,h⟩ | ⟨h87,h⟩
   ·rcases qb h with ⟨h88,h⟩ | ⟨h88,h⟩
    ·rcases qb h with ⟨h89,h⟩ | ⟨h89,h⟩
     ·cases h
      exact qh (by simp only [go_sem,seval,ze,j4,h69,jx h71,h72,h73,h76,h87,h88,h89,yo] <;> rfl)
     cases h
     exact qw (by simp only [go_sem,seval,ze,j4,h69,jx h71,h72,h73,h76,h87,h88,h89] <;> rfl) (Nat.le_refl _)
    rcases qb h with ⟨h90,h⟩ | ⟨h90,h⟩
    ·cases h
     exact qh (by simp only [go_sem,seval,ze,j4,h69,jx h71,h72,h73,h76,h87,h88,h90,yo] <;> rfl)
    rcases qb h with ⟨h91,h⟩ | ⟨h91,h⟩
    ·cases h
     exact qw (by simp only [go_sem,seval,ze,j4,h69,jx h71,h72,h73,h76,h87,h88,h90,h91] <;> rfl) (Nat.le_refl _)
    cases h
    exact qh (by simp only [go_sem,seval,ze,j4,h69,jx h71,h72,h73,h76,h87,h88,h90,h91,yo] <;> rfl)
   rcases qb h with ⟨h92,h⟩ | ⟨h92,h⟩
   ·cases h
    exact qh (by simp only [go_sem,seval,ze,j4,h69,jx h71,h72,h73,h76,h87,h92,yo] <;> rfl)
   rcases qb h with ⟨h93,h⟩ | ⟨h93,h⟩
   ·cases h
    exact qw (by simp only [go_sem,seval,ze,j4,h69,jx h71,h72,h73,h76,h87,h92,h93] <;> rfl) (Nat.le_refl _)
   cases h
   exact qh (by simp only [go_sem,seval,ze,j4,h69,jx h71,h72,h73,h76,h87,h92,h93,yo] <;> rfl)
  rcases qb h with ⟨h94,h⟩ | ⟨h94,h⟩
  ·rcases qb h with ⟨h95,h⟩ | ⟨h95,h⟩
   ·rcases qb h with ⟨h96,h⟩ | ⟨h96,h⟩
    ·rcases qb h with ⟨h97,h⟩ | ⟨h97,h⟩
     ·cases h
      exact qw (by simp only [go_sem,seval,ze,j4,h69,jx h71,h72,h94,h95,h96,h97] <;> rfl) (Nat.le_refl _)
     rcases qb h with ⟨h98,h⟩ | ⟨h98,h⟩
     ·cases h
      exact qh (by simp only [go_sem,seval,ze,j4,h69,jx h71,h72,h94,h95,h96,h97,h98,yo] <;> rfl)
     cases h
     exact qw (by simp only [go_sem,seval,ze,j4,h69,jx h71,h72,h94,h95,h96,h97,h98] <;> rfl) (Nat.le_refl _)
    rcases qb h with ⟨h99,h⟩ | ⟨h99,h⟩
    ·cases h
     exact qw (by simp only [go_sem,seval,ze,j4,h69,jx h71,h72,h94,h95,h96,h99] <;> rfl) (Nat.le_refl _)
    rcases qb h with ⟨h100,h⟩ | ⟨h100,h⟩
    ·cases h
     exact qh (by simp only [go_sem,seval,ze,j4,h69,jx h71,h72,h94,h95,h96,h99,h100,yo] <;> rfl)
    rcases qb h with ⟨h101,h⟩ | ⟨h101,h⟩
    ·cases h
     exact qw (by simp only [go_sem,seval,ze,j4,h69,jx h71,h72,h94,h95,h96,h99,h100,h101] <;> rfl) (Nat.le_refl _)
    cases h
    exact qh (by simp only [go_sem,seval,ze,j4,h69,jx h71,h72,h94,h95,h96,h99,h100,h101,yo] <;> rfl)
   rcases qb h with ⟨h102,h⟩ | ⟨h102,h⟩
   ·cases h
    exact qw (by simp only [go_sem,seval,ze,j4,h69,jx h71,h72,h94,h95,h102] <;> rfl) (Nat.le_refl _)
   rcases qb h with ⟨h103,h⟩ | ⟨h103,h⟩
   ·cases h
    exact qh (by simp only [go_sem,seval,ze,j4,h69,jx h71,h72,h94,h95,h102,h103,yo] <;> rfl)
   rcases qb h with ⟨h104,h⟩ | ⟨h104,h⟩
   ·cases h
    exact qw (by simp only [go_sem,seval,ze,j4,h69,jx h71,h72,h94,h95,h102,h103,h104] <;> rfl) (Nat.le_refl _)
   cases h
   exact qh (by simp only [go_sem,seval,ze,j4,h69,jx h71,h72,h94,h95,h102,h103,h104,yo] <;> rfl)
  rcases qb h with ⟨h105,h⟩ | ⟨h105,h⟩
  ·rcases qb h with ⟨h106,h⟩ | ⟨h106,h⟩
   ·rcases qb h with ⟨h107,h⟩ | ⟨h107,h⟩
    ·cases h
     exact qh (by simp only [go_sem,seval,ze,j4,h69,jx h71,h72,h94,h105,h106,h107,yo] <;> rfl)
    cases h
    exact qw (by simp only [go_sem,seval,ze,j4,h69,jx h71,h72,h94,h105,h106,h107] <;> rfl) (Nat.le_refl _)
   rcases qb h with ⟨h108,h⟩ | ⟨h108,h⟩
   ·cases h
    exact qh (by simp only [go_sem,seval,ze,j4,h69,jx h71,h72,h94,h105,h106,h108,yo] <;> rfl)
   rcases qb h with ⟨h109,h⟩ | ⟨h109,h⟩
   ·cases h
    exact qw (by simp only [go_sem,seval,ze,j4,h69,jx h71,h72,h94,h105,h106,h108,h109] <;> rfl) (Nat.le_refl _)
   cases h
   exact qh (by simp only [go_sem,seval,ze,j4,h69,jx h71,h72,h94,h105,h106,h108,h109,yo] <;> rfl)
  rcases qb h with ⟨h110,h⟩ | ⟨h110,h⟩
  ·cases h
   exact qh (by simp only [go_sem,seval,ze,j4,h69,jx h71,h72,h94,h105,h110,yo] <;> rfl)
  rcases qb h with ⟨h111,h⟩ | ⟨h111,h⟩
  ·cases h
   exact qw (by simp only [go_sem,seval,ze,j4,h69,jx h71,h72,h94,h105,h110,h111] <;> rfl) (Nat.le_refl _)
  cases h
  exact qh (by simp only [go_sem,seval,ze,j4,h69,jx h71,h72,h94,h105,h110,h111,yo] <;> rfl)
 cases h
 exact qh (by simp only [go_sem,seval,ze,j4,h69,yo] <;> rfl)
theorem q7r (a0:List UInt8) {s0:Int} {d} (h:itO (qgy a0) s0=some d):X pr (.loop ze) (j4 a0 s0)=some (yo a0 d):=j9 (jfl a0) (fun d=>by rcases d with d|d <;> (intro hh; cases hh)) h
noncomputable def f102 (a0:List UInt8):Option Bool:=
 cond (decide ((a0.length:Int)=0))
  (some false)
  (cond (decide (24 < (a0.length:Int)))
   (some false)
   (qc (itO (qgy a0) 0) fun d112=>match d112 with
    | .inl d114=>
     some false
    | .inr d115=>
     some true))
theorem jvj {a0:List UInt8} {r} (h:f102 a0=some r):qf pr (X pr) 102 [.str a0]=some (.bool r,false):=by
 unfold f102 at h
 rcases qb h with ⟨h1,h⟩ | ⟨h1,h⟩
 ·obtain rfl:=Option.some.inj h
  refine qn (f:=c102) rfl rfl rfl (by first | rfl | simp only [go_sem,seval]) ?_
  simp only [go_sem,seval,c102,h1]
  exact ⟨_,rfl⟩
 rcases qb h with ⟨h2,h⟩ | ⟨h2,h⟩
 ·obtain rfl:=Option.some.inj h
  refine qn (f:=c102) rfl rfl rfl (by first | rfl | simp only [go_sem,seval]) ?_
  simp only [go_sem,seval,c102,h1,h2]
  exact ⟨_,rfl⟩
 obtain ⟨d112,h113,h⟩:=qa h
 rcases d112 with d114 | d115
 ·have wh113:=q7r a0 h113
  dsimp only [j4,yo] at wh113
  obtain rfl:=Option.some.inj h
  refine qn (f:=c102) rfl rfl rfl (by first | rfl | simp only [go_sem,seval]) ?_
  simp only [go_sem,seval,c102,h1,h2,wh113]
  exact ⟨_,rfl⟩
 have wh113:=q7r a0 h113
 dsimp only [j4,yo] at wh113
 obtain rfl:=Option.some.inj h
 refine qn (f:=c102) rfl rfl rfl (by first | rfl | simp only [go_sem,seval]) ?_
 simp only [go_sem,seval,c102,h1,h2,wh113]
 exact ⟨_,rfl⟩
noncomputable def qi0 (a0:Option (List (List UInt8))) (a1:List UInt8) (s0:Int):Option (Int ⊕ (Unit ⊕ Int)):=
 cond (decide (s0 < ((a0.getD []).length:Int)))
  (qc (js (a0.getD []) s0) fun v10=>
  cond (decide (v10=a1))
   (some (.inr (.inl ())))
   (some (.inl (qg .i64 (s0 + 1)))))
  (some (.inr (.inr s0)))
def qf0 (a0:Option (List (List UInt8))) (a1:List UInt8) (s0:Int):ASt:=⟨[(0,sl 1 qbz a0,false),(1,.str a1,false),(5,.int .i64 s0,false)],[]⟩
def qia (a0:Option (List (List UInt8))) (a1:List UInt8):Unit ⊕ Int→jb × ASt
 | .inl d=>(.ret,⟨[(4,.bool true,false)],[]⟩)
 | .inr d=>(.exit 0,⟨[(0,sl 1 qbz a0,false),(1,.str a1,false),(5,.int .i64 d,false),(9,.bool false,false)],[]⟩)
theorem jhg (a0:Option (List (List UInt8))) (a1:List UInt8) (s0:Int) (r) (h:qi0 a0 a1 s0=some r):jt pr qmp (qf0 a0 a1) (qia a0 a1) s0 r:=by
 unfold qi0 at h
 rcases qb h with ⟨h9,h⟩ | ⟨h9,h⟩
 ·obtain ⟨v10,h11,h⟩:=qa h
  rcases qb h with ⟨h12,h⟩ | ⟨h12,h⟩
  ·cases h
   exact qh (by simp only [go_sem,seval,qmp,qf0,h9,qu h11,h12,qia] <;> rfl)
  cases h
  exact qw (by simp only [go_sem,seval,qmp,qf0,h9,qu h11,h12] <;> rfl) (Nat.le_refl _)
 cases h
 exact qh (by simp only [go_sem,seval,qmp,qf0,h9,qia] <;> rfl)
theorem q5t (a0:Option (List (List UInt8))) (a1:List UInt8) {s0:Int} {d} (h:itO (qi0 a0 a1) s0=some d):X pr (.loop qmp) (qf0 a0 a1 s0)=some (qia a0 a1 d):=j9 (jhg a0 a1) (fun d=>by rcases d with d|d <;> (intro hh; cases hh)) h
noncomputable def f191 (a0:Option (List (List UInt8))) (a1:List UInt8):Option Bool:=
 qc (itO (qi0 a0 a1) 0) fun d13=>match d13 with
  | .inl d15=>
   some true
  | .inr d16=>
   some false
theorem jvk {a0:Option (List (List UInt8))} {a1:List UInt8} {r} (h:f191 a0 a1=some r):qf pr (X pr) 191 [sl 1 qbz a0,.str a1]=some (.bool r,false):=by
 unfold f191 at h
 obtain ⟨d13,h14,h⟩:=qa h
 rcases d13 with d15 | d16
 ·have wh14:=q5t a0 a1 h14
  dsimp only [qf0,qia] at wh14
  obtain rfl:=Option.some.inj h
  refine qn (f:=c191) rfl rfl rfl (by first | rfl | simp only [go_sem,seval]) ?_
  simp only [go_sem,seval,c191,wh14]
  exact ⟨_,rfl⟩
 have wh14:=q5t a0 a1 h14
 dsimp only [qf0,qia] at wh14
 obtain rfl:=Option.some.inj h
 refine qn (f:=c191) rfl rfl rfl (by first | rfl | simp only [go_sem,seval]) ?_
 simp only [go_sem,seval,c191,wh14]
 exact ⟨_,rfl⟩
noncomputable def f192:Option (Option (List (List UInt8))):=
 some (some [([98,108,111,99,107]:List UInt8),([115,101,114,105,101,115]:List UInt8),([115,104,117,110,116]:List UInt8),([116,114,97,112]:List UInt8)])
theorem qv1 {r} (h:f192=some r):qf pr (X pr) 192 []=some (sl 1 qbz r,true):=by
 unfold f192 at h
 have hr:some [([98,108,111,99,107]:List UInt8),([115,101,114,105,101,115]:List UInt8),([115,104,117,110,116]:List UInt8),([116,114,97,112]:List UInt8)]=r:=Option.some.inj h
 subst hr
 have this:∃ hh,jg pr (X pr) 192 [] []=some (.list false 1 [.str ([98,108,111,99,107]:List UInt8),.str ([115,101,114,105,101,115]:List UInt8),.str ([115,104,117,110,116]:List UInt8),.str ([116,114,97,112]:List UInt8)],true,hh):=by
  rw [j8 (show pr.fns 192=some c192 from rfl) (by simp)]
  simp only [go_sem,seval,c192]
  exact ⟨_,rfl⟩
 obtain ⟨hh,this⟩:=this
 exact zk rfl this (by first | rfl | simp only [go_sem,seval]) (by first | rfl | simp only [go_sem,seval]) (by first | rfl | simp only [go_sem,seval])
noncomputable def f55 (a0:List UInt8):Option Bool:=
 cond (decide (a0=([98,108,111,99,107]:List UInt8)))
  (some true)
  (some (decide (a0=([116,114,97,112]:List UInt8))))
theorem W55 {a0:List UInt8} {r} (h:f55 a0=some r):qf pr (X pr) 55 [.str a0]=some (.bool r,false):=by
 unfold f55 at h
 rcases qb h with ⟨h1,h⟩ | ⟨h1,h⟩
 ·obtain rfl:=Option.some.inj h
  refine qn (f:=c55) rfl rfl rfl (by first | rfl | simp only [go_sem,seval]) ?_
  simp only [go_sem,seval,c55,h1]
  exact ⟨_,rfl⟩
 obtain rfl:=Option.some.inj h
 refine qn (f:=c55) rfl rfl rfl (by first | rfl | simp only [go_sem,seval]) ?_
 simp only [go_sem,seval,c55,h1]
 exact ⟨_,rfl⟩
noncomputable def f157 (a0:GEl):Option Int:=
 qc (f192) fun v1=>
 qc (f191 v1 a0.kind) fun v3=>
 cond v3
  (qc (f40 a0.a 0 8) fun v6=>
  qc (f40 a0.b 0 8) fun v8=>
  qc (f100 (some [v6,v8])) fun v10=>
  cond (decide (v10=0))
   (qc (f55 a0.kind) fun v13=>
   cond v13
    (cond (decide (a0.a=0))
     (cond (decide (a0.b=0))
      (some 6)
      (some 0))
     (some 0))
    (some 0))
   (some v10))
  (some 13)
theorem jut {a0:GEl} {r} (h:f157 a0=some r):qf pr (X pr) 157 [.agg [.str a0.kind,.int .i64 a0.a,.int .i64 a0.b]]=some (.int .i64 r,false):=by
 unfold f157 at h
 obtain ⟨v1,h2,h⟩:=qa h
 obtain ⟨v3,h4,h⟩:=qa h
 have wh4:=jvk h4
 rcases qb h with ⟨h5,h⟩ | ⟨h5,h⟩
 ·obtain ⟨v6,h7,h⟩:=qa h
  have wh7:=W40 h7
  obtain ⟨v8,h9,h⟩:=qa h
  have wh9:=W40 h9
  obtain ⟨v10,h11,h⟩:=qa h
  have wh11:qf pr (X pr) 100 [.list false 1 [.int .i64 v6,.int .i64 v8]]=some (.int .i64 v10,false):=qza h11
  rcases qb h with ⟨h12,h⟩ | ⟨h12,h⟩
  ·obtain ⟨v13,h14,h⟩:=qa h
   have wh14:=W55 h14
   rcases qb h with ⟨h15,h⟩ | ⟨h15,h⟩
   ·rcases qb h with ⟨h16,h⟩ | ⟨h16,h⟩
    ·rcases qb h with ⟨h17,h⟩ | ⟨h17,h⟩
     ·obtain rfl:=Option.some.inj h
      refine qn (f:=c157) rfl rfl rfl (by first | rfl | simp only [go_sem,seval]) ?_
      simp only [go_sem,seval,c157,qv1 h2,wh4,h5,wh7,wh9,wh11,h12,wh14,h15,h16,h17]
      exact ⟨_,rfl⟩
     obtain rfl:=Option.some.inj h
     refine qn (f:=c157) rfl rfl rfl (by first | rfl | simp only [go_sem,seval]) ?_
     simp only [go_sem,seval,c157,qv1 h2,wh4,h5,wh7,wh9,wh11,h12,wh14,h15,h16,h17]
     exact ⟨_,rfl⟩
    obtain rfl:=Option.some.inj h
    refine qn (f:=c157) rfl rfl rfl (by first | rfl | simp only [go_sem,seval]) ?_
    simp only [go_sem,seval,c157,qv1 h2,wh4,h5,wh7,wh9,wh11,h12,wh14,h15,h16]
    exact ⟨_,rfl⟩
   obtain rfl:=Option.some.inj h
   refine qn (f:=c157) rfl rfl rfl (by first | rfl | simp only [go_sem,seval]) ?_
   simp only [go_sem,seval,c157,qv1 h2,wh4,h5,wh7,wh9,wh11,h12,wh14,h15]
   exact ⟨_,rfl⟩
  obtain rfl:=Option.some.inj h
  refine qn (f:=c157) rfl rfl rfl (by first | rfl | simp only [go_sem,seval]) ?_
  simp only [go_sem,seval,c157,qv1 h2,wh4,h5,wh7,wh9,wh11,h12]
  exact ⟨_,rfl⟩
 obtain rfl:=Option.some.inj h
 refine qn (f:=c157) rfl rfl rfl (by first | rfl | simp only [go_sem,seval]) ?_
 simp only [go_sem,seval,c157,qv1 h2,wh4,h5]
 exact ⟨_,rfl⟩
noncomputable def qji (a0:TE) (s0:Int):Option (Int ⊕ (Int ⊕ Int)):=
 cond (decide (s0 < ((a0.getD []).length:Int)))
  (qc (js (a0.getD []) s0) fun v15=>
  qc (f157 v15) fun v17=>
  cond (decide (v17=0))
   (some (.inl (qg .i64 (s0 + 1))))
   (some (.inr (.inl v17))))
  (some (.inr (.inr s0)))
def qfu (a0:TE) (s0:Int):ASt:=⟨[(0,sl 3 vel a0,false),(3,.int .i64 s0,false)],[]⟩
def qim (a0:TE):Int ⊕ Int→jb × ASt
 | .inl d=>(.ret,⟨[(2,.int .i64 d,false)],[]⟩)
 | .inr d=>(.exit 0,⟨[(0,sl 3 vel a0,false),(3,.int .i64 d,false),(11,.bool false,false)],[]⟩)
theorem jjk (a0:TE) (s0:Int) (r) (h:qji a0 s0=some r):jt pr qmm (qfu a0) (qim a0) s0 r:=by
 unfold qji at h
 rcases qb h with ⟨h14,h⟩ | ⟨h14,h⟩
 ·obtain ⟨v15,h16,h⟩:=qa h
  obtain ⟨v17,h18,h⟩:=qa h
  have wh18:=jut h18
  rcases qb h with ⟨h19,h⟩ | ⟨h19,h⟩
  ·cases h
   exact qw (by simp only [go_sem,seval,qmm,qfu,h14,qu h16,wh18,h19] <;> rfl) (Nat.le_refl _)
  cases h
  exact qh (by simp only [go_sem,seval,qmm,qfu,h14,qu h16,wh18,h19,qim] <;> rfl)
 cases h
 exact qh (by simp only [go_sem,seval,qmm,qfu,h14,qim] <;> rfl)
theorem q58 (a0:TE) {s0:Int} {d} (h:itO (qji a0) s0=some d):X pr (.loop qmm) (qfu a0 s0)=some (qim a0 d):=j9 (jjk a0) (fun d=>by rcases d with d|d <;> (intro hh; cases hh)) h
noncomputable def f103 (a0:TE):Option Int:=
 cond (decide (5 < ((a0.getD []).length:Int)))
  (some 5)
  (qc (itO (qji a0) 0) fun d20=>match d20 with
   | .inl d22=>
    some d22
   | .inr d23=>
    some 0)
theorem jaf {a0:TE} {r} (h:f103 a0=some r):qf pr (X pr) 103 [sl 3 vel a0]=some (.int .i64 r,false):=by
 unfold f103 at h
 rcases qb h with ⟨h1,h⟩ | ⟨h1,h⟩
 ·obtain rfl:=Option.some.inj h
  refine qn (f:=c103) rfl rfl rfl (by first | rfl | simp only [go_sem,seval]) ?_
  simp only [go_sem,seval,c103,h1]
  exact ⟨_,rfl⟩
 obtain ⟨d20,h21,h⟩:=qa h
 rcases d20 with d22 | d23
 ·have wh21:=q58 a0 h21
  dsimp only [qfu,qim] at wh21
  obtain rfl:=Option.some.inj h
  refine qn (f:=c103) rfl rfl rfl (by first | rfl | simp only [go_sem,seval]) ?_
  simp only [go_sem,seval,c103,h1,wh21]
  exact ⟨_,rfl⟩
 have wh21:=q58 a0 h21
 dsimp only [qfu,qim] at wh21
 obtain rfl:=Option.some.inj h
 refine qn (f:=c103) rfl rfl rfl (by first | rfl | simp only [go_sem,seval]) ?_
 simp only [go_sem,seval,c103,h1,wh21]
 exact ⟨_,rfl⟩
noncomputable def qju (a0:ql) (s0:TE × Int × Bool) (s1:TE × Int × Bool):Option ((TE × Int × Bool) ⊕ ((TE × Bool × Int))):=
 cond (decide (s1.2.1≤(qg .i64 (a0.pb + a0.sb))))
  (cond s1.2.2
   (qc (apO s1.1 [⟨a0.kd,s0.2.1,s1.2.1⟩]) fun v60=>
   some (.inl (v60,qg .i64 (s1.2.1 + 1),true)))
   (cond s1.1.isNone
    (qc (apO s1.1 [⟨a0.kd,s0.2.1,s1.2.1⟩]) fun v63=>
    some (.inl (v63,qg .i64 (s1.2.1 + 1),true)))
    (none)))
  (some (.inr (s1.1,s1.2.2,s1.2.1)))
def qiy (a0:ql) (s0:TE × Int × Bool) (s1:TE × Int × Bool):ASt:=⟨[(1,.vptr (.agg [.str a0.name,.str a0.kd,.int .i64 a0.pa,.int .i64 a0.pb,.int .i64 a0.sa,.int .i64 a0.sb,.int .i64 a0.cost,.int .i64 a0.stock]),false),(3,sl 3 vel s1.1,s1.2.2),(4,.int .i64 s0.2.1,false),(5,.int .i64 s1.2.1,false)],[]⟩
def qro (a0:ql) (s0:TE × Int × Bool) (d:(TE × Bool × Int)):jb × ASt:=(.exit 2,⟨[(1,.vptr (.agg [.str a0.name,.str a0.kd,.int .i64 a0.pa,.int .i64 a0.pb,.int .i64 a0.sa,.int .i64 a0.sb,.int .i64 a0.cost,.int .i64 a0.stock]),false),(3,sl 3 vel d.1,d.2.1),(4,.int .i64 s0.2.1,false),(5,.int .i64 d.2.2,false),(35,.bool false,false)],[]⟩)
theorem jju (a0:ql) (s0:TE × Int × Bool) (s1:TE × Int × Bool) (r) (h:qju a0 s0 s1=some r):jt pr qm6 (qiy a0 s0) (qro a0 s0) s1 r:=by
 unfold qju at h
 rcases qb h with ⟨h58,h⟩ | ⟨h58,h⟩
 ·rcases qb h with ⟨h59,h⟩ | ⟨h59,h⟩
  ·obtain ⟨v60,h61,h⟩:=qa h
   cases h
   exact qw (by simp only [go_sem,seval,qm6,qiy,h58,h59,qbt h61] <;> rfl) (Nat.le_refl _)
  rcases qb h with ⟨h62,h⟩ | ⟨h62,h⟩
  ·obtain ⟨v63,h64,h⟩:=qa h
   cases h
   exact qw (by simp only [go_sem,seval,qm6,qiy,h58,h59,h62,qoy h64 h62] <;> rfl) (Nat.le_refl _)
  cases h
 cases h
 exact qh (by simp only [go_sem,seval,qm6,qiy,h58,qro] <;> rfl)
theorem jhk (a0:ql) (s0:TE × Int × Bool) {s1:TE × Int × Bool} {d} (h:itO (qju a0 s0) s1=some d):X pr (.loop qm6) (qiy a0 s0 s1)=some (qro a0 s0 d):=j9 (jju a0 s0) (fun d hh=>by cases hh) h
noncomputable def qj1 (a0:ql) (s0:TE × Int × Bool):Option ((TE × Int × Bool) ⊕ ((TE × Bool × Int))):=
 cond (decide (s0.2.1≤(qg .i64 (a0.pa + a0.sa))))
  (qc (itO (qju a0 s0) (s0.1,qg .i64 (a0.pb - a0.sb),s0.2.2)) fun d65=>
  some (.inl (d65.1,qg .i64 (s0.2.1 + 1),d65.2.1)))
  (some (.inr (s0.1,s0.2.2,s0.2.1)))
def qlr (a0:ql) (s0:TE × Int × Bool):ASt:=⟨[(1,.vptr (.agg [.str a0.name,.str a0.kd,.int .i64 a0.pa,.int .i64 a0.pb,.int .i64 a0.sa,.int .i64 a0.sb,.int .i64 a0.cost,.int .i64 a0.stock]),false),(3,sl 3 vel s0.1,s0.2.2),(4,.int .i64 s0.2.1,false)],[]⟩
def qrw (a0:ql) (d:(TE × Bool × Int)):jb × ASt:=(.exit 0,⟨[(1,.vptr (.agg [.str a0.name,.str a0.kd,.int .i64 a0.pa,.int .i64 a0.pb,.int .i64 a0.sa,.int .i64 a0.sb,.int .i64 a0.cost,.int .i64 a0.stock]),false),(3,sl 3 vel d.1,d.2.1),(4,.int .i64 d.2.2,false),(19,.bool false,false)],[]⟩)
theorem jic (a0:ql) (s0:TE × Int × Bool) (r) (h:qj1 a0 s0=some r):jt pr qpt (qlr a0) (qrw a0) s0 r:=by
 unfold qj1 at h
 rcases qb h with ⟨h43,h⟩ | ⟨h43,h⟩
 ·obtain ⟨d65,h66,h⟩:=qa h
  have wh66:=jhk a0 s0 h66
  dsimp only [qiy,qro] at wh66
  cases h
  exact qw (by simp only [go_sem,seval,qpt,qlr,h43,wh66] <;> rfl) (Nat.le_refl _)
 cases h
 exact qh (by simp only [go_sem,seval,qpt,qlr,h43,qrw] <;> rfl)
theorem jht (a0:ql) {s0:TE × Int × Bool} {d} (h:itO (qj1 a0) s0=some d):X pr (.loop qpt) (qlr a0 s0)=some (qrw a0 d):=j9 (jic a0) (fun d hh=>by cases hh) h
noncomputable def f104 (a0:ql):Option (TE × Bool):=
 qc (itO (qj1 a0) (none,qg .i64 (a0.pa - a0.sa),false)) fun d67=>
 some (d67.1,d67.2.1)
theorem jh9 {a0:ql} {r} (h:f104 a0=some r):qf pr (X pr) 104 [.agg [.str a0.name,.str a0.kd,.int .i64 a0.pa,.int .i64 a0.pb,.int .i64 a0.sa,.int .i64 a0.sb,.int .i64 a0.cost,.int .i64 a0.stock]]=some (sl 3 vel r.1,r.2):=by
 unfold f104 at h
 obtain ⟨d67,h68,h⟩:=qa h
 have wh68:=jht a0 h68
 dsimp only [qlr,qrw,qdx] at wh68
 have hr:(d67.1,d67.2.1)=r:=Option.some.inj h
 subst hr
 have this:∃ hh,jg pr (X pr) 104 [.agg [.str a0.name,.str a0.kd,.int .i64 a0.pa,.int .i64 a0.pb,.int .i64 a0.sa,.int .i64 a0.sb,.int .i64 a0.cost,.int .i64 a0.stock]] []=some (sl 3 vel d67.1,d67.2.1,hh):=by
  rw [j8 (show pr.fns 104=some c104 from rfl) (by simp)]
  simp only [go_sem,seval,c104,wh68]
  exact ⟨_,rfl⟩
 obtain ⟨hh,this⟩:=this
 exact zk rfl this (by first | rfl | simp only [go_sem,seval]) (by first | rfl | simp only [go_sem,seval]) (by first | rfl | simp only [go_sem,seval])
noncomputable def qnp (v18:TE × Bool) (s0:Int):Option (Int ⊕ (Unit ⊕ Int)):=
 cond (decide (s0 < ((v18.1.getD []).length:Int)))
  (qc (qrf v18.1 (some s0) (some (qg .i64 (s0 + 1)))) fun v33=>
  qc (f103 v33) fun v35=>
  cond (decide (v35=0))
   (some (.inl (qg .i64 (s0 + 1))))
   (some (.inr (.inl ()))))
  (some (.inr (.inr s0)))
def qi9 (v18:TE × Bool) (s0:Int):ASt:=⟨[(4,sl 3 vel v18.1,v18.2),(5,.int .i64 s0,false)],[]⟩
def ql9 (v18:TE × Bool):Unit ⊕ Int→jb × ASt
 | .inl d=>(.ret,⟨[(2,.int .i64 1,false)],[]⟩)
 | .inr d=>(.exit 0,⟨[(4,sl 3 vel v18.1,v18.2),(5,.int .i64 d,false),(37,.bool false,false)],[]⟩)
theorem jmv (v18:TE × Bool) (s0:Int) (r) (h:qnp v18 s0=some r):jt pr qrc (qi9 v18) (ql9 v18) s0 r:=by
 unfold qnp at h
 rcases qb h with ⟨h32,h⟩ | ⟨h32,h⟩
 ·obtain ⟨v33,h34,h⟩:=qa h
  obtain ⟨v35,h36,h⟩:=qa h
  rcases qb h with ⟨h37,h⟩ | ⟨h37,h⟩
  ·cases h
   exact qw (by simp only [go_sem,seval,qrc,qi9,h32,q0x h34,jaf h36,h37] <;> rfl) (Nat.le_refl _)
  cases h
  exact qh (by simp only [go_sem,seval,qrc,qi9,h32,q0x h34,jaf h36,h37,ql9] <;> rfl)
 cases h
 exact qh (by simp only [go_sem,seval,qrc,qi9,h32,ql9] <;> rfl)
theorem jb5 (v18:TE × Bool) {s0:Int} {d} (h:itO (qnp v18) s0=some d):X pr (.loop qrc) (qi9 v18 s0)=some (ql9 v18 d):=j9 (jmv v18) (fun d=>by rcases d with d|d <;> (intro hh; cases hh)) h
noncomputable def f20 (a0:ql):Option Int:=
 qc (f102 a0.name) fun v1=>
 qc (f101 (!v1) 8) fun v3=>
 qc (f103 (some [⟨a0.kd,a0.pa,a0.pb⟩])) fun v5=>
 qc (f40 a0.sa 0 1) fun v7=>
 qc (f40 a0.sb 0 1) fun v9=>
 qc (f40 a0.cost 1 1000000) fun v11=>
 qc (f40 a0.stock 0 100) fun v13=>
 qc (f100 (some [v3,v5,v7,v9,v11,v13])) fun v15=>
 cond (decide (v15=0))
  (qc (f104 a0) fun v18=>
  qc (itO (qnp v18) 0) fun d38=>match d38 with
   | .inl d40=>
    some 1
   | .inr d41=>
    some 0)
  (some v15)
theorem W20 {a0:ql} {r} (h:f20 a0=some r):qf pr (X pr) 20 [.agg [.str a0.name,.str a0.kd,.int .i64 a0.pa,.int .i64 a0.pb,.int .i64 a0.sa,.int .i64 a0.sb,.int .i64 a0.cost,.int .i64 a0.stock]]=some (.int .i64 r,false):=by
 unfold f20 at h
 obtain ⟨v1,h2,h⟩:=qa h
 have wh2:=jvj h2
 obtain ⟨v3,h4,h⟩:=qa h
 have wh4:=jjc h4
 obtain ⟨v5,h6,h⟩:=qa h
 have wh6:qf pr (X pr) 103 [.list false 3 [.agg [.str a0.kd,.int .i64 a0.pa,.int .i64 a0.pb]]]=some (.int .i64 v5,false):=jaf h6
 obtain ⟨v7,h8,h⟩:=qa h
 have wh8:=W40 h8
 obtain ⟨v9,h10,h⟩:=qa h
 have wh10:=W40 h10
 obtain ⟨v11,h12,h⟩:=qa h
 have wh12:=W40 h12
 obtain ⟨v13,h14,h⟩:=qa h
 have wh14:=W40 h14
 obtain ⟨v15,h16,h⟩:=qa h
 have wh16:qf pr (X pr) 100 [.list false 1 [.int .i64 v3,.int .i64 v5,.int .i64 v7,.int .i64 v9,.int .i64 v11,.int .i64 v13]]=some (.int .i64 v15,false):=qza h16
 rcases qb h with ⟨h17,h⟩ | ⟨h17,h⟩
 ·obtain ⟨v18,h19,h⟩:=qa h
  have wh19:=jh9 h19
  obtain ⟨d38,h39,h⟩:=qa h
  rcases d38 with d40 | d41
  ·have wh39:=jb5 v18 h39
   dsimp only [qi9,ql9] at wh39
   obtain rfl:=Option.some.inj h
   refine qn (f:=c20) rfl rfl rfl (by first | rfl | simp only [go_sem,seval]) ?_
   simp only [go_sem,seval,c20,wh2,wh4,wh6,wh8,wh10,wh12,wh14,wh16,h17,wh19,wh39]
   exact ⟨_,rfl⟩
  have wh39:=jb5 v18 h39
  dsimp only [qi9,ql9] at wh39
  obtain rfl:=Option.some.inj h
  refine qn (f:=c20) rfl rfl rfl (by first | rfl | simp only [go_sem,seval]) ?_
  simp only [go_sem,seval,c20,wh2,wh4,wh6,wh8,wh10,wh12,wh14,wh16,h17,wh19,wh39]
  exact ⟨_,rfl⟩
 obtain rfl:=Option.some.inj h
 refine qn (f:=c20) rfl rfl rfl (by first | rfl | simp only [go_sem,seval]) ?_
 simp only [go_sem,seval,c20,wh2,wh4,wh6,wh8,wh10,wh12,wh14,wh16,h17]
 exact ⟨_,rfl⟩
noncomputable def qob (a0:TP) (s0:Int) (s1:Int):Option (Int ⊕ (Unit ⊕ Int)):=
 cond (decide (s1 < s0))
  (qc (js (a0.getD []) s1) fun v55=>
  qc (js (a0.getD []) s0) fun v57=>
  cond (decide (v55.name=v57.name))
   (some (.inr (.inl ())))
   (some (.inl (qg .i64 (s1 + 1)))))
  (some (.inr (.inr s1)))
def qjn (a0:TP) (s0:Int) (s1:Int):ASt:=⟨[(0,sl 8 qq a0,false),(3,.int .i64 s0,false),(5,.int .i64 s1,false)],[]⟩
def qmq (a0:TP) (s0:Int):Unit ⊕ Int→jb × ASt
 | .inl d=>(.ret,⟨[(2,.int .i64 9,false)],[]⟩)
 | .inr d=>(.exit 2,⟨[(0,sl 8 qq a0,false),(3,.int .i64 s0,false),(5,.int .i64 d,false),(25,.bool false,false)],[]⟩)
theorem jrc (a0:TP) (s0:Int) (s1:Int) (r) (h:qob a0 s0 s1=some r):jt pr qry (qjn a0 s0) (qmq a0 s0) s1 r:=by
 unfold qob at h
 rcases qb h with ⟨h54,h⟩ | ⟨h54,h⟩
 ·obtain ⟨v55,h56,h⟩:=qa h
  obtain ⟨v57,h58,h⟩:=qa h
  rcases qb h with ⟨h59,h⟩ | ⟨h59,h⟩
  ·cases h
   exact qh (by simp only [go_sem,seval,qry,qjn,h54,qu h56,qu h58,h59,qmq] <;> rfl)
  cases h
  exact qw (by simp only [go_sem,seval,qry,qjn,h54,qu h56,qu h58,h59] <;> rfl) (Nat.le_refl _)
 cases h
 exact qh (by simp only [go_sem,seval,qry,qjn,h54,qmq] <;> rfl)
theorem jbm (a0:TP) (s0:Int) {s1:Int} {d} (h:itO (qob a0 s0) s1=some d):X pr (.loop qry) (qjn a0 s0 s1)=some (qmq a0 s0 d):=j9 (jrc a0 s0) (fun d=>by rcases d with d|d <;> (intro hh; cases hh)) h
noncomputable def qj8 (a0:TP) (s0:Int):Option (Int ⊕ (Int ⊕ Int)):=
 cond (decide (s0 < ((a0.getD []).length:Int)))
  (qc (js (a0.getD []) s0) fun v37=>
  qc (f20 v37) fun v39=>
  cond (decide (v39=0))
   (qc (itO (qob a0 s0) 0) fun d60=>match d60 with
    | .inl d62=>
     some (.inr (.inl 9))
    | .inr d63=>
     some (.inl (qg .i64 (s0 + 1))))
   (some (.inr (.inl v39))))
  (some (.inr (.inr s0)))
def qgt (a0:TP) (s0:Int):ASt:=⟨[(0,sl 8 qq a0,false),(3,.int .i64 s0,false)],[]⟩
def qjw (a0:TP):Int ⊕ Int→jb × ASt
 | .inl d=>(.ret,⟨[(2,.int .i64 d,false)],[]⟩)
 | .inr d=>(.exit 0,⟨[(0,sl 8 qq a0,false),(3,.int .i64 d,false),(12,.bool false,false)],[]⟩)
theorem jqd (a0:TP) (s0:Int) (r) (h:qj8 a0 s0=some r):jt pr qn7 (qgt a0) (qjw a0) s0 r:=by
 unfold qj8 at h
 rcases qb h with ⟨h36,h⟩ | ⟨h36,h⟩
 ·obtain ⟨v37,h38,h⟩:=qa h
  obtain ⟨v39,h40,h⟩:=qa h
  have wh40:=W20 h40
  rcases qb h with ⟨h41,h⟩ | ⟨h41,h⟩
  ·obtain ⟨d60,h61,h⟩:=qa h
   rcases d60 with d62 | d63
   ·have wh61:=jbm a0 s0 h61
    dsimp only [qjn,qmq] at wh61
    cases h
    exact qh (by simp only [go_sem,seval,qn7,qgt,h36,qu h38,wh40,h41,wh61,qjw] <;> rfl)
   have wh61:=jbm a0 s0 h61
   dsimp only [qjn,qmq] at wh61
   cases h
   exact qw (by simp only [go_sem,seval,qn7,qgt,h36,qu h38,wh40,h41,wh61] <;> rfl) (Nat.le_refl _)
  cases h
  exact qh (by simp only [go_sem,seval,qn7,qgt,h36,qu h38,wh40,h41,qjw] <;> rfl)
 cases h
 exact qh (by simp only [go_sem,seval,qn7,qgt,h36,qjw] <;> rfl)
theorem jbz (a0:TP) {s0:Int} {d} (h:itO (qj8 a0) s0=some d):X pr (.loop qn7) (qgt a0 s0)=some (qjw a0 d):=j9 (jqd a0) (fun d=>by rcases d with d|d <;> (intro hh; cases hh)) h
noncomputable def f25 (a0:TP):Option Int:=
 cond (decide (6 < ((a0.getD []).length:Int)))
  (some 5)
  (qc (itO (qj8 a0) 0) fun d64=>match d64 with
   | .inl d66=>
    some d66
   | .inr d67=>
    some 0)
theorem W25 {a0:TP} {r} (h:f25 a0=some r):qf pr (X pr) 25 [sl 8 qq a0]=some (.int .i64 r,false):=by
 unfold f25 at h
 rcases qb h with ⟨h1,h⟩ | ⟨h1,h⟩
 ·obtain rfl:=Option.some.inj h
  refine qn (f:=c25) rfl rfl rfl (by first | rfl | simp only [go_sem,seval]) ?_
  simp only [go_sem,seval,c25,h1]
  exact ⟨_,rfl⟩
 obtain ⟨d64,h65,h⟩:=qa h
 rcases d64 with d66 | d67
 ·have wh65:=jbz a0 h65
  dsimp only [qgt,qjw] at wh65
  obtain rfl:=Option.some.inj h
  refine qn (f:=c25) rfl rfl rfl (by first | rfl | simp only [go_sem,seval]) ?_
  simp only [go_sem,seval,c25,h1,wh65]
  exact ⟨_,rfl⟩
 have wh65:=jbz a0 h65
 dsimp only [qgt,qjw] at wh65
 obtain rfl:=Option.some.inj h
 refine qn (f:=c25) rfl rfl rfl (by first | rfl | simp only [go_sem,seval]) ?_
 simp only [go_sem,seval,c25,h1,wh65]
 exact ⟨_,rfl⟩
noncomputable def qhx (a0:TP) (s0:Int):Option (Int ⊕ (Unit ⊕ Int)):=
 cond (decide (s0 < ((a0.getD []).length:Int)))
  (qc (js (a0.getD []) s0) fun v14=>
  cond (decide (60 < (v14.name.length:Int)))
   (some (.inr (.inl ())))
   (cond (decide (60 < (v14.kd.length:Int)))
    (some (.inr (.inl ())))
    (some (.inl (qg .i64 (s0 + 1))))))
  (some (.inr (.inr s0)))
def qg0 (a0:TP) (s0:Int):ASt:=⟨[(0,sl 8 qq a0,false),(3,.int .i64 s0,false)],[]⟩
def qjy (a0:TP):Unit ⊕ Int→jb × ASt
 | .inl d=>(.ret,⟨[(2,.bool false,false)],[]⟩)
 | .inr d=>(.exit 0,⟨[(0,sl 8 qq a0,false),(3,.int .i64 d,false),(15,.bool false,false)],[]⟩)
theorem jn1 (a0:TP) (s0:Int) (r) (h:qhx a0 s0=some r):jt pr qdl (qg0 a0) (qjy a0) s0 r:=by
 unfold qhx at h
 rcases qb h with ⟨h13,h⟩ | ⟨h13,h⟩
 ·obtain ⟨v14,h15,h⟩:=qa h
  rcases qb h with ⟨h16,h⟩ | ⟨h16,h⟩
  ·cases h
   exact qh (by simp only [go_sem,seval,qdl,qg0,h13,qu h15,h16,qjy] <;> rfl)
  rcases qb h with ⟨h17,h⟩ | ⟨h17,h⟩
  ·cases h
   exact qh (by simp only [go_sem,seval,qdl,qg0,h13,qu h15,h16,h17,qjy] <;> rfl)
  cases h
  exact qw (by simp only [go_sem,seval,qdl,qg0,h13,qu h15,h16,h17] <;> rfl) (Nat.le_refl _)
 cases h
 exact qh (by simp only [go_sem,seval,qdl,qg0,h13,qjy] <;> rfl)
theorem jbt (a0:TP) {s0:Int} {d} (h:itO (qhx a0) s0=some d):X pr (.loop qdl) (qg0 a0 s0)=some (qjy a0 d):=j9 (jn1 a0) (fun d=>by rcases d with d|d <;> (intro hh; cases hh)) h
noncomputable def qo8 (a0:TP) (s0:Int):Option (Int ⊕ (Unit ⊕ Int)):=
 cond (decide (s0 < ((a0.getD []).length:Int)))
  (qc (js (a0.getD []) s0) fun v33=>
  cond (decide (60 < (v33.name.length:Int)))
   (some (.inr (.inl ())))
   (cond (decide (60 < (v33.kd.length:Int)))
    (some (.inr (.inl ())))
    (some (.inl (qg .i64 (s0 + 1))))))
  (some (.inr (.inr s0)))
def qet (a0:TP) (s0:Int):ASt:=⟨[(0,sl 8 qq a0,false),(3,.int .i64 s0,false)],[]⟩
def qfo (a0:TP):Unit ⊕ Int→jb × ASt
 | .inl d=>(.ret,⟨[(2,.bool false,false)],[]⟩)
 | .inr d=>(.exit 0,⟨[(0,sl 8 qq a0,false),(3,.int .i64 d,false),(15,.bool false,false)],[]⟩)
theorem jhc (a0:TP) (s0:Int) (r) (h:qo8 a0 s0=some r):jt pr qdl (qet a0) (qfo a0) s0 r:=by
 unfold qo8 at h
 rcases qb h with ⟨h32,h⟩ | ⟨h32,h⟩
 ·obtain ⟨v33,h34,h⟩:=qa h
  rcases qb h with ⟨h35,h⟩ | ⟨h35,h⟩
  ·cases h
   exact qh (by simp only [go_sem,seval,qdl,qet,h32,qu h34,h35,qfo] <;> rfl)
  rcases qb h with ⟨h36,h⟩ | ⟨h36,h⟩
  ·cases h
   exact qh (by simp only [go_sem,seval,qdl,qet,h32,qu h34,h35,h36,qfo] <;> rfl)
  cases h
  exact qw (by simp only [go_sem,seval,qdl,qet,h32,qu h34,h35,h36] <;> rfl) (Nat.le_refl _)
 cases h
 exact qh (by simp only [go_sem,seval,qdl,qet,h32,qfo] <;> rfl)
theorem q7w (a0:TP) {s0:Int} {d} (h:itO (qo8 a0) s0=some d):X pr (.loop qdl) (qet a0 s0)=some (qfo a0 d):=j9 (jhc a0) (fun d=>by rcases d with d|d <;> (intro hh; cases hh)) h
noncomputable def f17 (a0:TP):Option Bool:=
 cond (decide (4 < ((a0.getD []).length:Int)))
  (cond (decide (((a0.getD []).length:Int)=7))
   (qc (itO (qhx a0) 0) fun d18=>match d18 with
    | .inl d20=>
     some false
    | .inr d21=>
     some true)
   (some false))
  (qc (itO (qo8 a0) 0) fun d37=>match d37 with
   | .inl d39=>
    some false
   | .inr d40=>
    some true)
theorem W17 {a0:TP} {r} (h:f17 a0=some r):qf pr (X pr) 17 [sl 8 qq a0]=some (.bool r,false):=by
 unfold f17 at h
 rcases qb h with ⟨h1,h⟩ | ⟨h1,h⟩
 ·rcases qb h with ⟨h2,h⟩ | ⟨h2,h⟩
  ·obtain ⟨d18,h19,h⟩:=qa h
   rcases d18 with d20 | d21
   ·have wh19:=jbt a0 h19
    dsimp only [qg0,qjy] at wh19
    obtain rfl:=Option.some.inj h
    refine qn (f:=c17) rfl rfl rfl (by first | rfl | simp only [go_sem,seval]) ?_
    simp only [go_sem,seval,c17,h1,h2,wh19]
    exact ⟨_,rfl⟩
   have wh19:=jbt a0 h19
   dsimp only [qg0,qjy] at wh19
   obtain rfl:=Option.some.inj h
   refine qn (f:=c17) rfl rfl rfl (by first | rfl | simp only [go_sem,seval]) ?_
   simp only [go_sem,seval,c17,h1,h2,wh19]
   exact ⟨_,rfl⟩
  obtain rfl:=Option.some.inj h
  refine qn (f:=c17) rfl rfl rfl (by first | rfl | simp only [go_sem,seval]) ?_
  simp only [go_sem,seval,c17,h1,h2]
  exact ⟨_,rfl⟩
 obtain ⟨d37,h38,h⟩:=qa h
 rcases d37 with d39 | d40
 ·have wh38:=q7w a0 h38
  dsimp only [qet,qfo] at wh38
  obtain rfl:=Option.some.inj h
  refine qn (f:=c17) rfl rfl rfl (by first | rfl | simp only [go_sem,seval]) ?_
  simp only [go_sem,seval,c17,h1,wh38]
  exact ⟨_,rfl⟩
 have wh38:=q7w a0 h38
 dsimp only [qet,qfo] at wh38
 obtain rfl:=Option.some.inj h
 refine qn (f:=c17) rfl rfl rfl (by first | rfl | simp only [go_sem,seval]) ?_
 simp only [go_sem,seval,c17,h1,wh38]
 exact ⟨_,rfl⟩
noncomputable def f19 (a0:ql):Option ql:=
 some a0
theorem W19 {a0:ql} {r} (h:f19 a0=some r):qf pr (X pr) 19 [.agg [.str a0.name,.str a0.kd,.int .i64 a0.pa,.int .i64 a0.pb,.int .i64 a0.sa,.int .i64 a0.sb,.int .i64 a0.cost,.int .i64 a0.stock]]=some (.agg [.str r.name,.str r.kd,.int .i64 r.pa,.int .i64 r.pb,.int .i64 r.sa,.int .i64 r.sb,.int .i64 r.cost,.int .i64 r.stock],false):=by
 unfold f19 at h
 obtain rfl:=Option.some.inj h
 refine qn (f:=c19) rfl rfl rfl (by first | rfl | simp only [go_sem,seval]) ?_
 simp only [go_sem,seval,c19]
 exact ⟨_,rfl⟩
noncomputable def qnk (a0:TP) (s0:TP × Int × Bool):Option ((TP × Int × Bool) ⊕ ((TP × Bool × Int))):=
 cond (decide (s0.2.1 < ((a0.getD []).length:Int)))
  (qc (js (a0.getD []) s0.2.1) fun v18=>
  qc (f19 v18) fun v20=>
  cond s0.2.2
   (qc (apO s0.1 [v20]) fun v23=>
   some (.inl (v23,qg .i64 (s0.2.1 + 1),true)))
   (cond s0.1.isNone
    (qc (apO s0.1 [v20]) fun v26=>
    some (.inl (v26,qg .i64 (s0.2.1 + 1),true)))
    (none)))
  (some (.inr (s0.1,s0.2.2,s0.2.1)))
def qd2 (a0:TP) (s0:TP × Int × Bool):ASt:=⟨[(3,sl 8 qq s0.1,s0.2.2),(6,sl 8 qq a0,false),(7,.int .i64 ((a0.getD []).length:Int),false),(8,.int .i64 s0.2.1,false)],[]⟩
def qul (a0:TP) (d:(TP × Bool × Int)):jb × ASt:=(.exit 0,⟨[(3,sl 8 qq d.1,d.2.1),(6,sl 8 qq a0,false),(7,.int .i64 ((a0.getD []).length:Int),false),(8,.int .i64 d.2.2,false),(9,.bool false,false)],[]⟩)
theorem jmt (a0:TP) (s0:TP × Int × Bool) (r) (h:qnk a0 s0=some r):jt pr qrx (qd2 a0) (qul a0) s0 r:=by
 unfold qnk at h
 rcases qb h with ⟨h17,h⟩ | ⟨h17,h⟩
 ·obtain ⟨v18,h19,h⟩:=qa h
  obtain ⟨v20,h21,h⟩:=qa h
  have wh21:=W19 h21
  rcases qb h with ⟨h22,h⟩ | ⟨h22,h⟩
  ·obtain ⟨v23,h24,h⟩:=qa h
   cases h
   exact zt (by simp only [go_sem,seval,qrx,qd2,h17,qu h19,wh21,h22,q13 h24]; exact ⟨_,rfl⟩) rfl (by first | simp only [go_sem,seval,qd2] | rfl) (by first | simp only [go_sem,seval,qd2] | rfl)
  rcases qb h with ⟨h25,h⟩ | ⟨h25,h⟩
  ·obtain ⟨v26,h27,h⟩:=qa h
   cases h
   exact zt (by simp only [go_sem,seval,qrx,qd2,h17,qu h19,wh21,h22,h25,q1k h27 h25]; exact ⟨_,rfl⟩) rfl (by first | simp only [go_sem,seval,qd2] | rfl) (by first | simp only [go_sem,seval,qd2] | rfl)
  cases h
 cases h
 exact qh (by simp only [go_sem,seval,qrx,qd2,h17,qul] <;> rfl)
theorem jrn (a0:TP) {s0:TP × Int × Bool} {d} (h:itO (qnk a0) s0=some d):X pr (.loop qrx) (qd2 a0 s0)=some (qul a0 d):=j9 (jmt a0) (fun d hh=>by cases hh) h
noncomputable def f24 (a0:TP):Option (TP × Bool):=
 qc (itO (qnk a0) (none,0,false)) fun d28=>
 some (d28.1,d28.2.1)
theorem W24 {a0:TP} {r} (h:f24 a0=some r):qf pr (X pr) 24 [sl 8 qq a0]=some (sl 8 qq r.1,r.2):=by
 unfold f24 at h
 obtain ⟨d28,h29,h⟩:=qa h
 have wh29:=jrn a0 h29
 dsimp only [qd2,qul,qdx] at wh29
 have hr:(d28.1,d28.2.1)=r:=Option.some.inj h
 subst hr
 have this:∃ hh,jg pr (X pr) 24 [sl 8 qq a0] []=some (sl 8 qq d28.1,d28.2.1,hh):=by
  rw [j8 (show pr.fns 24=some c24 from rfl) (by simp)]
  simp only [go_sem,seval,c24,wh29]
  exact ⟨_,rfl⟩
 obtain ⟨hh,this⟩:=this
 exact zk rfl this (by first | rfl | simp only [go_sem,seval]) (by first | rfl | simp only [go_sem,seval]) (by first | rfl | simp only [go_sem,seval])
end Go.Z
