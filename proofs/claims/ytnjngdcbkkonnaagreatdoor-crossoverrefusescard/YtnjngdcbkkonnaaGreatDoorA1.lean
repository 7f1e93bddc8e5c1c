/- The structs of chapter 4, the map of kinds, maps of texts to true. -/
import Derived.Test.YtnjngdcbkkonnaaGreatDoorG0
import Derived.Test.YtnjngdcbkkonnaaGreatDoorAbsL
import Derived.Test.YtnjngdcbkkonnaaGreatDoorZM
set_option linter.unusedVariables false
set_option linter.unusedSimpArgs false
set_option maxRecDepth 100000
noncomputable section
namespace Go.Z
open Go Go.Abs
structure qk where
 kind:List UInt8
 a:Int
 b:Int
def vel (p:qk):qa:=.agg [.str p.kind,.int .i64 p.a,.int .i64 p.b]
@[go_sem] theorem jz4 {p:qk}:(vel p).flat=[.str p.kind,.int .i64 p.a,.int .i64 p.b]:=rfl
@[go_sem] theorem q9g {n:Nat}(p:qk):below n (vel p)=true:=by rfl
@[go_sem] theorem q82 {n z:Nat}{l:Option (List qk)}:below n (sl z vel l)=true:=qd8 q9g
@[go_sem] theorem j1k {p:qk}:qa.vptr (vel p)=.vptr (.agg [.str p.kind,.int .i64 p.a,.int .i64 p.b]):=rfl
theorem qch {b t:Nat}{h:zd}{bb:Bool}{p:qk}{o v:Option (List qk)}(hv:apO o [p]=some v):appR 3 b h (some t) (some (sl 3 vel o)) (some (.list bb 3 [.agg [.str p.kind,.int .i64 p.a,.int .i64 p.b]]))=ifR (decide (b≤4096)) (some ⟨sl 3 vel v,true,some t,h⟩):=qjc (x:=p) (by omega) rfl hv
theorem qjg {b:Nat}{h:zd}{bb:Bool}{p:qk}{o v:Option (List qk)}(hv:apO o [p]=some v)(hn:o.isNone=true):appR 3 b h none (some (sl 3 vel o)) (some (.list bb 3 [.agg [.str p.kind,.int .i64 p.a,.int .i64 p.b]]))=ifR (decide (b≤4096)) (some ⟨sl 3 vel v,true,none,h⟩):=qe9 (x:=p) (by omega) rfl hn hv
structure qb where
 name:List UInt8
 kd:List UInt8
 pa:Int
 pb:Int
 sa:Int
 sb:Int
 cost:Int
 stock:Int
def zi (p:qb):qa:=.agg [.str p.name,.str p.kd,.int .i64 p.pa,.int .i64 p.pb,.int .i64 p.sa,.int .i64 p.sb,.int .i64 p.cost,.int .i64 p.stock]
@[go_sem] theorem jqt {p:qb}:(zi p).flat=[.str p.name,.str p.kd,.int .i64 p.pa,.int .i64 p.pb,.int .i64 p.sa,.int .i64 p.sb,.int .i64 p.cost,.int .i64 p.stock]:=rfl
@[go_sem] theorem q5g {n:Nat}(p:qb):below n (zi p)=true:=by rfl
@[go_sem] theorem jnj {n z:Nat}{l:Option (List qb)}:below n (sl z zi l)=true:=qd8 q5g
@[go_sem] theorem jtx {p:qb}:qa.vptr (zi p)=.vptr (.agg [.str p.name,.str p.kd,.int .i64 p.pa,.int .i64 p.pb,.int .i64 p.sa,.int .i64 p.sb,.int .i64 p.cost,.int .i64 p.stock]):=rfl
theorem q4t {b t:Nat}{h:zd}{bb:Bool}{p:qb}{o v:Option (List qb)}(hv:apO o [p]=some v):appR 8 b h (some t) (some (sl 8 zi o)) (some (.list bb 8 [.agg [.str p.name,.str p.kd,.int .i64 p.pa,.int .i64 p.pb,.int .i64 p.sa,.int .i64 p.sb,.int .i64 p.cost,.int .i64 p.stock]]))=ifR (decide (b≤4096)) (some ⟨sl 8 zi v,true,some t,h⟩):=qjc (x:=p) (by omega) rfl hv
theorem q41 {b:Nat}{h:zd}{bb:Bool}{p:qb}{o v:Option (List qb)}(hv:apO o [p]=some v)(hn:o.isNone=true):appR 8 b h none (some (sl 8 zi o)) (some (.list bb 8 [.agg [.str p.name,.str p.kd,.int .i64 p.pa,.int .i64 p.pb,.int .i64 p.sa,.int .i64 p.sb,.int .i64 p.cost,.int .i64 p.stock]]))=ifR (decide (b≤4096)) (some ⟨sl 8 zi v,true,none,h⟩):=qe9 (x:=p) (by omega) rfl hn hv
structure qp where
 w:Int
 ln:Int
 ld:Int
 mn:Int
 md:Int
def yg (p:qp):qa:=.agg [.int .i64 p.w,.int .i64 p.ln,.int .i64 p.ld,.int .i64 p.mn,.int .i64 p.md]
@[go_sem] theorem js9 {p:qp}:(yg p).flat=[.int .i64 p.w,.int .i64 p.ln,.int .i64 p.ld,.int .i64 p.mn,.int .i64 p.md]:=rfl
@[go_sem] theorem q4y {n:Nat}(p:qp):below n (yg p)=true:=by rfl
@[go_sem] theorem jjt {n z:Nat}{l:Option (List qp)}:below n (sl z yg l)=true:=qd8 q4y
@[go_sem] theorem jpn {p:qp}:qa.vptr (yg p)=.vptr (.agg [.int .i64 p.w,.int .i64 p.ln,.int .i64 p.ld,.int .i64 p.mn,.int .i64 p.md]):=rfl
theorem q42 {b t:Nat}{h:zd}{bb:Bool}{p:qp}{o v:Option (List qp)}(hv:apO o [p]=some v):appR 5 b h (some t) (some (sl 5 yg o)) (some (.list bb 5 [.agg [.int .i64 p.w,.int .i64 p.ln,.int .i64 p.ld,.int .i64 p.mn,.int .i64 p.md]]))=ifR (decide (b≤4096)) (some ⟨sl 5 yg v,true,some t,h⟩):=qjc (x:=p) (by omega) rfl hv
theorem q5r {b:Nat}{h:zd}{bb:Bool}{p:qp}{o v:Option (List qp)}(hv:apO o [p]=some v)(hn:o.isNone=true):appR 5 b h none (some (sl 5 yg o)) (some (.list bb 5 [.agg [.int .i64 p.w,.int .i64 p.ln,.int .i64 p.ld,.int .i64 p.mn,.int .i64 p.md]]))=ifR (decide (b≤4096)) (some ⟨sl 5 yg v,true,none,h⟩):=qe9 (x:=p) (by omega) rfl hn hv
structure jc where
 a:Int
 b:Int
 c:Int
 d:Int
def q7h (p:jc):qa:=.agg [.int .i64 p.a,.int .i64 p.b,.int .i64 p.c,.int .i64 p.d]
@[go_sem] theorem jqs {p:jc}:(q7h p).flat=[.int .i64 p.a,.int .i64 p.b,.int .i64 p.c,.int .i64 p.d]:=rfl
@[go_sem] theorem jog {n:Nat}(p:jc):below n (q7h p)=true:=by rfl
@[go_sem] theorem jvh {p:jc}:qa.vptr (q7h p)=.vptr (.agg [.int .i64 p.a,.int .i64 p.b,.int .i64 p.c,.int .i64 p.d]):=rfl
structure qr where
 m0:Int
 m1:Int
 m2:Int
 m3:Int
 m4:Int
 m5:Int
 m6:Int
 m7:Int
def jdq (p:qr):qa:=.agg [.int .i64 p.m0,.int .i64 p.m1,.int .i64 p.m2,.int .i64 p.m3,.int .i64 p.m4,.int .i64 p.m5,.int .i64 p.m6,.int .i64 p.m7]
@[go_sem] theorem jxs {p:qr}:(jdq p).flat=[.int .i64 p.m0,.int .i64 p.m1,.int .i64 p.m2,.int .i64 p.m3,.int .i64 p.m4,.int .i64 p.m5,.int .i64 p.m6,.int .i64 p.m7]:=rfl
@[go_sem] theorem jq4 {n:Nat}(p:qr):below n (jdq p)=true:=by rfl
@[go_sem] theorem jxz {p:qr}:qa.vptr (jdq p)=.vptr (.agg [.int .i64 p.m0,.int .i64 p.m1,.int .i64 p.m2,.int .i64 p.m3,.int .i64 p.m4,.int .i64 p.m5,.int .i64 p.m6,.int .i64 p.m7]):=rfl
structure qq where
 band:Int
 ladder:Option (List qk)
def jai (p:qq):qa:=.agg [.int .i64 p.band,sl 3 vel p.ladder]
@[go_sem] theorem jop {p:qq}:(jai p).flat=[.int .i64 p.band,sl 3 vel p.ladder]:=rfl
@[go_sem] theorem jn6 {p:qq}:qa.vptr (jai p)=.vptr (.agg [.int .i64 p.band,sl 3 vel p.ladder]):=rfl
structure qj where
 choice:Option (List Int)
 rband:Int
 rladder:Option (List qk)
def kj (p:qj):qa:=.agg [sl 1 zh p.choice,.int .i64 p.rband,sl 3 vel p.rladder]
@[go_sem] theorem juq {p:qj}:(kj p).flat=[sl 1 zh p.choice,.int .i64 p.rband,sl 3 vel p.rladder]:=rfl
@[go_sem] theorem q45 {n:Nat}(p:qj):below n (kj p)=true:=by simp only[kj,go_sem]
@[go_sem] theorem jnl {n z:Nat}{l:Option (List qj)}:below n (sl z kj l)=true:=qd8 q45
@[go_sem] theorem jre {p:qj}:qa.vptr (kj p)=.vptr (.agg [sl 1 zh p.choice,.int .i64 p.rband,sl 3 vel p.rladder]):=rfl
theorem qii {b t:Nat}{h:zd}{bb:Bool}{p:qj}{o v:Option (List qj)}(hv:apO o [p]=some v):appR 3 b h (some t) (some (sl 3 kj o)) (some (.list bb 3 [.agg [sl 1 zh p.choice,.int .i64 p.rband,sl 3 vel p.rladder]]))=ifR (decide (b≤4096)) (some ⟨sl 3 kj v,true,some t,h⟩):=qjc (x:=p) (by omega) rfl hv
theorem qih {b:Nat}{h:zd}{bb:Bool}{p:qj}{o v:Option (List qj)}(hv:apO o [p]=some v)(hn:o.isNone=true):appR 3 b h none (some (sl 3 kj o)) (some (.list bb 3 [.agg [sl 1 zh p.choice,.int .i64 p.rband,sl 3 vel p.rladder]]))=ifR (decide (b≤4096)) (some ⟨sl 3 kj v,true,none,h⟩):=qe9 (x:=p) (by omega) rfl hn hv
structure js where
 parts:Option (List qb)
 choice:Option (List Int)
 bands:Option (List qp)
def jfl (p:js):qa:=.agg [sl 8 zi p.parts,sl 1 zh p.choice,sl 5 yg p.bands]
@[go_sem] theorem jqv {p:js}:(jfl p).flat=[sl 8 zi p.parts,sl 1 zh p.choice,sl 5 yg p.bands]:=rfl
@[go_sem] theorem jry {p:js}:qa.vptr (jfl p)=.vptr (.agg [sl 8 zi p.parts,sl 1 zh p.choice,sl 5 yg p.bands]):=rfl
structure je where
 parts:Option (List qb)
 bands:Option (List qp)
 n:Int
def jff (p:je):qa:=.agg [sl 8 zi p.parts,sl 5 yg p.bands,.int .i64 p.n]
@[go_sem] theorem ju8 {p:je}:(jff p).flat=[sl 8 zi p.parts,sl 5 yg p.bands,.int .i64 p.n]:=rfl
@[go_sem] theorem jux {p:je}:qa.vptr (jff p)=.vptr (.agg [sl 8 zi p.parts,sl 5 yg p.bands,.int .i64 p.n]):=rfl
structure jt where
 x:Option (List qk)
 y:Option (List qk)
 lo:Int
 hi:Int
def jfc (p:jt):qa:=.agg [sl 3 vel p.x,sl 3 vel p.y,.int .i64 p.lo,.int .i64 p.hi]
@[go_sem] theorem jt2 {p:jt}:(jfc p).flat=[sl 3 vel p.x,sl 3 vel p.y,.int .i64 p.lo,.int .i64 p.hi]:=rfl
@[go_sem] theorem jv2 {p:jt}:qa.vptr (jfc p)=.vptr (.agg [sl 3 vel p.x,sl 3 vel p.y,.int .i64 p.lo,.int .i64 p.hi]):=rfl
@[go_sem] theorem j40 {h:zd}{a0 b0:List UInt8}{a1 b1:Int}{a2 b2:Int}:q2a [.str,.int,.int] false h (some (.agg [.str a0,.int .i64 a1,.int .i64 a2])) (some (.agg [.str b0,.int .i64 b1,.int .i64 b2]))=some ⟨.bool (decide (a0=b0)&&decide (a1=b1)&&decide (a2=b2)),false,none,h⟩:=by
 show(match qae [.str,.int,.int] [.str a0,.int .i64 a1,.int .i64 a2] [.str b0,.int .i64 b1,.int .i64 b2]with|some t=>val h (.bool (bif false then !t else t))|none=>none)=_
 have:qae [.str,.int,.int] [.str a0,.int .i64 a1,.int .i64 a2] [.str b0,.int .i64 b1,.int .i64 b2]=some (decide (a0=b0)&&decide (a1=b1)&&decide (a2=b2)):=by
  have e:∀x y:Int,(x == y)=decide (x=y):=fun x y=>by by_cases h:x=y<;>simp[h]
  have e':∀x y:List UInt8,(x == y)=decide (x=y):=fun x y=>by by_cases h:x=y<;>simp[h]
  simp only[qae,qbo,e,e',decide_true,cT]
  by_cases h0:a0=b0<;>by_cases h1:a1=b1<;>by_cases h2:a2=b2<;>simp[h0,h1,h2]
 rw[this]
 rfl
@[go_sem] theorem j5d {h:zd}{a0 b0:List UInt8}{a1 b1:Int}{a2 b2:Int}:q2a [.str,.int,.int] true h (some (.agg [.str a0,.int .i64 a1,.int .i64 a2])) (some (.agg [.str b0,.int .i64 b1,.int .i64 b2]))=some ⟨.bool (!(decide (a0=b0)&&decide (a1=b1)&&decide (a2=b2))),false,none,h⟩:=by
 show(match qae [.str,.int,.int] [.str a0,.int .i64 a1,.int .i64 a2] [.str b0,.int .i64 b1,.int .i64 b2]with|some t=>val h (.bool (bif true then !t else t))|none=>none)=_
 have:qae [.str,.int,.int] [.str a0,.int .i64 a1,.int .i64 a2] [.str b0,.int .i64 b1,.int .i64 b2]=some (decide (a0=b0)&&decide (a1=b1)&&decide (a2=b2)):=by
  have e:∀x y:Int,(x == y)=decide (x=y):=fun x y=>by by_cases h:x=y<;>simp[h]
  have e':∀x y:List UInt8,(x == y)=decide (x=y):=fun x y=>by by_cases h:x=y<;>simp[h]
  simp only[qae,qbo,e,e',decide_true,cT]
  by_cases h0:a0=b0<;>by_cases h1:a1=b1<;>by_cases h2:a2=b2<;>simp[h0,h1,h2]
 rw[this]
 rfl
theorem qwz {s:List UInt8}(h0:decide (s=([98,108,111,99,107]:List UInt8))=true):y8 .str (.str s) qap 0=some (some (0,.agg [.str ([116,114,97,112]:List UInt8),.bool true,.fn (.func 218) [] []])):=by
 have e0:(s == ([98,108,111,99,107]:List UInt8))=true:=by simpa using h0
 simp only[qap,y8,qbo,e0]
theorem q8x {s:List UInt8}(h0:decide (s=([98,108,111,99,107]:List UInt8))=false)(h1:decide (s=([115,101,114,105,101,115]:List UInt8))=true):y8 .str (.str s) qap 0=some (some (1,.agg [.str ([115,104,117,110,116]:List UInt8),.bool false,.fn (.func 219) [] []])):=by
 have e0:(s == ([98,108,111,99,107]:List UInt8))=false:=by simpa using h0
 have e1:(s == ([115,101,114,105,101,115]:List UInt8))=true:=by simpa using h1
 simp only[qap,y8,qbo,e0,e1]
theorem q86 {s:List UInt8}(h0:decide (s=([98,108,111,99,107]:List UInt8))=false)(h1:decide (s=([115,101,114,105,101,115]:List UInt8))=false)(h2:decide (s=([115,104,117,110,116]:List UInt8))=true):y8 .str (.str s) qap 0=some (some (2,.agg [.str ([115,101,114,105,101,115]:List UInt8),.bool false,.fn (.func 220) [] []])):=by
 have e0:(s == ([98,108,111,99,107]:List UInt8))=false:=by simpa using h0
 have e1:(s == ([115,101,114,105,101,115]:List UInt8))=false:=by simpa using h1
 have e2:(s == ([115,104,117,110,116]:List UInt8))=true:=by simpa using h2
 simp only[qap,y8,qbo,e0,e1,e2]
theorem qyp {s:List UInt8}(h0:decide (s=([98,108,111,99,107]:List UInt8))=false)(h1:decide (s=([115,101,114,105,101,115]:List UInt8))=false)(h2:decide (s=([115,104,117,110,116]:List UInt8))=false)(h3:decide (s=([116,114,97,112]:List UInt8))=true):y8 .str (.str s) qap 0=some (some (3,.agg [.str ([98,108,111,99,107]:List UInt8),.bool true,.fn (.func 221) [] []])):=by
 have e0:(s == ([98,108,111,99,107]:List UInt8))=false:=by simpa using h0
 have e1:(s == ([115,101,114,105,101,115]:List UInt8))=false:=by simpa using h1
 have e2:(s == ([115,104,117,110,116]:List UInt8))=false:=by simpa using h2
 have e3:(s == ([116,114,97,112]:List UInt8))=true:=by simpa using h3
 simp only[qap,y8,qbo,e0,e1,e2,e3]
theorem jfx {s:List UInt8}(h0:decide (s=([98,108,111,99,107]:List UInt8))=false)(h1:decide (s=([115,101,114,105,101,115]:List UInt8))=false)(h2:decide (s=([115,104,117,110,116]:List UInt8))=false)(h3:decide (s=([116,114,97,112]:List UInt8))=false):y8 .str (.str s) qap 0=some (none):=by
 have e0:(s == ([98,108,111,99,107]:List UInt8))=false:=by simpa using h0
 have e1:(s == ([115,101,114,105,101,115]:List UInt8))=false:=by simpa using h1
 have e2:(s == ([115,104,117,110,116]:List UInt8))=false:=by simpa using h2
 have e3:(s == ([116,114,97,112]:List UInt8))=false:=by simpa using h3
 simp only[qap,y8,qbo,e0,e1,e2,e3]
@[go_sem] theorem jje {n:Nat}:qbb n (.map qap)=true:=rfl
@[go_sem] theorem j4d:pr.maps 193=some qap:=rfl
def qr6 (h:zd)(zero:qa)(r:Option (Option (Nat×qa))):Option qm:=match r with
 |some (some (_,v))=>some ⟨.tup [v,.bool true],false,none,h⟩
 |some none=>some ⟨.tup [zero,.bool false],false,none,h⟩
 |none=>none
@[go_sem] theorem jo8 {h:zd}{z v:qa}{i:Nat}:qr6 h z (some (some (i,v)))=some ⟨.tup [v,.bool true],false,none,h⟩:=rfl
@[go_sem] theorem jo3 {h:zd}{z:qa}:qr6 h z (some none)=some ⟨.tup [z,.bool false],false,none,h⟩:=rfl
def qxn (h:zd)(kd:Kd)(z kv:qa)(x:Option qv):Option qm:=match x with
 |some (.map es)=>qr6 h z (y8 kd kv es 0)
 |_=>none
@[go_sem] theorem jvi {h:zd}{kd:Kd}{z kv:qa}{es:List (qa×qa)}:qxn h kd z kv (some (.map es))=qr6 h z (y8 kd kv es 0):=rfl
def qv8 (h0:Nat)(al:Option (List Nat))(h:zd)(kd:Kd)(z:qa)(m k:Option qa):Option qm:=match m,k with
 |some (.map b),some kv=>ifR (kg h0 al b) (qxn h kd z kv h[b]?)
 |some .nilmap,some _=>some ⟨.tup [z,.bool false],false,none,h⟩
 |_,_=>none
@[go_sem] theorem jko {h0:Nat}{al:Option (List Nat)}{h:zd}{kd:Kd}{z kv:qa}{b:Nat}:qv8 h0 al h kd z (some (.map b)) (some kv)=ifR (kg h0 al b) (qxn h kd z kv h[b]?):=rfl
@[go_sem] theorem jxt {p:qn}{xc:XC}{h0:Nat}{al:Option (List Nat)}{e:Env}{h:zd}{kd:Kd}{z:qa}{m k:qf}:j9 p xc h0 al e h (.lookup kd z true m k)=qv8 h0 al h kd z (zc e m) (zc e k):=by
 simp only[j9,qau,qv8]
 cases zc e m with
 |none=>cases zc e k<;>rfl
 |some v=>cases zc e k with
  |none=>cases v<;>rfl
  |some kv=>cases v with
   |map b=>
    simp only[ifR,qam,qxn,qr6]
    cases kg h0 al b with
    |false=>rfl
    |true=>
     simp only[cT]
     cases h[b]? with
     |none=>rfl
     |some x=>cases x with
      |map es=>
       simp only[]
       cases y8 kd kv es 0 with
       |none=>rfl
       |some r=>cases r<;>rfl
      |_=>rfl
   |_=>rfl
def qno (l:List (List UInt8))(s:List UInt8):Bool:=decide (s∈l)
def qv1 (l:List (List UInt8))(s:List UInt8):Option (List (List UInt8)):=if qno l s then some l else if l.length≤1073741824 then some (l++[s])else none
theorem jfe {h:zd}{l:List (List UInt8)}{s:List UInt8}:qxa h .str (.bool false) (.str s) (some (.map (qbz l)))=some ⟨.bool (qno l s),false,none,h⟩:=by
 rw[q9t,qwg]
 unfold qno
 by_cases hm:s∈l<;>simp[hm,q69,q7s]
theorem jec {h:zd}{b:Nat}{l v:List (List UInt8)}{s:List UInt8}(hv:qv1 l s=some v)(hn:qno l s=false):qyw h b .str (.str s) (.bool true) (some (.map (qbz l)))=qbv (yv h b (.map (qbz v))) .undef:=by
 unfold qv1 at hv
 rw[hn]at hv
 simp only[Bool.false_eq_true,if_false]at hv
 split at hv
 ·rename_i hl
  cases hv
  have hm:¬s∈l:=by simpa[qno]using hn
  rw[q3p,qwg,if_neg hm,q99,jcc,Nat.ble_eq_true_of_le hl,q8j]
  rfl
 ·cases hv
theorem qoc:∀ (l:List (List UInt8)) (i:Nat) (k:List UInt8),l[i]?=some k→qcd (qbz l) i (.bool true)=qbz l
 | [],i,k,h=>by simp at h
 |x::l,0,k,h=>rfl
 |x::l,i+1,k,h=>by
  have:=qoc l i k (by simpa using h)
  show(qa.str x,qa.bool true)::qcd (qbz l) i (.bool true)=_
  rw[this];rfl
theorem jlm {h:zd}{b:Nat}{l v:List (List UInt8)}{s:List UInt8}(hv:qv1 l s=some v):qyw h b .str (.str s) (.bool true) (some (.map (qbz l)))=qbv (yv h b (.map (qbz v))) .undef:=by
 cases hn:qno l s with
 |false=>exact jec hv hn
 |true=>
  unfold qv1 at hv
  rw[hn]at hv
  simp only[if_true,Option.some.injEq]at hv
  subst hv
  have hm:s∈l:=by simpa[qno]using hn
  rw[q3p,qwg,if_pos hm]
  have hi:l[l.idxOf s]?=some s:=by
   rw[List.getElem?_eq_getElem (List.idxOf_lt_length_of_mem hm),List.getElem_idxOf]
  show qbv (yv h b (.map (qcd (qbz l) (l.idxOf s) (.bool true)))) .undef=_
  rw[qoc l _ s hi]
@[go_sem] theorem q5b {n:Nat}:∀ {l:List (List UInt8)},qbb n (.map (qbz l))=true
 | []=>rfl
 |x::l=>by
  have:=q5b (n:=n) (l:=l)
  simp only[qbb]at this ⊢
  show(below n (.str x)&&below n (.bool true)&&qb4 n (qbz l))=true
  rw[this];rfl
theorem ja7 {p:qn}{xc:XC}{h0:Nat}{al:Option (List Nat)}{e:Env}{h:zd}{r:Nat}:j9 p xc h0 al e h (.mkmap r)=qbv (newBox h0 h r (.map (qbz []))) (.map (h0+r)):=jh4
theorem j5k {p:qn}{xc:XC}{k:Nat}{args:List qa}{v:qa}(hp:p.prims k=none)(hc:∃hh,yk p xc k args []=some (v,false,hh))(hz:∀hh,freezeR hh v=some v)(hv:below 0 v=true):j7 p xc k args=some (v,false):=by
 obtain⟨hh,hc⟩:=hc
 exact qd7 hp hc (hz hh) hv
theorem ql7 {hh:zd}:∀ {xs:List qa},yq 0 xs=true→qby hh xs=some xs
 | [],_=>rfl
 |x::xs,h=>by
  simp only[yq,Bool.and_eq_true]at h
  have hx:qbn hh x=some x:=by
   cases x with
   |ms b o n=>simp[Abs.below,Nat.blt]at h
   |_=>rfl
  simp only[qby,hx,ql7 h.2]
theorem jjv {hh:zd}{x:qa}(h:Abs.below 0 x=true):qbn hh x=some x:=by
 cases x with
 |ms b o n=>simp[Abs.below,Nat.blt]at h
 |_=>rfl
theorem qsv {hh:zd}:∀ {xs:List qa},yq 0 xs=true→freezeR.freezeT hh xs=some xs
 | [],_=>rfl
 |x::xs,h=>by
  simp only[yq,Bool.and_eq_true]at h
  have ih:=qsv (hh:=hh) h.2
  cases x with
  |agg cs=>
   have h1:=h.1
   simp only[Abs.below]at h1
   simp only[freezeR.freezeT,ql7 h1,ih]
  |ms b o n=>simp[Abs.below,Nat.blt]at h
  |_=>simp only[freezeR.freezeT,qbn,ih]
theorem qth {hh:zd}{x:qa}(h:Abs.below 0 x=true):freezeR hh x=some x:=by
 cases x with
 |agg cs=>
  simp only[Abs.below]at h
  simp only[freezeR,ql7 h]
 |tup vs=>
  simp only[Abs.below]at h
  simp only[freezeR,qsv h]
 |ms b o n=>simp[Abs.below,Nat.blt]at h
 |_=>rfl
theorem zg {p:qn}{k:Nat}(f:qg){args:List qa}{v:qa}(hc:∃hh,qzu f.results (X p f.body ⟨qbr 0 args,[]⟩)=some (v,false,hh))(hp:p.prims k=none:=by rfl)(hf:p.fns k=some f:=by rfl)(hl:Nat.ble args.length f.ntmps=true:=by rfl)(hv:below 0 v=true:=by first|rfl|simp only[go_sem,seval]):j7 p (X p) k args=some (v,false):=by
 obtain⟨hh,hc⟩:=hc
 cases f with
 |mk n b r=>exact qd7 hp (by rw[qak hf (Nat.le_of_ble_eq_true hl)];exact hc) (qth hv) hv
theorem qcb {p:qn}{k:Nat}(f:qg){args:List qa}{v:qa}{o:Bool}(hc:∃hh,qzu f.results (X p f.body ⟨qbr 0 args,[]⟩)=some (v,o,hh))(hp:p.prims k=none:=by rfl)(hf:p.fns k=some f:=by rfl)(hn:Nat.ble args.length f.ntmps=true:=by rfl)(hv:below 0 v=true:=by first|rfl|simp only[go_sem,seval])(hl:v.isList=true:=by first|rfl|simp only[go_sem,seval]):j7 p (X p) k args=some (v,o):=by
 obtain⟨hh,hc⟩:=hc
 cases f with
 |mk n b r=>exact qy1 hp (by rw[qak hf (Nat.le_of_ble_eq_true hn)];exact hc) (qth hv) hv hl
theorem oi {α:Type}{a b:α}(h:some a=some b):a=b:=Option.some.inj h
theorem zp {σ δ:Type}{p:qn}{c:qe}{St:σ→qc}{Ex:δ→qi×qc}{s s':σ}(h:X p c (St s)=some (.normal,St s'))(hl:(St s').heap.length≤(St s).heap.length:=by exact Nat.le_refl _):yh p c St Ex s (.inl s'):=qex h (qks hl)
theorem ko {σ δ:Type}{p:qn}{c:qe}{St:σ→qc}{Ex:δ→qi×qc}{s s':σ}(h:∃t,X p c (St s)=some (.normal,⟨(St s').env,(St s').heap++t⟩))(hn:(St s).heap.length=(St s').heap.length)(h1:qa9 (St s).heap.length (St s').env=true)(h2:yt (St s).heap.length (St s').heap=true):yh p c St Ex s (.inl s'):=by
 obtain⟨t,h⟩:=h
 exact qex h (qtn hn rfl h1 h2)
abbrev TI:=Option (List Int)
abbrev TE:=Option (List qk)
abbrev TP:=Option (List qb)
abbrev TB:=Option (List qp)
abbrev TTI:=Option (List TI)
abbrev TTE:=Option (List TE)
theorem qc9 {α:Type}{z:Nat}{f:α→qa}:sl z f none=.list true 0 []:=rfl
abbrev Iv (n:Int):qa:=.int .i64 n
abbrev Lv {α:Type}(o:Option (List α)):qa:=.int .i64 ((o.getD []).length:Int)
set_option maxHeartbeats 4000000
def f106 (a0:Bool)(a1:Int):Option Int:=
 cond a0
  (some a1)
  (some 0)
theorem qfp {a0:Bool}{a1:Int}{r}(h:f106 a0 a1=some r):j7 pr (X pr) 106 [.bool a0,Iv a1]=some (Iv r,false):=by
 unfold f106 at h
 rcases j0 h with⟨h1,h⟩|⟨h1,h⟩
 ·obtain rfl:=oi h
  refine zg c106 ?_
  simp only[go_sem,seval,c106,h1]
  exact⟨_,rfl⟩
 obtain rfl:=oi h
 refine zg c106 ?_
 simp only[go_sem,seval,c106,h1]
 exact⟨_,rfl⟩
def qml (a0:TI)(s0:Int):Option (Int⊕(Int⊕Int)):=
 cond (decide (s0<((a0.getD []).length:Int)))
  (j5 (yd (a0.getD []) s0) fun v10=>
  cond (decide (v10=0))
   (some (.inl (za .i64 (s0+1))))
   (some (.inr (.inl v10))))
  (some (.inr (.inr s0)))
def qht (a0:TI)(s0:Int):qc:=⟨[(5,sl 1 zh a0,false),(6,Lv a0,false),(7,Iv s0,false)],[]⟩
def qk2 (a0:TI):Int⊕Int→qi×qc
 | .inl d=>(.ret,⟨[(2,Iv d,false)],[]⟩)
 | .inr d=>(.exit 0,⟨[(5,sl 1 zh a0,false),(6,Lv a0,false),(7,Iv d,false),(8,.bool false,false)],[]⟩)
theorem jk8 (a0:TI)(s0:Int)(r)(h:qml a0 s0=some r):yh pr qn6 (qht a0) (qk2 a0) s0 r:=by
 unfold qml at h
 rcases j0 h with⟨h9,h⟩|⟨h9,h⟩
 ·obtain⟨v10,h11,h⟩:=jz h
  rcases j0 h with⟨h12,h⟩|⟨h12,h⟩
  ·cases h
   exact zp (by simp only[go_sem,seval,qn6,qht,h9,zf h11,h12]<;>rfl)
  cases h
  exact j8 (by simp only[go_sem,seval,qn6,qht,h9,zf h11,h12,qk2]<;>rfl)
 cases h
 exact j8 (by simp only[go_sem,seval,qn6,qht,h9,qk2]<;>rfl)
theorem jcb (a0:TI){s0:Int}{d}(h:itO (qml a0) s0=some d):X pr (.loop qn6) (qht a0 s0)=some (qk2 a0 d):=yo (jk8 a0) (fun d=>by rcases d with d|d<;>(intro hh;cases hh)) h
def f105 (a0:TI):Option Int:=
 j5 (itO (qml a0) 0) fun d13=>match d13 with
  | .inl d15=>
   some d15
  | .inr d16=>
   some 0
theorem qqp {a0:TI}{r}(h:f105 a0=some r):j7 pr (X pr) 105 [sl 1 zh a0]=some (Iv r,false):=by
 unfold f105 at h
 obtain⟨d13,h14,h⟩:=jz h
 rcases d13 with d15|d16
 ·have wh14:=jcb a0 h14
  dsimp only[qht,qk2]at wh14
  obtain rfl:=oi h
  refine zg c105 ?_
  simp only[go_sem,seval,c105,wh14]
  exact⟨_,rfl⟩
 have wh14:=jcb a0 h14
 dsimp only[qht,qk2]at wh14
 obtain rfl:=oi h
 refine zg c105 ?_
 simp only[go_sem,seval,c105,wh14]
 exact⟨_,rfl⟩
def f109 (a0:Int)(a1:Int)(a2:Int):Option Int:=
 cond (decide (a0<a1))
  (j5 (f106 true 3) fun v2=>
  some v2)
  (j5 (f106 (decide (a2<a0)) 3) fun v4=>
  some v4)
theorem qsg {a0:Int}{a1:Int}{a2:Int}{r}(h:f109 a0 a1 a2=some r):j7 pr (X pr) 109 [Iv a0,Iv a1,Iv a2]=some (Iv r,false):=by
 unfold f109 at h
 rcases j0 h with⟨h1,h⟩|⟨h1,h⟩
 ·obtain⟨v2,h3,h⟩:=jz h
  obtain rfl:=oi h
  refine zg c109 ?_
  simp only[go_sem,seval,c109,h1,qfp h3]
  exact⟨_,rfl⟩
 obtain⟨v4,h5,h⟩:=jz h
 have wh5:=qfp h5
 obtain rfl:=oi h
 refine zg c109 ?_
 simp only[go_sem,seval,c109,h1,wh5]
 exact⟨_,rfl⟩
def qgs (a0:List UInt8):Option (Option (Nat)⊕(Nat⊕Nat)):=
 cond (decide (0<a0.length))
  (cond (decide (65≤((zk a0 0).1:Int)))
   (cond (decide (((zk a0 0).1:Int)≤90))
    (cond (decide (48≤((zk a0 0).1:Int)))
     (cond (decide (((zk a0 0).1:Int)≤57))
      (some (.inl (some (0+(zk a0 0).2))))
      (some (.inl (some (0+(zk a0 0).2)))))
     (some (.inl (some (0+(zk a0 0).2)))))
    (cond (decide (97≤((zk a0 0).1:Int)))
     (cond (decide (48≤((zk a0 0).1:Int)))
      (cond (decide (((zk a0 0).1:Int)≤57))
       (cond (decide (((zk a0 0).1:Int)≤122))
        (some (.inl (some (0+(zk a0 0).2))))
        (some (.inr (.inl (0+(zk a0 0).2)))))
       (cond (decide (((zk a0 0).1:Int)≤122))
        (some (.inl (some (0+(zk a0 0).2))))
        (some (.inr (.inl (0+(zk a0 0).2))))))
      (cond (decide (((zk a0 0).1:Int)≤122))
       (some (.inl (some (0+(zk a0 0).2))))
       (some (.inr (.inl (0+(zk a0 0).2))))))
     (cond (decide (48≤((zk a0 0).1:Int)))
      (cond (decide (((zk a0 0).1:Int)≤57))
       (some (.inr (.inl (0+(zk a0 0).2))))
       (some (.inr (.inl (0+(zk a0 0).2)))))
      (some (.inr (.inl (0+(zk a0 0).2)))))))
   (cond (decide (97≤((zk a0 0).1:Int)))
    (cond (decide (48≤((zk a0 0).1:Int)))
     (cond (decide (((zk a0 0).1:Int)≤57))
      (cond (decide (((zk a0 0).1:Int)≤122))
       (some (.inl (some (0+(zk a0 0).2))))
       (some (.inr (.inl (0+(zk a0 0).2)))))
      (cond (decide (((zk a0 0).1:Int)≤122))
       (some (.inl (some (0+(zk a0 0).2))))
       (some (.inr (.inl (0+(zk a0 0).2))))))
     (cond (decide (((zk a0 0).1:Int)≤122))
      (some (.inl (some (0+(zk a0 0).2))))
      (some (.inr (.inl (0+(zk a0 0).2))))))
    (cond (decide (48≤((zk a0 0).1:Int)))
     (cond (decide (((zk a0 0).1:Int)≤57))
      (some (.inr (.inl (0+(zk a0 0).2))))
      (some (.inr (.inl (0+(zk a0 0).2)))))
     (some (.inr (.inl (0+(zk a0 0).2)))))))
  (some (.inr (.inr 0)))
def qgl (a0:List UInt8)(s0:Nat):Option (Option (Nat)⊕(Nat⊕Nat)):=
 cond (decide (s0<a0.length))
  (cond (decide (65≤((zk a0 s0).1:Int)))
   (cond (decide (((zk a0 s0).1:Int)≤90))
    (cond (decide (48≤((zk a0 s0).1:Int)))
     (cond (decide (((zk a0 s0).1:Int)≤57))
      (some (.inl (some (s0+(zk a0 s0).2))))
      (some (.inl (some (s0+(zk a0 s0).2)))))
     (some (.inl (some (s0+(zk a0 s0).2)))))
    (cond (decide (97≤((zk a0 s0).1:Int)))
     (cond (decide (48≤((zk a0 s0).1:Int)))
      (cond (decide (((zk a0 s0).1:Int)≤57))
       (cond (decide (((zk a0 s0).1:Int)≤122))
        (some (.inl (some (s0+(zk a0 s0).2))))
        (cond (decide ((s0:Int)=0))
         (some (.inr (.inl (s0+(zk a0 s0).2))))
         (some (.inl (some (s0+(zk a0 s0).2))))))
       (cond (decide (((zk a0 s0).1:Int)≤122))
        (some (.inl (some (s0+(zk a0 s0).2))))
        (cond (decide ((s0:Int)=0))
         (some (.inr (.inl (s0+(zk a0 s0).2))))
         (cond (decide (((zk a0 s0).1:Int)=95))
          (some (.inl (some (s0+(zk a0 s0).2))))
          (some (.inr (.inl (s0+(zk a0 s0).2))))))))
      (cond (decide (((zk a0 s0).1:Int)≤122))
       (some (.inl (some (s0+(zk a0 s0).2))))
       (cond (decide ((s0:Int)=0))
        (some (.inr (.inl (s0+(zk a0 s0).2))))
        (cond (decide (((zk a0 s0).1:Int)=95))
         (some (.inl (some (s0+(zk a0 s0).2))))
         (some (.inr (.inl (s0+(zk a0 s0).2))))))))
     (cond (decide (48≤((zk a0 s0).1:Int)))
      (cond (decide (((zk a0 s0).1:Int)≤57))
       (cond (decide ((s0:Int)=0))
        (some (.inr (.inl (s0+(zk a0 s0).2))))
        (some (.inl (some (s0+(zk a0 s0).2)))))
       (cond (decide ((s0:Int)=0))
        (some (.inr (.inl (s0+(zk a0 s0).2))))
        (cond (decide (((zk a0 s0).1:Int)=95))
         (some (.inl (some (s0+(zk a0 s0).2))))
         (some (.inr (.inl (s0+(zk a0 s0).2)))))))
      (cond (decide ((s0:Int)=0))
       (some (.inr (.inl (s0+(zk a0 s0).2))))
       (cond (decide (((zk a0 s0).1:Int)=95))
        (some (.inl (some (s0+(zk a0 s0).2))))
        (some (.inr (.inl (s0+(zk a0 s0).2)))))))))
   (cond (decide (97≤((zk a0 s0).1:Int)))
    (cond (decide (48≤((zk a0 s0).1:Int)))
     (cond (decide (((zk a0 s0).1:Int)≤57))
      (cond (decide (((zk a0 s0).1:Int)≤122))
       (some (.inl (some (s0+(zk a0 s0).2))))
       (cond (decide ((s0:Int)=0))
        (some (.inr (.inl (s0+(zk a0 s0).2))))
        (some (.inl (some (s0+(zk a0 s0).2))))))
      (cond (decide (((zk a0 s0).1:Int)≤122))
       (some (.inl (some (s0+(zk a0 s0).2))))
       (cond (decide ((s0:Int)=0))
        (some (.inr (.inl (s0+(zk a0 s0).2))))
        (cond (decide (((zk a0 s0).1:Int)=95))
         (some (.inl (some (s0+(zk a0 s0).2))))
         (some (.inr (.inl (s0+(zk a0 s0).2))))))))
     (cond (decide (((zk a0 s0).1:Int)≤122))
      (some (.inl (some (s0+(zk a0 s0).2))))
      (cond (decide ((s0:Int)=0))
       (some (.inr (.inl (s0+(zk a0 s0).2))))
       (cond (decide (((zk a0 s0).1:Int)=95))
        (some (.inl (some (s0+(zk a0 s0).2))))
        (some (.inr (.inl (s0+(zk a0 s0).2))))))))
    (cond (decide (48≤((zk a0 s0).1:Int)))
     (cond (decide (((zk a0 s0).1:Int)≤57))
      (cond (decide ((s0:Int)=0))
       (some (.inr (.inl (s0+(zk a0 s0).2))))
       (some (.inl (some (s0+(zk a0 s0).2)))))
      (cond (decide ((s0:Int)=0))
       (some (.inr (.inl (s0+(zk a0 s0).2))))
       (cond (decide (((zk a0 s0).1:Int)=95))
        (some (.inl (some (s0+(zk a0 s0).2))))
        (some (.inr (.inl (s0+(zk a0 s0).2)))))))
     (cond (decide ((s0:Int)=0))
      (some (.inr (.inl (s0+(zk a0 s0).2))))
      (cond (decide (((zk a0 s0).1:Int)=95))
       (some (.inl (some (s0+(zk a0 s0).2))))
       (some (.inr (.inl (s0+(zk a0 s0).2)))))))))
  (some (.inr (.inr s0)))
def qr2 (a0:List UInt8):Option (Nat)→Option (Option (Nat)⊕(Nat⊕Nat))
 |none=>qgs a0
 |some x=>qgl a0 x
def z6 (a0:List UInt8)(s0:Nat):qc:=⟨[(0,.str a0,false),(8,.ptr 0 0,false),(46,.bool false,false)],[.iter a0 s0]⟩
def yc (a0:List UInt8):Option (Nat)→qc
 |none=>⟨[(0,.str a0,false),(8,.ptr 0 0,false)],[.iter a0 0]⟩
 |some x=>z6 a0 x
def kr (a0:List UInt8):Nat⊕Nat→qi×qc
 | .inl d=>(.ret,⟨[(2,.bool false,false)],[.iter a0 d]⟩)
 | .inr d=>(.exit 0,⟨[(0,.str a0,false),(8,.ptr 0 0,false),(9,.tup [.bool false],false),(10,.bool false,false)],[.iter a0 d]⟩)
theorem jif (a0:List UInt8)(r)(h:qgs a0=some r):yh pr yj (yc a0) (kr a0) none r:=by
 unfold qgs at h
 rcases j0 h with⟨h171,h⟩|⟨h171,h⟩
 ·rcases j0 h with⟨h172,h⟩|⟨h172,h⟩
  ·rcases j0 h with⟨h173,h⟩|⟨h173,h⟩
   ·rcases j0 h with⟨h174,h⟩|⟨h174,h⟩
    ·rcases j0 h with⟨h175,h⟩|⟨h175,h⟩
     ·cases h
      exact zp (by simp only[go_sem,seval,yj,yc,z6,h171,yp h171,h172,h173,h174,h175]<;>rfl)
     cases h
     exact zp (by simp only[go_sem,seval,yj,yc,z6,h171,yp h171,h172,h173,h174,h175]<;>rfl)
    cases h
    exact zp (by simp only[go_sem,seval,yj,yc,z6,h171,yp h171,h172,h173,h174]<;>rfl)
   rcases j0 h with⟨h176,h⟩|⟨h176,h⟩
   ·rcases j0 h with⟨h177,h⟩|⟨h177,h⟩
    ·rcases j0 h with⟨h178,h⟩|⟨h178,h⟩
     ·rcases j0 h with⟨h179,h⟩|⟨h179,h⟩
      ·cases h
       exact zp (by simp only[go_sem,seval,yj,yc,z6,h171,yp h171,h172,h173,h176,h177,h178,h179]<;>rfl)
      cases h
      exact j8 (by simp only[go_sem,seval,yj,yc,z6,h171,yp h171,h172,h173,h176,h177,h178,h179,kr]<;>rfl)
     rcases j0 h with⟨h180,h⟩|⟨h180,h⟩
     ·cases h
      exact zp (by simp only[go_sem,seval,yj,yc,z6,h171,yp h171,h172,h173,h176,h177,h178,h180]<;>rfl)
     cases h
     exact j8 (by simp only[go_sem,seval,yj,yc,z6,h171,yp h171,h172,h173,h176,h177,h178,h180,kr]<;>rfl)
    rcases j0 h with⟨h181,h⟩|⟨h181,h⟩
    ·cases h
     exact zp (by simp only[go_sem,seval,yj,yc,z6,h171,yp h171,h172,h173,h176,h177,h181]<;>rfl)
    cases h
    exact j8 (by simp only[go_sem,seval,yj,yc,z6,h171,yp h171,h172,h173,h176,h177,h181,kr]<;>rfl)
   rcases j0 h with⟨h182,h⟩|⟨h182,h⟩
   ·rcases j0 h with⟨h183,h⟩|⟨h183,h⟩
    ·cases h
     exact j8 (by simp only[go_sem,seval,yj,yc,z6,h171,yp h171,h172,h173,h176,h182,h183,kr]<;>rfl)
    cases h
    exact j8 (by simp only[go_sem,seval,yj,yc,z6,h171,yp h171,h172,h173,h176,h182,h183,kr]<;>rfl)
   cases h
   exact j8 (by simp only[go_sem,seval,yj,yc,z6,h171,yp h171,h172,h173,h176,h182,kr]<;>rfl)
  rcases j0 h with⟨h184,h⟩|⟨h184,h⟩
  ·rcases j0 h with⟨h185,h⟩|⟨h185,h⟩
   ·rcases j0 h with⟨h186,h⟩|⟨h186,h⟩
    ·rcases j0 h with⟨h187,h⟩|⟨h187,h⟩
     ·cases h
      exact zp (by simp only[go_sem,seval,yj,yc,z6,h171,yp h171,h172,h184,h185,h186,h187]<;>rfl)
     cases h
     exact j8 (by simp only[go_sem,seval,yj,yc,z6,h171,yp h171,h172,h184,h185,h186,h187,kr]<;>rfl)
    rcases j0 h with⟨h188,h⟩|⟨h188,h⟩
    ·cases h
     exact zp (by simp only[go_sem,seval,yj,yc,z6,h171,yp h171,h172,h184,h185,h186,h188]<;>rfl)
    cases h
    exact j8 (by simp only[go_sem,seval,yj,yc,z6,h171,yp h171,h172,h184,h185,h186,h188,kr]<;>rfl)
   rcases j0 h with⟨h189,h⟩|⟨h189,h⟩
   ·cases h
    exact zp (by simp only[go_sem,seval,yj,yc,z6,h171,yp h171,h172,h184,h185,h189]<;>rfl)
   cases h
   exact j8 (by simp only[go_sem,seval,yj,yc,z6,h171,yp h171,h172,h184,h185,h189,kr]<;>rfl)
  rcases j0 h with⟨h190,h⟩|⟨h190,h⟩
  ·rcases j0 h with⟨h191,h⟩|⟨h191,h⟩
   ·cases h
    exact j8 (by simp only[go_sem,seval,yj,yc,z6,h171,yp h171,h172,h184,h190,h191,kr]<;>rfl)
   cases h
   exact j8 (by simp only[go_sem,seval,yj,yc,z6,h171,yp h171,h172,h184,h190,h191,kr]<;>rfl)
  cases h
  exact j8 (by simp only[go_sem,seval,yj,yc,z6,h171,yp h171,h172,h184,h190,kr]<;>rfl)
 cases h
 exact j8 (by simp only[go_sem,seval,yj,yc,z6,h171,ja0 h171,kr]<;>rfl)
theorem jgf (a0:List UInt8)(s0:Nat)(r)(h:qgl a0 s0=some r):yh pr yj (yc a0) (kr a0) (some s0) r:=by
 unfold qgl at h
 rcases j0 h with⟨h130,h⟩|⟨h130,h⟩
 ·rcases j0 h with⟨h131,h⟩|⟨h131,h⟩
  ·rcases j0 h with⟨h132,h⟩|⟨h132,h⟩
   ·rcases j0 h with⟨h133,h⟩|⟨h133,h⟩
    ·rcases j0 h with⟨h134,h⟩|⟨h134,h⟩
     ·cases h
      exact zp (by simp only[go_sem,seval,yj,yc,z6,h130,yp h130,h131,h132,h133,h134]<;>rfl)
     cases h
     exact zp (by simp only[go_sem,seval,yj,yc,z6,h130,yp h130,h131,h132,h133,h134]<;>rfl)
    cases h
    exact zp (by simp only[go_sem,seval,yj,yc,z6,h130,yp h130,h131,h132,h133]<;>rfl)
   rcases j0 h with⟨h135,h⟩|⟨h135,h⟩
   ·rcases j0 h with⟨h136,h⟩|⟨h136,h⟩
    ·rcases j0 h with⟨h137,h⟩|⟨h137,h⟩
     ·rcases j0 h with⟨h138,h⟩|⟨h138,h⟩
      ·cases h
       exact zp (by simp only[go_sem,seval,yj,yc,z6,h130,yp h130,h131,h132,h135,h136,h137,h138]<;>rfl)
      rcases j0 h with⟨h139,h⟩|⟨h139,h⟩
      ·cases h
       exact j8 (by simp only[go_sem,seval,yj,yc,z6,h130,yp h130,h131,h132,h135,h136,h137,h138,h139,kr]<;>rfl)
      cases h
      exact zp (by simp only[go_sem,seval,yj,yc,z6,h130,yp h130,h131,h132,h135,h136,h137,h138,h139]<;>rfl)
     rcases j0 h with⟨h140,h⟩|⟨h140,h⟩
     ·cases h
      exact zp (by simp only[go_sem,seval,yj,yc,z6,h130,yp h130,h131,h132,h135,h136,h137,h140]<;>rfl)
     rcases j0 h with⟨h141,h⟩|⟨h141,h⟩
     ·cases h
      exact j8 (by simp only[go_sem,seval,yj,yc,z6,h130,yp h130,h131,h132,h135,h136,h137,h140,h141,kr]<;>rfl)
     rcases j0 h with⟨h142,h⟩|⟨h142,h⟩
     ·cases h
      exact zp (by simp only[go_sem,seval,yj,yc,z6,h130,yp h130,h131,h132,h135,h136,h137,h140,h141,h142]<;>rfl)
     cases h
     exact j8 (by simp only[go_sem,seval,yj,yc,z6,h130,yp h130,h131,h132,h135,h136,h137,h140,h141,h142,kr]<;>rfl)
    rcases j0 h with⟨h143,h⟩|⟨h143,h⟩
    ·cases h
     exact zp (by simp only[go_sem,seval,yj,yc,z6,h130,yp h130,h131,h132,h135,h136,h143]<;>rfl)
    rcases j0 h with⟨h144,h⟩|⟨h144,h⟩
    ·cases h
     exact j8 (by simp only[go_sem,seval,yj,yc,z6,h130,yp h130,h131,h132,h135,h136,h143,h144,kr]<;>rfl)
    rcases j0 h with⟨h145,h⟩|⟨h145,h⟩
    ·cases h
     exact zp (by simp only[go_sem,seval,yj,yc,z6,h130,yp h130,h131,h132,h135,h136,h143,h144,h145]<;>rfl)
    cases h
    exact j8 (by simp only[go_sem,seval,yj,yc,z6,h130,yp h130,h131,h132,h135,h136,h143,h144,h145,kr]<;>rfl)
   rcases j0 h with⟨h146,h⟩|⟨h146,h⟩
   ·rcases j0 h with⟨h147,h⟩|⟨h147,h⟩
    ·rcases j0 h with⟨h148,h⟩|⟨h148,h⟩
     ·cases h
      exact j8 (by simp only[go_sem,seval,yj,yc,z6,h130,yp h130,h131,h132,h135,h146,h147,h148,kr]<;>rfl)
     cases h
     exact zp (by simp only[go_sem,seval,yj,yc,z6,h130,yp h130,h131,h132,h135,h146,h147,h148]<;>rfl)
    rcases j0 h with⟨h149,h⟩|⟨h149,h⟩
    ·cases h
     exact j8 (by simp only[go_sem,seval,yj,yc,z6,h130,yp h130,h131,h132,h135,h146,h147,h149,kr]<;>rfl)
    rcases j0 h with⟨h150,h⟩|⟨h150,h⟩
    ·cases h
     exact zp (by simp only[go_sem,seval,yj,yc,z6,h130,yp h130,h131,h132,h135,h146,h147,h149,h150]<;>rfl)
    cases h
    exact j8 (by simp only[go_sem,seval,yj,yc,z6,h130,yp h130,h131,h132,h135,h146,h147,h149,h150,kr]<;>rfl)
   rcases j0 h with⟨h151,h⟩|⟨h151,h⟩
   ·cases h
    exact j8 (by simp only[go_sem,seval,yj,yc,z6,h130,yp h130,h131,h132,h135,h146,h151,kr]<;>rfl)
   rcases j0 h with⟨h152,h⟩|⟨h152,h⟩
   ·cases h
    exact zp (by simp only[go_sem,seval,yj,yc,z6,h130,yp h130,h131,h132,h135,h146,h151,h152]<;>rfl)
   cases h
   exact j8 (by simp only[go_sem,seval,yj,yc,z6,h130,yp h130,h131,h132,h135,h146,h151,h152,kr]<;>rfl)
  rcases j0 h with⟨h153,h⟩|⟨h153,h⟩
  ·rcases j0 h with⟨h154,h⟩|⟨h154,h⟩
   ·rcases j0 h with⟨h155,h⟩|⟨h155,h⟩
    ·rcases j0 h with⟨h156,h⟩|⟨h156,h⟩
     ·cases h
      exact zp (by simp only[go_sem,seval,yj,yc,z6,h130,yp h130,h131,h153,h154,h155,h156]<;>rfl)
     rcases j0 h with⟨h157,h⟩|⟨h157,h⟩
     ·cases h
      exact j8 (by simp only[go_sem,seval,yj,yc,z6,h130,yp h130,h131,h153,h154,h155,h156,h157,kr]<;>rfl)
     cases h
     exact zp (by simp only[go_sem,seval,yj,yc,z6,h130,yp h130,h131,h153,h154,h155,h156,h157]<;>rfl)
    rcases j0 h with⟨h158,h⟩|⟨h158,h⟩
    ·cases h
     exact zp (by simp only[go_sem,seval,yj,yc,z6,h130,yp h130,h131,h153,h154,h155,h158]<;>rfl)
    rcases j0 h with⟨h159,h⟩|⟨h159,h⟩
    ·cases h
     exact j8 (by simp only[go_sem,seval,yj,yc,z6,h130,yp h130,h131,h153,h154,h155,h158,h159,kr]<;>rfl)
    rcases j0 h with⟨h160,h⟩|⟨h160,h⟩
    ·cases h
     exact zp (by simp only[go_sem,seval,yj,yc,z6,h130,yp h130,h131,h153,h154,h155,h158,h159,h160]<;>rfl)
    cases h
    exact j8 (by simp only[go_sem,seval,yj,yc,z6,h130,yp h130,h131,h153,h154,h155,h158,h159,h160,kr]<;>rfl)
   rcases j0 h with⟨h161,h⟩|⟨h161,h⟩
   ·cases h
    exact zp (by simp only[go_sem,seval,yj,yc,z6,h130,yp h130,h131,h153,h154,h161]<;>rfl)
   rcases j0 h with⟨h162,h⟩|⟨h162,h⟩
   ·cases h
    exact j8 (by simp only[go_sem,seval,yj,yc,z6,h130,yp h130,h131,h153,h154,h161,h162,kr]<;>rfl)
   rcases j0 h with⟨h163,h⟩|⟨h163,h⟩
   ·cases h
    exact zp (by simp only[go_sem,seval,yj,yc,z6,h130,yp h130,h131,h153,h154,h161,h162,h163]<;>rfl)
   cases h
   exact j8 (by simp only[go_sem,seval,yj,yc,z6,h130,yp h130,h131,h153,h154,h161,h162,h163,kr]<;>rfl)
  rcases j0 h with⟨h164,h⟩|⟨h164,h⟩
  ·rcases j0 h with⟨h165,h⟩|⟨h165,h⟩
   ·rcases j0 h with⟨h166,h⟩|⟨h166,h⟩
    ·cases h
     exact j8 (by simp only[go_sem,seval,yj,yc,z6,h130,yp h130,h131,h153,h164,h165,h166,kr]<;>rfl)
    cases h
    exact zp (by simp only[go_sem,seval,yj,yc,z6,h130,yp h130,h131,h153,h164,h165,h166]<;>rfl)
   rcases j0 h with⟨h167,h⟩|⟨h167,h⟩
   ·cases h
    exact j8 (by simp only[go_sem,seval,yj,yc,z6,h130,yp h130,h131,h153,h164,h165,h167,kr]<;>rfl)
   rcases j0 h with⟨h168,h⟩|⟨h168,h⟩
   ·cases h
    exact zp (by simp only[go_sem,seval,yj,yc,z6,h130,yp h130,h131,h153,h164,h165,h167,h168]<;>rfl)
   cases h
   exact j8 (by simp only[go_sem,seval,yj,yc,z6,h130,yp h130,h131,h153,h164,h165,h167,h168,kr]<;>rfl)
  rcases j0 h with⟨h169,h⟩|⟨h169,h⟩
  ·cases h
   exact j8 (by simp only[go_sem,seval,yj,yc,z6,h130,yp h130,h131,h153,h164,h169,kr]<;>rfl)
  rcases j0 h with⟨h170,h⟩|⟨h170,h⟩
  ·cases h
   exact zp (by simp only[go_sem,seval,yj,yc,z6,h130,yp h130,h131,h153,h164,h169,h170]<;>rfl)
  cases h
  exact j8 (by simp only[go_sem,seval,yj,yc,z6,h130,yp h130,h131,h153,h164,h169,h170,kr]<;>rfl)
 cases h
 exact j8 (by simp only[go_sem,seval,yj,yc,z6,h130,ja0 h130,kr]<;>rfl)
theorem jk6 (a0:List UInt8):∀(x:Option (Nat)) (r) (h:qr2 a0 x=some r),yh pr yj (yc a0) (kr a0) x r
 |none,r,h=>jif a0 r h
 |some x,r,h=>jgf a0 x r h
theorem jb8 (a0:List UInt8){s0:Option (Nat)}{d}(h:itO (qr2 a0) s0=some d):X pr (.loop yj) (yc a0 s0)=some (kr a0 d):=yo (jk6 a0) (fun d=>by rcases d with d|d<;>(intro hh;cases hh)) h
def f107 (a0:List UInt8):Option Bool:=
 j5 (itO (qr2 a0) none) fun d192=>match d192 with
  | .inl d194=>
   some false
  | .inr d195=>
   cond (decide (a0=[]))
    (some false)
    (some (decide ((a0.length:Int)≤24)))
theorem j2q {a0:List UInt8}{r}(h:f107 a0=some r):j7 pr (X pr) 107 [.str a0]=some (.bool r,false):=by
 unfold f107 at h
 obtain⟨d192,h193,h⟩:=jz h
 rcases d192 with d194|d195
 ·have wh193:=jb8 a0 h193
  dsimp only[yc,z6,kr]at wh193
  obtain rfl:=oi h
  refine zg c107 ?_
  simp only[go_sem,seval,c107,wh193]
  exact⟨_,rfl⟩
 have wh193:=jb8 a0 h193
 dsimp only[yc,z6,kr]at wh193
 rcases j0 h with⟨h196,h⟩|⟨h196,h⟩
 ·obtain rfl:=oi h
  refine zg c107 ?_
  simp only[go_sem,seval,c107,wh193,h196]
  exact⟨_,rfl⟩
 obtain rfl:=oi h
 refine zg c107 ?_
 simp only[go_sem,seval,c107,wh193,h196]
 exact⟨_,rfl⟩
def f194 (a0:Bool)(a1:Int):Option Int:=
 cond a0
  (some a1)
  (some 0)
theorem qb7 {a0:Bool}{a1:Int}{r}(h:f194 a0 a1=some r):j7 pr (X pr) 194 [.bool a0,Iv a1]=some (Iv r,false):=by
 unfold f194 at h
 rcases j0 h with⟨h1,h⟩|⟨h1,h⟩
 ·obtain rfl:=oi h
  refine zg c194 ?_
  simp only[go_sem,seval,c194,h1]
  exact⟨_,rfl⟩
 obtain rfl:=oi h
 refine zg c194 ?_
 simp only[go_sem,seval,c194,h1]
 exact⟨_,rfl⟩
def f195 (a0:Int)(a1:Int)(a2:Int):Option Int:=
 cond (decide (a0<a1))
  (j5 (f194 true 3) fun v2=>
  some v2)
  (j5 (f194 (decide (a2<a0)) 3) fun v4=>
  some v4)
theorem ql4 {a0:Int}{a1:Int}{a2:Int}{r}(h:f195 a0 a1 a2=some r):j7 pr (X pr) 195 [Iv a0,Iv a1,Iv a2]=some (Iv r,false):=by
 unfold f195 at h
 rcases j0 h with⟨h1,h⟩|⟨h1,h⟩
 ·obtain⟨v2,h3,h⟩:=jz h
  obtain rfl:=oi h
  refine zg c195 ?_
  simp only[go_sem,seval,c195,h1,qb7 h3]
  exact⟨_,rfl⟩
 obtain⟨v4,h5,h⟩:=jz h
 have wh5:=qb7 h5
 obtain rfl:=oi h
 refine zg c195 ?_
 simp only[go_sem,seval,c195,h1,wh5]
 exact⟨_,rfl⟩
def qlf (a0:TI)(s0:Int):Option (Int⊕(Int⊕Int)):=
 cond (decide (s0<((a0.getD []).length:Int)))
  (j5 (yd (a0.getD []) s0) fun v10=>
  cond (decide (v10=0))
   (some (.inl (za .i64 (s0+1))))
   (some (.inr (.inl v10))))
  (some (.inr (.inr s0)))
def qhl (a0:TI)(s0:Int):qc:=⟨[(5,sl 1 zh a0,false),(6,Lv a0,false),(7,Iv s0,false)],[]⟩
def qk5 (a0:TI):Int⊕Int→qi×qc
 | .inl d=>(.ret,⟨[(2,Iv d,false)],[]⟩)
 | .inr d=>(.exit 0,⟨[(5,sl 1 zh a0,false),(6,Lv a0,false),(7,Iv d,false),(8,.bool false,false)],[]⟩)
theorem jnq (a0:TI)(s0:Int)(r)(h:qlf a0 s0=some r):yh pr qpr (qhl a0) (qk5 a0) s0 r:=by
 unfold qlf at h
 rcases j0 h with⟨h9,h⟩|⟨h9,h⟩
 ·obtain⟨v10,h11,h⟩:=jz h
  rcases j0 h with⟨h12,h⟩|⟨h12,h⟩
  ·cases h
   exact zp (by simp only[go_sem,seval,qpr,qhl,h9,zf h11,h12]<;>rfl)
  cases h
  exact j8 (by simp only[go_sem,seval,qpr,qhl,h9,zf h11,h12,qk5]<;>rfl)
 cases h
 exact j8 (by simp only[go_sem,seval,qpr,qhl,h9,qk5]<;>rfl)
theorem jbr (a0:TI){s0:Int}{d}(h:itO (qlf a0) s0=some d):X pr (.loop qpr) (qhl a0 s0)=some (qk5 a0 d):=yo (jnq a0) (fun d=>by rcases d with d|d<;>(intro hh;cases hh)) h
def f171 (a0:TI):Option Int:=
 j5 (itO (qlf a0) 0) fun d13=>match d13 with
  | .inl d15=>
   some d15
  | .inr d16=>
   some 0
theorem qsr {a0:TI}{r}(h:f171 a0=some r):j7 pr (X pr) 171 [sl 1 zh a0]=some (Iv r,false):=by
 unfold f171 at h
 obtain⟨d13,h14,h⟩:=jz h
 rcases d13 with d15|d16
 ·have wh14:=jbr a0 h14
  dsimp only[qhl,qk5]at wh14
  obtain rfl:=oi h
  refine zg c171 ?_
  simp only[go_sem,seval,c171,wh14]
  exact⟨_,rfl⟩
 have wh14:=jbr a0 h14
 dsimp only[qhl,qk5]at wh14
 obtain rfl:=oi h
 refine zg c171 ?_
 simp only[go_sem,seval,c171,wh14]
 exact⟨_,rfl⟩
def f172 (a0:Int):Option Int:=
 j5 (f195 a0 1 8) fun v1=>
 some v1
theorem jlw {a0:Int}{r}(h:f172 a0=some r):j7 pr (X pr) 172 [Iv a0]=some (Iv r,false):=by
 unfold f172 at h
 obtain⟨v1,h2,h⟩:=jz h
 obtain rfl:=oi h
 refine zg c172 ?_
 simp only[go_sem,seval,c172,ql4 h2]
 exact⟨_,rfl⟩
def f122 (a0:Int):Option Int:=
 j5 (f109 a0 1 8) fun v1=>
 some v1
theorem j28 {a0:Int}{r}(h:f122 a0=some r):j7 pr (X pr) 122 [Iv a0]=some (Iv r,false):=by
 unfold f122 at h
 obtain⟨v1,h2,h⟩:=jz h
 obtain rfl:=oi h
 refine zg c122 ?_
 simp only[go_sem,seval,c122,qsg h2]
 exact⟨_,rfl⟩
def qle (a0:TE)(s0:Int):Option (Int⊕((Int×(List UInt8)×Int×Int)⊕(Int×(List UInt8)×Int×Int)⊕(Int×(List UInt8)×Int×Int)⊕(Int×(List UInt8)×Int×Int)⊕(Int×(List UInt8)×Int×Int)⊕Int)):=
 cond (decide (s0<((a0.getD []).length:Int)))
  (j5 (yd (a0.getD []) s0) fun v151=>
  cond (decide (v151.kind=([98,108,111,99,107]:List UInt8)))
   (j5 (f194 false 13) fun v154=>
   j5 (f195 v151.a 0 8) fun v156=>
   j5 (f195 v151.b 0 8) fun v158=>
   cond (decide (v151.a=0))
    (j5 (f194 (decide (v151.b=0)) 6) fun v161=>
    j5 (f171 (some [v154,v156,v158,v161])) fun v163=>
    cond (decide (v163=0))
     (some (.inl (za .i64 (s0+1))))
     (some (.inr (.inl (v163,v151.kind,v151.a,v151.b)))))
    (j5 (f194 false 6) fun v166=>
    j5 (f171 (some [v154,v156,v158,v166])) fun v168=>
    cond (decide (v168=0))
     (some (.inl (za .i64 (s0+1))))
     (some (.inr (.inl (v168,v151.kind,v151.a,v151.b))))))
   (cond (decide (v151.kind=([115,101,114,105,101,115]:List UInt8)))
    (j5 (f194 false 13) fun v172=>
    j5 (f195 v151.a 0 8) fun v174=>
    j5 (f195 v151.b 0 8) fun v176=>
    j5 (f194 false 6) fun v178=>
    j5 (f171 (some [v172,v174,v176,v178])) fun v180=>
    cond (decide (v180=0))
     (some (.inl (za .i64 (s0+1))))
     (some (.inr (.inr (.inl (v180,v151.kind,v151.a,v151.b))))))
    (cond (decide (v151.kind=([115,104,117,110,116]:List UInt8)))
     (j5 (f194 false 13) fun v184=>
     j5 (f195 v151.a 0 8) fun v186=>
     j5 (f195 v151.b 0 8) fun v188=>
     j5 (f194 false 6) fun v190=>
     j5 (f171 (some [v184,v186,v188,v190])) fun v192=>
     cond (decide (v192=0))
      (some (.inl (za .i64 (s0+1))))
      (some (.inr (.inr (.inr (.inl (v192,v151.kind,v151.a,v151.b)))))))
     (cond (decide (v151.kind=([116,114,97,112]:List UInt8)))
      (j5 (f194 false 13) fun v196=>
      j5 (f195 v151.a 0 8) fun v198=>
      j5 (f195 v151.b 0 8) fun v200=>
      cond (decide (v151.a=0))
       (j5 (f194 (decide (v151.b=0)) 6) fun v203=>
       j5 (f171 (some [v196,v198,v200,v203])) fun v205=>
       cond (decide (v205=0))
        (some (.inl (za .i64 (s0+1))))
        (some (.inr (.inr (.inr (.inr (.inl (v205,v151.kind,v151.a,v151.b))))))))
       (j5 (f194 false 6) fun v208=>
       j5 (f171 (some [v196,v198,v200,v208])) fun v210=>
       cond (decide (v210=0))
        (some (.inl (za .i64 (s0+1))))
        (some (.inr (.inr (.inr (.inr (.inl (v210,v151.kind,v151.a,v151.b)))))))))
      (j5 (f194 true 13) fun v213=>
      j5 (f195 v151.a 0 8) fun v215=>
      j5 (f195 v151.b 0 8) fun v217=>
      j5 (f194 false 6) fun v219=>
      j5 (f171 (some [v213,v215,v217,v219])) fun v221=>
      cond (decide (v221=0))
       (some (.inl (za .i64 (s0+1))))
       (some (.inr (.inr (.inr (.inr (.inr (.inl (v221,v151.kind,v151.a,v151.b)))))))))))))
  (some (.inr (.inr (.inr (.inr (.inr (.inr s0)))))))
def ky (a0:TE)(s0:Int):qc:=⟨[(11,sl 3 vel a0,false),(12,Lv a0,false),(13,Iv s0,false)],[]⟩
def qb5 (a0:TE):(Int×(List UInt8)×Int×Int)⊕(Int×(List UInt8)×Int×Int)⊕(Int×(List UInt8)×Int×Int)⊕(Int×(List UInt8)×Int×Int)⊕(Int×(List UInt8)×Int×Int)⊕Int→qi×qc
 | .inl d=>(.ret,⟨[(2,Iv d.1,false)],[.cells [(.str d.2.1,false),(Iv d.2.2.1,false),(Iv d.2.2.2,false)],.map qap,.cells [(.str ([116,114,97,112]:List UInt8),false),(.bool true,false),(.fn (.func 218) [] [],false)]]⟩)
 | .inr (.inl d)=>(.ret,⟨[(2,Iv d.1,false)],[.cells [(.str d.2.1,false),(Iv d.2.2.1,false),(Iv d.2.2.2,false)],.map qap,.cells [(.str ([115,104,117,110,116]:List UInt8),false),(.bool false,false),(.fn (.func 219) [] [],false)]]⟩)
 | .inr (.inr (.inl d))=>(.ret,⟨[(2,Iv d.1,false)],[.cells [(.str d.2.1,false),(Iv d.2.2.1,false),(Iv d.2.2.2,false)],.map qap,.cells [(.str ([115,101,114,105,101,115]:List UInt8),false),(.bool false,false),(.fn (.func 220) [] [],false)]]⟩)
 | .inr (.inr (.inr (.inl d)))=>(.ret,⟨[(2,Iv d.1,false)],[.cells [(.str d.2.1,false),(Iv d.2.2.1,false),(Iv d.2.2.2,false)],.map qap,.cells [(.str ([98,108,111,99,107]:List UInt8),false),(.bool true,false),(.fn (.func 221) [] [],false)]]⟩)
 | .inr (.inr (.inr (.inr (.inl d))))=>(.ret,⟨[(2,Iv d.1,false)],[.cells [(.str d.2.1,false),(Iv d.2.2.1,false),(Iv d.2.2.2,false)],.map qap,.cells [(.str [],false),(.bool false,false),(.nilfn,false)]]⟩)
 | .inr (.inr (.inr (.inr (.inr d))))=>(.exit 0,⟨[(11,sl 3 vel a0,false),(12,Lv a0,false),(13,Iv d,false),(14,.bool false,false)],[]⟩)
theorem jkk (a0:TE)(s0:Int)(r)(h:qle a0 s0=some r):yh pr qcc (ky a0) (qb5 a0) s0 r:=by
 unfold qle at h
 rcases j0 h with⟨h150,h⟩|⟨h150,h⟩
 ·obtain⟨v151,h152,h⟩:=jz h
  rcases j0 h with⟨h153,h⟩|⟨h153,h⟩
  ·obtain⟨v154,h155,h⟩:=jz h
   obtain⟨v156,h157,h⟩:=jz h
   have wh157:=ql4 h157
   obtain⟨v158,h159,h⟩:=jz h
   have wh159:=ql4 h159
   rcases j0 h with⟨h160,h⟩|⟨h160,h⟩
   ·obtain⟨v161,h162,h⟩:=jz h
    have wh162:=qb7 h162
    obtain⟨v163,h164,h⟩:=jz h
    have wh164:j7 pr (X pr) 171 [.list false 1 [Iv v154,Iv v156,Iv v158,Iv v161]]=some (Iv v163,false):=qsr h164
    rcases j0 h with⟨h165,h⟩|⟨h165,h⟩
    ·cases h
     exact ko (by simp only[go_sem,seval,qcc,ky,h150,zf h152,h153,qwz h153,qb7 h155,wh157,wh159,h160,wh162,wh164,h165];exact⟨_,rfl⟩) rfl (by first|simp only[go_sem,seval,ky]|rfl) (by first|simp only[go_sem,seval,ky]|rfl)
    cases h
    exact j8 (by simp only[go_sem,seval,qcc,ky,h150,zf h152,h153,qwz h153,qb7 h155,wh157,wh159,h160,wh162,wh164,h165,qb5]<;>rfl)
   obtain⟨v166,h167,h⟩:=jz h
   obtain⟨v168,h169,h⟩:=jz h
   have wh169:j7 pr (X pr) 171 [.list false 1 [Iv v154,Iv v156,Iv v158,Iv v166]]=some (Iv v168,false):=qsr h169
   rcases j0 h with⟨h170,h⟩|⟨h170,h⟩
   ·cases h
    exact ko (by simp only[go_sem,seval,qcc,ky,h150,zf h152,h153,qwz h153,qb7 h155,wh157,wh159,h160,qb7 h167,wh169,h170];exact⟨_,rfl⟩) rfl (by first|simp only[go_sem,seval,ky]|rfl) (by first|simp only[go_sem,seval,ky]|rfl)
   cases h
   exact j8 (by simp only[go_sem,seval,qcc,ky,h150,zf h152,h153,qwz h153,qb7 h155,wh157,wh159,h160,qb7 h167,wh169,h170,qb5]<;>rfl)
  rcases j0 h with⟨h171,h⟩|⟨h171,h⟩
  ·obtain⟨v172,h173,h⟩:=jz h
   obtain⟨v174,h175,h⟩:=jz h
   have wh175:=ql4 h175
   obtain⟨v176,h177,h⟩:=jz h
   have wh177:=ql4 h177
   obtain⟨v178,h179,h⟩:=jz h
   obtain⟨v180,h181,h⟩:=jz h
   have wh181:j7 pr (X pr) 171 [.list false 1 [Iv v172,Iv v174,Iv v176,Iv v178]]=some (Iv v180,false):=qsr h181
   rcases j0 h with⟨h182,h⟩|⟨h182,h⟩
   ·cases h
    exact ko (by simp only[go_sem,seval,qcc,ky,h150,zf h152,h153,h171,q8x h153 h171,qb7 h173,wh175,wh177,qb7 h179,wh181,h182];exact⟨_,rfl⟩) rfl (by first|simp only[go_sem,seval,ky]|rfl) (by first|simp only[go_sem,seval,ky]|rfl)
   cases h
   exact j8 (by simp only[go_sem,seval,qcc,ky,h150,zf h152,h153,h171,q8x h153 h171,qb7 h173,wh175,wh177,qb7 h179,wh181,h182,qb5]<;>rfl)
  rcases j0 h with⟨h183,h⟩|⟨h183,h⟩
  ·obtain⟨v184,h185,h⟩:=jz h
   obtain⟨v186,h187,h⟩:=jz h
   have wh187:=ql4 h187
   obtain⟨v188,h189,h⟩:=jz h
   have wh189:=ql4 h189
   obtain⟨v190,h191,h⟩:=jz h
   obtain⟨v192,h193,h⟩:=jz h
   have wh193:j7 pr (X pr) 171 [.list false 1 [Iv v184,Iv v186,Iv v188,Iv v190]]=some (Iv v192,false):=qsr h193
   rcases j0 h with⟨h194,h⟩|⟨h194,h⟩
   ·cases h
    exact ko (by simp only[go_sem,seval,qcc,ky,h150,zf h152,h153,h171,h183,q86 h153 h171 h183,qb7 h185,wh187,wh189,qb7 h191,wh193,h194];exact⟨_,rfl⟩) rfl (by first|simp only[go_sem,seval,ky]|rfl) (by first|simp only[go_sem,seval,ky]|rfl)
   cases h
   exact j8 (by simp only[go_sem,seval,qcc,ky,h150,zf h152,h153,h171,h183,q86 h153 h171 h183,qb7 h185,wh187,wh189,qb7 h191,wh193,h194,qb5]<;>rfl)
  rcases j0 h with⟨h195,h⟩|⟨h195,h⟩
  ·obtain⟨v196,h197,h⟩:=jz h
   obtain⟨v198,h199,h⟩:=jz h
   have wh199:=ql4 h199
   obtain⟨v200,h201,h⟩:=jz h
   have wh201:=ql4 h201
   rcases j0 h with⟨h202,h⟩|⟨h202,h⟩
   ·obtain⟨v203,h204,h⟩:=jz h
    have wh204:=qb7 h204
    obtain⟨v205,h206,h⟩:=jz h
    have wh206:j7 pr (X pr) 171 [.list false 1 [Iv v196,Iv v198,Iv v200,Iv v203]]=some (Iv v205,false):=qsr h206
    rcases j0 h with⟨h207,h⟩|⟨h207,h⟩
    ·cases h
     exact ko (by simp only[go_sem,seval,qcc,ky,h150,zf h152,h153,h171,h183,h195,qyp h153 h171 h183 h195,qb7 h197,wh199,wh201,h202,wh204,wh206,h207];exact⟨_,rfl⟩) rfl (by first|simp only[go_sem,seval,ky]|rfl) (by first|simp only[go_sem,seval,ky]|rfl)
    cases h
    exact j8 (by simp only[go_sem,seval,qcc,ky,h150,zf h152,h153,h171,h183,h195,qyp h153 h171 h183 h195,qb7 h197,wh199,wh201,h202,wh204,wh206,h207,qb5]<;>rfl)
   obtain⟨v208,h209,h⟩:=jz h
   obtain⟨v210,h211,h⟩:=jz h
   have wh211:j7 pr (X pr) 171 [.list false 1 [Iv v196,Iv v198,Iv v200,Iv v208]]=some (Iv v210,false):=qsr h211
   rcases j0 h with⟨h212,h⟩|⟨h212,h⟩
   ·cases h
    exact ko (by simp only[go_sem,seval,qcc,ky,h150,zf h152,h153,h171,h183,h195,qyp h153 h171 h183 h195,qb7 h197,wh199,wh201,h202,qb7 h209,wh211,h212];exact⟨_,rfl⟩) rfl (by first|simp only[go_sem,seval,ky]|rfl) (by first|simp only[go_sem,seval,ky]|rfl)
   cases h
   exact j8 (by simp only[go_sem,seval,qcc,ky,h150,zf h152,h153,h171,h183,h195,qyp h153 h171 h183 h195,qb7 h197,wh199,wh201,h202,qb7 h209,wh211,h212,qb5]<;>rfl)
  obtain⟨v213,h214,h⟩:=jz h
  obtain⟨v215,h216,h⟩:=jz h
  have wh216:=ql4 h216
  obtain⟨v217,h218,h⟩:=jz h
  have wh218:=ql4 h218
  obtain⟨v219,h220,h⟩:=jz h
  obtain⟨v221,h222,h⟩:=jz h
  have wh222:j7 pr (X pr) 171 [.list false 1 [Iv v213,Iv v215,Iv v217,Iv v219]]=some (Iv v221,false):=qsr h222
  rcases j0 h with⟨h223,h⟩|⟨h223,h⟩
  ·cases h
   exact ko (by simp only[go_sem,seval,qcc,ky,h150,zf h152,h153,h171,h183,h195,jfx h153 h171 h183 h195,qb7 h214,wh216,wh218,qb7 h220,wh222,h223];exact⟨_,rfl⟩) rfl (by first|simp only[go_sem,seval,ky]|rfl) (by first|simp only[go_sem,seval,ky]|rfl)
  cases h
  exact j8 (by simp only[go_sem,seval,qcc,ky,h150,zf h152,h153,h171,h183,h195,jfx h153 h171 h183 h195,qb7 h214,wh216,wh218,qb7 h220,wh222,h223,qb5]<;>rfl)
 cases h
 exact j8 (by simp only[go_sem,seval,qcc,ky,h150,qb5]<;>rfl)
theorem qot (a0:TE){s0:Int}{d}(h:itO (qle a0) s0=some d):X pr (.loop qcc) (ky a0 s0)=some (qb5 a0 d):=yo (jkk a0) (fun d=>by rcases d with d|d|d|d|d|d<;>(intro hh;cases hh)) h
def f158 (a0:TE):Option Int:=
 cond (decide (5<((a0.getD []).length:Int)))
  (some 5)
  (j5 (itO (qle a0) 0) fun d224=>match d224 with
   | .inl d226=>
    some d226.1
   | .inr (.inl d227)=>
    some d227.1
   | .inr (.inr (.inl d228))=>
    some d228.1
   | .inr (.inr (.inr (.inl d229)))=>
    some d229.1
   | .inr (.inr (.inr (.inr (.inl d230))))=>
    some d230.1
   | .inr (.inr (.inr (.inr (.inr d231))))=>
    some 0)
theorem q88 {a0:TE}{r}(h:f158 a0=some r):j7 pr (X pr) 158 [sl 3 vel a0]=some (Iv r,false):=by
 unfold f158 at h
 rcases j0 h with⟨h1,h⟩|⟨h1,h⟩
 ·obtain rfl:=oi h
  refine zg c158 ?_
  simp only[go_sem,seval,c158,h1]
  exact⟨_,rfl⟩
 obtain⟨d224,h225,h⟩:=jz h
 rcases d224 with d226|d227|d228|d229|d230|d231
 ·have wh225:=qot a0 h225
  dsimp only[ky,qb5]at wh225
  obtain rfl:=oi h
  refine zg c158 ?_
  simp only[go_sem,seval,c158,h1,wh225]
  exact⟨_,rfl⟩
 ·have wh225:=qot a0 h225
  dsimp only[ky,qb5]at wh225
  obtain rfl:=oi h
  refine zg c158 ?_
  simp only[go_sem,seval,c158,h1,wh225]
  exact⟨_,rfl⟩
 ·have wh225:=qot a0 h225
  dsimp only[ky,qb5]at wh225
  obtain rfl:=oi h
  refine zg c158 ?_
  simp only[go_sem,seval,c158,h1,wh225]
  exact⟨_,rfl⟩
 ·have wh225:=qot a0 h225
  dsimp only[ky,qb5]at wh225
  obtain rfl:=oi h
  refine zg c158 ?_
  simp only[go_sem,seval,c158,h1,wh225]
  exact⟨_,rfl⟩
 ·have wh225:=qot a0 h225
  dsimp only[ky,qb5]at wh225
  obtain rfl:=oi h
  refine zg c158 ?_
  simp only[go_sem,seval,c158,h1,wh225]
  exact⟨_,rfl⟩
 have wh225:=qot a0 h225
 dsimp only[ky,qb5]at wh225
 obtain rfl:=oi h
 refine zg c158 ?_
 simp only[go_sem,seval,c158,h1,wh225]
 exact⟨_,rfl⟩
def f108 (a0:qk):Option Int:=
 j5 (f158 (some [a0])) fun v1=>
 some v1
theorem j3y {a0:qk}{r}(h:f108 a0=some r):j7 pr (X pr) 108 [.agg [.str a0.kind,Iv a0.a,Iv a0.b]]=some (Iv r,false):=by
 unfold f108 at h
 obtain⟨v1,h2,h⟩:=jz h
 have wh2:j7 pr (X pr) 158 [.list false 3 [.agg [.str a0.kind,Iv a0.a,Iv a0.b]]]=some (Iv v1,false):=q88 h2
 obtain rfl:=oi h
 refine zg c108 ?_
 simp only[go_sem,seval,c108,wh2]
 exact⟨_,rfl⟩
def q1m (a0:qk):Option Int:=
 j5 (f158 (some [a0])) fun v1=>
 some v1
theorem js2 (hp:zd){a0:qk}{r}(h:q1m a0=some r):yk pr (X pr) 108 [.agg [.str a0.kind,Iv a0.a,Iv a0.b]] hp=some (Iv r,false,hp):=by
 unfold q1m at h
 obtain⟨v1,h2,h⟩:=jz h
 have wh2:j7 pr (X pr) 158 [.list false 3 [.agg [.str a0.kind,Iv a0.a,Iv a0.b]]]=some (Iv v1,false):=q88 h2
 have hr:v1=r:=Option.some.inj h
 subst hr
 rw[qak (show pr.fns 108=some c108 from rfl) (by simp)]
 simp only[go_sem,seval,c108,wh2]<;>rfl
def f155 (a0:Int)(a1:Int):Option qh:=
 some (⟨za .i64 (a0-a1),za .i64 (a0+a1)⟩)
theorem jj3 {a0:Int}{a1:Int}{r}(h:f155 a0 a1=some r):j7 pr (X pr) 155 [Iv a0,Iv a1]=some (.agg [Iv r.num,Iv r.den],false):=by
 unfold f155 at h
 obtain rfl:=oi h
 refine zg c155 ?_
 simp only[go_sem,seval,c155]
 exact⟨_,rfl⟩
def qlk (a0:qh)(s0:TI×Int×Bool):Option ((TI×Int×Bool)⊕((TI×Bool×Int))):=
 cond (decide (s0.2.1≤a0.den))
  (cond s0.2.2
   (j5 (apO s0.1 [s0.2.1]) fun v13=>
   some (.inl (v13,za .i64 (s0.2.1+1),true)))
   (cond s0.1.isNone
    (j5 (apO s0.1 [s0.2.1]) fun v16=>
    some (.inl (v16,za .i64 (s0.2.1+1),true)))
    (none)))
  (some (.inr (s0.1,s0.2.2,s0.2.1)))
def qk6 (a0:qh)(s0:TI×Int×Bool):qc:=⟨[(2,.vptr (.agg [Iv a0.num,Iv a0.den]),false),(5,sl 1 zh s0.1,s0.2.2),(6,Iv s0.2.1,false)],[]⟩
def qu8 (a0:qh)(d:(TI×Bool×Int)):qi×qc:=(.exit 0,⟨[(2,.vptr (.agg [Iv a0.num,Iv a0.den]),false),(5,sl 1 zh d.1,d.2.1),(6,Iv d.2.2,false),(28,.bool false,false)],[]⟩)
theorem jka (a0:qh)(s0:TI×Int×Bool)(r)(h:qlk a0 s0=some r):yh pr qo4 (qk6 a0) (qu8 a0) s0 r:=by
 unfold qlk at h
 rcases j0 h with⟨h11,h⟩|⟨h11,h⟩
 ·rcases j0 h with⟨h12,h⟩|⟨h12,h⟩
  ·obtain⟨v13,h14,h⟩:=jz h
   cases h
   exact zp (by simp only[go_sem,seval,qo4,qk6,h11,h12,qdh h14]<;>rfl)
  rcases j0 h with⟨h15,h⟩|⟨h15,h⟩
  ·obtain⟨v16,h17,h⟩:=jz h
   cases h
   exact zp (by simp only[go_sem,seval,qo4,qk6,h11,h12,h15,qha h17 h15]<;>rfl)
  cases h
 cases h
 exact j8 (by simp only[go_sem,seval,qo4,qk6,h11,qu8]<;>rfl)
theorem jl3 (a0:qh){s0:TI×Int×Bool}{d}(h:itO (qlk a0) s0=some d):X pr (.loop qo4) (qk6 a0 s0)=some (qu8 a0 d):=yo (jka a0) (fun d hh=>by cases hh) h
def f156 (a0:qh)(a1:Bool):Option (TI×Bool):=
 cond (decide (a0.den=a0.num))
  (some (some [a0.num],true))
  (cond a1
   (some (some [a0.num,a0.den],true))
   (j5 (itO (qlk a0) (none,a0.num,false)) fun d18=>
   some (d18.1,d18.2.1)))
theorem jmt {a0:qh}{a1:Bool}{r}(h:f156 a0 a1=some r):j7 pr (X pr) 156 [.agg [Iv a0.num,Iv a0.den],.bool a1]=some (sl 1 zh r.1,r.2):=by
 unfold f156 at h
 rcases j0 h with⟨h1,h⟩|⟨h1,h⟩
 ·obtain rfl:=oi h
  refine qcb c156 ?_
  simp only[go_sem,seval,c156,h1]
  exact⟨_,rfl⟩
 rcases j0 h with⟨h2,h⟩|⟨h2,h⟩
 ·obtain rfl:=oi h
  refine qcb c156 ?_
  simp only[go_sem,seval,c156,h1,h2]
  exact⟨_,rfl⟩
 obtain⟨d18,h19,h⟩:=jz h
 have wh19:=jl3 a0 h19
 dsimp only[qk6,qu8,qc9]at wh19
 obtain rfl:=oi h
 refine qcb c156 ?_
 simp only[go_sem,seval,c156,h1,h2,wh19]
 exact⟨_,rfl⟩
def qp6 (a0:qb)(a1:Bool)(v3:TI×Bool)(s0:TE×Int×Bool)(v72:Int)(v76:TI×Bool)(s1:TE×Int×Bool):Option ((TE×Int×Bool)⊕((TE×Bool×Int))):=
 cond (decide (s1.2.1<((v76.1.getD []).length:Int)))
  (j5 (yd (v76.1.getD []) s1.2.1) fun v97=>
  cond s1.2.2
   (j5 (apO s1.1 [⟨a0.kd,v72,v97⟩]) fun v100=>
   some (.inl (v100,za .i64 (s1.2.1+1),true)))
   (cond s1.1.isNone
    (j5 (apO s1.1 [⟨a0.kd,v72,v97⟩]) fun v103=>
    some (.inl (v103,za .i64 (s1.2.1+1),true)))
    (none)))
  (some (.inr (s1.1,s1.2.2,s1.2.1)))
def qpc (a0:qb)(a1:Bool)(v3:TI×Bool)(s0:TE×Int×Bool)(v72:Int)(v76:TI×Bool)(s1:TE×Int×Bool):qc:=⟨[(1,.bool a1,false),(2,.vptr (.agg [.str a0.name,.str a0.kd,Iv a0.pa,Iv a0.pb,Iv a0.sa,Iv a0.sb,Iv a0.cost,Iv a0.stock]),false),(5,sl 3 vel s1.1,s1.2.2),(7,Iv v72,false),(17,sl 1 zh v3.1,v3.2),(18,Lv v3.1,false),(19,Iv s0.2.1,false),(30,sl 1 zh v76.1,v76.2),(31,Lv v76.1,false),(32,Iv s1.2.1,false)],[]⟩
def qwy (a0:qb)(a1:Bool)(v3:TI×Bool)(s0:TE×Int×Bool)(v72:Int)(v76:TI×Bool)(d:(TE×Bool×Int)):qi×qc:=(.exit 2,⟨[(1,.bool a1,false),(2,.vptr (.agg [.str a0.name,.str a0.kd,Iv a0.pa,Iv a0.pb,Iv a0.sa,Iv a0.sb,Iv a0.cost,Iv a0.stock]),false),(5,sl 3 vel d.1,d.2.1),(7,Iv v72,false),(17,sl 1 zh v3.1,v3.2),(18,Lv v3.1,false),(19,Iv s0.2.1,false),(30,sl 1 zh v76.1,v76.2),(31,Lv v76.1,false),(32,Iv d.2.2,false),(33,.bool false,false)],[]⟩)
theorem js8 (a0:qb)(a1:Bool)(v3:TI×Bool)(s0:TE×Int×Bool)(v72:Int)(v76:TI×Bool)(s1:TE×Int×Bool)(r)(h:qp6 a0 a1 v3 s0 v72 v76 s1=some r):yh pr quq (qpc a0 a1 v3 s0 v72 v76) (qwy a0 a1 v3 s0 v72 v76) s1 r:=by
 unfold qp6 at h
 rcases j0 h with⟨h96,h⟩|⟨h96,h⟩
 ·obtain⟨v97,h98,h⟩:=jz h
  rcases j0 h with⟨h99,h⟩|⟨h99,h⟩
  ·obtain⟨v100,h101,h⟩:=jz h
   cases h
   exact zp (by simp only[go_sem,seval,quq,qpc,h96,zf h98,h99,qch h101]<;>rfl)
  rcases j0 h with⟨h102,h⟩|⟨h102,h⟩
  ·obtain⟨v103,h104,h⟩:=jz h
   cases h
   exact zp (by simp only[go_sem,seval,quq,qpc,h96,zf h98,h99,h102,qjg h104 h102]<;>rfl)
  cases h
 cases h
 exact j8 (by simp only[go_sem,seval,quq,qpc,h96,qwy]<;>rfl)
theorem jsl (a0:qb)(a1:Bool)(v3:TI×Bool)(s0:TE×Int×Bool)(v72:Int)(v76:TI×Bool){s1:TE×Int×Bool}{d}(h:itO (qp6 a0 a1 v3 s0 v72 v76) s1=some d):X pr (.loop quq) (qpc a0 a1 v3 s0 v72 v76 s1)=some (qwy a0 a1 v3 s0 v72 v76 d):=yo (js8 a0 a1 v3 s0 v72 v76) (fun d hh=>by cases hh) h
def qp7 (a0:qb)(a1:Bool)(v3:TI×Bool)(s0:TE×Int×Bool):Option ((TE×Int×Bool)⊕((TE×Bool×Int))):=
 cond (decide (s0.2.1<((v3.1.getD []).length:Int)))
  (j5 (yd (v3.1.getD []) s0.2.1) fun v72=>
  j5 (f155 a0.pb a0.sb) fun v74=>
  j5 (f156 v74 a1) fun v76=>
  j5 (itO (qp6 a0 a1 v3 s0 v72 v76) (s0.1,0,s0.2.2)) fun d105=>
  some (.inl (d105.1,za .i64 (s0.2.1+1),d105.2.1)))
  (some (.inr (s0.1,s0.2.2,s0.2.1)))
def qtb (a0:qb)(a1:Bool)(v3:TI×Bool)(s0:TE×Int×Bool):qc:=⟨[(1,.bool a1,false),(2,.vptr (.agg [.str a0.name,.str a0.kd,Iv a0.pa,Iv a0.pb,Iv a0.sa,Iv a0.sb,Iv a0.cost,Iv a0.stock]),false),(5,sl 3 vel s0.1,s0.2.2),(17,sl 1 zh v3.1,v3.2),(18,Lv v3.1,false),(19,Iv s0.2.1,false)],[]⟩
def qwt (a0:qb)(a1:Bool)(v3:TI×Bool)(d:(TE×Bool×Int)):qi×qc:=(.exit 0,⟨[(1,.bool a1,false),(2,.vptr (.agg [.str a0.name,.str a0.kd,Iv a0.pa,Iv a0.pb,Iv a0.sa,Iv a0.sb,Iv a0.cost,Iv a0.stock]),false),(5,sl 3 vel d.1,d.2.1),(17,sl 1 zh v3.1,v3.2),(18,Lv v3.1,false),(19,Iv d.2.2,false),(20,.bool false,false)],[]⟩)
theorem jrs (a0:qb)(a1:Bool)(v3:TI×Bool)(s0:TE×Int×Bool)(r)(h:qp7 a0 a1 v3 s0=some r):yh pr qx4 (qtb a0 a1 v3) (qwt a0 a1 v3) s0 r:=by
 unfold qp7 at h
 rcases j0 h with⟨h71,h⟩|⟨h71,h⟩
 ·obtain⟨v72,h73,h⟩:=jz h
  obtain⟨v74,h75,h⟩:=jz h
  have wh75:=jj3 h75
  obtain⟨v76,h77,h⟩:=jz h
  have wh77:=jmt h77
  obtain⟨d105,h106,h⟩:=jz h
  have wh106:=jsl a0 a1 v3 s0 v72 v76 h106
  dsimp only[qpc,qwy]at wh106
  cases h
  exact zp (by simp only[go_sem,seval,qx4,qtb,h71,zf h73,wh75,wh77,wh106]<;>rfl)
 cases h
 exact j8 (by simp only[go_sem,seval,qx4,qtb,h71,qwt]<;>rfl)
theorem jrk (a0:qb)(a1:Bool)(v3:TI×Bool){s0:TE×Int×Bool}{d}(h:itO (qp7 a0 a1 v3) s0=some d):X pr (.loop qx4) (qtb a0 a1 v3 s0)=some (qwt a0 a1 v3 d):=yo (jrs a0 a1 v3) (fun d hh=>by cases hh) h
def f99 (a0:qb)(a1:Bool):Option (TE×Bool):=
 j5 (f155 a0.pa a0.sa) fun v1=>
 j5 (f156 v1 a1) fun v3=>
 j5 (itO (qp7 a0 a1 v3) (none,0,false)) fun d107=>
 some (d107.1,d107.2.1)
theorem W99 {a0:qb}{a1:Bool}{r}(h:f99 a0 a1=some r):j7 pr (X pr) 99 [.agg [.str a0.name,.str a0.kd,Iv a0.pa,Iv a0.pb,Iv a0.sa,Iv a0.sb,Iv a0.cost,Iv a0.stock],.bool a1]=some (sl 3 vel r.1,r.2):=by
 unfold f99 at h
 obtain⟨v1,h2,h⟩:=jz h
 have wh2:=jj3 h2
 obtain⟨v3,h4,h⟩:=jz h
 have wh4:=jmt h4
 obtain⟨d107,h108,h⟩:=jz h
 have wh108:=jrk a0 a1 v3 h108
 dsimp only[qtb,qwt,qc9]at wh108
 obtain rfl:=oi h
 refine qcb c99 ?_
 simp only[go_sem,seval,c99,wh2,wh4,wh108]
 exact⟨_,rfl⟩
def qmm (a0:TE)(s0:TI×Int×Bool):Option ((TI×Int×Bool)⊕((TI×Bool×Int))):=
 cond (decide (s0.2.1<((a0.getD []).length:Int)))
  (j5 (yd (a0.getD []) s0.2.1) fun v18=>
  j5 (q1m v18) fun v20=>
  cond s0.2.2
   (j5 (apO s0.1 [v20]) fun v23=>
   some (.inl (v23,za .i64 (s0.2.1+1),true)))
   (cond s0.1.isNone
    (j5 (apO s0.1 [v20]) fun v26=>
    some (.inl (v26,za .i64 (s0.2.1+1),true)))
    (none)))
  (some (.inr (s0.1,s0.2.2,s0.2.1)))
def qej (a0:TE)(s0:TI×Int×Bool):qc:=⟨[(1,.fn (.func 108) [] [],false),(5,sl 1 zh s0.1,s0.2.2),(8,sl 3 vel a0,false),(9,Lv a0,false),(10,Iv s0.2.1,false)],[]⟩
def qt0 (a0:TE)(d:(TI×Bool×Int)):qi×qc:=(.exit 0,⟨[(1,.fn (.func 108) [] [],false),(5,sl 1 zh d.1,d.2.1),(8,sl 3 vel a0,false),(9,Lv a0,false),(10,Iv d.2.2,false),(11,.bool false,false)],[]⟩)
theorem jms (a0:TE)(s0:TI×Int×Bool)(r)(h:qmm a0 s0=some r):yh pr qon (qej a0) (qt0 a0) s0 r:=by
 unfold qmm at h
 rcases j0 h with⟨h17,h⟩|⟨h17,h⟩
 ·obtain⟨v18,h19,h⟩:=jz h
  obtain⟨v20,h21,h⟩:=jz h
  have wh21:yk pr (X pr) 108 [.agg [.str v18.kind,Iv v18.a,Iv v18.b]] [.cells [(.str v18.kind,false),(Iv v18.a,false),(Iv v18.b,false)]]=some (Iv v20,false,[.cells [(.str v18.kind,false),(Iv v18.a,false),(Iv v18.b,false)]]):=js2 [.cells [(.str v18.kind,false),(Iv v18.a,false),(Iv v18.b,false)]] h21
  rcases j0 h with⟨h22,h⟩|⟨h22,h⟩
  ·obtain⟨v23,h24,h⟩:=jz h
   cases h
   exact ko (by simp only[go_sem,seval,qon,qej,h17,zf h19,wh21,h22,qdh h24];exact⟨_,rfl⟩) rfl (by first|simp only[go_sem,seval,qej]|rfl) (by first|simp only[go_sem,seval,qej]|rfl)
  rcases j0 h with⟨h25,h⟩|⟨h25,h⟩
  ·obtain⟨v26,h27,h⟩:=jz h
   cases h
   exact ko (by simp only[go_sem,seval,qon,qej,h17,zf h19,wh21,h22,h25,qha h27 h25];exact⟨_,rfl⟩) rfl (by first|simp only[go_sem,seval,qej]|rfl) (by first|simp only[go_sem,seval,qej]|rfl)
  cases h
 cases h
 exact j8 (by simp only[go_sem,seval,qon,qej,h17,qt0]<;>rfl)
theorem jlt (a0:TE){s0:TI×Int×Bool}{d}(h:itO (qmm a0) s0=some d):X pr (.loop qon) (qej a0 s0)=some (qt0 a0 d):=yo (jms a0) (fun d hh=>by cases hh) h
def f110 (a0:TE):Option (TI×Bool):=
 j5 (itO (qmm a0) (none,0,false)) fun d28=>
 some (d28.1,d28.2.1)
theorem jzw {a0:TE}{r}(h:f110 a0=some r):j7 pr (X pr) 110 [sl 3 vel a0,.fn (.func 108) [] []]=some (sl 1 zh r.1,r.2):=by
 unfold f110 at h
 obtain⟨d28,h29,h⟩:=jz h
 have wh29:=jlt a0 h29
 dsimp only[qej,qt0,qc9]at wh29
 obtain rfl:=oi h
 refine qcb c110 ?_
 simp only[go_sem,seval,c110,wh29]
 exact⟨_,rfl⟩
def f22 (a0:qb):Option Int:=
 j5 (f107 a0.name) fun v1=>
 j5 (f106 (!v1) 8) fun v3=>
 j5 (f108 (⟨a0.kd,a0.pa,a0.pb⟩)) fun v5=>
 j5 (f109 a0.sa 0 1) fun v7=>
 j5 (f109 a0.sb 0 1) fun v9=>
 j5 (f109 a0.cost 1 1000000) fun v11=>
 j5 (f109 a0.stock 0 100) fun v13=>
 j5 (f105 (some [v3,v5,v7,v9,v11,v13])) fun v15=>
 cond (decide (v15=0))
  (j5 (f99 a0 false) fun v18=>
  j5 (f110 v18.1) fun v20=>
  j5 (f105 v20.1) fun v22=>
  j5 (f106 (!decide (v22=0)) 1) fun v24=>
  some v24)
  (some v15)
theorem W22 {a0:qb}{r}(h:f22 a0=some r):j7 pr (X pr) 22 [.agg [.str a0.name,.str a0.kd,Iv a0.pa,Iv a0.pb,Iv a0.sa,Iv a0.sb,Iv a0.cost,Iv a0.stock]]=some (Iv r,false):=by
 unfold f22 at h
 obtain⟨v1,h2,h⟩:=jz h
 have wh2:=j2q h2
 obtain⟨v3,h4,h⟩:=jz h
 have wh4:=qfp h4
 obtain⟨v5,h6,h⟩:=jz h
 have wh6:=j3y h6
 obtain⟨v7,h8,h⟩:=jz h
 have wh8:=qsg h8
 obtain⟨v9,h10,h⟩:=jz h
 have wh10:=qsg h10
 obtain⟨v11,h12,h⟩:=jz h
 have wh12:=qsg h12
 obtain⟨v13,h14,h⟩:=jz h
 have wh14:=qsg h14
 obtain⟨v15,h16,h⟩:=jz h
 have wh16:j7 pr (X pr) 105 [.list false 1 [Iv v3,Iv v5,Iv v7,Iv v9,Iv v11,Iv v13]]=some (Iv v15,false):=qqp h16
 rcases j0 h with⟨h17,h⟩|⟨h17,h⟩
 ·obtain⟨v18,h19,h⟩:=jz h
  have wh19:=W99 h19
  obtain⟨v20,h21,h⟩:=jz h
  have wh21:j7 pr (X pr) 110 [sl 3 vel v18.1,.fn (.func 108) [] []]=some (sl 1 zh v20.1,v20.2):=jzw h21
  obtain⟨v22,h23,h⟩:=jz h
  have wh23:=qqp h23
  obtain⟨v24,h25,h⟩:=jz h
  have wh25:=qfp h25
  obtain rfl:=oi h
  refine zg c22 ?_
  simp only[go_sem,seval,c22,wh2,wh4,wh6,wh8,wh10,wh12,wh14,wh16,h17,wh19,wh21,wh23,wh25]
  exact⟨_,rfl⟩
 obtain rfl:=oi h
 refine zg c22 ?_
 simp only[go_sem,seval,c22,wh2,wh4,wh6,wh8,wh10,wh12,wh14,wh16,h17]
 exact⟨_,rfl⟩
def qnd (a0:TP)(s0:Int×(List (List UInt8))):Option ((Int×(List (List UInt8)))⊕((Int×(List (List UInt8))×(List UInt8)×(List UInt8)×Int×Int×Int×Int×Int×Int)⊕(Int×(List (List UInt8))))):=
 cond (decide (s0.1<((a0.getD []).length:Int)))
  (j5 (yd (a0.getD []) s0.1) fun v27=>
  j5 (f22 v27) fun v29=>
  j5 (f106 (qno s0.2 v27.name) 9) fun v31=>
  j5 (f105 (some [v29,v31])) fun v33=>
  cond (decide (v33=0))
   (j5 (qv1 s0.2 v27.name) fun v36=>
   some (.inl (za .i64 (s0.1+1),v36)))
   (some (.inr (.inl (v33,s0.2,v27.name,v27.kd,v27.pa,v27.pb,v27.sa,v27.sb,v27.cost,v27.stock)))))
  (some (.inr (.inr (s0.1,s0.2))))
def qg0 (a0:TP)(s0:Int×(List (List UInt8))):qc:=⟨[(3,.map 0,false),(11,sl 8 zi a0,false),(12,Lv a0,false),(13,Iv s0.1,false)],[.map (qbz s0.2)]⟩
def qow (a0:TP):(Int×(List (List UInt8))×(List UInt8)×(List UInt8)×Int×Int×Int×Int×Int×Int)⊕(Int×(List (List UInt8)))→qi×qc
 | .inl d=>(.ret,⟨[(2,Iv d.1,false)],[.map (qbz d.2.1),.cells [(.str d.2.2.1,false),(.str d.2.2.2.1,false),(Iv d.2.2.2.2.1,false),(Iv d.2.2.2.2.2.1,false),(Iv d.2.2.2.2.2.2.1,false),(Iv d.2.2.2.2.2.2.2.1,false),(Iv d.2.2.2.2.2.2.2.2.1,false),(Iv d.2.2.2.2.2.2.2.2.2,false)]]⟩)
 | .inr d=>(.exit 0,⟨[(3,.map 0,false),(11,sl 8 zi a0,false),(12,Lv a0,false),(13,Iv d.1,false),(14,.bool false,false)],[.map (qbz d.2)]⟩)
theorem jrf (a0:TP)(s0:Int×(List (List UInt8)))(r)(h:qnd a0 s0=some r):yh pr qu4 (qg0 a0) (qow a0) s0 r:=by
 unfold qnd at h
 rcases j0 h with⟨h26,h⟩|⟨h26,h⟩
 ·obtain⟨v27,h28,h⟩:=jz h
  obtain⟨v29,h30,h⟩:=jz h
  have wh30:=W22 h30
  obtain⟨v31,h32,h⟩:=jz h
  have wh32:=qfp h32
  obtain⟨v33,h34,h⟩:=jz h
  have wh34:j7 pr (X pr) 105 [.list false 1 [Iv v29,Iv v31]]=some (Iv v33,false):=qqp h34
  rcases j0 h with⟨h35,h⟩|⟨h35,h⟩
  ·obtain⟨v36,h37,h⟩:=jz h
   cases h
   exact ko (by simp only[go_sem,seval,qu4,qg0,h26,zf h28,wh30,jfe,wh32,wh34,h35,jlm h37];exact⟨_,rfl⟩) rfl (by first|simp only[go_sem,seval,qg0]|rfl) (by first|simp only[go_sem,seval,qg0]|rfl)
  cases h
  exact j8 (by simp only[go_sem,seval,qu4,qg0,h26,zf h28,wh30,jfe,wh32,wh34,h35,qow]<;>rfl)
 cases h
 exact j8 (by simp only[go_sem,seval,qu4,qg0,h26,qow]<;>rfl)
theorem jfk (a0:TP){s0:Int×(List (List UInt8))}{d}(h:itO (qnd a0) s0=some d):X pr (.loop qu4) (qg0 a0 s0)=some (qow a0 d):=yo (jrf a0) (fun d=>by rcases d with d|d<;>(intro hh;cases hh)) h
def f23 (a0:TP):Option Int:=
 cond (decide (6<((a0.getD []).length:Int)))
  (some 5)
  (j5 (itO (qnd a0) (0,[])) fun d38=>match d38 with
   | .inl d40=>
    some d40.1
   | .inr d41=>
    some 0)
theorem W23 {a0:TP}{r}(h:f23 a0=some r):j7 pr (X pr) 23 [sl 8 zi a0]=some (Iv r,false):=by
 unfold f23 at h
 rcases j0 h with⟨h1,h⟩|⟨h1,h⟩
 ·obtain rfl:=oi h
  refine zg c23 ?_
  simp only[go_sem,seval,c23,h1]
  exact⟨_,rfl⟩
 obtain⟨d38,h39,h⟩:=jz h
 rcases d38 with d40|d41
 ·have wh39:=jfk a0 h39
  dsimp only[qg0,qow]at wh39
  obtain rfl:=oi h
  refine zg c23 ?_
  simp only[go_sem,seval,c23,h1,ja7,wh39]
  exact⟨_,rfl⟩
 have wh39:=jfk a0 h39
 dsimp only[qg0,qow]at wh39
 obtain rfl:=oi h
 refine zg c23 ?_
 simp only[go_sem,seval,c23,h1,ja7,wh39]
 exact⟨_,rfl⟩
def f101 (a0:Bool)(a1:Int):Option Int:=
 cond a0
  (some a1)
  (some 0)
theorem jek {a0:Bool}{a1:Int}{r}(h:f101 a0 a1=some r):j7 pr (X pr) 101 [.bool a0,Iv a1]=some (Iv r,false):=by
 unfold f101 at h
 rcases j0 h with⟨h1,h⟩|⟨h1,h⟩
 ·obtain rfl:=oi h
  refine zg c101 ?_
  simp only[go_sem,seval,c101,h1]
  exact⟨_,rfl⟩
 obtain rfl:=oi h
 refine zg c101 ?_
 simp only[go_sem,seval,c101,h1]
 exact⟨_,rfl⟩
def qma (a0:TI)(s0:Int):Option (Int⊕(Int⊕Int)):=
 cond (decide (s0<((a0.getD []).length:Int)))
  (j5 (yd (a0.getD []) s0) fun v10=>
  cond (decide (v10=0))
   (some (.inl (za .i64 (s0+1))))
   (some (.inr (.inl v10))))
  (some (.inr (.inr s0)))
def qhq (a0:TI)(s0:Int):qc:=⟨[(0,sl 1 zh a0,false),(3,Iv s0,false)],[]⟩
def qkl (a0:TI):Int⊕Int→qi×qc
 | .inl d=>(.ret,⟨[(2,Iv d,false)],[]⟩)
 | .inr d=>(.exit 0,⟨[(0,sl 1 zh a0,false),(3,Iv d,false),(7,.bool false,false)],[]⟩)
theorem jm5 (a0:TI)(s0:Int)(r)(h:qma a0 s0=some r):yh pr qom (qhq a0) (qkl a0) s0 r:=by
 unfold qma at h
 rcases j0 h with⟨h9,h⟩|⟨h9,h⟩
 ·obtain⟨v10,h11,h⟩:=jz h
  rcases j0 h with⟨h12,h⟩|⟨h12,h⟩
  ·cases h
   exact zp (by simp only[go_sem,seval,qom,qhq,h9,zf h11,h12]<;>rfl)
  cases h
  exact j8 (by simp only[go_sem,seval,qom,qhq,h9,zf h11,h12,qkl]<;>rfl)
 cases h
 exact j8 (by simp only[go_sem,seval,qom,qhq,h9,qkl]<;>rfl)
theorem ja1 (a0:TI){s0:Int}{d}(h:itO (qma a0) s0=some d):X pr (.loop qom) (qhq a0 s0)=some (qkl a0 d):=yo (jm5 a0) (fun d=>by rcases d with d|d<;>(intro hh;cases hh)) h
def f100 (a0:TI):Option Int:=
 j5 (itO (qma a0) 0) fun d13=>match d13 with
  | .inl d15=>
   some d15
  | .inr d16=>
   some 0
theorem q2y {a0:TI}{r}(h:f100 a0=some r):j7 pr (X pr) 100 [sl 1 zh a0]=some (Iv r,false):=by
 unfold f100 at h
 obtain⟨d13,h14,h⟩:=jz h
 rcases d13 with d15|d16
 ·have wh14:=ja1 a0 h14
  dsimp only[qhq,qkl]at wh14
  obtain rfl:=oi h
  refine zg c100 ?_
  simp only[go_sem,seval,c100,wh14]
  exact⟨_,rfl⟩
 have wh14:=ja1 a0 h14
 dsimp only[qhq,qkl]at wh14
 obtain rfl:=oi h
 refine zg c100 ?_
 simp only[go_sem,seval,c100,wh14]
 exact⟨_,rfl⟩
def f40 (a0:Int)(a1:Int)(a2:Int):Option Int:=
 cond (decide (a0<a1))
  (some 3)
  (cond (decide (a2<a0))
   (some 3)
   (some 0))
theorem W40 {a0:Int}{a1:Int}{a2:Int}{r}(h:f40 a0 a1 a2=some r):j7 pr (X pr) 40 [Iv a0,Iv a1,Iv a2]=some (Iv r,false):=by
 unfold f40 at h
 rcases j0 h with⟨h1,h⟩|⟨h1,h⟩
 ·obtain rfl:=oi h
  refine zg c40 ?_
  simp only[go_sem,seval,c40,h1]
  exact⟨_,rfl⟩
 rcases j0 h with⟨h2,h⟩|⟨h2,h⟩
 ·obtain rfl:=oi h
  refine zg c40 ?_
  simp only[go_sem,seval,c40,h1,h2]
  exact⟨_,rfl⟩
 obtain rfl:=oi h
 refine zg c40 ?_
 simp only[go_sem,seval,c40,h1,h2]
 exact⟨_,rfl⟩
def qjk (a0:List UInt8)(s0:Int):Option (Int⊕(Unit⊕Int)):=
 cond (decide (s0<(a0.length:Int)))
  (j5 (yd a0 s0) fun v70=>
  cond (decide (65≤(v70.toNat:Int)))
   (cond (decide ((v70.toNat:Int)≤90))
    (cond (decide (48≤(v70.toNat:Int)))
     (cond (decide ((v70.toNat:Int)≤57))
      (some (.inl (za .i64 (s0+1))))
      (some (.inl (za .i64 (s0+1)))))
     (some (.inl (za .i64 (s0+1)))))
    (cond (decide (97≤(v70.toNat:Int)))
     (cond (decide (48≤(v70.toNat:Int)))
      (cond (decide ((v70.toNat:Int)≤57))
       (cond (decide ((v70.toNat:Int)≤122))
        (some (.inl (za .i64 (s0+1))))
        (cond (decide (s0=0))
         (some (.inr (.inl ())))
         (some (.inl (za .i64 (s0+1))))))
       (cond (decide ((v70.toNat:Int)≤122))
        (some (.inl (za .i64 (s0+1))))
        (cond (decide (s0=0))
         (some (.inr (.inl ())))
         (cond (decide ((v70.toNat:Int)=95))
          (some (.inl (za .i64 (s0+1))))
          (some (.inr (.inl ())))))))
      (cond (decide ((v70.toNat:Int)≤122))
       (some (.inl (za .i64 (s0+1))))
       (cond (decide (s0=0))
        (some (.inr (.inl ())))
        (cond (decide ((v70.toNat:Int)=95))
         (some (.inl (za .i64 (s0+1))))
         (some (.inr (.inl ())))))))
     (cond (decide (48≤(v70.toNat:Int)))
      (cond (decide ((v70.toNat:Int)≤57))
       (cond (decide (s0=0))
        (some (.inr (.inl ())))
        (some (.inl (za .i64 (s0+1)))))
       (cond (decide (s0=0))
        (some (.inr (.inl ())))
        (cond (decide ((v70.toNat:Int)=95))
         (some (.inl (za .i64 (s0+1))))
         (some (.inr (.inl ()))))))
      (cond (decide (s0=0))
       (some (.inr (.inl ())))
       (cond (decide ((v70.toNat:Int)=95))
        (some (.inl (za .i64 (s0+1))))
        (some (.inr (.inl ()))))))))
   (cond (decide (97≤(v70.toNat:Int)))
    (cond (decide (48≤(v70.toNat:Int)))
     (cond (decide ((v70.toNat:Int)≤57))
      (cond (decide ((v70.toNat:Int)≤122))
       (some (.inl (za .i64 (s0+1))))
       (cond (decide (s0=0))
        (some (.inr (.inl ())))
        (some (.inl (za .i64 (s0+1))))))
      (cond (decide ((v70.toNat:Int)≤122))
       (some (.inl (za .i64 (s0+1))))
       (cond (decide (s0=0))
        (some (.inr (.inl ())))
        (cond (decide ((v70.toNat:Int)=95))
         (some (.inl (za .i64 (s0+1))))
         (some (.inr (.inl ())))))))
     (cond (decide ((v70.toNat:Int)≤122))
      (some (.inl (za .i64 (s0+1))))
      (cond (decide (s0=0))
       (some (.inr (.inl ())))
       (cond (decide ((v70.toNat:Int)=95))
        (some (.inl (za .i64 (s0+1))))
        (some (.inr (.inl ())))))))
    (cond (decide (48≤(v70.toNat:Int)))
     (cond (decide ((v70.toNat:Int)≤57))
      (cond (decide (s0=0))
       (some (.inr (.inl ())))
       (some (.inl (za .i64 (s0+1)))))
      (cond (decide (s0=0))
       (some (.inr (.inl ())))
       (cond (decide ((v70.toNat:Int)=95))
        (some (.inl (za .i64 (s0+1))))
        (some (.inr (.inl ()))))))
     (cond (decide (s0=0))
      (some (.inr (.inl ())))
      (cond (decide ((v70.toNat:Int)=95))
       (some (.inl (za .i64 (s0+1))))
       (some (.inr (.inl ()))))))))
  (some (.inr (.inr s0)))
def y9 (a0:List UInt8)(s0:Int):qc:=⟨[(0,.str a0,false),(3,Iv s0,false)],[]⟩
def qav (a0:List UInt8):Unit⊕Int→qi×qc
 | .inl d=>(.ret,⟨[(2,.bool false,false)],[]⟩)
 | .inr d=>(.exit 0,⟨[(0,.str a0,false),(3,Iv d,false),(17,.bool false,false)],[]⟩)
theorem jlc (a0:List UInt8)(s0:Int)(r)(h:qjk a0 s0=some r):yh pr ku (y9 a0) (qav a0) s0 r:=by
 unfold qjk at h
 rcases j0 h with⟨h69,h⟩|⟨h69,h⟩
 ·obtain⟨v70,h71,h⟩:=jz h
  rcases j0 h with⟨h72,h⟩|⟨h72,h⟩
  ·rcases j0 h with⟨h73,h⟩|⟨h73,h⟩
   ·rcases j0 h with⟨h74,h⟩|⟨h74,h⟩
    ·rcases j0 h with⟨h75,h⟩|⟨h75,h⟩
     ·cases h
      exact zp (by simp only[go_sem,seval,ku,y9,h69,yw h71,h72,h73,h74,h75]<;>rfl)
     cases h
     exact zp (by simp only[go_sem,seval,ku,y9,h69,yw h71,h72,h73,h74,h75]<;>rfl)
    cases h
    exact zp (by simp only[go_sem,seval,ku,y9,h69,yw h71,h72,h73,h74]<;>rfl)
   rcases j0 h with⟨h76,h⟩|⟨h76,h⟩
   ·rcases j0 h with⟨h77,h⟩|⟨h77,h⟩
    ·rcases j0 h with⟨h78,h⟩|⟨h78,h⟩
     ·rcases j0 h with⟨h79,h⟩|⟨h79,h⟩
      ·cases h
       exact zp (by simp only[go_sem,seval,ku,y9,h69,yw h71,h72,h73,h76,h77,h78,h79]<;>rfl)
      rcases j0 h with⟨h80,h⟩|⟨h80,h⟩
      ·cases h
       exact j8 (by simp only[go_sem,seval,ku,y9,h69,yw h71,h72,h73,h76,h77,h78,h79,h80,qav]<;>rfl)
      cases h
      exact zp (by simp only[go_sem,seval,ku,y9,h69,yw h71,h72,h73,h76,h77,h78,h79,h80]<;>rfl)
     rcases j0 h with⟨h81,h⟩|⟨h81,h⟩
     ·cases h
      exact zp (by simp only[go_sem,seval,ku,y9,h69,yw h71,h72,h73,h76,h77,h78,h81]<;>rfl)
     rcases j0 h with⟨h82,h⟩|⟨h82,h⟩
     ·cases h
      exact j8 (by simp only[go_sem,seval,ku,y9,h69,yw h71,h72,h73,h76,h77,h78,h81,h82,qav]<;>rfl)
     rcases j0 h with⟨h83,h⟩|⟨h83,h⟩
     ·cases h
      exact zp (by simp only[go_sem,seval,ku,y9,h69,yw h71,h72,h73,h76,h77,h78,h81,h82,h83]<;>rfl)
     cases h
     exact j8 (by simp only[go_sem,seval,ku,y9,h69,yw h71,h72,h73,h76,h77,h78,h81,h82,h83,qav]<;>rfl)
    rcases j0 h with⟨h84,h⟩|⟨h84,h⟩
    ·cases h
     exact zp (by simp only[go_sem,seval,ku,y9,h69,yw h71,h72,h73,h76,h77,h84]<;>rfl)
    rcases j0 h with⟨h85,h⟩|⟨h85,h⟩
    ·cases h
     exact j8 (by simp only[go_sem,seval,ku,y9,h69,yw h71,h72,h73,h76,h77,h84,h85,qav]<;>rfl)
    rcases j0 h with⟨h86,h⟩|⟨h86,h⟩
    ·cases h
     exact zp (by simp only[go_sem,seval,ku,y9,h69,yw h71,h72,h73,h76,h77,h84,h85,h86]<;>rfl)
    cases h
    exact j8 (by simp only[go_sem,seval,ku,y9,h69,yw h71,h72,h73,h76,h77,h84,h85,h86,qav]<;>rfl)
   rcases j0 h with⟨h87,h⟩|⟨h87,h⟩
   ·rcases j0 h with⟨h88,h⟩|⟨h88,h⟩
    ·rcases j0 h with⟨h89,h⟩|⟨h89,h⟩
     ·cases h
      exact j8 (by simp only[go_sem,seval,ku,y9,h69,yw h71,h72,h73,h76,h87,h88,h89,qav]<;>rfl)
     cases h
     exact zp (by simp only[go_sem,seval,ku,y9,h69,yw h71,h72,h73,h76,h87,h88,h89]<;>rfl)
    rcases j0 h with⟨h90,h⟩|⟨h90,h⟩
    ·cases h
     exact j8 (by simp only[go_sem,seval,ku,y9,h69,yw h71,h72,h73,h76,h87,h88,h90,qav]<;>rfl)
    rcases j0 h with⟨h91,h⟩|⟨h91,h⟩
    ·cases h
     exact zp (by simp only[go_sem,seval,ku,y9,h69,yw h71,h72,h73,h76,h87,h88,h90,h91]<;>rfl)
    cases h
    exact j8 (by simp only[go_sem,seval,ku,y9,h69,yw h71,h72,h73,h76,h87,h88,h90,h91,qav]<;>rfl)
   rcases j0 h with⟨h92,h⟩|⟨h92,h⟩
   ·cases h
    exact j8 (by simp only[go_sem,seval,ku,y9,h69,yw h71,h72,h73,h76,h87,h92,qav]<;>rfl)
   rcases j0 h with⟨h93,h⟩|⟨h93,h⟩
   ·cases h
    exact zp (by simp only[go_sem,seval,ku,y9,h69,yw h71,h72,h73,h76,h87,h92,h93]<;>rfl)
   cases h
   exact j8 (by simp only[go_sem,seval,ku,y9,h69,yw h71,h72,h73,h76,h87,h92,h93,qav]<;>rfl)
  rcases j0 h with⟨h94,h⟩|⟨h94,h⟩
  ·rcases j0 h with⟨h95,h⟩|⟨h95,h⟩
   ·rcases j0 h with⟨h96,h⟩|⟨h96,h⟩
    ·rcases j0 h with⟨h97,h⟩|⟨h97,h⟩
     ·cases h
      exact zp (by simp only[go_sem,seval,ku,y9,h69,yw h71,h72,h94,h95,h96,h97]<;>rfl)
     rcases j0 h with⟨h98,h⟩|⟨h98,h⟩
     ·cases h
      exact j8 (by simp only[go_sem,seval,ku,y9,h69,yw h71,h72,h94,h95,h96,h97,h98,qav]<;>rfl)
     cases h
     exact zp (by simp only[go_sem,seval,ku,y9,h69,yw h71,h72,h94,h95,h96,h97,h98]<;>rfl)
    rcases j0 h with⟨h99,h⟩|⟨h99,h⟩
    ·cases h
     exact zp (by simp only[go_sem,seval,ku,y9,h69,yw h71,h72,h94,h95,h96,h99]<;>rfl)
    rcases j0 h with⟨h100,h⟩|⟨h100,h⟩
    ·cases h
     exact j8 (by simp only[go_sem,seval,ku,y9,h69,yw h71,h72,h94,h95,h96,h99,h100,qav]<;>rfl)
    rcases j0 h with⟨h101,h⟩|⟨h101,h⟩
    ·cases h
     exact zp (by simp only[go_sem,seval,ku,y9,h69,yw h71,h72,h94,h95,h96,h99,h100,h101]<;>rfl)
    cases h
    exact j8 (by simp only[go_sem,seval,ku,y9,h69,yw h71,h72,h94,h95,h96,h99,h100,h101,qav]<;>rfl)
   rcases j0 h with⟨h102,h⟩|⟨h102,h⟩
   ·cases h
    exact zp (by simp only[go_sem,seval,ku,y9,h69,yw h71,h72,h94,h95,h102]<;>rfl)
   rcases j0 h with⟨h103,h⟩|⟨h103,h⟩
   ·cases h
    exact j8 (by simp only[go_sem,seval,ku,y9,h69,yw h71,h72,h94,h95,h102,h103,qav]<;>rfl)
   rcases j0 h with⟨h104,h⟩|⟨h104,h⟩
   ·cases h
    exact zp (by simp only[go_sem,seval,ku,y9,h69,yw h71,h72,h94,h95,h102,h103,h104]<;>rfl)
   cases h
   exact j8 (by simp only[go_sem,seval,ku,y9,h69,yw h71,h72,h94,h95,h102,h103,h104,qav]<;>rfl)
  rcases j0 h with⟨h105,h⟩|⟨h105,h⟩
  ·rcases j0 h with⟨h106,h⟩|⟨h106,h⟩
   ·rcases j0 h with⟨h107,h⟩|⟨h107,h⟩
    ·cases h
     exact j8 (by simp only[go_sem,seval,ku,y9,h69,yw h71,h72,h94,h105,h106,h107,qav]<;>rfl)
    cases h
    exact zp (by simp only[go_sem,seval,ku,y9,h69,yw h71,h72,h94,h105,h106,h107]<;>rfl)
   rcases j0 h with⟨h108,h⟩|⟨h108,h⟩
   ·cases h
    exact j8 (by simp only[go_sem,seval,ku,y9,h69,yw h71,h72,h94,h105,h106,h108,qav]<;>rfl)
   rcases j0 h with⟨h109,h⟩|⟨h109,h⟩
   ·cases h
    exact zp (by simp only[go_sem,seval,ku,y9,h69,yw h71,h72,h94,h105,h106,h108,h109]<;>rfl)
   cases h
   exact j8 (by simp only[go_sem,seval,ku,y9,h69,yw h71,h72,h94,h105,h106,h108,h109,qav]<;>rfl)
  rcases j0 h with⟨h110,h⟩|⟨h110,h⟩
  ·cases h
   exact j8 (by simp only[go_sem,seval,ku,y9,h69,yw h71,h72,h94,h105,h110,qav]<;>rfl)
  rcases j0 h with⟨h111,h⟩|⟨h111,h⟩
  ·cases h
   exact zp (by simp only[go_sem,seval,ku,y9,h69,yw h71,h72,h94,h105,h110,h111]<;>rfl)
  cases h
  exact j8 (by simp only[go_sem,seval,ku,y9,h69,yw h71,h72,h94,h105,h110,h111,qav]<;>rfl)
 cases h
 exact j8 (by simp only[go_sem,seval,ku,y9,h69,qav]<;>rfl)
theorem q9p (a0:List UInt8){s0:Int}{d}(h:itO (qjk a0) s0=some d):X pr (.loop ku) (y9 a0 s0)=some (qav a0 d):=yo (jlc a0) (fun d=>by rcases d with d|d<;>(intro hh;cases hh)) h
def f102 (a0:List UInt8):Option Bool:=
 cond (decide ((a0.length:Int)=0))
  (some false)
  (cond (decide (24<(a0.length:Int)))
   (some false)
   (j5 (itO (qjk a0) 0) fun d112=>match d112 with
    | .inl d114=>
     some false
    | .inr d115=>
     some true))
theorem j3h {a0:List UInt8}{r}(h:f102 a0=some r):j7 pr (X pr) 102 [.str a0]=some (.bool r,false):=by
 unfold f102 at h
 rcases j0 h with⟨h1,h⟩|⟨h1,h⟩
 ·obtain rfl:=oi h
  refine zg c102 ?_
  simp only[go_sem,seval,c102,h1]
  exact⟨_,rfl⟩
 rcases j0 h with⟨h2,h⟩|⟨h2,h⟩
 ·obtain rfl:=oi h
  refine zg c102 ?_
  simp only[go_sem,seval,c102,h1,h2]
  exact⟨_,rfl⟩
 obtain⟨d112,h113,h⟩:=jz h
 rcases d112 with d114|d115
 ·have wh113:=q9p a0 h113
  dsimp only[y9,qav]at wh113
  obtain rfl:=oi h
  refine zg c102 ?_
  simp only[go_sem,seval,c102,h1,h2,wh113]
  exact⟨_,rfl⟩
 have wh113:=q9p a0 h113
 dsimp only[y9,qav]at wh113
 obtain rfl:=oi h
 refine zg c102 ?_
 simp only[go_sem,seval,c102,h1,h2,wh113]
 exact⟨_,rfl⟩
def ql2 (a0:Option (List (List UInt8)))(a1:List UInt8)(s0:Int):Option (Int⊕(Unit⊕Int)):=
 cond (decide (s0<((a0.getD []).length:Int)))
  (j5 (yd (a0.getD []) s0) fun v10=>
  cond (decide (v10=a1))
   (some (.inr (.inl ())))
   (some (.inl (za .i64 (s0+1)))))
  (some (.inr (.inr s0)))
def qh9 (a0:Option (List (List UInt8)))(a1:List UInt8)(s0:Int):qc:=⟨[(0,sl 1 qd1 a0,false),(1,.str a1,false),(5,Iv s0,false)],[]⟩
def qkp (a0:Option (List (List UInt8)))(a1:List UInt8):Unit⊕Int→qi×qc
 | .inl d=>(.ret,⟨[(4,.bool true,false)],[]⟩)
 | .inr d=>(.exit 0,⟨[(0,sl 1 qd1 a0,false),(1,.str a1,false),(5,Iv d,false),(9,.bool false,false)],[]⟩)
theorem jmm (a0:Option (List (List UInt8)))(a1:List UInt8)(s0:Int)(r)(h:ql2 a0 a1 s0=some r):yh pr qn1 (qh9 a0 a1) (qkp a0 a1) s0 r:=by
 unfold ql2 at h
 rcases j0 h with⟨h9,h⟩|⟨h9,h⟩
 ·obtain⟨v10,h11,h⟩:=jz h
  rcases j0 h with⟨h12,h⟩|⟨h12,h⟩
  ·cases h
   exact j8 (by simp only[go_sem,seval,qn1,qh9,h9,zf h11,h12,qkp]<;>rfl)
  cases h
  exact zp (by simp only[go_sem,seval,qn1,qh9,h9,zf h11,h12]<;>rfl)
 cases h
 exact j8 (by simp only[go_sem,seval,qn1,qh9,h9,qkp]<;>rfl)
theorem jcd (a0:Option (List (List UInt8)))(a1:List UInt8){s0:Int}{d}(h:itO (ql2 a0 a1) s0=some d):X pr (.loop qn1) (qh9 a0 a1 s0)=some (qkp a0 a1 d):=yo (jmm a0 a1) (fun d=>by rcases d with d|d<;>(intro hh;cases hh)) h
def f191 (a0:Option (List (List UInt8)))(a1:List UInt8):Option Bool:=
 j5 (itO (ql2 a0 a1) 0) fun d13=>match d13 with
  | .inl d15=>
   some true
  | .inr d16=>
   some false
theorem j23 {a0:Option (List (List UInt8))}{a1:List UInt8}{r}(h:f191 a0 a1=some r):j7 pr (X pr) 191 [sl 1 qd1 a0,.str a1]=some (.bool r,false):=by
 unfold f191 at h
 obtain⟨d13,h14,h⟩:=jz h
 rcases d13 with d15|d16
 ·have wh14:=jcd a0 a1 h14
  dsimp only[qh9,qkp]at wh14
  obtain rfl:=oi h
  refine zg c191 ?_
  simp only[go_sem,seval,c191,wh14]
  exact⟨_,rfl⟩
 have wh14:=jcd a0 a1 h14
 dsimp only[qh9,qkp]at wh14
 obtain rfl:=oi h
 refine zg c191 ?_
 simp only[go_sem,seval,c191,wh14]
 exact⟨_,rfl⟩
def f192:Option (Option (List (List UInt8))):=
 some (some [([98,108,111,99,107]:List UInt8),([115,101,114,105,101,115]:List UInt8),([115,104,117,110,116]:List UInt8),([116,114,97,112]:List UInt8)])
theorem qy3 {r}(h:f192=some r):j7 pr (X pr) 192 []=some (sl 1 qd1 r,true):=by
 unfold f192 at h
 obtain rfl:=oi h
 refine qcb c192 ?_
 simp only[go_sem,seval,c192]
 exact⟨_,rfl⟩
def f55 (a0:List UInt8):Option Bool:=
 cond (decide (a0=([98,108,111,99,107]:List UInt8)))
  (some true)
  (some (decide (a0=([116,114,97,112]:List UInt8))))
theorem W55 {a0:List UInt8}{r}(h:f55 a0=some r):j7 pr (X pr) 55 [.str a0]=some (.bool r,false):=by
 unfold f55 at h
 rcases j0 h with⟨h1,h⟩|⟨h1,h⟩
 ·obtain rfl:=oi h
  refine zg c55 ?_
  simp only[go_sem,seval,c55,h1]
  exact⟨_,rfl⟩
 obtain rfl:=oi h
 refine zg c55 ?_
 simp only[go_sem,seval,c55,h1]
 exact⟨_,rfl⟩
def f157 (a0:qk):Option Int:=
 j5 (f192) fun v1=>
 j5 (f191 v1 a0.kind) fun v3=>
 cond v3
  (j5 (f40 a0.a 0 8) fun v6=>
  j5 (f40 a0.b 0 8) fun v8=>
  j5 (f100 (some [v6,v8])) fun v10=>
  cond (decide (v10=0))
   (j5 (f55 a0.kind) fun v13=>
   cond v13
    (cond (decide (a0.a=0))
     (cond (decide (a0.b=0))
      (some 6)
      (some 0))
     (some 0))
    (some 0))
   (some v10))
  (some 13)
theorem j3b {a0:qk}{r}(h:f157 a0=some r):j7 pr (X pr) 157 [.agg [.str a0.kind,Iv a0.a,Iv a0.b]]=some (Iv r,false):=by
 unfold f157 at h
 obtain⟨v1,h2,h⟩:=jz h
 obtain⟨v3,h4,h⟩:=jz h
 have wh4:=j23 h4
 rcases j0 h with⟨h5,h⟩|⟨h5,h⟩
 ·obtain⟨v6,h7,h⟩:=jz h
  have wh7:=W40 h7
  obtain⟨v8,h9,h⟩:=jz h
  have wh9:=W40 h9
  obtain⟨v10,h11,h⟩:=jz h
  have wh11:j7 pr (X pr) 100 [.list false 1 [Iv v6,Iv v8]]=some (Iv v10,false):=q2y h11
  rcases j0 h with⟨h12,h⟩|⟨h12,h⟩
  ·obtain⟨v13,h14,h⟩:=jz h
   have wh14:=W55 h14
   rcases j0 h with⟨h15,h⟩|⟨h15,h⟩
   ·rcases j0 h with⟨h16,h⟩|⟨h16,h⟩
    ·rcases j0 h with⟨h17,h⟩|⟨h17,h⟩
     ·obtain rfl:=oi h
      refine zg c157 ?_
      simp only[go_sem,seval,c157,qy3 h2,wh4,h5,wh7,wh9,wh11,h12,wh14,h15,h16,h17]
      exact⟨_,rfl⟩
     obtain rfl:=oi h
     refine zg c157 ?_
     simp only[go_sem,seval,c157,qy3 h2,wh4,h5,wh7,wh9,wh11,h12,wh14,h15,h16,h17]
     exact⟨_,rfl⟩
    obtain rfl:=oi h
    refine zg c157 ?_
    simp only[go_sem,seval,c157,qy3 h2,wh4,h5,wh7,wh9,wh11,h12,wh14,h15,h16]
    exact⟨_,rfl⟩
   obtain rfl:=oi h
   refine zg c157 ?_
   simp only[go_sem,seval,c157,qy3 h2,wh4,h5,wh7,wh9,wh11,h12,wh14,h15]
   exact⟨_,rfl⟩
  obtain rfl:=oi h
  refine zg c157 ?_
  simp only[go_sem,seval,c157,qy3 h2,wh4,h5,wh7,wh9,wh11,h12]
  exact⟨_,rfl⟩
 obtain rfl:=oi h
 refine zg c157 ?_
 simp only[go_sem,seval,c157,qy3 h2,wh4,h5]
 exact⟨_,rfl⟩
def qmj (a0:TE)(s0:Int):Option (Int⊕(Int⊕Int)):=
 cond (decide (s0<((a0.getD []).length:Int)))
  (j5 (yd (a0.getD []) s0) fun v15=>
  j5 (f157 v15) fun v17=>
  cond (decide (v17=0))
   (some (.inl (za .i64 (s0+1))))
   (some (.inr (.inl v17))))
  (some (.inr (.inr s0)))
def qhx (a0:TE)(s0:Int):qc:=⟨[(0,sl 3 vel a0,false),(3,Iv s0,false)],[]⟩
def qkx (a0:TE):Int⊕Int→qi×qc
 | .inl d=>(.ret,⟨[(2,Iv d,false)],[]⟩)
 | .inr d=>(.exit 0,⟨[(0,sl 3 vel a0,false),(3,Iv d,false),(11,.bool false,false)],[]⟩)
theorem jju (a0:TE)(s0:Int)(r)(h:qmj a0 s0=some r):yh pr qph (qhx a0) (qkx a0) s0 r:=by
 unfold qmj at h
 rcases j0 h with⟨h14,h⟩|⟨h14,h⟩
 ·obtain⟨v15,h16,h⟩:=jz h
  obtain⟨v17,h18,h⟩:=jz h
  have wh18:=j3b h18
  rcases j0 h with⟨h19,h⟩|⟨h19,h⟩
  ·cases h
   exact zp (by simp only[go_sem,seval,qph,qhx,h14,zf h16,wh18,h19]<;>rfl)
  cases h
  exact j8 (by simp only[go_sem,seval,qph,qhx,h14,zf h16,wh18,h19,qkx]<;>rfl)
 cases h
 exact j8 (by simp only[go_sem,seval,qph,qhx,h14,qkx]<;>rfl)
theorem q90 (a0:TE){s0:Int}{d}(h:itO (qmj a0) s0=some d):X pr (.loop qph) (qhx a0 s0)=some (qkx a0 d):=yo (jju a0) (fun d=>by rcases d with d|d<;>(intro hh;cases hh)) h
def f103 (a0:TE):Option Int:=
 cond (decide (5<((a0.getD []).length:Int)))
  (some 5)
  (j5 (itO (qmj a0) 0) fun d20=>match d20 with
   | .inl d22=>
    some d22
   | .inr d23=>
    some 0)
theorem je3 {a0:TE}{r}(h:f103 a0=some r):j7 pr (X pr) 103 [sl 3 vel a0]=some (Iv r,false):=by
 unfold f103 at h
 rcases j0 h with⟨h1,h⟩|⟨h1,h⟩
 ·obtain rfl:=oi h
  refine zg c103 ?_
  simp only[go_sem,seval,c103,h1]
  exact⟨_,rfl⟩
 obtain⟨d20,h21,h⟩:=jz h
 rcases d20 with d22|d23
 ·have wh21:=q90 a0 h21
  dsimp only[qhx,qkx]at wh21
  obtain rfl:=oi h
  refine zg c103 ?_
  simp only[go_sem,seval,c103,h1,wh21]
  exact⟨_,rfl⟩
 have wh21:=q90 a0 h21
 dsimp only[qhx,qkx]at wh21
 obtain rfl:=oi h
 refine zg c103 ?_
 simp only[go_sem,seval,c103,h1,wh21]
 exact⟨_,rfl⟩
def qli (a0:qb)(s0:TE×Int×Bool)(s1:TE×Int×Bool):Option ((TE×Int×Bool)⊕((TE×Bool×Int))):=
 cond (decide (s1.2.1≤(za .i64 (a0.pb+a0.sb))))
  (cond s1.2.2
   (j5 (apO s1.1 [⟨a0.kd,s0.2.1,s1.2.1⟩]) fun v60=>
   some (.inl (v60,za .i64 (s1.2.1+1),true)))
   (cond s1.1.isNone
    (j5 (apO s1.1 [⟨a0.kd,s0.2.1,s1.2.1⟩]) fun v63=>
    some (.inl (v63,za .i64 (s1.2.1+1),true)))
    (none)))
  (some (.inr (s1.1,s1.2.2,s1.2.1)))
def qkq (a0:qb)(s0:TE×Int×Bool)(s1:TE×Int×Bool):qc:=⟨[(1,.vptr (.agg [.str a0.name,.str a0.kd,Iv a0.pa,Iv a0.pb,Iv a0.sa,Iv a0.sb,Iv a0.cost,Iv a0.stock]),false),(3,sl 3 vel s1.1,s1.2.2),(4,Iv s0.2.1,false),(5,Iv s1.2.1,false)],[]⟩
def qun (a0:qb)(s0:TE×Int×Bool)(d:(TE×Bool×Int)):qi×qc:=(.exit 2,⟨[(1,.vptr (.agg [.str a0.name,.str a0.kd,Iv a0.pa,Iv a0.pb,Iv a0.sa,Iv a0.sb,Iv a0.cost,Iv a0.stock]),false),(3,sl 3 vel d.1,d.2.1),(4,Iv s0.2.1,false),(5,Iv d.2.2,false),(35,.bool false,false)],[]⟩)
theorem jjw (a0:qb)(s0:TE×Int×Bool)(s1:TE×Int×Bool)(r)(h:qli a0 s0 s1=some r):yh pr qov (qkq a0 s0) (qun a0 s0) s1 r:=by
 unfold qli at h
 rcases j0 h with⟨h58,h⟩|⟨h58,h⟩
 ·rcases j0 h with⟨h59,h⟩|⟨h59,h⟩
  ·obtain⟨v60,h61,h⟩:=jz h
   cases h
   exact zp (by simp only[go_sem,seval,qov,qkq,h58,h59,qch h61]<;>rfl)
  rcases j0 h with⟨h62,h⟩|⟨h62,h⟩
  ·obtain⟨v63,h64,h⟩:=jz h
   cases h
   exact zp (by simp only[go_sem,seval,qov,qkq,h58,h59,h62,qjg h64 h62]<;>rfl)
  cases h
 cases h
 exact j8 (by simp only[go_sem,seval,qov,qkq,h58,qun]<;>rfl)
theorem jnr (a0:qb)(s0:TE×Int×Bool){s1:TE×Int×Bool}{d}(h:itO (qli a0 s0) s1=some d):X pr (.loop qov) (qkq a0 s0 s1)=some (qun a0 s0 d):=yo (jjw a0 s0) (fun d hh=>by cases hh) h
def qlx (a0:qb)(s0:TE×Int×Bool):Option ((TE×Int×Bool)⊕((TE×Bool×Int))):=
 cond (decide (s0.2.1≤(za .i64 (a0.pa+a0.sa))))
  (j5 (itO (qli a0 s0) (s0.1,za .i64 (a0.pb-a0.sb),s0.2.2)) fun d65=>
  some (.inl (d65.1,za .i64 (s0.2.1+1),d65.2.1)))
  (some (.inr (s0.1,s0.2.2,s0.2.1)))
def qo8 (a0:qb)(s0:TE×Int×Bool):qc:=⟨[(1,.vptr (.agg [.str a0.name,.str a0.kd,Iv a0.pa,Iv a0.pb,Iv a0.sa,Iv a0.sb,Iv a0.cost,Iv a0.stock]),false),(3,sl 3 vel s0.1,s0.2.2),(4,Iv s0.2.1,false)],[]⟩
def qt3 (a0:qb)(d:(TE×Bool×Int)):qi×qc:=(.exit 0,⟨[(1,.vptr (.agg [.str a0.name,.str a0.kd,Iv a0.pa,Iv a0.pb,Iv a0.sa,Iv a0.sb,Iv a0.cost,Iv a0.stock]),false),(3,sl 3 vel d.1,d.2.1),(4,Iv d.2.2,false),(19,.bool false,false)],[]⟩)
theorem jjh (a0:qb)(s0:TE×Int×Bool)(r)(h:qlx a0 s0=some r):yh pr qr1 (qo8 a0) (qt3 a0) s0 r:=by
 unfold qlx at h
 rcases j0 h with⟨h43,h⟩|⟨h43,h⟩
 ·obtain⟨d65,h66,h⟩:=jz h
  have wh66:=jnr a0 s0 h66
  dsimp only[qkq,qun]at wh66
  cases h
  exact zp (by simp only[go_sem,seval,qr1,qo8,h43,wh66]<;>rfl)
 cases h
 exact j8 (by simp only[go_sem,seval,qr1,qo8,h43,qt3]<;>rfl)
theorem jl5 (a0:qb){s0:TE×Int×Bool}{d}(h:itO (qlx a0) s0=some d):X pr (.loop qr1) (qo8 a0 s0)=some (qt3 a0 d):=yo (jjh a0) (fun d hh=>by cases hh) h
def f104 (a0:qb):Option (TE×Bool):=
 j5 (itO (qlx a0) (none,za .i64 (a0.pa-a0.sa),false)) fun d67=>
 some (d67.1,d67.2.1)
theorem jdo {a0:qb}{r}(h:f104 a0=some r):j7 pr (X pr) 104 [.agg [.str a0.name,.str a0.kd,Iv a0.pa,Iv a0.pb,Iv a0.sa,Iv a0.sb,Iv a0.cost,Iv a0.stock]]=some (sl 3 vel r.1,r.2):=by
 unfold f104 at h
 obtain⟨d67,h68,h⟩:=jz h
 have wh68:=jl5 a0 h68
 dsimp only[qo8,qt3,qc9]at wh68
 obtain rfl:=oi h
 refine qcb c104 ?_
 simp only[go_sem,seval,c104,wh68]
 exact⟨_,rfl⟩
def qq6 (v18:TE×Bool)(s0:Int):Option (Int⊕(Unit⊕Int)):=
 cond (decide (s0<((v18.1.getD []).length:Int)))
  (j5 (qtv v18.1 (some s0) (some (za .i64 (s0+1)))) fun v33=>
  j5 (f103 v33) fun v35=>
  cond (decide (v35=0))
   (some (.inl (za .i64 (s0+1))))
   (some (.inr (.inl ()))))
  (some (.inr (.inr s0)))
def qmn (v18:TE×Bool)(s0:Int):qc:=⟨[(4,sl 3 vel v18.1,v18.2),(5,Iv s0,false)],[]⟩
def qo2 (v18:TE×Bool):Unit⊕Int→qi×qc
 | .inl d=>(.ret,⟨[(2,Iv 1,false)],[]⟩)
 | .inr d=>(.exit 0,⟨[(4,sl 3 vel v18.1,v18.2),(5,Iv d,false),(37,.bool false,false)],[]⟩)
theorem jp0 (v18:TE×Bool)(s0:Int)(r)(h:qq6 v18 s0=some r):yh pr qtk (qmn v18) (qo2 v18) s0 r:=by
 unfold qq6 at h
 rcases j0 h with⟨h32,h⟩|⟨h32,h⟩
 ·obtain⟨v33,h34,h⟩:=jz h
  obtain⟨v35,h36,h⟩:=jz h
  rcases j0 h with⟨h37,h⟩|⟨h37,h⟩
  ·cases h
   exact zp (by simp only[go_sem,seval,qtk,qmn,h32,q4g h34,je3 h36,h37]<;>rfl)
  cases h
  exact j8 (by simp only[go_sem,seval,qtk,qmn,h32,q4g h34,je3 h36,h37,qo2]<;>rfl)
 cases h
 exact j8 (by simp only[go_sem,seval,qtk,qmn,h32,qo2]<;>rfl)
theorem jge (v18:TE×Bool){s0:Int}{d}(h:itO (qq6 v18) s0=some d):X pr (.loop qtk) (qmn v18 s0)=some (qo2 v18 d):=yo (jp0 v18) (fun d=>by rcases d with d|d<;>(intro hh;cases hh)) h
def f20 (a0:qb):Option Int:=
 j5 (f102 a0.name) fun v1=>
 j5 (f101 (!v1) 8) fun v3=>
 j5 (f103 (some [⟨a0.kd,a0.pa,a0.pb⟩])) fun v5=>
 j5 (f40 a0.sa 0 1) fun v7=>
 j5 (f40 a0.sb 0 1) fun v9=>
 j5 (f40 a0.cost 1 1000000) fun v11=>
 j5 (f40 a0.stock 0 100) fun v13=>
 j5 (f100 (some [v3,v5,v7,v9,v11,v13])) fun v15=>
 cond (decide (v15=0))
  (j5 (f104 a0) fun v18=>
  j5 (itO (qq6 v18) 0) fun d38=>match d38 with
   | .inl d40=>
    some 1
   | .inr d41=>
    some 0)
  (some v15)
theorem W20 {a0:qb}{r}(h:f20 a0=some r):j7 pr (X pr) 20 [.agg [.str a0.name,.str a0.kd,Iv a0.pa,Iv a0.pb,Iv a0.sa,Iv a0.sb,Iv a0.cost,Iv a0.stock]]=some (Iv r,false):=by
 unfold f20 at h
 obtain⟨v1,h2,h⟩:=jz h
 have wh2:=j3h h2
 obtain⟨v3,h4,h⟩:=jz h
 have wh4:=jek h4
 obtain⟨v5,h6,h⟩:=jz h
 have wh6:j7 pr (X pr) 103 [.list false 3 [.agg [.str a0.kd,Iv a0.pa,Iv a0.pb]]]=some (Iv v5,false):=je3 h6
 obtain⟨v7,h8,h⟩:=jz h
 have wh8:=W40 h8
 obtain⟨v9,h10,h⟩:=jz h
 have wh10:=W40 h10
 obtain⟨v11,h12,h⟩:=jz h
 have wh12:=W40 h12
 obtain⟨v13,h14,h⟩:=jz h
 have wh14:=W40 h14
 obtain⟨v15,h16,h⟩:=jz h
 have wh16:j7 pr (X pr) 100 [.list false 1 [Iv v3,Iv v5,Iv v7,Iv v9,Iv v11,Iv v13]]=some (Iv v15,false):=q2y h16
 rcases j0 h with⟨h17,h⟩|⟨h17,h⟩
 ·obtain⟨v18,h19,h⟩:=jz h
  have wh19:=jdo h19
  obtain⟨d38,h39,h⟩:=jz h
  rcases d38 with d40|d41
  ·have wh39:=jge v18 h39
   dsimp only[qmn,qo2]at wh39
   obtain rfl:=oi h
   refine zg c20 ?_
   simp only[go_sem,seval,c20,wh2,wh4,wh6,wh8,wh10,wh12,wh14,wh16,h17,wh19,wh39]
   exact⟨_,rfl⟩
  have wh39:=jge v18 h39
  dsimp only[qmn,qo2]at wh39
  obtain rfl:=oi h
  refine zg c20 ?_
  simp only[go_sem,seval,c20,wh2,wh4,wh6,wh8,wh10,wh12,wh14,wh16,h17,wh19,wh39]
  exact⟨_,rfl⟩
 obtain rfl:=oi h
 refine zg c20 ?_
 simp only[go_sem,seval,c20,wh2,wh4,wh6,wh8,wh10,wh12,wh14,wh16,h17]
 exact⟨_,rfl⟩
def qqx (a0:TP)(s0:Int)(s1:Int):Option (Int⊕(Unit⊕Int)):=
 cond (decide (s1<s0))
  (j5 (yd (a0.getD []) s1) fun v55=>
  j5 (yd (a0.getD []) s0) fun v57=>
  cond (decide (v55.name=v57.name))
   (some (.inr (.inl ())))
   (some (.inl (za .i64 (s1+1)))))
  (some (.inr (.inr s1)))
def qly (a0:TP)(s0:Int)(s1:Int):qc:=⟨[(0,sl 8 zi a0,false),(3,Iv s0,false),(5,Iv s1,false)],[]⟩
def qoz (a0:TP)(s0:Int):Unit⊕Int→qi×qc
 | .inl d=>(.ret,⟨[(2,Iv 9,false)],[]⟩)
 | .inr d=>(.exit 2,⟨[(0,sl 8 zi a0,false),(3,Iv s0,false),(5,Iv d,false),(25,.bool false,false)],[]⟩)
theorem jty (a0:TP)(s0:Int)(s1:Int)(r)(h:qqx a0 s0 s1=some r):yh pr quu (qly a0 s0) (qoz a0 s0) s1 r:=by
 unfold qqx at h
 rcases j0 h with⟨h54,h⟩|⟨h54,h⟩
 ·obtain⟨v55,h56,h⟩:=jz h
  obtain⟨v57,h58,h⟩:=jz h
  rcases j0 h with⟨h59,h⟩|⟨h59,h⟩
  ·cases h
   exact j8 (by simp only[go_sem,seval,quu,qly,h54,zf h56,zf h58,h59,qoz]<;>rfl)
  cases h
  exact zp (by simp only[go_sem,seval,quu,qly,h54,zf h56,zf h58,h59]<;>rfl)
 cases h
 exact j8 (by simp only[go_sem,seval,quu,qly,h54,qoz]<;>rfl)
theorem jfz (a0:TP)(s0:Int){s1:Int}{d}(h:itO (qqx a0 s0) s1=some d):X pr (.loop quu) (qly a0 s0 s1)=some (qoz a0 s0 d):=yo (jty a0 s0) (fun d=>by rcases d with d|d<;>(intro hh;cases hh)) h
def qm3 (a0:TP)(s0:Int):Option (Int⊕(Int⊕Int)):=
 cond (decide (s0<((a0.getD []).length:Int)))
  (j5 (yd (a0.getD []) s0) fun v37=>
  j5 (f20 v37) fun v39=>
  cond (decide (v39=0))
   (j5 (itO (qqx a0 s0) 0) fun d60=>match d60 with
    | .inl d62=>
     some (.inr (.inl 9))
    | .inr d63=>
     some (.inl (za .i64 (s0+1))))
   (some (.inr (.inl v39))))
  (some (.inr (.inr s0)))
def qi2 (a0:TP)(s0:Int):qc:=⟨[(0,sl 8 zi a0,false),(3,Iv s0,false)],[]⟩
def qln (a0:TP):Int⊕Int→qi×qc
 | .inl d=>(.ret,⟨[(2,Iv d,false)],[]⟩)
 | .inr d=>(.exit 0,⟨[(0,sl 8 zi a0,false),(3,Iv d,false),(12,.bool false,false)],[]⟩)
theorem jqp (a0:TP)(s0:Int)(r)(h:qm3 a0 s0=some r):yh pr qp2 (qi2 a0) (qln a0) s0 r:=by
 unfold qm3 at h
 rcases j0 h with⟨h36,h⟩|⟨h36,h⟩
 ·obtain⟨v37,h38,h⟩:=jz h
  obtain⟨v39,h40,h⟩:=jz h
  have wh40:=W20 h40
  rcases j0 h with⟨h41,h⟩|⟨h41,h⟩
  ·obtain⟨d60,h61,h⟩:=jz h
   rcases d60 with d62|d63
   ·have wh61:=jfz a0 s0 h61
    dsimp only[qly,qoz]at wh61
    cases h
    exact j8 (by simp only[go_sem,seval,qp2,qi2,h36,zf h38,wh40,h41,wh61,qln]<;>rfl)
   have wh61:=jfz a0 s0 h61
   dsimp only[qly,qoz]at wh61
   cases h
   exact zp (by simp only[go_sem,seval,qp2,qi2,h36,zf h38,wh40,h41,wh61]<;>rfl)
  cases h
  exact j8 (by simp only[go_sem,seval,qp2,qi2,h36,zf h38,wh40,h41,qln]<;>rfl)
 cases h
 exact j8 (by simp only[go_sem,seval,qp2,qi2,h36,qln]<;>rfl)
theorem jf7 (a0:TP){s0:Int}{d}(h:itO (qm3 a0) s0=some d):X pr (.loop qp2) (qi2 a0 s0)=some (qln a0 d):=yo (jqp a0) (fun d=>by rcases d with d|d<;>(intro hh;cases hh)) h
def f25 (a0:TP):Option Int:=
 cond (decide (6<((a0.getD []).length:Int)))
  (some 5)
  (j5 (itO (qm3 a0) 0) fun d64=>match d64 with
   | .inl d66=>
    some d66
   | .inr d67=>
    some 0)
theorem W25 {a0:TP}{r}(h:f25 a0=some r):j7 pr (X pr) 25 [sl 8 zi a0]=some (Iv r,false):=by
 unfold f25 at h
 rcases j0 h with⟨h1,h⟩|⟨h1,h⟩
 ·obtain rfl:=oi h
  refine zg c25 ?_
  simp only[go_sem,seval,c25,h1]
  exact⟨_,rfl⟩
 obtain⟨d64,h65,h⟩:=jz h
 rcases d64 with d66|d67
 ·have wh65:=jf7 a0 h65
  dsimp only[qi2,qln]at wh65
  obtain rfl:=oi h
  refine zg c25 ?_
  simp only[go_sem,seval,c25,h1,wh65]
  exact⟨_,rfl⟩
 have wh65:=jf7 a0 h65
 dsimp only[qi2,qln]at wh65
 obtain rfl:=oi h
 refine zg c25 ?_
 simp only[go_sem,seval,c25,h1,wh65]
 exact⟨_,rfl⟩
def qkb (a0:TP)(s0:Int):Option (Int⊕(Unit⊕Int)):=
 cond (decide (s0<((a0.getD []).length:Int)))
  (j5 (yd (a0.getD []) s0) fun v14=>
  cond (decide (60<(v14.name.length:Int)))
   (some (.inr (.inl ())))
   (cond (decide (60<(v14.kd.length:Int)))
    (some (.inr (.inl ())))
    (some (.inl (za .i64 (s0+1))))))
  (some (.inr (.inr s0)))
def qjb (a0:TP)(s0:Int):qc:=⟨[(0,sl 8 zi a0,false),(3,Iv s0,false)],[]⟩
def qlr (a0:TP):Unit⊕Int→qi×qc
 | .inl d=>(.ret,⟨[(2,.bool false,false)],[]⟩)
 | .inr d=>(.exit 0,⟨[(0,sl 8 zi a0,false),(3,Iv d,false),(15,.bool false,false)],[]⟩)
theorem jrx (a0:TP)(s0:Int)(r)(h:qkb a0 s0=some r):yh pr qfo (qjb a0) (qlr a0) s0 r:=by
 unfold qkb at h
 rcases j0 h with⟨h13,h⟩|⟨h13,h⟩
 ·obtain⟨v14,h15,h⟩:=jz h
  rcases j0 h with⟨h16,h⟩|⟨h16,h⟩
  ·cases h
   exact j8 (by simp only[go_sem,seval,qfo,qjb,h13,zf h15,h16,qlr]<;>rfl)
  rcases j0 h with⟨h17,h⟩|⟨h17,h⟩
  ·cases h
   exact j8 (by simp only[go_sem,seval,qfo,qjb,h13,zf h15,h16,h17,qlr]<;>rfl)
  cases h
  exact zp (by simp only[go_sem,seval,qfo,qjb,h13,zf h15,h16,h17]<;>rfl)
 cases h
 exact j8 (by simp only[go_sem,seval,qfo,qjb,h13,qlr]<;>rfl)
theorem jf5 (a0:TP){s0:Int}{d}(h:itO (qkb a0) s0=some d):X pr (.loop qfo) (qjb a0 s0)=some (qlr a0 d):=yo (jrx a0) (fun d=>by rcases d with d|d<;>(intro hh;cases hh)) h
def qr9 (a0:TP)(s0:Int):Option (Int⊕(Unit⊕Int)):=
 cond (decide (s0<((a0.getD []).length:Int)))
  (j5 (yd (a0.getD []) s0) fun v33=>
  cond (decide (60<(v33.name.length:Int)))
   (some (.inr (.inl ())))
   (cond (decide (60<(v33.kd.length:Int)))
    (some (.inr (.inl ())))
    (some (.inl (za .i64 (s0+1))))))
  (some (.inr (.inr s0)))
def qgp (a0:TP)(s0:Int):qc:=⟨[(0,sl 8 zi a0,false),(3,Iv s0,false)],[]⟩
def qhm (a0:TP):Unit⊕Int→qi×qc
 | .inl d=>(.ret,⟨[(2,.bool false,false)],[]⟩)
 | .inr d=>(.exit 0,⟨[(0,sl 8 zi a0,false),(3,Iv d,false),(15,.bool false,false)],[]⟩)
theorem jk0 (a0:TP)(s0:Int)(r)(h:qr9 a0 s0=some r):yh pr qfo (qgp a0) (qhm a0) s0 r:=by
 unfold qr9 at h
 rcases j0 h with⟨h32,h⟩|⟨h32,h⟩
 ·obtain⟨v33,h34,h⟩:=jz h
  rcases j0 h with⟨h35,h⟩|⟨h35,h⟩
  ·cases h
   exact j8 (by simp only[go_sem,seval,qfo,qgp,h32,zf h34,h35,qhm]<;>rfl)
  rcases j0 h with⟨h36,h⟩|⟨h36,h⟩
  ·cases h
   exact j8 (by simp only[go_sem,seval,qfo,qgp,h32,zf h34,h35,h36,qhm]<;>rfl)
  cases h
  exact zp (by simp only[go_sem,seval,qfo,qgp,h32,zf h34,h35,h36]<;>rfl)
 cases h
 exact j8 (by simp only[go_sem,seval,qfo,qgp,h32,qhm]<;>rfl)
theorem jbq (a0:TP){s0:Int}{d}(h:itO (qr9 a0) s0=some d):X pr (.loop qfo) (qgp a0 s0)=some (qhm a0 d):=yo (jk0 a0) (fun d=>by rcases d with d|d<;>(intro hh;cases hh)) h
def f17 (a0:TP):Option Bool:=
 cond (decide (4<((a0.getD []).length:Int)))
  (cond (decide (((a0.getD []).length:Int)=7))
   (j5 (itO (qkb a0) 0) fun d18=>match d18 with
    | .inl d20=>
     some false
    | .inr d21=>
     some true)
   (some false))
  (j5 (itO (qr9 a0) 0) fun d37=>match d37 with
   | .inl d39=>
    some false
   | .inr d40=>
    some true)
theorem W17 {a0:TP}{r}(h:f17 a0=some r):j7 pr (X pr) 17 [sl 8 zi a0]=some (.bool r,false):=by
 unfold f17 at h
 rcases j0 h with⟨h1,h⟩|⟨h1,h⟩
 ·rcases j0 h with⟨h2,h⟩|⟨h2,h⟩
  ·obtain⟨d18,h19,h⟩:=jz h
   rcases d18 with d20|d21
   ·have wh19:=jf5 a0 h19
    dsimp only[qjb,qlr]at wh19
    obtain rfl:=oi h
    refine zg c17 ?_
    simp only[go_sem,seval,c17,h1,h2,wh19]
    exact⟨_,rfl⟩
   have wh19:=jf5 a0 h19
   dsimp only[qjb,qlr]at wh19
   obtain rfl:=oi h
   refine zg c17 ?_
   simp only[go_sem,seval,c17,h1,h2,wh19]
   exact⟨_,rfl⟩
  obtain rfl:=oi h
  refine zg c17 ?_
  simp only[go_sem,seval,c17,h1,h2]
  exact⟨_,rfl⟩
 obtain⟨d37,h38,h⟩:=jz h
 rcases d37 with d39|d40
 ·have wh38:=jbq a0 h38
  dsimp only[qgp,qhm]at wh38
  obtain rfl:=oi h
  refine zg c17 ?_
  simp only[go_sem,seval,c17,h1,wh38]
  exact⟨_,rfl⟩
 have wh38:=jbq a0 h38
 dsimp only[qgp,qhm]at wh38
 obtain rfl:=oi h
 refine zg c17 ?_
 simp only[go_sem,seval,c17,h1,wh38]
 exact⟨_,rfl⟩
def qm4 (a0:TE)(a1:TE)(s0:Int):Option (Int⊕(Unit⊕Int)):=
 cond (decide (s0<((a0.getD []).length:Int)))
  (j5 (yd (a0.getD []) s0) fun v15=>
  j5 (yd (a1.getD []) s0) fun v17=>
  cond (decide (v15.kind=v17.kind)&&decide (v15.a=v17.a)&&decide (v15.b=v17.b))
   (some (.inl (za .i64 (s0+1))))
   (some (.inr (.inl ()))))
  (some (.inr (.inr s0)))
def qls (a0:TE)(a1:TE)(s0:Int):qc:=⟨[(0,sl 3 vel a0,false),(1,sl 3 vel a1,false),(5,Iv s0,false)],[]⟩
def qpk (a0:TE)(a1:TE):Unit⊕Int→qi×qc
 | .inl d=>(.ret,⟨[(4,.bool false,false)],[]⟩)
 | .inr d=>(.exit 0,⟨[(0,sl 3 vel a0,false),(1,sl 3 vel a1,false),(5,Iv d,false),(14,.bool false,false)],[]⟩)
theorem jvo (a0:TE)(a1:TE)(s0:Int)(r)(h:qm4 a0 a1 s0=some r):yh pr qug (qls a0 a1) (qpk a0 a1) s0 r:=by
 unfold qm4 at h
 rcases j0 h with⟨h14,h⟩|⟨h14,h⟩
 ·obtain⟨v15,h16,h⟩:=jz h
  obtain⟨v17,h18,h⟩:=jz h
  rcases j0 h with⟨h19,h⟩|⟨h19,h⟩
  ·cases h
   exact zp (by simp only[go_sem,seval,qug,qls,h14,zf h16,zf h18,h19]<;>rfl)
  cases h
  exact j8 (by simp only[go_sem,seval,qug,qls,h14,zf h16,zf h18,h19,qpk]<;>rfl)
 cases h
 exact j8 (by simp only[go_sem,seval,qug,qls,h14,qpk]<;>rfl)
theorem jgc (a0:TE)(a1:TE){s0:Int}{d}(h:itO (qm4 a0 a1) s0=some d):X pr (.loop qug) (qls a0 a1 s0)=some (qpk a0 a1 d):=yo (jvo a0 a1) (fun d=>by rcases d with d|d<;>(intro hh;cases hh)) h
def f26 (a0:TE)(a1:TE):Option Bool:=
 cond (decide (((a0.getD []).length:Int)=((a1.getD []).length:Int)))
  (j5 (itO (qm4 a0 a1) 0) fun d20=>match d20 with
   | .inl d22=>
    some false
   | .inr d23=>
    some true)
  (some false)
theorem W26 {a0:TE}{a1:TE}{r}(h:f26 a0 a1=some r):j7 pr (X pr) 26 [sl 3 vel a0,sl 3 vel a1]=some (.bool r,false):=by
 unfold f26 at h
 rcases j0 h with⟨h1,h⟩|⟨h1,h⟩
 ·obtain⟨d20,h21,h⟩:=jz h
  rcases d20 with d22|d23
  ·have wh21:=jgc a0 a1 h21
   dsimp only[qls,qpk]at wh21
   obtain rfl:=oi h
   refine zg c26 ?_
   simp only[go_sem,seval,c26,h1,wh21]
   exact⟨_,rfl⟩
  have wh21:=jgc a0 a1 h21
  dsimp only[qls,qpk]at wh21
  obtain rfl:=oi h
  refine zg c26 ?_
  simp only[go_sem,seval,c26,h1,wh21]
  exact⟨_,rfl⟩
 obtain rfl:=oi h
 refine zg c26 ?_
 simp only[go_sem,seval,c26,h1]
 exact⟨_,rfl⟩
def qqk (a0:TE)(s0:TE×Int×Bool):Option ((TE×Int×Bool)⊕((TE×Bool×Int))):=
 cond (decide (s0.2.1<((a0.getD []).length:Int)))
  (j5 (yd (a0.getD []) s0.2.1) fun v14=>
  cond s0.2.2
   (j5 (apO s0.1 [v14]) fun v17=>
   some (.inl (v17,za .i64 (s0.2.1+1),true)))
   (cond s0.1.isNone
    (j5 (apO s0.1 [v14]) fun v20=>
    some (.inl (v20,za .i64 (s0.2.1+1),true)))
    (none)))
  (some (.inr (s0.1,s0.2.2,s0.2.1)))
def qfr (a0:TE)(s0:TE×Int×Bool):qc:=⟨[(3,sl 3 vel s0.1,s0.2.2),(6,sl 3 vel a0,false),(7,Lv a0,false),(8,Iv s0.2.1,false)],[]⟩
def qxf (a0:TE)(d:(TE×Bool×Int)):qi×qc:=(.exit 0,⟨[(3,sl 3 vel d.1,d.2.1),(6,sl 3 vel a0,false),(7,Lv a0,false),(8,Iv d.2.2,false),(9,.bool false,false)],[]⟩)
theorem jtv (a0:TE)(s0:TE×Int×Bool)(r)(h:qqk a0 s0=some r):yh pr quv (qfr a0) (qxf a0) s0 r:=by
 unfold qqk at h
 rcases j0 h with⟨h13,h⟩|⟨h13,h⟩
 ·obtain⟨v14,h15,h⟩:=jz h
  rcases j0 h with⟨h16,h⟩|⟨h16,h⟩
  ·obtain⟨v17,h18,h⟩:=jz h
   cases h
   exact ko (by simp only[go_sem,seval,quv,qfr,h13,zf h15,h16,qch h18];exact⟨_,rfl⟩) rfl (by first|simp only[go_sem,seval,qfr]|rfl) (by first|simp only[go_sem,seval,qfr]|rfl)
  rcases j0 h with⟨h19,h⟩|⟨h19,h⟩
  ·obtain⟨v20,h21,h⟩:=jz h
   cases h
   exact ko (by simp only[go_sem,seval,quv,qfr,h13,zf h15,h16,h19,qjg h21 h19];exact⟨_,rfl⟩) rfl (by first|simp only[go_sem,seval,qfr]|rfl) (by first|simp only[go_sem,seval,qfr]|rfl)
  cases h
 cases h
 exact j8 (by simp only[go_sem,seval,quv,qfr,h13,qxf]<;>rfl)
theorem jti (a0:TE){s0:TE×Int×Bool}{d}(h:itO (qqk a0) s0=some d):X pr (.loop quv) (qfr a0 s0)=some (qxf a0 d):=yo (jtv a0) (fun d hh=>by cases hh) h
def f27 (a0:TE):Option (TE×Bool):=
 j5 (itO (qqk a0) (none,0,false)) fun d22=>
 some (d22.1,d22.2.1)
theorem W27 {a0:TE}{r}(h:f27 a0=some r):j7 pr (X pr) 27 [sl 3 vel a0]=some (sl 3 vel r.1,r.2):=by
 unfold f27 at h
 obtain⟨d22,h23,h⟩:=jz h
 have wh23:=jti a0 h23
 dsimp only[qfr,qxf,qc9]at wh23
 obtain rfl:=oi h
 refine qcb c27 ?_
 simp only[go_sem,seval,c27,wh23]
 exact⟨_,rfl⟩
def f19 (a0:qb):Option qb:=
 some a0
theorem W19 {a0:qb}{r}(h:f19 a0=some r):j7 pr (X pr) 19 [.agg [.str a0.name,.str a0.kd,Iv a0.pa,Iv a0.pb,Iv a0.sa,Iv a0.sb,Iv a0.cost,Iv a0.stock]]=some (.agg [.str r.name,.str r.kd,Iv r.pa,Iv r.pb,Iv r.sa,Iv r.sb,Iv r.cost,Iv r.stock],false):=by
 unfold f19 at h
 obtain rfl:=oi h
 refine zg c19 ?_
 simp only[go_sem,seval,c19]
 exact⟨_,rfl⟩
def qrh (a0:TP)(s0:TP×Int×Bool):Option ((TP×Int×Bool)⊕((TP×Bool×Int))):=
 cond (decide (s0.2.1<((a0.getD []).length:Int)))
  (j5 (yd (a0.getD []) s0.2.1) fun v18=>
  j5 (f19 v18) fun v20=>
  cond s0.2.2
   (j5 (apO s0.1 [v20]) fun v23=>
   some (.inl (v23,za .i64 (s0.2.1+1),true)))
   (cond s0.1.isNone
    (j5 (apO s0.1 [v20]) fun v26=>
    some (.inl (v26,za .i64 (s0.2.1+1),true)))
    (none)))
  (some (.inr (s0.1,s0.2.2,s0.2.1)))
def qfu (a0:TP)(s0:TP×Int×Bool):qc:=⟨[(3,sl 8 zi s0.1,s0.2.2),(6,sl 8 zi a0,false),(7,Lv a0,false),(8,Iv s0.2.1,false)],[]⟩
def qw4 (a0:TP)(d:(TP×Bool×Int)):qi×qc:=(.exit 0,⟨[(3,sl 8 zi d.1,d.2.1),(6,sl 8 zi a0,false),(7,Lv a0,false),(8,Iv d.2.2,false),(9,.bool false,false)],[]⟩)
theorem juz (a0:TP)(s0:TP×Int×Bool)(r)(h:qrh a0 s0=some r):yh pr qtr (qfu a0) (qw4 a0) s0 r:=by
 unfold qrh at h
 rcases j0 h with⟨h17,h⟩|⟨h17,h⟩
 ·obtain⟨v18,h19,h⟩:=jz h
  obtain⟨v20,h21,h⟩:=jz h
  have wh21:=W19 h21
  rcases j0 h with⟨h22,h⟩|⟨h22,h⟩
  ·obtain⟨v23,h24,h⟩:=jz h
   cases h
   exact ko (by simp only[go_sem,seval,qtr,qfu,h17,zf h19,wh21,h22,q4t h24];exact⟨_,rfl⟩) rfl (by first|simp only[go_sem,seval,qfu]|rfl) (by first|simp only[go_sem,seval,qfu]|rfl)
  rcases j0 h with⟨h25,h⟩|⟨h25,h⟩
  ·obtain⟨v26,h27,h⟩:=jz h
   cases h
   exact ko (by simp only[go_sem,seval,qtr,qfu,h17,zf h19,wh21,h22,h25,q41 h27 h25];exact⟨_,rfl⟩) rfl (by first|simp only[go_sem,seval,qfu]|rfl) (by first|simp only[go_sem,seval,qfu]|rfl)
  cases h
 cases h
 exact j8 (by simp only[go_sem,seval,qtr,qfu,h17,qw4]<;>rfl)
theorem jq8 (a0:TP){s0:TP×Int×Bool}{d}(h:itO (qrh a0) s0=some d):X pr (.loop qtr) (qfu a0 s0)=some (qw4 a0 d):=yo (juz a0) (fun d hh=>by cases hh) h
def f24 (a0:TP):Option (TP×Bool):=
 j5 (itO (qrh a0) (none,0,false)) fun d28=>
 some (d28.1,d28.2.1)
theorem W24 {a0:TP}{r}(h:f24 a0=some r):j7 pr (X pr) 24 [sl 8 zi a0]=some (sl 8 zi r.1,r.2):=by
 unfold f24 at h
 obtain⟨d28,h29,h⟩:=jz h
 have wh29:=jq8 a0 h29
 dsimp only[qfu,qw4,qc9]at wh29
 obtain rfl:=oi h
 refine qcb c24 ?_
 simp only[go_sem,seval,c24,wh29]
 exact⟨_,rfl⟩
end Go.Z
end
