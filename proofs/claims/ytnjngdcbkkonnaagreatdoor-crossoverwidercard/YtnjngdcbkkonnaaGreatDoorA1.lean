/- The structs of chapter 4, the map of kinds, maps of texts to true. -/
import Derived.Test.YtnjngdcbkkonnaaGreatDoorG0
import Derived.Test.YtnjngdcbkkonnaaGreatDoorAbsL
import Derived.Test.YtnjngdcbkkonnaaGreatDoorZM
set_option linter.unusedVariables false
set_option linter.unusedSimpArgs false
set_option maxRecDepth 100000
noncomputable section
namespace Go.Z
open Go Go.Abs
structure ql where
 kind:List UInt8
 a:Int
 b:Int
def vel (p:ql):qa:=.agg [.str p.kind,.int .i64 p.a,.int .i64 p.b]
@[go_sem] theorem j0k {p:ql}:(vel p).flat=[.str p.kind,.int .i64 p.a,.int .i64 p.b]:=rfl
@[go_sem] theorem jat {n:Nat}(p:ql):below n (vel p)=true:=by rfl
@[go_sem] theorem jwe {n z:Nat}{l:Option (List ql)}:below n (sl z vel l)=true:=qgn jat
@[go_sem] theorem j1z {p:ql}:qa.vptr (vel p)=.vptr (.agg [.str p.kind,.int .i64 p.a,.int .i64 p.b]):=rfl
theorem qr5 {b t:Nat}{h:ze}{bb:Bool}{p:ql}{o v:Option (List ql)}(hv:apO o [p]=some v):appR 3 b h (some t) (some (sl 3 vel o)) (some (.list bb 3 [.agg [.str p.kind,.int .i64 p.a,.int .i64 p.b]]))=ifR (decide (b≤4096)) (some ⟨sl 3 vel v,true,some t,h⟩):=qpp (x:=p) (by omega) rfl hv
theorem qs8 {b:Nat}{h:ze}{bb:Bool}{p:ql}{o v:Option (List ql)}(hv:apO o [p]=some v)(hn:o.isNone=true):appR 3 b h none (some (sl 3 vel o)) (some (.list bb 3 [.agg [.str p.kind,.int .i64 p.a,.int .i64 p.b]]))=ifR (decide (b≤4096)) (some ⟨sl 3 vel v,true,none,h⟩):=qik (x:=p) (by omega) rfl hn hv
structure qb where
 name:List UInt8
 kd:List UInt8
 pa:Int
 pb:Int
 sa:Int
 sb:Int
 cost:Int
 stock:Int
def zd (p:qb):qa:=.agg [.str p.name,.str p.kd,.int .i64 p.pa,.int .i64 p.pb,.int .i64 p.sa,.int .i64 p.sb,.int .i64 p.cost,.int .i64 p.stock]
@[go_sem] theorem jsa {p:qb}:(zd p).flat=[.str p.name,.str p.kd,.int .i64 p.pa,.int .i64 p.pb,.int .i64 p.sa,.int .i64 p.sb,.int .i64 p.cost,.int .i64 p.stock]:=rfl
@[go_sem] theorem q5m {n:Nat}(p:qb):below n (zd p)=true:=by rfl
@[go_sem] theorem jmu {n z:Nat}{l:Option (List qb)}:below n (sl z zd l)=true:=qgn q5m
@[go_sem] theorem jr5 {p:qb}:qa.vptr (zd p)=.vptr (.agg [.str p.name,.str p.kd,.int .i64 p.pa,.int .i64 p.pb,.int .i64 p.sa,.int .i64 p.sb,.int .i64 p.cost,.int .i64 p.stock]):=rfl
theorem qnp {b t:Nat}{h:ze}{bb:Bool}{p:qb}{o v:Option (List qb)}(hv:apO o [p]=some v):appR 8 b h (some t) (some (sl 8 zd o)) (some (.list bb 8 [.agg [.str p.name,.str p.kd,.int .i64 p.pa,.int .i64 p.pb,.int .i64 p.sa,.int .i64 p.sb,.int .i64 p.cost,.int .i64 p.stock]]))=ifR (decide (b≤4096)) (some ⟨sl 8 zd v,true,some t,h⟩):=qpp (x:=p) (by omega) rfl hv
theorem qnm {b:Nat}{h:ze}{bb:Bool}{p:qb}{o v:Option (List qb)}(hv:apO o [p]=some v)(hn:o.isNone=true):appR 8 b h none (some (sl 8 zd o)) (some (.list bb 8 [.agg [.str p.name,.str p.kd,.int .i64 p.pa,.int .i64 p.pb,.int .i64 p.sa,.int .i64 p.sb,.int .i64 p.cost,.int .i64 p.stock]]))=ifR (decide (b≤4096)) (some ⟨sl 8 zd v,true,none,h⟩):=qik (x:=p) (by omega) rfl hn hv
structure qi where
 w:Int
 ln:Int
 ld:Int
 mn:Int
 md:Int
def yf (p:qi):qa:=.agg [.int .i64 p.w,.int .i64 p.ln,.int .i64 p.ld,.int .i64 p.mn,.int .i64 p.md]
@[go_sem] theorem jrc {p:qi}:(yf p).flat=[.int .i64 p.w,.int .i64 p.ln,.int .i64 p.ld,.int .i64 p.mn,.int .i64 p.md]:=rfl
@[go_sem] theorem q58 {n:Nat}(p:qi):below n (yf p)=true:=by rfl
@[go_sem] theorem jn0 {n z:Nat}{l:Option (List qi)}:below n (sl z yf l)=true:=qgn q58
@[go_sem] theorem jw7 {p:qi}:qa.vptr (yf p)=.vptr (.agg [.int .i64 p.w,.int .i64 p.ln,.int .i64 p.ld,.int .i64 p.mn,.int .i64 p.md]):=rfl
theorem q5o {b t:Nat}{h:ze}{bb:Bool}{p:qi}{o v:Option (List qi)}(hv:apO o [p]=some v):appR 5 b h (some t) (some (sl 5 yf o)) (some (.list bb 5 [.agg [.int .i64 p.w,.int .i64 p.ln,.int .i64 p.ld,.int .i64 p.mn,.int .i64 p.md]]))=ifR (decide (b≤4096)) (some ⟨sl 5 yf v,true,some t,h⟩):=qpp (x:=p) (by omega) rfl hv
theorem q5x {b:Nat}{h:ze}{bb:Bool}{p:qi}{o v:Option (List qi)}(hv:apO o [p]=some v)(hn:o.isNone=true):appR 5 b h none (some (sl 5 yf o)) (some (.list bb 5 [.agg [.int .i64 p.w,.int .i64 p.ln,.int .i64 p.ld,.int .i64 p.mn,.int .i64 p.md]]))=ifR (decide (b≤4096)) (some ⟨sl 5 yf v,true,none,h⟩):=qik (x:=p) (by omega) rfl hn hv
structure jb where
 a:Int
 b:Int
 c:Int
 d:Int
def q9a (p:jb):qa:=.agg [.int .i64 p.a,.int .i64 p.b,.int .i64 p.c,.int .i64 p.d]
@[go_sem] theorem jw6 {p:jb}:(q9a p).flat=[.int .i64 p.a,.int .i64 p.b,.int .i64 p.c,.int .i64 p.d]:=rfl
@[go_sem] theorem jqh {n:Nat}(p:jb):below n (q9a p)=true:=by rfl
@[go_sem] theorem ju5 {p:jb}:qa.vptr (q9a p)=.vptr (.agg [.int .i64 p.a,.int .i64 p.b,.int .i64 p.c,.int .i64 p.d]):=rfl
structure qr where
 m0:Int
 m1:Int
 m2:Int
 m3:Int
 m4:Int
 m5:Int
 m6:Int
 m7:Int
def jec (p:qr):qa:=.agg [.int .i64 p.m0,.int .i64 p.m1,.int .i64 p.m2,.int .i64 p.m3,.int .i64 p.m4,.int .i64 p.m5,.int .i64 p.m6,.int .i64 p.m7]
@[go_sem] theorem jxs {p:qr}:(jec p).flat=[.int .i64 p.m0,.int .i64 p.m1,.int .i64 p.m2,.int .i64 p.m3,.int .i64 p.m4,.int .i64 p.m5,.int .i64 p.m6,.int .i64 p.m7]:=rfl
@[go_sem] theorem juy {n:Nat}(p:qr):below n (jec p)=true:=by rfl
@[go_sem] theorem jzg {p:qr}:qa.vptr (jec p)=.vptr (.agg [.int .i64 p.m0,.int .i64 p.m1,.int .i64 p.m2,.int .i64 p.m3,.int .i64 p.m4,.int .i64 p.m5,.int .i64 p.m6,.int .i64 p.m7]):=rfl
structure jf where
 band:Int
 ladder:Option (List ql)
def jdg (p:jf):qa:=.agg [.int .i64 p.band,sl 3 vel p.ladder]
@[go_sem] theorem jpu {p:jf}:(jdg p).flat=[.int .i64 p.band,sl 3 vel p.ladder]:=rfl
@[go_sem] theorem jpx {p:jf}:qa.vptr (jdg p)=.vptr (.agg [.int .i64 p.band,sl 3 vel p.ladder]):=rfl
structure js where
 choice:Option (List Int)
 rband:Int
 rladder:Option (List ql)
def jhl (p:js):qa:=.agg [sl 1 zg p.choice,.int .i64 p.rband,sl 3 vel p.rladder]
@[go_sem] theorem jvm {p:js}:(jhl p).flat=[sl 1 zg p.choice,.int .i64 p.rband,sl 3 vel p.rladder]:=rfl
@[go_sem] theorem jub {p:js}:qa.vptr (jhl p)=.vptr (.agg [sl 1 zg p.choice,.int .i64 p.rband,sl 3 vel p.rladder]):=rfl
structure jt where
 parts:Option (List qb)
 choice:Option (List Int)
 bands:Option (List qi)
def jh1 (p:jt):qa:=.agg [sl 8 zd p.parts,sl 1 zg p.choice,sl 5 yf p.bands]
@[go_sem] theorem jtc {p:jt}:(jh1 p).flat=[sl 8 zd p.parts,sl 1 zg p.choice,sl 5 yf p.bands]:=rfl
@[go_sem] theorem jrd {p:jt}:qa.vptr (jh1 p)=.vptr (.agg [sl 8 zd p.parts,sl 1 zg p.choice,sl 5 yf p.bands]):=rfl
structure ju where
 parts:Option (List qb)
 bands:Option (List qi)
 n:Int
def jhr (p:ju):qa:=.agg [sl 8 zd p.parts,sl 5 yf p.bands,.int .i64 p.n]
@[go_sem] theorem ju4 {p:ju}:(jhr p).flat=[sl 8 zd p.parts,sl 5 yf p.bands,.int .i64 p.n]:=rfl
@[go_sem] theorem jwq {p:ju}:qa.vptr (jhr p)=.vptr (.agg [sl 8 zd p.parts,sl 5 yf p.bands,.int .i64 p.n]):=rfl
structure jr where
 x:Option (List ql)
 y:Option (List ql)
 lo:Int
 hi:Int
def jhj (p:jr):qa:=.agg [sl 3 vel p.x,sl 3 vel p.y,.int .i64 p.lo,.int .i64 p.hi]
@[go_sem] theorem jsb {p:jr}:(jhj p).flat=[sl 3 vel p.x,sl 3 vel p.y,.int .i64 p.lo,.int .i64 p.hi]:=rfl
@[go_sem] theorem jtf {p:jr}:qa.vptr (jhj p)=.vptr (.agg [sl 3 vel p.x,sl 3 vel p.y,.int .i64 p.lo,.int .i64 p.hi]):=rfl
@[go_sem] theorem j5i {h:ze}{a0 b0:List UInt8}{a1 b1:Int}{a2 b2:Int}:q4v [.str,.int,.int] false h (some (.agg [.str a0,.int .i64 a1,.int .i64 a2])) (some (.agg [.str b0,.int .i64 b1,.int .i64 b2]))=some ⟨.bool (decide (a0=b0)&&decide (a1=b1)&&decide (a2=b2)),false,none,h⟩:=by
 show(match qaf [.str,.int,.int] [.str a0,.int .i64 a1,.int .i64 a2] [.str b0,.int .i64 b1,.int .i64 b2]with|some t=>val h (.bool (bif false then !t else t))|none=>none)=_
 have:qaf [.str,.int,.int] [.str a0,.int .i64 a1,.int .i64 a2] [.str b0,.int .i64 b1,.int .i64 b2]=some (decide (a0=b0)&&decide (a1=b1)&&decide (a2=b2)):=by
  have e:∀x y:Int,(x == y)=decide (x=y):=fun x y=>by by_cases h:x=y<;>simp[h]
  have e':∀x y:List UInt8,(x == y)=decide (x=y):=fun x y=>by by_cases h:x=y<;>simp[h]
  simp only[qaf,qbt,e,e',decide_true,cT]
  by_cases h0:a0=b0<;>by_cases h1:a1=b1<;>by_cases h2:a2=b2<;>simp[h0,h1,h2]
 rw[this]
 rfl
@[go_sem] theorem j5m {h:ze}{a0 b0:List UInt8}{a1 b1:List UInt8}{a2 b2:Int}{a3 b3:Int}{a4 b4:Int}{a5 b5:Int}{a6 b6:Int}{a7 b7:Int}:q4v [.str,.str,.int,.int,.int,.int,.int,.int] true h (some (.agg [.str a0,.str a1,.int .i64 a2,.int .i64 a3,.int .i64 a4,.int .i64 a5,.int .i64 a6,.int .i64 a7])) (some (.agg [.str b0,.str b1,.int .i64 b2,.int .i64 b3,.int .i64 b4,.int .i64 b5,.int .i64 b6,.int .i64 b7]))=some ⟨.bool (!(decide (a0=b0)&&decide (a1=b1)&&decide (a2=b2)&&decide (a3=b3)&&decide (a4=b4)&&decide (a5=b5)&&decide (a6=b6)&&decide (a7=b7))),false,none,h⟩:=by
 show(match qaf [.str,.str,.int,.int,.int,.int,.int,.int] [.str a0,.str a1,.int .i64 a2,.int .i64 a3,.int .i64 a4,.int .i64 a5,.int .i64 a6,.int .i64 a7] [.str b0,.str b1,.int .i64 b2,.int .i64 b3,.int .i64 b4,.int .i64 b5,.int .i64 b6,.int .i64 b7]with|some t=>val h (.bool (bif true then !t else t))|none=>none)=_
 have:qaf [.str,.str,.int,.int,.int,.int,.int,.int] [.str a0,.str a1,.int .i64 a2,.int .i64 a3,.int .i64 a4,.int .i64 a5,.int .i64 a6,.int .i64 a7] [.str b0,.str b1,.int .i64 b2,.int .i64 b3,.int .i64 b4,.int .i64 b5,.int .i64 b6,.int .i64 b7]=some (decide (a0=b0)&&decide (a1=b1)&&decide (a2=b2)&&decide (a3=b3)&&decide (a4=b4)&&decide (a5=b5)&&decide (a6=b6)&&decide (a7=b7)):=by
  have e:∀x y:Int,(x == y)=decide (x=y):=fun x y=>by by_cases h:x=y<;>simp[h]
  have e':∀x y:List UInt8,(x == y)=decide (x=y):=fun x y=>by by_cases h:x=y<;>simp[h]
  simp only[qaf,qbt,e,e',decide_true,cT]
  by_cases h0:a0=b0<;>by_cases h1:a1=b1<;>by_cases h2:a2=b2<;>by_cases h3:a3=b3<;>by_cases h4:a4=b4<;>by_cases h5:a5=b5<;>by_cases h6:a6=b6<;>by_cases h7:a7=b7<;>simp[h0,h1,h2,h3,h4,h5,h6,h7]
 rw[this]
 rfl
theorem qxc {s:List UInt8}(h0:decide (s=([98,108,111,99,107]:List UInt8))=true):yy .str (.str s) qan 0=some (some (0,.agg [.str ([116,114,97,112]:List UInt8),.bool true,.fn (.func 218) [] []])):=by
 have e0:(s == ([98,108,111,99,107]:List UInt8))=true:=by simpa using h0
 simp only[qan,yy,qbt,e0]
theorem q8h {s:List UInt8}(h0:decide (s=([98,108,111,99,107]:List UInt8))=false)(h1:decide (s=([115,101,114,105,101,115]:List UInt8))=true):yy .str (.str s) qan 0=some (some (1,.agg [.str ([115,104,117,110,116]:List UInt8),.bool false,.fn (.func 219) [] []])):=by
 have e0:(s == ([98,108,111,99,107]:List UInt8))=false:=by simpa using h0
 have e1:(s == ([115,101,114,105,101,115]:List UInt8))=true:=by simpa using h1
 simp only[qan,yy,qbt,e0,e1]
theorem q75 {s:List UInt8}(h0:decide (s=([98,108,111,99,107]:List UInt8))=false)(h1:decide (s=([115,101,114,105,101,115]:List UInt8))=false)(h2:decide (s=([115,104,117,110,116]:List UInt8))=true):yy .str (.str s) qan 0=some (some (2,.agg [.str ([115,101,114,105,101,115]:List UInt8),.bool false,.fn (.func 220) [] []])):=by
 have e0:(s == ([98,108,111,99,107]:List UInt8))=false:=by simpa using h0
 have e1:(s == ([115,101,114,105,101,115]:List UInt8))=false:=by simpa using h1
 have e2:(s == ([115,104,117,110,116]:List UInt8))=true:=by simpa using h2
 simp only[qan,yy,qbt,e0,e1,e2]
theorem qxk {s:List UInt8}(h0:decide (s=([98,108,111,99,107]:List UInt8))=false)(h1:decide (s=([115,101,114,105,101,115]:List UInt8))=false)(h2:decide (s=([115,104,117,110,116]:List UInt8))=false)(h3:decide (s=([116,114,97,112]:List UInt8))=true):yy .str (.str s) qan 0=some (some (3,.agg [.str ([98,108,111,99,107]:List UInt8),.bool true,.fn (.func 221) [] []])):=by
 have e0:(s == ([98,108,111,99,107]:List UInt8))=false:=by simpa using h0
 have e1:(s == ([115,101,114,105,101,115]:List UInt8))=false:=by simpa using h1
 have e2:(s == ([115,104,117,110,116]:List UInt8))=false:=by simpa using h2
 have e3:(s == ([116,114,97,112]:List UInt8))=true:=by simpa using h3
 simp only[qan,yy,qbt,e0,e1,e2,e3]
theorem jhs {s:List UInt8}(h0:decide (s=([98,108,111,99,107]:List UInt8))=false)(h1:decide (s=([115,101,114,105,101,115]:List UInt8))=false)(h2:decide (s=([115,104,117,110,116]:List UInt8))=false)(h3:decide (s=([116,114,97,112]:List UInt8))=false):yy .str (.str s) qan 0=some (none):=by
 have e0:(s == ([98,108,111,99,107]:List UInt8))=false:=by simpa using h0
 have e1:(s == ([115,101,114,105,101,115]:List UInt8))=false:=by simpa using h1
 have e2:(s == ([115,104,117,110,116]:List UInt8))=false:=by simpa using h2
 have e3:(s == ([116,114,97,112]:List UInt8))=false:=by simpa using h3
 simp only[qan,yy,qbt,e0,e1,e2,e3]
@[go_sem] theorem jk2 {n:Nat}:qa4 n (.map qan)=true:=rfl
@[go_sem] theorem j4l:pr.maps 193=some qan:=rfl
def qrx (h:ze)(zero:qa)(r:Option (Option (Nat×qa))):Option qn:=match r with
 |some (some (_,v))=>some ⟨.tup [v,.bool true],false,none,h⟩
 |some none=>some ⟨.tup [zero,.bool false],false,none,h⟩
 |none=>none
@[go_sem] theorem jqv {h:ze}{z v:qa}{i:Nat}:qrx h z (some (some (i,v)))=some ⟨.tup [v,.bool true],false,none,h⟩:=rfl
@[go_sem] theorem jqr {h:ze}{z:qa}:qrx h z (some none)=some ⟨.tup [z,.bool false],false,none,h⟩:=rfl
def qw5 (h:ze)(kd:Kd)(z kv:qa)(x:Option qq):Option qn:=match x with
 |some (.map es)=>qrx h z (yy kd kv es 0)
 |_=>none
@[go_sem] theorem jsx {h:ze}{kd:Kd}{z kv:qa}{es:List (qa×qa)}:qw5 h kd z kv (some (.map es))=qrx h z (yy kd kv es 0):=rfl
def qv1 (h0:Nat)(al:Option (List Nat))(h:ze)(kd:Kd)(z:qa)(m k:Option qa):Option qn:=match m,k with
 |some (.map b),some kv=>ifR (kf h0 al b) (qw5 h kd z kv h[b]?)
 |some .nilmap,some _=>some ⟨.tup [z,.bool false],false,none,h⟩
 |_,_=>none
@[go_sem] theorem jm0 {h0:Nat}{al:Option (List Nat)}{h:ze}{kd:Kd}{z kv:qa}{b:Nat}:qv1 h0 al h kd z (some (.map b)) (some kv)=ifR (kf h0 al b) (qw5 h kd z kv h[b]?):=rfl
@[go_sem] theorem jyq {p:qo}{xc:XC}{h0:Nat}{al:Option (List Nat)}{e:Env}{h:ze}{kd:Kd}{z:qa}{m k:qf}:j8 p xc h0 al e h (.lookup kd z true m k)=qv1 h0 al h kd z (zf e m) (zf e k):=by
 simp only[j8,qau,qv1]
 cases zf e m with
 |none=>cases zf e k<;>rfl
 |some v=>cases zf e k with
  |none=>cases v<;>rfl
  |some kv=>cases v with
   |map b=>
    simp only[ifR,qal,qw5,qrx]
    cases kf h0 al b with
    |false=>rfl
    |true=>
     simp only[cT]
     cases h[b]? with
     |none=>rfl
     |some x=>cases x with
      |map es=>
       simp only[]
       cases yy kd kv es 0 with
       |none=>rfl
       |some r=>cases r<;>rfl
      |_=>rfl
   |_=>rfl
def qnq (l:List (List UInt8))(s:List UInt8):Bool:=decide (s∈l)
def qvn (l:List (List UInt8))(s:List UInt8):Option (List (List UInt8)):=if qnq l s then some l else if l.length≤1073741824 then some (l++[s])else none
theorem jh3 {h:ze}{l:List (List UInt8)}{s:List UInt8}:qwz h .str (.bool false) (.str s) (some (.map (qb1 l)))=some ⟨.bool (qnq l s),false,none,h⟩:=by
 rw[jau,qvu]
 unfold qnq
 by_cases hm:s∈l<;>simp[hm,q98,q8g]
theorem jes {h:ze}{b:Nat}{l v:List (List UInt8)}{s:List UInt8}(hv:qvn l s=some v)(hn:qnq l s=false):qy7 h b .str (.str s) (.bool true) (some (.map (qb1 l)))=qbx (yu h b (.map (qb1 v))) .undef:=by
 unfold qvn at hv
 rw[hn]at hv
 simp only[Bool.false_eq_true,if_false]at hv
 split at hv
 ·rename_i hl
  cases hv
  have hm:¬s∈l:=by simpa[qnq]using hn
  rw[q30,qvu,if_neg hm,jal,ja4,Nat.ble_eq_true_of_le hl,jae]
  rfl
 ·cases hv
theorem qot:∀ (l:List (List UInt8)) (i:Nat) (k:List UInt8),l[i]?=some k→qci (qb1 l) i (.bool true)=qb1 l
 | [],i,k,h=>by simp at h
 |x::l,0,k,h=>rfl
 |x::l,i+1,k,h=>by
  have:=qot l i k (by simpa using h)
  show(qa.str x,qa.bool true)::qci (qb1 l) i (.bool true)=_
  rw[this];rfl
theorem jo2 {h:ze}{b:Nat}{l v:List (List UInt8)}{s:List UInt8}(hv:qvn l s=some v):qy7 h b .str (.str s) (.bool true) (some (.map (qb1 l)))=qbx (yu h b (.map (qb1 v))) .undef:=by
 cases hn:qnq l s with
 |false=>exact jes hv hn
 |true=>
  unfold qvn at hv
  rw[hn]at hv
  simp only[if_true,Option.some.injEq]at hv
  subst hv
  have hm:s∈l:=by simpa[qnq]using hn
  rw[q30,qvu,if_pos hm]
  have hi:l[l.idxOf s]?=some s:=by
   rw[List.getElem?_eq_getElem (List.idxOf_lt_length_of_mem hm),List.getElem_idxOf]
  show qbx (yu h b (.map (qci (qb1 l) (l.idxOf s) (.bool true)))) .undef=_
  rw[qot l _ s hi]
@[go_sem] theorem q5z {n:Nat}:∀ {l:List (List UInt8)},qa4 n (.map (qb1 l))=true
 | []=>rfl
 |x::l=>by
  have:=q5z (n:=n) (l:=l)
  simp only[qa4]at this ⊢
  show(below n (.str x)&&below n (.bool true)&&qb5 n (qb1 l))=true
  rw[this];rfl
theorem jc2 {p:qo}{xc:XC}{h0:Nat}{al:Option (List Nat)}{e:Env}{h:ze}{r:Nat}:j8 p xc h0 al e h (.mkmap r)=qbx (newBox h0 h r (.map (qb1 []))) (.map (h0+r)):=jix
theorem j6e {p:qo}{xc:XC}{k:Nat}{args:List qa}{v:qa}(hp:p.prims k=none)(hc:∃hh,ye p xc k args []=some (v,false,hh))(hz:∀hh,freezeR hh v=some v)(hv:below 0 v=true):zb p xc k args=some (v,false):=by
 obtain⟨hh,hc⟩:=hc
 exact qed hp hc (hz hh) hv
theorem qlt {hh:ze}:∀ {xs:List qa},yb 0 xs=true→qbz hh xs=some xs
 | [],_=>rfl
 |x::xs,h=>by
  simp only[yb,Bool.and_eq_true]at h
  have hx:qbm hh x=some x:=by
   cases x with
   |ms b o n=>simp[Abs.below,Nat.blt]at h
   |_=>rfl
  simp only[qbz,hx,qlt h.2]
theorem jpl {hh:ze}{x:qa}(h:Abs.below 0 x=true):qbm hh x=some x:=by
 cases x with
 |ms b o n=>simp[Abs.below,Nat.blt]at h
 |_=>rfl
theorem qsx {hh:ze}:∀ {xs:List qa},yb 0 xs=true→freezeR.freezeT hh xs=some xs
 | [],_=>rfl
 |x::xs,h=>by
  simp only[yb,Bool.and_eq_true]at h
  have ih:=qsx (hh:=hh) h.2
  cases x with
  |agg cs=>
   have h1:=h.1
   simp only[Abs.below]at h1
   simp only[freezeR.freezeT,qlt h1,ih]
  |ms b o n=>simp[Abs.below,Nat.blt]at h
  |_=>simp only[freezeR.freezeT,qbm,ih]
theorem qsz {hh:ze}{x:qa}(h:Abs.below 0 x=true):freezeR hh x=some x:=by
 cases x with
 |agg cs=>
  simp only[Abs.below]at h
  simp only[freezeR,qlt h]
 |tup vs=>
  simp only[Abs.below]at h
  simp only[freezeR,qsx h]
 |ms b o n=>simp[Abs.below,Nat.blt]at h
 |_=>rfl
theorem zk {p:qo}{k:Nat}(f:qk){args:List qa}{v:qa}(hc:∃hh,qzo f.results (X p f.body ⟨qbp 0 args,[]⟩)=some (v,false,hh))(hp:p.prims k=none:=by rfl)(hf:p.fns k=some f:=by rfl)(hl:Nat.ble args.length f.ntmps=true:=by rfl)(hv:below 0 v=true:=by first|rfl|simp only[go_sem,seval]):zb p (X p) k args=some (v,false):=by
 obtain⟨hh,hc⟩:=hc
 cases f with
 |mk n b r=>exact qed hp (by rw[kr hf (Nat.le_of_ble_eq_true hl)];exact hc) (qsz hv) hv
theorem qdm {p:qo}{k:Nat}(f:qk){args:List qa}{v:qa}{o:Bool}(hc:∃hh,qzo f.results (X p f.body ⟨qbp 0 args,[]⟩)=some (v,o,hh))(hp:p.prims k=none:=by rfl)(hf:p.fns k=some f:=by rfl)(hn:Nat.ble args.length f.ntmps=true:=by rfl)(hv:below 0 v=true:=by first|rfl|simp only[go_sem,seval])(hl:v.isList=true:=by first|rfl|simp only[go_sem,seval]):zb p (X p) k args=some (v,o):=by
 obtain⟨hh,hc⟩:=hc
 cases f with
 |mk n b r=>exact qy1 hp (by rw[kr hf (Nat.le_of_ble_eq_true hn)];exact hc) (qsz hv) hv hl
theorem oi {α:Type}{a b:α}(h:some a=some b):a=b:=Option.some.inj h
theorem zq {σ δ:Type}{p:qo}{c:qe}{St:σ→qd}{Ex:δ→qj×qd}{s s':σ}(h:X p c (St s)=some (.normal,St s'))(hl:(St s').heap.length≤(St s).heap.length:=by exact Nat.le_refl _):yt p c St Ex s (.inl s'):=qby h (qfw hl)
theorem qag {σ δ:Type}{p:qo}{c:qe}{St:σ→qd}{Ex:δ→qj×qd}{s s':σ}(h:∃t,X p c (St s)=some (.normal,⟨(St s').env,(St s').heap++t⟩))(hn:(St s).heap.length=(St s').heap.length)(h1:qa7 (St s).heap.length (St s').env=true)(h2:yl (St s).heap.length (St s').heap=true):yt p c St Ex s (.inl s'):=by
 obtain⟨t,h⟩:=h
 exact qby h (qh9 hn rfl h1 h2)
abbrev TI:=Option (List Int)
abbrev TE:=Option (List ql)
abbrev TP:=Option (List qb)
abbrev TB:=Option (List qi)
abbrev TTI:=Option (List TI)
abbrev TTE:=Option (List TE)
theorem ql7 {α:Type}{z:Nat}{f:α→qa}:sl z f none=.list true 0 []:=rfl
abbrev Iv (n:Int):qa:=.int .i64 n
abbrev Lv {α:Type}(o:Option (List α)):qa:=.int .i64 ((o.getD []).length:Int)
set_option maxHeartbeats 4000000
def f106 (a0:Bool)(a1:Int):Option Int:=
 cond a0
  (some a1)
  (some 0)
theorem qmo {a0:Bool}{a1:Int}{r}(h:f106 a0 a1=some r):zb pr (X pr) 106 [.bool a0,Iv a1]=some (Iv r,false):=by
 unfold f106 at h
 rcases j4 h with⟨h1,h⟩|⟨h1,h⟩
 ·obtain rfl:=oi h
  refine zk c106 ?_
  simp only[go_sem,seval,c106,h1]
  exact⟨_,rfl⟩
 obtain rfl:=oi h
 refine zk c106 ?_
 simp only[go_sem,seval,c106,h1]
 exact⟨_,rfl⟩
def qlu (a0:TI)(s0:Int):Option (Int⊕(Int⊕Int)):=
 cond (decide (s0<((a0.getD []).length:Int)))
  (j5 (yo (a0.getD []) s0) fun v10=>
  cond (decide (v10=0))
   (some (.inl (j9 .i64 (s0+1))))
   (some (.inr (.inl v10))))
  (some (.inr (.inr s0)))
def qhy (a0:TI)(s0:Int):qd:=⟨[(5,sl 1 zg a0,false),(6,Lv a0,false),(7,Iv s0,false)],[]⟩
def qld (a0:TI):Int⊕Int→qj×qd
 | .inl d=>(.ret,⟨[(2,Iv d,false)],[]⟩)
 | .inr d=>(.exit 0,⟨[(5,sl 1 zg a0,false),(6,Lv a0,false),(7,Iv d,false),(8,.bool false,false)],[]⟩)
theorem job (a0:TI)(s0:Int)(r)(h:qlu a0 s0=some r):yt pr qps (qhy a0) (qld a0) s0 r:=by
 unfold qlu at h
 rcases j4 h with⟨h9,h⟩|⟨h9,h⟩
 ·obtain⟨v10,h11,h⟩:=j0 h
  rcases j4 h with⟨h12,h⟩|⟨h12,h⟩
  ·cases h
   exact zq (by simp only[go_sem,seval,qps,qhy,h9,zm h11,h12]<;>rfl)
  cases h
  exact zc (by simp only[go_sem,seval,qps,qhy,h9,zm h11,h12,qld]<;>rfl)
 cases h
 exact zc (by simp only[go_sem,seval,qps,qhy,h9,qld]<;>rfl)
theorem jbe (a0:TI){s0:Int}{d}(h:itO (qlu a0) s0=some d):X pr (.loop qps) (qhy a0 s0)=some (qld a0 d):=kg (job a0) (fun d=>by rcases d with d|d<;>(intro hh;cases hh)) h
def f105 (a0:TI):Option Int:=
 j5 (itO (qlu a0) 0) fun d13=>match d13 with
  | .inl d15=>
   some d15
  | .inr d16=>
   some 0
theorem qtf {a0:TI}{r}(h:f105 a0=some r):zb pr (X pr) 105 [sl 1 zg a0]=some (Iv r,false):=by
 unfold f105 at h
 obtain⟨d13,h14,h⟩:=j0 h
 rcases d13 with d15|d16
 ·have wh14:=jbe a0 h14
  dsimp only[qhy,qld]at wh14
  obtain rfl:=oi h
  refine zk c105 ?_
  simp only[go_sem,seval,c105,wh14]
  exact⟨_,rfl⟩
 have wh14:=jbe a0 h14
 dsimp only[qhy,qld]at wh14
 obtain rfl:=oi h
 refine zk c105 ?_
 simp only[go_sem,seval,c105,wh14]
 exact⟨_,rfl⟩
def f109 (a0:Int)(a1:Int)(a2:Int):Option Int:=
 cond (decide (a0<a1))
  (j5 (f106 true 3) fun v2=>
  some v2)
  (j5 (f106 (decide (a2<a0)) 3) fun v4=>
  some v4)
theorem qsr {a0:Int}{a1:Int}{a2:Int}{r}(h:f109 a0 a1 a2=some r):zb pr (X pr) 109 [Iv a0,Iv a1,Iv a2]=some (Iv r,false):=by
 unfold f109 at h
 rcases j4 h with⟨h1,h⟩|⟨h1,h⟩
 ·obtain⟨v2,h3,h⟩:=j0 h
  obtain rfl:=oi h
  refine zk c109 ?_
  simp only[go_sem,seval,c109,h1,qmo h3]
  exact⟨_,rfl⟩
 obtain⟨v4,h5,h⟩:=j0 h
 have wh5:=qmo h5
 obtain rfl:=oi h
 refine zk c109 ?_
 simp only[go_sem,seval,c109,h1,wh5]
 exact⟨_,rfl⟩
def qgx (a0:List UInt8):Option (Option (Nat)⊕(Nat⊕Nat)):=
 cond (decide (0<a0.length))
  (cond (decide (65≤((zi a0 0).1:Int)))
   (cond (decide (((zi a0 0).1:Int)≤90))
    (cond (decide (48≤((zi a0 0).1:Int)))
     (cond (decide (((zi a0 0).1:Int)≤57))
      (some (.inl (some (0+(zi a0 0).2))))
      (some (.inl (some (0+(zi a0 0).2)))))
     (some (.inl (some (0+(zi a0 0).2)))))
    (cond (decide (97≤((zi a0 0).1:Int)))
     (cond (decide (48≤((zi a0 0).1:Int)))
      (cond (decide (((zi a0 0).1:Int)≤57))
       (cond (decide (((zi a0 0).1:Int)≤122))
        (some (.inl (some (0+(zi a0 0).2))))
        (some (.inr (.inl (0+(zi a0 0).2)))))
       (cond (decide (((zi a0 0).1:Int)≤122))
        (some (.inl (some (0+(zi a0 0).2))))
        (some (.inr (.inl (0+(zi a0 0).2))))))
      (cond (decide (((zi a0 0).1:Int)≤122))
       (some (.inl (some (0+(zi a0 0).2))))
       (some (.inr (.inl (0+(zi a0 0).2))))))
     (cond (decide (48≤((zi a0 0).1:Int)))
      (cond (decide (((zi a0 0).1:Int)≤57))
       (some (.inr (.inl (0+(zi a0 0).2))))
       (some (.inr (.inl (0+(zi a0 0).2)))))
      (some (.inr (.inl (0+(zi a0 0).2)))))))
   (cond (decide (97≤((zi a0 0).1:Int)))
    (cond (decide (48≤((zi a0 0).1:Int)))
     (cond (decide (((zi a0 0).1:Int)≤57))
      (cond (decide (((zi a0 0).1:Int)≤122))
       (some (.inl (some (0+(zi a0 0).2))))
       (some (.inr (.inl (0+(zi a0 0).2)))))
      (cond (decide (((zi a0 0).1:Int)≤122))
       (some (.inl (some (0+(zi a0 0).2))))
       (some (.inr (.inl (0+(zi a0 0).2))))))
     (cond (decide (((zi a0 0).1:Int)≤122))
      (some (.inl (some (0+(zi a0 0).2))))
      (some (.inr (.inl (0+(zi a0 0).2))))))
    (cond (decide (48≤((zi a0 0).1:Int)))
     (cond (decide (((zi a0 0).1:Int)≤57))
      (some (.inr (.inl (0+(zi a0 0).2))))
      (some (.inr (.inl (0+(zi a0 0).2)))))
     (some (.inr (.inl (0+(zi a0 0).2)))))))
  (some (.inr (.inr 0)))
def qgz (a0:List UInt8)(s0:Nat):Option (Option (Nat)⊕(Nat⊕Nat)):=
 cond (decide (s0<a0.length))
  (cond (decide (65≤((zi a0 s0).1:Int)))
   (cond (decide (((zi a0 s0).1:Int)≤90))
    (cond (decide (48≤((zi a0 s0).1:Int)))
     (cond (decide (((zi a0 s0).1:Int)≤57))
      (some (.inl (some (s0+(zi a0 s0).2))))
      (some (.inl (some (s0+(zi a0 s0).2)))))
     (some (.inl (some (s0+(zi a0 s0).2)))))
    (cond (decide (97≤((zi a0 s0).1:Int)))
     (cond (decide (48≤((zi a0 s0).1:Int)))
      (cond (decide (((zi a0 s0).1:Int)≤57))
       (cond (decide (((zi a0 s0).1:Int)≤122))
        (some (.inl (some (s0+(zi a0 s0).2))))
        (cond (decide ((s0:Int)=0))
         (some (.inr (.inl (s0+(zi a0 s0).2))))
         (some (.inl (some (s0+(zi a0 s0).2))))))
       (cond (decide (((zi a0 s0).1:Int)≤122))
        (some (.inl (some (s0+(zi a0 s0).2))))
        (cond (decide ((s0:Int)=0))
         (some (.inr (.inl (s0+(zi a0 s0).2))))
         (cond (decide (((zi a0 s0).1:Int)=95))
          (some (.inl (some (s0+(zi a0 s0).2))))
          (some (.inr (.inl (s0+(zi a0 s0).2))))))))
      (cond (decide (((zi a0 s0).1:Int)≤122))
       (some (.inl (some (s0+(zi a0 s0).2))))
       (cond (decide ((s0:Int)=0))
        (some (.inr (.inl (s0+(zi a0 s0).2))))
        (cond (decide (((zi a0 s0).1:Int)=95))
         (some (.inl (some (s0+(zi a0 s0).2))))
         (some (.inr (.inl (s0+(zi a0 s0).2))))))))
     (cond (decide (48≤((zi a0 s0).1:Int)))
      (cond (decide (((zi a0 s0).1:Int)≤57))
       (cond (decide ((s0:Int)=0))
        (some (.inr (.inl (s0+(zi a0 s0).2))))
        (some (.inl (some (s0+(zi a0 s0).2)))))
       (cond (decide ((s0:Int)=0))
        (some (.inr (.inl (s0+(zi a0 s0).2))))
        (cond (decide (((zi a0 s0).1:Int)=95))
         (some (.inl (some (s0+(zi a0 s0).2))))
         (some (.inr (.inl (s0+(zi a0 s0).2)))))))
      (cond (decide ((s0:Int)=0))
       (some (.inr (.inl (s0+(zi a0 s0).2))))
       (cond (decide (((zi a0 s0).1:Int)=95))
        (some (.inl (some (s0+(zi a0 s0).2))))
        (some (.inr (.inl (s0+(zi a0 s0).2)))))))))
   (cond (decide (97≤((zi a0 s0).1:Int)))
    (cond (decide (48≤((zi a0 s0).1:Int)))
     (cond (decide (((zi a0 s0).1:Int)≤57))
      (cond (decide (((zi a0 s0).1:Int)≤122))
       (some (.inl (some (s0+(zi a0 s0).2))))
       (cond (decide ((s0:Int)=0))
        (some (.inr (.inl (s0+(zi a0 s0).2))))
        (some (.inl (some (s0+(zi a0 s0).2))))))
      (cond (decide (((zi a0 s0).1:Int)≤122))
       (some (.inl (some (s0+(zi a0 s0).2))))
       (cond (decide ((s0:Int)=0))
        (some (.inr (.inl (s0+(zi a0 s0).2))))
        (cond (decide (((zi a0 s0).1:Int)=95))
         (some (.inl (some (s0+(zi a0 s0).2))))
         (some (.inr (.inl (s0+(zi a0 s0).2))))))))
     (cond (decide (((zi a0 s0).1:Int)≤122))
      (some (.inl (some (s0+(zi a0 s0).2))))
      (cond (decide ((s0:Int)=0))
       (some (.inr (.inl (s0+(zi a0 s0).2))))
       (cond (decide (((zi a0 s0).1:Int)=95))
        (some (.inl (some (s0+(zi a0 s0).2))))
        (some (.inr (.inl (s0+(zi a0 s0).2))))))))
    (cond (decide (48≤((zi a0 s0).1:Int)))
     (cond (decide (((zi a0 s0).1:Int)≤57))
      (cond (decide ((s0:Int)=0))
       (some (.inr (.inl (s0+(zi a0 s0).2))))
       (some (.inl (some (s0+(zi a0 s0).2)))))
      (cond (decide ((s0:Int)=0))
       (some (.inr (.inl (s0+(zi a0 s0).2))))
       (cond (decide (((zi a0 s0).1:Int)=95))
        (some (.inl (some (s0+(zi a0 s0).2))))
        (some (.inr (.inl (s0+(zi a0 s0).2)))))))
     (cond (decide ((s0:Int)=0))
      (some (.inr (.inl (s0+(zi a0 s0).2))))
      (cond (decide (((zi a0 s0).1:Int)=95))
       (some (.inl (some (s0+(zi a0 s0).2))))
       (some (.inr (.inl (s0+(zi a0 s0).2)))))))))
  (some (.inr (.inr s0)))
def qsj (a0:List UInt8):Option (Nat)→Option (Option (Nat)⊕(Nat⊕Nat))
 |none=>qgx a0
 |some x=>qgz a0 x
def ya (a0:List UInt8)(s0:Nat):qd:=⟨[(0,.str a0,false),(8,.ptr 0 0,false),(46,.bool false,false)],[.iter a0 s0]⟩
def yc (a0:List UInt8):Option (Nat)→qd
 |none=>⟨[(0,.str a0,false),(8,.ptr 0 0,false)],[.iter a0 0]⟩
 |some x=>ya a0 x
def kn (a0:List UInt8):Nat⊕Nat→qj×qd
 | .inl d=>(.ret,⟨[(2,.bool false,false)],[.iter a0 d]⟩)
 | .inr d=>(.exit 0,⟨[(0,.str a0,false),(8,.ptr 0 0,false),(9,.tup [.bool false],false),(10,.bool false,false)],[.iter a0 d]⟩)
theorem jia (a0:List UInt8)(r)(h:qgx a0=some r):yt pr ym (yc a0) (kn a0) none r:=by
 unfold qgx at h
 rcases j4 h with⟨h171,h⟩|⟨h171,h⟩
 ·rcases j4 h with⟨h172,h⟩|⟨h172,h⟩
  ·rcases j4 h with⟨h173,h⟩|⟨h173,h⟩
   ·rcases j4 h with⟨h174,h⟩|⟨h174,h⟩
    ·rcases j4 h with⟨h175,h⟩|⟨h175,h⟩
     ·cases h
      exact zq (by simp only[go_sem,seval,ym,yc,ya,h171,yp h171,h172,h173,h174,h175]<;>rfl)
     cases h
     exact zq (by simp only[go_sem,seval,ym,yc,ya,h171,yp h171,h172,h173,h174,h175]<;>rfl)
    cases h
    exact zq (by simp only[go_sem,seval,ym,yc,ya,h171,yp h171,h172,h173,h174]<;>rfl)
   rcases j4 h with⟨h176,h⟩|⟨h176,h⟩
   ·rcases j4 h with⟨h177,h⟩|⟨h177,h⟩
    ·rcases j4 h with⟨h178,h⟩|⟨h178,h⟩
     ·rcases j4 h with⟨h179,h⟩|⟨h179,h⟩
      ·cases h
       exact zq (by simp only[go_sem,seval,ym,yc,ya,h171,yp h171,h172,h173,h176,h177,h178,h179]<;>rfl)
      cases h
      exact zc (by simp only[go_sem,seval,ym,yc,ya,h171,yp h171,h172,h173,h176,h177,h178,h179,kn]<;>rfl)
     rcases j4 h with⟨h180,h⟩|⟨h180,h⟩
     ·cases h
      exact zq (by simp only[go_sem,seval,ym,yc,ya,h171,yp h171,h172,h173,h176,h177,h178,h180]<;>rfl)
     cases h
     exact zc (by simp only[go_sem,seval,ym,yc,ya,h171,yp h171,h172,h173,h176,h177,h178,h180,kn]<;>rfl)
    rcases j4 h with⟨h181,h⟩|⟨h181,h⟩
    ·cases h
     exact zq (by simp only[go_sem,seval,ym,yc,ya,h171,yp h171,h172,h173,h176,h177,h181]<;>rfl)
    cases h
    exact zc (by simp only[go_sem,seval,ym,yc,ya,h171,yp h171,h172,h173,h176,h177,h181,kn]<;>rfl)
   rcases j4 h with⟨h182,h⟩|⟨h182,h⟩
   ·rcases j4 h with⟨h183,h⟩|⟨h183,h⟩
    ·cases h
     exact zc (by simp only[go_sem,seval,ym,yc,ya,h171,yp h171,h172,h173,h176,h182,h183,kn]<;>rfl)
    cases h
    exact zc (by simp only[go_sem,seval,ym,yc,ya,h171,yp h171,h172,h173,h176,h182,h183,kn]<;>rfl)
   cases h
   exact zc (by simp only[go_sem,seval,ym,yc,ya,h171,yp h171,h172,h173,h176,h182,kn]<;>rfl)
  rcases j4 h with⟨h184,h⟩|⟨h184,h⟩
  ·rcases j4 h with⟨h185,h⟩|⟨h185,h⟩
   ·rcases j4 h with⟨h186,h⟩|⟨h186,h⟩
    ·rcases j4 h with⟨h187,h⟩|⟨h187,h⟩
     ·cases h
      exact zq (by simp only[go_sem,seval,ym,yc,ya,h171,yp h171,h172,h184,h185,h186,h187]<;>rfl)
     cases h
     exact zc (by simp only[go_sem,seval,ym,yc,ya,h171,yp h171,h172,h184,h185,h186,h187,kn]<;>rfl)
    rcases j4 h with⟨h188,h⟩|⟨h188,h⟩
    ·cases h
     exact zq (by simp only[go_sem,seval,ym,yc,ya,h171,yp h171,h172,h184,h185,h186,h188]<;>rfl)
    cases h
    exact zc (by simp only[go_sem,seval,ym,yc,ya,h171,yp h171,h172,h184,h185,h186,h188,kn]<;>rfl)
   rcases j4 h with⟨h189,h⟩|⟨h189,h⟩
   ·cases h
    exact zq (by simp only[go_sem,seval,ym,yc,ya,h171,yp h171,h172,h184,h185,h189]<;>rfl)
   cases h
   exact zc (by simp only[go_sem,seval,ym,yc,ya,h171,yp h171,h172,h184,h185,h189,kn]<;>rfl)
  rcases j4 h with⟨h190,h⟩|⟨h190,h⟩
  ·rcases j4 h with⟨h191,h⟩|⟨h191,h⟩
   ·cases h
    exact zc (by simp only[go_sem,seval,ym,yc,ya,h171,yp h171,h172,h184,h190,h191,kn]<;>rfl)
   cases h
   exact zc (by simp only[go_sem,seval,ym,yc,ya,h171,yp h171,h172,h184,h190,h191,kn]<;>rfl)
  cases h
  exact zc (by simp only[go_sem,seval,ym,yc,ya,h171,yp h171,h172,h184,h190,kn]<;>rfl)
 cases h
 exact zc (by simp only[go_sem,seval,ym,yc,ya,h171,jc4 h171,kn]<;>rfl)
theorem ji0 (a0:List UInt8)(s0:Nat)(r)(h:qgz a0 s0=some r):yt pr ym (yc a0) (kn a0) (some s0) r:=by
 unfold qgz at h
 rcases j4 h with⟨h130,h⟩|⟨h130,h⟩
 ·rcases j4 h with⟨h131,h⟩|⟨h131,h⟩
  ·rcases j4 h with⟨h132,h⟩|⟨h132,h⟩
   ·rcases j4 h with⟨h133,h⟩|⟨h133,h⟩
    ·rcases j4 h with⟨h134,h⟩|⟨h134,h⟩
     ·cases h
      exact zq (by simp only[go_sem,seval,ym,yc,ya,h130,yp h130,h131,h132,h133,h134]<;>rfl)
     cases h
     exact zq (by simp only[go_sem,seval,ym,yc,ya,h130,yp h130,h131,h132,h133,h134]<;>rfl)
    cases h
    exact zq (by simp only[go_sem,seval,ym,yc,ya,h130,yp h130,h131,h132,h133]<;>rfl)
   rcases j4 h with⟨h135,h⟩|⟨h135,h⟩
   ·rcases j4 h with⟨h136,h⟩|⟨h136,h⟩
    ·rcases j4 h with⟨h137,h⟩|⟨h137,h⟩
     ·rcases j4 h with⟨h138,h⟩|⟨h138,h⟩
      ·cases h
       exact zq (by simp only[go_sem,seval,ym,yc,ya,h130,yp h130,h131,h132,h135,h136,h137,h138]<;>rfl)
      rcases j4 h with⟨h139,h⟩|⟨h139,h⟩
      ·cases h
       exact zc (by simp only[go_sem,seval,ym,yc,ya,h130,yp h130,h131,h132,h135,h136,h137,h138,h139,kn]<;>rfl)
      cases h
      exact zq (by simp only[go_sem,seval,ym,yc,ya,h130,yp h130,h131,h132,h135,h136,h137,h138,h139]<;>rfl)
     rcases j4 h with⟨h140,h⟩|⟨h140,h⟩
     ·cases h
      exact zq (by simp only[go_sem,seval,ym,yc,ya,h130,yp h130,h131,h132,h135,h136,h137,h140]<;>rfl)
     rcases j4 h with⟨h141,h⟩|⟨h141,h⟩
     ·cases h
      exact zc (by simp only[go_sem,seval,ym,yc,ya,h130,yp h130,h131,h132,h135,h136,h137,h140,h141,kn]<;>rfl)
     rcases j4 h with⟨h142,h⟩|⟨h142,h⟩
     ·cases h
      exact zq (by simp only[go_sem,seval,ym,yc,ya,h130,yp h130,h131,h132,h135,h136,h137,h140,h141,h142]<;>rfl)
     cases h
     exact zc (by simp only[go_sem,seval,ym,yc,ya,h130,yp h130,h131,h132,h135,h136,h137,h140,h141,h142,kn]<;>rfl)
    rcases j4 h with⟨h143,h⟩|⟨h143,h⟩
    ·cases h
     exact zq (by simp only[go_sem,seval,ym,yc,ya,h130,yp h130,h131,h132,h135,h136,h143]<;>rfl)
    rcases j4 h with⟨h144,h⟩|⟨h144,h⟩
    ·cases h
     exact zc (by simp only[go_sem,seval,ym,yc,ya,h130,yp h130,h131,h132,h135,h136,h143,h144,kn]<;>rfl)
    rcases j4 h with⟨h145,h⟩|⟨h145,h⟩
    ·cases h
     exact zq (by simp only[go_sem,seval,ym,yc,ya,h130,yp h130,h131,h132,h135,h136,h143,h144,h145]<;>rfl)
    cases h
    exact zc (by simp only[go_sem,seval,ym,yc,ya,h130,yp h130,h131,h132,h135,h136,h143,h144,h145,kn]<;>rfl)
   rcases j4 h with⟨h146,h⟩|⟨h146,h⟩
   ·rcases j4 h with⟨h147,h⟩|⟨h147,h⟩
    ·rcases j4 h with⟨h148,h⟩|⟨h148,h⟩
     ·cases h
      exact zc (by simp only[go_sem,seval,ym,yc,ya,h130,yp h130,h131,h132,h135,h146,h147,h148,kn]<;>rfl)
     cases h
     exact zq (by simp only[go_sem,seval,ym,yc,ya,h130,yp h130,h131,h132,h135,h146,h147,h148]<;>rfl)
    rcases j4 h with⟨h149,h⟩|⟨h149,h⟩
    ·cases h
     exact zc (by simp only[go_sem,seval,ym,yc,ya,h130,yp h130,h131,h132,h135,h146,h147,h149,kn]<;>rfl)
    rcases j4 h with⟨h150,h⟩|⟨h150,h⟩
    ·cases h
     exact zq (by simp only[go_sem,seval,ym,yc,ya,h130,yp h130,h131,h132,h135,h146,h147,h149,h150]<;>rfl)
    cases h
    exact zc (by simp only[go_sem,seval,ym,yc,ya,h130,yp h130,h131,h132,h135,h146,h147,h149,h150,kn]<;>rfl)
   rcases j4 h with⟨h151,h⟩|⟨h151,h⟩
   ·cases h
    exact zc (by simp only[go_sem,seval,ym,yc,ya,h130,yp h130,h131,h132,h135,h146,h151,kn]<;>rfl)
   rcases j4 h with⟨h152,h⟩|⟨h152,h⟩
   ·cases h
    exact zq (by simp only[go_sem,seval,ym,yc,ya,h130,yp h130,h131,h132,h135,h146,h151,h152]<;>rfl)
   cases h
   exact zc (by simp only[go_sem,seval,ym,yc,ya,h130,yp h130,h131,h132,h135,h146,h151,h152,kn]<;>rfl)
  rcases j4 h with⟨h153,h⟩|⟨h153,h⟩
  ·rcases j4 h with⟨h154,h⟩|⟨h154,h⟩
   ·rcases j4 h with⟨h155,h⟩|⟨h155,h⟩
    ·rcases j4 h with⟨h156,h⟩|⟨h156,h⟩
     ·cases h
      exact zq (by simp only[go_sem,seval,ym,yc,ya,h130,yp h130,h131,h153,h154,h155,h156]<;>rfl)
     rcases j4 h with⟨h157,h⟩|⟨h157,h⟩
     ·cases h
      exact zc (by simp only[go_sem,seval,ym,yc,ya,h130,yp h130,h131,h153,h154,h155,h156,h157,kn]<;>rfl)
     cases h
     exact zq (by simp only[go_sem,seval,ym,yc,ya,h130,yp h130,h131,h153,h154,h155,h156,h157]<;>rfl)
    rcases j4 h with⟨h158,h⟩|⟨h158,h⟩
    ·cases h
     exact zq (by simp only[go_sem,seval,ym,yc,ya,h130,yp h130,h131,h153,h154,h155,h158]<;>rfl)
    rcases j4 h with⟨h159,h⟩|⟨h159,h⟩
    ·cases h
     exact zc (by simp only[go_sem,seval,ym,yc,ya,h130,yp h130,h131,h153,h154,h155,h158,h159,kn]<;>rfl)
    rcases j4 h with⟨h160,h⟩|⟨h160,h⟩
    ·cases h
     exact zq (by simp only[go_sem,seval,ym,yc,ya,h130,yp h130,h131,h153,h154,h155,h158,h159,h160]<;>rfl)
    cases h
    exact zc (by simp only[go_sem,seval,ym,yc,ya,h130,yp h130,h131,h153,h154,h155,h158,h159,h160,kn]<;>rfl)
   rcases j4 h with⟨h161,h⟩|⟨h161,h⟩
   ·cases h
    exact zq (by simp only[go_sem,seval,ym,yc,ya,h130,yp h130,h131,h153,h154,h161]<;>rfl)
   rcases j4 h with⟨h162,h⟩|⟨h162,h⟩
   ·cases h
    exact zc (by simp only[go_sem,seval,ym,yc,ya,h130,yp h130,h131,h153,h154,h161,h162,kn]<;>rfl)
   rcases j4 h with⟨h163,h⟩|⟨h163,h⟩
   ·cases h
    exact zq (by simp only[go_sem,seval,ym,yc,ya,h130,yp h130,h131,h153,h154,h161,h162,h163]<;>rfl)
   cases h
   exact zc (by simp only[go_sem,seval,ym,yc,ya,h130,yp h130,h131,h153,h154,h161,h162,h163,kn]<;>rfl)
  rcases j4 h with⟨h164,h⟩|⟨h164,h⟩
  ·rcases j4 h with⟨h165,h⟩|⟨h165,h⟩
   ·rcases j4 h with⟨h166,h⟩|⟨h166,h⟩
    ·cases h
     exact zc (by simp only[go_sem,seval,ym,yc,ya,h130,yp h130,h131,h153,h164,h165,h166,kn]<;>rfl)
    cases h
    exact zq (by simp only[go_sem,seval,ym,yc,ya,h130,yp h130,h131,h153,h164,h165,h166]<;>rfl)
   rcases j4 h with⟨h167,h⟩|⟨h167,h⟩
   ·cases h
    exact zc (by simp only[go_sem,seval,ym,yc,ya,h130,yp h130,h131,h153,h164,h165,h167,kn]<;>rfl)
   rcases j4 h with⟨h168,h⟩|⟨h168,h⟩
   ·cases h
    exact zq (by simp only[go_sem,seval,ym,yc,ya,h130,yp h130,h131,h153,h164,h165,h167,h168]<;>rfl)
   cases h
   exact zc (by simp only[go_sem,seval,ym,yc,ya,h130,yp h130,h131,h153,h164,h165,h167,h168,kn]<;>rfl)
  rcases j4 h with⟨h169,h⟩|⟨h169,h⟩
  ·cases h
   exact zc (by simp only[go_sem,seval,ym,yc,ya,h130,yp h130,h131,h153,h164,h169,kn]<;>rfl)
  rcases j4 h with⟨h170,h⟩|⟨h170,h⟩
  ·cases h
   exact zq (by simp only[go_sem,seval,ym,yc,ya,h130,yp h130,h131,h153,h164,h169,h170]<;>rfl)
  cases h
  exact zc (by simp only[go_sem,seval,ym,yc,ya,h130,yp h130,h131,h153,h164,h169,h170,kn]<;>rfl)
 cases h
 exact zc (by simp only[go_sem,seval,ym,yc,ya,h130,jc4 h130,kn]<;>rfl)
theorem jmi (a0:List UInt8):∀(x:Option (Nat)) (r) (h:qsj a0 x=some r),yt pr ym (yc a0) (kn a0) x r
 |none,r,h=>jia a0 r h
 |some x,r,h=>ji0 a0 x r h
theorem jb3 (a0:List UInt8){s0:Option (Nat)}{d}(h:itO (qsj a0) s0=some d):X pr (.loop ym) (yc a0 s0)=some (kn a0 d):=kg (jmi a0) (fun d=>by rcases d with d|d<;>(intro hh;cases hh)) h
def f107 (a0:List UInt8):Option Bool:=
 j5 (itO (qsj a0) none) fun d192=>match d192 with
  | .inl d194=>
   some false
  | .inr d195=>
   cond (decide (a0=[]))
    (some false)
    (some (decide ((a0.length:Int)≤24)))
theorem j0t {a0:List UInt8}{r}(h:f107 a0=some r):zb pr (X pr) 107 [.str a0]=some (.bool r,false):=by
 unfold f107 at h
 obtain⟨d192,h193,h⟩:=j0 h
 rcases d192 with d194|d195
 ·have wh193:=jb3 a0 h193
  dsimp only[yc,ya,kn]at wh193
  obtain rfl:=oi h
  refine zk c107 ?_
  simp only[go_sem,seval,c107,wh193]
  exact⟨_,rfl⟩
 have wh193:=jb3 a0 h193
 dsimp only[yc,ya,kn]at wh193
 rcases j4 h with⟨h196,h⟩|⟨h196,h⟩
 ·obtain rfl:=oi h
  refine zk c107 ?_
  simp only[go_sem,seval,c107,wh193,h196]
  exact⟨_,rfl⟩
 obtain rfl:=oi h
 refine zk c107 ?_
 simp only[go_sem,seval,c107,wh193,h196]
 exact⟨_,rfl⟩
def f194 (a0:Bool)(a1:Int):Option Int:=
 cond a0
  (some a1)
  (some 0)
theorem qcb {a0:Bool}{a1:Int}{r}(h:f194 a0 a1=some r):zb pr (X pr) 194 [.bool a0,Iv a1]=some (Iv r,false):=by
 unfold f194 at h
 rcases j4 h with⟨h1,h⟩|⟨h1,h⟩
 ·obtain rfl:=oi h
  refine zk c194 ?_
  simp only[go_sem,seval,c194,h1]
  exact⟨_,rfl⟩
 obtain rfl:=oi h
 refine zk c194 ?_
 simp only[go_sem,seval,c194,h1]
 exact⟨_,rfl⟩
def f195 (a0:Int)(a1:Int)(a2:Int):Option Int:=
 cond (decide (a0<a1))
  (j5 (f194 true 3) fun v2=>
  some v2)
  (j5 (f194 (decide (a2<a0)) 3) fun v4=>
  some v4)
theorem ql2 {a0:Int}{a1:Int}{a2:Int}{r}(h:f195 a0 a1 a2=some r):zb pr (X pr) 195 [Iv a0,Iv a1,Iv a2]=some (Iv r,false):=by
 unfold f195 at h
 rcases j4 h with⟨h1,h⟩|⟨h1,h⟩
 ·obtain⟨v2,h3,h⟩:=j0 h
  obtain rfl:=oi h
  refine zk c195 ?_
  simp only[go_sem,seval,c195,h1,qcb h3]
  exact⟨_,rfl⟩
 obtain⟨v4,h5,h⟩:=j0 h
 have wh5:=qcb h5
 obtain rfl:=oi h
 refine zk c195 ?_
 simp only[go_sem,seval,c195,h1,wh5]
 exact⟨_,rfl⟩
def qma (a0:TI)(s0:Int):Option (Int⊕(Int⊕Int)):=
 cond (decide (s0<((a0.getD []).length:Int)))
  (j5 (yo (a0.getD []) s0) fun v10=>
  cond (decide (v10=0))
   (some (.inl (j9 .i64 (s0+1))))
   (some (.inr (.inl v10))))
  (some (.inr (.inr s0)))
def qht (a0:TI)(s0:Int):qd:=⟨[(5,sl 1 zg a0,false),(6,Lv a0,false),(7,Iv s0,false)],[]⟩
def qla (a0:TI):Int⊕Int→qj×qd
 | .inl d=>(.ret,⟨[(2,Iv d,false)],[]⟩)
 | .inr d=>(.exit 0,⟨[(5,sl 1 zg a0,false),(6,Lv a0,false),(7,Iv d,false),(8,.bool false,false)],[]⟩)
theorem jm3 (a0:TI)(s0:Int)(r)(h:qma a0 s0=some r):yt pr qos (qht a0) (qla a0) s0 r:=by
 unfold qma at h
 rcases j4 h with⟨h9,h⟩|⟨h9,h⟩
 ·obtain⟨v10,h11,h⟩:=j0 h
  rcases j4 h with⟨h12,h⟩|⟨h12,h⟩
  ·cases h
   exact zq (by simp only[go_sem,seval,qos,qht,h9,zm h11,h12]<;>rfl)
  cases h
  exact zc (by simp only[go_sem,seval,qos,qht,h9,zm h11,h12,qla]<;>rfl)
 cases h
 exact zc (by simp only[go_sem,seval,qos,qht,h9,qla]<;>rfl)
theorem ja8 (a0:TI){s0:Int}{d}(h:itO (qma a0) s0=some d):X pr (.loop qos) (qht a0 s0)=some (qla a0 d):=kg (jm3 a0) (fun d=>by rcases d with d|d<;>(intro hh;cases hh)) h
def f171 (a0:TI):Option Int:=
 j5 (itO (qma a0) 0) fun d13=>match d13 with
  | .inl d15=>
   some d15
  | .inr d16=>
   some 0
theorem qsh {a0:TI}{r}(h:f171 a0=some r):zb pr (X pr) 171 [sl 1 zg a0]=some (Iv r,false):=by
 unfold f171 at h
 obtain⟨d13,h14,h⟩:=j0 h
 rcases d13 with d15|d16
 ·have wh14:=ja8 a0 h14
  dsimp only[qht,qla]at wh14
  obtain rfl:=oi h
  refine zk c171 ?_
  simp only[go_sem,seval,c171,wh14]
  exact⟨_,rfl⟩
 have wh14:=ja8 a0 h14
 dsimp only[qht,qla]at wh14
 obtain rfl:=oi h
 refine zk c171 ?_
 simp only[go_sem,seval,c171,wh14]
 exact⟨_,rfl⟩
def f172 (a0:Int):Option Int:=
 j5 (f195 a0 1 8) fun v1=>
 some v1
theorem jnq {a0:Int}{r}(h:f172 a0=some r):zb pr (X pr) 172 [Iv a0]=some (Iv r,false):=by
 unfold f172 at h
 obtain⟨v1,h2,h⟩:=j0 h
 obtain rfl:=oi h
 refine zk c172 ?_
 simp only[go_sem,seval,c172,ql2 h2]
 exact⟨_,rfl⟩
def f122 (a0:Int):Option Int:=
 j5 (f109 a0 1 8) fun v1=>
 some v1
theorem j0s {a0:Int}{r}(h:f122 a0=some r):zb pr (X pr) 122 [Iv a0]=some (Iv r,false):=by
 unfold f122 at h
 obtain⟨v1,h2,h⟩:=j0 h
 obtain rfl:=oi h
 refine zk c122 ?_
 simp only[go_sem,seval,c122,qsr h2]
 exact⟨_,rfl⟩
def qli (a0:TE)(s0:Int):Option (Int⊕((Int×(List UInt8)×Int×Int)⊕(Int×(List UInt8)×Int×Int)⊕(Int×(List UInt8)×Int×Int)⊕(Int×(List UInt8)×Int×Int)⊕(Int×(List UInt8)×Int×Int)⊕Int)):=
 cond (decide (s0<((a0.getD []).length:Int)))
  (j5 (yo (a0.getD []) s0) fun v151=>
  cond (decide (v151.kind=([98,108,111,99,107]:List UInt8)))
   (j5 (f194 false 13) fun v154=>
   j5 (f195 v151.a 0 8) fun v156=>
   j5 (f195 v151.b 0 8) fun v158=>
   cond (decide (v151.a=0))
    (j5 (f194 (decide (v151.b=0)) 6) fun v161=>
    j5 (f171 (some [v154,v156,v158,v161])) fun v163=>
    cond (decide (v163=0))
     (some (.inl (j9 .i64 (s0+1))))
     (some (.inr (.inl (v163,v151.kind,v151.a,v151.b)))))
    (j5 (f194 false 6) fun v166=>
    j5 (f171 (some [v154,v156,v158,v166])) fun v168=>
    cond (decide (v168=0))
     (some (.inl (j9 .i64 (s0+1))))
     (some (.inr (.inl (v168,v151.kind,v151.a,v151.b))))))
   (cond (decide (v151.kind=([115,101,114,105,101,115]:List UInt8)))
    (j5 (f194 false 13) fun v172=>
    j5 (f195 v151.a 0 8) fun v174=>
    j5 (f195 v151.b 0 8) fun v176=>
    j5 (f194 false 6) fun v178=>
    j5 (f171 (some [v172,v174,v176,v178])) fun v180=>
    cond (decide (v180=0))
     (some (.inl (j9 .i64 (s0+1))))
     (some (.inr (.inr (.inl (v180,v151.kind,v151.a,v151.b))))))
    (cond (decide (v151.kind=([115,104,117,110,116]:List UInt8)))
     (j5 (f194 false 13) fun v184=>
     j5 (f195 v151.a 0 8) fun v186=>
     j5 (f195 v151.b 0 8) fun v188=>
     j5 (f194 false 6) fun v190=>
     j5 (f171 (some [v184,v186,v188,v190])) fun v192=>
     cond (decide (v192=0))
      (some (.inl (j9 .i64 (s0+1))))
      (some (.inr (.inr (.inr (.inl (v192,v151.kind,v151.a,v151.b)))))))
     (cond (decide (v151.kind=([116,114,97,112]:List UInt8)))
      (j5 (f194 false 13) fun v196=>
      j5 (f195 v151.a 0 8) fun v198=>
      j5 (f195 v151.b 0 8) fun v200=>
      cond (decide (v151.a=0))
       (j5 (f194 (decide (v151.b=0)) 6) fun v203=>
       j5 (f171 (some [v196,v198,v200,v203])) fun v205=>
       cond (decide (v205=0))
        (some (.inl (j9 .i64 (s0+1))))
        (some (.inr (.inr (.inr (.inr (.inl (v205,v151.kind,v151.a,v151.b))))))))
       (j5 (f194 false 6) fun v208=>
       j5 (f171 (some [v196,v198,v200,v208])) fun v210=>
       cond (decide (v210=0))
        (some (.inl (j9 .i64 (s0+1))))
        (some (.inr (.inr (.inr (.inr (.inl (v210,v151.kind,v151.a,v151.b)))))))))
      (j5 (f194 true 13) fun v213=>
      j5 (f195 v151.a 0 8) fun v215=>
      j5 (f195 v151.b 0 8) fun v217=>
      j5 (f194 false 6) fun v219=>
      j5 (f171 (some [v213,v215,v217,v219])) fun v221=>
      cond (decide (v221=0))
       (some (.inl (j9 .i64 (s0+1))))
       (some (.inr (.inr (.inr (.inr (.inr (.inl (v221,v151.kind,v151.a,v151.b)))))))))))))
  (some (.inr (.inr (.inr (.inr (.inr (.inr s0)))))))
def ku (a0:TE)(s0:Int):qd:=⟨[(11,sl 3 vel a0,false),(12,Lv a0,false),(13,Iv s0,false)],[]⟩
def qb9 (a0:TE):(Int×(List UInt8)×Int×Int)⊕(Int×(List UInt8)×Int×Int)⊕(Int×(List UInt8)×Int×Int)⊕(Int×(List UInt8)×Int×Int)⊕(Int×(List UInt8)×Int×Int)⊕Int→qj×qd
 | .inl d=>(.ret,⟨[(2,Iv d.1,false)],[.cells [(.str d.2.1,false),(Iv d.2.2.1,false),(Iv d.2.2.2,false)],.map qan,.cells [(.str ([116,114,97,112]:List UInt8),false),(.bool true,false),(.fn (.func 218) [] [],false)]]⟩)
 | .inr (.inl d)=>(.ret,⟨[(2,Iv d.1,false)],[.cells [(.str d.2.1,false),(Iv d.2.2.1,false),(Iv d.2.2.2,false)],.map qan,.cells [(.str ([115,104,117,110,116]:List UInt8),false),(.bool false,false),(.fn (.func 219) [] [],false)]]⟩)
 | .inr (.inr (.inl d))=>(.ret,⟨[(2,Iv d.1,false)],[.cells [(.str d.2.1,false),(Iv d.2.2.1,false),(Iv d.2.2.2,false)],.map qan,.cells [(.str ([115,101,114,105,101,115]:List UInt8),false),(.bool false,false),(.fn (.func 220) [] [],false)]]⟩)
 | .inr (.inr (.inr (.inl d)))=>(.ret,⟨[(2,Iv d.1,false)],[.cells [(.str d.2.1,false),(Iv d.2.2.1,false),(Iv d.2.2.2,false)],.map qan,.cells [(.str ([98,108,111,99,107]:List UInt8),false),(.bool true,false),(.fn (.func 221) [] [],false)]]⟩)
 | .inr (.inr (.inr (.inr (.inl d))))=>(.ret,⟨[(2,Iv d.1,false)],[.cells [(.str d.2.1,false),(Iv d.2.2.1,false),(Iv d.2.2.2,false)],.map qan,.cells [(.str [],false),(.bool false,false),(.nilfn,false)]]⟩)
 | .inr (.inr (.inr (.inr (.inr d))))=>(.exit 0,⟨[(11,sl 3 vel a0,false),(12,Lv a0,false),(13,Iv d,false),(14,.bool false,false)],[]⟩)
theorem jod (a0:TE)(s0:Int)(r)(h:qli a0 s0=some r):yt pr qch (ku a0) (qb9 a0) s0 r:=by
 unfold qli at h
 rcases j4 h with⟨h150,h⟩|⟨h150,h⟩
 ·obtain⟨v151,h152,h⟩:=j0 h
  rcases j4 h with⟨h153,h⟩|⟨h153,h⟩
  ·obtain⟨v154,h155,h⟩:=j0 h
   obtain⟨v156,h157,h⟩:=j0 h
   have wh157:=ql2 h157
   obtain⟨v158,h159,h⟩:=j0 h
   have wh159:=ql2 h159
   rcases j4 h with⟨h160,h⟩|⟨h160,h⟩
   ·obtain⟨v161,h162,h⟩:=j0 h
    have wh162:=qcb h162
    obtain⟨v163,h164,h⟩:=j0 h
    have wh164:zb pr (X pr) 171 [.list false 1 [Iv v154,Iv v156,Iv v158,Iv v161]]=some (Iv v163,false):=qsh h164
    rcases j4 h with⟨h165,h⟩|⟨h165,h⟩
    ·cases h
     exact qag (by simp only[go_sem,seval,qch,ku,h150,zm h152,h153,qxc h153,qcb h155,wh157,wh159,h160,wh162,wh164,h165];exact⟨_,rfl⟩) rfl (by first|simp only[go_sem,seval,ku]|rfl) (by first|simp only[go_sem,seval,ku]|rfl)
    cases h
    exact zc (by simp only[go_sem,seval,qch,ku,h150,zm h152,h153,qxc h153,qcb h155,wh157,wh159,h160,wh162,wh164,h165,qb9]<;>rfl)
   obtain⟨v166,h167,h⟩:=j0 h
   obtain⟨v168,h169,h⟩:=j0 h
   have wh169:zb pr (X pr) 171 [.list false 1 [Iv v154,Iv v156,Iv v158,Iv v166]]=some (Iv v168,false):=qsh h169
   rcases j4 h with⟨h170,h⟩|⟨h170,h⟩
   ·cases h
    exact qag (by simp only[go_sem,seval,qch,ku,h150,zm h152,h153,qxc h153,qcb h155,wh157,wh159,h160,qcb h167,wh169,h170];exact⟨_,rfl⟩) rfl (by first|simp only[go_sem,seval,ku]|rfl) (by first|simp only[go_sem,seval,ku]|rfl)
   cases h
   exact zc (by simp only[go_sem,seval,qch,ku,h150,zm h152,h153,qxc h153,qcb h155,wh157,wh159,h160,qcb h167,wh169,h170,qb9]<;>rfl)
  rcases j4 h with⟨h171,h⟩|⟨h171,h⟩
  ·obtain⟨v172,h173,h⟩:=j0 h
   obtain⟨v174,h175,h⟩:=j0 h
   have wh175:=ql2 h175
   obtain⟨v176,h177,h⟩:=j0 h
   have wh177:=ql2 h177
   obtain⟨v178,h179,h⟩:=j0 h
   obtain⟨v180,h181,h⟩:=j0 h
   have wh181:zb pr (X pr) 171 [.list false 1 [Iv v172,Iv v174,Iv v176,Iv v178]]=some (Iv v180,false):=qsh h181
   rcases j4 h with⟨h182,h⟩|⟨h182,h⟩
   ·cases h
    exact qag (by simp only[go_sem,seval,qch,ku,h150,zm h152,h153,h171,q8h h153 h171,qcb h173,wh175,wh177,qcb h179,wh181,h182];exact⟨_,rfl⟩) rfl (by first|simp only[go_sem,seval,ku]|rfl) (by first|simp only[go_sem,seval,ku]|rfl)
   cases h
   exact zc (by simp only[go_sem,seval,qch,ku,h150,zm h152,h153,h171,q8h h153 h171,qcb h173,wh175,wh177,qcb h179,wh181,h182,qb9]<;>rfl)
  rcases j4 h with⟨h183,h⟩|⟨h183,h⟩
  ·obtain⟨v184,h185,h⟩:=j0 h
   obtain⟨v186,h187,h⟩:=j0 h
   have wh187:=ql2 h187
   obtain⟨v188,h189,h⟩:=j0 h
   have wh189:=ql2 h189
   obtain⟨v190,h191,h⟩:=j0 h
   obtain⟨v192,h193,h⟩:=j0 h
   have wh193:zb pr (X pr) 171 [.list false 1 [Iv v184,Iv v186,Iv v188,Iv v190]]=some (Iv v192,false):=qsh h193
   rcases j4 h with⟨h194,h⟩|⟨h194,h⟩
   ·cases h
    exact qag (by simp only[go_sem,seval,qch,ku,h150,zm h152,h153,h171,h183,q75 h153 h171 h183,qcb h185,wh187,wh189,qcb h191,wh193,h194];exact⟨_,rfl⟩) rfl (by first|simp only[go_sem,seval,ku]|rfl) (by first|simp only[go_sem,seval,ku]|rfl)
   cases h
   exact zc (by simp only[go_sem,seval,qch,ku,h150,zm h152,h153,h171,h183,q75 h153 h171 h183,qcb h185,wh187,wh189,qcb h191,wh193,h194,qb9]<;>rfl)
  rcases j4 h with⟨h195,h⟩|⟨h195,h⟩
  ·obtain⟨v196,h197,h⟩:=j0 h
   obtain⟨v198,h199,h⟩:=j0 h
   have wh199:=ql2 h199
   obtain⟨v200,h201,h⟩:=j0 h
   have wh201:=ql2 h201
   rcases j4 h with⟨h202,h⟩|⟨h202,h⟩
   ·obtain⟨v203,h204,h⟩:=j0 h
    have wh204:=qcb h204
    obtain⟨v205,h206,h⟩:=j0 h
    have wh206:zb pr (X pr) 171 [.list false 1 [Iv v196,Iv v198,Iv v200,Iv v203]]=some (Iv v205,false):=qsh h206
    rcases j4 h with⟨h207,h⟩|⟨h207,h⟩
    ·cases h
     exact qag (by simp only[go_sem,seval,qch,ku,h150,zm h152,h153,h171,h183,h195,qxk h153 h171 h183 h195,qcb h197,wh199,wh201,h202,wh204,wh206,h207];exact⟨_,rfl⟩) rfl (by first|simp only[go_sem,seval,ku]|rfl) (by first|simp only[go_sem,seval,ku]|rfl)
    cases h
    exact zc (by simp only[go_sem,seval,qch,ku,h150,zm h152,h153,h171,h183,h195,qxk h153 h171 h183 h195,qcb h197,wh199,wh201,h202,wh204,wh206,h207,qb9]<;>rfl)
   obtain⟨v208,h209,h⟩:=j0 h
   obtain⟨v210,h211,h⟩:=j0 h
   have wh211:zb pr (X pr) 171 [.list false 1 [Iv v196,Iv v198,Iv v200,Iv v208]]=some (Iv v210,false):=qsh h211
   rcases j4 h with⟨h212,h⟩|⟨h212,h⟩
   ·cases h
    exact qag (by simp only[go_sem,seval,qch,ku,h150,zm h152,h153,h171,h183,h195,qxk h153 h171 h183 h195,qcb h197,wh199,wh201,h202,qcb h209,wh211,h212];exact⟨_,rfl⟩) rfl (by first|simp only[go_sem,seval,ku]|rfl) (by first|simp only[go_sem,seval,ku]|rfl)
   cases h
   exact zc (by simp only[go_sem,seval,qch,ku,h150,zm h152,h153,h171,h183,h195,qxk h153 h171 h183 h195,qcb h197,wh199,wh201,h202,qcb h209,wh211,h212,qb9]<;>rfl)
  obtain⟨v213,h214,h⟩:=j0 h
  obtain⟨v215,h216,h⟩:=j0 h
  have wh216:=ql2 h216
  obtain⟨v217,h218,h⟩:=j0 h
  have wh218:=ql2 h218
  obtain⟨v219,h220,h⟩:=j0 h
  obtain⟨v221,h222,h⟩:=j0 h
  have wh222:zb pr (X pr) 171 [.list false 1 [Iv v213,Iv v215,Iv v217,Iv v219]]=some (Iv v221,false):=qsh h222
  rcases j4 h with⟨h223,h⟩|⟨h223,h⟩
  ·cases h
   exact qag (by simp only[go_sem,seval,qch,ku,h150,zm h152,h153,h171,h183,h195,jhs h153 h171 h183 h195,qcb h214,wh216,wh218,qcb h220,wh222,h223];exact⟨_,rfl⟩) rfl (by first|simp only[go_sem,seval,ku]|rfl) (by first|simp only[go_sem,seval,ku]|rfl)
  cases h
  exact zc (by simp only[go_sem,seval,qch,ku,h150,zm h152,h153,h171,h183,h195,jhs h153 h171 h183 h195,qcb h214,wh216,wh218,qcb h220,wh222,h223,qb9]<;>rfl)
 cases h
 exact zc (by simp only[go_sem,seval,qch,ku,h150,qb9]<;>rfl)
theorem qn4 (a0:TE){s0:Int}{d}(h:itO (qli a0) s0=some d):X pr (.loop qch) (ku a0 s0)=some (qb9 a0 d):=kg (jod a0) (fun d=>by rcases d with d|d|d|d|d|d<;>(intro hh;cases hh)) h
def f158 (a0:TE):Option Int:=
 cond (decide (5<((a0.getD []).length:Int)))
  (some 5)
  (j5 (itO (qli a0) 0) fun d224=>match d224 with
   | .inl d226=>
    some d226.1
   | .inr (.inl d227)=>
    some d227.1
   | .inr (.inr (.inl d228))=>
    some d228.1
   | .inr (.inr (.inr (.inl d229)))=>
    some d229.1
   | .inr (.inr (.inr (.inr (.inl d230))))=>
    some d230.1
   | .inr (.inr (.inr (.inr (.inr d231))))=>
    some 0)
theorem q9p {a0:TE}{r}(h:f158 a0=some r):zb pr (X pr) 158 [sl 3 vel a0]=some (Iv r,false):=by
 unfold f158 at h
 rcases j4 h with⟨h1,h⟩|⟨h1,h⟩
 ·obtain rfl:=oi h
  refine zk c158 ?_
  simp only[go_sem,seval,c158,h1]
  exact⟨_,rfl⟩
 obtain⟨d224,h225,h⟩:=j0 h
 rcases d224 with d226|d227|d228|d229|d230|d231
 ·have wh225:=qn4 a0 h225
  dsimp only[ku,qb9]at wh225
  obtain rfl:=oi h
  refine zk c158 ?_
  simp only[go_sem,seval,c158,h1,wh225]
  exact⟨_,rfl⟩
 ·have wh225:=qn4 a0 h225
  dsimp only[ku,qb9]at wh225
  obtain rfl:=oi h
  refine zk c158 ?_
  simp only[go_sem,seval,c158,h1,wh225]
  exact⟨_,rfl⟩
 ·have wh225:=qn4 a0 h225
  dsimp only[ku,qb9]at wh225
  obtain rfl:=oi h
  refine zk c158 ?_
  simp only[go_sem,seval,c158,h1,wh225]
  exact⟨_,rfl⟩
 ·have wh225:=qn4 a0 h225
  dsimp only[ku,qb9]at wh225
  obtain rfl:=oi h
  refine zk c158 ?_
  simp only[go_sem,seval,c158,h1,wh225]
  exact⟨_,rfl⟩
 ·have wh225:=qn4 a0 h225
  dsimp only[ku,qb9]at wh225
  obtain rfl:=oi h
  refine zk c158 ?_
  simp only[go_sem,seval,c158,h1,wh225]
  exact⟨_,rfl⟩
 have wh225:=qn4 a0 h225
 dsimp only[ku,qb9]at wh225
 obtain rfl:=oi h
 refine zk c158 ?_
 simp only[go_sem,seval,c158,h1,wh225]
 exact⟨_,rfl⟩
def f108 (a0:ql):Option Int:=
 j5 (f158 (some [a0])) fun v1=>
 some v1
theorem j3x {a0:ql}{r}(h:f108 a0=some r):zb pr (X pr) 108 [.agg [.str a0.kind,Iv a0.a,Iv a0.b]]=some (Iv r,false):=by
 unfold f108 at h
 obtain⟨v1,h2,h⟩:=j0 h
 have wh2:zb pr (X pr) 158 [.list false 3 [.agg [.str a0.kind,Iv a0.a,Iv a0.b]]]=some (Iv v1,false):=q9p h2
 obtain rfl:=oi h
 refine zk c108 ?_
 simp only[go_sem,seval,c108,wh2]
 exact⟨_,rfl⟩
def q1s (a0:ql):Option Int:=
 j5 (f158 (some [a0])) fun v1=>
 some v1
theorem jsu (hp:ze){a0:ql}{r}(h:q1s a0=some r):ye pr (X pr) 108 [.agg [.str a0.kind,Iv a0.a,Iv a0.b]] hp=some (Iv r,false,hp):=by
 unfold q1s at h
 obtain⟨v1,h2,h⟩:=j0 h
 have wh2:zb pr (X pr) 158 [.list false 3 [.agg [.str a0.kind,Iv a0.a,Iv a0.b]]]=some (Iv v1,false):=q9p h2
 have hr:v1=r:=Option.some.inj h
 subst hr
 rw[kr (show pr.fns 108=some c108 from rfl) (by simp)]
 simp only[go_sem,seval,c108,wh2]<;>rfl
def f155 (a0:Int)(a1:Int):Option qh:=
 some (⟨j9 .i64 (a0-a1),j9 .i64 (a0+a1)⟩)
theorem jm2 {a0:Int}{a1:Int}{r}(h:f155 a0 a1=some r):zb pr (X pr) 155 [Iv a0,Iv a1]=some (.agg [Iv r.num,Iv r.den],false):=by
 unfold f155 at h
 obtain rfl:=oi h
 refine zk c155 ?_
 simp only[go_sem,seval,c155]
 exact⟨_,rfl⟩
def qly (a0:qh)(s0:TI×Int×Bool):Option ((TI×Int×Bool)⊕((TI×Bool×Int))):=
 cond (decide (s0.2.1≤a0.den))
  (cond s0.2.2
   (j5 (apO s0.1 [s0.2.1]) fun v13=>
   some (.inl (v13,j9 .i64 (s0.2.1+1),true)))
   (cond s0.1.isNone
    (j5 (apO s0.1 [s0.2.1]) fun v16=>
    some (.inl (v16,j9 .i64 (s0.2.1+1),true)))
    (none)))
  (some (.inr (s0.1,s0.2.2,s0.2.1)))
def qlh (a0:qh)(s0:TI×Int×Bool):qd:=⟨[(2,.vptr (.agg [Iv a0.num,Iv a0.den]),false),(5,sl 1 zg s0.1,s0.2.2),(6,Iv s0.2.1,false)],[]⟩
def qua (a0:qh)(d:(TI×Bool×Int)):qj×qd:=(.exit 0,⟨[(2,.vptr (.agg [Iv a0.num,Iv a0.den]),false),(5,sl 1 zg d.1,d.2.1),(6,Iv d.2.2,false),(28,.bool false,false)],[]⟩)
theorem jnx (a0:qh)(s0:TI×Int×Bool)(r)(h:qly a0 s0=some r):yt pr qou (qlh a0) (qua a0) s0 r:=by
 unfold qly at h
 rcases j4 h with⟨h11,h⟩|⟨h11,h⟩
 ·rcases j4 h with⟨h12,h⟩|⟨h12,h⟩
  ·obtain⟨v13,h14,h⟩:=j0 h
   cases h
   exact zq (by simp only[go_sem,seval,qou,qlh,h11,h12,qfz h14]<;>rfl)
  rcases j4 h with⟨h15,h⟩|⟨h15,h⟩
  ·obtain⟨v16,h17,h⟩:=j0 h
   cases h
   exact zq (by simp only[go_sem,seval,qou,qlh,h11,h12,h15,qfy h17 h15]<;>rfl)
  cases h
 cases h
 exact zc (by simp only[go_sem,seval,qou,qlh,h11,qua]<;>rfl)
theorem jo6 (a0:qh){s0:TI×Int×Bool}{d}(h:itO (qly a0) s0=some d):X pr (.loop qou) (qlh a0 s0)=some (qua a0 d):=kg (jnx a0) (fun d hh=>by cases hh) h
def f156 (a0:qh)(a1:Bool):Option (TI×Bool):=
 cond (decide (a0.den=a0.num))
  (some (some [a0.num],true))
  (cond a1
   (some (some [a0.num,a0.den],true))
   (j5 (itO (qly a0) (none,a0.num,false)) fun d18=>
   some (d18.1,d18.2.1)))
theorem jlx {a0:qh}{a1:Bool}{r}(h:f156 a0 a1=some r):zb pr (X pr) 156 [.agg [Iv a0.num,Iv a0.den],.bool a1]=some (sl 1 zg r.1,r.2):=by
 unfold f156 at h
 rcases j4 h with⟨h1,h⟩|⟨h1,h⟩
 ·obtain rfl:=oi h
  refine qdm c156 ?_
  simp only[go_sem,seval,c156,h1]
  exact⟨_,rfl⟩
 rcases j4 h with⟨h2,h⟩|⟨h2,h⟩
 ·obtain rfl:=oi h
  refine qdm c156 ?_
  simp only[go_sem,seval,c156,h1,h2]
  exact⟨_,rfl⟩
 obtain⟨d18,h19,h⟩:=j0 h
 have wh19:=jo6 a0 h19
 dsimp only[qlh,qua,ql7]at wh19
 obtain rfl:=oi h
 refine qdm c156 ?_
 simp only[go_sem,seval,c156,h1,h2,wh19]
 exact⟨_,rfl⟩
def qqr (a0:qb)(a1:Bool)(v3:TI×Bool)(s0:TE×Int×Bool)(v72:Int)(v76:TI×Bool)(s1:TE×Int×Bool):Option ((TE×Int×Bool)⊕((TE×Bool×Int))):=
 cond (decide (s1.2.1<((v76.1.getD []).length:Int)))
  (j5 (yo (v76.1.getD []) s1.2.1) fun v97=>
  cond s1.2.2
   (j5 (apO s1.1 [⟨a0.kd,v72,v97⟩]) fun v100=>
   some (.inl (v100,j9 .i64 (s1.2.1+1),true)))
   (cond s1.1.isNone
    (j5 (apO s1.1 [⟨a0.kd,v72,v97⟩]) fun v103=>
    some (.inl (v103,j9 .i64 (s1.2.1+1),true)))
    (none)))
  (some (.inr (s1.1,s1.2.2,s1.2.1)))
def qo2 (a0:qb)(a1:Bool)(v3:TI×Bool)(s0:TE×Int×Bool)(v72:Int)(v76:TI×Bool)(s1:TE×Int×Bool):qd:=⟨[(1,.bool a1,false),(2,.vptr (.agg [.str a0.name,.str a0.kd,Iv a0.pa,Iv a0.pb,Iv a0.sa,Iv a0.sb,Iv a0.cost,Iv a0.stock]),false),(5,sl 3 vel s1.1,s1.2.2),(7,Iv v72,false),(17,sl 1 zg v3.1,v3.2),(18,Lv v3.1,false),(19,Iv s0.2.1,false),(30,sl 1 zg v76.1,v76.2),(31,Lv v76.1,false),(32,Iv s1.2.1,false)],[]⟩
def qxx (a0:qb)(a1:Bool)(v3:TI×Bool)(s0:TE×Int×Bool)(v72:Int)(v76:TI×Bool)(d:(TE×Bool×Int)):qj×qd:=(.exit 2,⟨[(1,.bool a1,false),(2,.vptr (.agg [.str a0.name,.str a0.kd,Iv a0.pa,Iv a0.pb,Iv a0.sa,Iv a0.sb,Iv a0.cost,Iv a0.stock]),false),(5,sl 3 vel d.1,d.2.1),(7,Iv v72,false),(17,sl 1 zg v3.1,v3.2),(18,Lv v3.1,false),(19,Iv s0.2.1,false),(30,sl 1 zg v76.1,v76.2),(31,Lv v76.1,false),(32,Iv d.2.2,false),(33,.bool false,false)],[]⟩)
theorem jvt (a0:qb)(a1:Bool)(v3:TI×Bool)(s0:TE×Int×Bool)(v72:Int)(v76:TI×Bool)(s1:TE×Int×Bool)(r)(h:qqr a0 a1 v3 s0 v72 v76 s1=some r):yt pr quk (qo2 a0 a1 v3 s0 v72 v76) (qxx a0 a1 v3 s0 v72 v76) s1 r:=by
 unfold qqr at h
 rcases j4 h with⟨h96,h⟩|⟨h96,h⟩
 ·obtain⟨v97,h98,h⟩:=j0 h
  rcases j4 h with⟨h99,h⟩|⟨h99,h⟩
  ·obtain⟨v100,h101,h⟩:=j0 h
   cases h
   exact zq (by simp only[go_sem,seval,quk,qo2,h96,zm h98,h99,qr5 h101]<;>rfl)
  rcases j4 h with⟨h102,h⟩|⟨h102,h⟩
  ·obtain⟨v103,h104,h⟩:=j0 h
   cases h
   exact zq (by simp only[go_sem,seval,quk,qo2,h96,zm h98,h99,h102,qs8 h104 h102]<;>rfl)
  cases h
 cases h
 exact zc (by simp only[go_sem,seval,quk,qo2,h96,qxx]<;>rfl)
theorem jt9 (a0:qb)(a1:Bool)(v3:TI×Bool)(s0:TE×Int×Bool)(v72:Int)(v76:TI×Bool){s1:TE×Int×Bool}{d}(h:itO (qqr a0 a1 v3 s0 v72 v76) s1=some d):X pr (.loop quk) (qo2 a0 a1 v3 s0 v72 v76 s1)=some (qxx a0 a1 v3 s0 v72 v76 d):=kg (jvt a0 a1 v3 s0 v72 v76) (fun d hh=>by cases hh) h
def qqa (a0:qb)(a1:Bool)(v3:TI×Bool)(s0:TE×Int×Bool):Option ((TE×Int×Bool)⊕((TE×Bool×Int))):=
 cond (decide (s0.2.1<((v3.1.getD []).length:Int)))
  (j5 (yo (v3.1.getD []) s0.2.1) fun v72=>
  j5 (f155 a0.pb a0.sb) fun v74=>
  j5 (f156 v74 a1) fun v76=>
  j5 (itO (qqr a0 a1 v3 s0 v72 v76) (s0.1,0,s0.2.2)) fun d105=>
  some (.inl (d105.1,j9 .i64 (s0.2.1+1),d105.2.1)))
  (some (.inr (s0.1,s0.2.2,s0.2.1)))
def qsb (a0:qb)(a1:Bool)(v3:TI×Bool)(s0:TE×Int×Bool):qd:=⟨[(1,.bool a1,false),(2,.vptr (.agg [.str a0.name,.str a0.kd,Iv a0.pa,Iv a0.pb,Iv a0.sa,Iv a0.sb,Iv a0.cost,Iv a0.stock]),false),(5,sl 3 vel s0.1,s0.2.2),(17,sl 1 zg v3.1,v3.2),(18,Lv v3.1,false),(19,Iv s0.2.1,false)],[]⟩
def qxs (a0:qb)(a1:Bool)(v3:TI×Bool)(d:(TE×Bool×Int)):qj×qd:=(.exit 0,⟨[(1,.bool a1,false),(2,.vptr (.agg [.str a0.name,.str a0.kd,Iv a0.pa,Iv a0.pb,Iv a0.sa,Iv a0.sb,Iv a0.cost,Iv a0.stock]),false),(5,sl 3 vel d.1,d.2.1),(17,sl 1 zg v3.1,v3.2),(18,Lv v3.1,false),(19,Iv d.2.2,false),(20,.bool false,false)],[]⟩)
theorem jtk (a0:qb)(a1:Bool)(v3:TI×Bool)(s0:TE×Int×Bool)(r)(h:qqa a0 a1 v3 s0=some r):yt pr qw1 (qsb a0 a1 v3) (qxs a0 a1 v3) s0 r:=by
 unfold qqa at h
 rcases j4 h with⟨h71,h⟩|⟨h71,h⟩
 ·obtain⟨v72,h73,h⟩:=j0 h
  obtain⟨v74,h75,h⟩:=j0 h
  have wh75:=jm2 h75
  obtain⟨v76,h77,h⟩:=j0 h
  have wh77:=jlx h77
  obtain⟨d105,h106,h⟩:=j0 h
  have wh106:=jt9 a0 a1 v3 s0 v72 v76 h106
  dsimp only[qo2,qxx]at wh106
  cases h
  exact zq (by simp only[go_sem,seval,qw1,qsb,h71,zm h73,wh75,wh77,wh106]<;>rfl)
 cases h
 exact zc (by simp only[go_sem,seval,qw1,qsb,h71,qxs]<;>rfl)
theorem jup (a0:qb)(a1:Bool)(v3:TI×Bool){s0:TE×Int×Bool}{d}(h:itO (qqa a0 a1 v3) s0=some d):X pr (.loop qw1) (qsb a0 a1 v3 s0)=some (qxs a0 a1 v3 d):=kg (jtk a0 a1 v3) (fun d hh=>by cases hh) h
def f99 (a0:qb)(a1:Bool):Option (TE×Bool):=
 j5 (f155 a0.pa a0.sa) fun v1=>
 j5 (f156 v1 a1) fun v3=>
 j5 (itO (qqa a0 a1 v3) (none,0,false)) fun d107=>
 some (d107.1,d107.2.1)
theorem W99 {a0:qb}{a1:Bool}{r}(h:f99 a0 a1=some r):zb pr (X pr) 99 [.agg [.str a0.name,.str a0.kd,Iv a0.pa,Iv a0.pb,Iv a0.sa,Iv a0.sb,Iv a0.cost,Iv a0.stock],.bool a1]=some (sl 3 vel r.1,r.2):=by
 unfold f99 at h
 obtain⟨v1,h2,h⟩:=j0 h
 have wh2:=jm2 h2
 obtain⟨v3,h4,h⟩:=j0 h
 have wh4:=jlx h4
 obtain⟨d107,h108,h⟩:=j0 h
 have wh108:=jup a0 a1 v3 h108
 dsimp only[qsb,qxs,ql7]at wh108
 obtain rfl:=oi h
 refine qdm c99 ?_
 simp only[go_sem,seval,c99,wh2,wh4,wh108]
 exact⟨_,rfl⟩
def qmi (a0:TE)(s0:TI×Int×Bool):Option ((TI×Int×Bool)⊕((TI×Bool×Int))):=
 cond (decide (s0.2.1<((a0.getD []).length:Int)))
  (j5 (yo (a0.getD []) s0.2.1) fun v18=>
  j5 (q1s v18) fun v20=>
  cond s0.2.2
   (j5 (apO s0.1 [v20]) fun v23=>
   some (.inl (v23,j9 .i64 (s0.2.1+1),true)))
   (cond s0.1.isNone
    (j5 (apO s0.1 [v20]) fun v26=>
    some (.inl (v26,j9 .i64 (s0.2.1+1),true)))
    (none)))
  (some (.inr (s0.1,s0.2.2,s0.2.1)))
def qet (a0:TE)(s0:TI×Int×Bool):qd:=⟨[(1,.fn (.func 108) [] [],false),(5,sl 1 zg s0.1,s0.2.2),(8,sl 3 vel a0,false),(9,Lv a0,false),(10,Iv s0.2.1,false)],[]⟩
def qun (a0:TE)(d:(TI×Bool×Int)):qj×qd:=(.exit 0,⟨[(1,.fn (.func 108) [] [],false),(5,sl 1 zg d.1,d.2.1),(8,sl 3 vel a0,false),(9,Lv a0,false),(10,Iv d.2.2,false),(11,.bool false,false)],[]⟩)
theorem jnh (a0:TE)(s0:TI×Int×Bool)(r)(h:qmi a0 s0=some r):yt pr qoa (qet a0) (qun a0) s0 r:=by
 unfold qmi at h
 rcases j4 h with⟨h17,h⟩|⟨h17,h⟩
 ·obtain⟨v18,h19,h⟩:=j0 h
  obtain⟨v20,h21,h⟩:=j0 h
  have wh21:ye pr (X pr) 108 [.agg [.str v18.kind,Iv v18.a,Iv v18.b]] [.cells [(.str v18.kind,false),(Iv v18.a,false),(Iv v18.b,false)]]=some (Iv v20,false,[.cells [(.str v18.kind,false),(Iv v18.a,false),(Iv v18.b,false)]]):=jsu [.cells [(.str v18.kind,false),(Iv v18.a,false),(Iv v18.b,false)]] h21
  rcases j4 h with⟨h22,h⟩|⟨h22,h⟩
  ·obtain⟨v23,h24,h⟩:=j0 h
   cases h
   exact qag (by simp only[go_sem,seval,qoa,qet,h17,zm h19,wh21,h22,qfz h24];exact⟨_,rfl⟩) rfl (by first|simp only[go_sem,seval,qet]|rfl) (by first|simp only[go_sem,seval,qet]|rfl)
  rcases j4 h with⟨h25,h⟩|⟨h25,h⟩
  ·obtain⟨v26,h27,h⟩:=j0 h
   cases h
   exact qag (by simp only[go_sem,seval,qoa,qet,h17,zm h19,wh21,h22,h25,qfy h27 h25];exact⟨_,rfl⟩) rfl (by first|simp only[go_sem,seval,qet]|rfl) (by first|simp only[go_sem,seval,qet]|rfl)
  cases h
 cases h
 exact zc (by simp only[go_sem,seval,qoa,qet,h17,qun]<;>rfl)
theorem jme (a0:TE){s0:TI×Int×Bool}{d}(h:itO (qmi a0) s0=some d):X pr (.loop qoa) (qet a0 s0)=some (qun a0 d):=kg (jnh a0) (fun d hh=>by cases hh) h
def f110 (a0:TE):Option (TI×Bool):=
 j5 (itO (qmi a0) (none,0,false)) fun d28=>
 some (d28.1,d28.2.1)
theorem j3m {a0:TE}{r}(h:f110 a0=some r):zb pr (X pr) 110 [sl 3 vel a0,.fn (.func 108) [] []]=some (sl 1 zg r.1,r.2):=by
 unfold f110 at h
 obtain⟨d28,h29,h⟩:=j0 h
 have wh29:=jme a0 h29
 dsimp only[qet,qun,ql7]at wh29
 obtain rfl:=oi h
 refine qdm c110 ?_
 simp only[go_sem,seval,c110,wh29]
 exact⟨_,rfl⟩
def f22 (a0:qb):Option Int:=
 j5 (f107 a0.name) fun v1=>
 j5 (f106 (!v1) 8) fun v3=>
 j5 (f108 (⟨a0.kd,a0.pa,a0.pb⟩)) fun v5=>
 j5 (f109 a0.sa 0 1) fun v7=>
 j5 (f109 a0.sb 0 1) fun v9=>
 j5 (f109 a0.cost 1 1000000) fun v11=>
 j5 (f109 a0.stock 0 100) fun v13=>
 j5 (f105 (some [v3,v5,v7,v9,v11,v13])) fun v15=>
 cond (decide (v15=0))
  (j5 (f99 a0 false) fun v18=>
  j5 (f110 v18.1) fun v20=>
  j5 (f105 v20.1) fun v22=>
  j5 (f106 (!decide (v22=0)) 1) fun v24=>
  some v24)
  (some v15)
theorem W22 {a0:qb}{r}(h:f22 a0=some r):zb pr (X pr) 22 [.agg [.str a0.name,.str a0.kd,Iv a0.pa,Iv a0.pb,Iv a0.sa,Iv a0.sb,Iv a0.cost,Iv a0.stock]]=some (Iv r,false):=by
 unfold f22 at h
 obtain⟨v1,h2,h⟩:=j0 h
 have wh2:=j0t h2
 obtain⟨v3,h4,h⟩:=j0 h
 have wh4:=qmo h4
 obtain⟨v5,h6,h⟩:=j0 h
 have wh6:=j3x h6
 obtain⟨v7,h8,h⟩:=j0 h
 have wh8:=qsr h8
 obtain⟨v9,h10,h⟩:=j0 h
 have wh10:=qsr h10
 obtain⟨v11,h12,h⟩:=j0 h
 have wh12:=qsr h12
 obtain⟨v13,h14,h⟩:=j0 h
 have wh14:=qsr h14
 obtain⟨v15,h16,h⟩:=j0 h
 have wh16:zb pr (X pr) 105 [.list false 1 [Iv v3,Iv v5,Iv v7,Iv v9,Iv v11,Iv v13]]=some (Iv v15,false):=qtf h16
 rcases j4 h with⟨h17,h⟩|⟨h17,h⟩
 ·obtain⟨v18,h19,h⟩:=j0 h
  have wh19:=W99 h19
  obtain⟨v20,h21,h⟩:=j0 h
  have wh21:zb pr (X pr) 110 [sl 3 vel v18.1,.fn (.func 108) [] []]=some (sl 1 zg v20.1,v20.2):=j3m h21
  obtain⟨v22,h23,h⟩:=j0 h
  have wh23:=qtf h23
  obtain⟨v24,h25,h⟩:=j0 h
  have wh25:=qmo h25
  obtain rfl:=oi h
  refine zk c22 ?_
  simp only[go_sem,seval,c22,wh2,wh4,wh6,wh8,wh10,wh12,wh14,wh16,h17,wh19,wh21,wh23,wh25]
  exact⟨_,rfl⟩
 obtain rfl:=oi h
 refine zk c22 ?_
 simp only[go_sem,seval,c22,wh2,wh4,wh6,wh8,wh10,wh12,wh14,wh16,h17]
 exact⟨_,rfl⟩
def qm4 (a0:TP)(s0:Int×(List (List UInt8))):Option ((Int×(List (List UInt8)))⊕((Int×(List (List UInt8))×(List UInt8)×(List UInt8)×Int×Int×Int×Int×Int×Int)⊕(Int×(List (List UInt8))))):=
 cond (decide (s0.1<((a0.getD []).length:Int)))
  (j5 (yo (a0.getD []) s0.1) fun v27=>
  j5 (f22 v27) fun v29=>
  j5 (f106 (qnq s0.2 v27.name) 9) fun v31=>
  j5 (f105 (some [v29,v31])) fun v33=>
  cond (decide (v33=0))
   (j5 (qvn s0.2 v27.name) fun v36=>
   some (.inl (j9 .i64 (s0.1+1),v36)))
   (some (.inr (.inl (v33,s0.2,v27.name,v27.kd,v27.pa,v27.pb,v27.sa,v27.sb,v27.cost,v27.stock)))))
  (some (.inr (.inr (s0.1,s0.2))))
def qhr (a0:TP)(s0:Int×(List (List UInt8))):qd:=⟨[(3,.map 0,false),(11,sl 8 zd a0,false),(12,Lv a0,false),(13,Iv s0.1,false)],[.map (qb1 s0.2)]⟩
def qn9 (a0:TP):(Int×(List (List UInt8))×(List UInt8)×(List UInt8)×Int×Int×Int×Int×Int×Int)⊕(Int×(List (List UInt8)))→qj×qd
 | .inl d=>(.ret,⟨[(2,Iv d.1,false)],[.map (qb1 d.2.1),.cells [(.str d.2.2.1,false),(.str d.2.2.2.1,false),(Iv d.2.2.2.2.1,false),(Iv d.2.2.2.2.2.1,false),(Iv d.2.2.2.2.2.2.1,false),(Iv d.2.2.2.2.2.2.2.1,false),(Iv d.2.2.2.2.2.2.2.2.1,false),(Iv d.2.2.2.2.2.2.2.2.2,false)]]⟩)
 | .inr d=>(.exit 0,⟨[(3,.map 0,false),(11,sl 8 zd a0,false),(12,Lv a0,false),(13,Iv d.1,false),(14,.bool false,false)],[.map (qb1 d.2)]⟩)
theorem jss (a0:TP)(s0:Int×(List (List UInt8)))(r)(h:qm4 a0 s0=some r):yt pr qtm (qhr a0) (qn9 a0) s0 r:=by
 unfold qm4 at h
 rcases j4 h with⟨h26,h⟩|⟨h26,h⟩
 ·obtain⟨v27,h28,h⟩:=j0 h
  obtain⟨v29,h30,h⟩:=j0 h
  have wh30:=W22 h30
  obtain⟨v31,h32,h⟩:=j0 h
  have wh32:=qmo h32
  obtain⟨v33,h34,h⟩:=j0 h
  have wh34:zb pr (X pr) 105 [.list false 1 [Iv v29,Iv v31]]=some (Iv v33,false):=qtf h34
  rcases j4 h with⟨h35,h⟩|⟨h35,h⟩
  ·obtain⟨v36,h37,h⟩:=j0 h
   cases h
   exact qag (by simp only[go_sem,seval,qtm,qhr,h26,zm h28,wh30,jh3,wh32,wh34,h35,jo2 h37];exact⟨_,rfl⟩) rfl (by first|simp only[go_sem,seval,qhr]|rfl) (by first|simp only[go_sem,seval,qhr]|rfl)
  cases h
  exact zc (by simp only[go_sem,seval,qtm,qhr,h26,zm h28,wh30,jh3,wh32,wh34,h35,qn9]<;>rfl)
 cases h
 exact zc (by simp only[go_sem,seval,qtm,qhr,h26,qn9]<;>rfl)
theorem jhb (a0:TP){s0:Int×(List (List UInt8))}{d}(h:itO (qm4 a0) s0=some d):X pr (.loop qtm) (qhr a0 s0)=some (qn9 a0 d):=kg (jss a0) (fun d=>by rcases d with d|d<;>(intro hh;cases hh)) h
def f23 (a0:TP):Option Int:=
 cond (decide (6<((a0.getD []).length:Int)))
  (some 5)
  (j5 (itO (qm4 a0) (0,[])) fun d38=>match d38 with
   | .inl d40=>
    some d40.1
   | .inr d41=>
    some 0)
theorem W23 {a0:TP}{r}(h:f23 a0=some r):zb pr (X pr) 23 [sl 8 zd a0]=some (Iv r,false):=by
 unfold f23 at h
 rcases j4 h with⟨h1,h⟩|⟨h1,h⟩
 ·obtain rfl:=oi h
  refine zk c23 ?_
  simp only[go_sem,seval,c23,h1]
  exact⟨_,rfl⟩
 obtain⟨d38,h39,h⟩:=j0 h
 rcases d38 with d40|d41
 ·have wh39:=jhb a0 h39
  dsimp only[qhr,qn9]at wh39
  obtain rfl:=oi h
  refine zk c23 ?_
  simp only[go_sem,seval,c23,h1,jc2,wh39]
  exact⟨_,rfl⟩
 have wh39:=jhb a0 h39
 dsimp only[qhr,qn9]at wh39
 obtain rfl:=oi h
 refine zk c23 ?_
 simp only[go_sem,seval,c23,h1,jc2,wh39]
 exact⟨_,rfl⟩
def f101 (a0:Bool)(a1:Int):Option Int:=
 cond a0
  (some a1)
  (some 0)
theorem joa {a0:Bool}{a1:Int}{r}(h:f101 a0 a1=some r):zb pr (X pr) 101 [.bool a0,Iv a1]=some (Iv r,false):=by
 unfold f101 at h
 rcases j4 h with⟨h1,h⟩|⟨h1,h⟩
 ·obtain rfl:=oi h
  refine zk c101 ?_
  simp only[go_sem,seval,c101,h1]
  exact⟨_,rfl⟩
 obtain rfl:=oi h
 refine zk c101 ?_
 simp only[go_sem,seval,c101,h1]
 exact⟨_,rfl⟩
def ql8 (a0:TI)(s0:Int):Option (Int⊕(Int⊕Int)):=
 cond (decide (s0<((a0.getD []).length:Int)))
  (j5 (yo (a0.getD []) s0) fun v10=>
  cond (decide (v10=0))
   (some (.inl (j9 .i64 (s0+1))))
   (some (.inr (.inl v10))))
  (some (.inr (.inr s0)))
def qir (a0:TI)(s0:Int):qd:=⟨[(0,sl 1 zg a0,false),(3,Iv s0,false)],[]⟩
def qk9 (a0:TI):Int⊕Int→qj×qd
 | .inl d=>(.ret,⟨[(2,Iv d,false)],[]⟩)
 | .inr d=>(.exit 0,⟨[(0,sl 1 zg a0,false),(3,Iv d,false),(7,.bool false,false)],[]⟩)
theorem jox (a0:TI)(s0:Int)(r)(h:ql8 a0 s0=some r):yt pr qpd (qir a0) (qk9 a0) s0 r:=by
 unfold ql8 at h
 rcases j4 h with⟨h9,h⟩|⟨h9,h⟩
 ·obtain⟨v10,h11,h⟩:=j0 h
  rcases j4 h with⟨h12,h⟩|⟨h12,h⟩
  ·cases h
   exact zq (by simp only[go_sem,seval,qpd,qir,h9,zm h11,h12]<;>rfl)
  cases h
  exact zc (by simp only[go_sem,seval,qpd,qir,h9,zm h11,h12,qk9]<;>rfl)
 cases h
 exact zc (by simp only[go_sem,seval,qpd,qir,h9,qk9]<;>rfl)
theorem ja2 (a0:TI){s0:Int}{d}(h:itO (ql8 a0) s0=some d):X pr (.loop qpd) (qir a0 s0)=some (qk9 a0 d):=kg (jox a0) (fun d=>by rcases d with d|d<;>(intro hh;cases hh)) h
def f100 (a0:TI):Option Int:=
 j5 (itO (ql8 a0) 0) fun d13=>match d13 with
  | .inl d15=>
   some d15
  | .inr d16=>
   some 0
theorem q8v {a0:TI}{r}(h:f100 a0=some r):zb pr (X pr) 100 [sl 1 zg a0]=some (Iv r,false):=by
 unfold f100 at h
 obtain⟨d13,h14,h⟩:=j0 h
 rcases d13 with d15|d16
 ·have wh14:=ja2 a0 h14
  dsimp only[qir,qk9]at wh14
  obtain rfl:=oi h
  refine zk c100 ?_
  simp only[go_sem,seval,c100,wh14]
  exact⟨_,rfl⟩
 have wh14:=ja2 a0 h14
 dsimp only[qir,qk9]at wh14
 obtain rfl:=oi h
 refine zk c100 ?_
 simp only[go_sem,seval,c100,wh14]
 exact⟨_,rfl⟩
def f40 (a0:Int)(a1:Int)(a2:Int):Option Int:=
 cond (decide (a0<a1))
  (some 3)
  (cond (decide (a2<a0))
   (some 3)
   (some 0))
theorem W40 {a0:Int}{a1:Int}{a2:Int}{r}(h:f40 a0 a1 a2=some r):zb pr (X pr) 40 [Iv a0,Iv a1,Iv a2]=some (Iv r,false):=by
 unfold f40 at h
 rcases j4 h with⟨h1,h⟩|⟨h1,h⟩
 ·obtain rfl:=oi h
  refine zk c40 ?_
  simp only[go_sem,seval,c40,h1]
  exact⟨_,rfl⟩
 rcases j4 h with⟨h2,h⟩|⟨h2,h⟩
 ·obtain rfl:=oi h
  refine zk c40 ?_
  simp only[go_sem,seval,c40,h1,h2]
  exact⟨_,rfl⟩
 obtain rfl:=oi h
 refine zk c40 ?_
 simp only[go_sem,seval,c40,h1,h2]
 exact⟨_,rfl⟩
def qjf (a0:List UInt8)(s0:Int):Option (Int⊕(Unit⊕Int)):=
 cond (decide (s0<(a0.length:Int)))
  (j5 (yo a0 s0) fun v70=>
  cond (decide (65≤(v70.toNat:Int)))
   (cond (decide ((v70.toNat:Int)≤90))
    (cond (decide (48≤(v70.toNat:Int)))
     (cond (decide ((v70.toNat:Int)≤57))
      (some (.inl (j9 .i64 (s0+1))))
      (some (.inl (j9 .i64 (s0+1)))))
     (some (.inl (j9 .i64 (s0+1)))))
    (cond (decide (97≤(v70.toNat:Int)))
     (cond (decide (48≤(v70.toNat:Int)))
      (cond (decide ((v70.toNat:Int)≤57))
       (cond (decide ((v70.toNat:Int)≤122))
        (some (.inl (j9 .i64 (s0+1))))
        (cond (decide (s0=0))
         (some (.inr (.inl ())))
         (some (.inl (j9 .i64 (s0+1))))))
       (cond (decide ((v70.toNat:Int)≤122))
        (some (.inl (j9 .i64 (s0+1))))
        (cond (decide (s0=0))
         (some (.inr (.inl ())))
         (cond (decide ((v70.toNat:Int)=95))
          (some (.inl (j9 .i64 (s0+1))))
          (some (.inr (.inl ())))))))
      (cond (decide ((v70.toNat:Int)≤122))
       (some (.inl (j9 .i64 (s0+1))))
       (cond (decide (s0=0))
        (some (.inr (.inl ())))
        (cond (decide ((v70.toNat:Int)=95))
         (some (.inl (j9 .i64 (s0+1))))
         (some (.inr (.inl ())))))))
     (cond (decide (48≤(v70.toNat:Int)))
      (cond (decide ((v70.toNat:Int)≤57))
       (cond (decide (s0=0))
        (some (.inr (.inl ())))
        (some (.inl (j9 .i64 (s0+1)))))
       (cond (decide (s0=0))
        (some (.inr (.inl ())))
        (cond (decide ((v70.toNat:Int)=95))
         (some (.inl (j9 .i64 (s0+1))))
         (some (.inr (.inl ()))))))
      (cond (decide (s0=0))
       (some (.inr (.inl ())))
       (cond (decide ((v70.toNat:Int)=95))
        (some (.inl (j9 .i64 (s0+1))))
        (some (.inr (.inl ()))))))))
   (cond (decide (97≤(v70.toNat:Int)))
    (cond (decide (48≤(v70.toNat:Int)))
     (cond (decide ((v70.toNat:Int)≤57))
      (cond (decide ((v70.toNat:Int)≤122))
       (some (.inl (j9 .i64 (s0+1))))
       (cond (decide (s0=0))
        (some (.inr (.inl ())))
        (some (.inl (j9 .i64 (s0+1))))))
      (cond (decide ((v70.toNat:Int)≤122))
       (some (.inl (j9 .i64 (s0+1))))
       (cond (decide (s0=0))
        (some (.inr (.inl ())))
        (cond (decide ((v70.toNat:Int)=95))
         (some (.inl (j9 .i64 (s0+1))))
         (some (.inr (.inl ())))))))
     (cond (decide ((v70.toNat:Int)≤122))
      (some (.inl (j9 .i64 (s0+1))))
      (cond (decide (s0=0))
       (some (.inr (.inl ())))
       (cond (decide ((v70.toNat:Int)=95))
        (some (.inl (j9 .i64 (s0+1))))
        (some (.inr (.inl ())))))))
    (cond (decide (48≤(v70.toNat:Int)))
     (cond (decide ((v70.toNat:Int)≤57))
      (cond (decide (s0=0))
       (some (.inr (.inl ())))
       (some (.inl (j9 .i64 (s0+1)))))
      (cond (decide (s0=0))
       (some (.inr (.inl ())))
       (cond (decide ((v70.toNat:Int)=95))
        (some (.inl (j9 .i64 (s0+1))))
        (some (.inr (.inl ()))))))
     (cond (decide (s0=0))
      (some (.inr (.inl ())))
      (cond (decide ((v70.toNat:Int)=95))
       (some (.inl (j9 .i64 (s0+1))))
       (some (.inr (.inl ()))))))))
  (some (.inr (.inr s0)))
def yz (a0:List UInt8)(s0:Int):qd:=⟨[(0,.str a0,false),(3,Iv s0,false)],[]⟩
def qav (a0:List UInt8):Unit⊕Int→qj×qd
 | .inl d=>(.ret,⟨[(2,.bool false,false)],[]⟩)
 | .inr d=>(.exit 0,⟨[(0,.str a0,false),(3,Iv d,false),(17,.bool false,false)],[]⟩)
theorem jmx (a0:List UInt8)(s0:Int)(r)(h:qjf a0 s0=some r):yt pr ko (yz a0) (qav a0) s0 r:=by
 unfold qjf at h
 rcases j4 h with⟨h69,h⟩|⟨h69,h⟩
 ·obtain⟨v70,h71,h⟩:=j0 h
  rcases j4 h with⟨h72,h⟩|⟨h72,h⟩
  ·rcases j4 h with⟨h73,h⟩|⟨h73,h⟩
   ·rcases j4 h with⟨h74,h⟩|⟨h74,h⟩
    ·rcases j4 h with⟨h75,h⟩|⟨h75,h⟩
     ·cases h
      exact zq (by simp only[go_sem,seval,ko,yz,h69,yv h71,h72,h73,h74,h75]<;>rfl)
     cases h
     exact zq (by simp only[go_sem,seval,ko,yz,h69,yv h71,h72,h73,h74,h75]<;>rfl)
    cases h
    exact zq (by simp only[go_sem,seval,ko,yz,h69,yv h71,h72,h73,h74]<;>rfl)
   rcases j4 h with⟨h76,h⟩|⟨h76,h⟩
   ·rcases j4 h with⟨h77,h⟩|⟨h77,h⟩
    ·rcases j4 h with⟨h78,h⟩|⟨h78,h⟩
     ·rcases j4 h with⟨h79,h⟩|⟨h79,h⟩
      ·cases h
       exact zq (by simp only[go_sem,seval,ko,yz,h69,yv h71,h72,h73,h76,h77,h78,h79]<;>rfl)
      rcases j4 h with⟨h80,h⟩|⟨h80,h⟩
      ·cases h
       exact zc (by simp only[go_sem,seval,ko,yz,h69,yv h71,h72,h73,h76,h77,h78,h79,h80,qav]<;>rfl)
      cases h
      exact zq (by simp only[go_sem,seval,ko,yz,h69,yv h71,h72,h73,h76,h77,h78,h79,h80]<;>rfl)
     rcases j4 h with⟨h81,h⟩|⟨h81,h⟩
     ·cases h
      exact zq (by simp only[go_sem,seval,ko,yz,h69,yv h71,h72,h73,h76,h77,h78,h81]<;>rfl)
     rcases j4 h with⟨h82,h⟩|⟨h82,h⟩
     ·cases h
      exact zc (by simp only[go_sem,seval,ko,yz,h69,yv h71,h72,h73,h76,h77,h78,h81,h82,qav]<;>rfl)
     rcases j4 h with⟨h83,h⟩|⟨h83,h⟩
     ·cases h
      exact zq (by simp only[go_sem,seval,ko,yz,h69,yv h71,h72,h73,h76,h77,h78,h81,h82,h83]<;>rfl)
     cases h
     exact zc (by simp only[go_sem,seval,ko,yz,h69,yv h71,h72,h73,h76,h77,h78,h81,h82,h83,qav]<;>rfl)
    rcases j4 h with⟨h84,h⟩|⟨h84,h⟩
    ·cases h
     exact zq (by simp only[go_sem,seval,ko,yz,h69,yv h71,h72,h73,h76,h77,h84]<;>rfl)
    rcases j4 h with⟨h85,h⟩|⟨h85,h⟩
    ·cases h
     exact zc (by simp only[go_sem,seval,ko,yz,h69,yv h71,h72,h73,h76,h77,h84,h85,qav]<;>rfl)
    rcases j4 h with⟨h86,h⟩|⟨h86,h⟩
    ·cases h
     exact zq (by simp only[go_sem,seval,ko,yz,h69,yv h71,h72,h73,h76,h77,h84,h85,h86]<;>rfl)
    cases h
    exact zc (by simp only[go_sem,seval,ko,yz,h69,yv h71,h72,h73,h76,h77,h84,h85,h86,qav]<;>rfl)
   rcases j4 h with⟨h87,h⟩|⟨h87,h⟩
   ·rcases j4 h with⟨h88,h⟩|⟨h88,h⟩
    ·rcases j4 h with⟨h89,h⟩|⟨h89,h⟩
     ·cases h
      exact zc (by simp only[go_sem,seval,ko,yz,h69,yv h71,h72,h73,h76,h87,h88,h89,qav]<;>rfl)
     cases h
     exact zq (by simp only[go_sem,seval,ko,yz,h69,yv h71,h72,h73,h76,h87,h88,h89]<;>rfl)
    rcases j4 h with⟨h90,h⟩|⟨h90,h⟩
    ·cases h
     exact zc (by simp only[go_sem,seval,ko,yz,h69,yv h71,h72,h73,h76,h87,h88,h90,qav]<;>rfl)
    rcases j4 h with⟨h91,h⟩|⟨h91,h⟩
    ·cases h
     exact zq (by simp only[go_sem,seval,ko,yz,h69,yv h71,h72,h73,h76,h87,h88,h90,h91]<;>rfl)
    cases h
    exact zc (by simp only[go_sem,seval,ko,yz,h69,yv h71,h72,h73,h76,h87,h88,h90,h91,qav]<;>rfl)
   rcases j4 h with⟨h92,h⟩|⟨h92,h⟩
   ·cases h
    exact zc (by simp only[go_sem,seval,ko,yz,h69,yv h71,h72,h73,h76,h87,h92,qav]<;>rfl)
   rcases j4 h with⟨h93,h⟩|⟨h93,h⟩
   ·cases h
    exact zq (by simp only[go_sem,seval,ko,yz,h69,yv h71,h72,h73,h76,h87,h92,h93]<;>rfl)
   cases h
   exact zc (by simp only[go_sem,seval,ko,yz,h69,yv h71,h72,h73,h76,h87,h92,h93,qav]<;>rfl)
  rcases j4 h with⟨h94,h⟩|⟨h94,h⟩
  ·rcases j4 h with⟨h95,h⟩|⟨h95,h⟩
   ·rcases j4 h with⟨h96,h⟩|⟨h96,h⟩
    ·rcases j4 h with⟨h97,h⟩|⟨h97,h⟩
     ·cases h
      exact zq (by simp only[go_sem,seval,ko,yz,h69,yv h71,h72,h94,h95,h96,h97]<;>rfl)
     rcases j4 h with⟨h98,h⟩|⟨h98,h⟩
     ·cases h
      exact zc (by simp only[go_sem,seval,ko,yz,h69,yv h71,h72,h94,h95,h96,h97,h98,qav]<;>rfl)
     cases h
     exact zq (by simp only[go_sem,seval,ko,yz,h69,yv h71,h72,h94,h95,h96,h97,h98]<;>rfl)
    rcases j4 h with⟨h99,h⟩|⟨h99,h⟩
    ·cases h
     exact zq (by simp only[go_sem,seval,ko,yz,h69,yv h71,h72,h94,h95,h96,h99]<;>rfl)
    rcases j4 h with⟨h100,h⟩|⟨h100,h⟩
    ·cases h
     exact zc (by simp only[go_sem,seval,ko,yz,h69,yv h71,h72,h94,h95,h96,h99,h100,qav]<;>rfl)
    rcases j4 h with⟨h101,h⟩|⟨h101,h⟩
    ·cases h
     exact zq (by simp only[go_sem,seval,ko,yz,h69,yv h71,h72,h94,h95,h96,h99,h100,h101]<;>rfl)
    cases h
    exact zc (by simp only[go_sem,seval,ko,yz,h69,yv h71,h72,h94,h95,h96,h99,h100,h101,qav]<;>rfl)
   rcases j4 h with⟨h102,h⟩|⟨h102,h⟩
   ·cases h
    exact zq (by simp only[go_sem,seval,ko,yz,h69,yv h71,h72,h94,h95,h102]<;>rfl)
   rcases j4 h with⟨h103,h⟩|⟨h103,h⟩
   ·cases h
    exact zc (by simp only[go_sem,seval,ko,yz,h69,yv h71,h72,h94,h95,h102,h103,qav]<;>rfl)
   rcases j4 h with⟨h104,h⟩|⟨h104,h⟩
   ·cases h
    exact zq (by simp only[go_sem,seval,ko,yz,h69,yv h71,h72,h94,h95,h102,h103,h104]<;>rfl)
   cases h
   exact zc (by simp only[go_sem,seval,ko,yz,h69,yv h71,h72,h94,h95,h102,h103,h104,qav]<;>rfl)
  rcases j4 h with⟨h105,h⟩|⟨h105,h⟩
  ·rcases j4 h with⟨h106,h⟩|⟨h106,h⟩
   ·rcases j4 h with⟨h107,h⟩|⟨h107,h⟩
    ·cases h
     exact zc (by simp only[go_sem,seval,ko,yz,h69,yv h71,h72,h94,h105,h106,h107,qav]<;>rfl)
    cases h
    exact zq (by simp only[go_sem,seval,ko,yz,h69,yv h71,h72,h94,h105,h106,h107]<;>rfl)
   rcases j4 h with⟨h108,h⟩|⟨h108,h⟩
   ·cases h
    exact zc (by simp only[go_sem,seval,ko,yz,h69,yv h71,h72,h94,h105,h106,h108,qav]<;>rfl)
   rcases j4 h with⟨h109,h⟩|⟨h109,h⟩
   ·cases h
    exact zq (by simp only[go_sem,seval,ko,yz,h69,yv h71,h72,h94,h105,h106,h108,h109]<;>rfl)
   cases h
   exact zc (by simp only[go_sem,seval,ko,yz,h69,yv h71,h72,h94,h105,h106,h108,h109,qav]<;>rfl)
  rcases j4 h with⟨h110,h⟩|⟨h110,h⟩
  ·cases h
   exact zc (by simp only[go_sem,seval,ko,yz,h69,yv h71,h72,h94,h105,h110,qav]<;>rfl)
  rcases j4 h with⟨h111,h⟩|⟨h111,h⟩
  ·cases h
   exact zq (by simp only[go_sem,seval,ko,yz,h69,yv h71,h72,h94,h105,h110,h111]<;>rfl)
  cases h
  exact zc (by simp only[go_sem,seval,ko,yz,h69,yv h71,h72,h94,h105,h110,h111,qav]<;>rfl)
 cases h
 exact zc (by simp only[go_sem,seval,ko,yz,h69,qav]<;>rfl)
theorem ja7 (a0:List UInt8){s0:Int}{d}(h:itO (qjf a0) s0=some d):X pr (.loop ko) (yz a0 s0)=some (qav a0 d):=kg (jmx a0) (fun d=>by rcases d with d|d<;>(intro hh;cases hh)) h
def f102 (a0:List UInt8):Option Bool:=
 cond (decide ((a0.length:Int)=0))
  (some false)
  (cond (decide (24<(a0.length:Int)))
   (some false)
   (j5 (itO (qjf a0) 0) fun d112=>match d112 with
    | .inl d114=>
     some false
    | .inr d115=>
     some true))
theorem jz0 {a0:List UInt8}{r}(h:f102 a0=some r):zb pr (X pr) 102 [.str a0]=some (.bool r,false):=by
 unfold f102 at h
 rcases j4 h with⟨h1,h⟩|⟨h1,h⟩
 ·obtain rfl:=oi h
  refine zk c102 ?_
  simp only[go_sem,seval,c102,h1]
  exact⟨_,rfl⟩
 rcases j4 h with⟨h2,h⟩|⟨h2,h⟩
 ·obtain rfl:=oi h
  refine zk c102 ?_
  simp only[go_sem,seval,c102,h1,h2]
  exact⟨_,rfl⟩
 obtain⟨d112,h113,h⟩:=j0 h
 rcases d112 with d114|d115
 ·have wh113:=ja7 a0 h113
  dsimp only[yz,qav]at wh113
  obtain rfl:=oi h
  refine zk c102 ?_
  simp only[go_sem,seval,c102,h1,h2,wh113]
  exact⟨_,rfl⟩
 have wh113:=ja7 a0 h113
 dsimp only[yz,qav]at wh113
 obtain rfl:=oi h
 refine zk c102 ?_
 simp only[go_sem,seval,c102,h1,h2,wh113]
 exact⟨_,rfl⟩
def qmp (a0:Option (List (List UInt8)))(a1:List UInt8)(s0:Int):Option (Int⊕(Unit⊕Int)):=
 cond (decide (s0<((a0.getD []).length:Int)))
  (j5 (yo (a0.getD []) s0) fun v10=>
  cond (decide (v10=a1))
   (some (.inr (.inl ())))
   (some (.inl (j9 .i64 (s0+1)))))
  (some (.inr (.inr s0)))
def qiq (a0:Option (List (List UInt8)))(a1:List UInt8)(s0:Int):qd:=⟨[(0,sl 1 qdz a0,false),(1,.str a1,false),(5,Iv s0,false)],[]⟩
def qku (a0:Option (List (List UInt8)))(a1:List UInt8):Unit⊕Int→qj×qd
 | .inl d=>(.ret,⟨[(4,.bool true,false)],[]⟩)
 | .inr d=>(.exit 0,⟨[(0,sl 1 qdz a0,false),(1,.str a1,false),(5,Iv d,false),(9,.bool false,false)],[]⟩)
theorem jl1 (a0:Option (List (List UInt8)))(a1:List UInt8)(s0:Int)(r)(h:qmp a0 a1 s0=some r):yt pr qov (qiq a0 a1) (qku a0 a1) s0 r:=by
 unfold qmp at h
 rcases j4 h with⟨h9,h⟩|⟨h9,h⟩
 ·obtain⟨v10,h11,h⟩:=j0 h
  rcases j4 h with⟨h12,h⟩|⟨h12,h⟩
  ·cases h
   exact zc (by simp only[go_sem,seval,qov,qiq,h9,zm h11,h12,qku]<;>rfl)
  cases h
  exact zq (by simp only[go_sem,seval,qov,qiq,h9,zm h11,h12]<;>rfl)
 cases h
 exact zc (by simp only[go_sem,seval,qov,qiq,h9,qku]<;>rfl)
theorem jc8 (a0:Option (List (List UInt8)))(a1:List UInt8){s0:Int}{d}(h:itO (qmp a0 a1) s0=some d):X pr (.loop qov) (qiq a0 a1 s0)=some (qku a0 a1 d):=kg (jl1 a0 a1) (fun d=>by rcases d with d|d<;>(intro hh;cases hh)) h
def f191 (a0:Option (List (List UInt8)))(a1:List UInt8):Option Bool:=
 j5 (itO (qmp a0 a1) 0) fun d13=>match d13 with
  | .inl d15=>
   some true
  | .inr d16=>
   some false
theorem j13 {a0:Option (List (List UInt8))}{a1:List UInt8}{r}(h:f191 a0 a1=some r):zb pr (X pr) 191 [sl 1 qdz a0,.str a1]=some (.bool r,false):=by
 unfold f191 at h
 obtain⟨d13,h14,h⟩:=j0 h
 rcases d13 with d15|d16
 ·have wh14:=jc8 a0 a1 h14
  dsimp only[qiq,qku]at wh14
  obtain rfl:=oi h
  refine zk c191 ?_
  simp only[go_sem,seval,c191,wh14]
  exact⟨_,rfl⟩
 have wh14:=jc8 a0 a1 h14
 dsimp only[qiq,qku]at wh14
 obtain rfl:=oi h
 refine zk c191 ?_
 simp only[go_sem,seval,c191,wh14]
 exact⟨_,rfl⟩
def f192:Option (Option (List (List UInt8))):=
 some (some [([98,108,111,99,107]:List UInt8),([115,101,114,105,101,115]:List UInt8),([115,104,117,110,116]:List UInt8),([116,114,97,112]:List UInt8)])
theorem qyz {r}(h:f192=some r):zb pr (X pr) 192 []=some (sl 1 qdz r,true):=by
 unfold f192 at h
 obtain rfl:=oi h
 refine qdm c192 ?_
 simp only[go_sem,seval,c192]
 exact⟨_,rfl⟩
def f55 (a0:List UInt8):Option Bool:=
 cond (decide (a0=([98,108,111,99,107]:List UInt8)))
  (some true)
  (some (decide (a0=([116,114,97,112]:List UInt8))))
theorem W55 {a0:List UInt8}{r}(h:f55 a0=some r):zb pr (X pr) 55 [.str a0]=some (.bool r,false):=by
 unfold f55 at h
 rcases j4 h with⟨h1,h⟩|⟨h1,h⟩
 ·obtain rfl:=oi h
  refine zk c55 ?_
  simp only[go_sem,seval,c55,h1]
  exact⟨_,rfl⟩
 obtain rfl:=oi h
 refine zk c55 ?_
 simp only[go_sem,seval,c55,h1]
 exact⟨_,rfl⟩
def f157 (a0:ql):Option Int:=
 j5 (f192) fun v1=>
 j5 (f191 v1 a0.kind) fun v3=>
 cond v3
  (j5 (f40 a0.a 0 8) fun v6=>
  j5 (f40 a0.b 0 8) fun v8=>
  j5 (f100 (some [v6,v8])) fun v10=>
  cond (decide (v10=0))
   (j5 (f55 a0.kind) fun v13=>
   cond v13
    (cond (decide (a0.a=0))
     (cond (decide (a0.b=0))
      (some 6)
      (some 0))
     (some 0))
    (some 0))
   (some v10))
  (some 13)
theorem j3n {a0:ql}{r}(h:f157 a0=some r):zb pr (X pr) 157 [.agg [.str a0.kind,Iv a0.a,Iv a0.b]]=some (Iv r,false):=by
 unfold f157 at h
 obtain⟨v1,h2,h⟩:=j0 h
 obtain⟨v3,h4,h⟩:=j0 h
 have wh4:=j13 h4
 rcases j4 h with⟨h5,h⟩|⟨h5,h⟩
 ·obtain⟨v6,h7,h⟩:=j0 h
  have wh7:=W40 h7
  obtain⟨v8,h9,h⟩:=j0 h
  have wh9:=W40 h9
  obtain⟨v10,h11,h⟩:=j0 h
  have wh11:zb pr (X pr) 100 [.list false 1 [Iv v6,Iv v8]]=some (Iv v10,false):=q8v h11
  rcases j4 h with⟨h12,h⟩|⟨h12,h⟩
  ·obtain⟨v13,h14,h⟩:=j0 h
   have wh14:=W55 h14
   rcases j4 h with⟨h15,h⟩|⟨h15,h⟩
   ·rcases j4 h with⟨h16,h⟩|⟨h16,h⟩
    ·rcases j4 h with⟨h17,h⟩|⟨h17,h⟩
     ·obtain rfl:=oi h
      refine zk c157 ?_
      simp only[go_sem,seval,c157,qyz h2,wh4,h5,wh7,wh9,wh11,h12,wh14,h15,h16,h17]
      exact⟨_,rfl⟩
     obtain rfl:=oi h
     refine zk c157 ?_
     simp only[go_sem,seval,c157,qyz h2,wh4,h5,wh7,wh9,wh11,h12,wh14,h15,h16,h17]
     exact⟨_,rfl⟩
    obtain rfl:=oi h
    refine zk c157 ?_
    simp only[go_sem,seval,c157,qyz h2,wh4,h5,wh7,wh9,wh11,h12,wh14,h15,h16]
    exact⟨_,rfl⟩
   obtain rfl:=oi h
   refine zk c157 ?_
   simp only[go_sem,seval,c157,qyz h2,wh4,h5,wh7,wh9,wh11,h12,wh14,h15]
   exact⟨_,rfl⟩
  obtain rfl:=oi h
  refine zk c157 ?_
  simp only[go_sem,seval,c157,qyz h2,wh4,h5,wh7,wh9,wh11,h12]
  exact⟨_,rfl⟩
 obtain rfl:=oi h
 refine zk c157 ?_
 simp only[go_sem,seval,c157,qyz h2,wh4,h5]
 exact⟨_,rfl⟩
def qls (a0:TE)(s0:Int):Option (Int⊕(Int⊕Int)):=
 cond (decide (s0<((a0.getD []).length:Int)))
  (j5 (yo (a0.getD []) s0) fun v15=>
  j5 (f157 v15) fun v17=>
  cond (decide (v17=0))
   (some (.inl (j9 .i64 (s0+1))))
   (some (.inr (.inl v17))))
  (some (.inr (.inr s0)))
def qif (a0:TE)(s0:Int):qd:=⟨[(0,sl 3 vel a0,false),(3,Iv s0,false)],[]⟩
def qkx (a0:TE):Int⊕Int→qj×qd
 | .inl d=>(.ret,⟨[(2,Iv d,false)],[]⟩)
 | .inr d=>(.exit 0,⟨[(0,sl 3 vel a0,false),(3,Iv d,false),(11,.bool false,false)],[]⟩)
theorem jpj (a0:TE)(s0:Int)(r)(h:qls a0 s0=some r):yt pr qpb (qif a0) (qkx a0) s0 r:=by
 unfold qls at h
 rcases j4 h with⟨h14,h⟩|⟨h14,h⟩
 ·obtain⟨v15,h16,h⟩:=j0 h
  obtain⟨v17,h18,h⟩:=j0 h
  have wh18:=j3n h18
  rcases j4 h with⟨h19,h⟩|⟨h19,h⟩
  ·cases h
   exact zq (by simp only[go_sem,seval,qpb,qif,h14,zm h16,wh18,h19]<;>rfl)
  cases h
  exact zc (by simp only[go_sem,seval,qpb,qif,h14,zm h16,wh18,h19,qkx]<;>rfl)
 cases h
 exact zc (by simp only[go_sem,seval,qpb,qif,h14,qkx]<;>rfl)
theorem jcg (a0:TE){s0:Int}{d}(h:itO (qls a0) s0=some d):X pr (.loop qpb) (qif a0 s0)=some (qkx a0 d):=kg (jpj a0) (fun d=>by rcases d with d|d<;>(intro hh;cases hh)) h
def f103 (a0:TE):Option Int:=
 cond (decide (5<((a0.getD []).length:Int)))
  (some 5)
  (j5 (itO (qls a0) 0) fun d20=>match d20 with
   | .inl d22=>
    some d22
   | .inr d23=>
    some 0)
theorem je1 {a0:TE}{r}(h:f103 a0=some r):zb pr (X pr) 103 [sl 3 vel a0]=some (Iv r,false):=by
 unfold f103 at h
 rcases j4 h with⟨h1,h⟩|⟨h1,h⟩
 ·obtain rfl:=oi h
  refine zk c103 ?_
  simp only[go_sem,seval,c103,h1]
  exact⟨_,rfl⟩
 obtain⟨d20,h21,h⟩:=j0 h
 rcases d20 with d22|d23
 ·have wh21:=jcg a0 h21
  dsimp only[qif,qkx]at wh21
  obtain rfl:=oi h
  refine zk c103 ?_
  simp only[go_sem,seval,c103,h1,wh21]
  exact⟨_,rfl⟩
 have wh21:=jcg a0 h21
 dsimp only[qif,qkx]at wh21
 obtain rfl:=oi h
 refine zk c103 ?_
 simp only[go_sem,seval,c103,h1,wh21]
 exact⟨_,rfl⟩
def qmm (a0:qb)(s0:TE×Int×Bool)(s1:TE×Int×Bool):Option ((TE×Int×Bool)⊕((TE×Bool×Int))):=
 cond (decide (s1.2.1≤(j9 .i64 (a0.pb+a0.sb))))
  (cond s1.2.2
   (j5 (apO s1.1 [⟨a0.kd,s0.2.1,s1.2.1⟩]) fun v60=>
   some (.inl (v60,j9 .i64 (s1.2.1+1),true)))
   (cond s1.1.isNone
    (j5 (apO s1.1 [⟨a0.kd,s0.2.1,s1.2.1⟩]) fun v63=>
    some (.inl (v63,j9 .i64 (s1.2.1+1),true)))
    (none)))
  (some (.inr (s1.1,s1.2.2,s1.2.1)))
def qk0 (a0:qb)(s0:TE×Int×Bool)(s1:TE×Int×Bool):qd:=⟨[(1,.vptr (.agg [.str a0.name,.str a0.kd,Iv a0.pa,Iv a0.pb,Iv a0.sa,Iv a0.sb,Iv a0.cost,Iv a0.stock]),false),(3,sl 3 vel s1.1,s1.2.2),(4,Iv s0.2.1,false),(5,Iv s1.2.1,false)],[]⟩
def qtk (a0:qb)(s0:TE×Int×Bool)(d:(TE×Bool×Int)):qj×qd:=(.exit 2,⟨[(1,.vptr (.agg [.str a0.name,.str a0.kd,Iv a0.pa,Iv a0.pb,Iv a0.sa,Iv a0.sb,Iv a0.cost,Iv a0.stock]),false),(3,sl 3 vel d.1,d.2.1),(4,Iv s0.2.1,false),(5,Iv d.2.2,false),(35,.bool false,false)],[]⟩)
theorem jmq (a0:qb)(s0:TE×Int×Bool)(s1:TE×Int×Bool)(r)(h:qmm a0 s0 s1=some r):yt pr qo5 (qk0 a0 s0) (qtk a0 s0) s1 r:=by
 unfold qmm at h
 rcases j4 h with⟨h58,h⟩|⟨h58,h⟩
 ·rcases j4 h with⟨h59,h⟩|⟨h59,h⟩
  ·obtain⟨v60,h61,h⟩:=j0 h
   cases h
   exact zq (by simp only[go_sem,seval,qo5,qk0,h58,h59,qr5 h61]<;>rfl)
  rcases j4 h with⟨h62,h⟩|⟨h62,h⟩
  ·obtain⟨v63,h64,h⟩:=j0 h
   cases h
   exact zq (by simp only[go_sem,seval,qo5,qk0,h58,h59,h62,qs8 h64 h62]<;>rfl)
  cases h
 cases h
 exact zc (by simp only[go_sem,seval,qo5,qk0,h58,qtk]<;>rfl)
theorem jm9 (a0:qb)(s0:TE×Int×Bool){s1:TE×Int×Bool}{d}(h:itO (qmm a0 s0) s1=some d):X pr (.loop qo5) (qk0 a0 s0 s1)=some (qtk a0 s0 d):=kg (jmq a0 s0) (fun d hh=>by cases hh) h
def qlm (a0:qb)(s0:TE×Int×Bool):Option ((TE×Int×Bool)⊕((TE×Bool×Int))):=
 cond (decide (s0.2.1≤(j9 .i64 (a0.pa+a0.sa))))
  (j5 (itO (qmm a0 s0) (s0.1,j9 .i64 (a0.pb-a0.sb),s0.2.2)) fun d65=>
  some (.inl (d65.1,j9 .i64 (s0.2.1+1),d65.2.1)))
  (some (.inr (s0.1,s0.2.2,s0.2.1)))
def qo0 (a0:qb)(s0:TE×Int×Bool):qd:=⟨[(1,.vptr (.agg [.str a0.name,.str a0.kd,Iv a0.pa,Iv a0.pb,Iv a0.sa,Iv a0.sb,Iv a0.cost,Iv a0.stock]),false),(3,sl 3 vel s0.1,s0.2.2),(4,Iv s0.2.1,false)],[]⟩
def que (a0:qb)(d:(TE×Bool×Int)):qj×qd:=(.exit 0,⟨[(1,.vptr (.agg [.str a0.name,.str a0.kd,Iv a0.pa,Iv a0.pb,Iv a0.sa,Iv a0.sb,Iv a0.cost,Iv a0.stock]),false),(3,sl 3 vel d.1,d.2.1),(4,Iv d.2.2,false),(19,.bool false,false)],[]⟩)
theorem jm8 (a0:qb)(s0:TE×Int×Bool)(r)(h:qlm a0 s0=some r):yt pr qte (qo0 a0) (que a0) s0 r:=by
 unfold qlm at h
 rcases j4 h with⟨h43,h⟩|⟨h43,h⟩
 ·obtain⟨d65,h66,h⟩:=j0 h
  have wh66:=jm9 a0 s0 h66
  dsimp only[qk0,qtk]at wh66
  cases h
  exact zq (by simp only[go_sem,seval,qte,qo0,h43,wh66]<;>rfl)
 cases h
 exact zc (by simp only[go_sem,seval,qte,qo0,h43,que]<;>rfl)
theorem jo1 (a0:qb){s0:TE×Int×Bool}{d}(h:itO (qlm a0) s0=some d):X pr (.loop qte) (qo0 a0 s0)=some (que a0 d):=kg (jm8 a0) (fun d hh=>by cases hh) h
def f104 (a0:qb):Option (TE×Bool):=
 j5 (itO (qlm a0) (none,j9 .i64 (a0.pa-a0.sa),false)) fun d67=>
 some (d67.1,d67.2.1)
theorem j04 {a0:qb}{r}(h:f104 a0=some r):zb pr (X pr) 104 [.agg [.str a0.name,.str a0.kd,Iv a0.pa,Iv a0.pb,Iv a0.sa,Iv a0.sb,Iv a0.cost,Iv a0.stock]]=some (sl 3 vel r.1,r.2):=by
 unfold f104 at h
 obtain⟨d67,h68,h⟩:=j0 h
 have wh68:=jo1 a0 h68
 dsimp only[qo0,que,ql7]at wh68
 obtain rfl:=oi h
 refine qdm c104 ?_
 simp only[go_sem,seval,c104,wh68]
 exact⟨_,rfl⟩
def qp4 (v18:TE×Bool)(s0:Int):Option (Int⊕(Unit⊕Int)):=
 cond (decide (s0<((v18.1.getD []).length:Int)))
  (j5 (qkf v18.1 (some s0) (some (j9 .i64 (s0+1)))) fun v33=>
  j5 (f103 v33) fun v35=>
  cond (decide (v35=0))
   (some (.inl (j9 .i64 (s0+1))))
   (some (.inr (.inl ()))))
  (some (.inr (.inr s0)))
def qlw (v18:TE×Bool)(s0:Int):qd:=⟨[(4,sl 3 vel v18.1,v18.2),(5,Iv s0,false)],[]⟩
def qon (v18:TE×Bool):Unit⊕Int→qj×qd
 | .inl d=>(.ret,⟨[(2,Iv 1,false)],[]⟩)
 | .inr d=>(.exit 0,⟨[(4,sl 3 vel v18.1,v18.2),(5,Iv d,false),(37,.bool false,false)],[]⟩)
theorem jq9 (v18:TE×Bool)(s0:Int)(r)(h:qp4 v18 s0=some r):yt pr qt1 (qlw v18) (qon v18) s0 r:=by
 unfold qp4 at h
 rcases j4 h with⟨h32,h⟩|⟨h32,h⟩
 ·obtain⟨v33,h34,h⟩:=j0 h
  obtain⟨v35,h36,h⟩:=j0 h
  rcases j4 h with⟨h37,h⟩|⟨h37,h⟩
  ·cases h
   exact zq (by simp only[go_sem,seval,qt1,qlw,h32,q5g h34,je1 h36,h37]<;>rfl)
  cases h
  exact zc (by simp only[go_sem,seval,qt1,qlw,h32,q5g h34,je1 h36,h37,qon]<;>rfl)
 cases h
 exact zc (by simp only[go_sem,seval,qt1,qlw,h32,qon]<;>rfl)
theorem jhe (v18:TE×Bool){s0:Int}{d}(h:itO (qp4 v18) s0=some d):X pr (.loop qt1) (qlw v18 s0)=some (qon v18 d):=kg (jq9 v18) (fun d=>by rcases d with d|d<;>(intro hh;cases hh)) h
def f20 (a0:qb):Option Int:=
 j5 (f102 a0.name) fun v1=>
 j5 (f101 (!v1) 8) fun v3=>
 j5 (f103 (some [⟨a0.kd,a0.pa,a0.pb⟩])) fun v5=>
 j5 (f40 a0.sa 0 1) fun v7=>
 j5 (f40 a0.sb 0 1) fun v9=>
 j5 (f40 a0.cost 1 1000000) fun v11=>
 j5 (f40 a0.stock 0 100) fun v13=>
 j5 (f100 (some [v3,v5,v7,v9,v11,v13])) fun v15=>
 cond (decide (v15=0))
  (j5 (f104 a0) fun v18=>
  j5 (itO (qp4 v18) 0) fun d38=>match d38 with
   | .inl d40=>
    some 1
   | .inr d41=>
    some 0)
  (some v15)
theorem W20 {a0:qb}{r}(h:f20 a0=some r):zb pr (X pr) 20 [.agg [.str a0.name,.str a0.kd,Iv a0.pa,Iv a0.pb,Iv a0.sa,Iv a0.sb,Iv a0.cost,Iv a0.stock]]=some (Iv r,false):=by
 unfold f20 at h
 obtain⟨v1,h2,h⟩:=j0 h
 have wh2:=jz0 h2
 obtain⟨v3,h4,h⟩:=j0 h
 have wh4:=joa h4
 obtain⟨v5,h6,h⟩:=j0 h
 have wh6:zb pr (X pr) 103 [.list false 3 [.agg [.str a0.kd,Iv a0.pa,Iv a0.pb]]]=some (Iv v5,false):=je1 h6
 obtain⟨v7,h8,h⟩:=j0 h
 have wh8:=W40 h8
 obtain⟨v9,h10,h⟩:=j0 h
 have wh10:=W40 h10
 obtain⟨v11,h12,h⟩:=j0 h
 have wh12:=W40 h12
 obtain⟨v13,h14,h⟩:=j0 h
 have wh14:=W40 h14
 obtain⟨v15,h16,h⟩:=j0 h
 have wh16:zb pr (X pr) 100 [.list false 1 [Iv v3,Iv v5,Iv v7,Iv v9,Iv v11,Iv v13]]=some (Iv v15,false):=q8v h16
 rcases j4 h with⟨h17,h⟩|⟨h17,h⟩
 ·obtain⟨v18,h19,h⟩:=j0 h
  have wh19:=j04 h19
  obtain⟨d38,h39,h⟩:=j0 h
  rcases d38 with d40|d41
  ·have wh39:=jhe v18 h39
   dsimp only[qlw,qon]at wh39
   obtain rfl:=oi h
   refine zk c20 ?_
   simp only[go_sem,seval,c20,wh2,wh4,wh6,wh8,wh10,wh12,wh14,wh16,h17,wh19,wh39]
   exact⟨_,rfl⟩
  have wh39:=jhe v18 h39
  dsimp only[qlw,qon]at wh39
  obtain rfl:=oi h
  refine zk c20 ?_
  simp only[go_sem,seval,c20,wh2,wh4,wh6,wh8,wh10,wh12,wh14,wh16,h17,wh19,wh39]
  exact⟨_,rfl⟩
 obtain rfl:=oi h
 refine zk c20 ?_
 simp only[go_sem,seval,c20,wh2,wh4,wh6,wh8,wh10,wh12,wh14,wh16,h17]
 exact⟨_,rfl⟩
def qqk (a0:TP)(s0:Int)(s1:Int):Option (Int⊕(Unit⊕Int)):=
 cond (decide (s1<s0))
  (j5 (yo (a0.getD []) s1) fun v55=>
  j5 (yo (a0.getD []) s0) fun v57=>
  cond (decide (v55.name=v57.name))
   (some (.inr (.inl ())))
   (some (.inl (j9 .i64 (s1+1)))))
  (some (.inr (.inr s1)))
def ql3 (a0:TP)(s0:Int)(s1:Int):qd:=⟨[(0,sl 8 zd a0,false),(3,Iv s0,false),(5,Iv s1,false)],[]⟩
def qom (a0:TP)(s0:Int):Unit⊕Int→qj×qd
 | .inl d=>(.ret,⟨[(2,Iv 9,false)],[]⟩)
 | .inr d=>(.exit 2,⟨[(0,sl 8 zd a0,false),(3,Iv s0,false),(5,Iv d,false),(25,.bool false,false)],[]⟩)
theorem jsv (a0:TP)(s0:Int)(s1:Int)(r)(h:qqk a0 s0 s1=some r):yt pr qtw (ql3 a0 s0) (qom a0 s0) s1 r:=by
 unfold qqk at h
 rcases j4 h with⟨h54,h⟩|⟨h54,h⟩
 ·obtain⟨v55,h56,h⟩:=j0 h
  obtain⟨v57,h58,h⟩:=j0 h
  rcases j4 h with⟨h59,h⟩|⟨h59,h⟩
  ·cases h
   exact zc (by simp only[go_sem,seval,qtw,ql3,h54,zm h56,zm h58,h59,qom]<;>rfl)
  cases h
  exact zq (by simp only[go_sem,seval,qtw,ql3,h54,zm h56,zm h58,h59]<;>rfl)
 cases h
 exact zc (by simp only[go_sem,seval,qtw,ql3,h54,qom]<;>rfl)
theorem jhn (a0:TP)(s0:Int){s1:Int}{d}(h:itO (qqk a0 s0) s1=some d):X pr (.loop qtw) (ql3 a0 s0 s1)=some (qom a0 s0 d):=kg (jsv a0 s0) (fun d=>by rcases d with d|d<;>(intro hh;cases hh)) h
def qnj (a0:TP)(s0:Int):Option (Int⊕(Int⊕Int)):=
 cond (decide (s0<((a0.getD []).length:Int)))
  (j5 (yo (a0.getD []) s0) fun v37=>
  j5 (f20 v37) fun v39=>
  cond (decide (v39=0))
   (j5 (itO (qqk a0 s0) 0) fun d60=>match d60 with
    | .inl d62=>
     some (.inr (.inl 9))
    | .inr d63=>
     some (.inl (j9 .i64 (s0+1))))
   (some (.inr (.inl v39))))
  (some (.inr (.inr s0)))
def qja (a0:TP)(s0:Int):qd:=⟨[(0,sl 8 zd a0,false),(3,Iv s0,false)],[]⟩
def qmf (a0:TP):Int⊕Int→qj×qd
 | .inl d=>(.ret,⟨[(2,Iv d,false)],[]⟩)
 | .inr d=>(.exit 0,⟨[(0,sl 8 zd a0,false),(3,Iv d,false),(12,.bool false,false)],[]⟩)
theorem jsg (a0:TP)(s0:Int)(r)(h:qnj a0 s0=some r):yt pr qqh (qja a0) (qmf a0) s0 r:=by
 unfold qnj at h
 rcases j4 h with⟨h36,h⟩|⟨h36,h⟩
 ·obtain⟨v37,h38,h⟩:=j0 h
  obtain⟨v39,h40,h⟩:=j0 h
  have wh40:=W20 h40
  rcases j4 h with⟨h41,h⟩|⟨h41,h⟩
  ·obtain⟨d60,h61,h⟩:=j0 h
   rcases d60 with d62|d63
   ·have wh61:=jhn a0 s0 h61
    dsimp only[ql3,qom]at wh61
    cases h
    exact zc (by simp only[go_sem,seval,qqh,qja,h36,zm h38,wh40,h41,wh61,qmf]<;>rfl)
   have wh61:=jhn a0 s0 h61
   dsimp only[ql3,qom]at wh61
   cases h
   exact zq (by simp only[go_sem,seval,qqh,qja,h36,zm h38,wh40,h41,wh61]<;>rfl)
  cases h
  exact zc (by simp only[go_sem,seval,qqh,qja,h36,zm h38,wh40,h41,qmf]<;>rfl)
 cases h
 exact zc (by simp only[go_sem,seval,qqh,qja,h36,qmf]<;>rfl)
theorem jhp (a0:TP){s0:Int}{d}(h:itO (qnj a0) s0=some d):X pr (.loop qqh) (qja a0 s0)=some (qmf a0 d):=kg (jsg a0) (fun d=>by rcases d with d|d<;>(intro hh;cases hh)) h
def f25 (a0:TP):Option Int:=
 cond (decide (6<((a0.getD []).length:Int)))
  (some 5)
  (j5 (itO (qnj a0) 0) fun d64=>match d64 with
   | .inl d66=>
    some d66
   | .inr d67=>
    some 0)
theorem W25 {a0:TP}{r}(h:f25 a0=some r):zb pr (X pr) 25 [sl 8 zd a0]=some (Iv r,false):=by
 unfold f25 at h
 rcases j4 h with⟨h1,h⟩|⟨h1,h⟩
 ·obtain rfl:=oi h
  refine zk c25 ?_
  simp only[go_sem,seval,c25,h1]
  exact⟨_,rfl⟩
 obtain⟨d64,h65,h⟩:=j0 h
 rcases d64 with d66|d67
 ·have wh65:=jhp a0 h65
  dsimp only[qja,qmf]at wh65
  obtain rfl:=oi h
  refine zk c25 ?_
  simp only[go_sem,seval,c25,h1,wh65]
  exact⟨_,rfl⟩
 have wh65:=jhp a0 h65
 dsimp only[qja,qmf]at wh65
 obtain rfl:=oi h
 refine zk c25 ?_
 simp only[go_sem,seval,c25,h1,wh65]
 exact⟨_,rfl⟩
def qkg (a0:TP)(s0:Int):Option (Int⊕(Unit⊕Int)):=
 cond (decide (s0<((a0.getD []).length:Int)))
  (j5 (yo (a0.getD []) s0) fun v14=>
  cond (decide (60<(v14.name.length:Int)))
   (some (.inr (.inl ())))
   (cond (decide (60<(v14.kd.length:Int)))
    (some (.inr (.inl ())))
    (some (.inl (j9 .i64 (s0+1))))))
  (some (.inr (.inr s0)))
def qjj (a0:TP)(s0:Int):qd:=⟨[(0,sl 8 zd a0,false),(3,Iv s0,false)],[]⟩
def qlx (a0:TP):Unit⊕Int→qj×qd
 | .inl d=>(.ret,⟨[(2,.bool false,false)],[]⟩)
 | .inr d=>(.exit 0,⟨[(0,sl 8 zd a0,false),(3,Iv d,false),(15,.bool false,false)],[]⟩)
theorem jrt (a0:TP)(s0:Int)(r)(h:qkg a0 s0=some r):yt pr qfo (qjj a0) (qlx a0) s0 r:=by
 unfold qkg at h
 rcases j4 h with⟨h13,h⟩|⟨h13,h⟩
 ·obtain⟨v14,h15,h⟩:=j0 h
  rcases j4 h with⟨h16,h⟩|⟨h16,h⟩
  ·cases h
   exact zc (by simp only[go_sem,seval,qfo,qjj,h13,zm h15,h16,qlx]<;>rfl)
  rcases j4 h with⟨h17,h⟩|⟨h17,h⟩
  ·cases h
   exact zc (by simp only[go_sem,seval,qfo,qjj,h13,zm h15,h16,h17,qlx]<;>rfl)
  cases h
  exact zq (by simp only[go_sem,seval,qfo,qjj,h13,zm h15,h16,h17]<;>rfl)
 cases h
 exact zc (by simp only[go_sem,seval,qfo,qjj,h13,qlx]<;>rfl)
theorem jhw (a0:TP){s0:Int}{d}(h:itO (qkg a0) s0=some d):X pr (.loop qfo) (qjj a0 s0)=some (qlx a0 d):=kg (jrt a0) (fun d=>by rcases d with d|d<;>(intro hh;cases hh)) h
def qr3 (a0:TP)(s0:Int):Option (Int⊕(Unit⊕Int)):=
 cond (decide (s0<((a0.getD []).length:Int)))
  (j5 (yo (a0.getD []) s0) fun v33=>
  cond (decide (60<(v33.name.length:Int)))
   (some (.inr (.inl ())))
   (cond (decide (60<(v33.kd.length:Int)))
    (some (.inr (.inl ())))
    (some (.inl (j9 .i64 (s0+1))))))
  (some (.inr (.inr s0)))
def qgs (a0:TP)(s0:Int):qd:=⟨[(0,sl 8 zd a0,false),(3,Iv s0,false)],[]⟩
def qin (a0:TP):Unit⊕Int→qj×qd
 | .inl d=>(.ret,⟨[(2,.bool false,false)],[]⟩)
 | .inr d=>(.exit 0,⟨[(0,sl 8 zd a0,false),(3,Iv d,false),(15,.bool false,false)],[]⟩)
theorem jny (a0:TP)(s0:Int)(r)(h:qr3 a0 s0=some r):yt pr qfo (qgs a0) (qin a0) s0 r:=by
 unfold qr3 at h
 rcases j4 h with⟨h32,h⟩|⟨h32,h⟩
 ·obtain⟨v33,h34,h⟩:=j0 h
  rcases j4 h with⟨h35,h⟩|⟨h35,h⟩
  ·cases h
   exact zc (by simp only[go_sem,seval,qfo,qgs,h32,zm h34,h35,qin]<;>rfl)
  rcases j4 h with⟨h36,h⟩|⟨h36,h⟩
  ·cases h
   exact zc (by simp only[go_sem,seval,qfo,qgs,h32,zm h34,h35,h36,qin]<;>rfl)
  cases h
  exact zq (by simp only[go_sem,seval,qfo,qgs,h32,zm h34,h35,h36]<;>rfl)
 cases h
 exact zc (by simp only[go_sem,seval,qfo,qgs,h32,qin]<;>rfl)
theorem jdj (a0:TP){s0:Int}{d}(h:itO (qr3 a0) s0=some d):X pr (.loop qfo) (qgs a0 s0)=some (qin a0 d):=kg (jny a0) (fun d=>by rcases d with d|d<;>(intro hh;cases hh)) h
def f17 (a0:TP):Option Bool:=
 cond (decide (4<((a0.getD []).length:Int)))
  (cond (decide (((a0.getD []).length:Int)=7))
   (j5 (itO (qkg a0) 0) fun d18=>match d18 with
    | .inl d20=>
     some false
    | .inr d21=>
     some true)
   (some false))
  (j5 (itO (qr3 a0) 0) fun d37=>match d37 with
   | .inl d39=>
    some false
   | .inr d40=>
    some true)
theorem W17 {a0:TP}{r}(h:f17 a0=some r):zb pr (X pr) 17 [sl 8 zd a0]=some (.bool r,false):=by
 unfold f17 at h
 rcases j4 h with⟨h1,h⟩|⟨h1,h⟩
 ·rcases j4 h with⟨h2,h⟩|⟨h2,h⟩
  ·obtain⟨d18,h19,h⟩:=j0 h
   rcases d18 with d20|d21
   ·have wh19:=jhw a0 h19
    dsimp only[qjj,qlx]at wh19
    obtain rfl:=oi h
    refine zk c17 ?_
    simp only[go_sem,seval,c17,h1,h2,wh19]
    exact⟨_,rfl⟩
   have wh19:=jhw a0 h19
   dsimp only[qjj,qlx]at wh19
   obtain rfl:=oi h
   refine zk c17 ?_
   simp only[go_sem,seval,c17,h1,h2,wh19]
   exact⟨_,rfl⟩
  obtain rfl:=oi h
  refine zk c17 ?_
  simp only[go_sem,seval,c17,h1,h2]
  exact⟨_,rfl⟩
 obtain⟨d37,h38,h⟩:=j0 h
 rcases d37 with d39|d40
 ·have wh38:=jdj a0 h38
  dsimp only[qgs,qin]at wh38
  obtain rfl:=oi h
  refine zk c17 ?_
  simp only[go_sem,seval,c17,h1,wh38]
  exact⟨_,rfl⟩
 have wh38:=jdj a0 h38
 dsimp only[qgs,qin]at wh38
 obtain rfl:=oi h
 refine zk c17 ?_
 simp only[go_sem,seval,c17,h1,wh38]
 exact⟨_,rfl⟩
def f19 (a0:qb):Option qb:=
 some a0
theorem W19 {a0:qb}{r}(h:f19 a0=some r):zb pr (X pr) 19 [.agg [.str a0.name,.str a0.kd,Iv a0.pa,Iv a0.pb,Iv a0.sa,Iv a0.sb,Iv a0.cost,Iv a0.stock]]=some (.agg [.str r.name,.str r.kd,Iv r.pa,Iv r.pb,Iv r.sa,Iv r.sb,Iv r.cost,Iv r.stock],false):=by
 unfold f19 at h
 obtain rfl:=oi h
 refine zk c19 ?_
 simp only[go_sem,seval,c19]
 exact⟨_,rfl⟩
def qq0 (a0:TP)(s0:TP×Int×Bool):Option ((TP×Int×Bool)⊕((TP×Bool×Int))):=
 cond (decide (s0.2.1<((a0.getD []).length:Int)))
  (j5 (yo (a0.getD []) s0.2.1) fun v18=>
  j5 (f19 v18) fun v20=>
  cond s0.2.2
   (j5 (apO s0.1 [v20]) fun v23=>
   some (.inl (v23,j9 .i64 (s0.2.1+1),true)))
   (cond s0.1.isNone
    (j5 (apO s0.1 [v20]) fun v26=>
    some (.inl (v26,j9 .i64 (s0.2.1+1),true)))
    (none)))
  (some (.inr (s0.1,s0.2.2,s0.2.1)))
def qf8 (a0:TP)(s0:TP×Int×Bool):qd:=⟨[(3,sl 8 zd s0.1,s0.2.2),(6,sl 8 zd a0,false),(7,Lv a0,false),(8,Iv s0.2.1,false)],[]⟩
def qx6 (a0:TP)(d:(TP×Bool×Int)):qj×qd:=(.exit 0,⟨[(3,sl 8 zd d.1,d.2.1),(6,sl 8 zd a0,false),(7,Lv a0,false),(8,Iv d.2.2,false),(9,.bool false,false)],[]⟩)
theorem jxh (a0:TP)(s0:TP×Int×Bool)(r)(h:qq0 a0 s0=some r):yt pr qto (qf8 a0) (qx6 a0) s0 r:=by
 unfold qq0 at h
 rcases j4 h with⟨h17,h⟩|⟨h17,h⟩
 ·obtain⟨v18,h19,h⟩:=j0 h
  obtain⟨v20,h21,h⟩:=j0 h
  have wh21:=W19 h21
  rcases j4 h with⟨h22,h⟩|⟨h22,h⟩
  ·obtain⟨v23,h24,h⟩:=j0 h
   cases h
   exact qag (by simp only[go_sem,seval,qto,qf8,h17,zm h19,wh21,h22,qnp h24];exact⟨_,rfl⟩) rfl (by first|simp only[go_sem,seval,qf8]|rfl) (by first|simp only[go_sem,seval,qf8]|rfl)
  rcases j4 h with⟨h25,h⟩|⟨h25,h⟩
  ·obtain⟨v26,h27,h⟩:=j0 h
   cases h
   exact qag (by simp only[go_sem,seval,qto,qf8,h17,zm h19,wh21,h22,h25,qnm h27 h25];exact⟨_,rfl⟩) rfl (by first|simp only[go_sem,seval,qf8]|rfl) (by first|simp only[go_sem,seval,qf8]|rfl)
  cases h
 cases h
 exact zc (by simp only[go_sem,seval,qto,qf8,h17,qx6]<;>rfl)
theorem jth (a0:TP){s0:TP×Int×Bool}{d}(h:itO (qq0 a0) s0=some d):X pr (.loop qto) (qf8 a0 s0)=some (qx6 a0 d):=kg (jxh a0) (fun d hh=>by cases hh) h
def f24 (a0:TP):Option (TP×Bool):=
 j5 (itO (qq0 a0) (none,0,false)) fun d28=>
 some (d28.1,d28.2.1)
theorem W24 {a0:TP}{r}(h:f24 a0=some r):zb pr (X pr) 24 [sl 8 zd a0]=some (sl 8 zd r.1,r.2):=by
 unfold f24 at h
 obtain⟨d28,h29,h⟩:=j0 h
 have wh29:=jth a0 h29
 dsimp only[qf8,qx6,ql7]at wh29
 obtain rfl:=oi h
 refine qdm c24 ?_
 simp only[go_sem,seval,c24,wh29]
 exact⟨_,rfl⟩
end Go.Z
end
