/- The structs of chapter 4, the map of kinds, maps of texts to true. -/
import Derived.Test.YthpnjcfibpfbfaaGreatDoorL1
import Derived.Test.YthpnjcfibpfbfaaGreatDoorZM
set_option linter.unusedVariables false
set_option linter.unusedSimpArgs false
set_option maxRecDepth 100000
namespace Go.Z
open Go Go.Abs
structure GEl where
 kind:List UInt8
 a:Int
 b:Int
def vel (p:GEl):AVal:=.agg [.str p.kind,.int .i64 p.a,.int .i64 p.b]
@[go_sem] theorem ja9 {p:GEl}:(vel p).flat=[.str p.kind,.int .i64 p.a,.int .i64 p.b]:=rfl
@[go_sem] theorem quj {n:Nat}(p:GEl):below n (vel p)=true:=by rfl
@[go_sem] theorem q3m {n z:Nat}{l:Option (List GEl)}:below n (sl z vel l)=true:=qoo quj
@[go_sem] theorem jcm {p:GEl}:AVal.vptr (vel p)=.vptr (.agg [.str p.kind,.int .i64 p.a,.int .i64 p.b]):=rfl
structure qib where
 name:List UInt8
 kd:List UInt8
 pa:Int
 pb:Int
 sa:Int
 sb:Int
 cost:Int
 stock:Int
def qed (p:qib):AVal:=.agg [.str p.name,.str p.kd,.int .i64 p.pa,.int .i64 p.pb,.int .i64 p.sa,.int .i64 p.sb,.int .i64 p.cost,.int .i64 p.stock]
@[go_sem] theorem q7m {p:qib}:(qed p).flat=[.str p.name,.str p.kd,.int .i64 p.pa,.int .i64 p.pb,.int .i64 p.sa,.int .i64 p.sb,.int .i64 p.cost,.int .i64 p.stock]:=rfl
@[go_sem] theorem q3a {n:Nat}(p:qib):below n (qed p)=true:=by rfl
@[go_sem] theorem q7f {p:qib}:AVal.vptr (qed p)=.vptr (.agg [.str p.name,.str p.kd,.int .i64 p.pa,.int .i64 p.pb,.int .i64 p.sa,.int .i64 p.sb,.int .i64 p.cost,.int .i64 p.stock]):=rfl
structure qiv where
 w:Int
 ln:Int
 ld:Int
 mn:Int
 md:Int
def qee (p:qiv):AVal:=.agg [.int .i64 p.w,.int .i64 p.ln,.int .i64 p.ld,.int .i64 p.mn,.int .i64 p.md]
@[go_sem] theorem q4a {p:qiv}:(qee p).flat=[.int .i64 p.w,.int .i64 p.ln,.int .i64 p.ld,.int .i64 p.mn,.int .i64 p.md]:=rfl
@[go_sem] theorem q29 {n:Nat}(p:qiv):below n (qee p)=true:=by rfl
@[go_sem] theorem q4e {p:qiv}:AVal.vptr (qee p)=.vptr (.agg [.int .i64 p.w,.int .i64 p.ln,.int .i64 p.ld,.int .i64 p.mn,.int .i64 p.md]):=rfl
structure qco where
 a:Int
 b:Int
 c:Int
 d:Int
def qso (p:qco):AVal:=.agg [.int .i64 p.a,.int .i64 p.b,.int .i64 p.c,.int .i64 p.d]
@[go_sem] theorem q6c {p:qco}:(qso p).flat=[.int .i64 p.a,.int .i64 p.b,.int .i64 p.c,.int .i64 p.d]:=rfl
@[go_sem] theorem q2r {n:Nat}(p:qco):below n (qso p)=true:=by rfl
@[go_sem] theorem q7t {p:qco}:AVal.vptr (qso p)=.vptr (.agg [.int .i64 p.a,.int .i64 p.b,.int .i64 p.c,.int .i64 p.d]):=rfl
structure ju where
 m0:Int
 m1:Int
 m2:Int
 m3:Int
 m4:Int
 m5:Int
 m6:Int
 m7:Int
def qve (p:ju):AVal:=.agg [.int .i64 p.m0,.int .i64 p.m1,.int .i64 p.m2,.int .i64 p.m3,.int .i64 p.m4,.int .i64 p.m5,.int .i64 p.m6,.int .i64 p.m7]
@[go_sem] theorem q85 {p:ju}:(qve p).flat=[.int .i64 p.m0,.int .i64 p.m1,.int .i64 p.m2,.int .i64 p.m3,.int .i64 p.m4,.int .i64 p.m5,.int .i64 p.m6,.int .i64 p.m7]:=rfl
@[go_sem] theorem q5c {n:Nat}(p:ju):below n (qve p)=true:=by rfl
@[go_sem] theorem q8r {p:ju}:AVal.vptr (qve p)=.vptr (.agg [.int .i64 p.m0,.int .i64 p.m1,.int .i64 p.m2,.int .i64 p.m3,.int .i64 p.m4,.int .i64 p.m5,.int .i64 p.m6,.int .i64 p.m7]):=rfl
structure qow where
 band:Int
 ladder:Option (List GEl)
def quw (p:qow):AVal:=.agg [.int .i64 p.band,sl 3 vel p.ladder]
@[go_sem] theorem q27 {p:qow}:(quw p).flat=[.int .i64 p.band,sl 3 vel p.ladder]:=rfl
@[go_sem] theorem q2q {p:qow}:AVal.vptr (quw p)=.vptr (.agg [.int .i64 p.band,sl 3 vel p.ladder]):=rfl
structure qsk where
 choice:Option (List Int)
 rband:Int
 rladder:Option (List GEl)
def qw9 (p:qsk):AVal:=.agg [sl 1 y6 p.choice,.int .i64 p.rband,sl 3 vel p.rladder]
@[go_sem] theorem q4w {p:qsk}:(qw9 p).flat=[sl 1 y6 p.choice,.int .i64 p.rband,sl 3 vel p.rladder]:=rfl
@[go_sem] theorem q4y {p:qsk}:AVal.vptr (qw9 p)=.vptr (.agg [sl 1 y6 p.choice,.int .i64 p.rband,sl 3 vel p.rladder]):=rfl
structure qss where
 parts:Option (List qib)
 choice:Option (List Int)
 bands:Option (List qiv)
def qxj (p:qss):AVal:=.agg [sl 8 qed p.parts,sl 1 y6 p.choice,sl 5 qee p.bands]
@[go_sem] theorem q3t {p:qss}:(qxj p).flat=[sl 8 qed p.parts,sl 1 y6 p.choice,sl 5 qee p.bands]:=rfl
@[go_sem] theorem q7v {p:qss}:AVal.vptr (qxj p)=.vptr (.agg [sl 8 qed p.parts,sl 1 y6 p.choice,sl 5 qee p.bands]):=rfl
structure qsu where
 parts:Option (List qib)
 bands:Option (List qiv)
 n:Int
def qw8 (p:qsu):AVal:=.agg [sl 8 qed p.parts,sl 5 qee p.bands,.int .i64 p.n]
@[go_sem] theorem q4t {p:qsu}:(qw8 p).flat=[sl 8 qed p.parts,sl 5 qee p.bands,.int .i64 p.n]:=rfl
@[go_sem] theorem q43 {p:qsu}:AVal.vptr (qw8 p)=.vptr (.agg [sl 8 qed p.parts,sl 5 qee p.bands,.int .i64 p.n]):=rfl
structure qrb where
 x:Option (List GEl)
 y:Option (List GEl)
 lo:Int
 hi:Int
def qxc (p:qrb):AVal:=.agg [sl 3 vel p.x,sl 3 vel p.y,.int .i64 p.lo,.int .i64 p.hi]
@[go_sem] theorem q5a {p:qrb}:(qxc p).flat=[sl 3 vel p.x,sl 3 vel p.y,.int .i64 p.lo,.int .i64 p.hi]:=rfl
@[go_sem] theorem q6v {p:qrb}:AVal.vptr (qxc p)=.vptr (.agg [sl 3 vel p.x,sl 3 vel p.y,.int .i64 p.lo,.int .i64 p.hi]):=rfl
theorem qjq {s:List UInt8}(h0:decide (s=([98,108,111,99,107]:List UInt8))=true):jj .str (.str s) ji 0=some (some (0,.agg [.str ([116,114,97,112]:List UInt8),.bool true,.fn (.func 153) [] []])):=by
 have e0:(s == ([98,108,111,99,107]:List UInt8))=true:=by simpa using h0
 simp only[ji,jj,yu,e0]
theorem qre {s:List UInt8}(h0:decide (s=([98,108,111,99,107]:List UInt8))=false)(h1:decide (s=([115,101,114,105,101,115]:List UInt8))=true):jj .str (.str s) ji 0=some (some (1,.agg [.str ([115,104,117,110,116]:List UInt8),.bool false,.fn (.func 154) [] []])):=by
 have e0:(s == ([98,108,111,99,107]:List UInt8))=false:=by simpa using h0
 have e1:(s == ([115,101,114,105,101,115]:List UInt8))=true:=by simpa using h1
 simp only[ji,jj,yu,e0,e1]
theorem qst {s:List UInt8}(h0:decide (s=([98,108,111,99,107]:List UInt8))=false)(h1:decide (s=([115,101,114,105,101,115]:List UInt8))=false)(h2:decide (s=([115,104,117,110,116]:List UInt8))=true):jj .str (.str s) ji 0=some (some (2,.agg [.str ([115,101,114,105,101,115]:List UInt8),.bool false,.fn (.func 155) [] []])):=by
 have e0:(s == ([98,108,111,99,107]:List UInt8))=false:=by simpa using h0
 have e1:(s == ([115,101,114,105,101,115]:List UInt8))=false:=by simpa using h1
 have e2:(s == ([115,104,117,110,116]:List UInt8))=true:=by simpa using h2
 simp only[ji,jj,yu,e0,e1,e2]
theorem qj2 {s:List UInt8}(h0:decide (s=([98,108,111,99,107]:List UInt8))=false)(h1:decide (s=([115,101,114,105,101,115]:List UInt8))=false)(h2:decide (s=([115,104,117,110,116]:List UInt8))=false)(h3:decide (s=([116,114,97,112]:List UInt8))=true):jj .str (.str s) ji 0=some (some (3,.agg [.str ([98,108,111,99,107]:List UInt8),.bool true,.fn (.func 156) [] []])):=by
 have e0:(s == ([98,108,111,99,107]:List UInt8))=false:=by simpa using h0
 have e1:(s == ([115,101,114,105,101,115]:List UInt8))=false:=by simpa using h1
 have e2:(s == ([115,104,117,110,116]:List UInt8))=false:=by simpa using h2
 have e3:(s == ([116,114,97,112]:List UInt8))=true:=by simpa using h3
 simp only[ji,jj,yu,e0,e1,e2,e3]
theorem qxl {s:List UInt8}(h0:decide (s=([98,108,111,99,107]:List UInt8))=false)(h1:decide (s=([115,101,114,105,101,115]:List UInt8))=false)(h2:decide (s=([115,104,117,110,116]:List UInt8))=false)(h3:decide (s=([116,114,97,112]:List UInt8))=false):jj .str (.str s) ji 0=some (none):=by
 have e0:(s == ([98,108,111,99,107]:List UInt8))=false:=by simpa using h0
 have e1:(s == ([115,101,114,105,101,115]:List UInt8))=false:=by simpa using h1
 have e2:(s == ([115,104,117,110,116]:List UInt8))=false:=by simpa using h2
 have e3:(s == ([116,114,97,112]:List UInt8))=false:=by simpa using h3
 simp only[ji,jj,yu,e0,e1,e2,e3]
@[go_sem] theorem qy8 {n:Nat}:qag n (.map ji)=true:=rfl
@[go_sem] theorem jdv:pr.maps 129=some ji:=rfl
def qhd (h:qi)(zero:AVal)(r:Option (Option (Nat×AVal))):Option ORes:=match r with
 |some (some (_,v))=>some ⟨.tup [v,.bool true],false,none,h⟩
 |some none=>some ⟨.tup [zero,.bool false],false,none,h⟩
 |none=>none
@[go_sem] theorem q2z {h:qi}{z v:AVal}{i:Nat}:qhd h z (some (some (i,v)))=some ⟨.tup [v,.bool true],false,none,h⟩:=rfl
@[go_sem] theorem q2x {h:qi}{z:AVal}:qhd h z (some none)=some ⟨.tup [z,.bool false],false,none,h⟩:=rfl
def qj8 (h:qi)(kd:Kd)(z kv:AVal)(x:Option ABox):Option ORes:=match x with
 |some (.map es)=>qhd h z (jj kd kv es 0)
 |_=>none
@[go_sem] theorem q7l {h:qi}{kd:Kd}{z kv:AVal}{es:List (AVal×AVal)}:qj8 h kd z kv (some (.map es))=qhd h z (jj kd kv es 0):=rfl
def qje (h0:Nat)(al:Option (List Nat))(h:qi)(kd:Kd)(z:AVal)(m k:Option AVal):Option ORes:=match m,k with
 |some (.map b),some kv=>ifR (jf h0 al b) (qj8 h kd z kv h[b]?)
 |some .nilmap,some _=>some ⟨.tup [z,.bool false],false,none,h⟩
 |_,_=>none
@[go_sem] theorem q0h {h0:Nat}{al:Option (List Nat)}{h:qi}{kd:Kd}{z kv:AVal}{b:Nat}:qje h0 al h kd z (some (.map b)) (some kv)=ifR (jf h0 al b) (qj8 h kd z kv h[b]?):=rfl
@[go_sem] theorem q9e {p:je}{xc:XC}{h0:Nat}{al:Option (List Nat)}{e:Env}{h:qi}{kd:Kd}{z:AVal}{m k:qz}:qb p xc h0 al e h (.lookup kd z true m k)=qje h0 al h kd z (qe e m) (qe e k):=by
 simp only[qb,j0,qje]
 cases qe e m with
 |none=>cases qe e k<;>rfl
 |some v=>cases qe e k with
  |none=>cases v<;>rfl
  |some kv=>cases v with
   |map b=>
    simp only[ifR,jl,qj8,qhd]
    cases jf h0 al b with
    |false=>rfl
    |true=>
     simp only[cond_true]
     cases h[b]? with
     |none=>rfl
     |some x=>cases x with
      |map es=>
       simp only[]
       cases jj kd kv es 0 with
       |none=>rfl
       |some r=>cases r<;>rfl
      |_=>rfl
   |_=>rfl
theorem jg {p:je}{xc:XC}{k:Nat}{args:List AVal}{v:AVal}(hp:p.prims k=none)(hc:∃hh,jq p xc k args []=some (v,false,hh))(hz:∀hh,freezeR hh v=some v)(hv:below 0 v=true):qd p xc k args=some (v,false):=by
 obtain⟨hh,hc⟩:=hc
 exact yb hp hc (hz hh) hv
end Go.Z
