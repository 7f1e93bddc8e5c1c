/- The structs of chapter 4, the map of kinds, maps of texts to true. -/
import Derived.Test.YtnjngdcbkkonnaaGreatDoorG0
import Derived.Test.YtnjngdcbkkonnaaGreatDoorL1
import Derived.Test.YtnjngdcbkkonnaaGreatDoorAbsL
import Derived.Test.YtnjngdcbkkonnaaGreatDoorZM
set_option linter.unusedVariables false
set_option linter.unusedSimpArgs false
set_option maxRecDepth 100000
namespace Go.Z
open Go Go.Abs
structure GEl where
 kind:List UInt8
 a:Int
 b:Int
def vel (p:GEl):AVal:=.agg [.str p.kind,.int .i64 p.a,.int .i64 p.b]
@[go_sem] theorem jho {p:GEl}:(vel p).flat=[.str p.kind,.int .i64 p.a,.int .i64 p.b]:=rfl
@[go_sem] theorem qzy {n:Nat} (p:GEl):below n (vel p)=true:=by rfl
@[go_sem] theorem q9q {n z:Nat} {l:Option (List GEl)}:below n (sl z vel l)=true:=qit qzy
@[go_sem] theorem jh5 {p:GEl}:AVal.vptr (vel p)=.vptr (.agg [.str p.kind,.int .i64 p.a,.int .i64 p.b]):=rfl
theorem qpk {b t:Nat} {h:qh} {bb:Bool} {p:GEl} {o v:Option (List GEl)} (hv:apO o [p]=some v):appR 3 b h (some t) (some (sl 3 vel o)) (some (.list bb 3 [.agg [.str p.kind,.int .i64 p.a,.int .i64 p.b]]))=ifR (decide (b≤4096)) (some ⟨sl 3 vel v,true,some t,h⟩):=qn0 (x:=p) (by omega) rfl hv
theorem qpq {b:Nat} {h:qh} {bb:Bool} {p:GEl} {o v:Option (List GEl)} (hv:apO o [p]=some v) (hn:o.isNone=true):appR 3 b h none (some (sl 3 vel o)) (some (.list bb 3 [.agg [.str p.kind,.int .i64 p.a,.int .i64 p.b]]))=ifR (decide (b≤4096)) (some ⟨sl 3 vel v,true,none,h⟩):=qjl (x:=p) (by omega) rfl hn hv
structure qg where
 name:List UInt8
 kd:List UInt8
 pa:Int
 pb:Int
 sa:Int
 sb:Int
 cost:Int
 stock:Int
def qq (p:qg):AVal:=.agg [.str p.name,.str p.kd,.int .i64 p.pa,.int .i64 p.pb,.int .i64 p.sa,.int .i64 p.sb,.int .i64 p.cost,.int .i64 p.stock]
@[go_sem] theorem jbb {p:qg}:(qq p).flat=[.str p.name,.str p.kd,.int .i64 p.pa,.int .i64 p.pb,.int .i64 p.sa,.int .i64 p.sb,.int .i64 p.cost,.int .i64 p.stock]:=rfl
@[go_sem] theorem qub {n:Nat} (p:qg):below n (qq p)=true:=by rfl
@[go_sem] theorem q6y {n z:Nat} {l:Option (List qg)}:below n (sl z qq l)=true:=qit qub
@[go_sem] theorem jd8 {p:qg}:AVal.vptr (qq p)=.vptr (.agg [.str p.name,.str p.kd,.int .i64 p.pa,.int .i64 p.pb,.int .i64 p.sa,.int .i64 p.sb,.int .i64 p.cost,.int .i64 p.stock]):=rfl
theorem qhp {b t:Nat} {h:qh} {bb:Bool} {p:qg} {o v:Option (List qg)} (hv:apO o [p]=some v):appR 8 b h (some t) (some (sl 8 qq o)) (some (.list bb 8 [.agg [.str p.name,.str p.kd,.int .i64 p.pa,.int .i64 p.pb,.int .i64 p.sa,.int .i64 p.sb,.int .i64 p.cost,.int .i64 p.stock]]))=ifR (decide (b≤4096)) (some ⟨sl 8 qq v,true,some t,h⟩):=qn0 (x:=p) (by omega) rfl hv
theorem qhb {b:Nat} {h:qh} {bb:Bool} {p:qg} {o v:Option (List qg)} (hv:apO o [p]=some v) (hn:o.isNone=true):appR 8 b h none (some (sl 8 qq o)) (some (.list bb 8 [.agg [.str p.name,.str p.kd,.int .i64 p.pa,.int .i64 p.pb,.int .i64 p.sa,.int .i64 p.sb,.int .i64 p.cost,.int .i64 p.stock]]))=ifR (decide (b≤4096)) (some ⟨sl 8 qq v,true,none,h⟩):=qjl (x:=p) (by omega) rfl hn hv
structure qlh where
 w:Int
 ln:Int
 ld:Int
 mn:Int
 md:Int
def qfc (p:qlh):AVal:=.agg [.int .i64 p.w,.int .i64 p.ln,.int .i64 p.ld,.int .i64 p.mn,.int .i64 p.md]
@[go_sem] theorem jcm {p:qlh}:(qfc p).flat=[.int .i64 p.w,.int .i64 p.ln,.int .i64 p.ld,.int .i64 p.mn,.int .i64 p.md]:=rfl
@[go_sem] theorem q8p {n:Nat} (p:qlh):below n (qfc p)=true:=by rfl
@[go_sem] theorem q98 {p:qlh}:AVal.vptr (qfc p)=.vptr (.agg [.int .i64 p.w,.int .i64 p.ln,.int .i64 p.ld,.int .i64 p.mn,.int .i64 p.md]):=rfl
structure qqz where
 a:Int
 b:Int
 c:Int
 d:Int
def qww (p:qqz):AVal:=.agg [.int .i64 p.a,.int .i64 p.b,.int .i64 p.c,.int .i64 p.d]
@[go_sem] theorem jbx {p:qqz}:(qww p).flat=[.int .i64 p.a,.int .i64 p.b,.int .i64 p.c,.int .i64 p.d]:=rfl
@[go_sem] theorem q8s {n:Nat} (p:qqz):below n (qww p)=true:=by rfl
@[go_sem] theorem jar {p:qqz}:AVal.vptr (qww p)=.vptr (.agg [.int .i64 p.a,.int .i64 p.b,.int .i64 p.c,.int .i64 p.d]):=rfl
structure qxv where
 m0:Int
 m1:Int
 m2:Int
 m3:Int
 m4:Int
 m5:Int
 m6:Int
 m7:Int
def q1y (p:qxv):AVal:=.agg [.int .i64 p.m0,.int .i64 p.m1,.int .i64 p.m2,.int .i64 p.m3,.int .i64 p.m4,.int .i64 p.m5,.int .i64 p.m6,.int .i64 p.m7]
@[go_sem] theorem jhg {p:qxv}:(q1y p).flat=[.int .i64 p.m0,.int .i64 p.m1,.int .i64 p.m2,.int .i64 p.m3,.int .i64 p.m4,.int .i64 p.m5,.int .i64 p.m6,.int .i64 p.m7]:=rfl
@[go_sem] theorem ja7 {n:Nat} (p:qxv):below n (q1y p)=true:=by rfl
@[go_sem] theorem jgi {p:qxv}:AVal.vptr (q1y p)=.vptr (.agg [.int .i64 p.m0,.int .i64 p.m1,.int .i64 p.m2,.int .i64 p.m3,.int .i64 p.m4,.int .i64 p.m5,.int .i64 p.m6,.int .i64 p.m7]):=rfl
structure qsw where
 band:Int
 ladder:Option (List GEl)
def qy4 (p:qsw):AVal:=.agg [.int .i64 p.band,sl 3 vel p.ladder]
@[go_sem] theorem q8q {p:qsw}:(qy4 p).flat=[.int .i64 p.band,sl 3 vel p.ladder]:=rfl
@[go_sem] theorem q85 {p:qsw}:AVal.vptr (qy4 p)=.vptr (.agg [.int .i64 p.band,sl 3 vel p.ladder]):=rfl
structure qv6 where
 choice:Option (List Int)
 rband:Int
 rladder:Option (List GEl)
def q2h (p:qv6):AVal:=.agg [sl 1 jr p.choice,.int .i64 p.rband,sl 3 vel p.rladder]
@[go_sem] theorem jdj {p:qv6}:(q2h p).flat=[sl 1 jr p.choice,.int .i64 p.rband,sl 3 vel p.rladder]:=rfl
@[go_sem] theorem q90 {p:qv6}:AVal.vptr (q2h p)=.vptr (.agg [sl 1 jr p.choice,.int .i64 p.rband,sl 3 vel p.rladder]):=rfl
structure qv9 where
 parts:Option (List qg)
 choice:Option (List Int)
 bands:Option (List qlh)
def q2t (p:qv9):AVal:=.agg [sl 8 qq p.parts,sl 1 jr p.choice,sl 5 qfc p.bands]
@[go_sem] theorem jab {p:qv9}:(q2t p).flat=[sl 8 qq p.parts,sl 1 jr p.choice,sl 5 qfc p.bands]:=rfl
@[go_sem] theorem ja4 {p:qv9}:AVal.vptr (q2t p)=.vptr (.agg [sl 8 qq p.parts,sl 1 jr p.choice,sl 5 qfc p.bands]):=rfl
structure qx3 where
 parts:Option (List qg)
 bands:Option (List qlh)
 n:Int
def q2w (p:qx3):AVal:=.agg [sl 8 qq p.parts,sl 5 qfc p.bands,.int .i64 p.n]
@[go_sem] theorem q93 {p:qx3}:(q2w p).flat=[sl 8 qq p.parts,sl 5 qfc p.bands,.int .i64 p.n]:=rfl
@[go_sem] theorem jeb {p:qx3}:AVal.vptr (q2w p)=.vptr (.agg [sl 8 qq p.parts,sl 5 qfc p.bands,.int .i64 p.n]):=rfl
structure qxn where
 x:Option (List GEl)
 y:Option (List GEl)
 lo:Int
 hi:Int
def q22 (p:qxn):AVal:=.agg [sl 3 vel p.x,sl 3 vel p.y,.int .i64 p.lo,.int .i64 p.hi]
@[go_sem] theorem jdp {p:qxn}:(q22 p).flat=[sl 3 vel p.x,sl 3 vel p.y,.int .i64 p.lo,.int .i64 p.hi]:=rfl
@[go_sem] theorem jb8 {p:qxn}:AVal.vptr (q22 p)=.vptr (.agg [sl 3 vel p.x,sl 3 vel p.y,.int .i64 p.lo,.int .i64 p.hi]):=rfl
@[go_sem] theorem jl1 {h:qh} {a0 b0:List UInt8} {a1 b1:List UInt8} {a2 b2:Int} {a3 b3:Int} {a4 b4:Int} {a5 b5:Int} {a6 b6:Int} {a7 b7:Int}:q2a [.str,.str,.int,.int,.int,.int,.int,.int] true h (some (.agg [.str a0,.str a1,.int .i64 a2,.int .i64 a3,.int .i64 a4,.int .i64 a5,.int .i64 a6,.int .i64 a7])) (some (.agg [.str b0,.str b1,.int .i64 b2,.int .i64 b3,.int .i64 b4,.int .i64 b5,.int .i64 b6,.int .i64 b7]))=some ⟨.bool (!(decide (a0=b0) && decide (a1=b1) && decide (a2=b2) && decide (a3=b3) && decide (a4=b4) && decide (a5=b5) && decide (a6=b6) && decide (a7=b7))),false,none,h⟩:=by
 show (match zq [.str,.str,.int,.int,.int,.int,.int,.int] [.str a0,.str a1,.int .i64 a2,.int .i64 a3,.int .i64 a4,.int .i64 a5,.int .i64 a6,.int .i64 a7] [.str b0,.str b1,.int .i64 b2,.int .i64 b3,.int .i64 b4,.int .i64 b5,.int .i64 b6,.int .i64 b7] with | some t=>val h (.bool (bif true then !t else t)) | none=>none)=_
 have:zq [.str,.str,.int,.int,.int,.int,.int,.int] [.str a0,.str a1,.int .i64 a2,.int .i64 a3,.int .i64 a4,.int .i64 a5,.int .i64 a6,.int .i64 a7] [.str b0,.str b1,.int .i64 b2,.int .i64 b3,.int .i64 b4,.int .i64 b5,.int .i64 b6,.int .i64 b7]=some (decide (a0=b0) && decide (a1=b1) && decide (a2=b2) && decide (a3=b3) && decide (a4=b4) && decide (a5=b5) && decide (a6=b6) && decide (a7=b7)):=by
  have e:∀ x y:Int,(x == y)=decide (x=y):=fun x y=>by by_cases h:x=y <;> simp [h]
  have e':∀ x y:List UInt8,(x == y)=decide (x=y):=fun x y=>by by_cases h:x=y <;> simp [h]
  simp only [zq,ki,e,e',decide_true,cond_true]
  by_cases h0:a0=b0 <;> by_cases h1:a1=b1 <;> by_cases h2:a2=b2 <;> by_cases h3:a3=b3 <;> by_cases h4:a4=b4 <;> by_cases h5:a5=b5 <;> by_cases h6:a6=b6 <;> by_cases h7:a7=b7 <;> simp [h0,h1,h2,h3,h4,h5,h6,h7]
 rw [this]
 rfl
theorem qqy {s:List UInt8} (h0:decide (s=([98,108,111,99,107]:List UInt8))=true):js .str (.str s) j9 0=some (some (0,.agg [.str ([116,114,97,112]:List UInt8),.bool true,.fn (.func 218) [] []])):=by
 have e0:(s == ([98,108,111,99,107]:List UInt8))=true:=by simpa using h0
 simp only [j9,js,ki,e0]
theorem q2k {s:List UInt8} (h0:decide (s=([98,108,111,99,107]:List UInt8))=false) (h1:decide (s=([115,101,114,105,101,115]:List UInt8))=true):js .str (.str s) j9 0=some (some (1,.agg [.str ([115,104,117,110,116]:List UInt8),.bool false,.fn (.func 219) [] []])):=by
 have e0:(s == ([98,108,111,99,107]:List UInt8))=false:=by simpa using h0
 have e1:(s == ([115,101,114,105,101,115]:List UInt8))=true:=by simpa using h1
 simp only [j9,js,ki,e0,e1]
theorem q2j {s:List UInt8} (h0:decide (s=([98,108,111,99,107]:List UInt8))=false) (h1:decide (s=([115,101,114,105,101,115]:List UInt8))=false) (h2:decide (s=([115,104,117,110,116]:List UInt8))=true):js .str (.str s) j9 0=some (some (2,.agg [.str ([115,101,114,105,101,115]:List UInt8),.bool false,.fn (.func 220) [] []])):=by
 have e0:(s == ([98,108,111,99,107]:List UInt8))=false:=by simpa using h0
 have e1:(s == ([115,101,114,105,101,115]:List UInt8))=false:=by simpa using h1
 have e2:(s == ([115,104,117,110,116]:List UInt8))=true:=by simpa using h2
 simp only [j9,js,ki,e0,e1,e2]
theorem qqw {s:List UInt8} (h0:decide (s=([98,108,111,99,107]:List UInt8))=false) (h1:decide (s=([115,101,114,105,101,115]:List UInt8))=false) (h2:decide (s=([115,104,117,110,116]:List UInt8))=false) (h3:decide (s=([116,114,97,112]:List UInt8))=true):js .str (.str s) j9 0=some (some (3,.agg [.str ([98,108,111,99,107]:List UInt8),.bool true,.fn (.func 221) [] []])):=by
 have e0:(s == ([98,108,111,99,107]:List UInt8))=false:=by simpa using h0
 have e1:(s == ([115,101,114,105,101,115]:List UInt8))=false:=by simpa using h1
 have e2:(s == ([115,104,117,110,116]:List UInt8))=false:=by simpa using h2
 have e3:(s == ([116,114,97,112]:List UInt8))=true:=by simpa using h3
 simp only [j9,js,ki,e0,e1,e2,e3]
theorem q2i {s:List UInt8} (h0:decide (s=([98,108,111,99,107]:List UInt8))=false) (h1:decide (s=([115,101,114,105,101,115]:List UInt8))=false) (h2:decide (s=([115,104,117,110,116]:List UInt8))=false) (h3:decide (s=([116,114,97,112]:List UInt8))=false):js .str (.str s) j9 0=some (none):=by
 have e0:(s == ([98,108,111,99,107]:List UInt8))=false:=by simpa using h0
 have e1:(s == ([115,101,114,105,101,115]:List UInt8))=false:=by simpa using h1
 have e2:(s == ([115,104,117,110,116]:List UInt8))=false:=by simpa using h2
 have e3:(s == ([116,114,97,112]:List UInt8))=false:=by simpa using h3
 simp only [j9,js,ki,e0,e1,e2,e3]
@[go_sem] theorem q41 {n:Nat}:qa0 n (.map j9)=true:=rfl
@[go_sem] theorem jlc:pr.maps 193=some j9:=rfl
def qks (h:qh) (zero:AVal) (r:Option (Option (Nat × AVal))):Option ORes:=match r with
 | some (some (_,v))=>some ⟨.tup [v,.bool true],false,none,h⟩
 | some none=>some ⟨.tup [zero,.bool false],false,none,h⟩
 | none=>none
@[go_sem] theorem q8m {h:qh} {z v:AVal} {i:Nat}:qks h z (some (some (i,v)))=some ⟨.tup [v,.bool true],false,none,h⟩:=rfl
@[go_sem] theorem q8u {h:qh} {z:AVal}:qks h z (some none)=some ⟨.tup [z,.bool false],false,none,h⟩:=rfl
def qm4 (h:qh) (kd:Kd) (z kv:AVal) (x:Option ABox):Option ORes:=match x with
 | some (.map es)=>qks h z (js kd kv es 0)
 | _=>none
@[go_sem] theorem jc4 {h:qh} {kd:Kd} {z kv:AVal} {es:List (AVal × AVal)}:qm4 h kd z kv (some (.map es))=qks h z (js kd kv es 0):=rfl
def qmn (h0:Nat) (al:Option (List Nat)) (h:qh) (kd:Kd) (z:AVal) (m k:Option AVal):Option ORes:=match m,k with
 | some (.map b),some kv=>ifR (jx h0 al b) (qm4 h kd z kv h[b]?)
 | some .nilmap,some _=>some ⟨.tup [z,.bool false],false,none,h⟩
 | _,_=>none
@[go_sem] theorem q7x {h0:Nat} {al:Option (List Nat)} {h:qh} {kd:Kd} {z kv:AVal} {b:Nat}:qmn h0 al h kd z (some (.map b)) (some kv)=ifR (jx h0 al b) (qm4 h kd z kv h[b]?):=rfl
@[go_sem] theorem jgj {p:jk} {xc:XC} {h0:Nat} {al:Option (List Nat)} {e:Env} {h:qh} {kd:Kd} {z:AVal} {m k:qp}:qc p xc h0 al e h (.lookup kd z true m k)=qmn h0 al h kd z (qf e m) (qf e k):=by
 simp only [qc,zp,qmn]
 cases qf e m with
 | none=>cases qf e k <;> rfl
 | some v=>cases qf e k with
  | none=>cases v <;> rfl
  | some kv=>cases v with
   | map b=>
    simp only [ifR,zh,qm4,qks]
    cases jx h0 al b with
    | false=>rfl
    | true=>
     simp only [cond_true]
     cases h[b]? with
     | none=>rfl
     | some x=>cases x with
      | map es=>
       simp only []
       cases js kd kv es 0 with
       | none=>rfl
       | some r=>cases r <;> rfl
      | _=>rfl
   | _=>rfl
def qgh (l:List (List UInt8)) (s:List UInt8):Bool:=decide (s∈l)
def qmw (l:List (List UInt8)) (s:List UInt8):Option (List (List UInt8)):=if qgh l s then some l else if l.length≤1073741824 then some (l++[s]) else none
theorem q2p {h:qh} {l:List (List UInt8)} {s:List UInt8}:qn4 h .str (.bool false) (.str s) (some (.map (yk l)))=some ⟨.bool (qgh l s),false,none,h⟩:=by
 rw [qyc,qmj]
 unfold qgh
 by_cases hm:s∈l <;> simp [hm,qxo,qxi]
theorem q1e {h:qh} {b:Nat} {l v:List (List UInt8)} {s:List UInt8} (hv:qmw l s=some v) (hn:qgh l s=false):qop h b .str (.str s) (.bool true) (some (.map (yk l)))=kf (jo h b (.map (yk v))) .undef:=by
 unfold qmw at hv
 rw [hn] at hv
 simp only [Bool.false_eq_true,if_false] at hv
 split at hv
 ·rename_i hl
  cases hv
  have hm:¬ s∈l:=by simpa [qgh] using hn
  rw [qtc,qmj,if_neg hm,qz9,qzg,Nat.ble_eq_true_of_le hl,qwk]
  rfl
 ·cases hv
theorem qic:∀ (l:List (List UInt8)) (i:Nat) (k:List UInt8),l[i]?=some k→kw (yk l) i (.bool true)=yk l
 | [],i,k,h=>by simp at h
 | x::l,0,k,h=>rfl
 | x::l,i + 1,k,h=>by
  have:=qic l i k (by simpa using h)
  show (AVal.str x,AVal.bool true)::kw (yk l) i (.bool true)=_
  rw [this]; rfl
theorem q7e {h:qh} {b:Nat} {l v:List (List UInt8)} {s:List UInt8} (hv:qmw l s=some v):qop h b .str (.str s) (.bool true) (some (.map (yk l)))=kf (jo h b (.map (yk v))) .undef:=by
 cases hn:qgh l s with
 | false=>exact q1e hv hn
 | true=>
  unfold qmw at hv
  rw [hn] at hv
  simp only [if_true,Option.some.injEq] at hv
  subst hv
  have hm:s∈l:=by simpa [qgh] using hn
  rw [qtc,qmj,if_pos hm]
  have hi:l[l.idxOf s]?=some s:=by
   rw [List.getElem?_eq_getElem (List.idxOf_lt_length_of_mem hm),List.getElem_idxOf]
  show kf (jo h b (.map (kw (yk l) (l.idxOf s) (.bool true)))) .undef=_
  rw [qic l _ s hi]
@[go_sem] theorem qut {n:Nat}:∀ {l:List (List UInt8)},qa0 n (.map (yk l))=true
 | []=>rfl
 | x::l=>by
  have:=qut (n:=n) (l:=l)
  simp only [qa0] at this ⊢
  show (below n (.str x) && below n (.bool true) && kj n (yk l))=true
  rw [this]; rfl
theorem qzw {p:jk} {xc:XC} {h0:Nat} {al:Option (List Nat)} {e:Env} {h:qh} {r:Nat}:qc p xc h0 al e h (.mkmap r)=kf (newBox h0 h r (.map (yk []))) (.map (h0 + r)):=q4y
theorem jn {p:jk} {xc:XC} {k:Nat} {args:List AVal} {v:AVal} (hp:p.prims k=none) (hc:∃ hh,jc p xc k args []=some (v,false,hh)) (hz:∀ hh,freezeR hh v=some v) (hv:below 0 v=true):qd p xc k args=some (v,false):=by
 obtain ⟨hh,hc⟩:=hc
 exact jt hp hc (hz hh) hv
set_option maxHeartbeats 4000000
noncomputable def f106 (a0:Bool) (a1:Int):Option Int:=
 cond a0
  (some a1)
  (some 0)
theorem qta {a0:Bool} {a1:Int} {r} (h:f106 a0 a1=some r):qd pr (X pr) 106 [.bool a0,.int .i64 a1]=some (.int .i64 r,false):=by
 unfold f106 at h
 rcases qa h with ⟨h1,h⟩ | ⟨h1,h⟩
 ·have hr:a1=r:=Option.some.inj h
  subst hr
  refine jn rfl ?_ (fun _=>by first | rfl | simp only [go_sem,seval]) (by first | rfl | simp only [go_sem,seval])
  rw [qj (show pr.fns 106=some c106 from rfl) (by simp)]
  simp only [go_sem,seval,c106,h1]
  exact ⟨_,rfl⟩
 ·have hr:0=r:=Option.some.inj h
  subst hr
  refine jn rfl ?_ (fun _=>by first | rfl | simp only [go_sem,seval]) (by first | rfl | simp only [go_sem,seval])
  rw [qj (show pr.fns 106=some c106 from rfl) (by simp)]
  simp only [go_sem,seval,c106,h1]
  exact ⟨_,rfl⟩
noncomputable def qf6 (a0:Option (List Int)) (s0:Int):Option (Int ⊕ (Int ⊕ Int)):=
 cond (decide (s0 < ((a0.getD []).length:Int)))
  (qi (zz (a0.getD []) s0) fun v10=>
  cond (decide (v10=0))
   (some (.inl (qk .i64 (s0 + 1))))
   (some (.inr (.inl v10))))
  (some (.inr (.inr s0)))
def qh0 (a0:Option (List Int)) (s0:Int):ASt:=⟨[(5,sl 1 jr a0,false),(6,.int .i64 ((a0.getD []).length:Int),false),(7,.int .i64 s0,false)],[]⟩
def qlu (a0:Option (List Int)):Int ⊕ Int→jg × ASt
 | .inl d=>(.ret,⟨[(2,.int .i64 d,false)],[]⟩)
 | .inr d=>(.exit 0,⟨[(5,sl 1 jr a0,false),(6,.int .i64 ((a0.getD []).length:Int),false),(7,.int .i64 d,false),(8,.bool false,false)],[]⟩)
theorem q78 (a0:Option (List Int)) (s0:Int) (r) (h:qf6 a0 s0=some r):z6 pr qec (qh0 a0) (qlu a0) s0 r:=by
 unfold qf6 at h
 rcases qa h with ⟨h9,h⟩ | ⟨h9,h⟩
 ·obtain ⟨v10,h11,h⟩:=qb h
  rcases qa h with ⟨h12,h⟩ | ⟨h12,h⟩
  ·cases h
   exact qr (st':=⟨[(5,sl 1 jr a0,false),(6,.int .i64 ((a0.getD []).length:Int),false),(7,.int .i64 (qk .i64 (s0 + 1)),false)],[]⟩) (by simp only [go_sem,seval,qec,qh0,h9,jj h11,h12] <;> rfl) (qz (Nat.le_refl _))
  ·cases h
   exact qm (by simp only [go_sem,seval,qec,qh0,h9,jj h11,h12,qlu] <;> rfl)
 ·cases h
  exact qm (by simp only [go_sem,seval,qec,qh0,h9,qlu] <;> rfl)
theorem qze (a0:Option (List Int)) {s0:Int} {d} (h:itO (qf6 a0) s0=some d):X pr (.loop qec) (qh0 a0 s0)=some (qlu a0 d):=yp (q78 a0) (fun d=>by rcases d with d|d <;> (intro hh; cases hh)) h
noncomputable def f105 (a0:Option (List Int)):Option Int:=
 qi (itO (qf6 a0) 0) fun d13=>match d13 with
  | .inl d15=>
   some d15
  | .inr d16=>
   some 0
theorem q0d {a0:Option (List Int)} {r} (h:f105 a0=some r):qd pr (X pr) 105 [sl 1 jr a0]=some (.int .i64 r,false):=by
 unfold f105 at h
 obtain ⟨d13,h14,h⟩:=qb h
 rcases d13 with d15 | d16
 ·have wh14:X pr (.loop qec) ⟨[(5,sl 1 jr a0,false),(6,.int .i64 ((a0.getD []).length:Int),false),(7,.int .i64 0,false)],[]⟩=some (.ret,⟨[(2,.int .i64 d15,false)],[]⟩):=qze a0 h14
  have hr:d15=r:=Option.some.inj h
  subst hr
  refine jn rfl ?_ (fun _=>by first | rfl | simp only [go_sem,seval]) (by first | rfl | simp only [go_sem,seval])
  rw [qj (show pr.fns 105=some c105 from rfl) (by simp)]
  simp only [go_sem,seval,c105,wh14]
  exact ⟨_,rfl⟩
 ·have wh14:X pr (.loop qec) ⟨[(5,sl 1 jr a0,false),(6,.int .i64 ((a0.getD []).length:Int),false),(7,.int .i64 0,false)],[]⟩=some (.exit 0,⟨[(5,sl 1 jr a0,false),(6,.int .i64 ((a0.getD []).length:Int),false),(7,.int .i64 d16,false),(8,.bool false,false)],[]⟩):=qze a0 h14
  have hr:0=r:=Option.some.inj h
  subst hr
  refine jn rfl ?_ (fun _=>by first | rfl | simp only [go_sem,seval]) (by first | rfl | simp only [go_sem,seval])
  rw [qj (show pr.fns 105=some c105 from rfl) (by simp)]
  simp only [go_sem,seval,c105,wh14]
  exact ⟨_,rfl⟩
noncomputable def f109 (a0:Int) (a1:Int) (a2:Int):Option Int:=
 cond (decide (a0 < a1))
  (qi (f106 true 3) fun v2=>
  some v2)
  (qi (f106 (decide (a2 < a0)) 3) fun v4=>
  some v4)
theorem qv8 {a0:Int} {a1:Int} {a2:Int} {r} (h:f109 a0 a1 a2=some r):qd pr (X pr) 109 [.int .i64 a0,.int .i64 a1,.int .i64 a2]=some (.int .i64 r,false):=by
 unfold f109 at h
 rcases qa h with ⟨h1,h⟩ | ⟨h1,h⟩
 ·obtain ⟨v2,h3,h⟩:=qb h
  have hr:v2=r:=Option.some.inj h
  subst hr
  refine jn rfl ?_ (fun _=>by first | rfl | simp only [go_sem,seval]) (by first | rfl | simp only [go_sem,seval])
  rw [qj (show pr.fns 109=some c109 from rfl) (by simp)]
  simp only [go_sem,seval,c109,h1,qta h3]
  exact ⟨_,rfl⟩
 ·obtain ⟨v4,h5,h⟩:=qb h
  have wh5:qd pr (X pr) 106 [.bool (decide (a2 < a0)),.int .i64 3]=some (.int .i64 v4,false):=qta h5
  have hr:v4=r:=Option.some.inj h
  subst hr
  refine jn rfl ?_ (fun _=>by first | rfl | simp only [go_sem,seval]) (by first | rfl | simp only [go_sem,seval])
  rw [qj (show pr.fns 109=some c109 from rfl) (by simp)]
  simp only [go_sem,seval,c109,h1,wh5]
  exact ⟨_,rfl⟩
noncomputable def qcz (a0:List UInt8):Option (Option (Nat) ⊕ (Nat ⊕ Nat)):=
 cond (decide (0 < a0.length))
  (cond (decide (65≤((qe a0 0).1:Int)))
   (cond (decide (((qe a0 0).1:Int)≤90))
    (cond (decide (48≤((qe a0 0).1:Int)))
     (cond (decide (((qe a0 0).1:Int)≤57))
      (some (.inl (some (0 + (qe a0 0).2))))
      (some (.inl (some (0 + (qe a0 0).2)))))
     (some (.inl (some (0 + (qe a0 0).2)))))
    (cond (decide (97≤((qe a0 0).1:Int)))
     (cond (decide (48≤((qe a0 0).1:Int)))
      (cond (decide (((qe a0 0).1:Int)≤57))
       (cond (decide (((qe a0 0).1:Int)≤122))
        (some (.inl (some (0 + (qe a0 0).2))))
        (some (.inr (.inl (0 + (qe a0 0).2)))))
       (cond (decide (((qe a0 0).1:Int)≤122))
        (some (.inl (some (0 + (qe a0 0).2))))
        (some (.inr (.inl (0 + (qe a0 0).2))))))
      (cond (decide (((qe a0 0).1:Int)≤122))
       (some (.inl (some (0 + (qe a0 0).2))))
       (some (.inr (.inl (0 + (qe a0 0).2))))))
     (cond (decide (48≤((qe a0 0).1:Int)))
      (cond (decide (((qe a0 0).1:Int)≤57))
       (some (.inr (.inl (0 + (qe a0 0).2))))
       (some (.inr (.inl (0 + (qe a0 0).2)))))
      (some (.inr (.inl (0 + (qe a0 0).2)))))))
   (cond (decide (97≤((qe a0 0).1:Int)))
    (cond (decide (48≤((qe a0 0).1:Int)))
     (cond (decide (((qe a0 0).1:Int)≤57))
      (cond (decide (((qe a0 0).1:Int)≤122))
       (some (.inl (some (0 + (qe a0 0).2))))
       (some (.inr (.inl (0 + (qe a0 0).2)))))
      (cond (decide (((qe a0 0).1:Int)≤122))
       (some (.inl (some (0 + (qe a0 0).2))))
       (some (.inr (.inl (0 + (qe a0 0).2))))))
     (cond (decide (((qe a0 0).1:Int)≤122))
      (some (.inl (some (0 + (qe a0 0).2))))
      (some (.inr (.inl (0 + (qe a0 0).2))))))
    (cond (decide (48≤((qe a0 0).1:Int)))
     (cond (decide (((qe a0 0).1:Int)≤57))
      (some (.inr (.inl (0 + (qe a0 0).2))))
      (some (.inr (.inl (0 + (qe a0 0).2)))))
     (some (.inr (.inl (0 + (qe a0 0).2)))))))
  (some (.inr (.inr 0)))
noncomputable def qc4 (a0:List UInt8) (s0:Nat):Option (Option (Nat) ⊕ (Nat ⊕ Nat)):=
 cond (decide (s0 < a0.length))
  (cond (decide (65≤((qe a0 s0).1:Int)))
   (cond (decide (((qe a0 s0).1:Int)≤90))
    (cond (decide (48≤((qe a0 s0).1:Int)))
     (cond (decide (((qe a0 s0).1:Int)≤57))
      (some (.inl (some (s0 + (qe a0 s0).2))))
      (some (.inl (some (s0 + (qe a0 s0).2)))))
     (some (.inl (some (s0 + (qe a0 s0).2)))))
    (cond (decide (97≤((qe a0 s0).1:Int)))
     (cond (decide (48≤((qe a0 s0).1:Int)))
      (cond (decide (((qe a0 s0).1:Int)≤57))
       (cond (decide (((qe a0 s0).1:Int)≤122))
        (some (.inl (some (s0 + (qe a0 s0).2))))
        (cond (decide ((s0:Int)=0))
         (some (.inr (.inl (s0 + (qe a0 s0).2))))
         (some (.inl (some (s0 + (qe a0 s0).2))))))
       (cond (decide (((qe a0 s0).1:Int)≤122))
        (some (.inl (some (s0 + (qe a0 s0).2))))
        (cond (decide ((s0:Int)=0))
         (some (.inr (.inl (s0 + (qe a0 s0).2))))
         (cond (decide (((qe a0 s0).1:Int)=95))
          (some (.inl (some (s0 + (qe a0 s0).2))))
          (some (.inr (.inl (s0 + (qe a0 s0).2))))))))
      (cond (decide (((qe a0 s0).1:Int)≤122))
       (some (.inl (some (s0 + (qe a0 s0).2))))
       (cond (decide ((s0:Int)=0))
        (some (.inr (.inl (s0 + (qe a0 s0).2))))
        (cond (decide (((qe a0 s0).1:Int)=95))
         (some (.inl (some (s0 + (qe a0 s0).2))))
         (some (.inr (.inl (s0 + (qe a0 s0).2))))))))
     (cond (decide (48≤((qe a0 s0).1:Int)))
      (cond (decide (((qe a0 s0).1:Int)≤57))
       (cond (decide ((s0:Int)=0))
        (some (.inr (.inl (s0 + (qe a0 s0).2))))
        (some (.inl (some (s0 + (qe a0 s0).2)))))
       (cond (decide ((s0:Int)=0))
        (some (.inr (.inl (s0 + (qe a0 s0).2))))
        (cond (decide (((qe a0 s0).1:Int)=95))
         (some (.inl (some (s0 + (qe a0 s0).2))))
         (some (.inr (.inl (s0 + (qe a0 s0).2)))))))
      (cond (decide ((s0:Int)=0))
       (some (.inr (.inl (s0 + (qe a0 s0).2))))
       (cond (decide (((qe a0 s0).1:Int)=95))
        (some (.inl (some (s0 + (qe a0 s0).2))))
        (some (.inr (.inl (s0 + (qe a0 s0).2)))))))))
   (cond (decide (97≤((qe a0 s0).1:Int)))
    (cond (decide (48≤((qe a0 s0).1:Int)))
     (cond (decide (((qe a0 s0).1:Int)≤57))
      (cond (decide (((qe a0 s0).1:Int)≤122))
       (some (.inl (some (s0 + (qe a0 s0).2))))
       (cond (decide ((s0:Int)=0))
        (some (.inr (.inl (s0 + (qe a0 s0).2))))
        (some (.inl (some (s0 + (qe a0 s0).2))))))
      (cond (decide (((qe a0 s0).1:Int)≤122))
       (some (.inl (some (s0 + (qe a0 s0).2))))
       (cond (decide ((s0:Int)=0))
        (some (.inr (.inl (s0 + (qe a0 s0).2))))
        (cond (decide (((qe a0 s0).1:Int)=95))
         (some (.inl (some (s0 + (qe a0 s0).2))))
         (some (.inr (.inl (s0 + (qe a0 s0).2))))))))
     (cond (decide (((qe a0 s0).1:Int)≤122))
      (some (.inl (some (s0 + (qe a0 s0).2))))
      (cond (decide ((s0:Int)=0))
       (some (.inr (.inl (s0 + (qe a0 s0).2))))
       (cond (decide (((qe a0 s0).1:Int)=95))
        (some (.inl (some (s0 + (qe a0 s0).2))))
        (some (.inr (.inl (s0 + (qe a0 s0).2))))))))
    (cond (decide (48≤((qe a0 s0).1:Int)))
     (cond (decide (((qe a0 s0).1:Int)≤57))
      (cond (decide ((s0:Int)=0))
       (some (.inr (.inl (s0 + (qe a0 s0).2))))
       (some (.inl (some (s0 + (qe a0 s0).2)))))
      (cond (decide ((s0:Int)=0))
       (some (.inr (.inl (s0 + (qe a0 s0).2))))
       (cond (decide (((qe a0 s0).1:Int)=95))
        (some (.inl (some (s0 + (qe a0 s0).2))))
        (some (.inr (.inl (s0 + (qe a0 s0).2)))))))
     (cond (decide ((s0:Int)=0))
      (some (.inr (.inl (s0 + (qe a0 s0).2))))
      (cond (decide (((qe a0 s0).1:Int)=95))
       (some (.inl (some (s0 + (qe a0 s0).2))))
       (some (.inr (.inl (s0 + (qe a0 s0).2)))))))))
  (some (.inr (.inr s0)))
noncomputable def qk4 (a0:List UInt8):Option (Nat)→Option (Option (Nat) ⊕ (Nat ⊕ Nat))
 | none=>qcz a0
 | some x=>qc4 a0 x
def ja (a0:List UInt8) (s0:Nat):ASt:=⟨[(0,.str a0,false),(8,.ptr 0 0,false),(46,.bool false,false)],[.iter a0 s0]⟩
def jb (a0:List UInt8):Option (Nat)→ASt
 | none=>⟨[(0,.str a0,false),(8,.ptr 0 0,false)],[.iter a0 0]⟩
 | some x=>ja a0 x
def j0 (a0:List UInt8):Nat ⊕ Nat→jg × ASt
 | .inl d=>(.ret,⟨[(2,.bool false,false)],[.iter a0 d]⟩)
 | .inr d=>(.exit 0,⟨[(0,.str a0,false),(8,.ptr 0 0,false),(9,.tup [.bool false],false),(10,.bool false,false)],[.iter a0 d]⟩)
theorem q4i (a0:List UInt8) (r) (h:qcz a0=some r):z6 pr je (jb a0) (j0 a0) none r:=by
 unfold qcz at h
 rcases qa h with ⟨h171,h⟩ | ⟨h171,h⟩
 ·rcases qa h with ⟨h172,h⟩ | ⟨h172,h⟩
  ·rcases qa h with ⟨h173,h⟩ | ⟨h173,h⟩
   ·rcases qa h with ⟨h174,h⟩ | ⟨h174,h⟩
    ·rcases qa h with ⟨h175,h⟩ | ⟨h175,h⟩
     ·cases h
      exact qr (st':=⟨[(0,.str a0,false),(8,.ptr 0 0,false),(46,.bool false,false)],[.iter a0 (0 + (qe a0 0).2)]⟩) (by simp only [go_sem,seval,je,jb,ja,h171,ji h171,h172,h173,h174,h175] <;> rfl) (qz (Nat.le_refl _))
     ·cases h
      exact qr (st':=⟨[(0,.str a0,false),(8,.ptr 0 0,false),(46,.bool false,false)],[.iter a0 (0 + (qe a0 0).2)]⟩) (by simp only [go_sem,seval,je,jb,ja,h171,ji h171,h172,h173,h174,h175] <;> rfl) (qz (Nat.le_refl _))
    ·cases h
     exact qr (st':=⟨[(0,.str a0,false),(8,.ptr 0 0,false),(46,.bool false,false)],[.iter a0 (0 + (qe a0 0).2)]⟩) (by simp only [go_sem,seval,je,jb,ja,h171,ji h171,h172,h173,h174] <;> rfl) (qz (Nat.le_refl _))
   ·rcases qa h with ⟨h176,h⟩ | ⟨h176,h⟩
    ·rcases qa h with ⟨h177,h⟩ | ⟨h177,h⟩
     ·rcases qa h with ⟨h178,h⟩ | ⟨h178,h⟩
      ·rcases qa h with ⟨h179,h⟩ | ⟨h179,h⟩
       ·cases h
        exact qr (st':=⟨[(0,.str a0,false),(8,.ptr 0 0,false),(46,.bool false,false)],[.iter a0 (0 + (qe a0 0).2)]⟩) (by simp only [go_sem,seval,je,jb,ja,h171,ji h171,h172,h173,h176,h177,h178,h179] <;> rfl) (qz (Nat.le_refl _))
       ·cases h
        exact qm (by simp only [go_sem,seval,je,jb,ja,h171,ji h171,h172,h173,h176,h177,h178,h179,j0] <;> rfl)
      ·rcases qa h with ⟨h180,h⟩ | ⟨h180,h⟩
       ·cases h
        exact qr (st':=⟨[(0,.str a0,false),(8,.ptr 0 0,false),(46,.bool false,false)],[.iter a0 (0 + (qe a0 0).2)]⟩) (by simp only [go_sem,seval,je,jb,ja,h171,ji h171,h172,h173,h176,h177,h178,h180] <;> rfl) (qz (Nat.le_refl _))
       ·cases h
        exact qm (by simp only [go_sem,seval,je,jb,ja,h171,ji h171,h172,h173,h176,h177,h178,h180,j0] <;> rfl)
     ·rcases qa h with ⟨h181,h⟩ | ⟨h181,h⟩
      ·cases h
       exact qr (st':=⟨[(0,.str a0,false),(8,.ptr 0 0,false),(46,.bool false,false)],[.iter a0 (0 + (qe a0 0).2)]⟩) (by simp only [go_sem,seval,je,jb,ja,h171,ji h171,h172,h173,h176,h177,h181] <;> rfl) (qz (Nat.le_refl _))
      ·cases h
       exact qm (by simp only [go_sem,seval,je,jb,ja,h171,ji h171,h172,h173,h176,h177,h181,j0] <;> rfl)
    ·rcases qa h with ⟨h182,h⟩ | ⟨h182,h⟩
     ·rcases qa h with ⟨h183,h⟩ | ⟨h183,h⟩
      ·cases h
       exact qm (by simp only [go_sem,seval,je,jb,ja,h171,ji h171,h172,h173,h176,h182,h183,j0] <;> rfl)
      ·cases h
       exact qm (by simp only [go_sem,seval,je,jb,ja,h171,ji h171,h172,h173,h176,h182,h183,j0] <;> rfl)
     ·cases h
      exact qm (by simp only [go_sem,seval,je,jb,ja,h171,ji h171,h172,h173,h176,h182,j0] <;> rfl)
  ·rcases qa h with ⟨h184,h⟩ | ⟨h184,h⟩
   ·rcases qa h with ⟨h185,h⟩ | ⟨h185,h⟩
    ·rcases qa h with ⟨h186,h⟩ | ⟨h186,h⟩
     ·rcases qa h with ⟨h187,h⟩ | ⟨h187,h⟩
      ·cases h
       exact qr (st':=⟨[(0,.str a0,false),(8,.ptr 0 0,false),(46,.bool false,false)],[.iter a0 (0 + (qe a0 0).2)]⟩) (by simp only [go_sem,seval,je,jb,ja,h171,ji h171,h172,h184,h185,h186,h187] <;> rfl) (qz (Nat.le_refl _))
      ·cases h
       exact qm (by simp only [go_sem,seval,je,jb,ja,h171,ji h171,h172,h184,h185,h186,h187,j0] <;> rfl)
     ·rcases qa h with ⟨h188,h⟩ | ⟨h188,h⟩
      ·cases h
       exact qr (st':=⟨[(0,.str a0,false),(8,.ptr 0 0,false),(46,.bool false,false)],[.iter a0 (0 + (qe a0 0).2)]⟩) (by simp only [go_sem,seval,je,jb,ja,h171,ji h171,h172,h184,h185,h186,h188] <;> rfl) (qz (Nat.le_refl _))
      ·cases h
       exact qm (by simp only [go_sem,seval,je,jb,ja,h171,ji h171,h172,h184,h185,h186,h188,j0] <;> rfl)
    ·rcases qa h with ⟨h189,h⟩ | ⟨h189,h⟩
     ·cases h
      exact qr (st':=⟨[(0,.str a0,false),(8,.ptr 0 0,false),(46,.bool false,false)],[.iter a0 (0 + (qe a0 0).2)]⟩) (by simp only [go_sem,seval,je,jb,ja,h171,ji h171,h172,h184,h185,h189] <;> rfl) (qz (Nat.le_refl _))
     ·cases h
      exact qm (by simp only [go_sem,seval,je,jb,ja,h171,ji h171,h172,h184,h185,h189,j0] <;> rfl)
   ·rcases qa h with ⟨h190,h⟩ | ⟨h190,h⟩
    ·rcases qa h with ⟨h191,h⟩ | ⟨h191,h⟩
     ·cases h
      exact qm (by simp only [go_sem,seval,je,jb,ja,h171,ji h171,h172,h184,h190,h191,j0] <;> rfl)
     ·cases h
      exact qm (by simp only [go_sem,seval,je,jb,ja,h171,ji h171,h172,h184,h190,h191,j0] <;> rfl)
    ·cases h
     exact qm (by simp only [go_sem,seval,je,jb,ja,h171,ji h171,h172,h184,h190,j0] <;> rfl)
 ·cases h
  exact qm (by simp only [go_sem,seval,je,jb,ja,h171,qrp h171,j0] <;> rfl)
theorem q3i (a0:List UInt8) (s0:Nat) (r) (h:qc4 a0 s0=some r):z6 pr je (jb a0) (j0 a0) (some s0) r:=by
 unfold qc4 at h
 rcases qa h with ⟨h130,h⟩ | ⟨h130,h⟩
 ·rcases qa h with ⟨h131,h⟩ | ⟨h131,h⟩
  ·rcases qa h with ⟨h132,h⟩ | ⟨h132,h⟩
   ·rcases qa h with ⟨h133,h⟩ | ⟨h133,h⟩
    ·rcases qa h with ⟨h134,h⟩ | ⟨h134,h⟩
     ·cases h
      exact qr (st':=⟨[(0,.str a0,false),(8,.ptr 0 0,false),(46,.bool false,false)],[.iter a0 (s0 + (qe a0 s0).2)]⟩) (by simp only [go_sem,seval,je,jb,ja,h130,ji h130,h131,h132,h133,h134] <;> rfl) (qz (Nat.le_refl _))
     ·cases h
      exact qr (st':=⟨[(0,.str a0,false),(8,.ptr 0 0,false),(46,.bool false,false)],[.iter a0 (s0 + (qe a0 s0).2)]⟩) (by simp only [go_sem,seval,je,jb,ja,h130,ji h130,h131,h132,h133,h134] <;> rfl) (qz (Nat.le_refl _))
    ·cases h
     exact qr (st':=⟨[(0,.str a0,false),(8,.ptr 0 0,false),(46,.bool false,false)],[.iter a0 (s0 + (qe a0 s0).2)]⟩) (by simp only [go_sem,seval,je,jb,ja,h130,ji h130,h131,h132,h133] <;> rfl) (qz (Nat.le_refl _))
   ·rcases qa h with ⟨h135,h⟩ | ⟨h135,h⟩
    ·rcases qa h with ⟨h136,h⟩ | ⟨h136,h⟩
     ·rcases qa h with ⟨h137,h⟩ | ⟨h137,h⟩
      ·rcases qa h with ⟨h138,h⟩ | ⟨h138,h⟩
       ·cases h
        exact qr (st':=⟨[(0,.str a0,false),(8,.ptr 0 0,false),(46,.bool false,false)],[.iter a0 (s0 + (qe a0 s0).2)]⟩) (by simp only [go_sem,seval,je,jb,ja,h130,ji h130,h131,h132,h135,h136,h137,h138] <;> rfl) (qz (Nat.le_refl _))
       ·rcases qa h with ⟨h139,h⟩ | ⟨h139,h⟩
        ·cases h
         exact qm (by simp only [go_sem,seval,je,jb,ja,h130,ji h130,h131,h132,h135,h136,h137,h138,h139,j0] <;> rfl)
        ·cases h
         exact qr (st':=⟨[(0,.str a0,false),(8,.ptr 0 0,false),(46,.bool false,false)],[.iter a0 (s0 + (qe a0 s0).2)]⟩) (by simp only [go_sem,seval,je,jb,ja,h130,ji h130,h131,h132,h135,h136,h137,h138,h139] <;> rfl) (qz (Nat.le_refl _))
      ·rcases qa h with ⟨h140,h⟩ | ⟨h140,h⟩
       ·cases h
        exact qr (st':=⟨[(0,.str a0,false),(8,.ptr 0 0,false),(46,.bool false,false)],[.iter a0 (s0 + (qe a0 s0).2)]⟩) (by simp only [go_sem,seval,je,jb,ja,h130,ji h130,h131,h132,h135,h136,h137,h140] <;> rfl) (qz (Nat.le_refl _))
       ·rcases qa h with ⟨h141,h⟩ | ⟨h141,h⟩
        ·cases h
         exact qm (by simp only [go_sem,seval,je,jb,ja,h130,ji h130,h131,h132,h135,h136,h137,h140,h141,j0] <;> rfl)
        ·rcases qa h with ⟨h142,h⟩ | ⟨h142,h⟩
         ·cases h
          exact qr (st':=⟨[(0,.str a0,false),(8,.ptr 0 0,false),(46,.bool false,false)],[.iter a0 (s0 + (qe a0 s0).2)]⟩) (by simp only [go_sem,seval,je,jb,ja,h130,ji h130,h131,h132,h135,h136,h137,h140,h141,h142] <;> rfl) (qz (Nat.le_refl _))
         ·cases h
          exact qm (by simp only [go_sem,seval,je,jb,ja,h130,ji h130,h131,h132,h135,h136,h137,h140,h141,h142,j0] <;> rfl)
     ·rcases qa h with ⟨h143,h⟩ | ⟨h143,h⟩
      ·cases h
       exact qr (st':=⟨[(0,.str a0,false),(8,.ptr 0 0,false),(46,.bool false,false)],[.iter a0 (s0 + (qe a0 s0).2)]⟩) (by simp only [go_sem,seval,je,jb,ja,h130,ji h130,h131,h132,h135,h136,h143] <;> rfl) (qz (Nat.le_refl _))
      ·rcases qa h with ⟨h144,h⟩ | ⟨h144,h⟩
       ·cases h
        exact qm (by simp only [go_sem,seval,je,jb,ja,h130,ji h130,h131,h132,h135,h136,h143,h144,j0] <;> rfl)
       ·rcases qa h with ⟨h145,h⟩ | ⟨h145,h⟩
        ·cases h
         exact qr (st':=⟨[(0,.str a0,false),(8,.ptr 0 0,false),(46,.bool false,false)],[.iter a0 (s0 + (qe a0 s0).2)]⟩) (by simp only [go_sem,seval,je,jb,ja,h130,ji h130,h131,h132,h135,h136,h143,h144,h145] <;> rfl) (qz (Nat.le_refl _))
        ·cases h
         exact qm (by simp only [go_sem,seval,je,jb,ja,h130,ji h130,h131,h132,h135,h136,h143,h144,h145,j0] <;> rfl)
    ·rcases qa h with ⟨h146,h⟩ | ⟨h146,h⟩
     ·rcases qa h with ⟨h147,h⟩ | ⟨h147,h⟩
      ·rcases qa h with ⟨h148,h⟩ | ⟨h148,h⟩
       ·cases h
        exact qm (by simp only [go_sem,seval,je,jb,ja,h130,ji h130,h131,h132,h135,h146,h147,h148,j0] <;> rfl)
       ·cases h
        exact qr (st':=⟨[(0,.str a0,false),(8,.ptr 0 0,false),(46,.bool false,false)],[.iter a0 (s0 + (qe a0 s0).2)]⟩) (by simp only [go_sem,seval,je,jb,ja,h130,ji h130,h131,h132,h135,h146,h147,h148] <;> rfl) (qz (Nat.le_refl _))
      ·rcases qa h with ⟨h149,h⟩ | ⟨h149,h⟩
       ·cases h
        exact qm (by simp only [go_sem,seval,je,jb,ja,h130,ji h130,h131,h132,h135,h146,h147,h149,j0] <;> rfl)
       ·rcases qa h with ⟨h150,h⟩ | ⟨h150,h⟩
        ·cases h
         exact qr (st':=⟨[(0,.str a0,false),(8,.ptr 0 0,false),(46,.bool false,false)],[.iter a0 (s0 + (qe a0 s0).2)]⟩) (by simp only [go_sem,seval,je,jb,ja,h130,ji h130,h131,h132,h135,h146,h147,h149,h150] <;> rfl) (qz (Nat.le_refl _))
        ·cases h
         exact qm (by simp only [go_sem,seval,je,jb,ja,h130,ji h130,h131,h132,h135,h146,h147,h149,h150,j0] <;> rfl)
     ·rcases qa h with ⟨h151,h⟩ | ⟨h151,h⟩
      ·cases h
       exact qm (by simp only [go_sem,seval,je,jb,ja,h130,ji h130,h131,h132,h135,h146,h151,j0] <;> rfl)
      ·rcases qa h with ⟨h152,h⟩ | ⟨h152,h⟩
       ·cases h
        exact qr (st':=⟨[(0,.str a0,false),(8,.ptr 0 0,false),(46,.bool false,false)],[.iter a0 (s0 + (qe a0 s0).2)]⟩) (by simp only [go_sem,seval,je,jb,ja,h130,ji h130,h131,h132,h135,h146,h151,h152] <;> rfl) (qz (Nat.le_refl _))
       ·cases h
        exact qm (by simp only [go_sem,seval,je,jb,ja,h130,ji h130,h131,h132,h135,h146,h151,h152,j0] <;> rfl)
  ·rcases qa h with ⟨h153,h⟩ | ⟨h153,h⟩
   ·rcases qa h with ⟨h154,h⟩ | ⟨h154,h⟩
    ·rcases qa h with ⟨h155,h⟩ | ⟨h155,h⟩
     ·rcases qa h with ⟨h156,h⟩ | ⟨h156,h⟩
      ·cases h
       exact qr (st':=⟨[(0,.str a0,false),(8,.ptr 0 0,false),(46,.bool false,false)],[.iter a0 (s0 + (qe a0 s0).2)]⟩) (by simp only [go_sem,seval,je,jb,ja,h130,ji h130,h131,h153,h154,h155,h156] <;> rfl) (qz (Nat.le_refl _))
      ·rcases qa h with ⟨h157,h⟩ | ⟨h157,h⟩
       ·cases h
        exact qm (by simp only [go_sem,seval,je,jb,ja,h130,ji h130,h131,h153,h154,h155,h156,h157,j0] <;> rfl)
       ·cases h
        exact qr (st':=⟨[(0,.str a0,false),(8,.ptr 0 0,false),(46,.bool false,false)],[.iter a0 (s0 + (qe a0 s0).2)]⟩) (by simp only [go_sem,seval,je,jb,ja,h130,ji h130,h131,h153,h154,h155,h156,h157] <;> rfl) (qz (Nat.le_refl _))
     ·rcases qa h with ⟨h158,h⟩ | ⟨h158,h⟩
      ·cases h
       exact qr (st':=⟨[(0,.str a0,false),(8,.ptr 0 0,false),(46,.bool false,false)],[.iter a0 (s0 + (qe a0 s0).2)]⟩) (by simp only [go_sem,seval,je,jb,ja,h130,ji h130,h131,h153,h154,h155,h158] <;> rfl) (qz (Nat.le_refl _))
      ·rcases qa h with ⟨h159,h⟩ | ⟨h159,h⟩
       ·cases h
        exact qm (by simp only [go_sem,seval,je,jb,ja,h130,ji h130,h131,h153,h154,h155,h158,h159,j0] <;> rfl)
       ·rcases qa h with ⟨h160,h⟩ | ⟨h160,h⟩
        ·cases h
         exact qr (st':=⟨[(0,.str a0,false),(8,.ptr 0 0,false),(46,.bool false,false)],[.iter a0 (s0 + (qe a0 s0).2)]⟩) (by simp only [go_sem,seval,je,jb,ja,h130,ji h130,h131,h153,h154,h155,h158,h159,h160] <;> rfl) (qz (Nat.le_refl _))
        ·cases h
         exact qm (by simp only [go_sem,seval,je,jb,ja,h130,ji h130,h131,h153,h154,h155,h158,h159,h160,j0] <;> rfl)
    ·rcases qa h with ⟨h161,h⟩ | ⟨h161,h⟩
     ·cases h
      exact qr (st':=⟨[(0,.str a0,false),(8,.ptr 0 0,false),(46,.bool false,false)],[.iter a0 (s0 + (qe a0 s0).2)]⟩) (by simp only [go_sem,seval,je,jb,ja,h130,ji h130,h131,h153,h154,h161] <;> rfl) (qz (Nat.le_refl _))
     ·rcases qa h with ⟨h162,h⟩ | ⟨h162,h⟩
      ·cases h
       exact qm (by simp only [go_sem,seval,je,jb,ja,h130,ji h130,h131,h153,h154,h161,h162,j0] <;> rfl)
      ·rcases qa h with ⟨h163,h⟩ | ⟨h163,h⟩
       ·cases h
        exact qr (st':=⟨[(0,.str a0,false),(8,.ptr 0 0,false),(46,.bool false,false)],[.iter a0 (s0 + (qe a0 s0).2)]⟩) (by simp only [go_sem,seval,je,jb,ja,h130,ji h130,h131,h153,h154,h161,h162,h163] <;> rfl) (qz (Nat.le_refl _))
       ·cases h
        exact qm (by simp only [go_sem,seval,je,jb,ja,h130,ji h130,h131,h153,h154,h161,h162,h163,j0] <;> rfl)
   ·rcases qa h with ⟨h164,h⟩ | ⟨h164,h⟩
    ·rcases qa h with ⟨h165,h⟩ | ⟨h165,h⟩
     ·rcases qa h with ⟨h166,h⟩ | ⟨h166,h⟩
      ·cases h
       exact qm (by simp only [go_sem,seval,je,jb,ja,h130,ji h130,h131,h153,h164,h165,h166,j0] <;> rfl)
      ·cases h
       exact qr (st':=⟨[(0,.str a0,false),(8,.ptr 0 0,false),(46,.bool false,false)],[.iter a0 (s0 + (qe a0 s0).2)]⟩) (by simp only [go_sem,seval,je,jb,ja,h130,ji h130,h131,h153,h164,h165,h166] <;> rfl) (qz (Nat.le_refl _))
     ·rcases qa h with ⟨h167,h⟩ | ⟨h167,h⟩
      ·cases h
       exact qm (by simp only [go_sem,seval,je,jb,ja,h130,ji h130,h131,h153,h164,h165,h167,j0] <;> rfl)
      ·rcases qa h with ⟨h168,h⟩ | ⟨h168,h⟩
       ·cases h
        exact qr (st':=⟨[(0,.str a0,false),(8,.ptr 0 0,false),(46,.bool false,false)],[.iter a0 (s0 + (qe a0 s0).2)]⟩) (by simp only [go_sem,seval,je,jb,ja,h130,ji h130,h131,h153,h164,h165,h167,h168] <;> rfl) (qz (Nat.le_refl _))
       ·cases h
        exact qm (by simp only [go_sem,seval,je,jb,ja,h130,ji h130,h131,h153,h164,h165,h167,h168,j0] <;> rfl)
    ·rcases qa h with ⟨h169,h⟩ | ⟨h169,h⟩
     ·cases h
      exact qm (by simp only [go_sem,seval,je,jb,ja,h130,ji h130,h131,h153,h164,h169,j0] <;> rfl)
     ·rcases qa h with ⟨h170,h⟩ | ⟨h170,h⟩
      ·cases h
       exact qr (st':=⟨[(0,.str a0,false),(8,.ptr 0 0,false),(46,.bool false,false)],[.iter a0 (s0 + (qe a0 s0).2)]⟩) (by simp only [go_sem,seval,je,jb,ja,h130,ji h130,h131,h153,h164,h169,h170] <;> rfl) (qz (Nat.le_refl _))
      ·cases h
       exact qm (by simp only [go_sem,seval,je,jb,ja,h130,ji h130,h131,h153,h164,h169,h170,j0] <;> rfl)
 ·cases h
  exact qm (by simp only [go_sem,seval,je,jb,ja,h130,qrp h130,j0] <;> rfl)
theorem q68 (a0:List UInt8):∀ (x:Option (Nat)) (r) (h:qk4 a0 x=some r),z6 pr je (jb a0) (j0 a0) x r
 | none,r,h=>q4i a0 r h
 | some x,r,h=>q3i a0 x r h
theorem qzz (a0:List UInt8) {s0:Option (Nat)} {d} (h:itO (qk4 a0) s0=some d):X pr (.loop je) (jb a0 s0)=some (j0 a0 d):=yp (q68 a0) (fun d=>by rcases d with d|d <;> (intro hh; cases hh)) h
noncomputable def f107 (a0:List UInt8):Option Bool:=
 qi (itO (qk4 a0) none) fun d192=>match d192 with
  | .inl d194=>
   some false
  | .inr d195=>
   cond (decide (a0=[]))
    (some false)
    (some (decide ((a0.length:Int)≤24)))
theorem jjo {a0:List UInt8} {r} (h:f107 a0=some r):qd pr (X pr) 107 [.str a0]=some (.bool r,false):=by
 unfold f107 at h
 obtain ⟨d192,h193,h⟩:=qb h
 rcases d192 with d194 | d195
 ·have wh193:X pr (.loop je) ⟨[(0,.str a0,false),(8,.ptr 0 0,false)],[.iter a0 0]⟩=some (.ret,⟨[(2,.bool false,false)],[.iter a0 d194]⟩):=qzz a0 h193
  have hr:false=r:=Option.some.inj h
  subst hr
  refine jn rfl ?_ (fun _=>by first | rfl | simp only [go_sem,seval]) (by first | rfl | simp only [go_sem,seval])
  rw [qj (show pr.fns 107=some c107 from rfl) (by simp)]
  simp only [go_sem,seval,c107,wh193]
  exact ⟨_,rfl⟩
 ·have wh193:X pr (.loop je) ⟨[(0,.str a0,false),(8,.ptr 0 0,false)],[.iter a0 0]⟩=some (.exit 0,⟨[(0,.str a0,false),(8,.ptr 0 0,false),(9,.tup [.bool false],false),(10,.bool false,false)],[.iter a0 d195]⟩):=qzz a0 h193
  rcases qa h with ⟨h196,h⟩ | ⟨h196,h⟩
  ·have hr:false=r:=Option.some.inj h
   subst hr
   refine jn rfl ?_ (fun _=>by first | rfl | simp only [go_sem,seval]) (by first | rfl | simp only [go_sem,seval])
   rw [qj (show pr.fns 107=some c107 from rfl) (by simp)]
   simp only [go_sem,seval,c107,wh193,h196]
   exact ⟨_,rfl⟩
  ·have hr:decide ((a0.length:Int)≤24)=r:=Option.some.inj h
   subst hr
   refine jn rfl ?_ (fun _=>by first | rfl | simp only [go_sem,seval]) (by first | rfl | simp only [go_sem,seval])
   rw [qj (show pr.fns 107=some c107 from rfl) (by simp)]
   simp only [go_sem,seval,c107,wh193,h196]
   exact ⟨_,rfl⟩
noncomputable def f194 (a0:Bool) (a1:Int):Option Int:=
 cond a0
  (some a1)
  (some 0)
theorem km {a0:Bool} {a1:Int} {r} (h:f194 a0 a1=some r):qd pr (X pr) 194 [.bool a0,.int .i64 a1]=some (.int .i64 r,false):=by
 unfold f194 at h
 rcases qa h with ⟨h1,h⟩ | ⟨h1,h⟩
 ·have hr:a1=r:=Option.some.inj h
  subst hr
  refine jn rfl ?_ (fun _=>by first | rfl | simp only [go_sem,seval]) (by first | rfl | simp only [go_sem,seval])
  rw [qj (show pr.fns 194=some c194 from rfl) (by simp)]
  simp only [go_sem,seval,c194,h1]
  exact ⟨_,rfl⟩
 ·have hr:0=r:=Option.some.inj h
  subst hr
  refine jn rfl ?_ (fun _=>by first | rfl | simp only [go_sem,seval]) (by first | rfl | simp only [go_sem,seval])
  rw [qj (show pr.fns 194=some c194 from rfl) (by simp)]
  simp only [go_sem,seval,c194,h1]
  exact ⟨_,rfl⟩
noncomputable def f195 (a0:Int) (a1:Int) (a2:Int):Option Int:=
 cond (decide (a0 < a1))
  (qi (f194 true 3) fun v2=>
  some v2)
  (qi (f194 (decide (a2 < a0)) 3) fun v4=>
  some v4)
theorem qhi {a0:Int} {a1:Int} {a2:Int} {r} (h:f195 a0 a1 a2=some r):qd pr (X pr) 195 [.int .i64 a0,.int .i64 a1,.int .i64 a2]=some (.int .i64 r,false):=by
 unfold f195 at h
 rcases qa h with ⟨h1,h⟩ | ⟨h1,h⟩
 ·obtain ⟨v2,h3,h⟩:=qb h
  have hr:v2=r:=Option.some.inj h
  subst hr
  refine jn rfl ?_ (fun _=>by first | rfl | simp only [go_sem,seval]) (by first | rfl | simp only [go_sem,seval])
  rw [qj (show pr.fns 195=some c195 from rfl) (by simp)]
  simp only [go_sem,seval,c195,h1,km h3]
  exact ⟨_,rfl⟩
 ·obtain ⟨v4,h5,h⟩:=qb h
  have wh5:qd pr (X pr) 194 [.bool (decide (a2 < a0)),.int .i64 3]=some (.int .i64 v4,false):=km h5
  have hr:v4=r:=Option.some.inj h
  subst hr
  refine jn rfl ?_ (fun _=>by first | rfl | simp only [go_sem,seval]) (by first | rfl | simp only [go_sem,seval])
  rw [qj (show pr.fns 195=some c195 from rfl) (by simp)]
  simp only [go_sem,seval,c195,h1,wh5]
  exact ⟨_,rfl⟩
noncomputable def qgj (a0:Option (List Int)) (s0:Int):Option (Int ⊕ (Int ⊕ Int)):=
 cond (decide (s0 < ((a0.getD []).length:Int)))
  (qi (zz (a0.getD []) s0) fun v10=>
  cond (decide (v10=0))
   (some (.inl (qk .i64 (s0 + 1))))
   (some (.inr (.inl v10))))
  (some (.inr (.inr s0)))
def qh9 (a0:Option (List Int)) (s0:Int):ASt:=⟨[(5,sl 1 jr a0,false),(6,.int .i64 ((a0.getD []).length:Int),false),(7,.int .i64 s0,false)],[]⟩
def qli (a0:Option (List Int)):Int ⊕ Int→jg × ASt
 | .inl d=>(.ret,⟨[(2,.int .i64 d,false)],[]⟩)
 | .inr d=>(.exit 0,⟨[(5,sl 1 jr a0,false),(6,.int .i64 ((a0.getD []).length:Int),false),(7,.int .i64 d,false),(8,.bool false,false)],[]⟩)
theorem q7d (a0:Option (List Int)) (s0:Int) (r) (h:qgj a0 s0=some r):z6 pr qej (qh9 a0) (qli a0) s0 r:=by
 unfold qgj at h
 rcases qa h with ⟨h9,h⟩ | ⟨h9,h⟩
 ·obtain ⟨v10,h11,h⟩:=qb h
  rcases qa h with ⟨h12,h⟩ | ⟨h12,h⟩
  ·cases h
   exact qr (st':=⟨[(5,sl 1 jr a0,false),(6,.int .i64 ((a0.getD []).length:Int),false),(7,.int .i64 (qk .i64 (s0 + 1)),false)],[]⟩) (by simp only [go_sem,seval,qej,qh9,h9,jj h11,h12] <;> rfl) (qz (Nat.le_refl _))
  ·cases h
   exact qm (by simp only [go_sem,seval,qej,qh9,h9,jj h11,h12,qli] <;> rfl)
 ·cases h
  exact qm (by simp only [go_sem,seval,qej,qh9,h9,qli] <;> rfl)
theorem qzu (a0:Option (List Int)) {s0:Int} {d} (h:itO (qgj a0) s0=some d):X pr (.loop qej) (qh9 a0 s0)=some (qli a0 d):=yp (q7d a0) (fun d=>by rcases d with d|d <;> (intro hh; cases hh)) h
noncomputable def f171 (a0:Option (List Int)):Option Int:=
 qi (itO (qgj a0) 0) fun d13=>match d13 with
  | .inl d15=>
   some d15
  | .inr d16=>
   some 0
theorem qmu {a0:Option (List Int)} {r} (h:f171 a0=some r):qd pr (X pr) 171 [sl 1 jr a0]=some (.int .i64 r,false):=by
 unfold f171 at h
 obtain ⟨d13,h14,h⟩:=qb h
 rcases d13 with d15 | d16
 ·have wh14:X pr (.loop qej) ⟨[(5,sl 1 jr a0,false),(6,.int .i64 ((a0.getD []).length:Int),false),(7,.int .i64 0,false)],[]⟩=some (.ret,⟨[(2,.int .i64 d15,false)],[]⟩):=qzu a0 h14
  have hr:d15=r:=Option.some.inj h
  subst hr
  refine jn rfl ?_ (fun _=>by first | rfl | simp only [go_sem,seval]) (by first | rfl | simp only [go_sem,seval])
  rw [qj (show pr.fns 171=some c171 from rfl) (by simp)]
  simp only [go_sem,seval,c171,wh14]
  exact ⟨_,rfl⟩
 ·have wh14:X pr (.loop qej) ⟨[(5,sl 1 jr a0,false),(6,.int .i64 ((a0.getD []).length:Int),false),(7,.int .i64 0,false)],[]⟩=some (.exit 0,⟨[(5,sl 1 jr a0,false),(6,.int .i64 ((a0.getD []).length:Int),false),(7,.int .i64 d16,false),(8,.bool false,false)],[]⟩):=qzu a0 h14
  have hr:0=r:=Option.some.inj h
  subst hr
  refine jn rfl ?_ (fun _=>by first | rfl | simp only [go_sem,seval]) (by first | rfl | simp only [go_sem,seval])
  rw [qj (show pr.fns 171=some c171 from rfl) (by simp)]
  simp only [go_sem,seval,c171,wh14]
  exact ⟨_,rfl⟩
noncomputable def qge (a0:Option (List GEl)) (s0:Int):Option (Int ⊕ ((Int × (List UInt8) × Int × Int) ⊕ (Int × (List UInt8) × Int × Int) ⊕ (Int × (List UInt8) × Int × Int) ⊕ (Int × (List UInt8) × Int × Int) ⊕ (Int × (List UInt8) × Int × Int) ⊕ Int)):=
 cond (decide (s0 < ((a0.getD []).length:Int)))
  (qi (zz (a0.getD []) s0) fun v151=>
  cond (decide (v151.kind=([98,108,111,99,107]:List UInt8)))
   (qi (f194 false 13) fun v154=>
   qi (f195 v151.a 0 8) fun v156=>
   qi (f195 v151.b 0 8) fun v158=>
   cond (decide (v151.a=0))
    (qi (f194 (decide (v151.b=0)) 6) fun v161=>
    qi (f171 (some [v154,v156,v158,v161])) fun v163=>
    cond (decide (v163=0))
     (some (.inl (qk .i64 (s0 + 1))))
     (some (.inr (.inl (v163,v151.kind,v151.a,v151.b)))))
    (qi (f194 false 6) fun v166=>
    qi (f171 (some [v154,v156,v158,v166])) fun v168=>
    cond (decide (v168=0))
     (some (.inl (qk .i64 (s0 + 1))))
     (some (.inr (.inl (v168,v151.kind,v151.a,v151.b))))))
   (cond (decide (v151.kind=([115,101,114,105,101,115]:List UInt8)))
    (qi (f194 false 13) fun v172=>
    qi (f195 v151.a 0 8) fun v174=>
    qi (f195 v151.b 0 8) fun v176=>
    qi (f194 false 6) fun v178=>
    qi (f171 (some [v172,v174,v176,v178])) fun v180=>
    cond (decide (v180=0))
     (some (.inl (qk .i64 (s0 + 1))))
     (some (.inr (.inr (.inl (v180,v151.kind,v151.a,v151.b))))))
    (cond (decide (v151.kind=([115,104,117,110,116]:List UInt8)))
     (qi (f194 false 13) fun v184=>
     qi (f195 v151.a 0 8) fun v186=>
     qi (f195 v151.b 0 8) fun v188=>
     qi (f194 false 6) fun v190=>
     qi (f171 (some [v184,v186,v188,v190])) fun v192=>
     cond (decide (v192=0))
      (some (.inl (qk .i64 (s0 + 1))))
      (some (.inr (.inr (.inr (.inl (v192,v151.kind,v151.a,v151.b)))))))
     (cond (decide (v151.kind=([116,114,97,112]:List UInt8)))
      (qi (f194 false 13) fun v196=>
      qi (f195 v151.a 0 8) fun v198=>
      qi (f195 v151.b 0 8) fun v200=>
      cond (decide (v151.a=0))
       (qi (f194 (decide (v151.b=0)) 6) fun v203=>
       qi (f171 (some [v196,v198,v200,v203])) fun v205=>
       cond (decide (v205=0))
        (some (.inl (qk .i64 (s0 + 1))))
        (some (.inr (.inr (.inr (.inr (.inl (v205,v151.kind,v151.a,v151.b))))))))
       (qi (f194 false 6) fun v208=>
       qi (f171 (some [v196,v198,v200,v208])) fun v210=>
       cond (decide (v210=0))
        (some (.inl (qk .i64 (s0 + 1))))
        (some (.inr (.inr (.inr (.inr (.inl (v210,v151.kind,v151.a,v151.b)))))))))
      (qi (f194 true 13) fun v213=>
      qi (f195 v151.a 0 8) fun v215=>
      qi (f195 v151.b 0 8) fun v217=>
      qi (f194 false 6) fun v219=>
      qi (f171 (some [v213,v215,v217,v219])) fun v221=>
      cond (decide (v221=0))
       (some (.inl (qk .i64 (s0 + 1))))
       (some (.inr (.inr (.inr (.inr (.inr (.inl (v221,v151.kind,v151.a,v151.b)))))))))))))
  (some (.inr (.inr (.inr (.inr (.inr (.inr s0)))))))
def za (a0:Option (List GEl)) (s0:Int):ASt:=⟨[(11,sl 3 vel a0,false),(12,.int .i64 ((a0.getD []).length:Int),false),(13,.int .i64 s0,false)],[]⟩
def qbp (a0:Option (List GEl)):(Int × (List UInt8) × Int × Int) ⊕ (Int × (List UInt8) × Int × Int) ⊕ (Int × (List UInt8) × Int × Int) ⊕ (Int × (List UInt8) × Int × Int) ⊕ (Int × (List UInt8) × Int × Int) ⊕ Int→jg × ASt
 | .inl d=>(.ret,⟨[(2,.int .i64 d.1,false)],[.cells [(.str d.2.1,false),(.int .i64 d.2.2.1,false),(.int .i64 d.2.2.2,false)],.map j9,.cells [(.str ([116,114,97,112]:List UInt8),false),(.bool true,false),(.fn (.func 218) [] [],false)]]⟩)
 | .inr (.inl d)=>(.ret,⟨[(2,.int .i64 d.1,false)],[.cells [(.str d.2.1,false),(.int .i64 d.2.2.1,false),(.int .i64 d.2.2.2,false)],.map j9,.cells [(.str ([115,104,117,110,116]:List UInt8),false),(.bool false,false),(.fn (.func 219) [] [],false)]]⟩)
 | .inr (.inr (.inl d))=>(.ret,⟨[(2,.int .i64 d.1,false)],[.cells [(.str d.2.1,false),(.int .i64 d.2.2.1,false),(.int .i64 d.2.2.2,false)],.map j9,.cells [(.str ([115,101,114,105,101,115]:List UInt8),false),(.bool false,false),(.fn (.func 220) [] [],false)]]⟩)
 | .inr (.inr (.inr (.inl d)))=>(.ret,⟨[(2,.int .i64 d.1,false)],[.cells [(.str d.2.1,false),(.int .i64 d.2.2.1,false),(.int .i64 d.2.2.2,false)],.map j9,.cells [(.str ([98,108,111,99,107]:List UInt8),false),(.bool true,false),(.fn (.func 221) [] [],false)]]⟩)
 | .inr (.inr (.inr (.inr (.inl d))))=>(.ret,⟨[(2,.int .i64 d.1,false)],[.cells [(.str d.2.1,false),(.int .i64 d.2.2.1,false),(.int .i64 d.2.2.2,false)],.map j9,.cells [(.str [],false),(.bool false,false),(.nilfn,false)]]⟩)
 | .inr (.inr (.inr (.inr (.inr d))))=>(.exit 0,⟨[(11,sl 3 vel a0,false),(12,.int .i64 ((a0.getD []).length:Int),false),(13,.int .i64 d,false),(14,.bool false,false)],[]⟩)
theorem q7k (a0:Option (List GEl)) (s0:Int) (r) (h:qge a0 s0=some r):z6 pr yl (za a0) (qbp a0) s0 r:=by
 unfold qge at h
 rcases qa h with ⟨h150,h⟩ | ⟨h150,h⟩
 ·obtain ⟨v151,h152,h⟩:=qb h
  rcases qa h with ⟨h153,h⟩ | ⟨h153,h⟩
  ·obtain ⟨v154,h155,h⟩:=qb h
   obtain ⟨v156,h157,h⟩:=qb h
   have wh157:qd pr (X pr) 195 [.int .i64 v151.a,.int .i64 0,.int .i64 8]=some (.int .i64 v156,false):=qhi h157
   obtain ⟨v158,h159,h⟩:=qb h
   have wh159:qd pr (X pr) 195 [.int .i64 v151.b,.int .i64 0,.int .i64 8]=some (.int .i64 v158,false):=qhi h159
   rcases qa h with ⟨h160,h⟩ | ⟨h160,h⟩
   ·obtain ⟨v161,h162,h⟩:=qb h
    have wh162:qd pr (X pr) 194 [.bool (decide (v151.b=0)),.int .i64 6]=some (.int .i64 v161,false):=km h162
    obtain ⟨v163,h164,h⟩:=qb h
    have wh164:qd pr (X pr) 171 [.list false 1 [.int .i64 v154,.int .i64 v156,.int .i64 v158,.int .i64 v161]]=some (.int .i64 v163,false):=qmu h164
    rcases qa h with ⟨h165,h⟩ | ⟨h165,h⟩
    ·cases h
     exact qr (st':=⟨[(11,sl 3 vel a0,false),(12,.int .i64 ((a0.getD []).length:Int),false),(13,.int .i64 (qk .i64 (s0 + 1)),false)],[]++[.cells [(.str v151.kind,false),(.int .i64 v151.a,false),(.int .i64 v151.b,false)],.map j9,.cells [(.str ([116,114,97,112]:List UInt8),false),(.bool true,false),(.fn (.func 218) [] [],false)]]⟩) (by simp only [go_sem,seval,yl,za,h150,jj h152,h153,qqy h153,km h155,wh157,wh159,h160,wh162,wh164,h165] <;> rfl) (kz rfl rfl (by first | simp only [go_sem,seval,za] | rfl) (by first | simp only [go_sem,seval,za] | rfl))
    ·cases h
     exact qm (by simp only [go_sem,seval,yl,za,h150,jj h152,h153,qqy h153,km h155,wh157,wh159,h160,wh162,wh164,h165,qbp] <;> rfl)
   ·obtain ⟨v166,h167,h⟩:=qb h
    obtain ⟨v168,h169,h⟩:=qb h
    have wh169:qd pr (X pr) 171 [.list false 1 [.int .i64 v154,.int .i64 v156,.int .i64 v158,.int .i64 v166]]=some (.int .i64 v168,false):=qmu h169
    rcases qa h with ⟨h170,h⟩ | ⟨h170,h⟩
    ·cases h
     exact qr (st':=⟨[(11,sl 3 vel a0,false),(12,.int .i64 ((a0.getD []).length:Int),false),(13,.int .i64 (qk .i64 (s0 + 1)),false)],[]++[.cells [(.str v151.kind,false),(.int .i64 v151.a,false),(.int .i64 v151.b,false)],.map j9,.cells [(.str ([116,114,97,112]:List UInt8),false),(.bool true,false),(.fn (.func 218) [] [],false)]]⟩) (by simp only [go_sem,seval,yl,za,h150,jj h152,h153,qqy h153,km h155,wh157,wh159,h160,km h167,wh169,h170] <;> rfl) (kz rfl rfl (by first | simp only [go_sem,seval,za] | rfl) (by first | simp only [go_sem,seval,za] | rfl))
    ·cases h
     exact qm (by simp only [go_sem,seval,yl,za,h150,jj h152,h153,qqy h153,km h155,wh157,wh159,h160,km h167,wh169,h170,qbp] <;> rfl)
  ·rcases qa h with ⟨h171,h⟩ | ⟨h171,h⟩
   ·obtain ⟨v172,h173,h⟩:=qb h
    obtain ⟨v174,h175,h⟩:=qb h
    have wh175:qd pr (X pr) 195 [.int .i64 v151.a,.int .i64 0,.int .i64 8]=some (.int .i64 v174,false):=qhi h175
    obtain ⟨v176,h177,h⟩:=qb h
    have wh177:qd pr (X pr) 195 [.int .i64 v151.b,.int .i64 0,.int .i64 8]=some (.int .i64 v176,false):=qhi h177
    obtain ⟨v178,h179,h⟩:=qb h
    obtain ⟨v180,h181,h⟩:=qb h
    have wh181:qd pr (X pr) 171 [.list false 1 [.int .i64 v172,.int .i64 v174,.int .i64 v176,.int .i64 v178]]=some (.int .i64 v180,false):=qmu h181
    rcases qa h with ⟨h182,h⟩ | ⟨h182,h⟩
    ·cases h
     exact qr (st':=⟨[(11,sl 3 vel a0,false),(12,.int .i64 ((a0.getD []).length:Int),false),(13,.int .i64 (qk .i64 (s0 + 1)),false)],[]++[.cells [(.str v151.kind,false),(.int .i64 v151.a,false),(.int .i64 v151.b,false)],.map j9,.cells [(.str ([115,104,117,110,116]:List UInt8),false),(.bool false,false),(.fn (.func 219) [] [],false)]]⟩) (by simp only [go_sem,seval,yl,za,h150,jj h152,h153,h171,q2k h153 h171,km h173,wh175,wh177,km h179,wh181,h182] <;> rfl) (kz rfl rfl (by first | simp only [go_sem,seval,za] | rfl) (by first | simp only [go_sem,seval,za] | rfl))
    ·cases h
     exact qm (by simp only [go_sem,seval,yl,za,h150,jj h152,h153,h171,q2k h153 h171,km h173,wh175,wh177,km h179,wh181,h182,qbp] <;> rfl)
   ·rcases qa h with ⟨h183,h⟩ | ⟨h183,h⟩
    ·obtain ⟨v184,h185,h⟩:=qb h
     obtain ⟨v186,h187,h⟩:=qb h
     have wh187:qd pr (X pr) 195 [.int .i64 v151.a,.int .i64 0,.int .i64 8]=some (.int .i64 v186,false):=qhi h187
     obtain ⟨v188,h189,h⟩:=qb h
     have wh189:qd pr (X pr) 195 [.int .i64 v151.b,.int .i64 0,.int .i64 8]=some (.int .i64 v188,false):=qhi h189
     obtain ⟨v190,h191,h⟩:=qb h
     obtain ⟨v192,h193,h⟩:=qb h
     have wh193:qd pr (X pr) 171 [.list false 1 [.int .i64 v184,.int .i64 v186,.int .i64 v188,.int .i64 v190]]=some (.int .i64 v192,false):=qmu h193
     rcases qa h with ⟨h194,h⟩ | ⟨h194,h⟩
     ·cases h
      exact qr (st':=⟨[(11,sl 3 vel a0,false),(12,.int .i64 ((a0.getD []).length:Int),false),(13,.int .i64 (qk .i64 (s0 + 1)),false)],[]++[.cells [(.str v151.kind,false),(.int .i64 v151.a,false),(.int .i64 v151.b,false)],.map j9,.cells [(.str ([115,101,114,105,101,115]:List UInt8),false),(.bool false,false),(.fn (.func 220) [] [],false)]]⟩) (by simp only [go_sem,seval,yl,za,h150,jj h152,h153,h171,h183,q2j h153 h171 h183,km h185,wh187,wh189,km h191,wh193,h194] <;> rfl) (kz rfl rfl (by first | simp only [go_sem,seval,za] | rfl) (by first | simp only [go_sem,seval,za] | rfl))
     ·cases h
      exact qm (by simp only [go_sem,seval,yl,za,h150,jj h152,h153,h171,h183,q2j h153 h171 h183,km h185,wh187,wh189,km h191,wh193,h194,qbp] <;> rfl)
    ·rcases qa h with ⟨h195,h⟩ | ⟨h195,h⟩
     ·obtain ⟨v196,h197,h⟩:=qb h
      obtain ⟨v198,h199,h⟩:=qb h
      have wh199:qd pr (X pr) 195 [.int .i64 v151.a,.int .i64 0,.int .i64 8]=some (.int .i64 v198,false):=qhi h199
      obtain ⟨v200,h201,h⟩:=qb h
      have wh201:qd pr (X pr) 195 [.int .i64 v151.b,.int .i64 0,.int .i64 8]=some (.int .i64 v200,false):=qhi h201
      rcases qa h with ⟨h202,h⟩ | ⟨h202,h⟩
      ·obtain ⟨v203,h204,h⟩:=qb h
       have wh204:qd pr (X pr) 194 [.bool (decide (v151.b=0)),.int .i64 6]=some (.int .i64 v203,false):=km h204
       obtain ⟨v205,h206,h⟩:=qb h
       have wh206:qd pr (X pr) 171 [.list false 1 [.int .i64 v196,.int .i64 v198,.int .i64 v200,.int .i64 v203]]=some (.int .i64 v205,false):=qmu h206
       rcases qa h with ⟨h207,h⟩ | ⟨h207,h⟩
       ·cases h
        exact qr (st':=⟨[(11,sl 3 vel a0,false),(12,.int .i64 ((a0.getD []).length:Int),false),(13,.int .i64 (qk .i64 (s0 + 1)),false)],[]++[.cells [(.str v151.kind,false),(.int .i64 v151.a,false),(.int .i64 v151.b,false)],.map j9,.cells [(.str ([98,108,111,99,107]:List UInt8),false),(.bool true,false),(.fn (.func 221) [] [],false)]]⟩) (by simp only [go_sem,seval,yl,za,h150,jj h152,h153,h171,h183,h195,qqw h153 h171 h183 h195,km h197,wh199,wh201,h202,wh204,wh206,h207] <;> rfl) (kz rfl rfl (by first | simp only [go_sem,seval,za] | rfl) (by first | simp only [go_sem,seval,za] | rfl))
       ·cases h
        exact qm (by simp only [go_sem,seval,yl,za,h150,jj h152,h153,h171,h183,h195,qqw h153 h171 h183 h195,km h197,wh199,wh201,h202,wh204,wh206,h207,qbp] <;> rfl)
      ·obtain ⟨v208,h209,h⟩:=qb h
       obtain ⟨v210,h211,h⟩:=qb h
       have wh211:qd pr (X pr) 171 [.list false 1 [.int .i64 v196,.int .i64 v198,.int .i64 v200,.int .i64 v208]]=some (.int .i64 v210,false):=qmu h211
       rcases qa h with ⟨h212,h⟩ | ⟨h212,h⟩
       ·cases h
        exact qr (st':=⟨[(11,sl 3 vel a0,false),(12,.int .i64 ((a0.getD []).length:Int),false),(13,.int .i64 (qk .i64 (s0 + 1)),false)],[]++[.cells [(.str v151.kind,false),(.int .i64 v151.a,false),(.int .i64 v151.b,false)],.map j9,.cells [(.str ([98,108,111,99,107]:List UInt8),false),(.bool true,false),(.fn (.func 221) [] [],false)]]⟩) (by simp only [go_sem,seval,yl,za,h150,jj h152,h153,h171,h183,h195,qqw h153 h171 h183 h195,km h197,wh199,wh201,h202,km h209,wh211,h212] <;> rfl) (kz rfl rfl (by first | simp only [go_sem,seval,za] | rfl) (by first | simp only [go_sem,seval,za] | rfl))
       ·cases h
        exact qm (by simp only [go_sem,seval,yl,za,h150,jj h152,h153,h171,h183,h195,qqw h153 h171 h183 h195,km h197,wh199,wh201,h202,km h209,wh211,h212,qbp] <;> rfl)
     ·obtain ⟨v213,h214,h⟩:=qb h
      obtain ⟨v215,h216,h⟩:=qb h
      have wh216:qd pr (X pr) 195 [.int .i64 v151.a,.int .i64 0,.int .i64 8]=some (.int .i64 v215,false):=qhi h216
      obtain ⟨v217,h218,h⟩:=qb h
      have wh218:qd pr (X pr) 195 [.int .i64 v151.b,.int .i64 0,.int .i64 8]=some (.int .i64 v217,false):=qhi h218
      obtain ⟨v219,h220,h⟩:=qb h
      obtain ⟨v221,h222,h⟩:=qb h
      have wh222:qd pr (X pr) 171 [.list false 1 [.int .i64 v213,.int .i64 v215,.int .i64 v217,.int .i64 v219]]=some (.int .i64 v221,false):=qmu h222
      rcases qa h with ⟨h223,h⟩ | ⟨h223,h⟩
      ·cases h
       exact qr (st':=⟨[(11,sl 3 vel a0,false),(12,.int .i64 ((a0.getD []).length:Int),false),(13,.int .i64 (qk .i64 (s0 + 1)),false)],[]++[.cells [(.str v151.kind,false),(.int .i64 v151.a,false),(.int .i64 v151.b,false)],.map j9,.cells [(.str [],false),(.bool false,false),(.nilfn,false)]]⟩) (by simp only [go_sem,seval,yl,za,h150,jj h152,h153,h171,h183,h195,q2i h153 h171 h183 h195,km h214,wh216,wh218,km h220,wh222,h223] <;> rfl) (kz rfl rfl (by first | simp only [go_sem,seval,za] | rfl) (by first | simp only [go_sem,seval,za] | rfl))
      ·cases h
       exact qm (by simp only [go_sem,seval,yl,za,h150,jj h152,h153,h171,h183,h195,q2i h153 h171 h183 h195,km h214,wh216,wh218,km h220,wh222,h223,qbp] <;> rfl)
 ·cases h
  exact qm (by simp only [go_sem,seval,yl,za,h150,qbp] <;> rfl)
theorem qh8 (a0:Option (List GEl)) {s0:Int} {d} (h:itO (qge a0) s0=some d):X pr (.loop yl) (za a0 s0)=some (qbp a0 d):=yp (q7k a0) (fun d=>by rcases d with d|d|d|d|d|d <;> (intro hh; cases hh)) h
noncomputable def f158 (a0:Option (List GEl)):Option Int:=
 cond (decide (5 < ((a0.getD []).length:Int)))
  (some 5)
  (qi (itO (qge a0) 0) fun d224=>match d224 with
   | .inl d226=>
    some d226.1
   | .inr (.inl d227)=>
    some d227.1
   | .inr (.inr (.inl d228))=>
    some d228.1
   | .inr (.inr (.inr (.inl d229)))=>
    some d229.1
   | .inr (.inr (.inr (.inr (.inl d230))))=>
    some d230.1
   | .inr (.inr (.inr (.inr (.inr d231))))=>
    some 0)
theorem q7c {a0:Option (List GEl)} {r} (h:f158 a0=some r):qd pr (X pr) 158 [sl 3 vel a0]=some (.int .i64 r,false):=by
 unfold f158 at h
 rcases qa h with ⟨h1,h⟩ | ⟨h1,h⟩
 ·have hr:5=r:=Option.some.inj h
  subst hr
  refine jn rfl ?_ (fun _=>by first | rfl | simp only [go_sem,seval]) (by first | rfl | simp only [go_sem,seval])
  rw [qj (show pr.fns 158=some c158 from rfl) (by simp)]
  simp only [go_sem,seval,c158,h1]
  exact ⟨_,rfl⟩
 ·obtain ⟨d224,h225,h⟩:=qb h
  rcases d224 with d226 | d227 | d228 | d229 | d230 | d231
  ·have wh225:X pr (.loop yl) ⟨[(11,sl 3 vel a0,false),(12,.int .i64 ((a0.getD []).length:Int),false),(13,.int .i64 0,false)],[]⟩=some (.ret,⟨[(2,.int .i64 d226.1,false)],[.cells [(.str d226.2.1,false),(.int .i64 d226.2.2.1,false),(.int .i64 d226.2.2.2,false)],.map j9,.cells [(.str ([116,114,97,112]:List UInt8),false),(.bool true,false),(.fn (.func 218) [] [],false)]]⟩):=qh8 a0 h225
   have hr:d226.1=r:=Option.some.inj h
   subst hr
   refine jn rfl ?_ (fun _=>by first | rfl | simp only [go_sem,seval]) (by first | rfl | simp only [go_sem,seval])
   rw [qj (show pr.fns 158=some c158 from rfl) (by simp)]
   simp only [go_sem,seval,c158,h1,wh225]
   exact ⟨_,rfl⟩
  ·have wh225:X pr (.loop yl) ⟨[(11,sl 3 vel a0,false),(12,.int .i64 ((a0.getD []).length:Int),false),(13,.int .i64 0,false)],[]⟩=some (.ret,⟨[(2,.int .i64 d227.1,false)],[.cells [(.str d227.2.1,false),(.int .i64 d227.2.2.1,false),(.int .i64 d227.2.2.2,false)],.map j9,.cells [(.str ([115,104,117,110,116]:List UInt8),false),(.bool false,false),(.fn (.func 219) [] [],false)]]⟩):=qh8 a0 h225
   have hr:d227.1=r:=Option.some.inj h
   subst hr
   refine jn rfl ?_ (fun _=>by first | rfl | simp only [go_sem,seval]) (by first | rfl | simp only [go_sem,seval])
   rw [qj (show pr.fns 158=some c158 from rfl) (by simp)]
   simp only [go_sem,seval,c158,h1,wh225]
   exact ⟨_,rfl⟩
  ·have wh225:X pr (.loop yl) ⟨[(11,sl 3 vel a0,false),(12,.int .i64 ((a0.getD []).length:Int),false),(13,.int .i64 0,false)],[]⟩=some (.ret,⟨[(2,.int .i64 d228.1,false)],[.cells [(.str d228.2.1,false),(.int .i64 d228.2.2.1,false),(.int .i64 d228.2.2.2,false)],.map j9,.cells [(.str ([115,101,114,105,101,115]:List UInt8),false),(.bool false,false),(.fn (.func 220) [] [],false)]]⟩):=qh8 a0 h225
   have hr:d228.1=r:=Option.some.inj h
   subst hr
   refine jn rfl ?_ (fun _=>by first | rfl | simp only [go_sem,seval]) (by first | rfl | simp only [go_sem,seval])
   rw [qj (show pr.fns 158=some c158 from rfl) (by simp)]
   simp only [go_sem,seval,c158,h1,wh225]
   exact ⟨_,rfl⟩
  ·have wh225:X pr (.loop yl) ⟨[(11,sl 3 vel a0,false),(12,.int .i64 ((a0.getD []).length:Int),false),(13,.int .i64 0,false)],[]⟩=some (.ret,⟨[(2,.int .i64 d229.1,false)],[.cells [(.str d229.2.1,false),(.int .i64 d229.2.2.1,false),(.int .i64 d229.2.2.2,false)],.map j9,.cells [(.str ([98,108,111,99,107]:List UInt8),false),(.bool true,false),(.fn (.func 221) [] [],false)]]⟩):=qh8 a0 h225
   have hr:d229.1=r:=Option.some.inj h
   subst hr
   refine jn rfl ?_ (fun _=>by first | rfl | simp only [go_sem,seval]) (by first | rfl | simp only [go_sem,seval])
   rw [qj (show pr.fns 158=some c158 from rfl) (by simp)]
   simp only [go_sem,seval,c158,h1,wh225]
   exact ⟨_,rfl⟩
  ·have wh225:X pr (.loop yl) ⟨[(11,sl 3 vel a0,false),(12,.int .i64 ((a0.getD []).length:Int),false),(13,.int .i64 0,false)],[]⟩=some (.ret,⟨[(2,.int .i64 d230.1,false)],[.cells [(.str d230.2.1,false),(.int .i64 d230.2.2.1,false),(.int .i64 d230.2.2.2,false)],.map j9,.cells [(.str [],false),(.bool false,false),(.nilfn,false)]]⟩):=qh8 a0 h225
   have hr:d230.1=r:=Option.some.inj h
   subst hr
   refine jn rfl ?_ (fun _=>by first | rfl | simp only [go_sem,seval]) (by first | rfl | simp only [go_sem,seval])
   rw [qj (show pr.fns 158=some c158 from rfl) (by simp)]
   simp only [go_sem,seval,c158,h1,wh225]
   exact ⟨_,rfl⟩
  ·have wh225:X pr (.loop yl) ⟨[(11,sl 3 vel a0,false),(12,.int .i64 ((a0.getD []).length:Int),false),(13,.int .i64 0,false)],[]⟩=some (.exit 0,⟨[(11,sl 3 vel a0,false),(12,.int .i64 ((a0.getD []).length:Int),false),(13,.int .i64 d231,false),(14,.bool false,false)],[]⟩):=qh8 a0 h225
   have hr:0=r:=Option.some.inj h
   subst hr
   refine jn rfl ?_ (fun _=>by first | rfl | simp only [go_sem,seval]) (by first | rfl | simp only [go_sem,seval])
   rw [qj (show pr.fns 158=some c158 from rfl) (by simp)]
   simp only [go_sem,seval,c158,h1,wh225]
   exact ⟨_,rfl⟩
noncomputable def f108 (a0:GEl):Option Int:=
 qi (f158 (some [a0])) fun v1=>
 some v1
theorem ji7 {a0:GEl} {r} (h:f108 a0=some r):qd pr (X pr) 108 [.agg [.str a0.kind,.int .i64 a0.a,.int .i64 a0.b]]=some (.int .i64 r,false):=by
 unfold f108 at h
 obtain ⟨v1,h2,h⟩:=qb h
 have wh2:qd pr (X pr) 158 [.list false 3 [.agg [.str a0.kind,.int .i64 a0.a,.int .i64 a0.b]]]=some (.int .i64 v1,false):=q7c h2
 have hr:v1=r:=Option.some.inj h
 subst hr
 refine jn rfl ?_ (fun _=>by first | rfl | simp only [go_sem,seval]) (by first | rfl | simp only [go_sem,seval])
 rw [qj (show pr.fns 108=some c108 from rfl) (by simp)]
 simp only [go_sem,seval,c108,wh2]
 exact ⟨_,rfl⟩
noncomputable def qq1 (a0:GEl):Option Int:=
 qi (f158 (some [a0])) fun v1=>
 some v1
theorem jav (hp:qh) {a0:GEl} {r} (h:qq1 a0=some r):jc pr (X pr) 108 [.agg [.str a0.kind,.int .i64 a0.a,.int .i64 a0.b]] hp=some (.int .i64 r,false,hp):=by
 unfold qq1 at h
 obtain ⟨v1,h2,h⟩:=qb h
 have wh2:qd pr (X pr) 158 [.list false 3 [.agg [.str a0.kind,.int .i64 a0.a,.int .i64 a0.b]]]=some (.int .i64 v1,false):=q7c h2
 have hr:v1=r:=Option.some.inj h
 subst hr
 rw [qj (show pr.fns 108=some c108 from rfl) (by simp)]
 simp only [go_sem,seval,c108,wh2] <;> rfl
noncomputable def f155 (a0:Int) (a1:Int):Option qkg:=
 some (⟨qk .i64 (a0 - a1),qk .i64 (a0 + a1)⟩)
theorem q6e {a0:Int} {a1:Int} {r} (h:f155 a0 a1=some r):qd pr (X pr) 155 [.int .i64 a0,.int .i64 a1]=some (.agg [.int .i64 r.num,.int .i64 r.den],false):=by
 unfold f155 at h
 have hr:⟨qk .i64 (a0 - a1),qk .i64 (a0 + a1)⟩=r:=Option.some.inj h
 subst hr
 refine jn rfl ?_ (fun _=>by first | rfl | simp only [go_sem,seval]) (by first | rfl | simp only [go_sem,seval])
 rw [qj (show pr.fns 155=some c155 from rfl) (by simp)]
 simp only [go_sem,seval,c155]
 exact ⟨_,rfl⟩
noncomputable def qgb (a0:qkg) (s0:(Option (List Int)) × Int × Bool):Option (((Option (List Int)) × Int × Bool) ⊕ (((Option (List Int)) × Bool × Int))):=
 cond (decide (s0.2.1≤a0.den))
  (cond s0.2.2
   (qi (apO s0.1 [s0.2.1]) fun v13=>
   some (.inl (v13,qk .i64 (s0.2.1 + 1),true)))
   (cond s0.1.isNone
    (qi (apO s0.1 [s0.2.1]) fun v16=>
    some (.inl (v16,qk .i64 (s0.2.1 + 1),true)))
    (none)))
  (some (.inr (s0.1,s0.2.2,s0.2.1)))
def qim (a0:qkg) (s0:(Option (List Int)) × Int × Bool):ASt:=⟨[(2,.vptr (.agg [.int .i64 a0.num,.int .i64 a0.den]),false),(5,sl 1 jr s0.1,s0.2.2),(6,.int .i64 s0.2.1,false)],[]⟩
def qoz (a0:qkg) (d:((Option (List Int)) × Bool × Int)):jg × ASt:=(.exit 0,⟨[(2,.vptr (.agg [.int .i64 a0.num,.int .i64 a0.den]),false),(5,sl 1 jr d.1,d.2.1),(6,.int .i64 d.2.2,false),(28,.bool false,false)],[]⟩)
theorem q6i (a0:qkg) (s0:(Option (List Int)) × Int × Bool) (r) (h:qgb a0 s0=some r):z6 pr qf1 (qim a0) (qoz a0) s0 r:=by
 unfold qgb at h
 rcases qa h with ⟨h11,h⟩ | ⟨h11,h⟩
 ·rcases qa h with ⟨h12,h⟩ | ⟨h12,h⟩
  ·obtain ⟨v13,h14,h⟩:=qb h
   cases h
   exact qr (st':=⟨[(2,.vptr (.agg [.int .i64 a0.num,.int .i64 a0.den]),false),(5,sl 1 jr v13,true),(6,.int .i64 (qk .i64 (s0.2.1 + 1)),false)],[]⟩) (by simp only [go_sem,seval,qf1,qim,h11,h12,qm9 h14] <;> rfl) (qz (Nat.le_refl _))
  ·rcases qa h with ⟨h15,h⟩ | ⟨h15,h⟩
   ·obtain ⟨v16,h17,h⟩:=qb h
    cases h
    exact qr (st':=⟨[(2,.vptr (.agg [.int .i64 a0.num,.int .i64 a0.den]),false),(5,sl 1 jr v16,true),(6,.int .i64 (qk .i64 (s0.2.1 + 1)),false)],[]⟩) (by simp only [go_sem,seval,qf1,qim,h11,h12,h15,qm6 h17 h15] <;> rfl) (qz (Nat.le_refl _))
   ·cases h
 ·cases h
  exact qm (by simp only [go_sem,seval,qf1,qim,h11,qoz] <;> rfl)
theorem q6l (a0:qkg) {s0:(Option (List Int)) × Int × Bool} {d} (h:itO (qgb a0) s0=some d):X pr (.loop qf1) (qim a0 s0)=some (qoz a0 d):=yp (q6i a0) (fun d hh=>by cases hh) h
noncomputable def f156 (a0:qkg) (a1:Bool):Option ((Option (List Int)) × Bool):=
 cond (decide (a0.den=a0.num))
  (some (some [a0.num],true))
  (cond a1
   (some (some [a0.num,a0.den],true))
   (qi (itO (qgb a0) (none,a0.num,false)) fun d18=>
   some (d18.1,d18.2.1)))
theorem q5v {a0:qkg} {a1:Bool} {r} (h:f156 a0 a1=some r):qd pr (X pr) 156 [.agg [.int .i64 a0.num,.int .i64 a0.den],.bool a1]=some (sl 1 jr r.1,r.2):=by
 unfold f156 at h
 rcases qa h with ⟨h1,h⟩ | ⟨h1,h⟩
 ·have hr:(some [a0.num],true)=r:=Option.some.inj h
  subst hr
  have this:∃ hh,jc pr (X pr) 156 [.agg [.int .i64 a0.num,.int .i64 a0.den],.bool a1] []=some (.list false 1 [.int .i64 a0.num],true,hh):=by
   rw [qj (show pr.fns 156=some c156 from rfl) (by simp)]
   simp only [go_sem,seval,c156,h1]
   exact ⟨_,rfl⟩
  obtain ⟨hh,this⟩:=this
  exact zr rfl this (by first | rfl | simp only [go_sem,seval]) (by first | rfl | simp only [go_sem,seval]) (by first | rfl | simp only [go_sem,seval])
 ·rcases qa h with ⟨h2,h⟩ | ⟨h2,h⟩
  ·have hr:(some [a0.num,a0.den],true)=r:=Option.some.inj h
   subst hr
   have this:∃ hh,jc pr (X pr) 156 [.agg [.int .i64 a0.num,.int .i64 a0.den],.bool a1] []=some (.list false 1 [.int .i64 a0.num,.int .i64 a0.den],true,hh):=by
    rw [qj (show pr.fns 156=some c156 from rfl) (by simp)]
    simp only [go_sem,seval,c156,h1,h2]
    exact ⟨_,rfl⟩
   obtain ⟨hh,this⟩:=this
   exact zr rfl this (by first | rfl | simp only [go_sem,seval]) (by first | rfl | simp only [go_sem,seval]) (by first | rfl | simp only [go_sem,seval])
  ·obtain ⟨d18,h19,h⟩:=qb h
   have wh19:X pr (.loop qf1) ⟨[(2,.vptr (.agg [.int .i64 a0.num,.int .i64 a0.den]),false),(5,.list true 0 [],false),(6,.int .i64 a0.num,false)],[]⟩=some (.exit 0,⟨[(2,.vptr (.agg [.int .i64 a0.num,.int .i64 a0.den]),false),(5,sl 1 jr d18.1,d18.2.1),(6,.int .i64 d18.2.2,false),(28,.bool false,false)],[]⟩):=q6l a0 h19
   have hr:(d18.1,d18.2.1)=r:=Option.some.inj h
   subst hr
   have this:∃ hh,jc pr (X pr) 156 [.agg [.int .i64 a0.num,.int .i64 a0.den],.bool a1] []=some (sl 1 jr d18.1,d18.2.1,hh):=by
    rw [qj (show pr.fns 156=some c156 from rfl) (by simp)]
    simp only [go_sem,seval,c156,h1,h2,wh19]
    exact ⟨_,rfl⟩
   obtain ⟨hh,this⟩:=this
   exact zr rfl this (by first | rfl | simp only [go_sem,seval]) (by first | rfl | simp only [go_sem,seval]) (by first | rfl | simp only [go_sem,seval])
noncomputable def qjo (a0:qg) (a1:Bool) (v3:(Option (List Int)) × Bool) (s0:(Option (List GEl)) × Int × Bool) (v72:Int) (v76:(Option (List Int)) × Bool) (s1:(Option (List GEl)) × Int × Bool):Option (((Option (List GEl)) × Int × Bool) ⊕ (((Option (List GEl)) × Bool × Int))):=
 cond (decide (s1.2.1 < ((v76.1.getD []).length:Int)))
  (qi (zz (v76.1.getD []) s1.2.1) fun v97=>
  cond s1.2.2
   (qi (apO s1.1 [⟨a0.kd,v72,v97⟩]) fun v100=>
   some (.inl (v100,qk .i64 (s1.2.1 + 1),true)))
   (cond s1.1.isNone
    (qi (apO s1.1 [⟨a0.kd,v72,v97⟩]) fun v103=>
    some (.inl (v103,qk .i64 (s1.2.1 + 1),true)))
    (none)))
  (some (.inr (s1.1,s1.2.2,s1.2.1)))
def qj7 (a0:qg) (a1:Bool) (v3:(Option (List Int)) × Bool) (s0:(Option (List GEl)) × Int × Bool) (v72:Int) (v76:(Option (List Int)) × Bool) (s1:(Option (List GEl)) × Int × Bool):ASt:=⟨[(1,.bool a1,false),(2,.vptr (.agg [.str a0.name,.str a0.kd,.int .i64 a0.pa,.int .i64 a0.pb,.int .i64 a0.sa,.int .i64 a0.sb,.int .i64 a0.cost,.int .i64 a0.stock]),false),(5,sl 3 vel s1.1,s1.2.2),(7,.int .i64 v72,false),(17,sl 1 jr v3.1,v3.2),(18,.int .i64 ((v3.1.getD []).length:Int),false),(19,.int .i64 s0.2.1,false),(30,sl 1 jr v76.1,v76.2),(31,.int .i64 ((v76.1.getD []).length:Int),false),(32,.int .i64 s1.2.1,false)],[]⟩
def qrz (a0:qg) (a1:Bool) (v3:(Option (List Int)) × Bool) (s0:(Option (List GEl)) × Int × Bool) (v72:Int) (v76:(Option (List Int)) × Bool) (d:((Option (List GEl)) × Bool × Int)):jg × ASt:=(.exit 2,⟨[(1,.bool a1,false),(2,.vptr (.agg [.str a0.name,.str a0.kd,.int .i64 a0.pa,.int .i64 a0.pb,.int .i64 a0.sa,.int .i64 a0.sb,.int .i64 a0.cost,.int .i64 a0.stock]),false),(5,sl 3 vel d.1,d.2.1),(7,.int .i64 v72,false),(17,sl 1 jr v3.1,v3.2),(18,.int .i64 ((v3.1.getD []).length:Int),false),(19,.int .i64 s0.2.1,false),(30,sl 1 jr v76.1,v76.2),(31,.int .i64 ((v76.1.getD []).length:Int),false),(32,.int .i64 d.2.2,false),(33,.bool false,false)],[]⟩)
theorem jbi (a0:qg) (a1:Bool) (v3:(Option (List Int)) × Bool) (s0:(Option (List GEl)) × Int × Bool) (v72:Int) (v76:(Option (List Int)) × Bool) (s1:(Option (List GEl)) × Int × Bool) (r) (h:qjo a0 a1 v3 s0 v72 v76 s1=some r):z6 pr qjf (qj7 a0 a1 v3 s0 v72 v76) (qrz a0 a1 v3 s0 v72 v76) s1 r:=by
 unfold qjo at h
 rcases qa h with ⟨h96,h⟩ | ⟨h96,h⟩
 ·obtain ⟨v97,h98,h⟩:=qb h
  rcases qa h with ⟨h99,h⟩ | ⟨h99,h⟩
  ·obtain ⟨v100,h101,h⟩:=qb h
   cases h
   exact qr (st':=⟨[(1,.bool a1,false),(2,.vptr (.agg [.str a0.name,.str a0.kd,.int .i64 a0.pa,.int .i64 a0.pb,.int .i64 a0.sa,.int .i64 a0.sb,.int .i64 a0.cost,.int .i64 a0.stock]),false),(5,sl 3 vel v100,true),(7,.int .i64 v72,false),(17,sl 1 jr v3.1,v3.2),(18,.int .i64 ((v3.1.getD []).length:Int),false),(19,.int .i64 s0.2.1,false),(30,sl 1 jr v76.1,v76.2),(31,.int .i64 ((v76.1.getD []).length:Int),false),(32,.int .i64 (qk .i64 (s1.2.1 + 1)),false)],[]⟩) (by simp only [go_sem,seval,qjf,qj7,h96,jj h98,h99,qpk h101] <;> rfl) (qz (Nat.le_refl _))
  ·rcases qa h with ⟨h102,h⟩ | ⟨h102,h⟩
   ·obtain ⟨v103,h104,h⟩:=qb h
    cases h
    exact qr (st':=⟨[(1,.bool a1,false),(2,.vptr (.agg [.str a0.name,.str a0.kd,.int .i64 a0.pa,.int .i64 a0.pb,.int .i64 a0.sa,.int .i64 a0.sb,.int .i64 a0.cost,.int .i64 a0.stock]),false),(5,sl 3 vel v103,true),(7,.int .i64 v72,false),(17,sl 1 jr v3.1,v3.2),(18,.int .i64 ((v3.1.getD []).length:Int),false),(19,.int .i64 s0.2.1,false),(30,sl 1 jr v76.1,v76.2),(31,.int .i64 ((v76.1.getD []).length:Int),false),(32,.int .i64 (qk .i64 (s1.2.1 + 1)),false)],[]⟩) (by simp only [go_sem,seval,qjf,qj7,h96,jj h98,h99,h102,qpq h104 h102] <;> rfl) (qz (Nat.le_refl _))
   ·cases h
 ·cases h
  exact qm (by simp only [go_sem,seval,qjf,qj7,h96,qrz] <;> rfl)
theorem je3 (a0:qg) (a1:Bool) (v3:(Option (List Int)) × Bool) (s0:(Option (List GEl)) × Int × Bool) (v72:Int) (v76:(Option (List Int)) × Bool) {s1:(Option (List GEl)) × Int × Bool} {d} (h:itO (qjo a0 a1 v3 s0 v72 v76) s1=some d):X pr (.loop qjf) (qj7 a0 a1 v3 s0 v72 v76 s1)=some (qrz a0 a1 v3 s0 v72 v76 d):=yp (jbi a0 a1 v3 s0 v72 v76) (fun d hh=>by cases hh) h
noncomputable def qi2 (a0:qg) (a1:Bool) (v3:(Option (List Int)) × Bool) (s0:(Option (List GEl)) × Int × Bool):Option (((Option (List GEl)) × Int × Bool) ⊕ (((Option (List GEl)) × Bool × Int))):=
 cond (decide (s0.2.1 < ((v3.1.getD []).length:Int)))
  (qi (zz (v3.1.getD []) s0.2.1) fun v72=>
  qi (f155 a0.pb a0.sb) fun v74=>
  qi (f156 v74 a1) fun v76=>
  qi (itO (qjo a0 a1 v3 s0 v72 v76) (s0.1,0,s0.2.2)) fun d105=>
  some (.inl (d105.1,qk .i64 (s0.2.1 + 1),d105.2.1)))
  (some (.inr (s0.1,s0.2.2,s0.2.1)))
def qnz (a0:qg) (a1:Bool) (v3:(Option (List Int)) × Bool) (s0:(Option (List GEl)) × Int × Bool):ASt:=⟨[(1,.bool a1,false),(2,.vptr (.agg [.str a0.name,.str a0.kd,.int .i64 a0.pa,.int .i64 a0.pb,.int .i64 a0.sa,.int .i64 a0.sb,.int .i64 a0.cost,.int .i64 a0.stock]),false),(5,sl 3 vel s0.1,s0.2.2),(17,sl 1 jr v3.1,v3.2),(18,.int .i64 ((v3.1.getD []).length:Int),false),(19,.int .i64 s0.2.1,false)],[]⟩
def qrf (a0:qg) (a1:Bool) (v3:(Option (List Int)) × Bool) (d:((Option (List GEl)) × Bool × Int)):jg × ASt:=(.exit 0,⟨[(1,.bool a1,false),(2,.vptr (.agg [.str a0.name,.str a0.kd,.int .i64 a0.pa,.int .i64 a0.pb,.int .i64 a0.sa,.int .i64 a0.sb,.int .i64 a0.cost,.int .i64 a0.stock]),false),(5,sl 3 vel d.1,d.2.1),(17,sl 1 jr v3.1,v3.2),(18,.int .i64 ((v3.1.getD []).length:Int),false),(19,.int .i64 d.2.2,false),(20,.bool false,false)],[]⟩)
theorem je2 (a0:qg) (a1:Bool) (v3:(Option (List Int)) × Bool) (s0:(Option (List GEl)) × Int × Bool) (r) (h:qi2 a0 a1 v3 s0=some r):z6 pr qlr (qnz a0 a1 v3) (qrf a0 a1 v3) s0 r:=by
 unfold qi2 at h
 rcases qa h with ⟨h71,h⟩ | ⟨h71,h⟩
 ·obtain ⟨v72,h73,h⟩:=qb h
  obtain ⟨v74,h75,h⟩:=qb h
  have wh75:qd pr (X pr) 155 [.int .i64 a0.pb,.int .i64 a0.sb]=some (.agg [.int .i64 v74.num,.int .i64 v74.den],false):=q6e h75
  obtain ⟨v76,h77,h⟩:=qb h
  have wh77:qd pr (X pr) 156 [.agg [.int .i64 v74.num,.int .i64 v74.den],.bool a1]=some (sl 1 jr v76.1,v76.2):=q5v h77
  obtain ⟨d105,h106,h⟩:=qb h
  have wh106:X pr (.loop qjf) ⟨[(1,.bool a1,false),(2,.vptr (.agg [.str a0.name,.str a0.kd,.int .i64 a0.pa,.int .i64 a0.pb,.int .i64 a0.sa,.int .i64 a0.sb,.int .i64 a0.cost,.int .i64 a0.stock]),false),(5,sl 3 vel s0.1,s0.2.2),(7,.int .i64 v72,false),(17,sl 1 jr v3.1,v3.2),(18,.int .i64 ((v3.1.getD []).length:Int),false),(19,.int .i64 s0.2.1,false),(30,sl 1 jr v76.1,v76.2),(31,.int .i64 ((v76.1.getD []).length:Int),false),(32,.int .i64 0,false)],[]⟩=some (.exit 2,⟨[(1,.bool a1,false),(2,.vptr (.agg [.str a0.name,.str a0.kd,.int .i64 a0.pa,.int .i64 a0.pb,.int .i64 a0.sa,.int .i64 a0.sb,.int .i64 a0.cost,.int .i64 a0.stock]),false),(5,sl 3 vel d105.1,d105.2.1),(7,.int .i64 v72,false),(17,sl 1 jr v3.1,v3.2),(18,.int .i64 ((v3.1.getD []).length:Int),false),(19,.int .i64 s0.2.1,false),(30,sl 1 jr v76.1,v76.2),(31,.int .i64 ((v76.1.getD []).length:Int),false),(32,.int .i64 d105.2.2,false),(33,.bool false,false)],[]⟩):=je3 a0 a1 v3 s0 v72 v76 h106
  cases h
  exact qr (st':=⟨[(1,.bool a1,false),(2,.vptr (.agg [.str a0.name,.str a0.kd,.int .i64 a0.pa,.int .i64 a0.pb,.int .i64 a0.sa,.int .i64 a0.sb,.int .i64 a0.cost,.int .i64 a0.stock]),false),(5,sl 3 vel d105.1,d105.2.1),(17,sl 1 jr v3.1,v3.2),(18,.int .i64 ((v3.1.getD []).length:Int),false),(19,.int .i64 (qk .i64 (s0.2.1 + 1)),false)],[]⟩) (by simp only [go_sem,seval,qlr,qnz,h71,jj h73,wh75,wh77,wh106] <;> rfl) (qz (Nat.le_refl _))
 ·cases h
  exact qm (by simp only [go_sem,seval,qlr,qnz,h71,qrf] <;> rfl)
theorem jdk (a0:qg) (a1:Bool) (v3:(Option (List Int)) × Bool) {s0:(Option (List GEl)) × Int × Bool} {d} (h:itO (qi2 a0 a1 v3) s0=some d):X pr (.loop qlr) (qnz a0 a1 v3 s0)=some (qrf a0 a1 v3 d):=yp (je2 a0 a1 v3) (fun d hh=>by cases hh) h
noncomputable def f99 (a0:qg) (a1:Bool):Option ((Option (List GEl)) × Bool):=
 qi (f155 a0.pa a0.sa) fun v1=>
 qi (f156 v1 a1) fun v3=>
 qi (itO (qi2 a0 a1 v3) (none,0,false)) fun d107=>
 some (d107.1,d107.2.1)
theorem W99 {a0:qg} {a1:Bool} {r} (h:f99 a0 a1=some r):qd pr (X pr) 99 [.agg [.str a0.name,.str a0.kd,.int .i64 a0.pa,.int .i64 a0.pb,.int .i64 a0.sa,.int .i64 a0.sb,.int .i64 a0.cost,.int .i64 a0.stock],.bool a1]=some (sl 3 vel r.1,r.2):=by
 unfold f99 at h
 obtain ⟨v1,h2,h⟩:=qb h
 have wh2:qd pr (X pr) 155 [.int .i64 a0.pa,.int .i64 a0.sa]=some (.agg [.int .i64 v1.num,.int .i64 v1.den],false):=q6e h2
 obtain ⟨v3,h4,h⟩:=qb h
 have wh4:qd pr (X pr) 156 [.agg [.int .i64 v1.num,.int .i64 v1.den],.bool a1]=some (sl 1 jr v3.1,v3.2):=q5v h4
 obtain ⟨d107,h108,h⟩:=qb h
 have wh108:X pr (.loop qlr) ⟨[(1,.bool a1,false),(2,.vptr (.agg [.str a0.name,.str a0.kd,.int .i64 a0.pa,.int .i64 a0.pb,.int .i64 a0.sa,.int .i64 a0.sb,.int .i64 a0.cost,.int .i64 a0.stock]),false),(5,.list true 0 [],false),(17,sl 1 jr v3.1,v3.2),(18,.int .i64 ((v3.1.getD []).length:Int),false),(19,.int .i64 0,false)],[]⟩=some (.exit 0,⟨[(1,.bool a1,false),(2,.vptr (.agg [.str a0.name,.str a0.kd,.int .i64 a0.pa,.int .i64 a0.pb,.int .i64 a0.sa,.int .i64 a0.sb,.int .i64 a0.cost,.int .i64 a0.stock]),false),(5,sl 3 vel d107.1,d107.2.1),(17,sl 1 jr v3.1,v3.2),(18,.int .i64 ((v3.1.getD []).length:Int),false),(19,.int .i64 d107.2.2,false),(20,.bool false,false)],[]⟩):=jdk a0 a1 v3 h108
 have hr:(d107.1,d107.2.1)=r:=Option.some.inj h
 subst hr
 have this:∃ hh,jc pr (X pr) 99 [.agg [.str a0.name,.str a0.kd,.int .i64 a0.pa,.int .i64 a0.pb,.int .i64 a0.sa,.int .i64 a0.sb,.int .i64 a0.cost,.int .i64 a0.stock],.bool a1] []=some (sl 3 vel d107.1,d107.2.1,hh):=by
  rw [qj (show pr.fns 99=some c99 from rfl) (by simp)]
  simp only [go_sem,seval,c99,wh2,wh4,wh108]
  exact ⟨_,rfl⟩
 obtain ⟨hh,this⟩:=this
 exact zr rfl this (by first | rfl | simp only [go_sem,seval]) (by first | rfl | simp only [go_sem,seval]) (by first | rfl | simp only [go_sem,seval])
noncomputable def qf2 (a0:Option (List GEl)) (s0:(Option (List Int)) × Int × Bool):Option (((Option (List Int)) × Int × Bool) ⊕ (((Option (List Int)) × Bool × Int))):=
 cond (decide (s0.2.1 < ((a0.getD []).length:Int)))
  (qi (zz (a0.getD []) s0.2.1) fun v18=>
  qi (qq1 v18) fun v20=>
  cond s0.2.2
   (qi (apO s0.1 [v20]) fun v23=>
   some (.inl (v23,qk .i64 (s0.2.1 + 1),true)))
   (cond s0.1.isNone
    (qi (apO s0.1 [v20]) fun v26=>
    some (.inl (v26,qk .i64 (s0.2.1 + 1),true)))
    (none)))
  (some (.inr (s0.1,s0.2.2,s0.2.1)))
def qci (a0:Option (List GEl)) (s0:(Option (List Int)) × Int × Bool):ASt:=⟨[(1,.fn (.func 108) [] [],false),(5,sl 1 jr s0.1,s0.2.2),(8,sl 3 vel a0,false),(9,.int .i64 ((a0.getD []).length:Int),false),(10,.int .i64 s0.2.1,false)],[]⟩
def qoo (a0:Option (List GEl)) (d:((Option (List Int)) × Bool × Int)):jg × ASt:=(.exit 0,⟨[(1,.fn (.func 108) [] [],false),(5,sl 1 jr d.1,d.2.1),(8,sl 3 vel a0,false),(9,.int .i64 ((a0.getD []).length:Int),false),(10,.int .i64 d.2.2,false),(11,.bool false,false)],[]⟩)
theorem q64 (a0:Option (List GEl)) (s0:(Option (List Int)) × Int × Bool) (r) (h:qf2 a0 s0=some r):z6 pr qgk (qci a0) (qoo a0) s0 r:=by
 unfold qf2 at h
 rcases qa h with ⟨h17,h⟩ | ⟨h17,h⟩
 ·obtain ⟨v18,h19,h⟩:=qb h
  obtain ⟨v20,h21,h⟩:=qb h
  have wh21:jc pr (X pr) 108 [.agg [.str v18.kind,.int .i64 v18.a,.int .i64 v18.b]] [.cells [(.str v18.kind,false),(.int .i64 v18.a,false),(.int .i64 v18.b,false)]]=some (.int .i64 v20,false,[.cells [(.str v18.kind,false),(.int .i64 v18.a,false),(.int .i64 v18.b,false)]]):=jav [.cells [(.str v18.kind,false),(.int .i64 v18.a,false),(.int .i64 v18.b,false)]] h21
  rcases qa h with ⟨h22,h⟩ | ⟨h22,h⟩
  ·obtain ⟨v23,h24,h⟩:=qb h
   cases h
   exact qr (st':=⟨[(1,.fn (.func 108) [] [],false),(5,sl 1 jr v23,true),(8,sl 3 vel a0,false),(9,.int .i64 ((a0.getD []).length:Int),false),(10,.int .i64 (qk .i64 (s0.2.1 + 1)),false)],[]++[.cells [(.str v18.kind,false),(.int .i64 v18.a,false),(.int .i64 v18.b,false)]]⟩) (by simp only [go_sem,seval,qgk,qci,h17,jj h19,wh21,h22,qm9 h24] <;> rfl) (kz rfl rfl (by first | simp only [go_sem,seval,qci] | rfl) (by first | simp only [go_sem,seval,qci] | rfl))
  ·rcases qa h with ⟨h25,h⟩ | ⟨h25,h⟩
   ·obtain ⟨v26,h27,h⟩:=qb h
    cases h
    exact qr (st':=⟨[(1,.fn (.func 108) [] [],false),(5,sl 1 jr v26,true),(8,sl 3 vel a0,false),(9,.int .i64 ((a0.getD []).length:Int),false),(10,.int .i64 (qk .i64 (s0.2.1 + 1)),false)],[]++[.cells [(.str v18.kind,false),(.int .i64 v18.a,false),(.int .i64 v18.b,false)]]⟩) (by simp only [go_sem,seval,qgk,qci,h17,jj h19,wh21,h22,h25,qm6 h27 h25] <;> rfl) (kz rfl rfl (by first | simp only [go_sem,seval,qci] | rfl) (by first | simp only [go_sem,seval,qci] | rfl))
   ·cases h
 ·cases h
  exact qm (by simp only [go_sem,seval,qgk,qci,h17,qoo] <;> rfl)
theorem q6n (a0:Option (List GEl)) {s0:(Option (List Int)) × Int × Bool} {d} (h:itO (qf2 a0) s0=some d):X pr (.loop qgk) (qci a0 s0)=some (qoo a0 d):=yp (q64 a0) (fun d hh=>by cases hh) h
noncomputable def f110 (a0:Option (List GEl)):Option ((Option (List Int)) × Bool):=
 qi (itO (qf2 a0) (none,0,false)) fun d28=>
 some (d28.1,d28.2.1)
theorem jit {a0:Option (List GEl)} {r} (h:f110 a0=some r):qd pr (X pr) 110 [sl 3 vel a0,.fn (.func 108) [] []]=some (sl 1 jr r.1,r.2):=by
 unfold f110 at h
 obtain ⟨d28,h29,h⟩:=qb h
 have wh29:X pr (.loop qgk) ⟨[(1,.fn (.func 108) [] [],false),(5,.list true 0 [],false),(8,sl 3 vel a0,false),(9,.int .i64 ((a0.getD []).length:Int),false),(10,.int .i64 0,false)],[]⟩=some (.exit 0,⟨[(1,.fn (.func 108) [] [],false),(5,sl 1 jr d28.1,d28.2.1),(8,sl 3 vel a0,false),(9,.int .i64 ((a0.getD []).length:Int),false),(10,.int .i64 d28.2.2,false),(11,.bool false,false)],[]⟩):=q6n a0 h29
 have hr:(d28.1,d28.2.1)=r:=Option.some.inj h
 subst hr
 have this:∃ hh,jc pr (X pr) 110 [sl 3 vel a0,.fn (.func 108) [] []] []=some (sl 1 jr d28.1,d28.2.1,hh):=by
  rw [qj (show pr.fns 110=some c110 from rfl) (by simp)]
  simp only [go_sem,seval,c110,wh29]
  exact ⟨_,rfl⟩
 obtain ⟨hh,this⟩:=this
 exact zr rfl this (by first | rfl | simp only [go_sem,seval]) (by first | rfl | simp only [go_sem,seval]) (by first | rfl | simp only [go_sem,seval])
noncomputable def f22 (a0:qg):Option Int:=
 qi (f107 a0.name) fun v1=>
 qi (f106 (!v1) 8) fun v3=>
 qi (f108 (⟨a0.kd,a0.pa,a0.pb⟩)) fun v5=>
 qi (f109 a0.sa 0 1) fun v7=>
 qi (f109 a0.sb 0 1) fun v9=>
 qi (f109 a0.cost 1 1000000) fun v11=>
 qi (f109 a0.stock 0 100) fun v13=>
 qi (f105 (some [v3,v5,v7,v9,v11,v13])) fun v15=>
 cond (decide (v15=0))
  (qi (f99 a0 false) fun v18=>
  qi (f110 v18.1) fun v20=>
  qi (f105 v20.1) fun v22=>
  qi (f106 (!decide (v22=0)) 1) fun v24=>
  some v24)
  (some v15)
theorem W22 {a0:qg} {r} (h:f22 a0=some r):qd pr (X pr) 22 [.agg [.str a0.name,.str a0.kd,.int .i64 a0.pa,.int .i64 a0.pb,.int .i64 a0.sa,.int .i64 a0.sb,.int .i64 a0.cost,.int .i64 a0.stock]]=some (.int .i64 r,false):=by
 unfold f22 at h
 obtain ⟨v1,h2,h⟩:=qb h
 have wh2:qd pr (X pr) 107 [.str a0.name]=some (.bool v1,false):=jjo h2
 obtain ⟨v3,h4,h⟩:=qb h
 have wh4:qd pr (X pr) 106 [.bool (!v1),.int .i64 8]=some (.int .i64 v3,false):=qta h4
 obtain ⟨v5,h6,h⟩:=qb h
 have wh6:qd pr (X pr) 108 [.agg [.str a0.kd,.int .i64 a0.pa,.int .i64 a0.pb]]=some (.int .i64 v5,false):=ji7 h6
 obtain ⟨v7,h8,h⟩:=qb h
 have wh8:qd pr (X pr) 109 [.int .i64 a0.sa,.int .i64 0,.int .i64 1]=some (.int .i64 v7,false):=qv8 h8
 obtain ⟨v9,h10,h⟩:=qb h
 have wh10:qd pr (X pr) 109 [.int .i64 a0.sb,.int .i64 0,.int .i64 1]=some (.int .i64 v9,false):=qv8 h10
 obtain ⟨v11,h12,h⟩:=qb h
 have wh12:qd pr (X pr) 109 [.int .i64 a0.cost,.int .i64 1,.int .i64 1000000]=some (.int .i64 v11,false):=qv8 h12
 obtain ⟨v13,h14,h⟩:=qb h
 have wh14:qd pr (X pr) 109 [.int .i64 a0.stock,.int .i64 0,.int .i64 100]=some (.int .i64 v13,false):=qv8 h14
 obtain ⟨v15,h16,h⟩:=qb h
 have wh16:qd pr (X pr) 105 [.list false 1 [.int .i64 v3,.int .i64 v5,.int .i64 v7,.int .i64 v9,.int .i64 v11,.int .i64 v13]]=some (.int .i64 v15,false):=q0d h16
 rcases qa h with ⟨h17,h⟩ | ⟨h17,h⟩
 ·obtain ⟨v18,h19,h⟩:=qb h
  have wh19:qd pr (X pr) 99 [.agg [.str a0.name,.str a0.kd,.int .i64 a0.pa,.int .i64 a0.pb,.int .i64 a0.sa,.int .i64 a0.sb,.int .i64 a0.cost,.int .i64 a0.stock],.bool false]=some (sl 3 vel v18.1,v18.2):=W99 h19
  obtain ⟨v20,h21,h⟩:=qb h
  have wh21:qd pr (X pr) 110 [sl 3 vel v18.1,.fn (.func 108) [] []]=some (sl 1 jr v20.1,v20.2):=jit h21
  obtain ⟨v22,h23,h⟩:=qb h
  have wh23:qd pr (X pr) 105 [sl 1 jr v20.1]=some (.int .i64 v22,false):=q0d h23
  obtain ⟨v24,h25,h⟩:=qb h
  have wh25:qd pr (X pr) 106 [.bool (!decide (v22=0)),.int .i64 1]=some (.int .i64 v24,false):=qta h25
  have hr:v24=r:=Option.some.inj h
  subst hr
  refine jn rfl ?_ (fun _=>by first | rfl | simp only [go_sem,seval]) (by first | rfl | simp only [go_sem,seval])
  rw [qj (show pr.fns 22=some c22 from rfl) (by simp)]
  simp only [go_sem,seval,c22,wh2,wh4,wh6,wh8,wh10,wh12,wh14,wh16,h17,wh19,wh21,wh23,wh25]
  exact ⟨_,rfl⟩
 ·have hr:v15=r:=Option.some.inj h
  subst hr
  refine jn rfl ?_ (fun _=>by first | rfl | simp only [go_sem,seval]) (by first | rfl | simp only [go_sem,seval])
  rw [qj (show pr.fns 22=some c22 from rfl) (by simp)]
  simp only [go_sem,seval,c22,wh2,wh4,wh6,wh8,wh10,wh12,wh14,wh16,h17]
  exact ⟨_,rfl⟩
noncomputable def qgm (a0:Option (List qg)) (s0:Int × (List (List UInt8))):Option ((Int × (List (List UInt8))) ⊕ ((Int × (List (List UInt8)) × (List UInt8) × (List UInt8) × Int × Int × Int × Int × Int × Int) ⊕ (Int × (List (List UInt8))))):=
 cond (decide (s0.1 < ((a0.getD []).length:Int)))
  (qi (zz (a0.getD []) s0.1) fun v27=>
  qi (f22 v27) fun v29=>
  qi (f106 (qgh s0.2 v27.name) 9) fun v31=>
  qi (f105 (some [v29,v31])) fun v33=>
  cond (decide (v33=0))
   (qi (qmw s0.2 v27.name) fun v36=>
   some (.inl (qk .i64 (s0.1 + 1),v36)))
   (some (.inr (.inl (v33,s0.2,v27.name,v27.kd,v27.pa,v27.pb,v27.sa,v27.sb,v27.cost,v27.stock)))))
  (some (.inr (.inr (s0.1,s0.2))))
def qf4 (a0:Option (List qg)) (s0:Int × (List (List UInt8))):ASt:=⟨[(3,.map 0,false),(11,sl 8 qq a0,false),(12,.int .i64 ((a0.getD []).length:Int),false),(13,.int .i64 s0.1,false)],[.map (yk s0.2)]⟩
def qnl (a0:Option (List qg)):(Int × (List (List UInt8)) × (List UInt8) × (List UInt8) × Int × Int × Int × Int × Int × Int) ⊕ (Int × (List (List UInt8)))→jg × ASt
 | .inl d=>(.ret,⟨[(2,.int .i64 d.1,false)],[.map (yk d.2.1),.cells [(.str d.2.2.1,false),(.str d.2.2.2.1,false),(.int .i64 d.2.2.2.2.1,false),(.int .i64 d.2.2.2.2.2.1,false),(.int .i64 d.2.2.2.2.2.2.1,false),(.int .i64 d.2.2.2.2.2.2.2.1,false),(.int .i64 d.2.2.2.2.2.2.2.2.1,false),(.int .i64 d.2.2.2.2.2.2.2.2.2,false)]]⟩)
 | .inr d=>(.exit 0,⟨[(3,.map 0,false),(11,sl 8 qq a0,false),(12,.int .i64 ((a0.getD []).length:Int),false),(13,.int .i64 d.1,false),(14,.bool false,false)],[.map (yk d.2)]⟩)
theorem jcg (a0:Option (List qg)) (s0:Int × (List (List UInt8))) (r) (h:qgm a0 s0=some r):z6 pr qg2 (qf4 a0) (qnl a0) s0 r:=by
 unfold qgm at h
 rcases qa h with ⟨h26,h⟩ | ⟨h26,h⟩
 ·obtain ⟨v27,h28,h⟩:=qb h
  obtain ⟨v29,h30,h⟩:=qb h
  have wh30:qd pr (X pr) 22 [.agg [.str v27.name,.str v27.kd,.int .i64 v27.pa,.int .i64 v27.pb,.int .i64 v27.sa,.int .i64 v27.sb,.int .i64 v27.cost,.int .i64 v27.stock]]=some (.int .i64 v29,false):=W22 h30
  obtain ⟨v31,h32,h⟩:=qb h
  have wh32:qd pr (X pr) 106 [.bool (qgh s0.2 v27.name),.int .i64 9]=some (.int .i64 v31,false):=qta h32
  obtain ⟨v33,h34,h⟩:=qb h
  have wh34:qd pr (X pr) 105 [.list false 1 [.int .i64 v29,.int .i64 v31]]=some (.int .i64 v33,false):=q0d h34
  rcases qa h with ⟨h35,h⟩ | ⟨h35,h⟩
  ·obtain ⟨v36,h37,h⟩:=qb h
   cases h
   exact qr (st':=⟨[(3,.map 0,false),(11,sl 8 qq a0,false),(12,.int .i64 ((a0.getD []).length:Int),false),(13,.int .i64 (qk .i64 (s0.1 + 1)),false)],[.map (yk v36)]++[.cells [(.str v27.name,false),(.str v27.kd,false),(.int .i64 v27.pa,false),(.int .i64 v27.pb,false),(.int .i64 v27.sa,false),(.int .i64 v27.sb,false),(.int .i64 v27.cost,false),(.int .i64 v27.stock,false)]]⟩) (by simp only [go_sem,seval,qg2,qf4,h26,jj h28,wh30,q2p,wh32,wh34,h35,q7e h37] <;> rfl) (kz rfl rfl (by first | simp only [go_sem,seval,qf4] | rfl) (by first | simp only [go_sem,seval,qf4] | rfl))
  ·cases h
   exact qm (by simp only [go_sem,seval,qg2,qf4,h26,jj h28,wh30,q2p,wh32,wh34,h35,qnl] <;> rfl)
 ·cases h
  exact qm (by simp only [go_sem,seval,qg2,qf4,h26,qnl] <;> rfl)
theorem q21 (a0:Option (List qg)) {s0:Int × (List (List UInt8))} {d} (h:itO (qgm a0) s0=some d):X pr (.loop qg2) (qf4 a0 s0)=some (qnl a0 d):=yp (jcg a0) (fun d=>by rcases d with d|d <;> (intro hh; cases hh)) h
noncomputable def f23 (a0:Option (List qg)):Option Int:=
 cond (decide (6 < ((a0.getD []).length:Int)))
  (some 5)
  (qi (itO (qgm a0) (0,[])) fun d38=>match d38 with
   | .inl d40=>
    some d40.1
   | .inr d41=>
    some 0)
theorem W23 {a0:Option (List qg)} {r} (h:f23 a0=some r):qd pr (X pr) 23 [sl 8 qq a0]=some (.int .i64 r,false):=by
 unfold f23 at h
 rcases qa h with ⟨h1,h⟩ | ⟨h1,h⟩
 ·have hr:5=r:=Option.some.inj h
  subst hr
  refine jn rfl ?_ (fun _=>by first | rfl | simp only [go_sem,seval]) (by first | rfl | simp only [go_sem,seval])
  rw [qj (show pr.fns 23=some c23 from rfl) (by simp)]
  simp only [go_sem,seval,c23,h1]
  exact ⟨_,rfl⟩
 ·obtain ⟨d38,h39,h⟩:=qb h
  rcases d38 with d40 | d41
  ·have wh39:X pr (.loop qg2) ⟨[(3,.map 0,false),(11,sl 8 qq a0,false),(12,.int .i64 ((a0.getD []).length:Int),false),(13,.int .i64 0,false)],[.map (yk [])]⟩=some (.ret,⟨[(2,.int .i64 d40.1,false)],[.map (yk d40.2.1),.cells [(.str d40.2.2.1,false),(.str d40.2.2.2.1,false),(.int .i64 d40.2.2.2.2.1,false),(.int .i64 d40.2.2.2.2.2.1,false),(.int .i64 d40.2.2.2.2.2.2.1,false),(.int .i64 d40.2.2.2.2.2.2.2.1,false),(.int .i64 d40.2.2.2.2.2.2.2.2.1,false),(.int .i64 d40.2.2.2.2.2.2.2.2.2,false)]]⟩):=q21 a0 h39
   have hr:d40.1=r:=Option.some.inj h
   subst hr
   refine jn rfl ?_ (fun _=>by first | rfl | simp only [go_sem,seval]) (by first | rfl | simp only [go_sem,seval])
   rw [qj (show pr.fns 23=some c23 from rfl) (by simp)]
   simp only [go_sem,seval,c23,h1,qzw,wh39]
   exact ⟨_,rfl⟩
  ·have wh39:X pr (.loop qg2) ⟨[(3,.map 0,false),(11,sl 8 qq a0,false),(12,.int .i64 ((a0.getD []).length:Int),false),(13,.int .i64 0,false)],[.map (yk [])]⟩=some (.exit 0,⟨[(3,.map 0,false),(11,sl 8 qq a0,false),(12,.int .i64 ((a0.getD []).length:Int),false),(13,.int .i64 d41.1,false),(14,.bool false,false)],[.map (yk d41.2)]⟩):=q21 a0 h39
   have hr:0=r:=Option.some.inj h
   subst hr
   refine jn rfl ?_ (fun _=>by first | rfl | simp only [go_sem,seval]) (by first | rfl | simp only [go_sem,seval])
   rw [qj (show pr.fns 23=some c23 from rfl) (by simp)]
   simp only [go_sem,seval,c23,h1,qzw,wh39]
   exact ⟨_,rfl⟩
noncomputable def f101 (a0:Bool) (a1:Int):Option Int:=
 cond a0
  (some a1)
  (some 0)
theorem jj8 {a0:Bool} {a1:Int} {r} (h:f101 a0 a1=some r):qd pr (X pr) 101 [.bool a0,.int .i64 a1]=some (.int .i64 r,false):=by
 unfold f101 at h
 rcases qa h with ⟨h1,h⟩ | ⟨h1,h⟩
 ·have hr:a1=r:=Option.some.inj h
  subst hr
  refine jn rfl ?_ (fun _=>by first | rfl | simp only [go_sem,seval]) (by first | rfl | simp only [go_sem,seval])
  rw [qj (show pr.fns 101=some c101 from rfl) (by simp)]
  simp only [go_sem,seval,c101,h1]
  exact ⟨_,rfl⟩
 ·have hr:0=r:=Option.some.inj h
  subst hr
  refine jn rfl ?_ (fun _=>by first | rfl | simp only [go_sem,seval]) (by first | rfl | simp only [go_sem,seval])
  rw [qj (show pr.fns 101=some c101 from rfl) (by simp)]
  simp only [go_sem,seval,c101,h1]
  exact ⟨_,rfl⟩
noncomputable def qgf (a0:Option (List Int)) (s0:Int):Option (Int ⊕ (Int ⊕ Int)):=
 cond (decide (s0 < ((a0.getD []).length:Int)))
  (qi (zz (a0.getD []) s0) fun v10=>
  cond (decide (v10=0))
   (some (.inl (qk .i64 (s0 + 1))))
   (some (.inr (.inl v10))))
  (some (.inr (.inr s0)))
def qii (a0:Option (List Int)) (s0:Int):ASt:=⟨[(0,sl 1 jr a0,false),(3,.int .i64 s0,false)],[]⟩
def qlb (a0:Option (List Int)):Int ⊕ Int→jg × ASt
 | .inl d=>(.ret,⟨[(2,.int .i64 d,false)],[]⟩)
 | .inr d=>(.exit 0,⟨[(0,sl 1 jr a0,false),(3,.int .i64 d,false),(7,.bool false,false)],[]⟩)
theorem q63 (a0:Option (List Int)) (s0:Int) (r) (h:qgf a0 s0=some r):z6 pr qeb (qii a0) (qlb a0) s0 r:=by
 unfold qgf at h
 rcases qa h with ⟨h9,h⟩ | ⟨h9,h⟩
 ·obtain ⟨v10,h11,h⟩:=qb h
  rcases qa h with ⟨h12,h⟩ | ⟨h12,h⟩
  ·cases h
   exact qr (st':=⟨[(0,sl 1 jr a0,false),(3,.int .i64 (qk .i64 (s0 + 1)),false)],[]⟩) (by simp only [go_sem,seval,qeb,qii,h9,jj h11,h12] <;> rfl) (qz (Nat.le_refl _))
  ·cases h
   exact qm (by simp only [go_sem,seval,qeb,qii,h9,jj h11,h12,qlb] <;> rfl)
 ·cases h
  exact qm (by simp only [go_sem,seval,qeb,qii,h9,qlb] <;> rfl)
theorem qy7 (a0:Option (List Int)) {s0:Int} {d} (h:itO (qgf a0) s0=some d):X pr (.loop qeb) (qii a0 s0)=some (qlb a0 d):=yp (q63 a0) (fun d=>by rcases d with d|d <;> (intro hh; cases hh)) h
noncomputable def f100 (a0:Option (List Int)):Option Int:=
 qi (itO (qgf a0) 0) fun d13=>match d13 with
  | .inl d15=>
   some d15
  | .inr d16=>
   some 0
theorem q60 {a0:Option (List Int)} {r} (h:f100 a0=some r):qd pr (X pr) 100 [sl 1 jr a0]=some (.int .i64 r,false):=by
 unfold f100 at h
 obtain ⟨d13,h14,h⟩:=qb h
 rcases d13 with d15 | d16
 ·have wh14:X pr (.loop qeb) ⟨[(0,sl 1 jr a0,false),(3,.int .i64 0,false)],[]⟩=some (.ret,⟨[(2,.int .i64 d15,false)],[]⟩):=qy7 a0 h14
  have hr:d15=r:=Option.some.inj h
  subst hr
  refine jn rfl ?_ (fun _=>by first | rfl | simp only [go_sem,seval]) (by first | rfl | simp only [go_sem,seval])
  rw [qj (show pr.fns 100=some c100 from rfl) (by simp)]
  simp only [go_sem,seval,c100,wh14]
  exact ⟨_,rfl⟩
 ·have wh14:X pr (.loop qeb) ⟨[(0,sl 1 jr a0,false),(3,.int .i64 0,false)],[]⟩=some (.exit 0,⟨[(0,sl 1 jr a0,false),(3,.int .i64 d16,false),(7,.bool false,false)],[]⟩):=qy7 a0 h14
  have hr:0=r:=Option.some.inj h
  subst hr
  refine jn rfl ?_ (fun _=>by first | rfl | simp only [go_sem,seval]) (by first | rfl | simp only [go_sem,seval])
  rw [qj (show pr.fns 100=some c100 from rfl) (by simp)]
  simp only [go_sem,seval,c100,wh14]
  exact ⟨_,rfl⟩
noncomputable def f40 (a0:Int) (a1:Int) (a2:Int):Option Int:=
 cond (decide (a0 < a1))
  (some 3)
  (cond (decide (a2 < a0))
   (some 3)
   (some 0))
theorem W40 {a0:Int} {a1:Int} {a2:Int} {r} (h:f40 a0 a1 a2=some r):qd pr (X pr) 40 [.int .i64 a0,.int .i64 a1,.int .i64 a2]=some (.int .i64 r,false):=by
 unfold f40 at h
 rcases qa h with ⟨h1,h⟩ | ⟨h1,h⟩
 ·have hr:3=r:=Option.some.inj h
  subst hr
  refine jn rfl ?_ (fun _=>by first | rfl | simp only [go_sem,seval]) (by first | rfl | simp only [go_sem,seval])
  rw [qj (show pr.fns 40=some c40 from rfl) (by simp)]
  simp only [go_sem,seval,c40,h1]
  exact ⟨_,rfl⟩
 ·rcases qa h with ⟨h2,h⟩ | ⟨h2,h⟩
  ·have hr:3=r:=Option.some.inj h
   subst hr
   refine jn rfl ?_ (fun _=>by first | rfl | simp only [go_sem,seval]) (by first | rfl | simp only [go_sem,seval])
   rw [qj (show pr.fns 40=some c40 from rfl) (by simp)]
   simp only [go_sem,seval,c40,h1,h2]
   exact ⟨_,rfl⟩
  ·have hr:0=r:=Option.some.inj h
   subst hr
   refine jn rfl ?_ (fun _=>by first | rfl | simp only [go_sem,seval]) (by first | rfl | simp only [go_sem,seval])
   rw [qj (show pr.fns 40=some c40 from rfl) (by simp)]
   simp only [go_sem,seval,c40,h1,h2]
   exact ⟨_,rfl⟩
noncomputable def qeh (a0:List UInt8) (s0:Int):Option (Int ⊕ (Unit ⊕ Int)):=
 cond (decide (s0 < (a0.length:Int)))
  (qi (zz a0 s0) fun v70=>
  cond (decide (65≤(v70.toNat:Int)))
   (cond (decide ((v70.toNat:Int)≤90))
    (cond (decide (48≤(v70.toNat:Int)))
     (cond (decide ((v70.toNat:Int)≤57))
      (some (.inl (qk .i64 (s0 + 1))))
      (some (.inl (qk .i64 (s0 + 1)))))
     (some (.inl (qk .i64 (s0 + 1)))))
    (cond (decide (97≤(v70.toNat:Int)))
     (cond (decide (48≤(v70.toNat:Int)))
      (cond (decide ((v70.toNat:Int)≤57))
       (cond (decide ((v70.toNat:Int)≤122))
        (some (.inl (qk .i64 (s0 + 1))))
        (cond (decide (s0=0))
         (some (.inr (.inl ())))
         (some (.inl (qk .i64 (s0 + 1))))))
       (cond (decide ((v70.toNat:Int)≤122))
        (some (.inl (qk .i64 (s0 + 1))))
        (cond (decide (s0=0))
         (some (.inr (.inl ())))
         (cond (decide ((v70.toNat:Int)=95))
          (some (.inl (qk .i64 (s0 + 1))))
          (some (.inr (.inl ())))))))
      (cond (decide ((v70.toNat:Int)≤122))
       (some (.inl (qk .i64 (s0 + 1))))
       (cond (decide (s0=0))
        (some (.inr (.inl ())))
        (cond (decide ((v70.toNat:Int)=95))
         (some (.inl (qk .i64 (s0 + 1))))
         (some (.inr (.inl ())))))))
     (cond (decide (48≤(v70.toNat:Int)))
      (cond (decide ((v70.toNat:Int)≤57))
       (cond (decide (s0=0))
        (some (.inr (.inl ())))
        (some (.inl (qk .i64 (s0 + 1)))))
       (cond (decide (s0=0))
        (some (.inr (.inl ())))
        (cond (decide ((v70.toNat:Int)=95))
         (some (.inl (qk .i64 (s0 + 1))))
         (some (.inr (.inl ()))))))
      (cond (decide (s0=0))
       (some (.inr (.inl ())))
       (cond (decide ((v70.toNat:Int)=95))
        (some (.inl (qk .i64 (s0 + 1))))
        (some (.inr (.inl ()))))))))
   (cond (decide (97≤(v70.toNat:Int)))
    (cond (decide (48≤(v70.toNat:Int)))
     (cond (decide ((v70.toNat:Int)≤57))
      (cond (decide ((v70.toNat:Int)≤122))
       (some (.inl (qk .i64 (s0 + 1))))
       (cond (decide (s0=0))
        (some (.inr (.inl ())))
        (some (.inl (qk .i64 (s0 + 1))))))
      (cond (decide ((v70.toNat:Int)≤122))
       (some (.inl (qk .i64 (s0 + 1))))
       (cond (decide (s0=0))
        (some (.inr (.inl ())))
        (cond (decide ((v70.toNat:Int)=95))
         (some (.inl (qk .i64 (s0 + 1))))
         (some (.inr (.inl ())))))))
     (cond (decide ((v70.toNat:Int)≤122))
      (some (.inl (qk .i64 (s0 + 1))))
      (cond (decide (s0=0))
       (some (.inr (.inl ())))
       (cond (decide ((v70.toNat:Int)=95))
        (some (.inl (qk .i64 (s0 + 1))))
        (some (.inr (.inl ())))))))
    (cond (decide (48≤(v70.toNat:Int)))
     (cond (decide ((v70.toNat:Int)≤57))
      (cond (decide (s0=0))
       (some (.inr (.inl ())))
       (some (.inl (qk .i64 (s0 + 1)))))
      (cond (decide (s0=0))
       (some (.inr (.inl ())))
       (cond (decide ((v70.toNat:Int)=95))
        (some (.inl (qk .i64 (s0 + 1))))
        (some (.inr (.inl ()))))))
     (cond (decide (s0=0))
      (some (.inr (.inl ())))
      (cond (decide ((v70.toNat:Int)=95))
       (some (.inl (qk .i64 (s0 + 1))))
       (some (.inr (.inl ()))))))))
  (some (.inr (.inr s0)))
def jw (a0:List UInt8) (s0:Int):ASt:=⟨[(0,.str a0,false),(3,.int .i64 s0,false)],[]⟩
def ya (a0:List UInt8):Unit ⊕ Int→jg × ASt
 | .inl d=>(.ret,⟨[(2,.bool false,false)],[]⟩)
 | .inr d=>(.exit 0,⟨[(0,.str a0,false),(3,.int .i64 d,false),(17,.bool false,false)],[]⟩)
theorem q75 (a0:List UInt8) (s0:Int) (r) (h:qeh a0 s0=some r):z6 pr jz (jw a0) (ya a0) s0 r:=by
 unfold qeh at h
 rcases qa h with ⟨h69,h⟩ | ⟨h69,h⟩
 ·obtain ⟨v70,h71,h⟩:=qb h
  rcases qa h with ⟨h72,h⟩ | ⟨h72,h⟩
  ·rcases qa h with ⟨h73,h⟩ | ⟨h73,h⟩
   ·rcases qa h with ⟨h74,h⟩ | ⟨h74,h⟩
    ·rcases qa h with ⟨h75,h⟩ | ⟨h75,h⟩
     ·cases h
      exact qr (st':=⟨[(0,.str a0,false),(3,.int .i64 (qk .i64 (s0 + 1)),false)],[]⟩) (by simp only [go_sem,seval,jz,jw,h69,jl h71,h72,h73,h74,h75] <;> rfl) (qz (Nat.le_refl _))
     ·cases h
      exact qr (st':=⟨[(0,.str a0,false),(3,.int .i64 (qk .i64 (s0 + 1)),false)],[]⟩) (by simp only [go_sem,seval,jz,jw,h69,jl h71,h72,h73,h74,h75] <;> rfl) (qz (Nat.le_refl _))
    ·cases h
     exact qr (st':=⟨[(0,.str a0,false),(3,.int .i64 (qk .i64 (s0 + 1)),false)],[]⟩) (by simp only [go_sem,seval,jz,jw,h69,jl h71,h72,h73,h74] <;> rfl) (qz (Nat.le_refl _))
   ·rcases qa h with ⟨h76,h⟩ | ⟨h76,h⟩
    ·rcases qa h with ⟨h77,h⟩ | ⟨h77,h⟩
     ·rcases qa h with ⟨h78,h⟩ | ⟨h78,h⟩
      ·rcases qa h with ⟨h79,h⟩ | ⟨h79,h⟩
       ·cases h
        exact qr (st':=⟨[(0,.str a0,false),(3,.int .i64 (qk .i64 (s0 + 1)),false)],[]⟩) (by simp only [go_sem,seval,jz,jw,h69,jl h71,h72,h73,h76,h77,h78,h79] <;> rfl) (qz (Nat.le_refl _))
       ·rcases qa h with ⟨h80,h⟩ | ⟨h80,h⟩
        ·cases h
         exact qm (by simp only [go_sem,seval,jz,jw,h69,jl h71,h72,h73,h76,h77,h78,h79,h80,ya] <;> rfl)
        ·cases h
         exact qr (st':=⟨[(0,.str a0,false),(3,.int .i64 (qk .i64 (s0 + 1)),false)],[]⟩) (by simp only [go_sem,seval,jz,jw,h69,jl h71,h72,h73,h76,h77,h78,h79,h80] <;> rfl) (qz (Nat.le_refl _))
      ·rcases qa h with ⟨h81,h⟩ | ⟨h81,h⟩
       ·cases h
        exact qr (st':=⟨[(0,.str a0,false),(3,.int .i64 (qk .i64 (s0 + 1)),false)],[]⟩) (by simp only [go_sem,seval,jz,jw,h69,jl h71,h72,h73,h76,h77,h78,h81] <;> rfl) (qz (Nat.le_refl _))
       ·rcases qa h with ⟨h82,h⟩ | ⟨h82,h⟩
        ·cases h
         exact qm (by simp only [go_sem,seval,jz,jw,h69,jl h71,h72,h73,h76,h77,h78,h81,h82,ya] <;> rfl)
        ·rcases qa h with ⟨h83,h⟩ | ⟨h83,h⟩
         ·cases h
          exact qr (st':=⟨[(0,.str a0,false),(3,.int .i64 (qk .i64 (s0 + 1)),false)],[]⟩) (by simp only [go_sem,seval,jz,jw,h69,jl h71,h72,h73,h76,h77,h78,h81,h82,h83] <;> rfl) (qz (Nat.le_refl _))
         ·cases h
          exact qm (by simp only [go_sem,seval,jz,jw,h69,jl h71,h72,h73,h76,h77,h78,h81,h82,h83,ya] <;> rfl)
     ·rcases qa h with ⟨h84,h⟩ | ⟨h84,h⟩
      ·cases h
       exact qr (st':=⟨[(0,.str a0,false),(3,.int .i64 (qk .i64 (s0 + 1)),false)],[]⟩) (by simp only [go_sem,seval,jz,jw,h69,jl h71,h72,h73,h76,h77,h84] <;> rfl) (qz (Nat.le_refl _))
      ·rcases qa h with ⟨h85,h⟩ | ⟨h85,h⟩
       ·cases h
        exact qm (by simp only [go_sem,seval,jz,jw,h69,jl h71,h72,h73,h76,h77,h84,h85,ya] <;> rfl)
       ·rcases qa h with ⟨h86,h⟩ | ⟨h86,h⟩
        ·cases h
         exact qr (st':=⟨[(0,.str a0,false),(3,.int .i64 (qk .i64 (s0 + 1)),false)],[]⟩) (by simp only [go_sem,seval,jz,jw,h69,jl h71,h72,h73,h76,h77,h84,h85,h86] <;> rfl) (qz (Nat.le_refl _))
        ·cases h
         exact qm (by simp only [go_sem,seval,jz,jw,h69,jl h71,h72,h73,h76,h77,h84,h85,h86,ya] <;> rfl)
    ·rcases qa h with ⟨h87,h⟩ | ⟨h87,h⟩
     ·rcases qa h with ⟨h88,h⟩ | ⟨h88,h⟩
      ·rcases qa h with ⟨h89,h⟩ | ⟨h89,h⟩
       ·cases h
        exact qm (by simp only [go_sem,seval,jz,jw,h69,jl h71,h72,h73,h76,h87,h88,h89,ya] <;> rfl)
       ·cases h
        exact qr (st':=⟨[(0,.str a0,false),(3,.int .i64 (qk .i64 (s0 + 1)),false)],[]⟩) (by simp only [go_sem,seval,jz,jw,h69,jl h71,h72,h73,h76,h87,h88,h89] <;> rfl) (qz (Nat.le_refl _))
      ·rcases qa h with ⟨h90,h⟩ | ⟨h90,h⟩
       ·cases h
        exact qm (by simp only [go_sem,seval,jz,jw,h69,jl h71,h72,h73,h76,h87,h88,h90,ya] <;> rfl)
       ·rcases qa h with ⟨h91,h⟩ | ⟨h91,h⟩
        ·cases h
         exact qr (st':=⟨[(0,.str a0,false),(3,.int .i64 (qk .i64 (s0 + 1)),false)],[]⟩) (by simp only [go_sem,seval,jz,jw,h69,jl h71,h72,h73,h76,h87,h88,h90,h91] <;> rfl) (qz (Nat.le_refl _))
        ·cases h
         exact qm (by simp only [go_sem,seval,jz,jw,h69,jl h71,h72,h73,h76,h87,h88,h90,h91,ya] <;> rfl)
     ·rcases qa h with ⟨h92,h⟩ | ⟨h92,h⟩
      ·cases h
       exact qm (by simp only [go_sem,seval,jz,jw,h69,jl h71,h72,h73,h76,h87,h92,ya] <;> rfl)
      ·rcases qa h with ⟨h93,h⟩ | ⟨h93,h⟩
       ·cases h
        exact qr (st':=⟨[(0,.str a0,false),(3,.int .i64 (qk .i64 (s0 + 1)),false)],[]⟩) (by simp only [go_sem,seval,jz,jw,h69,jl h71,h72,h73,h76,h87,h92,h93] <;> rfl) (qz (Nat.le_refl _))
       ·cases h
        exact qm (by simp only [go_sem,seval,jz,jw,h69,jl h71,h72,h73,h76,h87,h92,h93,ya] <;> rfl)
  ·rcases qa h with ⟨h94,h⟩ | ⟨h94,h⟩
   ·rcases qa h with ⟨h95,h⟩ | ⟨h95,h⟩
    ·rcases qa h with ⟨h96,h⟩ | ⟨h96,h⟩
     ·rcases qa h with ⟨h97,h⟩ | ⟨h97,h⟩
      ·cases h
       exact qr (st':=⟨[(0,.str a0,false),(3,.int .i64 (qk .i64 (s0 + 1)),false)],[]⟩) (by simp only [go_sem,seval,jz,jw,h69,jl h71,h72,h94,h95,h96,h97] <;> rfl) (qz (Nat.le_refl _))
      ·rcases qa h with ⟨h98,h⟩ | ⟨h98,h⟩
       ·cases h
        exact qm (by simp only [go_sem,seval,jz,jw,h69,jl h71,h72,h94,h95,h96,h97,h98,ya] <;> rfl)
       ·cases h
        exact qr (st':=⟨[(0,.str a0,false),(3,.int .i64 (qk .i64 (s0 + 1)),false)],[]⟩) (by simp only [go_sem,seval,jz,jw,h69,jl h71,h72,h94,h95,h96,h97,h98] <;> rfl) (qz (Nat.le_refl _))
     ·rcases qa h with ⟨h99,h⟩ | ⟨h99,h⟩
      ·cases h
       exact qr (st':=⟨[(0,.str a0,false),(3,.int .i64 (qk .i64 (s0 + 1)),false)],[]⟩) (by simp only [go_sem,seval,jz,jw,h69,jl h71,h72,h94,h95,h96,h99] <;> rfl) (qz (Nat.le_refl _))
      ·rcases qa h with ⟨h100,h⟩ | ⟨h100,h⟩
       ·cases h
        exact qm (by simp only [go_sem,seval,jz,jw,h69,jl h71,h72,h94,h95,h96,h99,h100,ya] <;> rfl)
       ·rcases qa h with ⟨h101,h⟩ | ⟨h101,h⟩
        ·cases h
         exact qr (st':=⟨[(0,.str a0,false),(3,.int .i64 (qk .i64 (s0 + 1)),false)],[]⟩) (by simp only [go_sem,seval,jz,jw,h69,jl h71,h72,h94,h95,h96,h99,h100,h101] <;> rfl) (qz (Nat.le_refl _))
        ·cases h
         exact qm (by simp only [go_sem,seval,jz,jw,h69,jl h71,h72,h94,h95,h96,h99,h100,h101,ya] <;> rfl)
    ·rcases qa h with ⟨h102,h⟩ | ⟨h102,h⟩
     ·cases h
      exact qr (st':=⟨[(0,.str a0,false),(3,.int .i64 (qk .i64 (s0 + 1)),false)],[]⟩) (by simp only [go_sem,seval,jz,jw,h69,jl h71,h72,h94,h95,h102] <;> rfl) (qz (Nat.le_refl _))
     ·rcases qa h with ⟨h103,h⟩ | ⟨h103,h⟩
      ·cases h
       exact qm (by simp only [go_sem,seval,jz,jw,h69,jl h71,h72,h94,h95,h102,h103,ya] <;> rfl)
      ·rcases qa h with ⟨h104,h⟩ | ⟨h104,h⟩
       ·cases h
        exact qr (st':=⟨[(0,.str a0,false),(3,.int .i64 (qk .i64 (s0 + 1)),false)],[]⟩) (by simp only [go_sem,seval,jz,jw,h69,jl h71,h72,h94,h95,h102,h103,h104] <;> rfl) (qz (Nat.le_refl _))
       ·cases h
        exact qm (by simp only [go_sem,seval,jz,jw,h69,jl h71,h72,h94,h95,h102,h103,h104,ya] <;> rfl)
   ·rcases qa h with ⟨h105,h⟩ | ⟨h105,h⟩
    ·rcases qa h with ⟨h106,h⟩ | ⟨h106,h⟩
     ·rcases qa h with ⟨h107,h⟩ | ⟨h107,h⟩
      ·cases h
       exact qm (by simp only [go_sem,seval,jz,jw,h69,jl h71,h72,h94,h105,h106,h107,ya] <;> rfl)
      ·cases h
       exact qr (st':=⟨[(0,.str a0,false),(3,.int .i64 (qk .i64 (s0 + 1)),false)],[]⟩) (by simp only [go_sem,seval,jz,jw,h69,jl h71,h72,h94,h105,h106,h107] <;> rfl) (qz (Nat.le_refl _))
     ·rcases qa h with ⟨h108,h⟩ | ⟨h108,h⟩
      ·cases h
       exact qm (by simp only [go_sem,seval,jz,jw,h69,jl h71,h72,h94,h105,h106,h108,ya] <;> rfl)
      ·rcases qa h with ⟨h109,h⟩ | ⟨h109,h⟩
       ·cases h
        exact qr (st':=⟨[(0,.str a0,false),(3,.int .i64 (qk .i64 (s0 + 1)),false)],[]⟩) (by simp only [go_sem,seval,jz,jw,h69,jl h71,h72,h94,h105,h106,h108,h109] <;> rfl) (qz (Nat.le_refl _))
       ·cases h
        exact qm (by simp only [go_sem,seval,jz,jw,h69,jl h71,h72,h94,h105,h106,h108,h109,ya] <;> rfl)
    ·rcases qa h with ⟨h110,h⟩ | ⟨h110,h⟩
     ·cases h
      exact qm (by simp only [go_sem,seval,jz,jw,h69,jl h71,h72,h94,h105,h110,ya] <;> rfl)
     ·rcases qa h with ⟨h111,h⟩ | ⟨h111,h⟩
      ·cases h
       exact qr (st':=⟨[(0,.str a0,false),(3,.int .i64 (qk .i64 (s0 + 1)),false)],[]⟩) (by simp only [go_sem,seval,jz,jw,h69,jl h71,h72,h94,h105,h110,h111] <;> rfl) (qz (Nat.le_refl _))
      ·cases h
       exact qm (by simp only [go_sem,seval,jz,jw,h69,jl h71,h72,h94,h105,h110,h111,ya] <;> rfl)
 ·cases h
  exact qm (by simp only [go_sem,seval,jz,jw,h69,ya] <;> rfl)
theorem qyp (a0:List UInt8) {s0:Int} {d} (h:itO (qeh a0) s0=some d):X pr (.loop jz) (jw a0 s0)=some (ya a0 d):=yp (q75 a0) (fun d=>by rcases d with d|d <;> (intro hh; cases hh)) h
noncomputable def f102 (a0:List UInt8):Option Bool:=
 cond (decide ((a0.length:Int)=0))
  (some false)
  (cond (decide (24 < (a0.length:Int)))
   (some false)
   (qi (itO (qeh a0) 0) fun d112=>match d112 with
    | .inl d114=>
     some false
    | .inr d115=>
     some true))
theorem jht {a0:List UInt8} {r} (h:f102 a0=some r):qd pr (X pr) 102 [.str a0]=some (.bool r,false):=by
 unfold f102 at h
 rcases qa h with ⟨h1,h⟩ | ⟨h1,h⟩
 ·have hr:false=r:=Option.some.inj h
  subst hr
  refine jn rfl ?_ (fun _=>by first | rfl | simp only [go_sem,seval]) (by first | rfl | simp only [go_sem,seval])
  rw [qj (show pr.fns 102=some c102 from rfl) (by simp)]
  simp only [go_sem,seval,c102,h1]
  exact ⟨_,rfl⟩
 ·rcases qa h with ⟨h2,h⟩ | ⟨h2,h⟩
  ·have hr:false=r:=Option.some.inj h
   subst hr
   refine jn rfl ?_ (fun _=>by first | rfl | simp only [go_sem,seval]) (by first | rfl | simp only [go_sem,seval])
   rw [qj (show pr.fns 102=some c102 from rfl) (by simp)]
   simp only [go_sem,seval,c102,h1,h2]
   exact ⟨_,rfl⟩
  ·obtain ⟨d112,h113,h⟩:=qb h
   rcases d112 with d114 | d115
   ·have wh113:X pr (.loop jz) ⟨[(0,.str a0,false),(3,.int .i64 0,false)],[]⟩=some (.ret,⟨[(2,.bool false,false)],[]⟩):=qyp a0 h113
    have hr:false=r:=Option.some.inj h
    subst hr
    refine jn rfl ?_ (fun _=>by first | rfl | simp only [go_sem,seval]) (by first | rfl | simp only [go_sem,seval])
    rw [qj (show pr.fns 102=some c102 from rfl) (by simp)]
    simp only [go_sem,seval,c102,h1,h2,wh113]
    exact ⟨_,rfl⟩
   ·have wh113:X pr (.loop jz) ⟨[(0,.str a0,false),(3,.int .i64 0,false)],[]⟩=some (.exit 0,⟨[(0,.str a0,false),(3,.int .i64 d115,false),(17,.bool false,false)],[]⟩):=qyp a0 h113
    have hr:true=r:=Option.some.inj h
    subst hr
    refine jn rfl ?_ (fun _=>by first | rfl | simp only [go_sem,seval]) (by first | rfl | simp only [go_sem,seval])
    rw [qj (show pr.fns 102=some c102 from rfl) (by simp)]
    simp only [go_sem,seval,c102,h1,h2,wh113]
    exact ⟨_,rfl⟩
noncomputable def qf8 (a0:Option (List (List UInt8))) (a1:List UInt8) (s0:Int):Option (Int ⊕ (Unit ⊕ Int)):=
 cond (decide (s0 < ((a0.getD []).length:Int)))
  (qi (zz (a0.getD []) s0) fun v10=>
  cond (decide (v10=a1))
   (some (.inr (.inl ())))
   (some (.inl (qk .i64 (s0 + 1)))))
  (some (.inr (.inr s0)))
def qie (a0:Option (List (List UInt8))) (a1:List UInt8) (s0:Int):ASt:=⟨[(0,sl 1 zi a0,false),(1,.str a1,false),(5,.int .i64 s0,false)],[]⟩
def ql1 (a0:Option (List (List UInt8))) (a1:List UInt8):Unit ⊕ Int→jg × ASt
 | .inl d=>(.ret,⟨[(4,.bool true,false)],[]⟩)
 | .inr d=>(.exit 0,⟨[(0,sl 1 zi a0,false),(1,.str a1,false),(5,.int .i64 d,false),(9,.bool false,false)],[]⟩)
theorem q6r (a0:Option (List (List UInt8))) (a1:List UInt8) (s0:Int) (r) (h:qf8 a0 a1 s0=some r):z6 pr qee (qie a0 a1) (ql1 a0 a1) s0 r:=by
 unfold qf8 at h
 rcases qa h with ⟨h9,h⟩ | ⟨h9,h⟩
 ·obtain ⟨v10,h11,h⟩:=qb h
  rcases qa h with ⟨h12,h⟩ | ⟨h12,h⟩
  ·cases h
   exact qm (by simp only [go_sem,seval,qee,qie,h9,jj h11,h12,ql1] <;> rfl)
  ·cases h
   exact qr (st':=⟨[(0,sl 1 zi a0,false),(1,.str a1,false),(5,.int .i64 (qk .i64 (s0 + 1)),false)],[]⟩) (by simp only [go_sem,seval,qee,qie,h9,jj h11,h12] <;> rfl) (qz (Nat.le_refl _))
 ·cases h
  exact qm (by simp only [go_sem,seval,qee,qie,h9,ql1] <;> rfl)
theorem qy0 (a0:Option (List (List UInt8))) (a1:List UInt8) {s0:Int} {d} (h:itO (qf8 a0 a1) s0=some d):X pr (.loop qee) (qie a0 a1 s0)=some (ql1 a0 a1 d):=yp (q6r a0 a1) (fun d=>by rcases d with d|d <;> (intro hh; cases hh)) h
noncomputable def f191 (a0:Option (List (List UInt8))) (a1:List UInt8):Option Bool:=
 qi (itO (qf8 a0 a1) 0) fun d13=>match d13 with
  | .inl d15=>
   some true
  | .inr d16=>
   some false
theorem jjt {a0:Option (List (List UInt8))} {a1:List UInt8} {r} (h:f191 a0 a1=some r):qd pr (X pr) 191 [sl 1 zi a0,.str a1]=some (.bool r,false):=by
 unfold f191 at h
 obtain ⟨d13,h14,h⟩:=qb h
 rcases d13 with d15 | d16
 ·have wh14:X pr (.loop qee) ⟨[(0,sl 1 zi a0,false),(1,.str a1,false),(5,.int .i64 0,false)],[]⟩=some (.ret,⟨[(4,.bool true,false)],[]⟩):=qy0 a0 a1 h14
  have hr:true=r:=Option.some.inj h
  subst hr
  refine jn rfl ?_ (fun _=>by first | rfl | simp only [go_sem,seval]) (by first | rfl | simp only [go_sem,seval])
  rw [qj (show pr.fns 191=some c191 from rfl) (by simp)]
  simp only [go_sem,seval,c191,wh14]
  exact ⟨_,rfl⟩
 ·have wh14:X pr (.loop qee) ⟨[(0,sl 1 zi a0,false),(1,.str a1,false),(5,.int .i64 0,false)],[]⟩=some (.exit 0,⟨[(0,sl 1 zi a0,false),(1,.str a1,false),(5,.int .i64 d16,false),(9,.bool false,false)],[]⟩):=qy0 a0 a1 h14
  have hr:false=r:=Option.some.inj h
  subst hr
  refine jn rfl ?_ (fun _=>by first | rfl | simp only [go_sem,seval]) (by first | rfl | simp only [go_sem,seval])
  rw [qj (show pr.fns 191=some c191 from rfl) (by simp)]
  simp only [go_sem,seval,c191,wh14]
  exact ⟨_,rfl⟩
noncomputable def f192:Option (Option (List (List UInt8))):=
 some (some [([98,108,111,99,107]:List UInt8),([115,101,114,105,101,115]:List UInt8),([115,104,117,110,116]:List UInt8),([116,114,97,112]:List UInt8)])
theorem qph {r} (h:f192=some r):qd pr (X pr) 192 []=some (sl 1 zi r,true):=by
 unfold f192 at h
 have hr:some [([98,108,111,99,107]:List UInt8),([115,101,114,105,101,115]:List UInt8),([115,104,117,110,116]:List UInt8),([116,114,97,112]:List UInt8)]=r:=Option.some.inj h
 subst hr
 have this:∃ hh,jc pr (X pr) 192 [] []=some (.list false 1 [.str ([98,108,111,99,107]:List UInt8),.str ([115,101,114,105,101,115]:List UInt8),.str ([115,104,117,110,116]:List UInt8),.str ([116,114,97,112]:List UInt8)],true,hh):=by
  rw [qj (show pr.fns 192=some c192 from rfl) (by simp)]
  simp only [go_sem,seval,c192]
  exact ⟨_,rfl⟩
 obtain ⟨hh,this⟩:=this
 exact zr rfl this (by first | rfl | simp only [go_sem,seval]) (by first | rfl | simp only [go_sem,seval]) (by first | rfl | simp only [go_sem,seval])
noncomputable def f55 (a0:List UInt8):Option Bool:=
 cond (decide (a0=([98,108,111,99,107]:List UInt8)))
  (some true)
  (some (decide (a0=([116,114,97,112]:List UInt8))))
theorem W55 {a0:List UInt8} {r} (h:f55 a0=some r):qd pr (X pr) 55 [.str a0]=some (.bool r,false):=by
 unfold f55 at h
 rcases qa h with ⟨h1,h⟩ | ⟨h1,h⟩
 ·have hr:true=r:=Option.some.inj h
  subst hr
  refine jn rfl ?_ (fun _=>by first | rfl | simp only [go_sem,seval]) (by first | rfl | simp only [go_sem,seval])
  rw [qj (show pr.fns 55=some c55 from rfl) (by simp)]
  simp only [go_sem,seval,c55,h1]
  exact ⟨_,rfl⟩
 ·have hr:decide (a0=([116,114,97,112]:List UInt8))=r:=Option.some.inj h
  subst hr
  refine jn rfl ?_ (fun _=>by first | rfl | simp only [go_sem,seval]) (by first | rfl | simp only [go_sem,seval])
  rw [qj (show pr.fns 55=some c55 from rfl) (by simp)]
  simp only [go_sem,seval,c55,h1]
  exact ⟨_,rfl⟩
noncomputable def f157 (a0:GEl):Option Int:=
 qi (f192) fun v1=>
 qi (f191 v1 a0.kind) fun v3=>
 cond v3
  (qi (f40 a0.a 0 8) fun v6=>
  qi (f40 a0.b 0 8) fun v8=>
  qi (f100 (some [v6,v8])) fun v10=>
  cond (decide (v10=0))
   (qi (f55 a0.kind) fun v13=>
   cond v13
    (cond (decide (a0.a=0))
     (cond (decide (a0.b=0))
      (some 6)
      (some 0))
     (some 0))
    (some 0))
   (some v10))
  (some 13)
theorem jjc {a0:GEl} {r} (h:f157 a0=some r):qd pr (X pr) 157 [.agg [.str a0.kind,.int .i64 a0.a,.int .i64 a0.b]]=some (.int .i64 r,false):=by
 unfold f157 at h
 obtain ⟨v1,h2,h⟩:=qb h
 obtain ⟨v3,h4,h⟩:=qb h
 have wh4:qd pr (X pr) 191 [sl 1 zi v1,.str a0.kind]=some (.bool v3,false):=jjt h4
 rcases qa h with ⟨h5,h⟩ | ⟨h5,h⟩
 ·obtain ⟨v6,h7,h⟩:=qb h
  have wh7:qd pr (X pr) 40 [.int .i64 a0.a,.int .i64 0,.int .i64 8]=some (.int .i64 v6,false):=W40 h7
  obtain ⟨v8,h9,h⟩:=qb h
  have wh9:qd pr (X pr) 40 [.int .i64 a0.b,.int .i64 0,.int .i64 8]=some (.int .i64 v8,false):=W40 h9
  obtain ⟨v10,h11,h⟩:=qb h
  have wh11:qd pr (X pr) 100 [.list false 1 [.int .i64 v6,.int .i64 v8]]=some (.int .i64 v10,false):=q60 h11
  rcases qa h with ⟨h12,h⟩ | ⟨h12,h⟩
  ·obtain ⟨v13,h14,h⟩:=qb h
   have wh14:qd pr (X pr) 55 [.str a0.kind]=some (.bool v13,false):=W55 h14
   rcases qa h with ⟨h15,h⟩ | ⟨h15,h⟩
   ·rcases qa h with ⟨h16,h⟩ | ⟨h16,h⟩
    ·rcases qa h with ⟨h17,h⟩ | ⟨h17,h⟩
     ·have hr:6=r:=Option.some.inj h
      subst hr
      refine jn rfl ?_ (fun _=>by first | rfl | simp only [go_sem,seval]) (by first | rfl | simp only [go_sem,seval])
      rw [qj (show pr.fns 157=some c157 from rfl) (by simp)]
      simp only [go_sem,seval,c157,qph h2,wh4,h5,wh7,wh9,wh11,h12,wh14,h15,h16,h17]
      exact ⟨_,rfl⟩
     ·have hr:0=r:=Option.some.inj h
      subst hr
      refine jn rfl ?_ (fun _=>by first | rfl | simp only [go_sem,seval]) (by first | rfl | simp only [go_sem,seval])
      rw [qj (show pr.fns 157=some c157 from rfl) (by simp)]
      simp only [go_sem,seval,c157,qph h2,wh4,h5,wh7,wh9,wh11,h12,wh14,h15,h16,h17]
      exact ⟨_,rfl⟩
    ·have hr:0=r:=Option.some.inj h
     subst hr
     refine jn rfl ?_ (fun _=>by first | rfl | simp only [go_sem,seval]) (by first | rfl | simp only [go_sem,seval])
     rw [qj (show pr.fns 157=some c157 from rfl) (by simp)]
     simp only [go_sem,seval,c157,qph h2,wh4,h5,wh7,wh9,wh11,h12,wh14,h15,h16]
     exact ⟨_,rfl⟩
   ·have hr:0=r:=Option.some.inj h
    subst hr
    refine jn rfl ?_ (fun _=>by first | rfl | simp only [go_sem,seval]) (by first | rfl | simp only [go_sem,seval])
    rw [qj (show pr.fns 157=some c157 from rfl) (by simp)]
    simp only [go_sem,seval,c157,qph h2,wh4,h5,wh7,wh9,wh11,h12,wh14,h15]
    exact ⟨_,rfl⟩
  ·have hr:v10=r:=Option.some.inj h
   subst hr
   refine jn rfl ?_ (fun _=>by first | rfl | simp only [go_sem,seval]) (by first | rfl | simp only [go_sem,seval])
   rw [qj (show pr.fns 157=some c157 from rfl) (by simp)]
   simp only [go_sem,seval,c157,qph h2,wh4,h5,wh7,wh9,wh11,h12]
   exact ⟨_,rfl⟩
 ·have hr:13=r:=Option.some.inj h
  subst hr
  refine jn rfl ?_ (fun _=>by first | rfl | simp only [go_sem,seval]) (by first | rfl | simp only [go_sem,seval])
  rw [qj (show pr.fns 157=some c157 from rfl) (by simp)]
  simp only [go_sem,seval,c157,qph h2,wh4,h5]
  exact ⟨_,rfl⟩
noncomputable def qgc (a0:Option (List GEl)) (s0:Int):Option (Int ⊕ (Int ⊕ Int)):=
 cond (decide (s0 < ((a0.getD []).length:Int)))
  (qi (zz (a0.getD []) s0) fun v15=>
  qi (f157 v15) fun v17=>
  cond (decide (v17=0))
   (some (.inl (qk .i64 (s0 + 1))))
   (some (.inr (.inl v17))))
  (some (.inr (.inr s0)))
def qh1 (a0:Option (List GEl)) (s0:Int):ASt:=⟨[(0,sl 3 vel a0,false),(3,.int .i64 s0,false)],[]⟩
def qlf (a0:Option (List GEl)):Int ⊕ Int→jg × ASt
 | .inl d=>(.ret,⟨[(2,.int .i64 d,false)],[]⟩)
 | .inr d=>(.exit 0,⟨[(0,sl 3 vel a0,false),(3,.int .i64 d,false),(11,.bool false,false)],[]⟩)
theorem q7m (a0:Option (List GEl)) (s0:Int) (r) (h:qgc a0 s0=some r):z6 pr qeq (qh1 a0) (qlf a0) s0 r:=by
 unfold qgc at h
 rcases qa h with ⟨h14,h⟩ | ⟨h14,h⟩
 ·obtain ⟨v15,h16,h⟩:=qb h
  obtain ⟨v17,h18,h⟩:=qb h
  have wh18:qd pr (X pr) 157 [.agg [.str v15.kind,.int .i64 v15.a,.int .i64 v15.b]]=some (.int .i64 v17,false):=jjc h18
  rcases qa h with ⟨h19,h⟩ | ⟨h19,h⟩
  ·cases h
   exact qr (st':=⟨[(0,sl 3 vel a0,false),(3,.int .i64 (qk .i64 (s0 + 1)),false)],[]⟩) (by simp only [go_sem,seval,qeq,qh1,h14,jj h16,wh18,h19] <;> rfl) (qz (Nat.le_refl _))
  ·cases h
   exact qm (by simp only [go_sem,seval,qeq,qh1,h14,jj h16,wh18,h19,qlf] <;> rfl)
 ·cases h
  exact qm (by simp only [go_sem,seval,qeq,qh1,h14,qlf] <;> rfl)
theorem qzi (a0:Option (List GEl)) {s0:Int} {d} (h:itO (qgc a0) s0=some d):X pr (.loop qeq) (qh1 a0 s0)=some (qlf a0 d):=yp (q7m a0) (fun d=>by rcases d with d|d <;> (intro hh; cases hh)) h
noncomputable def f103 (a0:Option (List GEl)):Option Int:=
 cond (decide (5 < ((a0.getD []).length:Int)))
  (some 5)
  (qi (itO (qgc a0) 0) fun d20=>match d20 with
   | .inl d22=>
    some d22
   | .inr d23=>
    some 0)
theorem q0z {a0:Option (List GEl)} {r} (h:f103 a0=some r):qd pr (X pr) 103 [sl 3 vel a0]=some (.int .i64 r,false):=by
 unfold f103 at h
 rcases qa h with ⟨h1,h⟩ | ⟨h1,h⟩
 ·have hr:5=r:=Option.some.inj h
  subst hr
  refine jn rfl ?_ (fun _=>by first | rfl | simp only [go_sem,seval]) (by first | rfl | simp only [go_sem,seval])
  rw [qj (show pr.fns 103=some c103 from rfl) (by simp)]
  simp only [go_sem,seval,c103,h1]
  exact ⟨_,rfl⟩
 ·obtain ⟨d20,h21,h⟩:=qb h
  rcases d20 with d22 | d23
  ·have wh21:X pr (.loop qeq) ⟨[(0,sl 3 vel a0,false),(3,.int .i64 0,false)],[]⟩=some (.ret,⟨[(2,.int .i64 d22,false)],[]⟩):=qzi a0 h21
   have hr:d22=r:=Option.some.inj h
   subst hr
   refine jn rfl ?_ (fun _=>by first | rfl | simp only [go_sem,seval]) (by first | rfl | simp only [go_sem,seval])
   rw [qj (show pr.fns 103=some c103 from rfl) (by simp)]
   simp only [go_sem,seval,c103,h1,wh21]
   exact ⟨_,rfl⟩
  ·have wh21:X pr (.loop qeq) ⟨[(0,sl 3 vel a0,false),(3,.int .i64 0,false)],[]⟩=some (.exit 0,⟨[(0,sl 3 vel a0,false),(3,.int .i64 d23,false),(11,.bool false,false)],[]⟩):=qzi a0 h21
   have hr:0=r:=Option.some.inj h
   subst hr
   refine jn rfl ?_ (fun _=>by first | rfl | simp only [go_sem,seval]) (by first | rfl | simp only [go_sem,seval])
   rw [qj (show pr.fns 103=some c103 from rfl) (by simp)]
   simp only [go_sem,seval,c103,h1,wh21]
   exact ⟨_,rfl⟩
noncomputable def qft (a0:qg) (s0:(Option (List GEl)) × Int × Bool) (s1:(Option (List GEl)) × Int × Bool):Option (((Option (List GEl)) × Int × Bool) ⊕ (((Option (List GEl)) × Bool × Int))):=
 cond (decide (s1.2.1≤(qk .i64 (a0.pb + a0.sb))))
  (cond s1.2.2
   (qi (apO s1.1 [⟨a0.kd,s0.2.1,s1.2.1⟩]) fun v60=>
   some (.inl (v60,qk .i64 (s1.2.1 + 1),true)))
   (cond s1.1.isNone
    (qi (apO s1.1 [⟨a0.kd,s0.2.1,s1.2.1⟩]) fun v63=>
    some (.inl (v63,qk .i64 (s1.2.1 + 1),true)))
    (none)))
  (some (.inr (s1.1,s1.2.2,s1.2.1)))
def qhq (a0:qg) (s0:(Option (List GEl)) × Int × Bool) (s1:(Option (List GEl)) × Int × Bool):ASt:=⟨[(1,.vptr (.agg [.str a0.name,.str a0.kd,.int .i64 a0.pa,.int .i64 a0.pb,.int .i64 a0.sa,.int .i64 a0.sb,.int .i64 a0.cost,.int .i64 a0.stock]),false),(3,sl 3 vel s1.1,s1.2.2),(4,.int .i64 s0.2.1,false),(5,.int .i64 s1.2.1,false)],[]⟩
def qor (a0:qg) (s0:(Option (List GEl)) × Int × Bool) (d:((Option (List GEl)) × Bool × Int)):jg × ASt:=(.exit 2,⟨[(1,.vptr (.agg [.str a0.name,.str a0.kd,.int .i64 a0.pa,.int .i64 a0.pb,.int .i64 a0.sa,.int .i64 a0.sb,.int .i64 a0.cost,.int .i64 a0.stock]),false),(3,sl 3 vel d.1,d.2.1),(4,.int .i64 s0.2.1,false),(5,.int .i64 d.2.2,false),(35,.bool false,false)],[]⟩)
theorem q5u (a0:qg) (s0:(Option (List GEl)) × Int × Bool) (s1:(Option (List GEl)) × Int × Bool) (r) (h:qft a0 s0 s1=some r):z6 pr qfv (qhq a0 s0) (qor a0 s0) s1 r:=by
 unfold qft at h
 rcases qa h with ⟨h58,h⟩ | ⟨h58,h⟩
 ·rcases qa h with ⟨h59,h⟩ | ⟨h59,h⟩
  ·obtain ⟨v60,h61,h⟩:=qb h
   cases h
   exact qr (st':=⟨[(1,.vptr (.agg [.str a0.name,.str a0.kd,.int .i64 a0.pa,.int .i64 a0.pb,.int .i64 a0.sa,.int .i64 a0.sb,.int .i64 a0.cost,.int .i64 a0.stock]),false),(3,sl 3 vel v60,true),(4,.int .i64 s0.2.1,false),(5,.int .i64 (qk .i64 (s1.2.1 + 1)),false)],[]⟩) (by simp only [go_sem,seval,qfv,qhq,h58,h59,qpk h61] <;> rfl) (qz (Nat.le_refl _))
  ·rcases qa h with ⟨h62,h⟩ | ⟨h62,h⟩
   ·obtain ⟨v63,h64,h⟩:=qb h
    cases h
    exact qr (st':=⟨[(1,.vptr (.agg [.str a0.name,.str a0.kd,.int .i64 a0.pa,.int .i64 a0.pb,.int .i64 a0.sa,.int .i64 a0.sb,.int .i64 a0.cost,.int .i64 a0.stock]),false),(3,sl 3 vel v63,true),(4,.int .i64 s0.2.1,false),(5,.int .i64 (qk .i64 (s1.2.1 + 1)),false)],[]⟩) (by simp only [go_sem,seval,qfv,qhq,h58,h59,h62,qpq h64 h62] <;> rfl) (qz (Nat.le_refl _))
   ·cases h
 ·cases h
  exact qm (by simp only [go_sem,seval,qfv,qhq,h58,qor] <;> rfl)
theorem q6h (a0:qg) (s0:(Option (List GEl)) × Int × Bool) {s1:(Option (List GEl)) × Int × Bool} {d} (h:itO (qft a0 s0) s1=some d):X pr (.loop qfv) (qhq a0 s0 s1)=some (qor a0 s0 d):=yp (q5u a0 s0) (fun d hh=>by cases hh) h
noncomputable def qfs (a0:qg) (s0:(Option (List GEl)) × Int × Bool):Option (((Option (List GEl)) × Int × Bool) ⊕ (((Option (List GEl)) × Bool × Int))):=
 cond (decide (s0.2.1≤(qk .i64 (a0.pa + a0.sa))))
  (qi (itO (qft a0 s0) (s0.1,qk .i64 (a0.pb - a0.sb),s0.2.2)) fun d65=>
  some (.inl (d65.1,qk .i64 (s0.2.1 + 1),d65.2.1)))
  (some (.inr (s0.1,s0.2.2,s0.2.1)))
def qls (a0:qg) (s0:(Option (List GEl)) × Int × Bool):ASt:=⟨[(1,.vptr (.agg [.str a0.name,.str a0.kd,.int .i64 a0.pa,.int .i64 a0.pb,.int .i64 a0.sa,.int .i64 a0.sb,.int .i64 a0.cost,.int .i64 a0.stock]),false),(3,sl 3 vel s0.1,s0.2.2),(4,.int .i64 s0.2.1,false)],[]⟩
def qo7 (a0:qg) (d:((Option (List GEl)) × Bool × Int)):jg × ASt:=(.exit 0,⟨[(1,.vptr (.agg [.str a0.name,.str a0.kd,.int .i64 a0.pa,.int .i64 a0.pb,.int .i64 a0.sa,.int .i64 a0.sb,.int .i64 a0.cost,.int .i64 a0.stock]),false),(3,sl 3 vel d.1,d.2.1),(4,.int .i64 d.2.2,false),(19,.bool false,false)],[]⟩)
theorem q6w (a0:qg) (s0:(Option (List GEl)) × Int × Bool) (r) (h:qfs a0 s0=some r):z6 pr qiq (qls a0) (qo7 a0) s0 r:=by
 unfold qfs at h
 rcases qa h with ⟨h43,h⟩ | ⟨h43,h⟩
 ·obtain ⟨d65,h66,h⟩:=qb h
  have wh66:X pr (.loop qfv) ⟨[(1,.vptr (.agg [.str a0.name,.str a0.kd,.int .i64 a0.pa,.int .i64 a0.pb,.int .i64 a0.sa,.int .i64 a0.sb,.int .i64 a0.cost,.int .i64 a0.stock]),false),(3,sl 3 vel s0.1,s0.2.2),(4,.int .i64 s0.2.1,false),(5,.int .i64 (qk .i64 (a0.pb - a0.sb)),false)],[]⟩=some (.exit 2,⟨[(1,.vptr (.agg [.str a0.name,.str a0.kd,.int .i64 a0.pa,.int .i64 a0.pb,.int .i64 a0.sa,.int .i64 a0.sb,.int .i64 a0.cost,.int .i64 a0.stock]),false),(3,sl 3 vel d65.1,d65.2.1),(4,.int .i64 s0.2.1,false),(5,.int .i64 d65.2.2,false),(35,.bool false,false)],[]⟩):=q6h a0 s0 h66
  cases h
  exact qr (st':=⟨[(1,.vptr (.agg [.str a0.name,.str a0.kd,.int .i64 a0.pa,.int .i64 a0.pb,.int .i64 a0.sa,.int .i64 a0.sb,.int .i64 a0.cost,.int .i64 a0.stock]),false),(3,sl 3 vel d65.1,d65.2.1),(4,.int .i64 (qk .i64 (s0.2.1 + 1)),false)],[]⟩) (by simp only [go_sem,seval,qiq,qls,h43,wh66] <;> rfl) (qz (Nat.le_refl _))
 ·cases h
  exact qm (by simp only [go_sem,seval,qiq,qls,h43,qo7] <;> rfl)
theorem q6q (a0:qg) {s0:(Option (List GEl)) × Int × Bool} {d} (h:itO (qfs a0) s0=some d):X pr (.loop qiq) (qls a0 s0)=some (qo7 a0 d):=yp (q6w a0) (fun d hh=>by cases hh) h
noncomputable def f104 (a0:qg):Option ((Option (List GEl)) × Bool):=
 qi (itO (qfs a0) (none,qk .i64 (a0.pa - a0.sa),false)) fun d67=>
 some (d67.1,d67.2.1)
theorem jiq {a0:qg} {r} (h:f104 a0=some r):qd pr (X pr) 104 [.agg [.str a0.name,.str a0.kd,.int .i64 a0.pa,.int .i64 a0.pb,.int .i64 a0.sa,.int .i64 a0.sb,.int .i64 a0.cost,.int .i64 a0.stock]]=some (sl 3 vel r.1,r.2):=by
 unfold f104 at h
 obtain ⟨d67,h68,h⟩:=qb h
 have wh68:X pr (.loop qiq) ⟨[(1,.vptr (.agg [.str a0.name,.str a0.kd,.int .i64 a0.pa,.int .i64 a0.pb,.int .i64 a0.sa,.int .i64 a0.sb,.int .i64 a0.cost,.int .i64 a0.stock]),false),(3,.list true 0 [],false),(4,.int .i64 (qk .i64 (a0.pa - a0.sa)),false)],[]⟩=some (.exit 0,⟨[(1,.vptr (.agg [.str a0.name,.str a0.kd,.int .i64 a0.pa,.int .i64 a0.pb,.int .i64 a0.sa,.int .i64 a0.sb,.int .i64 a0.cost,.int .i64 a0.stock]),false),(3,sl 3 vel d67.1,d67.2.1),(4,.int .i64 d67.2.2,false),(19,.bool false,false)],[]⟩):=q6q a0 h68
 have hr:(d67.1,d67.2.1)=r:=Option.some.inj h
 subst hr
 have this:∃ hh,jc pr (X pr) 104 [.agg [.str a0.name,.str a0.kd,.int .i64 a0.pa,.int .i64 a0.pb,.int .i64 a0.sa,.int .i64 a0.sb,.int .i64 a0.cost,.int .i64 a0.stock]] []=some (sl 3 vel d67.1,d67.2.1,hh):=by
  rw [qj (show pr.fns 104=some c104 from rfl) (by simp)]
  simp only [go_sem,seval,c104,wh68]
  exact ⟨_,rfl⟩
 obtain ⟨hh,this⟩:=this
 exact zr rfl this (by first | rfl | simp only [go_sem,seval]) (by first | rfl | simp only [go_sem,seval]) (by first | rfl | simp only [go_sem,seval])
noncomputable def qjm (v18:(Option (List GEl)) × Bool) (s0:Int):Option (Int ⊕ (Unit ⊕ Int)):=
 cond (decide (s0 < ((v18.1.getD []).length:Int)))
  (qi (qby v18.1 (some s0) (some (qk .i64 (s0 + 1)))) fun v33=>
  qi (f103 v33) fun v35=>
  cond (decide (v35=0))
   (some (.inl (qk .i64 (s0 + 1))))
   (some (.inr (.inl ()))))
  (some (.inr (.inr s0)))
def qka (v18:(Option (List GEl)) × Bool) (s0:Int):ASt:=⟨[(4,sl 3 vel v18.1,v18.2),(5,.int .i64 s0,false)],[]⟩
def qnj (v18:(Option (List GEl)) × Bool):Unit ⊕ Int→jg × ASt
 | .inl d=>(.ret,⟨[(2,.int .i64 1,false)],[]⟩)
 | .inr d=>(.exit 0,⟨[(4,sl 3 vel v18.1,v18.2),(5,.int .i64 d,false),(37,.bool false,false)],[]⟩)
theorem jac (v18:(Option (List GEl)) × Bool) (s0:Int) (r) (h:qjm v18 s0=some r):z6 pr qg5 (qka v18) (qnj v18) s0 r:=by
 unfold qjm at h
 rcases qa h with ⟨h32,h⟩ | ⟨h32,h⟩
 ·obtain ⟨v33,h34,h⟩:=qb h
  obtain ⟨v35,h36,h⟩:=qb h
  rcases qa h with ⟨h37,h⟩ | ⟨h37,h⟩
  ·cases h
   exact qr (st':=⟨[(4,sl 3 vel v18.1,v18.2),(5,.int .i64 (qk .i64 (s0 + 1)),false)],[]⟩) (by simp only [go_sem,seval,qg5,qka,h32,qrg h34,q0z h36,h37] <;> rfl) (qz (Nat.le_refl _))
  ·cases h
   exact qm (by simp only [go_sem,seval,qg5,qka,h32,qrg h34,q0z h36,h37,qnj] <;> rfl)
 ·cases h
  exact qm (by simp only [go_sem,seval,qg5,qka,h32,qnj] <;> rfl)
theorem q2o (v18:(Option (List GEl)) × Bool) {s0:Int} {d} (h:itO (qjm v18) s0=some d):X pr (.loop qg5) (qka v18 s0)=some (qnj v18 d):=yp (jac v18) (fun d=>by rcases d with d|d <;> (intro hh; cases hh)) h
noncomputable def f20 (a0:qg):Option Int:=
 qi (f102 a0.name) fun v1=>
 qi (f101 (!v1) 8) fun v3=>
 qi (f103 (some [⟨a0.kd,a0.pa,a0.pb⟩])) fun v5=>
 qi (f40 a0.sa 0 1) fun v7=>
 qi (f40 a0.sb 0 1) fun v9=>
 qi (f40 a0.cost 1 1000000) fun v11=>
 qi (f40 a0.stock 0 100) fun v13=>
 qi (f100 (some [v3,v5,v7,v9,v11,v13])) fun v15=>
 cond (decide (v15=0))
  (qi (f104 a0) fun v18=>
  qi (itO (qjm v18) 0) fun d38=>match d38 with
   | .inl d40=>
    some 1
   | .inr d41=>
    some 0)
  (some v15)
theorem W20 {a0:qg} {r} (h:f20 a0=some r):qd pr (X pr) 20 [.agg [.str a0.name,.str a0.kd,.int .i64 a0.pa,.int .i64 a0.pb,.int .i64 a0.sa,.int .i64 a0.sb,.int .i64 a0.cost,.int .i64 a0.stock]]=some (.int .i64 r,false):=by
 unfold f20 at h
 obtain ⟨v1,h2,h⟩:=qb h
 have wh2:qd pr (X pr) 102 [.str a0.name]=some (.bool v1,false):=jht h2
 obtain ⟨v3,h4,h⟩:=qb h
 have wh4:qd pr (X pr) 101 [.bool (!v1),.int .i64 8]=some (.int .i64 v3,false):=jj8 h4
 obtain ⟨v5,h6,h⟩:=qb h
 have wh6:qd pr (X pr) 103 [.list false 3 [.agg [.str a0.kd,.int .i64 a0.pa,.int .i64 a0.pb]]]=some (.int .i64 v5,false):=q0z h6
 obtain ⟨v7,h8,h⟩:=qb h
 have wh8:qd pr (X pr) 40 [.int .i64 a0.sa,.int .i64 0,.int .i64 1]=some (.int .i64 v7,false):=W40 h8
 obtain ⟨v9,h10,h⟩:=qb h
 have wh10:qd pr (X pr) 40 [.int .i64 a0.sb,.int .i64 0,.int .i64 1]=some (.int .i64 v9,false):=W40 h10
 obtain ⟨v11,h12,h⟩:=qb h
 have wh12:qd pr (X pr) 40 [.int .i64 a0.cost,.int .i64 1,.int .i64 1000000]=some (.int .i64 v11,false):=W40 h12
 obtain ⟨v13,h14,h⟩:=qb h
 have wh14:qd pr (X pr) 40 [.int .i64 a0.stock,.int .i64 0,.int .i64 100]=some (.int .i64 v13,false):=W40 h14
 obtain ⟨v15,h16,h⟩:=qb h
 have wh16:qd pr (X pr) 100 [.list false 1 [.int .i64 v3,.int .i64 v5,.int .i64 v7,.int .i64 v9,.int .i64 v11,.int .i64 v13]]=some (.int .i64 v15,false):=q60 h16
 rcases qa h with ⟨h17,h⟩ | ⟨h17,h⟩
 ·obtain ⟨v18,h19,h⟩:=qb h
  have wh19:qd pr (X pr) 104 [.agg [.str a0.name,.str a0.kd,.int .i64 a0.pa,.int .i64 a0.pb,.int .i64 a0.sa,.int .i64 a0.sb,.int .i64 a0.cost,.int .i64 a0.stock]]=some (sl 3 vel v18.1,v18.2):=jiq h19
  obtain ⟨d38,h39,h⟩:=qb h
  rcases d38 with d40 | d41
  ·have wh39:X pr (.loop qg5) ⟨[(4,sl 3 vel v18.1,v18.2),(5,.int .i64 0,false)],[]⟩=some (.ret,⟨[(2,.int .i64 1,false)],[]⟩):=q2o v18 h39
   have hr:1=r:=Option.some.inj h
   subst hr
   refine jn rfl ?_ (fun _=>by first | rfl | simp only [go_sem,seval]) (by first | rfl | simp only [go_sem,seval])
   rw [qj (show pr.fns 20=some c20 from rfl) (by simp)]
   simp only [go_sem,seval,c20,wh2,wh4,wh6,wh8,wh10,wh12,wh14,wh16,h17,wh19,wh39]
   exact ⟨_,rfl⟩
  ·have wh39:X pr (.loop qg5) ⟨[(4,sl 3 vel v18.1,v18.2),(5,.int .i64 0,false)],[]⟩=some (.exit 0,⟨[(4,sl 3 vel v18.1,v18.2),(5,.int .i64 d41,false),(37,.bool false,false)],[]⟩):=q2o v18 h39
   have hr:0=r:=Option.some.inj h
   subst hr
   refine jn rfl ?_ (fun _=>by first | rfl | simp only [go_sem,seval]) (by first | rfl | simp only [go_sem,seval])
   rw [qj (show pr.fns 20=some c20 from rfl) (by simp)]
   simp only [go_sem,seval,c20,wh2,wh4,wh6,wh8,wh10,wh12,wh14,wh16,h17,wh19,wh39]
   exact ⟨_,rfl⟩
 ·have hr:v15=r:=Option.some.inj h
  subst hr
  refine jn rfl ?_ (fun _=>by first | rfl | simp only [go_sem,seval]) (by first | rfl | simp only [go_sem,seval])
  rw [qj (show pr.fns 20=some c20 from rfl) (by simp)]
  simp only [go_sem,seval,c20,wh2,wh4,wh6,wh8,wh10,wh12,wh14,wh16,h17]
  exact ⟨_,rfl⟩
noncomputable def qi7 (a0:Option (List qg)) (s0:Int) (s1:Int):Option (Int ⊕ (Unit ⊕ Int)):=
 cond (decide (s1 < s0))
  (qi (zz (a0.getD []) s1) fun v55=>
  qi (zz (a0.getD []) s0) fun v57=>
  cond (decide (v55.name=v57.name))
   (some (.inr (.inl ())))
   (some (.inl (qk .i64 (s1 + 1)))))
  (some (.inr (.inr s1)))
def qkf (a0:Option (List qg)) (s0:Int) (s1:Int):ASt:=⟨[(0,sl 8 qq a0,false),(3,.int .i64 s0,false),(5,.int .i64 s1,false)],[]⟩
def qod (a0:Option (List qg)) (s0:Int):Unit ⊕ Int→jg × ASt
 | .inl d=>(.ret,⟨[(2,.int .i64 9,false)],[]⟩)
 | .inr d=>(.exit 2,⟨[(0,sl 8 qq a0,false),(3,.int .i64 s0,false),(5,.int .i64 d,false),(25,.bool false,false)],[]⟩)
theorem jdq (a0:Option (List qg)) (s0:Int) (s1:Int) (r) (h:qi7 a0 s0 s1=some r):z6 pr qgl (qkf a0 s0) (qod a0 s0) s1 r:=by
 unfold qi7 at h
 rcases qa h with ⟨h54,h⟩ | ⟨h54,h⟩
 ·obtain ⟨v55,h56,h⟩:=qb h
  obtain ⟨v57,h58,h⟩:=qb h
  rcases qa h with ⟨h59,h⟩ | ⟨h59,h⟩
  ·cases h
   exact qm (by simp only [go_sem,seval,qgl,qkf,h54,jj h56,jj h58,h59,qod] <;> rfl)
  ·cases h
   exact qr (st':=⟨[(0,sl 8 qq a0,false),(3,.int .i64 s0,false),(5,.int .i64 (qk .i64 (s1 + 1)),false)],[]⟩) (by simp only [go_sem,seval,qgl,qkf,h54,jj h56,jj h58,h59] <;> rfl) (qz (Nat.le_refl _))
 ·cases h
  exact qm (by simp only [go_sem,seval,qgl,qkf,h54,qod] <;> rfl)
theorem q20 (a0:Option (List qg)) (s0:Int) {s1:Int} {d} (h:itO (qi7 a0 s0) s1=some d):X pr (.loop qgl) (qkf a0 s0 s1)=some (qod a0 s0 d):=yp (jdq a0 s0) (fun d=>by rcases d with d|d <;> (intro hh; cases hh)) h
noncomputable def qgp (a0:Option (List qg)) (s0:Int):Option (Int ⊕ (Int ⊕ Int)):=
 cond (decide (s0 < ((a0.getD []).length:Int)))
  (qi (zz (a0.getD []) s0) fun v37=>
  qi (f20 v37) fun v39=>
  cond (decide (v39=0))
   (qi (itO (qi7 a0 s0) 0) fun d60=>match d60 with
    | .inl d62=>
     some (.inr (.inl 9))
    | .inr d63=>
     some (.inl (qk .i64 (s0 + 1))))
   (some (.inr (.inl v39))))
  (some (.inr (.inr s0)))
def qin (a0:Option (List qg)) (s0:Int):ASt:=⟨[(0,sl 8 qq a0,false),(3,.int .i64 s0,false)],[]⟩
def qj5 (a0:Option (List qg)):Int ⊕ Int→jg × ASt
 | .inl d=>(.ret,⟨[(2,.int .i64 d,false)],[]⟩)
 | .inr d=>(.exit 0,⟨[(0,sl 8 qq a0,false),(3,.int .i64 d,false),(12,.bool false,false)],[]⟩)
theorem jb4 (a0:Option (List qg)) (s0:Int) (r) (h:qgp a0 s0=some r):z6 pr qff (qin a0) (qj5 a0) s0 r:=by
 unfold qgp at h
 rcases qa h with ⟨h36,h⟩ | ⟨h36,h⟩
 ·obtain ⟨v37,h38,h⟩:=qb h
  obtain ⟨v39,h40,h⟩:=qb h
  have wh40:qd pr (X pr) 20 [.agg [.str v37.name,.str v37.kd,.int .i64 v37.pa,.int .i64 v37.pb,.int .i64 v37.sa,.int .i64 v37.sb,.int .i64 v37.cost,.int .i64 v37.stock]]=some (.int .i64 v39,false):=W20 h40
  rcases qa h with ⟨h41,h⟩ | ⟨h41,h⟩
  ·obtain ⟨d60,h61,h⟩:=qb h
   rcases d60 with d62 | d63
   ·have wh61:X pr (.loop qgl) ⟨[(0,sl 8 qq a0,false),(3,.int .i64 s0,false),(5,.int .i64 0,false)],[]⟩=some (.ret,⟨[(2,.int .i64 9,false)],[]⟩):=q20 a0 s0 h61
    cases h
    exact qm (by simp only [go_sem,seval,qff,qin,h36,jj h38,wh40,h41,wh61,qj5] <;> rfl)
   ·have wh61:X pr (.loop qgl) ⟨[(0,sl 8 qq a0,false),(3,.int .i64 s0,false),(5,.int .i64 0,false)],[]⟩=some (.exit 2,⟨[(0,sl 8 qq a0,false),(3,.int .i64 s0,false),(5,.int .i64 d63,false),(25,.bool false,false)],[]⟩):=q20 a0 s0 h61
    cases h
    exact qr (st':=⟨[(0,sl 8 qq a0,false),(3,.int .i64 (qk .i64 (s0 + 1)),false)],[]⟩) (by simp only [go_sem,seval,qff,qin,h36,jj h38,wh40,h41,wh61] <;> rfl) (qz (Nat.le_refl _))
  ·cases h
   exact qm (by simp only [go_sem,seval,qff,qin,h36,jj h38,wh40,h41,qj5] <;> rfl)
 ·cases h
  exact qm (by simp only [go_sem,seval,qff,qin,h36,qj5] <;> rfl)
theorem q2z (a0:Option (List qg)) {s0:Int} {d} (h:itO (qgp a0) s0=some d):X pr (.loop qff) (qin a0 s0)=some (qj5 a0 d):=yp (jb4 a0) (fun d=>by rcases d with d|d <;> (intro hh; cases hh)) h
noncomputable def f25 (a0:Option (List qg)):Option Int:=
 cond (decide (6 < ((a0.getD []).length:Int)))
  (some 5)
  (qi (itO (qgp a0) 0) fun d64=>match d64 with
   | .inl d66=>
    some d66
   | .inr d67=>
    some 0)
theorem W25 {a0:Option (List qg)} {r} (h:f25 a0=some r):qd pr (X pr) 25 [sl 8 qq a0]=some (.int .i64 r,false):=by
 unfold f25 at h
 rcases qa h with ⟨h1,h⟩ | ⟨h1,h⟩
 ·have hr:5=r:=Option.some.inj h
  subst hr
  refine jn rfl ?_ (fun _=>by first | rfl | simp only [go_sem,seval]) (by first | rfl | simp only [go_sem,seval])
  rw [qj (show pr.fns 25=some c25 from rfl) (by simp)]
  simp only [go_sem,seval,c25,h1]
  exact ⟨_,rfl⟩
 ·obtain ⟨d64,h65,h⟩:=qb h
  rcases d64 with d66 | d67
  ·have wh65:X pr (.loop qff) ⟨[(0,sl 8 qq a0,false),(3,.int .i64 0,false)],[]⟩=some (.ret,⟨[(2,.int .i64 d66,false)],[]⟩):=q2z a0 h65
   have hr:d66=r:=Option.some.inj h
   subst hr
   refine jn rfl ?_ (fun _=>by first | rfl | simp only [go_sem,seval]) (by first | rfl | simp only [go_sem,seval])
   rw [qj (show pr.fns 25=some c25 from rfl) (by simp)]
   simp only [go_sem,seval,c25,h1,wh65]
   exact ⟨_,rfl⟩
  ·have wh65:X pr (.loop qff) ⟨[(0,sl 8 qq a0,false),(3,.int .i64 0,false)],[]⟩=some (.exit 0,⟨[(0,sl 8 qq a0,false),(3,.int .i64 d67,false),(12,.bool false,false)],[]⟩):=q2z a0 h65
   have hr:0=r:=Option.some.inj h
   subst hr
   refine jn rfl ?_ (fun _=>by first | rfl | simp only [go_sem,seval]) (by first | rfl | simp only [go_sem,seval])
   rw [qj (show pr.fns 25=some c25 from rfl) (by simp)]
   simp only [go_sem,seval,c25,h1,wh65]
   exact ⟨_,rfl⟩
noncomputable def qe5 (a0:Option (List qg)) (s0:Int):Option (Int ⊕ (Unit ⊕ Int)):=
 cond (decide (s0 < ((a0.getD []).length:Int)))
  (qi (zz (a0.getD []) s0) fun v14=>
  cond (decide (60 < (v14.name.length:Int)))
   (some (.inr (.inl ())))
   (cond (decide (60 < (v14.kd.length:Int)))
    (some (.inr (.inl ())))
    (some (.inl (qk .i64 (s0 + 1))))))
  (some (.inr (.inr s0)))
def qh4 (a0:Option (List qg)) (s0:Int):ASt:=⟨[(0,sl 8 qq a0,false),(3,.int .i64 s0,false)],[]⟩
def qkn (a0:Option (List qg)):Unit ⊕ Int→jg × ASt
 | .inl d=>(.ret,⟨[(2,.bool false,false)],[]⟩)
 | .inr d=>(.exit 0,⟨[(0,sl 8 qq a0,false),(3,.int .i64 d,false),(15,.bool false,false)],[]⟩)
theorem ja1 (a0:Option (List qg)) (s0:Int) (r) (h:qe5 a0 s0=some r):z6 pr qaz (qh4 a0) (qkn a0) s0 r:=by
 unfold qe5 at h
 rcases qa h with ⟨h13,h⟩ | ⟨h13,h⟩
 ·obtain ⟨v14,h15,h⟩:=qb h
  rcases qa h with ⟨h16,h⟩ | ⟨h16,h⟩
  ·cases h
   exact qm (by simp only [go_sem,seval,qaz,qh4,h13,jj h15,h16,qkn] <;> rfl)
  ·rcases qa h with ⟨h17,h⟩ | ⟨h17,h⟩
   ·cases h
    exact qm (by simp only [go_sem,seval,qaz,qh4,h13,jj h15,h16,h17,qkn] <;> rfl)
   ·cases h
    exact qr (st':=⟨[(0,sl 8 qq a0,false),(3,.int .i64 (qk .i64 (s0 + 1)),false)],[]⟩) (by simp only [go_sem,seval,qaz,qh4,h13,jj h15,h16,h17] <;> rfl) (qz (Nat.le_refl _))
 ·cases h
  exact qm (by simp only [go_sem,seval,qaz,qh4,h13,qkn] <;> rfl)
theorem q2r (a0:Option (List qg)) {s0:Int} {d} (h:itO (qe5 a0) s0=some d):X pr (.loop qaz) (qh4 a0 s0)=some (qkn a0 d):=yp (ja1 a0) (fun d=>by rcases d with d|d <;> (intro hh; cases hh)) h
noncomputable def qkx (a0:Option (List qg)) (s0:Int):Option (Int ⊕ (Unit ⊕ Int)):=
 cond (decide (s0 < ((a0.getD []).length:Int)))
  (qi (zz (a0.getD []) s0) fun v33=>
  cond (decide (60 < (v33.name.length:Int)))
   (some (.inr (.inl ())))
   (cond (decide (60 < (v33.kd.length:Int)))
    (some (.inr (.inl ())))
    (some (.inl (qk .i64 (s0 + 1))))))
  (some (.inr (.inr s0)))
def qfp (a0:Option (List qg)) (s0:Int):ASt:=⟨[(0,sl 8 qq a0,false),(3,.int .i64 s0,false)],[]⟩
def qh6 (a0:Option (List qg)):Unit ⊕ Int→jg × ASt
 | .inl d=>(.ret,⟨[(2,.bool false,false)],[]⟩)
 | .inr d=>(.exit 0,⟨[(0,sl 8 qq a0,false),(3,.int .i64 d,false),(15,.bool false,false)],[]⟩)
theorem q72 (a0:Option (List qg)) (s0:Int) (r) (h:qkx a0 s0=some r):z6 pr qaz (qfp a0) (qh6 a0) s0 r:=by
 unfold qkx at h
 rcases qa h with ⟨h32,h⟩ | ⟨h32,h⟩
 ·obtain ⟨v33,h34,h⟩:=qb h
  rcases qa h with ⟨h35,h⟩ | ⟨h35,h⟩
  ·cases h
   exact qm (by simp only [go_sem,seval,qaz,qfp,h32,jj h34,h35,qh6] <;> rfl)
  ·rcases qa h with ⟨h36,h⟩ | ⟨h36,h⟩
   ·cases h
    exact qm (by simp only [go_sem,seval,qaz,qfp,h32,jj h34,h35,h36,qh6] <;> rfl)
   ·cases h
    exact qr (st':=⟨[(0,sl 8 qq a0,false),(3,.int .i64 (qk .i64 (s0 + 1)),false)],[]⟩) (by simp only [go_sem,seval,qaz,qfp,h32,jj h34,h35,h36] <;> rfl) (qz (Nat.le_refl _))
 ·cases h
  exact qm (by simp only [go_sem,seval,qaz,qfp,h32,qh6] <;> rfl)
theorem qyq (a0:Option (List qg)) {s0:Int} {d} (h:itO (qkx a0) s0=some d):X pr (.loop qaz) (qfp a0 s0)=some (qh6 a0 d):=yp (q72 a0) (fun d=>by rcases d with d|d <;> (intro hh; cases hh)) h
noncomputable def f17 (a0:Option (List qg)):Option Bool:=
 cond (decide (4 < ((a0.getD []).length:Int)))
  (cond (decide (((a0.getD []).length:Int)=7))
   (qi (itO (qe5 a0) 0) fun d18=>match d18 with
    | .inl d20=>
     some false
    | .inr d21=>
     some true)
   (some false))
  (qi (itO (qkx a0) 0) fun d37=>match d37 with
   | .inl d39=>
    some false
   | .inr d40=>
    some true)
theorem W17 {a0:Option (List qg)} {r} (h:f17 a0=some r):qd pr (X pr) 17 [sl 8 qq a0]=some (.bool r,false):=by
 unfold f17 at h
 rcases qa h with ⟨h1,h⟩ | ⟨h1,h⟩
 ·rcases qa h with ⟨h2,h⟩ | ⟨h2,h⟩
  ·obtain ⟨d18,h19,h⟩:=qb h
   rcases d18 with d20 | d21
   ·have wh19:X pr (.loop qaz) ⟨[(0,sl 8 qq a0,false),(3,.int .i64 0,false)],[]⟩=some (.ret,⟨[(2,.bool false,false)],[]⟩):=q2r a0 h19
    have hr:false=r:=Option.some.inj h
    subst hr
    refine jn rfl ?_ (fun _=>by first | rfl | simp only [go_sem,seval]) (by first | rfl | simp only [go_sem,seval])
    rw [qj (show pr.fns 17=some c17 from rfl) (by simp)]
    simp only [go_sem,seval,c17,h1,h2,wh19]
    exact ⟨_,rfl⟩
   ·have wh19:X pr (.loop qaz) ⟨[(0,sl 8 qq a0,false),(3,.int .i64 0,false)],[]⟩=some (.exit 0,⟨[(0,sl 8 qq a0,false),(3,.int .i64 d21,false),(15,.bool false,false)],[]⟩):=q2r a0 h19
    have hr:true=r:=Option.some.inj h
    subst hr
    refine jn rfl ?_ (fun _=>by first | rfl | simp only [go_sem,seval]) (by first | rfl | simp only [go_sem,seval])
    rw [qj (show pr.fns 17=some c17 from rfl) (by simp)]
    simp only [go_sem,seval,c17,h1,h2,wh19]
    exact ⟨_,rfl⟩
  ·have hr:false=r:=Option.some.inj h
   subst hr
   refine jn rfl ?_ (fun _=>by first | rfl | simp only [go_sem,seval]) (by first | rfl | simp only [go_sem,seval])
   rw [qj (show pr.fns 17=some c17 from rfl) (by simp)]
   simp only [go_sem,seval,c17,h1,h2]
   exact ⟨_,rfl⟩
 ·obtain ⟨d37,h38,h⟩:=qb h
  rcases d37 with d39 | d40
  ·have wh38:X pr (.loop qaz) ⟨[(0,sl 8 qq a0,false),(3,.int .i64 0,false)],[]⟩=some (.ret,⟨[(2,.bool false,false)],[]⟩):=qyq a0 h38
   have hr:false=r:=Option.some.inj h
   subst hr
   refine jn rfl ?_ (fun _=>by first | rfl | simp only [go_sem,seval]) (by first | rfl | simp only [go_sem,seval])
   rw [qj (show pr.fns 17=some c17 from rfl) (by simp)]
   simp only [go_sem,seval,c17,h1,wh38]
   exact ⟨_,rfl⟩
  ·have wh38:X pr (.loop qaz) ⟨[(0,sl 8 qq a0,false),(3,.int .i64 0,false)],[]⟩=some (.exit 0,⟨[(0,sl 8 qq a0,false),(3,.int .i64 d40,false),(15,.bool false,false)],[]⟩):=qyq a0 h38
   have hr:true=r:=Option.some.inj h
   subst hr
   refine jn rfl ?_ (fun _=>by first | rfl | simp only [go_sem,seval]) (by first | rfl | simp only [go_sem,seval])
   rw [qj (show pr.fns 17=some c17 from rfl) (by simp)]
   simp only [go_sem,seval,c17,h1,wh38]
   exact ⟨_,rfl⟩
noncomputable def f19 (a0:qg):Option qg:=
 some a0
theorem W19 {a0:qg} {r} (h:f19 a0=some r):qd pr (X pr) 19 [.agg [.str a0.name,.str a0.kd,.int .i64 a0.pa,.int .i64 a0.pb,.int .i64 a0.sa,.int .i64 a0.sb,.int .i64 a0.cost,.int .i64 a0.stock]]=some (.agg [.str r.name,.str r.kd,.int .i64 r.pa,.int .i64 r.pb,.int .i64 r.sa,.int .i64 r.sb,.int .i64 r.cost,.int .i64 r.stock],false):=by
 unfold f19 at h
 have hr:a0=r:=Option.some.inj h
 subst hr
 refine jn rfl ?_ (fun _=>by first | rfl | simp only [go_sem,seval]) (by first | rfl | simp only [go_sem,seval])
 rw [qj (show pr.fns 19=some c19 from rfl) (by simp)]
 simp only [go_sem,seval,c19]
 exact ⟨_,rfl⟩
noncomputable def qiz (a0:Option (List qg)) (s0:(Option (List qg)) × Int × Bool):Option (((Option (List qg)) × Int × Bool) ⊕ (((Option (List qg)) × Bool × Int))):=
 cond (decide (s0.2.1 < ((a0.getD []).length:Int)))
  (qi (zz (a0.getD []) s0.2.1) fun v18=>
  qi (f19 v18) fun v20=>
  cond s0.2.2
   (qi (apO s0.1 [v20]) fun v23=>
   some (.inl (v23,qk .i64 (s0.2.1 + 1),true)))
   (cond s0.1.isNone
    (qi (apO s0.1 [v20]) fun v26=>
    some (.inl (v26,qk .i64 (s0.2.1 + 1),true)))
    (none)))
  (some (.inr (s0.1,s0.2.2,s0.2.1)))
def qdc (a0:Option (List qg)) (s0:(Option (List qg)) × Int × Bool):ASt:=⟨[(3,sl 8 qq s0.1,s0.2.2),(6,sl 8 qq a0,false),(7,.int .i64 ((a0.getD []).length:Int),false),(8,.int .i64 s0.2.1,false)],[]⟩
def qsm (a0:Option (List qg)) (d:((Option (List qg)) × Bool × Int)):jg × ASt:=(.exit 0,⟨[(3,sl 8 qq d.1,d.2.1),(6,sl 8 qq a0,false),(7,.int .i64 ((a0.getD []).length:Int),false),(8,.int .i64 d.2.2,false),(9,.bool false,false)],[]⟩)
theorem jbz (a0:Option (List qg)) (s0:(Option (List qg)) × Int × Bool) (r) (h:qiz a0 s0=some r):z6 pr qjb (qdc a0) (qsm a0) s0 r:=by
 unfold qiz at h
 rcases qa h with ⟨h17,h⟩ | ⟨h17,h⟩
 ·obtain ⟨v18,h19,h⟩:=qb h
  obtain ⟨v20,h21,h⟩:=qb h
  have wh21:qd pr (X pr) 19 [.agg [.str v18.name,.str v18.kd,.int .i64 v18.pa,.int .i64 v18.pb,.int .i64 v18.sa,.int .i64 v18.sb,.int .i64 v18.cost,.int .i64 v18.stock]]=some (.agg [.str v20.name,.str v20.kd,.int .i64 v20.pa,.int .i64 v20.pb,.int .i64 v20.sa,.int .i64 v20.sb,.int .i64 v20.cost,.int .i64 v20.stock],false):=W19 h21
  rcases qa h with ⟨h22,h⟩ | ⟨h22,h⟩
  ·obtain ⟨v23,h24,h⟩:=qb h
   cases h
   exact qr (st':=⟨[(3,sl 8 qq v23,true),(6,sl 8 qq a0,false),(7,.int .i64 ((a0.getD []).length:Int),false),(8,.int .i64 (qk .i64 (s0.2.1 + 1)),false)],[]++[.cells [(.str v18.name,false),(.str v18.kd,false),(.int .i64 v18.pa,false),(.int .i64 v18.pb,false),(.int .i64 v18.sa,false),(.int .i64 v18.sb,false),(.int .i64 v18.cost,false),(.int .i64 v18.stock,false)]]⟩) (by simp only [go_sem,seval,qjb,qdc,h17,jj h19,wh21,h22,qhp h24] <;> rfl) (kz rfl rfl (by first | simp only [go_sem,seval,qdc] | rfl) (by first | simp only [go_sem,seval,qdc] | rfl))
  ·rcases qa h with ⟨h25,h⟩ | ⟨h25,h⟩
   ·obtain ⟨v26,h27,h⟩:=qb h
    cases h
    exact qr (st':=⟨[(3,sl 8 qq v26,true),(6,sl 8 qq a0,false),(7,.int .i64 ((a0.getD []).length:Int),false),(8,.int .i64 (qk .i64 (s0.2.1 + 1)),false)],[]++[.cells [(.str v18.name,false),(.str v18.kd,false),(.int .i64 v18.pa,false),(.int .i64 v18.pb,false),(.int .i64 v18.sa,false),(.int .i64 v18.sb,false),(.int .i64 v18.cost,false),(.int .i64 v18.stock,false)]]⟩) (by simp only [go_sem,seval,qjb,qdc,h17,jj h19,wh21,h22,h25,qhb h27 h25] <;> rfl) (kz rfl rfl (by first | simp only [go_sem,seval,qdc] | rfl) (by first | simp only [go_sem,seval,qdc] | rfl))
   ·cases h
 ·cases h
  exact qm (by simp only [go_sem,seval,qjb,qdc,h17,qsm] <;> rfl)
theorem jec (a0:Option (List qg)) {s0:(Option (List qg)) × Int × Bool} {d} (h:itO (qiz a0) s0=some d):X pr (.loop qjb) (qdc a0 s0)=some (qsm a0 d):=yp (jbz a0) (fun d hh=>by cases hh) h
noncomputable def f24 (a0:Option (List qg)):Option ((Option (List qg)) × Bool):=
 qi (itO (qiz a0) (none,0,false)) fun d28=>
 some (d28.1,d28.2.1)
theorem W24 {a0:Option (List qg)} {r} (h:f24 a0=some r):qd pr (X pr) 24 [sl 8 qq a0]=some (sl 8 qq r.1,r.2):=by
 unfold f24 at h
 obtain ⟨d28,h29,h⟩:=qb h
 have wh29:X pr (.loop qjb) ⟨[(3,.list true 0 [],false),(6,sl 8 qq a0,false),(7,.int .i64 ((a0.getD []).length:Int),false),(8,.int .i64 0,false)],[]⟩=some (.exit 0,⟨[(3,sl 8 qq d28.1,d28.2.1),(6,sl 8 qq a0,false),(7,.int .i64 ((a0.getD []).length:Int),false),(8,.int .i64 d28.2.2,false),(9,.bool false,false)],[]⟩):=jec a0 h29
 have hr:(d28.1,d28.2.1)=r:=Option.some.inj h
 subst hr
 have this:∃ hh,jc pr (X pr) 24 [sl 8 qq a0] []=some (sl 8 qq d28.1,d28.2.1,hh):=by
  rw [qj (show pr.fns 24=some c24 from rfl) (by simp)]
  simp only [go_sem,seval,c24,wh29]
  exact ⟨_,rfl⟩
 obtain ⟨hh,this⟩:=this
 exact zr rfl this (by first | rfl | simp only [go_sem,seval]) (by first | rfl | simp only [go_sem,seval]) (by first | rfl | simp only [go_sem,seval])
end Go.Z
