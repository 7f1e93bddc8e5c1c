/- The structs of chapter 10 and their cells; what they are in plain lists. -/
import Derived.Test.YtfopaakmgogpiaaGreatDoorG0
import Derived.Test.YtfopaakmgogpiaaGreatDoorAbsL
import Derived.Test.YtfopaakmgogpiaaGreatDoorWS
import Derived.Test.YtfopaakmgogpiaaGreatDoorL1
import Derived.Test.YtfopaakmgogpiaaGreatDoorZC
import Derived.Test.YtfopaakmgogpiaaGreatDoorAbsH
set_option linter.unusedVariables false
set_option linter.unusedSimpArgs false
set_option maxRecDepth 100000
namespace Go.Z
open Go Go.Abs Go.W
def vsi (p:qm):qa:=.agg [.str p.k,.int .i64 p.n]
@[go_sem] theorem j9n {p:qm}:(vsi p).flat=[.str p.k,.int .i64 p.n]:=rfl
@[go_sem] theorem q9x {n:Nat}(p:qm):below n (vsi p)=true:=by rfl
@[go_sem] theorem jy3 {n z:Nat}{l:Option (List qm)}:below n (sl z vsi l)=true:=qev q9x
@[go_sem] theorem j6k {p:qm}:qa.vptr (vsi p)=.vptr (.agg [.str p.k,.int .i64 p.n]):=rfl
theorem qc5 {b t:Nat}{h:zb}{bb:Bool}{p:qm}{o v:Option (List qm)}(hv:apO o [p]=some v):appR 2 b h (some t) (some (sl 2 vsi o)) (some (.list bb 2 [.agg [.str p.k,.int .i64 p.n]]))=ifR (decide (b≤4096)) (some ⟨sl 2 vsi v,true,some t,h⟩):=qhn (x:=p) (by omega) rfl hv
theorem qc4 {b:Nat}{h:zb}{bb:Bool}{p:qm}{o v:Option (List qm)}(hv:apO o [p]=some v)(hn:o.isNone=true):appR 2 b h none (some (sl 2 vsi o)) (some (.list bb 2 [.agg [.str p.k,.int .i64 p.n]]))=ifR (decide (b≤4096)) (some ⟨sl 2 vsi v,true,none,h⟩):=qgr (x:=p) (by omega) rfl hn hv
def zp (p:qi):qa:=.agg [.str p.k,.int .i64 p.a,.int .i64 p.b]
@[go_sem] theorem j0a {p:qi}:(zp p).flat=[.str p.k,.int .i64 p.a,.int .i64 p.b]:=rfl
@[go_sem] theorem q7x {n:Nat}(p:qi):below n (zp p)=true:=by rfl
@[go_sem] theorem jpy {n z:Nat}{l:Option (List qi)}:below n (sl z zp l)=true:=qev q7x
@[go_sem] theorem jbs {p:qi}:qa.vptr (zp p)=.vptr (.agg [.str p.k,.int .i64 p.a,.int .i64 p.b]):=rfl
theorem qdv {b t:Nat}{h:zb}{bb:Bool}{p:qi}{o v:Option (List qi)}(hv:apO o [p]=some v):appR 3 b h (some t) (some (sl 3 zp o)) (some (.list bb 3 [.agg [.str p.k,.int .i64 p.a,.int .i64 p.b]]))=ifR (decide (b≤4096)) (some ⟨sl 3 zp v,true,some t,h⟩):=qhn (x:=p) (by omega) rfl hv
theorem qee {b:Nat}{h:zb}{bb:Bool}{p:qi}{o v:Option (List qi)}(hv:apO o [p]=some v)(hn:o.isNone=true):appR 3 b h none (some (sl 3 zp o)) (some (.list bb 3 [.agg [.str p.k,.int .i64 p.a,.int .i64 p.b]]))=ifR (decide (b≤4096)) (some ⟨sl 3 zp v,true,none,h⟩):=qgr (x:=p) (by omega) rfl hn hv
def zg (p:qj):qa:=.agg [.str p.name,.str p.kind,.int .i64 p.count,.int .i64 p.left,.bool p.held]
@[go_sem] theorem j1g {p:qj}:(zg p).flat=[.str p.name,.str p.kind,.int .i64 p.count,.int .i64 p.left,.bool p.held]:=rfl
@[go_sem] theorem q8e {n:Nat}(p:qj):below n (zg p)=true:=by rfl
@[go_sem] theorem jpz {n z:Nat}{l:Option (List qj)}:below n (sl z zg l)=true:=qev q8e
@[go_sem] theorem q0r {p:qj}:qa.vptr (zg p)=.vptr (.agg [.str p.name,.str p.kind,.int .i64 p.count,.int .i64 p.left,.bool p.held]):=rfl
theorem qih {b t:Nat}{h:zb}{bb:Bool}{p:qj}{o v:Option (List qj)}(hv:apO o [p]=some v):appR 5 b h (some t) (some (sl 5 zg o)) (some (.list bb 5 [.agg [.str p.name,.str p.kind,.int .i64 p.count,.int .i64 p.left,.bool p.held]]))=ifR (decide (b≤4096)) (some ⟨sl 5 zg v,true,some t,h⟩):=qhn (x:=p) (by omega) rfl hv
theorem qlh {b:Nat}{h:zb}{bb:Bool}{p:qj}{o v:Option (List qj)}(hv:apO o [p]=some v)(hn:o.isNone=true):appR 5 b h none (some (sl 5 zg o)) (some (.list bb 5 [.agg [.str p.name,.str p.kind,.int .i64 p.count,.int .i64 p.left,.bool p.held]]))=ifR (decide (b≤4096)) (some ⟨sl 5 zg v,true,none,h⟩):=qgr (x:=p) (by omega) rfl hn hv
structure qq where
 needs:Option (List qm)
 tests:Option (List qi)
def qbi (p:qq):qa:=.agg [sl 2 vsi p.needs,sl 3 zp p.tests]
@[go_sem] theorem j0w {p:qq}:(qbi p).flat=[sl 2 vsi p.needs,sl 3 zp p.tests]:=rfl
@[go_sem] theorem q61 {n:Nat}(p:qq):below n (qbi p)=true:=by simp only[qbi,go_sem]
@[go_sem] theorem jpm {n z:Nat}{l:Option (List qq)}:below n (sl z qbi l)=true:=qev q61
@[go_sem] theorem j2c {p:qq}:qa.vptr (qbi p)=.vptr (.agg [sl 2 vsi p.needs,sl 3 zp p.tests]):=rfl
theorem qq4 {b t:Nat}{h:zb}{bb:Bool}{p:qq}{o v:Option (List qq)}(hv:apO o [p]=some v):appR 2 b h (some t) (some (sl 2 qbi o)) (some (.list bb 2 [.agg [sl 2 vsi p.needs,sl 3 zp p.tests]]))=ifR (decide (b≤4096)) (some ⟨sl 2 qbi v,true,some t,h⟩):=qhn (x:=p) (by omega) rfl hv
theorem qxw {b:Nat}{h:zb}{bb:Bool}{p:qq}{o v:Option (List qq)}(hv:apO o [p]=some v)(hn:o.isNone=true):appR 2 b h none (some (sl 2 qbi o)) (some (.list bb 2 [.agg [sl 2 vsi p.needs,sl 3 zp p.tests]]))=ifR (decide (b≤4096)) (some ⟨sl 2 qbi v,true,none,h⟩):=qgr (x:=p) (by omega) rfl hn hv
structure qk where
 name:List UInt8
 dn:Option (List qm)
 dt:Option (List qi)
 docs:Option (List qq)
def za (p:qk):qa:=.agg [.str p.name,sl 2 vsi p.dn,sl 3 zp p.dt,sl 2 qbi p.docs]
@[go_sem] theorem q9e {p:qk}:(za p).flat=[.str p.name,sl 2 vsi p.dn,sl 3 zp p.dt,sl 2 qbi p.docs]:=rfl
@[go_sem] theorem q5m {n:Nat}(p:qk):below n (za p)=true:=by simp only[za,go_sem]
@[go_sem] theorem jkw {n z:Nat}{l:Option (List qk)}:below n (sl z za l)=true:=qev q5m
@[go_sem] theorem jtx {p:qk}:qa.vptr (za p)=.vptr (.agg [.str p.name,sl 2 vsi p.dn,sl 3 zp p.dt,sl 2 qbi p.docs]):=rfl
theorem qob {b t:Nat}{h:zb}{bb:Bool}{p:qk}{o v:Option (List qk)}(hv:apO o [p]=some v):appR 4 b h (some t) (some (sl 4 za o)) (some (.list bb 4 [.agg [.str p.name,sl 2 vsi p.dn,sl 3 zp p.dt,sl 2 qbi p.docs]]))=ifR (decide (b≤4096)) (some ⟨sl 4 za v,true,some t,h⟩):=qhn (x:=p) (by omega) rfl hv
theorem qu5 {b:Nat}{h:zb}{bb:Bool}{p:qk}{o v:Option (List qk)}(hv:apO o [p]=some v)(hn:o.isNone=true):appR 4 b h none (some (sl 4 za o)) (some (.list bb 4 [.agg [.str p.name,sl 2 vsi p.dn,sl 3 zp p.dt,sl 2 qbi p.docs]]))=ifR (decide (b≤4096)) (some ⟨sl 4 za v,true,none,h⟩):=qgr (x:=p) (by omega) rfl hn hv
structure qe where
 name:List UInt8
 product:List UInt8
 version:Int
 uses:Option (List qm)
 results:Option (List qi)
 partner:List UInt8
 shipped:Bool
 complaints:Int
def vun (p:qe):qa:=.agg [.str p.name,.str p.product,.int .i64 p.version,sl 2 vsi p.uses,sl 3 zp p.results,.str p.partner,.bool p.shipped,.int .i64 p.complaints]
@[go_sem] theorem jdo {p:qe}:(vun p).flat=[.str p.name,.str p.product,.int .i64 p.version,sl 2 vsi p.uses,sl 3 zp p.results,.str p.partner,.bool p.shipped,.int .i64 p.complaints]:=rfl
@[go_sem] theorem ja1 {n:Nat}(p:qe):below n (vun p)=true:=by simp only[vun,go_sem]
@[go_sem] theorem juq {n z:Nat}{l:Option (List qe)}:below n (sl z vun l)=true:=qev ja1
@[go_sem] theorem j4a {p:qe}:qa.vptr (vun p)=.vptr (.agg [.str p.name,.str p.product,.int .i64 p.version,sl 2 vsi p.uses,sl 3 zp p.results,.str p.partner,.bool p.shipped,.int .i64 p.complaints]):=rfl
theorem qss {b t:Nat}{h:zb}{bb:Bool}{p:qe}{o v:Option (List qe)}(hv:apO o [p]=some v):appR 8 b h (some t) (some (sl 8 vun o)) (some (.list bb 8 [.agg [.str p.name,.str p.product,.int .i64 p.version,sl 2 vsi p.uses,sl 3 zp p.results,.str p.partner,.bool p.shipped,.int .i64 p.complaints]]))=ifR (decide (b≤4096)) (some ⟨sl 8 vun v,true,some t,h⟩):=qhn (x:=p) (by omega) rfl hv
theorem qz4 {b:Nat}{h:zb}{bb:Bool}{p:qe}{o v:Option (List qe)}(hv:apO o [p]=some v)(hn:o.isNone=true):appR 8 b h none (some (sl 8 vun o)) (some (.list bb 8 [.agg [.str p.name,.str p.product,.int .i64 p.version,sl 2 vsi p.uses,sl 3 zp p.results,.str p.partner,.bool p.shipped,.int .i64 p.complaints]]))=ifR (decide (b≤4096)) (some ⟨sl 8 vun v,true,none,h⟩):=qgr (x:=p) (by omega) rfl hn hv
structure qc where
 day:Int
 lots:Option (List qj)
 products:Option (List qk)
 units:Option (List qe)
def yr (p:qc):qa:=.agg [.int .i64 p.day,sl 5 zg p.lots,sl 4 za p.products,sl 8 vun p.units]
@[go_sem] theorem j1u {p:qc}:(yr p).flat=[.int .i64 p.day,sl 5 zg p.lots,sl 4 za p.products,sl 8 vun p.units]:=rfl
@[go_sem] theorem q8l {n:Nat}(p:qc):below n (yr p)=true:=by simp only[yr,go_sem]
@[go_sem] theorem jp5 {n z:Nat}{l:Option (List qc)}:below n (sl z yr l)=true:=qev q8l
@[go_sem] theorem j1k {p:qc}:qa.vptr (yr p)=.vptr (.agg [.int .i64 p.day,sl 5 zg p.lots,sl 4 za p.products,sl 8 vun p.units]):=rfl
theorem q7i {b t:Nat}{h:zb}{bb:Bool}{p:qc}{o v:Option (List qc)}(hv:apO o [p]=some v):appR 4 b h (some t) (some (sl 4 yr o)) (some (.list bb 4 [.agg [.int .i64 p.day,sl 5 zg p.lots,sl 4 za p.products,sl 8 vun p.units]]))=ifR (decide (b≤4096)) (some ⟨sl 4 yr v,true,some t,h⟩):=qhn (x:=p) (by omega) rfl hv
structure ql where
 number:Int
 kind:List UInt8
 names:Option (List (List UInt8))
 values:Option (List Int)
 text:List UInt8
def vev (p:ql):qa:=.agg [.int .i64 p.number,.str p.kind,sl 1 yc p.names,sl 1 yb p.values,.str p.text]
@[go_sem] theorem zbc {p:ql}:(vev p).flat=[.int .i64 p.number,.str p.kind,sl 1 yc p.names,sl 1 yb p.values,.str p.text]:=rfl
@[go_sem] theorem q96 {n:Nat}(p:ql):below n (vev p)=true:=by simp only[vev,go_sem]
@[go_sem] theorem jw1 {n z:Nat}{l:Option (List ql)}:below n (sl z vev l)=true:=qev q96
@[go_sem] theorem j4d {p:ql}:qa.vptr (vev p)=.vptr (.agg [.int .i64 p.number,.str p.kind,sl 1 yc p.names,sl 1 yb p.values,.str p.text]):=rfl
theorem q0q {b t:Nat}{h:zb}{bb:Bool}{p:ql}{o v:Option (List ql)}(hv:apO o [p]=some v):appR 5 b h (some t) (some (sl 5 vev o)) (some (.list bb 5 [.agg [.int .i64 p.number,.str p.kind,sl 1 yc p.names,sl 1 yb p.values,.str p.text]]))=ifR (decide (b≤4096)) (some ⟨sl 5 vev v,true,some t,h⟩):=qhn (x:=p) (by omega) rfl hv
def qq.er (d:qq):jf:=⟨d.needs.getD [],d.tests.getD []⟩
def qk.er (p:qk):jd:=⟨p.name,⟨p.dn.getD [],p.dt.getD []⟩,(p.docs.getD []).map qq.er⟩
def qe.er (u:qe):qz:=⟨u.name,u.product,u.version,u.uses.getD [],u.results.getD [],u.partner,u.shipped,u.complaints⟩
def qc.er (r:qc):qv:=⟨r.day,r.lots.getD [],(r.products.getD []).map qk.er,(r.units.getD []).map qe.er⟩
def ql.er (e:ql):jg:=⟨e.number,e.kind,e.names.getD [],e.values.getD [],e.text⟩
theorem qmu {hh:zb}:∀ {xs:List qa},z8 0 xs=true→qch hh xs=some xs
 | [],_=>rfl
 |x::xs,h=>by
  simp only[z8,Bool.and_eq_true]at h
  have hx:qbd hh x=some x:=by
   cases x with
   |ms b o n=>simp[Abs.below,Nat.blt]at h
   |_=>rfl
  simp only[qch,hx,qmu h.2]
theorem jm7 {hh:zb}{x:qa}(h:Abs.below 0 x=true):qbd hh x=some x:=by
 cases x with
 |ms b o n=>simp[Abs.below,Nat.blt]at h
 |_=>rfl
theorem qsi {hh:zb}:∀ {xs:List qa},z8 0 xs=true→freezeR.freezeT hh xs=some xs
 | [],_=>rfl
 |x::xs,h=>by
  simp only[z8,Bool.and_eq_true]at h
  have ih:=qsi (hh:=hh) h.2
  cases x with
  |agg cs=>
   have h1:=h.1
   simp only[Abs.below]at h1
   simp only[freezeR.freezeT,qmu h1,ih]
  |ms b o n=>simp[Abs.below,Nat.blt]at h
  |_=>simp only[freezeR.freezeT,qbd,ih]
theorem qr3 {hh:zb}{x:qa}(h:Abs.below 0 x=true):freezeR hh x=some x:=by
 cases x with
 |agg cs=>
  simp only[Abs.below]at h
  simp only[freezeR,qmu h]
 |tup vs=>
  simp only[Abs.below]at h
  simp only[freezeR,qsi h]
 |ms b o n=>simp[Abs.below,Nat.blt]at h
 |_=>rfl
theorem zk {p:qu}{k:Nat}(f:qd){args:List qa}{v:qa}(hc:∃hh,qyy f.results (X p f.body ⟨qe9 0 args,[]⟩)=some (v,false,hh))(hp:p.prims k=none:=by rfl)(hf:p.fns k=some f:=by rfl)(hl:Nat.ble args.length f.ntmps=true:=by rfl)(hv:below 0 v=true:=by first|rfl|simp only[go_sem,seval]):j6 p (X p) k args=some (v,false):=by
 obtain⟨hh,hc⟩:=hc
 cases f with
 |mk n b r=>exact qbj hp (by rw[zc hf (Nat.le_of_ble_eq_true hl)];exact hc) (qr3 hv) hv
theorem ki {p:qu}{k:Nat}(f:qd){args:List qa}{v:qa}{o:Bool}(hc:∃hh,qyy f.results (X p f.body ⟨qe9 0 args,[]⟩)=some (v,o,hh))(hp:p.prims k=none:=by rfl)(hf:p.fns k=some f:=by rfl)(hn:Nat.ble args.length f.ntmps=true:=by rfl)(hv:below 0 v=true:=by first|rfl|simp only[go_sem,seval])(hl:v.isList=true:=by first|rfl|simp only[go_sem,seval]):j6 p (X p) k args=some (v,o):=by
 obtain⟨hh,hc⟩:=hc
 cases f with
 |mk n b r=>exact qzc hp (by rw[zc hf (Nat.le_of_ble_eq_true hn)];exact hc) (qr3 hv) hv hl
theorem oi {α:Type}{a b:α}(h:some a=some b):a=b:=Option.some.inj h
theorem zq {σ δ:Type}{p:qu}{c:qh}{St:σ→qg}{Ex:δ→qn×qg}{s s':σ}(h:X p c (St s)=some (.normal,St s'))(hl:(St s').heap.length≤(St s).heap.length:=by exact Nat.le_refl _):y6 p c St Ex s (.inl s'):=qfr h (qjf hl)
theorem qoz {σ δ:Type}{p:qu}{c:qh}{St:σ→qg}{Ex:δ→qn×qg}{s s':σ}(h:∃t,X p c (St s)=some (.normal,⟨(St s').env,(St s').heap++t⟩))(hn:(St s).heap.length=(St s').heap.length)(h1:qce (St s).heap.length (St s').env=true)(h2:ky (St s).heap.length (St s').heap=true):y6 p c St Ex s (.inl s'):=by
 obtain⟨t,h⟩:=h
 exact qfr h (jik hn rfl h1 h2)
abbrev TI:=Option (List Int)
abbrev TTI:=Option (List TI)
theorem qd8 {α:Type}{z:Nat}{f:α→qa}:sl z f none=.list true 0 []:=rfl
abbrev Iv (n:Int):qa:=.int .i64 n
abbrev Lv {α:Type}(o:Option (List α)):qa:=.int .i64 ((o.getD []).length:Int)
@[go_sem] theorem jra {n:Nat}{v:qa}:below n (.vptr v)=below n v:=rfl
structure ji where
 names:Int
 values:Int
 known:Bool
theorem jx7 {a0 b0:List UInt8}{a1 b1:Int}:qal [.str,.int] [.str a0,.int .i64 a1] [.str b0,.int .i64 b1]=some (decide (a0=b0)&&decide (a1=b1)):=by
 have e:∀x y:Int,(x == y)=decide (x=y):=fun x y=>by by_cases h:x=y<;>simp[h]
 have e':∀x y:List UInt8,(x == y)=decide (x=y):=fun x y=>by by_cases h:x=y<;>simp[h]
 have e2:∀x y:Bool,(x == y)=decide (x=y):=fun x y=>by cases x<;>cases y<;>rfl
 simp only[qal,qc7,e,e',e2,decide_true,cT]
 by_cases h0:a0=b0<;>by_cases h1:a1=b1<;>simp[h0,h1]
@[go_sem] theorem zcq {h:zb}{a0 b0:List UInt8}{a1 b1:Int}:q3f [.str,.int] true h (some (.agg [.str a0,.int .i64 a1])) (some (.agg [.str b0,.int .i64 b1]))=some ⟨.bool (!(decide (a0=b0)&&decide (a1=b1))),false,none,h⟩:=by
 show(match qal [.str,.int] [.str a0,.int .i64 a1] [.str b0,.int .i64 b1]with|some t=>val h (.bool (bif true then !t else t))|none=>none)=_
 rw[jx7]
 rfl
theorem jl6 {a0 b0:List UInt8}{a1 b1:Int}{a2 b2:Int}:qal [.str,.int,.int] [.str a0,.int .i64 a1,.int .i64 a2] [.str b0,.int .i64 b1,.int .i64 b2]=some (decide (a0=b0)&&decide (a1=b1)&&decide (a2=b2)):=by
 have e:∀x y:Int,(x == y)=decide (x=y):=fun x y=>by by_cases h:x=y<;>simp[h]
 have e':∀x y:List UInt8,(x == y)=decide (x=y):=fun x y=>by by_cases h:x=y<;>simp[h]
 have e2:∀x y:Bool,(x == y)=decide (x=y):=fun x y=>by cases x<;>cases y<;>rfl
 simp only[qal,qc7,e,e',e2,decide_true,cT]
 by_cases h0:a0=b0<;>by_cases h1:a1=b1<;>by_cases h2:a2=b2<;>simp[h0,h1,h2]
@[go_sem] theorem zbp {h:zb}{a0 b0:List UInt8}{a1 b1:Int}{a2 b2:Int}:q3f [.str,.int,.int] true h (some (.agg [.str a0,.int .i64 a1,.int .i64 a2])) (some (.agg [.str b0,.int .i64 b1,.int .i64 b2]))=some ⟨.bool (!(decide (a0=b0)&&decide (a1=b1)&&decide (a2=b2))),false,none,h⟩:=by
 show(match qal [.str,.int,.int] [.str a0,.int .i64 a1,.int .i64 a2] [.str b0,.int .i64 b1,.int .i64 b2]with|some t=>val h (.bool (bif true then !t else t))|none=>none)=_
 rw[jl6]
 rfl
theorem jy8 {a0 b0:List UInt8}{a1 b1:List UInt8}{a2 b2:Int}{a3 b3:Int}{a4 b4:Bool}:qal [.str,.str,.int,.int,.bool] [.str a0,.str a1,.int .i64 a2,.int .i64 a3,.bool a4] [.str b0,.str b1,.int .i64 b2,.int .i64 b3,.bool b4]=some (decide (a0=b0)&&decide (a1=b1)&&decide (a2=b2)&&decide (a3=b3)&&decide (a4=b4)):=by
 have e:∀x y:Int,(x == y)=decide (x=y):=fun x y=>by by_cases h:x=y<;>simp[h]
 have e':∀x y:List UInt8,(x == y)=decide (x=y):=fun x y=>by by_cases h:x=y<;>simp[h]
 have e2:∀x y:Bool,(x == y)=decide (x=y):=fun x y=>by cases x<;>cases y<;>rfl
 simp only[qal,qc7,e,e',e2,decide_true,cT]
 by_cases h0:a0=b0<;>by_cases h1:a1=b1<;>by_cases h2:a2=b2<;>by_cases h3:a3=b3<;>by_cases h4:a4=b4<;>simp[h0,h1,h2,h3,h4]
@[go_sem] theorem zcm {h:zb}{a0 b0:List UInt8}{a1 b1:List UInt8}{a2 b2:Int}{a3 b3:Int}{a4 b4:Bool}:q3f [.str,.str,.int,.int,.bool] true h (some (.agg [.str a0,.str a1,.int .i64 a2,.int .i64 a3,.bool a4])) (some (.agg [.str b0,.str b1,.int .i64 b2,.int .i64 b3,.bool b4]))=some ⟨.bool (!(decide (a0=b0)&&decide (a1=b1)&&decide (a2=b2)&&decide (a3=b3)&&decide (a4=b4))),false,none,h⟩:=by
 show(match qal [.str,.str,.int,.int,.bool] [.str a0,.str a1,.int .i64 a2,.int .i64 a3,.bool a4] [.str b0,.str b1,.int .i64 b2,.int .i64 b3,.bool b4]with|some t=>val h (.bool (bif true then !t else t))|none=>none)=_
 rw[jy8]
 rfl
@[go_sem] theorem j4j {h0:Nat}{al:Option (List Nat)}{h:zb}{g:Fn}{a b:List qa}:qa5 h0 al false 1 h (some (.vptr (.fn g a b)))=some ⟨.fn g a b,false,none,h⟩:=rfl
def qkg (h:zb)(zero:qa)(r:Option (Option (Nat×qa))):Option qp:=match r with
 |some (some (_,v))=>some ⟨.tup [v,.bool true],false,none,h⟩
 |some none=>some ⟨.tup [zero,.bool false],false,none,h⟩
 |none=>none
@[go_sem] theorem jpf {h:zb}{z v:qa}{i:Nat}:qkg h z (some (some (i,v)))=some ⟨.tup [v,.bool true],false,none,h⟩:=rfl
@[go_sem] theorem jpn {h:zb}{z:qa}:qkg h z (some none)=some ⟨.tup [z,.bool false],false,none,h⟩:=rfl
def qxm (h:zb)(kd:Kd)(z kv:qa)(x:Option qr):Option qp:=match x with
 |some (.map es)=>qkg h z (kg kd kv es 0)
 |_=>none
@[go_sem] theorem jx1 {h:zb}{kd:Kd}{z kv:qa}{es:List (qa×qa)}:qxm h kd z kv (some (.map es))=qkg h z (kg kd kv es 0):=rfl
def qvs (h0:Nat)(al:Option (List Nat))(h:zb)(kd:Kd)(z:qa)(m k:Option qa):Option qp:=match m,k with
 |some (.map b),some kv=>ifR (ke h0 al b) (qxm h kd z kv h[b]?)
 |some .nilmap,some _=>some ⟨.tup [z,.bool false],false,none,h⟩
 |_,_=>none
@[go_sem] theorem jl5 {h0:Nat}{al:Option (List Nat)}{h:zb}{kd:Kd}{z kv:qa}{b:Nat}:qvs h0 al h kd z (some (.map b)) (some kv)=ifR (ke h0 al b) (qxm h kd z kv h[b]?):=rfl
@[go_sem] theorem j0u {p:qu}{xc:XC}{h0:Nat}{al:Option (List Nat)}{e:Env}{h:zb}{kd:Kd}{z:qa}{m k:qf}:j9 p xc h0 al e h (.lookup kd z true m k)=qvs h0 al h kd z (zh e m) (zh e k):=by
 simp only[j9,qas,qvs]
 cases zh e m with
 |none=>cases zh e k<;>rfl
 |some v=>cases zh e k with
  |none=>cases v<;>rfl
  |some kv=>cases v with
   |map b=>
    simp only[ifR,kl,qxm,qkg]
    cases ke h0 al b with
    |false=>rfl
    |true=>
     simp only[cT]
     cases h[b]? with
     |none=>rfl
     |some x=>cases x with
      |map es=>
       simp only[]
       cases kg kd kv es 0 with
       |none=>rfl
       |some r=>cases r<;>rfl
      |_=>rfl
   |_=>rfl
theorem qsk {σ δ γ:Type}(n:Nat)(mk:Nat→σ)(f:σ→Option (σ⊕δ))(V:δ→γ)(r:Nat→γ)(hend:∃d,f (mk n)=some (.inr d)∧V d=r n)
  (hstep:∀i,i<n→(f (mk i)=some (.inl (mk (i+1)))∧r i=r (i+1))∨(∃d,f (mk i)=some (.inr d)∧V d=r i)):∃d,itO f (mk 0)=some d∧V d=r 0:=by
 have key:∀(k i:Nat),i+k=n→∃d,itO f (mk i)=some d∧V d=r i:=by
  intro k
  induction k with
  |zero=>
   intro i hi
   have:i=n:=by omega
   subst this
   obtain⟨d,h1,h2⟩:=hend
   exact⟨d,qbn h1,h2⟩
  |succ k ih=>
   intro i hi
   rcases hstep i (by omega)with⟨h1,h2⟩|⟨d,h1,h2⟩
   ·rw[qfi h1,h2];exact ih (i+1) (by omega)
   ·exact⟨d,qbn h1,h2⟩
 exact key n 0 (by omega)
theorem qvd {α δ:Type}(l:List α)(f:Int→Option (Int⊕δ))(q:α→Bool)(V:δ→Bool)(hend:∃d,f (l.length:Int)=some (.inr d)∧V d=true)
  (hstep:∀(i:Nat) x,l[i]?=some x→i<l.length→(q x=true∧f (i:Int)=some (.inl ((i+1:Nat):Int)))∨(q x=false∧∃d,f (i:Int)=some (.inr d)∧V d=false)):∃d,itO f 0=some d∧V d=l.all q:=by
 have:=qsk l.length (fun i=>(i:Int)) f V (fun i=>(l.drop i).all q) (by rw[List.drop_eq_nil_of_le (Nat.le_refl _)];exact hend) (fun i hi=>by
  obtain⟨x,hx⟩:∃x,l[i]?=some x:=⟨_,List.getElem?_eq_getElem hi⟩
  simp only[qda hx,List.all_cons]
  rcases hstep i x hx hi with⟨h1,h2⟩|⟨h1,h2⟩
  ·rw[h1];exact .inl ⟨h2,rfl⟩
  ·rw[h1];exact .inr h2)
 simpa using this
theorem jfc {α β:Type}(l:List α)(ix:Nat→Int)(f:Option (List β)×Int×Bool→Option ((Option (List β)×Int×Bool)⊕(Option (List β)×Bool×Int)))(h:α→List β)(a0:List β)(I:Nat→List β→Prop)(hI:I 0 a0)
  (hend:∀a,f (y7 a,ix l.length,qct a)=some (.inr (y7 a,qct a,ix l.length)))
  (hstep:∀(i:Nat) x a,l[i]?=some x→i<l.length→I i a→I (i+1) (a++h x)∧f (y7 a,ix i,qct a)=some (.inl (y7 (a++h x),ix (i+1),qct (a++h x)))):
  itO f (y7 a0,ix 0,qct a0)=some (y7 (a0++l.flatMap h),qct (a0++l.flatMap h),ix l.length):=by
 have key:∀(k i:Nat),i+k=l.length→∀a,I i a→itO f (y7 a,ix i,qct a)=some (y7 (a++(l.drop i).flatMap h),qct (a++(l.drop i).flatMap h),ix l.length):=by
  intro k
  induction k with
  |zero=>
   intro i hi a _
   have:i=l.length:=by omega
   subst this
   rw[List.drop_eq_nil_of_le (Nat.le_refl _),List.flatMap_nil,List.append_nil,qbn (hend a)]
  |succ k ih=>
   intro i hi a ha
   obtain⟨x,hx⟩:∃x,l[i]?=some x:=⟨_,List.getElem?_eq_getElem (by omega)⟩
   obtain⟨h1,h2⟩:=hstep i x a hx (by omega) ha
   rw[qfi h2,ih (i+1) (by omega) _ h1,qda hx,List.flatMap_cons,List.append_assoc]
 have:=key l.length 0 (by omega) a0 hI
 rwa [List.drop_zero]at this
theorem qwa {α:Type}{a:List α}{x:α}(h:a.length<1073741824):apO (y7 a) [x]=some (y7 (a++[x])):=by
 unfold apO
 cases a with
 |nil=>rfl
 |cons y a=>
  have:((y7 (y::a)).getD []).length + [x].length≤1073741824:=by simp[y7]at h ⊢;omega
  rw[if_pos this];rfl
theorem qfu {α γ:Type}{a:List α}{x:α}{k:Option (List α)→Option γ}(h:a.length<1073741824):cond (qct a) (jy (apO (y7 a) [x]) k) (cond (y7 a).isNone (jy (apO (y7 a) [x]) k) none)=k (y7 (a++[x])):=by
 rw[qwa h]
 cases a<;>rfl
theorem qae {α:Type}(a:List α):(y7 a).getD []=a:=by cases a<;>rfl
theorem qkc {α β:Type}(h:α→β):∀l:List α,l.flatMap (fun x=>[h x])=l.map h
 | []=>rfl
 |x::l=>by rw[List.flatMap_cons,qkc h l];rfl
theorem ye {α:Type}{l:List α}{i:Nat}{x:α}(hx:l[i]?=some x):zz l (i:Int)=some x:=by rw[jdd,hx]
theorem qaz {α:Type}{l:List α}{i:Nat}(h:i<l.length):decide ((i:Int)<(l.length:Int))=true:=dT (by omega)
theorem qag {n:Nat}:decide ((n:Int)<(n:Int))=false:=dF (by omega)
end Go.Z
namespace Go.Z
open Go Go.Abs Go.W
def formsL:List (List UInt8×List UInt8×Int×Nat):=[(qe2,[45,45],2,105),(qbs,[45],1,106),(qdn,[112,45],2,107),(qd4,[112,45],3,108),(qeb,[112],1,109),(qdy,[45,112],1,110),(qe4,[117,108],2,111),(qci,[117,45],2,112),(qdk,[117],1,113),(qd1,[117,117],1,114),(qen,[108],1,115),(qgs,[108],1,116),(qco,[117],1,117),(qep,[117],1,118),(qfg,[],0,0)]
def fnv (k:Nat):qa:=bif Nat.beq k 0 then .nilfn else .fn (.func k) [] []
def qfc (x:List UInt8):Option (List UInt8×List UInt8×Int×Nat):=formsL.find? fun f=>decide (x=f.1)
def kr (x:List UInt8):List UInt8:=match qfc x with
 |some f=>f.2.1
 |none=>[]
def qfx (x:List UInt8):Int:=match qfc x with
 |some f=>f.2.2.1
 |none=>0
def qir (x:List UInt8):qa:=match qfc x with
 |some f=>fnv f.2.2.2
 |none=>.nilfn
def qo0 (x:List UInt8):Bool:=(qfc x).isSome
theorem qxr:yg=formsL.map fun f=>(.str f.1,.agg [.str f.2.1,.int .i64 f.2.2.1,fnv f.2.2.2]):=rfl
theorem qqs (x:List UInt8)(h:zb):∀(l:List (List UInt8×List UInt8×Int×Nat)) (n:Nat),kg .str (.str x) (l.map fun f=>(.str f.1,.agg [.str f.2.1,.int .i64 f.2.2.1,fnv f.2.2.2])) n=some none∧l.find? (fun f=>decide (x=f.1))=none∨∃i f,kg .str (.str x) (l.map fun f=>(.str f.1,.agg [.str f.2.1,.int .i64 f.2.2.1,fnv f.2.2.2])) n=some (some (i,.agg [.str f.2.1,.int .i64 f.2.2.1,fnv f.2.2.2]))∧l.find? (fun f=>decide (x=f.1))=some f
 | [],n=>.inl ⟨rfl,rfl⟩
 |f::l,n=>by
  have he:qc7 .str (.str x) (.str f.1)=some (decide (x=f.1)):=by
   show some (x == f.1)=_
   by_cases hx:x=f.1<;>simp[hx]
  by_cases hx:x=f.1
  ·refine .inr ⟨n,f,?_,?_⟩
   ·simp only[List.map_cons,kg,he,dT hx]
   ·simp[List.find?,hx]
  ·rcases qqs x h l (n+1)with⟨h1,h2⟩|⟨i,g,h1,h2⟩
   ·exact .inl ⟨by simp only[List.map_cons,kg,he,hx,decide_false];exact h1,by simp only[List.find?,hx,decide_false];exact h2⟩
   ·exact .inr ⟨i,g,by simp only[List.map_cons,kg,he,hx,decide_false];exact h1,by simp only[List.find?,hx,decide_false];exact h2⟩
@[go_sem] theorem j25 {h:zb}{g:Fn}{a b:List qa}:qkb false h (some (.fn g a b))=some ⟨.vptr (.fn g a b),false,none,h⟩:=rfl
@[go_sem] theorem zcw:pr.maps 50=some yg:=rfl
theorem q6b {h:zb}(x:List UInt8):qkg h (.agg [.str [],.int .i64 0,.nilfn]) (kg .str (.str x) yg 0)=some ⟨.tup [.agg [.str (kr x),.int .i64 (qfx x),qir x],.bool (qo0 x)],false,none,h⟩:=by
 rw[qxr]
 rcases qqs x h formsL 0 with⟨h1,h2⟩|⟨i,f,h1,h2⟩
 ·rw[h1];simp only[qkg,kr,qfx,qir,qo0,qfc,h2];rfl
 ·rw[h1];simp only[qkg,kr,qfx,qir,qo0,qfc,h2];rfl
theorem qwu {h:zb}(x:List UInt8):qlj h (.agg [.str [],.int .i64 0,.nilfn]) (kg .str (.str x) yg 0)=some ⟨.agg [.str (kr x),.int .i64 (qfx x),qir x],false,none,h⟩:=by
 rw[qxr]
 rcases qqs x h formsL 0 with⟨h1,h2⟩|⟨i,f,h1,h2⟩
 ·rw[h1];simp only[qlj,kr,qfx,qir,qfc,h2];rfl
 ·rw[h1];simp only[qlj,kr,qfx,qir,qfc,h2];rfl
@[go_sem] theorem zbo {x:List UInt8}:zm (qir x)=true:=by
 unfold qir
 split
 ·rename_i f _;simp only[fnv];cases Nat.beq f.2.2.2 0<;>rfl
 ·rfl
def qbl (l:List (List UInt8×Int)):List (qa×qa):=l.map fun p=>(.str p.1,.int .i64 p.2)
def qhd (l:List (List UInt8×Int))(k:List UInt8):Int:=match l.find? fun p=>decide (k=p.1)with
 |some p=>p.2
 |none=>0
def qfs:List (List UInt8×Int)→List UInt8→Int→List (List UInt8×Int)
 | [],k,v=>[(k,v)]
 |p::l,k,v=>if k=p.1 then(p.1,v)::l else p::qfs l k v
def q9n (l:List (List UInt8×Int))(k:List UInt8)(v:Int):Option (List (List UInt8×Int)):=if l.length≤1073741824 then some (qfs l k v)else none
theorem eqT {k s:List UInt8}:qc7 .str (.str k) (.str s)=some (decide (k=s)):=by
 show some (k == s)=_
 by_cases hx:k=s<;>simp[hx]
theorem q9k (k:List UInt8):∀(l:List (List UInt8×Int)) (n:Nat),(kg .str (.str k) (qbl l) n=some none∧l.find? (fun p=>decide (k=p.1))=none∧∀v,qbl (qfs l k v)=qbl l++[(.str k,.int .i64 v)])∨∃i p,kg .str (.str k) (qbl l) n=some (some (n+i,.int .i64 p.2))∧l.find? (fun p=>decide (k=p.1))=some p∧∀v,qbl (qfs l k v)=qd3 (qbl l) i (.int .i64 v)
 | [],n=>.inl ⟨rfl,rfl,fun _=>rfl⟩
 |p::l,n=>by
  by_cases hx:k=p.1
  ·refine .inr ⟨0,p,?_,?_,fun v=>?_⟩
   ·simp only[qbl,List.map_cons,kg,eqT,dT hx];rfl
   ·simp[List.find?,hx]
   ·simp only[qfs,if_pos hx];rfl
  ·rcases q9k k l (n+1)with⟨h1,h2,h3⟩|⟨i,q,h1,h2,h3⟩
   ·refine .inl ⟨?_,?_,fun v=>?_⟩
    ·simp only[qbl,List.map_cons,kg,eqT,dF hx];exact h1
    ·simp only[List.find?,dF hx];exact h2
    ·simp only[qfs,if_neg hx]
     show _::qbl (qfs l k v)=_
     rw[h3];rfl
   ·refine .inr ⟨i+1,q,?_,?_,fun v=>?_⟩
    ·simp only[qbl,List.map_cons,kg,eqT,dF hx]
     rw[show n+(i+1)=n+1+i by omega];exact h1
    ·simp only[List.find?,dF hx];exact h2
    ·simp only[qfs,if_neg hx]
     show _::qbl (qfs l k v)=_
     rw[h3];rfl
theorem jgm {h:zb}{l:List (List UInt8×Int)}{k:List UInt8}:qlj h (.int .i64 0) (kg .str (.str k) (qbl l) 0)=some ⟨.int .i64 (qhd l k),false,none,h⟩:=by
 unfold qhd
 rcases q9k k l 0 with⟨h1,h2,_⟩|⟨i,p,h1,h2,_⟩<;>rw[h1,h2]<;>rfl
theorem jkd {h:zb}{b:Nat}{l v:List (List UInt8×Int)}{k:List UInt8}{n:Int}(hv:q9n l k n=some v):qy3 h b (qbl l) (.str k) (.int .i64 n) (kg .str (.str k) (qbl l) 0)=qdt (yv h b (.map (qbl v))) .undef:=by
 unfold q9n at hv
 split at hv
 ·rename_i hl
  cases hv
  rcases q9k k l 0 with⟨h1,h2,h3⟩|⟨i,p,h1,h2,h3⟩
  ·rw[h1,h3]
   have:Nat.ble (qbl l).length 1073741824=true:=Nat.ble_eq_true_of_le (by rw[qbl,List.length_map];exact hl)
   simp only[qy3,this,ifR,cT]
  ·rw[h1,h3,Nat.zero_add];rfl
 ·cases hv
theorem jfr {l:List (List UInt8×Int)}{k k':List UInt8}{v:Int}:qhd (qfs l k v) k'=if k'=k then v else qhd l k':=by
 induction l with
 |nil=>by_cases h:k'=k<;>simp[qfs,qhd,List.find?,h]
 |cons p l ih=>
  unfold qhd at ih ⊢
  by_cases hk:k=p.1
  ·by_cases h:k'=k
   ·subst h;simp[qfs,List.find?,←hk]
   ·have h2:¬k'=p.1:=by rw[←hk];exact h
    simp[qfs,List.find?,hk,h2]
  ·by_cases h2:k'=p.1
   ·have h3:¬k'=k:=by rw[h2];exact fun h=>hk h.symm
    have h4:¬p.1=k:=fun h=>hk h.symm
    simp[qfs,List.find?,hk,h2,h4]
   ·simp only[qfs,if_neg hk,List.find?,dF h2]
    exact ih
@[go_sem] theorem j1q {h0:Nat}{al:Option (List Nat)}{h:zb}{b:Nat}:qa5 h0 al false 1 h (some (.vptr (.map b)))=some ⟨.map b,false,none,h⟩:=rfl
@[go_sem] theorem q9i {n:Nat}{l:List (List UInt8×Int)}:qb5 n (qbl l)=true:=by
 induction l with
 |nil=>rfl
 |cons p l ih=>simp only[qbl,List.map_cons,qb5,below,Bool.true_and];exact ih
@[go_sem] theorem jjh {n:Nat}{l:List (List UInt8×Int)}:qdl n (.map (qbl l))=true:=q9i
end Go.Z
