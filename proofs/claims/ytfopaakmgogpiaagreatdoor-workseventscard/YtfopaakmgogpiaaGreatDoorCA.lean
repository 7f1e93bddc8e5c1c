/- The structs of chapter 10 and their cells; what they are in plain lists. -/
import Derived.Test.YtfopaakmgogpiaaGreatDoorG0
import Derived.Test.YtfopaakmgogpiaaGreatDoorAbsL
import Derived.Test.YtfopaakmgogpiaaGreatDoorWS
import Derived.Test.YtfopaakmgogpiaaGreatDoorL1
import Derived.Test.YtfopaakmgogpiaaGreatDoorZC
import Derived.Test.YtfopaakmgogpiaaGreatDoorAbsH
set_option linter.unusedVariables false
set_option linter.unusedSimpArgs false
set_option maxRecDepth 100000
namespace Go.Z
open Go Go.Abs Go.W
def vsi (p:qm):qa:=.agg [.str p.k,.int .i64 p.n]
@[go_sem] theorem zch {p:qm}:(vsi p).flat=[.str p.k,.int .i64 p.n]:=rfl
@[go_sem] theorem ja4 {n:Nat}(p:qm):below n (vsi p)=true:=by rfl
@[go_sem] theorem jzc {n z:Nat}{l:Option (List qm)}:below n (sl z vsi l)=true:=qdx ja4
@[go_sem] theorem zds {p:qm}:qa.vptr (vsi p)=.vptr (.agg [.str p.k,.int .i64 p.n]):=rfl
theorem jbv {b t:Nat}{h:j8}{bb:Bool}{p:qm}{o v:Option (List qm)}(hv:apO o [p]=some v):appR 2 b h (some t) (some (sl 2 vsi o)) (some (.list bb 2 [.agg [.str p.k,.int .i64 p.n]]))=ifR (decide (b≤4096)) (some ⟨sl 2 vsi v,true,some t,h⟩):=qgj (x:=p) (by omega) rfl hv
theorem jb1 {b:Nat}{h:j8}{bb:Bool}{p:qm}{o v:Option (List qm)}(hv:apO o [p]=some v)(hn:o.isNone=true):appR 2 b h none (some (sl 2 vsi o)) (some (.list bb 2 [.agg [.str p.k,.int .i64 p.n]]))=ifR (decide (b≤4096)) (some ⟨sl 2 vsi v,true,none,h⟩):=qd2 (x:=p) (by omega) rfl hn hv
def zz (p:qk):qa:=.agg [.str p.k,.int .i64 p.a,.int .i64 p.b]
@[go_sem] theorem j7i {p:qk}:(zz p).flat=[.str p.k,.int .i64 p.a,.int .i64 p.b]:=rfl
@[go_sem] theorem q9z {n:Nat}(p:qk):below n (zz p)=true:=by rfl
@[go_sem] theorem ju6 {n z:Nat}{l:Option (List qk)}:below n (sl z zz l)=true:=qdx q9z
@[go_sem] theorem jbr {p:qk}:qa.vptr (zz p)=.vptr (.agg [.str p.k,.int .i64 p.a,.int .i64 p.b]):=rfl
theorem q7p {b t:Nat}{h:j8}{bb:Bool}{p:qk}{o v:Option (List qk)}(hv:apO o [p]=some v):appR 3 b h (some t) (some (sl 3 zz o)) (some (.list bb 3 [.agg [.str p.k,.int .i64 p.a,.int .i64 p.b]]))=ifR (decide (b≤4096)) (some ⟨sl 3 zz v,true,some t,h⟩):=qgj (x:=p) (by omega) rfl hv
theorem q7n {b:Nat}{h:j8}{bb:Bool}{p:qk}{o v:Option (List qk)}(hv:apO o [p]=some v)(hn:o.isNone=true):appR 3 b h none (some (sl 3 zz o)) (some (.list bb 3 [.agg [.str p.k,.int .i64 p.a,.int .i64 p.b]]))=ifR (decide (b≤4096)) (some ⟨sl 3 zz v,true,none,h⟩):=qd2 (x:=p) (by omega) rfl hn hv
def z7 (p:qj):qa:=.agg [.str p.name,.str p.kind,.int .i64 p.count,.int .i64 p.left,.bool p.held]
@[go_sem] theorem j8a {p:qj}:(z7 p).flat=[.str p.name,.str p.kind,.int .i64 p.count,.int .i64 p.left,.bool p.held]:=rfl
@[go_sem] theorem q91 {n:Nat}(p:qj):below n (z7 p)=true:=by rfl
@[go_sem] theorem jvl {n z:Nat}{l:Option (List qj)}:below n (sl z z7 l)=true:=qdx q91
@[go_sem] theorem q0f {p:qj}:qa.vptr (z7 p)=.vptr (.agg [.str p.name,.str p.kind,.int .i64 p.count,.int .i64 p.left,.bool p.held]):=rfl
theorem qxf {b t:Nat}{h:j8}{bb:Bool}{p:qj}{o v:Option (List qj)}(hv:apO o [p]=some v):appR 5 b h (some t) (some (sl 5 z7 o)) (some (.list bb 5 [.agg [.str p.name,.str p.kind,.int .i64 p.count,.int .i64 p.left,.bool p.held]]))=ifR (decide (b≤4096)) (some ⟨sl 5 z7 v,true,some t,h⟩):=qgj (x:=p) (by omega) rfl hv
theorem qxw {b:Nat}{h:j8}{bb:Bool}{p:qj}{o v:Option (List qj)}(hv:apO o [p]=some v)(hn:o.isNone=true):appR 5 b h none (some (sl 5 z7 o)) (some (.list bb 5 [.agg [.str p.name,.str p.kind,.int .i64 p.count,.int .i64 p.left,.bool p.held]]))=ifR (decide (b≤4096)) (some ⟨sl 5 z7 v,true,none,h⟩):=qd2 (x:=p) (by omega) rfl hn hv
structure qr where
 needs:Option (List qm)
 tests:Option (List qk)
def qab (p:qr):qa:=.agg [sl 2 vsi p.needs,sl 3 zz p.tests]
@[go_sem] theorem j7l {p:qr}:(qab p).flat=[sl 2 vsi p.needs,sl 3 zz p.tests]:=rfl
@[go_sem] theorem q8x {n:Nat}(p:qr):below n (qab p)=true:=by simp only[qab,go_sem]
@[go_sem] theorem ju0 {n z:Nat}{l:Option (List qr)}:below n (sl z qab l)=true:=qdx q8x
@[go_sem] theorem j7k {p:qr}:qa.vptr (qab p)=.vptr (.agg [sl 2 vsi p.needs,sl 3 zz p.tests]):=rfl
theorem q78 {b t:Nat}{h:j8}{bb:Bool}{p:qr}{o v:Option (List qr)}(hv:apO o [p]=some v):appR 2 b h (some t) (some (sl 2 qab o)) (some (.list bb 2 [.agg [sl 2 vsi p.needs,sl 3 zz p.tests]]))=ifR (decide (b≤4096)) (some ⟨sl 2 qab v,true,some t,h⟩):=qgj (x:=p) (by omega) rfl hv
theorem q9a {b:Nat}{h:j8}{bb:Bool}{p:qr}{o v:Option (List qr)}(hv:apO o [p]=some v)(hn:o.isNone=true):appR 2 b h none (some (sl 2 qab o)) (some (.list bb 2 [.agg [sl 2 vsi p.needs,sl 3 zz p.tests]]))=ifR (decide (b≤4096)) (some ⟨sl 2 qab v,true,none,h⟩):=qd2 (x:=p) (by omega) rfl hn hv
structure qi where
 name:List UInt8
 dn:Option (List qm)
 dt:Option (List qk)
 docs:Option (List qr)
def zr (p:qi):qa:=.agg [.str p.name,sl 2 vsi p.dn,sl 3 zz p.dt,sl 2 qab p.docs]
@[go_sem] theorem q71 {p:qi}:(zr p).flat=[.str p.name,sl 2 vsi p.dn,sl 3 zz p.dt,sl 2 qab p.docs]:=rfl
@[go_sem] theorem q5i {n:Nat}(p:qi):below n (zr p)=true:=by simp only[zr,go_sem]
@[go_sem] theorem js8 {n z:Nat}{l:Option (List qi)}:below n (sl z zr l)=true:=qdx q5i
@[go_sem] theorem j4d {p:qi}:qa.vptr (zr p)=.vptr (.agg [.str p.name,sl 2 vsi p.dn,sl 3 zz p.dt,sl 2 qab p.docs]):=rfl
theorem q5h {b t:Nat}{h:j8}{bb:Bool}{p:qi}{o v:Option (List qi)}(hv:apO o [p]=some v):appR 4 b h (some t) (some (sl 4 zr o)) (some (.list bb 4 [.agg [.str p.name,sl 2 vsi p.dn,sl 3 zz p.dt,sl 2 qab p.docs]]))=ifR (decide (b≤4096)) (some ⟨sl 4 zr v,true,some t,h⟩):=qgj (x:=p) (by omega) rfl hv
theorem q52 {b:Nat}{h:j8}{bb:Bool}{p:qi}{o v:Option (List qi)}(hv:apO o [p]=some v)(hn:o.isNone=true):appR 4 b h none (some (sl 4 zr o)) (some (.list bb 4 [.agg [.str p.name,sl 2 vsi p.dn,sl 3 zz p.dt,sl 2 qab p.docs]]))=ifR (decide (b≤4096)) (some ⟨sl 4 zr v,true,none,h⟩):=qd2 (x:=p) (by omega) rfl hn hv
structure qf where
 name:List UInt8
 product:List UInt8
 version:Int
 uses:Option (List qm)
 results:Option (List qk)
 partner:List UInt8
 shipped:Bool
 complaints:Int
def vun (p:qf):qa:=.agg [.str p.name,.str p.product,.int .i64 p.version,sl 2 vsi p.uses,sl 3 zz p.results,.str p.partner,.bool p.shipped,.int .i64 p.complaints]
@[go_sem] theorem jdn {p:qf}:(vun p).flat=[.str p.name,.str p.product,.int .i64 p.version,sl 2 vsi p.uses,sl 3 zz p.results,.str p.partner,.bool p.shipped,.int .i64 p.complaints]:=rfl
@[go_sem] theorem ja0 {n:Nat}(p:qf):below n (vun p)=true:=by simp only[vun,go_sem]
@[go_sem] theorem j27 {n z:Nat}{l:Option (List qf)}:below n (sl z vun l)=true:=qdx ja0
@[go_sem] theorem zbo {p:qf}:qa.vptr (vun p)=.vptr (.agg [.str p.name,.str p.product,.int .i64 p.version,sl 2 vsi p.uses,sl 3 zz p.results,.str p.partner,.bool p.shipped,.int .i64 p.complaints]):=rfl
theorem jcs {b t:Nat}{h:j8}{bb:Bool}{p:qf}{o v:Option (List qf)}(hv:apO o [p]=some v):appR 8 b h (some t) (some (sl 8 vun o)) (some (.list bb 8 [.agg [.str p.name,.str p.product,.int .i64 p.version,sl 2 vsi p.uses,sl 3 zz p.results,.str p.partner,.bool p.shipped,.int .i64 p.complaints]]))=ifR (decide (b≤4096)) (some ⟨sl 8 vun v,true,some t,h⟩):=qgj (x:=p) (by omega) rfl hv
theorem ja3 {b:Nat}{h:j8}{bb:Bool}{p:qf}{o v:Option (List qf)}(hv:apO o [p]=some v)(hn:o.isNone=true):appR 8 b h none (some (sl 8 vun o)) (some (.list bb 8 [.agg [.str p.name,.str p.product,.int .i64 p.version,sl 2 vsi p.uses,sl 3 zz p.results,.str p.partner,.bool p.shipped,.int .i64 p.complaints]]))=ifR (decide (b≤4096)) (some ⟨sl 8 vun v,true,none,h⟩):=qd2 (x:=p) (by omega) rfl hn hv
structure qc where
 day:Int
 lots:Option (List qj)
 products:Option (List qi)
 units:Option (List qf)
def yb (p:qc):qa:=.agg [.int .i64 p.day,sl 5 z7 p.lots,sl 4 zr p.products,sl 8 vun p.units]
@[go_sem] theorem j79 {p:qc}:(yb p).flat=[.int .i64 p.day,sl 5 z7 p.lots,sl 4 zr p.products,sl 8 vun p.units]:=rfl
@[go_sem] theorem q8v {n:Nat}(p:qc):below n (yb p)=true:=by simp only[yb,go_sem]
@[go_sem] theorem jvv {n z:Nat}{l:Option (List qc)}:below n (sl z yb l)=true:=qdx q8v
@[go_sem] theorem j69 {p:qc}:qa.vptr (yb p)=.vptr (.agg [.int .i64 p.day,sl 5 z7 p.lots,sl 4 zr p.products,sl 8 vun p.units]):=rfl
theorem q76 {b t:Nat}{h:j8}{bb:Bool}{p:qc}{o v:Option (List qc)}(hv:apO o [p]=some v):appR 4 b h (some t) (some (sl 4 yb o)) (some (.list bb 4 [.agg [.int .i64 p.day,sl 5 z7 p.lots,sl 4 zr p.products,sl 8 vun p.units]]))=ifR (decide (b≤4096)) (some ⟨sl 4 yb v,true,some t,h⟩):=qgj (x:=p) (by omega) rfl hv
theorem q7u {b:Nat}{h:j8}{bb:Bool}{p:qc}{o v:Option (List qc)}(hv:apO o [p]=some v)(hn:o.isNone=true):appR 4 b h none (some (sl 4 yb o)) (some (.list bb 4 [.agg [.int .i64 p.day,sl 5 z7 p.lots,sl 4 zr p.products,sl 8 vun p.units]]))=ifR (decide (b≤4096)) (some ⟨sl 4 yb v,true,none,h⟩):=qd2 (x:=p) (by omega) rfl hn hv
structure ql where
 number:Int
 kind:List UInt8
 names:Option (List (List UInt8))
 values:Option (List Int)
 text:List UInt8
def vev (p:ql):qa:=.agg [.int .i64 p.number,.str p.kind,sl 1 qae p.names,sl 1 kr p.values,.str p.text]
@[go_sem] theorem j9m {p:ql}:(vev p).flat=[.int .i64 p.number,.str p.kind,sl 1 qae p.names,sl 1 kr p.values,.str p.text]:=rfl
@[go_sem] theorem jce {n:Nat}(p:ql):below n (vev p)=true:=by simp only[vev,go_sem]
@[go_sem] theorem j3j {n z:Nat}{l:Option (List ql)}:below n (sl z vev l)=true:=qdx jce
@[go_sem] theorem zft {p:ql}:qa.vptr (vev p)=.vptr (.agg [.int .i64 p.number,.str p.kind,sl 1 qae p.names,sl 1 kr p.values,.str p.text]):=rfl
theorem jca {b t:Nat}{h:j8}{bb:Bool}{p:ql}{o v:Option (List ql)}(hv:apO o [p]=some v):appR 5 b h (some t) (some (sl 5 vev o)) (some (.list bb 5 [.agg [.int .i64 p.number,.str p.kind,sl 1 qae p.names,sl 1 kr p.values,.str p.text]]))=ifR (decide (b≤4096)) (some ⟨sl 5 vev v,true,some t,h⟩):=qgj (x:=p) (by omega) rfl hv
theorem jay {b:Nat}{h:j8}{bb:Bool}{p:ql}{o v:Option (List ql)}(hv:apO o [p]=some v)(hn:o.isNone=true):appR 5 b h none (some (sl 5 vev o)) (some (.list bb 5 [.agg [.int .i64 p.number,.str p.kind,sl 1 qae p.names,sl 1 kr p.values,.str p.text]]))=ifR (decide (b≤4096)) (some ⟨sl 5 vev v,true,none,h⟩):=qd2 (x:=p) (by omega) rfl hn hv
def qr.er (d:qr):jf:=⟨d.needs.getD [],d.tests.getD []⟩
def qi.er (p:qi):jd:=⟨p.name,⟨p.dn.getD [],p.dt.getD []⟩,(p.docs.getD []).map qr.er⟩
def qf.er (u:qf):qz:=⟨u.name,u.product,u.version,u.uses.getD [],u.results.getD [],u.partner,u.shipped,u.complaints⟩
def qc.er (r:qc):qv:=⟨r.day,r.lots.getD [],(r.products.getD []).map qi.er,(r.units.getD []).map qf.er⟩
def ql.er (e:ql):jg:=⟨e.number,e.kind,e.names.getD [],e.values.getD [],e.text⟩
end Go.Z
namespace Go.Z
open Go Go.Abs Go.W
theorem qkx {hh:j8}:∀ {xs:List qa},zu 0 xs=true→qby hh xs=some xs
 | [],_=>rfl
 |x::xs,h=>by
  simp only[zu,Bool.and_eq_true]at h
  have hx:qa4 hh x=some x:=by
   cases x with
   |ms b o n=>simp[Abs.below,Nat.blt]at h
   |vref b o n=>simp[Abs.below,Nat.blt]at h
   |_=>rfl
  simp only[qby,hx,qkx h.2]
theorem qsp {hh:j8}:∀ {xs:List qa},zu 0 xs=true→freezeR.freezeT hh xs=some xs
 | [],_=>rfl
 |x::xs,h=>by
  simp only[zu,Bool.and_eq_true]at h
  have ih:=qsp (hh:=hh) h.2
  cases x with
  |agg cs=>
   have h1:=h.1
   simp only[Abs.below]at h1
   simp only[freezeR.freezeT,qkx h1,ih]
  |ms b o n=>simp[Abs.below,Nat.blt]at h
  |vref b o n=>simp[Abs.below,Nat.blt]at h
  |_=>simp only[freezeR.freezeT,qa4,ih]
theorem qqu {hh:j8}{x:qa}(h:Abs.below 0 x=true):freezeR hh x=some x:=by
 cases x with
 |agg cs=>
  simp only[Abs.below]at h
  simp only[freezeR,qkx h]
 |tup vs=>
  simp only[Abs.below]at h
  simp only[freezeR,qsp h]
 |ms b o n=>simp[Abs.below,Nat.blt]at h
 |vref b o n=>simp[Abs.below,Nat.blt]at h
 |_=>rfl
theorem y7 {p:qt}{k:Nat}(f:qd){args:List qa}{v:qa}(hc:∃hh,qzr f.results (X p f.body ⟨qeo 0 args,[]⟩)=some (v,false,hh))(hp:p.prims k=none:=by rfl)(hf:p.fns k=some f:=by rfl)(hl:Nat.ble args.length f.ntmps=true:=by rfl)(hv:below 0 v=true:=by first|rfl|simp only[go_sem,seval]):jy p (X p) k args=some (v,false):=by
 obtain⟨hh,hc⟩:=hc
 cases f with
 |mk n b r=>exact kq hp (by rw[zd hf (Nat.le_of_ble_eq_true hl)];exact hc) (qqu hv) hv
theorem qa5 {p:qt}{k:Nat}(f:qd){args:List qa}{v:qa}{o:Bool}(hc:∃hh,qzr f.results (X p f.body ⟨qeo 0 args,[]⟩)=some (v,o,hh))(hp:p.prims k=none:=by rfl)(hf:p.fns k=some f:=by rfl)(hn:Nat.ble args.length f.ntmps=true:=by rfl)(hv:below 0 v=true:=by first|rfl|simp only[go_sem,seval])(hl:v.isList=true:=by first|rfl|simp only[go_sem,seval]):jy p (X p) k args=some (v,o):=by
 obtain⟨hh,hc⟩:=hc
 cases f with
 |mk n b r=>exact qzo hp (by rw[zd hf (Nat.le_of_ble_eq_true hn)];exact hc) (qqu hv) hv hl
theorem yl {σ δ:Type}{p:qt}{c:qe}{St:σ→qg}{Ex:δ→qo×qg}{s s':σ}(h:X p c (St s)=some (.normal,St s'))(hl:(St s').heap.length≤(St s).heap.length:=by exact Nat.le_refl _):yq p c St Ex s (.inl s'):=qex h (qh3 hl)
theorem q6k {σ δ:Type}{p:qt}{c:qe}{St:σ→qg}{Ex:δ→qo×qg}{s s':σ}(h:∃t,X p c (St s)=some (.normal,⟨(St s').env,(St s').heap++t⟩))(hn:(St s).heap.length=(St s').heap.length)(h1:qbw (St s).heap.length (St s').env=true)(h2:ki (St s).heap.length (St s').heap=true):yq p c St Ex s (.inl s'):=by
 obtain⟨t,h⟩:=h
 exact qex h (jmm hn rfl h1 h2)
theorem qfs {α:Type}{z:Nat}{f:α→qa}{l:List α}:sl z f (some l)=.list false z (l.map f):=rfl
theorem kc {α:Type}{z:Nat}{f:α→qa}:sl z f none=.list true 0 []:=rfl
abbrev Iv (n:Int):qa:=.int .i64 n
abbrev Lv {α:Type}(o:Option (List α)):qa:=.int .i64 ((o.getD []).length:Int)
abbrev Nl:qa:=.list true 0 []
abbrev aE (e:ql):qa:=.agg [.int .i64 e.number,.str e.kind,sl 1 qae e.names,sl 1 kr e.values,.str e.text]
abbrev aR (r:qc):qa:=.agg [.int .i64 r.day,sl 5 z7 r.lots,sl 4 zr r.products,sl 8 vun r.units]
abbrev aU (u:qf):qa:=.agg [.str u.name,.str u.product,.int .i64 u.version,sl 2 vsi u.uses,sl 3 zz u.results,.str u.partner,.bool u.shipped,.int .i64 u.complaints]
abbrev aL (l:qj):qa:=.agg [.str l.name,.str l.kind,.int .i64 l.count,.int .i64 l.left,.bool l.held]
abbrev aP (p:qi):qa:=.agg [.str p.name,sl 2 vsi p.dn,sl 3 zz p.dt,sl 2 qab p.docs]
abbrev aD (d:qr):qa:=.agg [sl 2 vsi d.needs,sl 3 zz d.tests]
abbrev aT (x:qk):qa:=.agg [.str x.k,.int .i64 x.a,.int .i64 x.b]
abbrev aN (x:qm):qa:=.agg [.str x.k,.int .i64 x.n]
abbrev aG (a:Int)(b:Option (List qj))(c:Option (List qi))(d:Option (List qf)):qa:=.agg [.int .i64 a,sl 5 z7 b,sl 4 zr c,sl 8 vun d]
abbrev kS (a:Int)(b:Option (List qj))(o1:Bool)(c:Option (List qi))(o2:Bool)(d:Option (List qf))(o3:Bool):qn:=.cells [(.int .i64 a,false),(sl 5 z7 b,o1),(sl 4 zr c,o2),(sl 8 vun d,o3)]
abbrev kR (a:Int)(b:Option (List qj))(c:Option (List qi))(d:Option (List qf)):qn:=.cells [(.int .i64 a,false),(sl 5 z7 b,false),(sl 4 zr c,false),(sl 8 vun d,false)]
abbrev kO:qn:=.cells [(Nl,false),(Nl,false),(Nl,false)]
abbrev kP4:qn:=.cells [(Nl,false),(Nl,false),(.vref 4 0 1,false)]
abbrev kP5:qn:=.cells [(Nl,false),(Nl,false),(.vref 5 0 1,false)]
abbrev kZ:qn:=.cells [(.int .i64 0,false),(Nl,false),(Nl,false),(Nl,false)]
abbrev aZ:qa:=.agg [.int .i64 0,Nl,Nl,Nl]
def om {α β:Type}(o:Option α)(f:α→β):Option β:=match o with
 |some x=>some (f x)
 |none=>none
@[go_sem] theorem zkh {α β:Type}{x:α}{f:α→β}:om (some x) f=some (f x):=rfl
theorem zn {h:j8}{α:Type}{z:Nat}{f:α→qa}{l:Option (List α)}{k:IntKind}{i:Int}:qcq z h (some (sl z f l)) (some (.int k i))=om (zo (l.getD []) i) fun x=>⟨.vptr (f x),false,none,h⟩:=by
 cases hx:zo (l.getD []) i with
 |some x=>exact ke hx
 |none=>
  have hi:qmf (l.getD []).length i=none:=by
   unfold zo at hx
   unfold qmf
   by_cases h0:0≤i
   ·rw[if_pos h0]at hx
    rw[if_neg]
    intro hc
    have:=List.getElem?_eq_none_iff.1 hx
    omega
   ·rw[if_neg (fun hc=>h0 hc.1)]
  cases l with
  |none=>simp only[sl,qcq,qhb,Option.getD_none,List.length_nil]at hi ⊢;rw[hi];simp[om]
  |some l=>simp only[sl,qcq,qhb,Option.getD_some,List.length_map]at hi ⊢;rw[hi];simp[om]
theorem q19 {h:j8}{s:List UInt8}{k:IntKind}{i:Int}:qh7 h (some (.str s)) (some (.int k i))=om (zo s i) fun c=>⟨.int .u8 (c.toNat:Int),false,none,h⟩:=by
 cases hx:zo s i with
 |some x=>exact jdc hx
 |none=>
  have hi:qmf s.length i=none:=by
   unfold zo at hx
   unfold qmf
   by_cases h0:0≤i
   ·rw[if_pos h0]at hx
    rw[if_neg]
    intro hc
    have:=List.getElem?_eq_none_iff.1 hx
    omega
   ·rw[if_neg (fun hc=>h0 hc.1)]
  simp only[qh7,qhb,hi,om]
theorem qiu {h:j8}{b pos:Nat}{s:List UInt8}:qik h b (some (.iter s pos))=cond (decide (pos<s.length)) (qcv (ym h b (.iter s (pos+(zg s pos).2))) (.tup [.bool true,.int .i64 pos,.int .i32 (zg s pos).1])) (some ⟨.tup [.bool false],false,none,h⟩):=by
 cases hx:decide (pos<s.length)with
 |true=>exact jt7 hx
 |false=>exact jps hx
theorem qa0 {h:j8}{α:Type}{z b t:Nat}{f:α→qa}{o2:Option (List α)}:appR (z+1) b h (some t) (some (.list false (z+1) [])) (some (sl (z+1) f o2))=ifR (decide (b≤4096)) (om (apO (some []) (o2.getD [])) fun v=>⟨sl (z+1) f v,true,some t,h⟩):=by
 cases hx:apO (some []) (o2.getD [])with
 |some x=>exact jcn hx
 |none=>
  unfold apO at hx
  split at hx
  ·cases hx
  rename_i hl
  simp only[Option.getD_some,List.length_nil]at hl
  simp only[appR,appR.appS,q2l,List.length_nil,List.length_map,qcf,dF hl,om]
  cases decide (b≤4096)<;>simp[ifR]
theorem qho {p:qm}{o v:Option (List qm)}(hv:apO o [p]=some v):(∀ {b t:Nat} {h:j8} {bb:Bool},appR 2 b h (some t) (some (sl 2 vsi o)) (some (.list bb 2 [.agg [.str p.k,.int .i64 p.n]]))=ifR (decide (b≤4096)) (some ⟨sl 2 vsi v,true,some t,h⟩))∧(∀ {b:Nat} {h:j8} {bb:Bool},o.isNone=true→appR 2 b h none (some (sl 2 vsi o)) (some (.list bb 2 [.agg [.str p.k,.int .i64 p.n]]))=ifR (decide (b≤4096)) (some ⟨sl 2 vsi v,true,none,h⟩)):=⟨jbv hv,jb1 hv⟩
theorem qgz {p:qk}{o v:Option (List qk)}(hv:apO o [p]=some v):(∀ {b t:Nat} {h:j8} {bb:Bool},appR 3 b h (some t) (some (sl 3 zz o)) (some (.list bb 3 [.agg [.str p.k,.int .i64 p.a,.int .i64 p.b]]))=ifR (decide (b≤4096)) (some ⟨sl 3 zz v,true,some t,h⟩))∧(∀ {b:Nat} {h:j8} {bb:Bool},o.isNone=true→appR 3 b h none (some (sl 3 zz o)) (some (.list bb 3 [.agg [.str p.k,.int .i64 p.a,.int .i64 p.b]]))=ifR (decide (b≤4096)) (some ⟨sl 3 zz v,true,none,h⟩)):=⟨q7p hv,q7n hv⟩
theorem qs8 {p:qj}{o v:Option (List qj)}(hv:apO o [p]=some v):(∀ {b t:Nat} {h:j8} {bb:Bool},appR 5 b h (some t) (some (sl 5 z7 o)) (some (.list bb 5 [.agg [.str p.name,.str p.kind,.int .i64 p.count,.int .i64 p.left,.bool p.held]]))=ifR (decide (b≤4096)) (some ⟨sl 5 z7 v,true,some t,h⟩))∧(∀ {b:Nat} {h:j8} {bb:Bool},o.isNone=true→appR 5 b h none (some (sl 5 z7 o)) (some (.list bb 5 [.agg [.str p.name,.str p.kind,.int .i64 p.count,.int .i64 p.left,.bool p.held]]))=ifR (decide (b≤4096)) (some ⟨sl 5 z7 v,true,none,h⟩)):=⟨qxf hv,qxw hv⟩
theorem qyu {p:qr}{o v:Option (List qr)}(hv:apO o [p]=some v):(∀ {b t:Nat} {h:j8} {bb:Bool},appR 2 b h (some t) (some (sl 2 qab o)) (some (.list bb 2 [.agg [sl 2 vsi p.needs,sl 3 zz p.tests]]))=ifR (decide (b≤4096)) (some ⟨sl 2 qab v,true,some t,h⟩))∧(∀ {b:Nat} {h:j8} {bb:Bool},o.isNone=true→appR 2 b h none (some (sl 2 qab o)) (some (.list bb 2 [.agg [sl 2 vsi p.needs,sl 3 zz p.tests]]))=ifR (decide (b≤4096)) (some ⟨sl 2 qab v,true,none,h⟩)):=⟨q78 hv,q9a hv⟩
theorem quj {p:qi}{o v:Option (List qi)}(hv:apO o [p]=some v):(∀ {b t:Nat} {h:j8} {bb:Bool},appR 4 b h (some t) (some (sl 4 zr o)) (some (.list bb 4 [.agg [.str p.name,sl 2 vsi p.dn,sl 3 zz p.dt,sl 2 qab p.docs]]))=ifR (decide (b≤4096)) (some ⟨sl 4 zr v,true,some t,h⟩))∧(∀ {b:Nat} {h:j8} {bb:Bool},o.isNone=true→appR 4 b h none (some (sl 4 zr o)) (some (.list bb 4 [.agg [.str p.name,sl 2 vsi p.dn,sl 3 zz p.dt,sl 2 qab p.docs]]))=ifR (decide (b≤4096)) (some ⟨sl 4 zr v,true,none,h⟩)):=⟨q5h hv,q52 hv⟩
theorem q2k {p:qf}{o v:Option (List qf)}(hv:apO o [p]=some v):(∀ {b t:Nat} {h:j8} {bb:Bool},appR 8 b h (some t) (some (sl 8 vun o)) (some (.list bb 8 [.agg [.str p.name,.str p.product,.int .i64 p.version,sl 2 vsi p.uses,sl 3 zz p.results,.str p.partner,.bool p.shipped,.int .i64 p.complaints]]))=ifR (decide (b≤4096)) (some ⟨sl 8 vun v,true,some t,h⟩))∧(∀ {b:Nat} {h:j8} {bb:Bool},o.isNone=true→appR 8 b h none (some (sl 8 vun o)) (some (.list bb 8 [.agg [.str p.name,.str p.product,.int .i64 p.version,sl 2 vsi p.uses,sl 3 zz p.results,.str p.partner,.bool p.shipped,.int .i64 p.complaints]]))=ifR (decide (b≤4096)) (some ⟨sl 8 vun v,true,none,h⟩)):=⟨jcs hv,ja3 hv⟩
theorem jln {p:qc}{o v:Option (List qc)}(hv:apO o [p]=some v):(∀ {b t:Nat} {h:j8} {bb:Bool},appR 4 b h (some t) (some (sl 4 yb o)) (some (.list bb 4 [.agg [.int .i64 p.day,sl 5 z7 p.lots,sl 4 zr p.products,sl 8 vun p.units]]))=ifR (decide (b≤4096)) (some ⟨sl 4 yb v,true,some t,h⟩))∧(∀ {b:Nat} {h:j8} {bb:Bool},o.isNone=true→appR 4 b h none (some (sl 4 yb o)) (some (.list bb 4 [.agg [.int .i64 p.day,sl 5 z7 p.lots,sl 4 zr p.products,sl 8 vun p.units]]))=ifR (decide (b≤4096)) (some ⟨sl 4 yb v,true,none,h⟩)):=⟨q76 hv,q7u hv⟩
theorem ja2 {p:ql}{o v:Option (List ql)}(hv:apO o [p]=some v):(∀ {b t:Nat} {h:j8} {bb:Bool},appR 5 b h (some t) (some (sl 5 vev o)) (some (.list bb 5 [.agg [.int .i64 p.number,.str p.kind,sl 1 qae p.names,sl 1 kr p.values,.str p.text]]))=ifR (decide (b≤4096)) (some ⟨sl 5 vev v,true,some t,h⟩))∧(∀ {b:Nat} {h:j8} {bb:Bool},o.isNone=true→appR 5 b h none (some (sl 5 vev o)) (some (.list bb 5 [.agg [.int .i64 p.number,.str p.kind,sl 1 qae p.names,sl 1 kr p.values,.str p.text]]))=ifR (decide (b≤4096)) (some ⟨sl 5 vev v,true,none,h⟩)):=⟨jca hv,jay hv⟩
theorem q59 {x:Int}{o v:Option (List Int)}(hv:apO o [x]=some v):(∀ {b t:Nat} {h:j8} {bb:Bool},appR 1 b h (some t) (some (sl 1 kr o)) (some (.list bb 1 [.int .i64 x]))=ifR (decide (b≤4096)) (some ⟨sl 1 kr v,true,some t,h⟩))∧(∀ {b:Nat} {h:j8} {bb:Bool},o.isNone=true→appR 1 b h none (some (sl 1 kr o)) (some (.list bb 1 [.int .i64 x]))=ifR (decide (b≤4096)) (some ⟨sl 1 kr v,true,none,h⟩)):=⟨q7v hv,q87 hv⟩
theorem q6d {x:List UInt8}{o v:Option (List (List UInt8))}(hv:apO o [x]=some v):(∀ {b t:Nat} {h:j8} {bb:Bool},appR 1 b h (some t) (some (sl 1 qae o)) (some (.list bb 1 [.str x]))=ifR (decide (b≤4096)) (some ⟨sl 1 qae v,true,some t,h⟩))∧(∀ {b:Nat} {h:j8} {bb:Bool},o.isNone=true→appR 1 b h none (some (sl 1 qae o)) (some (.list bb 1 [.str x]))=ifR (decide (b≤4096)) (some ⟨sl 1 qae v,true,none,h⟩)):=⟨q64 hv,fun hn=>qd2 (by omega) rfl hn hv⟩
theorem jo0 {α:Type}{o v:Option (List α)}{hi:Int}(hv:qlq o none (some hi)=some v):∀(h:j8) (z:Nat) (f:α→qa) (k:IntKind),qgu z h (some (sl z f o)) none (some (some (.int k hi)))=some ⟨sl z f v,false,none,h⟩:=fun _ _ _ _=>jkw hv
@[go_sem] theorem jy3 {n:Nat}{v:qa}:below n (.vptr v)=below n v:=rfl
structure ji where
 names:Int
 values:Int
 known:Bool
theorem jv8 {a0 b0:List UInt8}{a1 b1:Int}:kz [.str,.int] [.str a0,.int .i64 a1] [.str b0,.int .i64 b1]=some (decide (a0=b0)&&decide (a1=b1)):=by
 have e:∀x y:Int,(x == y)=decide (x=y):=fun x y=>by by_cases h:x=y<;>simp[h]
 have e':∀x y:List UInt8,(x == y)=decide (x=y):=fun x y=>by by_cases h:x=y<;>simp[h]
 have e2:∀x y:Bool,(x == y)=decide (x=y):=fun x y=>by cases x<;>cases y<;>rfl
 simp only[kz,qcm,e,e',e2,decide_true,cT]
 by_cases h0:a0=b0<;>by_cases h1:a1=b1<;>simp[h0,h1]
@[go_sem] theorem zje {h:j8}{a0 b0:List UInt8}{a1 b1:Int}:q2u [.str,.int] true h (some (.agg [.str a0,.int .i64 a1])) (some (.agg [.str b0,.int .i64 b1]))=some ⟨.bool (!(decide (a0=b0)&&decide (a1=b1))),false,none,h⟩:=by
 show(match kz [.str,.int] [.str a0,.int .i64 a1] [.str b0,.int .i64 b1]with|some t=>val h (.bool (bif true then !t else t))|none=>none)=_
 rw[jv8]
 rfl
theorem jtt {a0 b0:List UInt8}{a1 b1:Int}{a2 b2:Int}:kz [.str,.int,.int] [.str a0,.int .i64 a1,.int .i64 a2] [.str b0,.int .i64 b1,.int .i64 b2]=some (decide (a0=b0)&&decide (a1=b1)&&decide (a2=b2)):=by
 have e:∀x y:Int,(x == y)=decide (x=y):=fun x y=>by by_cases h:x=y<;>simp[h]
 have e':∀x y:List UInt8,(x == y)=decide (x=y):=fun x y=>by by_cases h:x=y<;>simp[h]
 have e2:∀x y:Bool,(x == y)=decide (x=y):=fun x y=>by cases x<;>cases y<;>rfl
 simp only[kz,qcm,e,e',e2,decide_true,cT]
 by_cases h0:a0=b0<;>by_cases h1:a1=b1<;>by_cases h2:a2=b2<;>simp[h0,h1,h2]
@[go_sem] theorem ziw {h:j8}{a0 b0:List UInt8}{a1 b1:Int}{a2 b2:Int}:q2u [.str,.int,.int] true h (some (.agg [.str a0,.int .i64 a1,.int .i64 a2])) (some (.agg [.str b0,.int .i64 b1,.int .i64 b2]))=some ⟨.bool (!(decide (a0=b0)&&decide (a1=b1)&&decide (a2=b2))),false,none,h⟩:=by
 show(match kz [.str,.int,.int] [.str a0,.int .i64 a1,.int .i64 a2] [.str b0,.int .i64 b1,.int .i64 b2]with|some t=>val h (.bool (bif true then !t else t))|none=>none)=_
 rw[jtt]
 rfl
theorem j3h {a0 b0:List UInt8}{a1 b1:List UInt8}{a2 b2:Int}{a3 b3:Int}{a4 b4:Bool}:kz [.str,.str,.int,.int,.bool] [.str a0,.str a1,.int .i64 a2,.int .i64 a3,.bool a4] [.str b0,.str b1,.int .i64 b2,.int .i64 b3,.bool b4]=some (decide (a0=b0)&&decide (a1=b1)&&decide (a2=b2)&&decide (a3=b3)&&decide (a4=b4)):=by
 have e:∀x y:Int,(x == y)=decide (x=y):=fun x y=>by by_cases h:x=y<;>simp[h]
 have e':∀x y:List UInt8,(x == y)=decide (x=y):=fun x y=>by by_cases h:x=y<;>simp[h]
 have e2:∀x y:Bool,(x == y)=decide (x=y):=fun x y=>by cases x<;>cases y<;>rfl
 simp only[kz,qcm,e,e',e2,decide_true,cT]
 by_cases h0:a0=b0<;>by_cases h1:a1=b1<;>by_cases h2:a2=b2<;>by_cases h3:a3=b3<;>by_cases h4:a4=b4<;>simp[h0,h1,h2,h3,h4]
@[go_sem] theorem zjh {h:j8}{a0 b0:List UInt8}{a1 b1:List UInt8}{a2 b2:Int}{a3 b3:Int}{a4 b4:Bool}:q2u [.str,.str,.int,.int,.bool] true h (some (.agg [.str a0,.str a1,.int .i64 a2,.int .i64 a3,.bool a4])) (some (.agg [.str b0,.str b1,.int .i64 b2,.int .i64 b3,.bool b4]))=some ⟨.bool (!(decide (a0=b0)&&decide (a1=b1)&&decide (a2=b2)&&decide (a3=b3)&&decide (a4=b4))),false,none,h⟩:=by
 show(match kz [.str,.str,.int,.int,.bool] [.str a0,.str a1,.int .i64 a2,.int .i64 a3,.bool a4] [.str b0,.str b1,.int .i64 b2,.int .i64 b3,.bool b4]with|some t=>val h (.bool (bif true then !t else t))|none=>none)=_
 rw[j3h]
 rfl
@[go_sem] theorem zhk {h0:Nat}{al:Option (List Nat)}{h:j8}{g:Fn}{a b:List qa}:qas h0 al false 1 h (some (.vptr (.fn g a b)))=some ⟨.fn g a b,false,none,h⟩:=rfl
def qiw (h:j8)(zero:qa)(r:Option (Option (Nat×qa))):Option qq:=match r with
 |some (some (_,v))=>some ⟨.tup [v,.bool true],false,none,h⟩
 |some none=>some ⟨.tup [zero,.bool false],false,none,h⟩
 |none=>none
@[go_sem] theorem jvy {h:j8}{z v:qa}{i:Nat}:qiw h z (some (some (i,v)))=some ⟨.tup [v,.bool true],false,none,h⟩:=rfl
@[go_sem] theorem jus {h:j8}{z:qa}:qiw h z (some none)=some ⟨.tup [z,.bool false],false,none,h⟩:=rfl
def qx8 (h:j8)(kd:Kd)(z kv:qa)(x:Option qn):Option qq:=match x with
 |some (.map es)=>qiw h z (yz kd kv es 0)
 |_=>none
@[go_sem] theorem j2a {h:j8}{kd:Kd}{z kv:qa}{es:List (qa×qa)}:qx8 h kd z kv (some (.map es))=qiw h z (yz kd kv es 0):=rfl
def quu (h0:Nat)(al:Option (List Nat))(h:j8)(kd:Kd)(z:qa)(m k:Option qa):Option qq:=match m,k with
 |some (.map b),some kv=>ifR (yv h0 al b) (qx8 h kd z kv h[b]?)
 |some .nilmap,some _=>some ⟨.tup [z,.bool false],false,none,h⟩
 |_,_=>none
@[go_sem] theorem jum {h0:Nat}{al:Option (List Nat)}{h:j8}{kd:Kd}{z kv:qa}{b:Nat}:quu h0 al h kd z (some (.map b)) (some kv)=ifR (yv h0 al b) (qx8 h kd z kv h[b]?):=rfl
@[go_sem] theorem j8s {p:qt}{xc:XC}{h0:Nat}{al:Option (List Nat)}{e:Env}{h:j8}{kd:Kd}{z:qa}{m k:qh}:j9 p xc h0 al e h (.lookup kd z true m k)=quu h0 al h kd z (zc e m) (zc e k):=by
 simp only[j9,qaf,quu]
 cases zc e m with
 |none=>cases zc e k<;>rfl
 |some v=>cases zc e k with
  |none=>cases v<;>rfl
  |some kv=>cases v with
   |map b=>
    simp only[ifR,y6,qx8,qiw]
    cases yv h0 al b with
    |false=>rfl
    |true=>
     simp only[cT]
     cases h[b]? with
     |none=>rfl
     |some x=>cases x with
      |map es=>
       simp only[]
       cases yz kd kv es 0 with
       |none=>rfl
       |some r=>cases r<;>rfl
      |_=>rfl
   |_=>rfl
theorem qsb {σ δ γ:Type}(n:Nat)(mk:Nat→σ)(f:σ→Option (σ⊕δ))(V:δ→γ)(r:Nat→γ)(hend:∃d,f (mk n)=some (.inr d)∧V d=r n)
  (hstep:∀i,i<n→(f (mk i)=some (.inl (mk (i+1)))∧r i=r (i+1))∨(∃d,f (mk i)=some (.inr d)∧V d=r i)):∃d,itO f (mk 0)=some d∧V d=r 0:=by
 have key:∀(k i:Nat),i+k=n→∃d,itO f (mk i)=some d∧V d=r i:=by
  intro k
  induction k with
  |zero=>
   intro i hi
   have:i=n:=by omega
   subst this
   obtain⟨d,h1,h2⟩:=hend
   exact⟨d,qa6 h1,h2⟩
  |succ k ih=>
   intro i hi
   rcases hstep i (by omega)with⟨h1,h2⟩|⟨d,h1,h2⟩
   ·rw[qec h1,h2];exact ih (i+1) (by omega)
   ·exact⟨d,qa6 h1,h2⟩
 exact key n 0 (by omega)
theorem qug {α δ:Type}(l:List α)(f:Int→Option (Int⊕δ))(q:α→Bool)(V:δ→Bool)(hend:∃d,f (l.length:Int)=some (.inr d)∧V d=true)
  (hstep:∀(i:Nat) x,l[i]?=some x→i<l.length→(q x=true∧f (i:Int)=some (.inl ((i+1:Nat):Int)))∨(q x=false∧∃d,f (i:Int)=some (.inr d)∧V d=false)):∃d,itO f 0=some d∧V d=l.all q:=by
 have:=qsb l.length (fun i=>(i:Int)) f V (fun i=>(l.drop i).all q) (by rw[List.drop_eq_nil_of_le (Nat.le_refl _)];exact hend) (fun i hi=>by
  obtain⟨x,hx⟩:∃x,l[i]?=some x:=⟨_,List.getElem?_eq_getElem hi⟩
  simp only[qcp hx,List.all_cons]
  rcases hstep i x hx hi with⟨h1,h2⟩|⟨h1,h2⟩
  ·rw[h1];exact .inl ⟨h2,rfl⟩
  ·rw[h1];exact .inr h2)
 simpa using this
theorem jfj {α β:Type}(l:List α)(ix:Nat→Int)(f:Option (List β)×Int×Bool→Option ((Option (List β)×Int×Bool)⊕(Option (List β)×Bool×Int)))(h:α→List β)(a0:List β)(I:Nat→List β→Prop)(hI:I 0 a0)
  (hend:∀a,f (yr a,ix l.length,qb9 a)=some (.inr (yr a,qb9 a,ix l.length)))
  (hstep:∀(i:Nat) x a,l[i]?=some x→i<l.length→I i a→I (i+1) (a++h x)∧f (yr a,ix i,qb9 a)=some (.inl (yr (a++h x),ix (i+1),qb9 (a++h x)))):
  itO f (yr a0,ix 0,qb9 a0)=some (yr (a0++l.flatMap h),qb9 (a0++l.flatMap h),ix l.length):=by
 have key:∀(k i:Nat),i+k=l.length→∀a,I i a→itO f (yr a,ix i,qb9 a)=some (yr (a++(l.drop i).flatMap h),qb9 (a++(l.drop i).flatMap h),ix l.length):=by
  intro k
  induction k with
  |zero=>
   intro i hi a _
   have:i=l.length:=by omega
   subst this
   rw[List.drop_eq_nil_of_le (Nat.le_refl _),List.flatMap_nil,List.append_nil,qa6 (hend a)]
  |succ k ih=>
   intro i hi a ha
   obtain⟨x,hx⟩:∃x,l[i]?=some x:=⟨_,List.getElem?_eq_getElem (by omega)⟩
   obtain⟨h1,h2⟩:=hstep i x a hx (by omega) ha
   rw[qec h2,ih (i+1) (by omega) _ h1,qcp hx,List.flatMap_cons,List.append_assoc]
 have:=key l.length 0 (by omega) a0 hI
 rwa [List.drop_zero]at this
theorem qv7 {α:Type}{a:List α}{x:α}(h:a.length<1073741824):apO (yr a) [x]=some (yr (a++[x])):=by
 unfold apO
 cases a with
 |nil=>rfl
 |cons y a=>
  have:((yr (y::a)).getD []).length + [x].length≤1073741824:=by simp[yr]at h ⊢;omega
  rw[if_pos this];rfl
theorem qet {α γ:Type}{a:List α}{x:α}{k:Option (List α)→Option γ}(h:a.length<1073741824):cond (qb9 a) (jw (apO (yr a) [x]) k) (cond (yr a).isNone (jw (apO (yr a) [x]) k) none)=k (yr (a++[x])):=by
 rw[qv7 h]
 cases a<;>rfl
theorem ko {α:Type}(a:List α):(yr a).getD []=a:=by cases a<;>rfl
theorem qii {α β:Type}(h:α→β):∀l:List α,l.flatMap (fun x=>[h x])=l.map h
 | []=>rfl
 |x::l=>by rw[List.flatMap_cons,qii h l];rfl
theorem z6 {α:Type}{l:List α}{i:Nat}{x:α}(hx:l[i]?=some x):zo l (i:Int)=some x:=by rw[jdy,hx]
theorem qal {α:Type}{l:List α}{i:Nat}(h:i<l.length):decide ((i:Int)<(l.length:Int))=true:=dT (by omega)
theorem ku {n:Nat}:decide ((n:Int)<(n:Int))=false:=dF (by omega)
end Go.Z
namespace Go.Z
open Go Go.Abs Go.W
def formsL:List (List UInt8×List UInt8×Int×Nat):=[(qd8,[45,45],2,105),(qbd,[45],1,106),(qc2,[112,45],2,107),(qc9,[112,45],3,108),(qdh,[112],1,109),(qc7,[45,112],1,110),(qd7,[117,108],2,111),(qbz,[117,45],2,112),(qcw,[117],1,113),(qda,[117,117],1,114),(qdw,[108],1,115),(qfg,[108],1,116),(qb6,[117],1,117),(qdk,[117],1,118),(qek,[],0,0)]
def fnv (k:Nat):qa:=bif Nat.beq k 0 then .nilfn else .fn (.func k) [] []
def qee (x:List UInt8):Option (List UInt8×List UInt8×Int×Nat):=formsL.find? fun f=>decide (x=f.1)
def yu (x:List UInt8):List UInt8:=match qee x with
 |some f=>f.2.1
 |none=>[]
def qdb (x:List UInt8):Int:=match qee x with
 |some f=>f.2.2.1
 |none=>0
def qf1 (x:List UInt8):qa:=match qee x with
 |some f=>fnv f.2.2.2
 |none=>.nilfn
def qoh (x:List UInt8):Bool:=(qee x).isSome
theorem qvm:ya=formsL.map fun f=>(.str f.1,.agg [.str f.2.1,.int .i64 f.2.2.1,fnv f.2.2.2]):=rfl
theorem qpa (x:List UInt8)(h:j8):∀(l:List (List UInt8×List UInt8×Int×Nat)) (n:Nat),yz .str (.str x) (l.map fun f=>(.str f.1,.agg [.str f.2.1,.int .i64 f.2.2.1,fnv f.2.2.2])) n=some none∧l.find? (fun f=>decide (x=f.1))=none∨∃i f,yz .str (.str x) (l.map fun f=>(.str f.1,.agg [.str f.2.1,.int .i64 f.2.2.1,fnv f.2.2.2])) n=some (some (i,.agg [.str f.2.1,.int .i64 f.2.2.1,fnv f.2.2.2]))∧l.find? (fun f=>decide (x=f.1))=some f
 | [],n=>.inl ⟨rfl,rfl⟩
 |f::l,n=>by
  have he:qcm .str (.str x) (.str f.1)=some (decide (x=f.1)):=by
   show some (x == f.1)=_
   by_cases hx:x=f.1<;>simp[hx]
  by_cases hx:x=f.1
  ·refine .inr ⟨n,f,?_,?_⟩
   ·simp only[List.map_cons,yz,he,dT hx]
   ·simp[List.find?,hx]
  ·rcases qpa x h l (n+1)with⟨h1,h2⟩|⟨i,g,h1,h2⟩
   ·exact .inl ⟨by simp only[List.map_cons,yz,he,hx,decide_false];exact h1,by simp only[List.find?,hx,decide_false];exact h2⟩
   ·exact .inr ⟨i,g,by simp only[List.map_cons,yz,he,hx,decide_false];exact h1,by simp only[List.find?,hx,decide_false];exact h2⟩
@[go_sem] theorem zgx {h:j8}{g:Fn}{a b:List qa}:qio false h (some (.fn g a b))=some ⟨.vptr (.fn g a b),false,none,h⟩:=rfl
@[go_sem] theorem zjo:pr.maps 50=some ya:=rfl
theorem jk5 {h:j8}(x:List UInt8):qiw h (.agg [.str [],.int .i64 0,.nilfn]) (yz .str (.str x) ya 0)=some ⟨.tup [.agg [.str (yu x),.int .i64 (qdb x),qf1 x],.bool (qoh x)],false,none,h⟩:=by
 rw[qvm]
 rcases qpa x h formsL 0 with⟨h1,h2⟩|⟨i,f,h1,h2⟩
 ·rw[h1];simp only[qiw,yu,qdb,qf1,qoh,qee,h2];rfl
 ·rw[h1];simp only[qiw,yu,qdb,qf1,qoh,qee,h2];rfl
theorem qw2 {h:j8}(x:List UInt8):qjt h (.agg [.str [],.int .i64 0,.nilfn]) (yz .str (.str x) ya 0)=some ⟨.agg [.str (yu x),.int .i64 (qdb x),qf1 x],false,none,h⟩:=by
 rw[qvm]
 rcases qpa x h formsL 0 with⟨h1,h2⟩|⟨i,f,h1,h2⟩
 ·rw[h1];simp only[qjt,yu,qdb,qf1,qee,h2];rfl
 ·rw[h1];simp only[qjt,yu,qdb,qf1,qee,h2];rfl
@[go_sem] theorem zig {x:List UInt8}:ze (qf1 x)=true:=by
 unfold qf1
 split
 ·rename_i f _;simp only[fnv];cases Nat.beq f.2.2.2 0<;>rfl
 ·rfl
def qba (l:List (List UInt8×Int)):List (qa×qa):=l.map fun p=>(.str p.1,.int .i64 p.2)
def qgc (l:List (List UInt8×Int))(k:List UInt8):Int:=match l.find? fun p=>decide (k=p.1)with
 |some p=>p.2
 |none=>0
def qeu:List (List UInt8×Int)→List UInt8→Int→List (List UInt8×Int)
 | [],k,v=>[(k,v)]
 |p::l,k,v=>if k=p.1 then(p.1,v)::l else p::qeu l k v
def q84 (l:List (List UInt8×Int))(k:List UInt8)(v:Int):Option (List (List UInt8×Int)):=if l.length≤1073741824 then some (qeu l k v)else none
theorem eqT {k s:List UInt8}:qcm .str (.str k) (.str s)=some (decide (k=s)):=by
 show some (k == s)=_
 by_cases hx:k=s<;>simp[hx]
theorem q74 (k:List UInt8):∀(l:List (List UInt8×Int)) (n:Nat),(yz .str (.str k) (qba l) n=some none∧l.find? (fun p=>decide (k=p.1))=none∧∀v,qba (qeu l k v)=qba l++[(.str k,.int .i64 v)])∨∃i p,yz .str (.str k) (qba l) n=some (some (n+i,.int .i64 p.2))∧l.find? (fun p=>decide (k=p.1))=some p∧∀v,qba (qeu l k v)=qde (qba l) i (.int .i64 v)
 | [],n=>.inl ⟨rfl,rfl,fun _=>rfl⟩
 |p::l,n=>by
  by_cases hx:k=p.1
  ·refine .inr ⟨0,p,?_,?_,fun v=>?_⟩
   ·simp only[qba,List.map_cons,yz,eqT,dT hx];rfl
   ·simp[List.find?,hx]
   ·simp only[qeu,if_pos hx];rfl
  ·rcases q74 k l (n+1)with⟨h1,h2,h3⟩|⟨i,q,h1,h2,h3⟩
   ·refine .inl ⟨?_,?_,fun v=>?_⟩
    ·simp only[qba,List.map_cons,yz,eqT,dF hx];exact h1
    ·simp only[List.find?,dF hx];exact h2
    ·simp only[qeu,if_neg hx]
     show _::qba (qeu l k v)=_
     rw[h3];rfl
   ·refine .inr ⟨i+1,q,?_,?_,fun v=>?_⟩
    ·simp only[qba,List.map_cons,yz,eqT,dF hx]
     rw[show n+(i+1)=n+1+i by omega];exact h1
    ·simp only[List.find?,dF hx];exact h2
    ·simp only[qeu,if_neg hx]
     show _::qba (qeu l k v)=_
     rw[h3];rfl
theorem jjz {h:j8}{l:List (List UInt8×Int)}{k:List UInt8}:qjt h (.int .i64 0) (yz .str (.str k) (qba l) 0)=some ⟨.int .i64 (qgc l k),false,none,h⟩:=by
 unfold qgc
 rcases q74 k l 0 with⟨h1,h2,_⟩|⟨i,p,h1,h2,_⟩<;>rw[h1,h2]<;>rfl
theorem jn2 {h:j8}{b:Nat}{l v:List (List UInt8×Int)}{k:List UInt8}{n:Int}(hv:q84 l k n=some v):qze h b (qba l) (.str k) (.int .i64 n) (yz .str (.str k) (qba l) 0)=qcv (ym h b (.map (qba v))) .undef:=by
 unfold q84 at hv
 split at hv
 ·rename_i hl
  cases hv
  rcases q74 k l 0 with⟨h1,h2,h3⟩|⟨i,p,h1,h2,h3⟩
  ·rw[h1,h3]
   have:Nat.ble (qba l).length 1073741824=true:=Nat.ble_eq_true_of_le (by rw[qba,List.length_map];exact hl)
   simp only[qze,this,ifR,cT]
  ·rw[h1,h3,Nat.zero_add];rfl
 ·cases hv
theorem ji2 {l:List (List UInt8×Int)}{k k':List UInt8}{v:Int}:qgc (qeu l k v) k'=if k'=k then v else qgc l k':=by
 induction l with
 |nil=>by_cases h:k'=k<;>simp[qeu,qgc,List.find?,h]
 |cons p l ih=>
  unfold qgc at ih ⊢
  by_cases hk:k=p.1
  ·by_cases h:k'=k
   ·subst h;simp[qeu,List.find?,←hk]
   ·have h2:¬k'=p.1:=by rw[←hk];exact h
    simp[qeu,List.find?,hk,h2]
  ·by_cases h2:k'=p.1
   ·have h3:¬k'=k:=by rw[h2];exact fun h=>hk h.symm
    have h4:¬p.1=k:=fun h=>hk h.symm
    simp[qeu,List.find?,hk,h2,h4]
   ·simp only[qeu,if_neg hk,List.find?,dF h2]
    exact ih
@[go_sem] theorem j7p {h0:Nat}{al:Option (List Nat)}{h:j8}{b:Nat}:qas h0 al false 1 h (some (.vptr (.map b)))=some ⟨.map b,false,none,h⟩:=rfl
@[go_sem] theorem q9p {n:Nat}{l:List (List UInt8×Int)}:qbp n (qba l)=true:=by
 induction l with
 |nil=>rfl
 |cons p l ih=>simp only[qba,List.map_cons,qbp,below,Bool.true_and];exact ih
@[go_sem] theorem jne {n:Nat}{l:List (List UInt8×Int)}:qcx n (.map (qba l))=true:=q9p
end Go.Z
