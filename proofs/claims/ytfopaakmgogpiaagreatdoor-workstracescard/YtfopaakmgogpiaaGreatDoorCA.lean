/- The structs of chapter 10 and their cells; what they are in plain lists. -/
import Derived.Test.YtfopaakmgogpiaaGreatDoorG0
import Derived.Test.YtfopaakmgogpiaaGreatDoorWS
set_option linter.unusedVariables false
set_option linter.unusedSimpArgs false
set_option maxRecDepth 100000
open Option renaming some→Eh,none→En,getD_some→Gl
open Bool renaming true→El,false→Eo,and_eq_true→Gk
open List renaming find?→Ev,map_cons→E5,getElem?_eq_none_iff→E6,getElem?_eq_getElem→E7,length_nil→Ga,length_map→Gb,drop_eq_nil_of_le→Gc,flatMap_cons→Gi
open Nat renaming blt→Gh
namespace Go.Z
open Go Go.Abs Go.W
def aV (p:qk):qa:=.agg [.str p.k,.int .i64 p.n]
@[go_sem] theorem zap {p:qk}:(aV p).flat=[.str p.k,.int .i64 p.n]:=rfl
@[go_sem] theorem jcc {n:Nat}(p:qk):below n (aV p)=El:=by rfl
@[go_sem] theorem jyp {n z:Nat}{l:Option (List qk)}:below n (sl z aV l)=El:=uI jcc
@[go_sem] theorem zda {p:qk}:qa.ah (aV p)=.ah (.agg [.str p.k,.int .i64 p.n]):=rfl
theorem jci {b t:Nat}{h:j8}{bb:Bool}{p:qk}{o v:Option (List qk)}(hv:bp o [p]=Eh v):bB 2 b h (Eh t) (Eh (sl 2 aV o)) (Eh (.list bb 2 [.agg [.str p.k,.int .i64 p.n]]))=bT (decide (b≤4096)) (Eh ⟨sl 2 aV v,El,Eh t,h⟩):=uN (x:=p) (by omega) rfl hv
theorem jbn {b:Nat}{h:j8}{bb:Bool}{p:qk}{o v:Option (List qk)}(hv:bp o [p]=Eh v)(hn:o.isNone=El):bB 2 b h En (Eh (sl 2 aV o)) (Eh (.list bb 2 [.agg [.str p.k,.int .i64 p.n]]))=bT (decide (b≤4096)) (Eh ⟨sl 2 aV v,El,En,h⟩):=uO (x:=p) (by omega) rfl hn hv
def zz (p:qi):qa:=.agg [.str p.k,.int .i64 p.a,.int .i64 p.b]
@[go_sem] theorem j66 {p:qi}:(zz p).flat=[.str p.k,.int .i64 p.a,.int .i64 p.b]:=rfl
@[go_sem] theorem q93 {n:Nat}(p:qi):below n (zz p)=El:=by rfl
@[go_sem] theorem juz {n z:Nat}{l:Option (List qi)}:below n (sl z zz l)=El:=uI q93
@[go_sem] theorem jcw {p:qi}:qa.ah (zz p)=.ah (.agg [.str p.k,.int .i64 p.a,.int .i64 p.b]):=rfl
theorem q92 {b t:Nat}{h:j8}{bb:Bool}{p:qi}{o v:Option (List qi)}(hv:bp o [p]=Eh v):bB 3 b h (Eh t) (Eh (sl 3 zz o)) (Eh (.list bb 3 [.agg [.str p.k,.int .i64 p.a,.int .i64 p.b]]))=bT (decide (b≤4096)) (Eh ⟨sl 3 zz v,El,Eh t,h⟩):=uN (x:=p) (by omega) rfl hv
theorem q7v {b:Nat}{h:j8}{bb:Bool}{p:qi}{o v:Option (List qi)}(hv:bp o [p]=Eh v)(hn:o.isNone=El):bB 3 b h En (Eh (sl 3 zz o)) (Eh (.list bb 3 [.agg [.str p.k,.int .i64 p.a,.int .i64 p.b]]))=bT (decide (b≤4096)) (Eh ⟨sl 3 zz v,El,En,h⟩):=uO (x:=p) (by omega) rfl hn hv
def z8 (p:qj):qa:=.agg [.str p.name,.str p.kind,.int .i64 p.count,.int .i64 p.left,.bool p.held]
@[go_sem] theorem j7r {p:qj}:(z8 p).flat=[.str p.name,.str p.kind,.int .i64 p.count,.int .i64 p.left,.bool p.held]:=rfl
@[go_sem] theorem q9n {n:Nat}(p:qj):below n (z8 p)=El:=by rfl
@[go_sem] theorem juh {n z:Nat}{l:Option (List qj)}:below n (sl z z8 l)=El:=uI q9n
@[go_sem] theorem qz1 {p:qj}:qa.ah (z8 p)=.ah (.agg [.str p.name,.str p.kind,.int .i64 p.count,.int .i64 p.left,.bool p.held]):=rfl
theorem qv6 {b t:Nat}{h:j8}{bb:Bool}{p:qj}{o v:Option (List qj)}(hv:bp o [p]=Eh v):bB 5 b h (Eh t) (Eh (sl 5 z8 o)) (Eh (.list bb 5 [.agg [.str p.name,.str p.kind,.int .i64 p.count,.int .i64 p.left,.bool p.held]]))=bT (decide (b≤4096)) (Eh ⟨sl 5 z8 v,El,Eh t,h⟩):=uN (x:=p) (by omega) rfl hv
theorem qve {b:Nat}{h:j8}{bb:Bool}{p:qj}{o v:Option (List qj)}(hv:bp o [p]=Eh v)(hn:o.isNone=El):bB 5 b h En (Eh (sl 5 z8 o)) (Eh (.list bb 5 [.agg [.str p.name,.str p.kind,.int .i64 p.count,.int .i64 p.left,.bool p.held]]))=bT (decide (b≤4096)) (Eh ⟨sl 5 z8 v,El,En,h⟩):=uO (x:=p) (by omega) rfl hn hv
structure qt where
 aF:Option (List qk)
 aB:Option (List qi)
def dp (p:qt):qa:=.agg [sl 2 aV p.aF,sl 3 zz p.aB]
@[go_sem] theorem j6g {p:qt}:(dp p).flat=[sl 2 aV p.aF,sl 3 zz p.aB]:=rfl
@[go_sem] theorem q7o {n:Nat}(p:qt):below n (dp p)=El:=by simp only[dp,go_sem]
@[go_sem] theorem jup {n z:Nat}{l:Option (List qt)}:below n (sl z dp l)=El:=uI q7o
@[go_sem] theorem j7j {p:qt}:qa.ah (dp p)=.ah (.agg [sl 2 aV p.aF,sl 3 zz p.aB]):=rfl
theorem q86 {b t:Nat}{h:j8}{bb:Bool}{p:qt}{o v:Option (List qt)}(hv:bp o [p]=Eh v):bB 2 b h (Eh t) (Eh (sl 2 dp o)) (Eh (.list bb 2 [.agg [sl 2 aV p.aF,sl 3 zz p.aB]]))=bT (decide (b≤4096)) (Eh ⟨sl 2 dp v,El,Eh t,h⟩):=uN (x:=p) (by omega) rfl hv
theorem q91 {b:Nat}{h:j8}{bb:Bool}{p:qt}{o v:Option (List qt)}(hv:bp o [p]=Eh v)(hn:o.isNone=El):bB 2 b h En (Eh (sl 2 dp o)) (Eh (.list bb 2 [.agg [sl 2 aV p.aF,sl 3 zz p.aB]]))=bT (decide (b≤4096)) (Eh ⟨sl 2 dp v,El,En,h⟩):=uO (x:=p) (by omega) rfl hn hv
structure qn where
 name:List UInt8
 dn:Option (List qk)
 dt:Option (List qi)
 aO:Option (List qt)
def zu (p:qn):qa:=.agg [.str p.name,sl 2 aV p.dn,sl 3 zz p.dt,sl 2 dp p.aO]
@[go_sem] theorem q8f {p:qn}:(zu p).flat=[.str p.name,sl 2 aV p.dn,sl 3 zz p.dt,sl 2 dp p.aO]:=rfl
@[go_sem] theorem q47 {n:Nat}(p:qn):below n (zu p)=El:=by simp only[zu,go_sem]
@[go_sem] theorem jt9 {n z:Nat}{l:Option (List qn)}:below n (sl z zu l)=El:=uI q47
@[go_sem] theorem jwm {p:qn}:qa.ah (zu p)=.ah (.agg [.str p.name,sl 2 aV p.dn,sl 3 zz p.dt,sl 2 dp p.aO]):=rfl
theorem q4v {b t:Nat}{h:j8}{bb:Bool}{p:qn}{o v:Option (List qn)}(hv:bp o [p]=Eh v):bB 4 b h (Eh t) (Eh (sl 4 zu o)) (Eh (.list bb 4 [.agg [.str p.name,sl 2 aV p.dn,sl 3 zz p.dt,sl 2 dp p.aO]]))=bT (decide (b≤4096)) (Eh ⟨sl 4 zu v,El,Eh t,h⟩):=uN (x:=p) (by omega) rfl hv
theorem q5e {b:Nat}{h:j8}{bb:Bool}{p:qn}{o v:Option (List qn)}(hv:bp o [p]=Eh v)(hn:o.isNone=El):bB 4 b h En (Eh (sl 4 zu o)) (Eh (.list bb 4 [.agg [.str p.name,sl 2 aV p.dn,sl 3 zz p.dt,sl 2 dp p.aO]]))=bT (decide (b≤4096)) (Eh ⟨sl 4 zu v,El,En,h⟩):=uO (x:=p) (by omega) rfl hn hv
structure qe where
 name:List UInt8
 product:List UInt8
 version:Int
 uses:Option (List qk)
 results:Option (List qi)
 partner:List UInt8
 ar:Bool
 aj:Int
def bf (p:qe):qa:=.agg [.str p.name,.str p.product,.int .i64 p.version,sl 2 aV p.uses,sl 3 zz p.results,.str p.partner,.bool p.ar,.int .i64 p.aj]
@[go_sem] theorem jdk {p:qe}:(bf p).flat=[.str p.name,.str p.product,.int .i64 p.version,sl 2 aV p.uses,sl 3 zz p.results,.str p.partner,.bool p.ar,.int .i64 p.aj]:=rfl
@[go_sem] theorem ja2 {n:Nat}(p:qe):below n (bf p)=El:=by simp only[bf,go_sem]
@[go_sem] theorem jw1 {n z:Nat}{l:Option (List qe)}:below n (sl z bf l)=El:=uI ja2
@[go_sem] theorem zd8 {p:qe}:qa.ah (bf p)=.ah (.agg [.str p.name,.str p.product,.int .i64 p.version,sl 2 aV p.uses,sl 3 zz p.results,.str p.partner,.bool p.ar,.int .i64 p.aj]):=rfl
theorem jaz {b t:Nat}{h:j8}{bb:Bool}{p:qe}{o v:Option (List qe)}(hv:bp o [p]=Eh v):bB 8 b h (Eh t) (Eh (sl 8 bf o)) (Eh (.list bb 8 [.agg [.str p.name,.str p.product,.int .i64 p.version,sl 2 aV p.uses,sl 3 zz p.results,.str p.partner,.bool p.ar,.int .i64 p.aj]]))=bT (decide (b≤4096)) (Eh ⟨sl 8 bf v,El,Eh t,h⟩):=uN (x:=p) (by omega) rfl hv
theorem jcv {b:Nat}{h:j8}{bb:Bool}{p:qe}{o v:Option (List qe)}(hv:bp o [p]=Eh v)(hn:o.isNone=El):bB 8 b h En (Eh (sl 8 bf o)) (Eh (.list bb 8 [.agg [.str p.name,.str p.product,.int .i64 p.version,sl 2 aV p.uses,sl 3 zz p.results,.str p.partner,.bool p.ar,.int .i64 p.aj]]))=bT (decide (b≤4096)) (Eh ⟨sl 8 bf v,El,En,h⟩):=uO (x:=p) (by omega) rfl hn hv
structure qc where
 day:Int
 aq:Option (List qj)
 ae:Option (List qn)
 units:Option (List qe)
def y8 (p:qc):qa:=.agg [.int .i64 p.day,sl 5 z8 p.aq,sl 4 zu p.ae,sl 8 bf p.units]
@[go_sem] theorem j6m {p:qc}:(y8 p).flat=[.int .i64 p.day,sl 5 z8 p.aq,sl 4 zu p.ae,sl 8 bf p.units]:=rfl
@[go_sem] theorem q9j {n:Nat}(p:qc):below n (y8 p)=El:=by simp only[y8,go_sem]
@[go_sem] theorem jvb {n z:Nat}{l:Option (List qc)}:below n (sl z y8 l)=El:=uI q9j
@[go_sem] theorem j7h {p:qc}:qa.ah (y8 p)=.ah (.agg [.int .i64 p.day,sl 5 z8 p.aq,sl 4 zu p.ae,sl 8 bf p.units]):=rfl
theorem q6t {b t:Nat}{h:j8}{bb:Bool}{p:qc}{o v:Option (List qc)}(hv:bp o [p]=Eh v):bB 4 b h (Eh t) (Eh (sl 4 y8 o)) (Eh (.list bb 4 [.agg [.int .i64 p.day,sl 5 z8 p.aq,sl 4 zu p.ae,sl 8 bf p.units]]))=bT (decide (b≤4096)) (Eh ⟨sl 4 y8 v,El,Eh t,h⟩):=uN (x:=p) (by omega) rfl hv
theorem q8j {b:Nat}{h:j8}{bb:Bool}{p:qc}{o v:Option (List qc)}(hv:bp o [p]=Eh v)(hn:o.isNone=El):bB 4 b h En (Eh (sl 4 y8 o)) (Eh (.list bb 4 [.agg [.int .i64 p.day,sl 5 z8 p.aq,sl 4 zu p.ae,sl 8 bf p.units]]))=bT (decide (b≤4096)) (Eh ⟨sl 4 y8 v,El,En,h⟩):=uO (x:=p) (by omega) rfl hn hv
structure ql where
 number:Int
 kind:List UInt8
 names:Option (List (List UInt8))
 values:Option (List Int)
 text:List UInt8
def vev (p:ql):qa:=.agg [.int .i64 p.number,.str p.kind,sl 1 yp p.names,sl 1 kn p.values,.str p.text]
@[go_sem] theorem zc7 {p:ql}:(vev p).flat=[.int .i64 p.number,.str p.kind,sl 1 yp p.names,sl 1 kn p.values,.str p.text]:=rfl
@[go_sem] theorem jch {n:Nat}(p:ql):below n (vev p)=El:=by simp only[vev,go_sem]
@[go_sem] theorem j1l {n z:Nat}{l:Option (List ql)}:below n (sl z vev l)=El:=uI jch
@[go_sem] theorem j9i {p:ql}:qa.ah (vev p)=.ah (.agg [.int .i64 p.number,.str p.kind,sl 1 yp p.names,sl 1 kn p.values,.str p.text]):=rfl
theorem jbb {b t:Nat}{h:j8}{bb:Bool}{p:ql}{o v:Option (List ql)}(hv:bp o [p]=Eh v):bB 5 b h (Eh t) (Eh (sl 5 vev o)) (Eh (.list bb 5 [.agg [.int .i64 p.number,.str p.kind,sl 1 yp p.names,sl 1 kn p.values,.str p.text]]))=bT (decide (b≤4096)) (Eh ⟨sl 5 vev v,El,Eh t,h⟩):=uN (x:=p) (by omega) rfl hv
theorem jac {b:Nat}{h:j8}{bb:Bool}{p:ql}{o v:Option (List ql)}(hv:bp o [p]=Eh v)(hn:o.isNone=El):bB 5 b h En (Eh (sl 5 vev o)) (Eh (.list bb 5 [.agg [.int .i64 p.number,.str p.kind,sl 1 yp p.names,sl 1 kn p.values,.str p.text]]))=bT (decide (b≤4096)) (Eh ⟨sl 5 vev v,El,En,h⟩):=uO (x:=p) (by omega) rfl hn hv
def qt.er (d:qt):jj:=⟨d.aF.getD [],d.aB.getD []⟩
def qn.er (p:qn):jh:=⟨p.name,⟨p.dn.getD [],p.dt.getD []⟩,(p.aO.getD []).map qt.er⟩
def qe.er (u:qe):qz:=⟨u.name,u.product,u.version,u.uses.getD [],u.results.getD [],u.partner,u.ar,u.aj⟩
def qc.er (r:qc):qu:=⟨r.day,r.aq.getD [],(r.ae.getD []).map qn.er,(r.units.getD []).map qe.er⟩
def ql.er (e:ql):je:=⟨e.number,e.kind,e.names.getD [],e.values.getD [],e.text⟩
end Go.Z
namespace Go.Z
open Go Go.Abs Go.W
theorem UU {hh:j8}:∀ {xs:List qa},zw 0 xs=El→lf hh xs=Eh xs
 | [],_=>rfl
 |x::xs,h=>by
  simp only[zw,Gk]at h
  have hx:iG hh x=Eh x:=by
   cases x with
   |ms b o n=>simp[Abs.below,Gh]at h
   |au b o n=>simp[Abs.below,Gh]at h
   |_=>rfl
  simp only[lf,hx,UU h.2]
theorem qrc {hh:j8}:∀ {xs:List qa},zw 0 xs=El→aA.bg hh xs=Eh xs
 | [],_=>rfl
 |x::xs,h=>by
  simp only[zw,Gk]at h
  have ih:=qrc (hh:=hh) h.2
  cases x with
  |agg cs=>
   have h1:=h.1
   simp only[Abs.below]at h1
   simp only[aA.bg,UU h1,ih]
  |ms b o n=>simp[Abs.below,Gh]at h
  |au b o n=>simp[Abs.below,Gh]at h
  |_=>simp only[aA.bg,iG,ih]
theorem qsa {hh:j8}{x:qa}(h:Abs.below 0 x=El):aA hh x=Eh x:=by
 cases x with
 |agg cs=>
  simp only[Abs.below]at h
  simp only[aA,UU h]
 |az vs=>
  simp only[Abs.below]at h
  simp only[aA,qrc h]
 |ms b o n=>simp[Abs.below,Gh]at h
 |au b o n=>simp[Abs.below,Gh]at h
 |_=>rfl
theorem yt {p:qr}{k:Nat}(f:qd){args:List qa}{v:qa}(hc:∃hh,DR f.results (X p f.body ⟨nZ 0 args,[]⟩)=some (v,false,hh))(hp:p.cq k=none:=by rfl)(hf:p.bH k=some f:=by rfl)(hl:Nat.ble args.length f.ntmps=true:=by rfl)(hv:below 0 v=true:=by first|rfl|simp only[go_sem,seval]):jz p (X p) k args=some (v,false):=by
 obtain⟨hh,hc⟩:=hc
 cases f with
 |mk n b r=>exact k9 hp (by rw[zh hf (Nat.le_of_ble_eq_true hl)];exact hc) (qsa hv) hv
theorem eh {p:qr}{k:Nat}(f:qd){args:List qa}{v:qa}{o:Bool}(hc:∃hh,DR f.results (X p f.body ⟨nZ 0 args,[]⟩)=some (v,o,hh))(hp:p.cq k=none:=by rfl)(hf:p.bH k=some f:=by rfl)(hn:Nat.ble args.length f.ntmps=true:=by rfl)(hv:below 0 v=true:=by first|rfl|simp only[go_sem,seval])(hl:v.cu=true:=by first|rfl|simp only[go_sem,seval]):jz p (X p) k args=some (v,o):=by
 obtain⟨hh,hc⟩:=hc
 cases f with
 |mk n b r=>exact qx8 hp (by rw[zh hf (Nat.le_of_ble_eq_true hn)];exact hc) (qsa hv) hv hl
theorem yo {σ δ:Type}{p:qr}{c:qg}{St:σ→qh}{Ex:δ→qo×qh}{s s':σ}(h:X p c (St s)=some (.normal,St s'))(hl:(St s').heap.length≤(St s).heap.length:=by exact Nat.le_refl _):y5 p c St Ex s (.inl s'):=DW h (GF hl)
theorem q53 {σ δ:Type}{p:qr}{c:qg}{St:σ→qh}{Ex:δ→qo×qh}{s s':σ}(h:∃t,X p c (St s)=Eh (.normal,⟨(St s').env,(St s').heap++t⟩))(hn:(St s).heap.length=(St s').heap.length)(h1:mf (St s).heap.length (St s').env=El)(h2:ko (St s).heap.length (St s').heap=El):y5 p c St Ex s (.inl s'):=by
 obtain⟨t,h⟩:=h
 exact DW h (jl9 hn rfl h1 h2)
theorem jN {α:Type}{z:Nat}{f:α→qa}{l:List α}:sl z f (Eh l)=.list Eo z (l.map f):=rfl
theorem ki {α:Type}{z:Nat}{f:α→qa}:sl z f En=.list El 0 []:=rfl
abbrev Iv (n:Int):qa:=.int .i64 n
abbrev Lv {α:Type}(o:Option (List α)):qa:=.int .i64 ((o.getD []).length:Int)
abbrev Nl:qa:=.list El 0 []
abbrev aE (e:ql):qa:=.agg [.int .i64 e.number,.str e.kind,sl 1 yp e.names,sl 1 kn e.values,.str e.text]
abbrev aR (r:qc):qa:=.agg [.int .i64 r.day,sl 5 z8 r.aq,sl 4 zu r.ae,sl 8 bf r.units]
abbrev aU (u:qe):qa:=.agg [.str u.name,.str u.product,.int .i64 u.version,sl 2 aV u.uses,sl 3 zz u.results,.str u.partner,.bool u.ar,.int .i64 u.aj]
abbrev aL (l:qj):qa:=.agg [.str l.name,.str l.kind,.int .i64 l.count,.int .i64 l.left,.bool l.held]
abbrev aP (p:qn):qa:=.agg [.str p.name,sl 2 aV p.dn,sl 3 zz p.dt,sl 2 dp p.aO]
abbrev aD (d:qt):qa:=.agg [sl 2 aV d.aF,sl 3 zz d.aB]
abbrev aT (x:qi):qa:=.agg [.str x.k,.int .i64 x.a,.int .i64 x.b]
abbrev aN (x:qk):qa:=.agg [.str x.k,.int .i64 x.n]
abbrev aG (a:Int)(b:Option (List qj))(c:Option (List qn))(d:Option (List qe)):qa:=.agg [.int .i64 a,sl 5 z8 b,sl 4 zu c,sl 8 bf d]
abbrev kS (a:Int)(b:Option (List qj))(o1:Bool)(c:Option (List qn))(o2:Bool)(d:Option (List qe))(o3:Bool):qm:=.cells [(.int .i64 a,Eo),(sl 5 z8 b,o1),(sl 4 zu c,o2),(sl 8 bf d,o3)]
abbrev kR (a:Int)(b:Option (List qj))(c:Option (List qn))(d:Option (List qe)):qm:=.cells [(.int .i64 a,Eo),(sl 5 z8 b,Eo),(sl 4 zu c,Eo),(sl 8 bf d,Eo)]
abbrev kO:qm:=.cells [(Nl,Eo),(Nl,Eo),(Nl,Eo)]
abbrev bR:qm:=.cells [(Nl,Eo),(Nl,Eo),(.au 5 0 1,Eo)]
abbrev kZ:qm:=.cells [(.int .i64 0,Eo),(Nl,Eo),(Nl,Eo),(Nl,Eo)]
abbrev aZ:qa:=.agg [.int .i64 0,Nl,Nl,Nl]
def om {α β:Type}(o:Option α)(f:α→β):Option β:=match o with
 |some x=>Eh (f x)
 |none=>En
@[go_sem] theorem zkc {α β:Type}{x:α}{f:α→β}:om (Eh x) f=Eh (f x):=rfl
theorem zn {h:j8}{α:Type}{z:Nat}{f:α→qa}{l:Option (List α)}{k:IntKind}{i:Int}:jL z h (Eh (sl z f l)) (Eh (.int k i))=om (zq (l.getD []) i) fun x=>⟨.ah (f x),Eo,En,h⟩:=by
 cases hx:zq (l.getD []) i with
 |some x=>exact ky hx
 |none=>
  have hi:uH (l.getD []).length i=En:=by
   unfold zq at hx
   unfold uH
   by_cases h0:0≤i
   ·rw[if_pos h0]at hx
    rw[if_neg]
    intro hc
    have:=E6.1 hx
    omega
   ·rw[if_neg (fun hc=>h0 hc.1)]
  cases l with
  |none=>simp only[sl,jL,xF,Option.getD_none,Ga]at hi ⊢;rw[hi];simp[om]
  |some l=>simp only[sl,jL,xF,Gl,Gb]at hi ⊢;rw[hi];simp[om]
theorem q3b {h:j8}{s:List UInt8}{k:IntKind}{i:Int}:AA h (Eh (.str s)) (Eh (.int k i))=om (zq s i) fun c=>⟨.int .u8 (c.toNat:Int),Eo,En,h⟩:=by
 cases hx:zq s i with
 |some x=>exact jhn hx
 |none=>
  have hi:uH s.length i=En:=by
   unfold zq at hx
   unfold uH
   by_cases h0:0≤i
   ·rw[if_pos h0]at hx
    rw[if_neg]
    intro hc
    have:=E6.1 hx
    omega
   ·rw[if_neg (fun hc=>h0 hc.1)]
  simp only[AA,xF,hi,om]
theorem xH {h:j8}{b pos:Nat}{s:List UInt8}:uL h b (Eh (.iter s pos))=cond (decide (pos<s.length)) (gV (yj h b (.iter s (pos+(zf s pos).2))) (.az [.bool El,.int .i64 pos,.int .i32 (zf s pos).1])) (Eh ⟨.az [.bool Eo],Eo,En,h⟩):=by
 cases hx:decide (pos<s.length)with
 |true=>exact jsk hx
 |false=>exact jql hx
theorem lX {h:j8}{α:Type}{z b t:Nat}{f:α→qa}{o2:Option (List α)}:bB (z+1) b h (Eh t) (Eh (.list Eo (z+1) [])) (Eh (sl (z+1) f o2))=bT (decide (b≤4096)) (om (bp (Eh []) (o2.getD [])) fun v=>⟨sl (z+1) f v,El,Eh t,h⟩):=by
 cases hx:bp (Eh []) (o2.getD [])with
 |some x=>exact jck hx
 |none=>
  unfold bp at hx
  split at hx
  ·cases hx
  rename_i hl
  simp only[Gl,Ga]at hl
  simp only[bB,bB.gW,Uy,Ga,Gb,mQ,dF hl,om]
  cases decide (b≤4096)<;>simp[bT]
theorem AF {p:qk}{o v:Option (List qk)}(hv:bp o [p]=Eh v):(∀ {b t:Nat} {h:j8} {bb:Bool},bB 2 b h (Eh t) (Eh (sl 2 aV o)) (Eh (.list bb 2 [.agg [.str p.k,.int .i64 p.n]]))=bT (decide (b≤4096)) (Eh ⟨sl 2 aV v,El,Eh t,h⟩))∧(∀ {b:Nat} {h:j8} {bb:Bool},o.isNone=El→bB 2 b h En (Eh (sl 2 aV o)) (Eh (.list bb 2 [.agg [.str p.k,.int .i64 p.n]]))=bT (decide (b≤4096)) (Eh ⟨sl 2 aV v,El,En,h⟩)):=⟨jci hv,jbn hv⟩
theorem DX {p:qi}{o v:Option (List qi)}(hv:bp o [p]=Eh v):(∀ {b t:Nat} {h:j8} {bb:Bool},bB 3 b h (Eh t) (Eh (sl 3 zz o)) (Eh (.list bb 3 [.agg [.str p.k,.int .i64 p.a,.int .i64 p.b]]))=bT (decide (b≤4096)) (Eh ⟨sl 3 zz v,El,Eh t,h⟩))∧(∀ {b:Nat} {h:j8} {bb:Bool},o.isNone=El→bB 3 b h En (Eh (sl 3 zz o)) (Eh (.list bb 3 [.agg [.str p.k,.int .i64 p.a,.int .i64 p.b]]))=bT (decide (b≤4096)) (Eh ⟨sl 3 zz v,El,En,h⟩)):=⟨q92 hv,q7v hv⟩
theorem UW {p:qj}{o v:Option (List qj)}(hv:bp o [p]=Eh v):(∀ {b t:Nat} {h:j8} {bb:Bool},bB 5 b h (Eh t) (Eh (sl 5 z8 o)) (Eh (.list bb 5 [.agg [.str p.name,.str p.kind,.int .i64 p.count,.int .i64 p.left,.bool p.held]]))=bT (decide (b≤4096)) (Eh ⟨sl 5 z8 v,El,Eh t,h⟩))∧(∀ {b:Nat} {h:j8} {bb:Bool},o.isNone=El→bB 5 b h En (Eh (sl 5 z8 o)) (Eh (.list bb 5 [.agg [.str p.name,.str p.kind,.int .i64 p.count,.int .i64 p.left,.bool p.held]]))=bT (decide (b≤4096)) (Eh ⟨sl 5 z8 v,El,En,h⟩)):=⟨qv6 hv,qve hv⟩
theorem q5w {p:qt}{o v:Option (List qt)}(hv:bp o [p]=Eh v):(∀ {b t:Nat} {h:j8} {bb:Bool},bB 2 b h (Eh t) (Eh (sl 2 dp o)) (Eh (.list bb 2 [.agg [sl 2 aV p.aF,sl 3 zz p.aB]]))=bT (decide (b≤4096)) (Eh ⟨sl 2 dp v,El,Eh t,h⟩))∧(∀ {b:Nat} {h:j8} {bb:Bool},o.isNone=El→bB 2 b h En (Eh (sl 2 dp o)) (Eh (.list bb 2 [.agg [sl 2 aV p.aF,sl 3 zz p.aB]]))=bT (decide (b≤4096)) (Eh ⟨sl 2 dp v,El,En,h⟩)):=⟨q86 hv,q91 hv⟩
theorem q4b {p:qn}{o v:Option (List qn)}(hv:bp o [p]=Eh v):(∀ {b t:Nat} {h:j8} {bb:Bool},bB 4 b h (Eh t) (Eh (sl 4 zu o)) (Eh (.list bb 4 [.agg [.str p.name,sl 2 aV p.dn,sl 3 zz p.dt,sl 2 dp p.aO]]))=bT (decide (b≤4096)) (Eh ⟨sl 4 zu v,El,Eh t,h⟩))∧(∀ {b:Nat} {h:j8} {bb:Bool},o.isNone=El→bB 4 b h En (Eh (sl 4 zu o)) (Eh (.list bb 4 [.agg [.str p.name,sl 2 aV p.dn,sl 3 zz p.dt,sl 2 dp p.aO]]))=bT (decide (b≤4096)) (Eh ⟨sl 4 zu v,El,En,h⟩)):=⟨q4v hv,q5e hv⟩
theorem UX {p:qe}{o v:Option (List qe)}(hv:bp o [p]=Eh v):(∀ {b t:Nat} {h:j8} {bb:Bool},bB 8 b h (Eh t) (Eh (sl 8 bf o)) (Eh (.list bb 8 [.agg [.str p.name,.str p.product,.int .i64 p.version,sl 2 aV p.uses,sl 3 zz p.results,.str p.partner,.bool p.ar,.int .i64 p.aj]]))=bT (decide (b≤4096)) (Eh ⟨sl 8 bf v,El,Eh t,h⟩))∧(∀ {b:Nat} {h:j8} {bb:Bool},o.isNone=El→bB 8 b h En (Eh (sl 8 bf o)) (Eh (.list bb 8 [.agg [.str p.name,.str p.product,.int .i64 p.version,sl 2 aV p.uses,sl 3 zz p.results,.str p.partner,.bool p.ar,.int .i64 p.aj]]))=bT (decide (b≤4096)) (Eh ⟨sl 8 bf v,El,En,h⟩)):=⟨jaz hv,jcv hv⟩
theorem jmz {p:qc}{o v:Option (List qc)}(hv:bp o [p]=Eh v):(∀ {b t:Nat} {h:j8} {bb:Bool},bB 4 b h (Eh t) (Eh (sl 4 y8 o)) (Eh (.list bb 4 [.agg [.int .i64 p.day,sl 5 z8 p.aq,sl 4 zu p.ae,sl 8 bf p.units]]))=bT (decide (b≤4096)) (Eh ⟨sl 4 y8 v,El,Eh t,h⟩))∧(∀ {b:Nat} {h:j8} {bb:Bool},o.isNone=El→bB 4 b h En (Eh (sl 4 y8 o)) (Eh (.list bb 4 [.agg [.int .i64 p.day,sl 5 z8 p.aq,sl 4 zu p.ae,sl 8 bf p.units]]))=bT (decide (b≤4096)) (Eh ⟨sl 4 y8 v,El,En,h⟩)):=⟨q6t hv,q8j hv⟩
theorem jqd {p:ql}{o v:Option (List ql)}(hv:bp o [p]=Eh v):(∀ {b t:Nat} {h:j8} {bb:Bool},bB 5 b h (Eh t) (Eh (sl 5 vev o)) (Eh (.list bb 5 [.agg [.int .i64 p.number,.str p.kind,sl 1 yp p.names,sl 1 kn p.values,.str p.text]]))=bT (decide (b≤4096)) (Eh ⟨sl 5 vev v,El,Eh t,h⟩))∧(∀ {b:Nat} {h:j8} {bb:Bool},o.isNone=El→bB 5 b h En (Eh (sl 5 vev o)) (Eh (.list bb 5 [.agg [.int .i64 p.number,.str p.kind,sl 1 yp p.names,sl 1 kn p.values,.str p.text]]))=bT (decide (b≤4096)) (Eh ⟨sl 5 vev v,El,En,h⟩)):=⟨jbb hv,jac hv⟩
theorem q51 {x:Int}{o v:Option (List Int)}(hv:bp o [x]=Eh v):(∀ {b t:Nat} {h:j8} {bb:Bool},bB 1 b h (Eh t) (Eh (sl 1 kn o)) (Eh (.list bb 1 [.int .i64 x]))=bT (decide (b≤4096)) (Eh ⟨sl 1 kn v,El,Eh t,h⟩))∧(∀ {b:Nat} {h:j8} {bb:Bool},o.isNone=El→bB 1 b h En (Eh (sl 1 kn o)) (Eh (.list bb 1 [.int .i64 x]))=bT (decide (b≤4096)) (Eh ⟨sl 1 kn v,El,En,h⟩)):=⟨q6n hv,q81 hv⟩
theorem DY {x:List UInt8}{o v:Option (List (List UInt8))}(hv:bp o [x]=Eh v):(∀ {b t:Nat} {h:j8} {bb:Bool},bB 1 b h (Eh t) (Eh (sl 1 yp o)) (Eh (.list bb 1 [.str x]))=bT (decide (b≤4096)) (Eh ⟨sl 1 yp v,El,Eh t,h⟩))∧(∀ {b:Nat} {h:j8} {bb:Bool},o.isNone=El→bB 1 b h En (Eh (sl 1 yp o)) (Eh (.list bb 1 [.str x]))=bT (decide (b≤4096)) (Eh ⟨sl 1 yp v,El,En,h⟩)):=⟨q8t hv,fun hn=>uO (by omega) rfl hn hv⟩
theorem jp0 {α:Type}{o v:Option (List α)}{hi:Int}(hv:xI o En (Eh hi)=Eh v):∀(h:j8) (z:Nat) (f:α→qa) (k:IntKind),qQ z h (Eh (sl z f o)) En (Eh (Eh (.int k hi)))=Eh ⟨sl z f v,Eo,En,h⟩:=fun _ _ _ _=>jks hv
@[go_sem] theorem jzq {n:Nat}{v:qa}:below n (.ah v)=below n v:=rfl
structure ji where
 names:Int
 values:Int
 known:Bool
theorem jtx {a0 b0:List UInt8}{a1 b1:Int}{a2 b2:Int}:gL [.str,.int,.int] [.str a0,.int .i64 a1,.int .i64 a2] [.str b0,.int .i64 b1,.int .i64 b2]=Eh (decide (a0=b0)&&decide (a1=b1)&&decide (a2=b2)):=by
 have e:∀x y:Int,(x == y)=decide (x=y):=fun x y=>by by_cases h:x=y<;>simp[h]
 have e':∀x y:List UInt8,(x == y)=decide (x=y):=fun x y=>by by_cases h:x=y<;>simp[h]
 have e2:∀x y:Bool,(x == y)=decide (x=y):=fun x y=>by cases x<;>cases y<;>rfl
 simp only[gL,mc,e,e',e2,decide_true,cT]
 by_cases h0:a0=b0<;>by_cases h1:a1=b1<;>by_cases h2:a2=b2<;>simp[h0,h1,h2]
@[go_sem] theorem zik {h:j8}{a0 b0:List UInt8}{a1 b1:Int}{a2 b2:Int}:UY [.str,.int,.int] El h (Eh (.agg [.str a0,.int .i64 a1,.int .i64 a2])) (Eh (.agg [.str b0,.int .i64 b1,.int .i64 b2]))=Eh ⟨.bool (!(decide (a0=b0)&&decide (a1=b1)&&decide (a2=b2))),Eo,En,h⟩:=by
 show(match gL [.str,.int,.int] [.str a0,.int .i64 a1,.int .i64 a2] [.str b0,.int .i64 b1,.int .i64 b2]with|some t=>val h (.bool (bif El then !t else t))|none=>En)=_
 rw[jtx]
 rfl
@[go_sem] theorem zgm {h0:Nat}{al:Option (List Nat)}{h:j8}{g:Fn}{a b:List qa}:fN h0 al Eo 1 h (Eh (.ah (.fn g a b)))=Eh ⟨.fn g a b,Eo,En,h⟩:=rfl
def xJ (h:j8)(zero:qa)(r:Option (Option (Nat×qa))):Option qq:=match r with
 |some (Eh (_,v))=>Eh ⟨.az [v,.bool El],Eo,En,h⟩
 |some En=>Eh ⟨.az [zero,.bool Eo],Eo,En,h⟩
 |none=>En
@[go_sem] theorem jum {h:j8}{z v:qa}{i:Nat}:xJ h z (Eh (Eh (i,v)))=Eh ⟨.az [v,.bool El],Eo,En,h⟩:=rfl
@[go_sem] theorem jvg {h:j8}{z:qa}:xJ h z (Eh En)=Eh ⟨.az [z,.bool Eo],Eo,En,h⟩:=rfl
def Ns (h:j8)(kd:Kd)(z kv:qa)(x:Option qm):Option qq:=match x with
 |some (.map es)=>xJ h z (yz kd kv es 0)
 |_=>En
@[go_sem] theorem j1d {h:j8}{kd:Kd}{z kv:qa}{es:List (qa×qa)}:Ns h kd z kv (Eh (.map es))=xJ h z (yz kd kv es 0):=rfl
def UZ (h0:Nat)(al:Option (List Nat))(h:j8)(kd:Kd)(z:qa)(m k:Option qa):Option qq:=match m,k with
 |some (.map b),Eh kv=>bT (yw h0 al b) (Ns h kd z kv h[b]?)
 |some .bM,Eh _=>Eh ⟨.az [z,.bool Eo],Eo,En,h⟩
 |_,_=>En
@[go_sem] theorem jo2 {h0:Nat}{al:Option (List Nat)}{h:j8}{kd:Kd}{z kv:qa}{b:Nat}:UZ h0 al h kd z (Eh (.map b)) (Eh kv)=bT (yw h0 al b) (Ns h kd z kv h[b]?):=rfl
@[go_sem] theorem j6x {p:qr}{xc:XC}{h0:Nat}{al:Option (List Nat)}{e:Env}{h:j8}{kd:Kd}{z:qa}{m k:qf}:za p xc h0 al e h (.lookup kd z El m k)=UZ h0 al h kd z (zd e m) (zd e k):=by
 simp only[za,gZ,UZ]
 cases zd e m with
 |none=>cases zd e k<;>rfl
 |some v=>cases zd e k with
  |none=>cases v<;>rfl
  |some kv=>cases v with
   |map b=>
    simp only[bT,y7,Ns,xJ]
    cases yw h0 al b with
    |false=>rfl
    |true=>
     simp only[cT]
     cases h[b]? with
     |none=>rfl
     |some x=>cases x with
      |map es=>
       simp only[]
       cases yz kd kv es 0 with
       |none=>rfl
       |some r=>cases r<;>rfl
      |_=>rfl
   |_=>rfl
theorem GX {σ δ γ:Type}(n:Nat)(mk:Nat→σ)(f:σ→Option (σ⊕δ))(V:δ→γ)(r:Nat→γ)(cN:∃d,f (mk n)=Eh (.inr d)∧V d=r n)
  (b9:∀i,i<n→(f (mk i)=Eh (.inl (mk (i+1)))∧r i=r (i+1))∨(∃d,f (mk i)=Eh (.inr d)∧V d=r i)):∃d,bj f (mk 0)=Eh d∧V d=r 0:=by
 have key:∀(k i:Nat),i+k=n→∃d,bj f (mk i)=Eh d∧V d=r i:=by
  intro k
  induction k with
  |zero=>
   intro i hi
   have:i=n:=by omega
   subst this
   obtain⟨d,h1,h2⟩:=cN
   exact⟨d,jO h1,h2⟩
  |succ k ih=>
   intro i hi
   rcases b9 i (by omega)with⟨h1,h2⟩|⟨d,h1,h2⟩
   ·rw[pi h1,h2];exact ih (i+1) (by omega)
   ·exact⟨d,jO h1,h2⟩
 exact key n 0 (by omega)
theorem Nt {α δ:Type}(l:List α)(f:Int→Option (Int⊕δ))(q:α→Bool)(V:δ→Bool)(cN:∃d,f (l.length:Int)=Eh (.inr d)∧V d=El)
  (b9:∀(i:Nat) x,l[i]?=Eh x→i<l.length→(q x=El∧f (i:Int)=Eh (.inl ((i+1:Nat):Int)))∨(q x=Eo∧∃d,f (i:Int)=Eh (.inr d)∧V d=Eo)):∃d,bj f 0=Eh d∧V d=l.all q:=by
 have:=GX l.length (fun i=>(i:Int)) f V (fun i=>(l.drop i).all q) (by rw[Gc (Nat.le_refl _)];exact cN) (fun i hi=>by
  obtain⟨x,hx⟩:∃x,l[i]?=Eh x:=⟨_,E7 hi⟩
  simp only[uP hx,List.all_cons]
  rcases b9 i x hx hi with⟨h1,h2⟩|⟨h1,h2⟩
  ·rw[h1];exact .inl ⟨h2,rfl⟩
  ·rw[h1];exact .inr h2)
 simpa using this
theorem jhh {α β:Type}(l:List α)(ix:Nat→Int)(f:Option (List β)×Int×Bool→Option ((Option (List β)×Int×Bool)⊕(Option (List β)×Bool×Int)))(h:α→List β)(a0:List β)(I:Nat→List β→Prop)(hI:I 0 a0)
  (cN:∀a,f (yg a,ix l.length,gG a)=Eh (.inr (yg a,gG a,ix l.length)))
  (b9:∀(i:Nat) x a,l[i]?=Eh x→i<l.length→I i a→I (i+1) (a++h x)∧f (yg a,ix i,gG a)=Eh (.inl (yg (a++h x),ix (i+1),gG (a++h x)))):
  bj f (yg a0,ix 0,gG a0)=Eh (yg (a0++l.flatMap h),gG (a0++l.flatMap h),ix l.length):=by
 have key:∀(k i:Nat),i+k=l.length→∀a,I i a→bj f (yg a,ix i,gG a)=Eh (yg (a++(l.drop i).flatMap h),gG (a++(l.drop i).flatMap h),ix l.length):=by
  intro k
  induction k with
  |zero=>
   intro i hi a _
   have:i=l.length:=by omega
   subst this
   rw[Gc (Nat.le_refl _),List.flatMap_nil,List.append_nil,jO (cN a)]
  |succ k ih=>
   intro i hi a ha
   obtain⟨x,hx⟩:∃x,l[i]?=Eh x:=⟨_,E7 (by omega)⟩
   obtain⟨h1,h2⟩:=b9 i x a hx (by omega) ha
   rw[pi h2,ih (i+1) (by omega) _ h1,uP hx,Gi,List.append_assoc]
 have:=key l.length 0 (by omega) a0 hI
 rwa [List.drop_zero]at this
theorem qxv {α:Type}{a:List α}{x:α}(h:a.length<1073741824):bp (yg a) [x]=Eh (yg (a++[x])):=by
 unfold bp
 cases a with
 |nil=>rfl
 |cons y a=>
  have:((yg (y::a)).getD []).length + [x].length≤1073741824:=by simp[yg]at h ⊢;omega
  rw[if_pos this];rfl
theorem xK {α γ:Type}{a:List α}{x:α}{k:Option (List α)→Option γ}(h:a.length<1073741824):cond (gG a) (jx (bp (yg a) [x]) k) (cond (yg a).isNone (jx (bp (yg a) [x]) k) En)=k (yg (a++[x])):=by
 rw[qxv h]
 cases a<;>rfl
theorem yq {α:Type}(a:List α):(yg a).getD []=a:=by cases a<;>rfl
theorem Nu {α β:Type}(h:α→β):∀l:List α,l.flatMap (fun x=>[h x])=l.map h
 | []=>rfl
 |x::l=>by rw[Gi,Nu h l];rfl
theorem yb {α:Type}{l:List α}{i:Nat}{x:α}(hx:l[i]?=Eh x):zq l (i:Int)=Eh x:=by rw[jgl,hx]
theorem gH {α:Type}{l:List α}{i:Nat}(h:i<l.length):decide ((i:Int)<(l.length:Int))=El:=dT (by omega)
theorem fU {n:Nat}:decide ((n:Int)<(n:Int))=Eo:=dF (by omega)
end Go.Z
namespace Go.Z
open Go Go.Abs Go.W
def iu:List (List UInt8×List UInt8×Int×Nat):=[(lY,[45,45],2,105),(mR,[45],1,106),(lZ,[112,45],2,107),(mS,[112,45],3,108),(pj,[112],1,109),(l0,[45,112],1,110),(l3,[117,108],2,111),(oj,[117,45],2,112),(pk,[117],1,113),(mT,[117,117],1,114),(nG,[108],1,115),(qR,[108],1,116),(kH,[117],1,117),(xM,[117],1,118),(ol,[],0,0)]
def fnv (k:Nat):qa:=bif Nat.beq k 0 then .bX else .fn (.func k) [] []
def oo (x:List UInt8):Option (List UInt8×List UInt8×Int×Nat):=iu.find? fun f=>decide (x=f.1)
def yu (x:List UInt8):List UInt8:=match oo x with
 |some f=>f.2.1
 |none=>[]
def mU (x:List UInt8):Int:=match oo x with
 |some f=>f.2.2.1
 |none=>0
def lE (x:List UInt8):qa:=match oo x with
 |some f=>fnv f.2.2.2
 |none=>.bX
def DZ (x:List UInt8):Bool:=(oo x).isSome
theorem qwq:ya=iu.map fun f=>(.str f.1,.agg [.str f.2.1,.int .i64 f.2.2.1,fnv f.2.2.2]):=rfl
theorem U0 (x:List UInt8)(h:j8):∀(l:List (List UInt8×List UInt8×Int×Nat)) (n:Nat),yz .str (.str x) (l.map fun f=>(.str f.1,.agg [.str f.2.1,.int .i64 f.2.2.1,fnv f.2.2.2])) n=Eh En∧l.find? (fun f=>decide (x=f.1))=En∨∃i f,yz .str (.str x) (l.map fun f=>(.str f.1,.agg [.str f.2.1,.int .i64 f.2.2.1,fnv f.2.2.2])) n=Eh (Eh (i,.agg [.str f.2.1,.int .i64 f.2.2.1,fnv f.2.2.2]))∧l.find? (fun f=>decide (x=f.1))=Eh f
 | [],n=>.inl ⟨rfl,rfl⟩
 |f::l,n=>by
  have he:mc .str (.str x) (.str f.1)=Eh (decide (x=f.1)):=by
   show Eh (x == f.1)=_
   by_cases hx:x=f.1<;>simp[hx]
  by_cases hx:x=f.1
  ·refine .inr ⟨n,f,?_,?_⟩
   ·simp only[E5,yz,he,dT hx]
   ·simp[Ev,hx]
  ·rcases U0 x h l (n+1)with⟨h1,h2⟩|⟨i,g,h1,h2⟩
   ·exact .inl ⟨by simp only[E5,yz,he,hx,decide_false];exact h1,by simp only[Ev,hx,decide_false];exact h2⟩
   ·exact .inr ⟨i,g,by simp only[E5,yz,he,hx,decide_false];exact h1,by simp only[Ev,hx,decide_false];exact h2⟩
@[go_sem] theorem zfz {h:j8}{g:Fn}{a b:List qa}:uK Eo h (Eh (.fn g a b))=Eh ⟨.ah (.fn g a b),Eo,En,h⟩:=rfl
@[go_sem] theorem zja:pr.maps 50=Eh ya:=rfl
theorem jmv {h:j8}(x:List UInt8):xJ h (.agg [.str [],.int .i64 0,.bX]) (yz .str (.str x) ya 0)=Eh ⟨.az [.agg [.str (yu x),.int .i64 (mU x),lE x],.bool (DZ x)],Eo,En,h⟩:=by
 rw[qwq]
 rcases U0 x h iu 0 with⟨h1,h2⟩|⟨i,f,h1,h2⟩
 ·rw[h1];simp only[xJ,yu,mU,lE,DZ,oo,h2];rfl
 ·rw[h1];simp only[xJ,yu,mU,lE,DZ,oo,h2];rfl
theorem Nv {h:j8}(x:List UInt8):vR h (.agg [.str [],.int .i64 0,.bX]) (yz .str (.str x) ya 0)=Eh ⟨.agg [.str (yu x),.int .i64 (mU x),lE x],Eo,En,h⟩:=by
 rw[qwq]
 rcases U0 x h iu 0 with⟨h1,h2⟩|⟨i,f,h1,h2⟩
 ·rw[h1];simp only[vR,yu,mU,lE,oo,h2];rfl
 ·rw[h1];simp only[vR,yu,mU,lE,oo,h2];rfl
@[go_sem] theorem zh3 {x:List UInt8}:ze (lE x)=El:=by
 unfold lE
 split
 ·rename_i f _;simp only[fnv];cases Nat.beq f.2.2.2 0<;>rfl
 ·rfl
def en (l:List (List UInt8×Int)):List (qa×qa):=l.map fun p=>(.str p.1,.int .i64 p.2)
def l4 (l:List (List UInt8×Int))(k:List UInt8):Int:=match l.find? fun p=>decide (k=p.1)with
 |some p=>p.2
 |none=>0
def kI:List (List UInt8×Int)→List UInt8→Int→List (List UInt8×Int)
 | [],k,v=>[(k,v)]
 |p::l,k,v=>if k=p.1 then(p.1,v)::l else p::kI l k v
def Nw (l:List (List UInt8×Int))(k:List UInt8)(v:Int):Option (List (List UInt8×Int)):=if l.length≤1073741824 then Eh (kI l k v)else En
theorem U1 {k s:List UInt8}:mc .str (.str k) (.str s)=Eh (decide (k=s)):=by
 show Eh (k == s)=_
 by_cases hx:k=s<;>simp[hx]
theorem U2 (k:List UInt8):∀(l:List (List UInt8×Int)) (n:Nat),(yz .str (.str k) (en l) n=Eh En∧l.find? (fun p=>decide (k=p.1))=En∧∀v,en (kI l k v)=en l++[(.str k,.int .i64 v)])∨∃i p,yz .str (.str k) (en l) n=Eh (Eh (n+i,.int .i64 p.2))∧l.find? (fun p=>decide (k=p.1))=Eh p∧∀v,en (kI l k v)=pG (en l) i (.int .i64 v)
 | [],n=>.inl ⟨rfl,rfl,fun _=>rfl⟩
 |p::l,n=>by
  by_cases hx:k=p.1
  ·refine .inr ⟨0,p,?_,?_,fun v=>?_⟩
   ·simp only[en,E5,yz,U1,dT hx];rfl
   ·simp[Ev,hx]
   ·simp only[kI,if_pos hx];rfl
  ·rcases U2 k l (n+1)with⟨h1,h2,h3⟩|⟨i,q,h1,h2,h3⟩
   ·refine .inl ⟨?_,?_,fun v=>?_⟩
    ·simp only[en,E5,yz,U1,dF hx];exact h1
    ·simp only[Ev,dF hx];exact h2
    ·simp only[kI,if_neg hx]
     show _::en (kI l k v)=_
     rw[h3];rfl
   ·refine .inr ⟨i+1,q,?_,?_,fun v=>?_⟩
    ·simp only[en,E5,yz,U1,dF hx]
     rw[show n+(i+1)=n+1+i by omega];exact h1
    ·simp only[Ev,dF hx];exact h2
    ·simp only[kI,if_neg hx]
     show _::en (kI l k v)=_
     rw[h3];rfl
theorem jj6 {h:j8}{l:List (List UInt8×Int)}{k:List UInt8}:vR h (.int .i64 0) (yz .str (.str k) (en l) 0)=Eh ⟨.int .i64 (l4 l k),Eo,En,h⟩:=by
 unfold l4
 rcases U2 k l 0 with⟨h1,h2,_⟩|⟨i,p,h1,h2,_⟩<;>rw[h1,h2]<;>rfl
theorem jom {h:j8}{b:Nat}{l v:List (List UInt8×Int)}{k:List UInt8}{n:Int}(hv:Nw l k n=Eh v):DU h b (en l) (.str k) (.int .i64 n) (yz .str (.str k) (en l) 0)=gV (yj h b (.map (en v))) .undef:=by
 unfold Nw at hv
 split at hv
 ·rename_i hl
  cases hv
  rcases U2 k l 0 with⟨h1,h2,h3⟩|⟨i,p,h1,h2,h3⟩
  ·rw[h1,h3]
   have:Nat.ble (en l).length 1073741824=El:=Nat.ble_eq_true_of_le (by rw[en,Gb];exact hl)
   simp only[DU,this,bT,cT]
  ·rw[h1,h3,Nat.zero_add];rfl
 ·cases hv
theorem jhi {l:List (List UInt8×Int)}{k k':List UInt8}{v:Int}:l4 (kI l k v) k'=if k'=k then v else l4 l k':=by
 induction l with
 |nil=>by_cases h:k'=k<;>simp[kI,l4,Ev,h]
 |cons p l ih=>
  unfold l4 at ih ⊢
  by_cases hk:k=p.1
  ·by_cases h:k'=k
   ·subst h;simp[kI,Ev,←hk]
   ·have h2:¬k'=p.1:=by rw[←hk];exact h
    simp[kI,Ev,hk,h2]
  ·by_cases h2:k'=p.1
   ·have h3:¬k'=k:=by rw[h2];exact fun h=>hk h.symm
    have h4:¬p.1=k:=fun h=>hk h.symm
    simp[kI,Ev,hk,h2,h4]
   ·simp only[kI,if_neg hk,Ev,dF h2]
    exact ih
@[go_sem] theorem j7p {h0:Nat}{al:Option (List Nat)}{h:j8}{b:Nat}:fN h0 al Eo 1 h (Eh (.ah (.map b)))=Eh ⟨.map b,Eo,En,h⟩:=rfl
@[go_sem] theorem q7q {n:Nat}{l:List (List UInt8×Int)}:uf n (en l)=El:=by
 induction l with
 |nil=>rfl
 |cons p l ih=>simp only[en,E5,uf,below,Bool.true_and];exact ih
@[go_sem] theorem jne {n:Nat}{l:List (List UInt8×Int)}:oN n (.map (en l))=El:=q7q
end Go.Z
