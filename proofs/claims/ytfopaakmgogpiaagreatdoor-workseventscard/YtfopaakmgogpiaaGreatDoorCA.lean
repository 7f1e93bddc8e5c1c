/- The structs of chapter 10 and their cells; what they are in plain lists. -/
import Derived.Test.YtfopaakmgogpiaaGreatDoorG0
import Derived.Test.YtfopaakmgogpiaaGreatDoorAbsL
import Derived.Test.YtfopaakmgogpiaaGreatDoorWS
import Derived.Test.YtfopaakmgogpiaaGreatDoorL1
import Derived.Test.YtfopaakmgogpiaaGreatDoorZC
import Derived.Test.YtfopaakmgogpiaaGreatDoorAbsH
set_option linter.unusedVariables false
set_option linter.unusedSimpArgs false
set_option maxRecDepth 100000
namespace Go.Z
open Go Go.Abs Go.W
def vsi (p:GSI):AVal:=.agg [.str p.k,.int .i64 p.n]
@[go_sem] theorem j8v {p:GSI}:(vsi p).flat=[.str p.k,.int .i64 p.n]:=rfl
@[go_sem] theorem jbg {n:Nat} (p:GSI):below n (vsi p)=true:=by rfl
@[go_sem] theorem jv2 {n z:Nat} {l:Option (List GSI)}:below n (sl z vsi l)=true:=qcn jbg
@[go_sem] theorem j8m {p:GSI}:AVal.vptr (vsi p)=.vptr (.agg [.str p.k,.int .i64 p.n]):=rfl
theorem q9q {b t:Nat} {h:qf} {bb:Bool} {p:GSI} {o v:Option (List GSI)} (hv:apO o [p]=some v):appR 2 b h (some t) (some (sl 2 vsi o)) (some (.list bb 2 [.agg [.str p.k,.int .i64 p.n]]))=ifR (decide (b≤4096)) (some ⟨sl 2 vsi v,true,some t,h⟩):=qe9 (x:=p) (by omega) rfl hv
theorem ja6 {b:Nat} {h:qf} {bb:Bool} {p:GSI} {o v:Option (List GSI)} (hv:apO o [p]=some v) (hn:o.isNone=true):appR 2 b h none (some (sl 2 vsi o)) (some (.list bb 2 [.agg [.str p.k,.int .i64 p.n]]))=ifR (decide (b≤4096)) (some ⟨sl 2 vsi v,true,none,h⟩):=qcr (x:=p) (by omega) rfl hn hv
def je (p:qu):AVal:=.agg [.str p.k,.int .i64 p.a,.int .i64 p.b]
@[go_sem] theorem j5x {p:qu}:(je p).flat=[.str p.k,.int .i64 p.a,.int .i64 p.b]:=rfl
@[go_sem] theorem q5z {n:Nat} (p:qu):below n (je p)=true:=by rfl
@[go_sem] theorem jt2 {n z:Nat} {l:Option (List qu)}:below n (sl z je l)=true:=qcn q5z
@[go_sem] theorem q9v {p:qu}:AVal.vptr (je p)=.vptr (.agg [.str p.k,.int .i64 p.a,.int .i64 p.b]):=rfl
theorem q7b {b t:Nat} {h:qf} {bb:Bool} {p:qu} {o v:Option (List qu)} (hv:apO o [p]=some v):appR 3 b h (some t) (some (sl 3 je o)) (some (.list bb 3 [.agg [.str p.k,.int .i64 p.a,.int .i64 p.b]]))=ifR (decide (b≤4096)) (some ⟨sl 3 je v,true,some t,h⟩):=qe9 (x:=p) (by omega) rfl hv
theorem q8x {b:Nat} {h:qf} {bb:Bool} {p:qu} {o v:Option (List qu)} (hv:apO o [p]=some v) (hn:o.isNone=true):appR 3 b h none (some (sl 3 je o)) (some (.list bb 3 [.agg [.str p.k,.int .i64 p.a,.int .i64 p.b]]))=ifR (decide (b≤4096)) (some ⟨sl 3 je v,true,none,h⟩):=qcr (x:=p) (by omega) rfl hn hv
def jg (p:qt):AVal:=.agg [.str p.name,.str p.kind,.int .i64 p.count,.int .i64 p.left,.bool p.held]
@[go_sem] theorem j6g {p:qt}:(jg p).flat=[.str p.name,.str p.kind,.int .i64 p.count,.int .i64 p.left,.bool p.held]:=rfl
@[go_sem] theorem q8m {n:Nat} (p:qt):below n (jg p)=true:=by rfl
@[go_sem] theorem jua {n z:Nat} {l:Option (List qt)}:below n (sl z jg l)=true:=qcn q8m
@[go_sem] theorem qy3 {p:qt}:AVal.vptr (jg p)=.vptr (.agg [.str p.name,.str p.kind,.int .i64 p.count,.int .i64 p.left,.bool p.held]):=rfl
theorem qwp {b t:Nat} {h:qf} {bb:Bool} {p:qt} {o v:Option (List qt)} (hv:apO o [p]=some v):appR 5 b h (some t) (some (sl 5 jg o)) (some (.list bb 5 [.agg [.str p.name,.str p.kind,.int .i64 p.count,.int .i64 p.left,.bool p.held]]))=ifR (decide (b≤4096)) (some ⟨sl 5 jg v,true,some t,h⟩):=qe9 (x:=p) (by omega) rfl hv
theorem qv1 {b:Nat} {h:qf} {bb:Bool} {p:qt} {o v:Option (List qt)} (hv:apO o [p]=some v) (hn:o.isNone=true):appR 5 b h none (some (sl 5 jg o)) (some (.list bb 5 [.agg [.str p.name,.str p.kind,.int .i64 p.count,.int .i64 p.left,.bool p.held]]))=ifR (decide (b≤4096)) (some ⟨sl 5 jg v,true,none,h⟩):=qcr (x:=p) (by omega) rfl hn hv
structure GDoc where
 needs:Option (List GSI)
 tests:Option (List qu)
def yb (p:GDoc):AVal:=.agg [sl 2 vsi p.needs,sl 3 je p.tests]
@[go_sem] theorem j5b {p:GDoc}:(yb p).flat=[sl 2 vsi p.needs,sl 3 je p.tests]:=rfl
@[go_sem] theorem q8l {n:Nat} (p:GDoc):below n (yb p)=true:=by simp only [yb,go_sem]
@[go_sem] theorem jt4 {n z:Nat} {l:Option (List GDoc)}:below n (sl z yb l)=true:=qcn q8l
@[go_sem] theorem j7j {p:GDoc}:AVal.vptr (yb p)=.vptr (.agg [sl 2 vsi p.needs,sl 3 je p.tests]):=rfl
theorem q6r {b t:Nat} {h:qf} {bb:Bool} {p:GDoc} {o v:Option (List GDoc)} (hv:apO o [p]=some v):appR 2 b h (some t) (some (sl 2 yb o)) (some (.list bb 2 [.agg [sl 2 vsi p.needs,sl 3 je p.tests]]))=ifR (decide (b≤4096)) (some ⟨sl 2 yb v,true,some t,h⟩):=qe9 (x:=p) (by omega) rfl hv
theorem q8j {b:Nat} {h:qf} {bb:Bool} {p:GDoc} {o v:Option (List GDoc)} (hv:apO o [p]=some v) (hn:o.isNone=true):appR 2 b h none (some (sl 2 yb o)) (some (.list bb 2 [.agg [sl 2 vsi p.needs,sl 3 je p.tests]]))=ifR (decide (b≤4096)) (some ⟨sl 2 yb v,true,none,h⟩):=qcr (x:=p) (by omega) rfl hn hv
structure GProd where
 name:List UInt8
 dn:Option (List GSI)
 dt:Option (List qu)
 docs:Option (List GDoc)
def qz (p:GProd):AVal:=.agg [.str p.name,sl 2 vsi p.dn,sl 3 je p.dt,sl 2 yb p.docs]
@[go_sem] theorem q76 {p:GProd}:(qz p).flat=[.str p.name,sl 2 vsi p.dn,sl 3 je p.dt,sl 2 yb p.docs]:=rfl
@[go_sem] theorem q4e {n:Nat} (p:GProd):below n (qz p)=true:=by simp only [qz,go_sem]
@[go_sem] theorem jmh {n z:Nat} {l:Option (List GProd)}:below n (sl z qz l)=true:=qcn q4e
@[go_sem] theorem j2q {p:GProd}:AVal.vptr (qz p)=.vptr (.agg [.str p.name,sl 2 vsi p.dn,sl 3 je p.dt,sl 2 yb p.docs]):=rfl
theorem q4h {b t:Nat} {h:qf} {bb:Bool} {p:GProd} {o v:Option (List GProd)} (hv:apO o [p]=some v):appR 4 b h (some t) (some (sl 4 qz o)) (some (.list bb 4 [.agg [.str p.name,sl 2 vsi p.dn,sl 3 je p.dt,sl 2 yb p.docs]]))=ifR (decide (b≤4096)) (some ⟨sl 4 qz v,true,some t,h⟩):=qe9 (x:=p) (by omega) rfl hv
theorem q32 {b:Nat} {h:qf} {bb:Bool} {p:GProd} {o v:Option (List GProd)} (hv:apO o [p]=some v) (hn:o.isNone=true):appR 4 b h none (some (sl 4 qz o)) (some (.list bb 4 [.agg [.str p.name,sl 2 vsi p.dn,sl 3 je p.dt,sl 2 yb p.docs]]))=ifR (decide (b≤4096)) (some ⟨sl 4 qz v,true,none,h⟩):=qcr (x:=p) (by omega) rfl hn hv
structure GUn where
 name:List UInt8
 product:List UInt8
 version:Int
 uses:Option (List GSI)
 results:Option (List qu)
 partner:List UInt8
 shipped:Bool
 complaints:Int
def vun (p:GUn):AVal:=.agg [.str p.name,.str p.product,.int .i64 p.version,sl 2 vsi p.uses,sl 3 je p.results,.str p.partner,.bool p.shipped,.int .i64 p.complaints]
@[go_sem] theorem jfz {p:GUn}:(vun p).flat=[.str p.name,.str p.product,.int .i64 p.version,sl 2 vsi p.uses,sl 3 je p.results,.str p.partner,.bool p.shipped,.int .i64 p.complaints]:=rfl
@[go_sem] theorem jar {n:Nat} (p:GUn):below n (vun p)=true:=by simp only [vun,go_sem]
@[go_sem] theorem j1a {n z:Nat} {l:Option (List GUn)}:below n (sl z vun l)=true:=qcn jar
@[go_sem] theorem j9v {p:GUn}:AVal.vptr (vun p)=.vptr (.agg [.str p.name,.str p.product,.int .i64 p.version,sl 2 vsi p.uses,sl 3 je p.results,.str p.partner,.bool p.shipped,.int .i64 p.complaints]):=rfl
theorem jap {b t:Nat} {h:qf} {bb:Bool} {p:GUn} {o v:Option (List GUn)} (hv:apO o [p]=some v):appR 8 b h (some t) (some (sl 8 vun o)) (some (.list bb 8 [.agg [.str p.name,.str p.product,.int .i64 p.version,sl 2 vsi p.uses,sl 3 je p.results,.str p.partner,.bool p.shipped,.int .i64 p.complaints]]))=ifR (decide (b≤4096)) (some ⟨sl 8 vun v,true,some t,h⟩):=qe9 (x:=p) (by omega) rfl hv
theorem q96 {b:Nat} {h:qf} {bb:Bool} {p:GUn} {o v:Option (List GUn)} (hv:apO o [p]=some v) (hn:o.isNone=true):appR 8 b h none (some (sl 8 vun o)) (some (.list bb 8 [.agg [.str p.name,.str p.product,.int .i64 p.version,sl 2 vsi p.uses,sl 3 je p.results,.str p.partner,.bool p.shipped,.int .i64 p.complaints]]))=ifR (decide (b≤4096)) (some ⟨sl 8 vun v,true,none,h⟩):=qcr (x:=p) (by omega) rfl hn hv
structure GReg where
 day:Int
 lots:Option (List qt)
 products:Option (List GProd)
 units:Option (List GUn)
def jj (p:GReg):AVal:=.agg [.int .i64 p.day,sl 5 jg p.lots,sl 4 qz p.products,sl 8 vun p.units]
@[go_sem] theorem j6h {p:GReg}:(jj p).flat=[.int .i64 p.day,sl 5 jg p.lots,sl 4 qz p.products,sl 8 vun p.units]:=rfl
@[go_sem] theorem q82 {n:Nat} (p:GReg):below n (jj p)=true:=by simp only [jj,go_sem]
@[go_sem] theorem jtq {n z:Nat} {l:Option (List GReg)}:below n (sl z jj l)=true:=qcn q82
@[go_sem] theorem j6l {p:GReg}:AVal.vptr (jj p)=.vptr (.agg [.int .i64 p.day,sl 5 jg p.lots,sl 4 qz p.products,sl 8 vun p.units]):=rfl
theorem q55 {b t:Nat} {h:qf} {bb:Bool} {p:GReg} {o v:Option (List GReg)} (hv:apO o [p]=some v):appR 4 b h (some t) (some (sl 4 jj o)) (some (.list bb 4 [.agg [.int .i64 p.day,sl 5 jg p.lots,sl 4 qz p.products,sl 8 vun p.units]]))=ifR (decide (b≤4096)) (some ⟨sl 4 jj v,true,some t,h⟩):=qe9 (x:=p) (by omega) rfl hv
theorem q8k {b:Nat} {h:qf} {bb:Bool} {p:GReg} {o v:Option (List GReg)} (hv:apO o [p]=some v) (hn:o.isNone=true):appR 4 b h none (some (sl 4 jj o)) (some (.list bb 4 [.agg [.int .i64 p.day,sl 5 jg p.lots,sl 4 qz p.products,sl 8 vun p.units]]))=ifR (decide (b≤4096)) (some ⟨sl 4 jj v,true,none,h⟩):=qcr (x:=p) (by omega) rfl hn hv
structure GEv where
 number:Int
 kind:List UInt8
 names:Option (List (List UInt8))
 values:Option (List Int)
 text:List UInt8
def vev (p:GEv):AVal:=.agg [.int .i64 p.number,.str p.kind,sl 1 ye p.names,sl 1 zw p.values,.str p.text]
@[go_sem] theorem j9k {p:GEv}:(vev p).flat=[.int .i64 p.number,.str p.kind,sl 1 ye p.names,sl 1 zw p.values,.str p.text]:=rfl
@[go_sem] theorem q9u {n:Nat} (p:GEv):below n (vev p)=true:=by simp only [vev,go_sem]
@[go_sem] theorem j2u {n z:Nat} {l:Option (List GEv)}:below n (sl z vev l)=true:=qcn q9u
@[go_sem] theorem zf5 {p:GEv}:AVal.vptr (vev p)=.vptr (.agg [.int .i64 p.number,.str p.kind,sl 1 ye p.names,sl 1 zw p.values,.str p.text]):=rfl
theorem q9j {b t:Nat} {h:qf} {bb:Bool} {p:GEv} {o v:Option (List GEv)} (hv:apO o [p]=some v):appR 5 b h (some t) (some (sl 5 vev o)) (some (.list bb 5 [.agg [.int .i64 p.number,.str p.kind,sl 1 ye p.names,sl 1 zw p.values,.str p.text]]))=ifR (decide (b≤4096)) (some ⟨sl 5 vev v,true,some t,h⟩):=qe9 (x:=p) (by omega) rfl hv
theorem jbf {b:Nat} {h:qf} {bb:Bool} {p:GEv} {o v:Option (List GEv)} (hv:apO o [p]=some v) (hn:o.isNone=true):appR 5 b h none (some (sl 5 vev o)) (some (.list bb 5 [.agg [.int .i64 p.number,.str p.kind,sl 1 ye p.names,sl 1 zw p.values,.str p.text]]))=ifR (decide (b≤4096)) (some ⟨sl 5 vev v,true,none,h⟩):=qcr (x:=p) (by omega) rfl hn hv
def GDoc.er (d:GDoc):SDoc:=⟨d.needs.getD [],d.tests.getD []⟩
def GProd.er (p:GProd):SProd:=⟨p.name,⟨p.dn.getD [],p.dt.getD []⟩,(p.docs.getD []).map GDoc.er⟩
def GUn.er (u:GUn):SUnit:=⟨u.name,u.product,u.version,u.uses.getD [],u.results.getD [],u.partner,u.shipped,u.complaints⟩
def GReg.er (r:GReg):SReg:=⟨r.day,r.lots.getD [],(r.products.getD []).map GProd.er,(r.units.getD []).map GUn.er⟩
def GEv.er (e:GEv):SEv:=⟨e.number,e.kind,e.names.getD [],e.values.getD [],e.text⟩
end Go.Z
namespace Go.Z
open Go Go.Abs Go.W
theorem qji {hh:qf}:∀ {xs:List AVal},ja 0 xs=true→qao hh xs=some xs
 | [],_=>rfl
 | x::xs,h=>by
  simp only [ja,Bool.and_eq_true] at h
  have hx:kf hh x=some x:=by
   cases x with
   | ms b o n=>simp [Abs.below,Nat.blt] at h
   | vref b o n=>simp [Abs.below,Nat.blt] at h
   | _=>rfl
  simp only [qao,hx,qji h.2]
theorem qo6 {hh:qf}:∀ {xs:List AVal},ja 0 xs=true→freezeR.freezeT hh xs=some xs
 | [],_=>rfl
 | x::xs,h=>by
  simp only [ja,Bool.and_eq_true] at h
  have ih:=qo6 (hh:=hh) h.2
  cases x with
  | agg cs=>
   have h1:=h.1
   simp only [Abs.below] at h1
   simp only [freezeR.freezeT,qji h1,ih]
  | ms b o n=>simp [Abs.below,Nat.blt] at h
  | vref b o n=>simp [Abs.below,Nat.blt] at h
  | _=>simp only [freezeR.freezeT,kf,ih]
theorem qpa {hh:qf} {x:AVal} (h:Abs.below 0 x=true):freezeR hh x=some x:=by
 cases x with
 | agg cs=>
  simp only [Abs.below] at h
  simp only [freezeR,qji h]
 | tup vs=>
  simp only [Abs.below] at h
  simp only [freezeR,qo6 h]
 | ms b o n=>simp [Abs.below,Nat.blt] at h
 | vref b o n=>simp [Abs.below,Nat.blt] at h
 | _=>rfl
theorem zg {p:jw} {k:Nat} (f:qm) {args:List AVal} {v:AVal} (hc:∃ hh,qxv f.results (X p f.body ⟨qdc 0 args,[]⟩)=some (v,false,hh)) (hp:p.prims k=none:=by rfl) (hf:p.fns k=some f:=by rfl) (hl:Nat.ble args.length f.ntmps=true:=by rfl) (hv:below 0 v=true:=by first | rfl | simp only [go_sem,seval]):qc p (X p) k args=some (v,false):=by
 obtain ⟨hh,hc⟩:=hc
 cases f with
 | mk n b r=>exact zu hp (by rw [qk hf (Nat.le_of_ble_eq_true hl)]; exact hc) (qpa hv) hv
theorem kg {p:jw} {k:Nat} (f:qm) {args:List AVal} {v:AVal} {o:Bool} (hc:∃ hh,qxv f.results (X p f.body ⟨qdc 0 args,[]⟩)=some (v,o,hh)) (hp:p.prims k=none:=by rfl) (hf:p.fns k=some f:=by rfl) (hn:Nat.ble args.length f.ntmps=true:=by rfl) (hv:below 0 v=true:=by first | rfl | simp only [go_sem,seval]) (hl:v.isList=true:=by first | rfl | simp only [go_sem,seval]):qc p (X p) k args=some (v,o):=by
 obtain ⟨hh,hc⟩:=hc
 cases f with
 | mk n b r=>exact qw3 hp (by rw [qk hf (Nat.le_of_ble_eq_true hn)]; exact hc) (qpa hv) hv hl
theorem js {σ δ:Type} {p:jw} {c:ACode} {St:σ→ASt} {Ex:δ→jd × ASt} {s s':σ} (h:X p c (St s)=some (.normal,St s')) (hl:(St s').heap.length≤(St s).heap.length:=by exact Nat.le_refl _):jy p c St Ex s (.inl s'):=qdg h (qg3 hl)
theorem q5c {σ δ:Type} {p:jw} {c:ACode} {St:σ→ASt} {Ex:δ→jd × ASt} {s s':σ} (h:∃ t,X p c (St s)=some (.normal,⟨(St s').env,(St s').heap++t⟩)) (hn:(St s).heap.length=(St s').heap.length) (h1:qam (St s).heap.length (St s').env=true) (h2:zn (St s).heap.length (St s').heap=true):jy p c St Ex s (.inl s'):=by
 obtain ⟨t,h⟩:=h
 exact qdg h (ji2 hn rfl h1 h2)
theorem qem {α:Type} {z:Nat} {f:α→AVal} {l:List α}:sl z f (some l)=.list false z (l.map f):=rfl
theorem zi {α:Type} {z:Nat} {f:α→AVal}:sl z f none=.list true 0 []:=rfl
abbrev Iv (n:Int):AVal:=.int .i64 n
abbrev Lv {α:Type} (o:Option (List α)):AVal:=.int .i64 ((o.getD []).length:Int)
abbrev Nl:AVal:=.list true 0 []
abbrev aE (e:GEv):AVal:=.agg [.int .i64 e.number,.str e.kind,sl 1 ye e.names,sl 1 zw e.values,.str e.text]
abbrev aR (r:GReg):AVal:=.agg [.int .i64 r.day,sl 5 jg r.lots,sl 4 qz r.products,sl 8 vun r.units]
abbrev aU (u:GUn):AVal:=.agg [.str u.name,.str u.product,.int .i64 u.version,sl 2 vsi u.uses,sl 3 je u.results,.str u.partner,.bool u.shipped,.int .i64 u.complaints]
abbrev aL (l:qt):AVal:=.agg [.str l.name,.str l.kind,.int .i64 l.count,.int .i64 l.left,.bool l.held]
abbrev aP (p:GProd):AVal:=.agg [.str p.name,sl 2 vsi p.dn,sl 3 je p.dt,sl 2 yb p.docs]
abbrev aD (d:GDoc):AVal:=.agg [sl 2 vsi d.needs,sl 3 je d.tests]
abbrev aT (x:qu):AVal:=.agg [.str x.k,.int .i64 x.a,.int .i64 x.b]
abbrev aN (x:GSI):AVal:=.agg [.str x.k,.int .i64 x.n]
abbrev aG (a:Int) (b:Option (List qt)) (c:Option (List GProd)) (d:Option (List GUn)):AVal:=.agg [.int .i64 a,sl 5 jg b,sl 4 qz c,sl 8 vun d]
abbrev kS (a:Int) (b:Option (List qt)) (o1:Bool) (c:Option (List GProd)) (o2:Bool) (d:Option (List GUn)) (o3:Bool):ABox:=.cells [(.int .i64 a,false),(sl 5 jg b,o1),(sl 4 qz c,o2),(sl 8 vun d,o3)]
abbrev kR (a:Int) (b:Option (List qt)) (c:Option (List GProd)) (d:Option (List GUn)):ABox:=.cells [(.int .i64 a,false),(sl 5 jg b,false),(sl 4 qz c,false),(sl 8 vun d,false)]
abbrev kO:ABox:=.cells [(Nl,false),(Nl,false),(Nl,false)]
abbrev kP4:ABox:=.cells [(Nl,false),(Nl,false),(.vref 4 0 1,false)]
abbrev kP5:ABox:=.cells [(Nl,false),(Nl,false),(.vref 5 0 1,false)]
abbrev kZ:ABox:=.cells [(.int .i64 0,false),(Nl,false),(Nl,false),(Nl,false)]
abbrev aZ:AVal:=.agg [.int .i64 0,Nl,Nl,Nl]
def om {α β:Type} (o:Option α) (f:α→β):Option β:=match o with
 | some x=>some (f x)
 | none=>none
@[go_sem] theorem zik {α β:Type} {x:α} {f:α→β}:om (some x) f=some (f x):=rfl
theorem qv {h:qf} {α:Type} {z:Nat} {f:α→AVal} {l:Option (List α)} {k:IntKind} {i:Int}:qbd z h (some (sl z f l)) (some (.int k i))=om (qw (l.getD []) i) fun x=>⟨.vptr (f x),false,none,h⟩:=by
 cases hx:qw (l.getD []) i with
 | some x=>exact zj hx
 | none=>
  have hi:qkz (l.getD []).length i=none:=by
   unfold qw at hx
   unfold qkz
   by_cases h0:0≤i
   ·rw [if_pos h0] at hx
    rw [if_neg]
    intro hc
    have:=List.getElem?_eq_none_iff.1 hx
    omega
   ·rw [if_neg (fun hc=>h0 hc.1)]
  cases l with
  | none=>simp only [sl,qbd,qfr,Option.getD_none,List.length_nil] at hi ⊢; rw [hi]; simp [om]
  | some l=>simp only [sl,qbd,qfr,Option.getD_some,List.length_map] at hi ⊢; rw [hi]; simp [om]
theorem q0k {h:qf} {s:List UInt8} {k:IntKind} {i:Int}:qgr h (some (.str s)) (some (.int k i))=om (qw s i) fun c=>⟨.int .u8 (c.toNat:Int),false,none,h⟩:=by
 cases hx:qw s i with
 | some x=>exact jeq hx
 | none=>
  have hi:qkz s.length i=none:=by
   unfold qw at hx
   unfold qkz
   by_cases h0:0≤i
   ·rw [if_pos h0] at hx
    rw [if_neg]
    intro hc
    have:=List.getElem?_eq_none_iff.1 hx
    omega
   ·rw [if_neg (fun hc=>h0 hc.1)]
  simp only [qgr,qfr,hi,om]
theorem qhl {h:qf} {b pos:Nat} {s:List UInt8}:qhg h b (some (.iter s pos))=cond (decide (pos < s.length)) (qbo (jt h b (.iter s (pos + (qo s pos).2))) (.tup [.bool true,.int .i64 pos,.int .i32 (qo s pos).1])) (some ⟨.tup [.bool false],false,none,h⟩):=by
 cases hx:decide (pos < s.length) with
 | true=>exact jsh hx
 | false=>exact jr2 hx
theorem ke {h:qf} {α:Type} {z b t:Nat} {f:α→AVal} {o2:Option (List α)}:appR (z + 1) b h (some t) (some (.list false (z + 1) [])) (some (sl (z + 1) f o2))=ifR (decide (b≤4096)) (om (apO (some []) (o2.getD [])) fun v=>⟨sl (z + 1) f v,true,some t,h⟩):=by
 cases hx:apO (some []) (o2.getD []) with
 | some x=>exact q9t hx
 | none=>
  unfold apO at hx
  split at hx
  ·cases hx
  rename_i hl
  simp only [Option.getD_some,List.length_nil] at hl
  simp only [appR,appR.appS,q16,List.length_nil,List.length_map,qa1,decide_eq_false hl,om]
  cases decide (b≤4096) <;> simp [ifR]
theorem qgl {p:GSI} {o v:Option (List GSI)} (hv:apO o [p]=some v):(∀ {b t:Nat} {h:qf} {bb:Bool},appR 2 b h (some t) (some (sl 2 vsi o)) (some (.list bb 2 [.agg [.str p.k,.int .i64 p.n]]))=ifR (decide (b≤4096)) (some ⟨sl 2 vsi v,true,some t,h⟩))∧(∀ {b:Nat} {h:qf} {bb:Bool},o.isNone=true→appR 2 b h none (some (sl 2 vsi o)) (some (.list bb 2 [.agg [.str p.k,.int .i64 p.n]]))=ifR (decide (b≤4096)) (some ⟨sl 2 vsi v,true,none,h⟩)):=⟨q9q hv,ja6 hv⟩
theorem qfq {p:qu} {o v:Option (List qu)} (hv:apO o [p]=some v):(∀ {b t:Nat} {h:qf} {bb:Bool},appR 3 b h (some t) (some (sl 3 je o)) (some (.list bb 3 [.agg [.str p.k,.int .i64 p.a,.int .i64 p.b]]))=ifR (decide (b≤4096)) (some ⟨sl 3 je v,true,some t,h⟩))∧(∀ {b:Nat} {h:qf} {bb:Bool},o.isNone=true→appR 3 b h none (some (sl 3 je o)) (some (.list bb 3 [.agg [.str p.k,.int .i64 p.a,.int .i64 p.b]]))=ifR (decide (b≤4096)) (some ⟨sl 3 je v,true,none,h⟩)):=⟨q7b hv,q8x hv⟩
theorem qse {p:qt} {o v:Option (List qt)} (hv:apO o [p]=some v):(∀ {b t:Nat} {h:qf} {bb:Bool},appR 5 b h (some t) (some (sl 5 jg o)) (some (.list bb 5 [.agg [.str p.name,.str p.kind,.int .i64 p.count,.int .i64 p.left,.bool p.held]]))=ifR (decide (b≤4096)) (some ⟨sl 5 jg v,true,some t,h⟩))∧(∀ {b:Nat} {h:qf} {bb:Bool},o.isNone=true→appR 5 b h none (some (sl 5 jg o)) (some (.list bb 5 [.agg [.str p.name,.str p.kind,.int .i64 p.count,.int .i64 p.left,.bool p.held]]))=ifR (decide (b≤4096)) (some ⟨sl 5 jg v,true,none,h⟩)):=⟨qwp hv,qv1 hv⟩
theorem qw9 {p:GDoc} {o v:Option (List GDoc)} (hv:apO o [p]=some v):(∀ {b t:Nat} {h:qf} {bb:Bool},appR 2 b h (some t) (some (sl 2 yb o)) (some (.list bb 2 [.agg [sl 2 vsi p.needs,sl 3 je p.tests]]))=ifR (decide (b≤4096)) (some ⟨sl 2 yb v,true,some t,h⟩))∧(∀ {b:Nat} {h:qf} {bb:Bool},o.isNone=true→appR 2 b h none (some (sl 2 yb o)) (some (.list bb 2 [.agg [sl 2 vsi p.needs,sl 3 je p.tests]]))=ifR (decide (b≤4096)) (some ⟨sl 2 yb v,true,none,h⟩)):=⟨q6r hv,q8j hv⟩
theorem qtt {p:GProd} {o v:Option (List GProd)} (hv:apO o [p]=some v):(∀ {b t:Nat} {h:qf} {bb:Bool},appR 4 b h (some t) (some (sl 4 qz o)) (some (.list bb 4 [.agg [.str p.name,sl 2 vsi p.dn,sl 3 je p.dt,sl 2 yb p.docs]]))=ifR (decide (b≤4096)) (some ⟨sl 4 qz v,true,some t,h⟩))∧(∀ {b:Nat} {h:qf} {bb:Bool},o.isNone=true→appR 4 b h none (some (sl 4 qz o)) (some (.list bb 4 [.agg [.str p.name,sl 2 vsi p.dn,sl 3 je p.dt,sl 2 yb p.docs]]))=ifR (decide (b≤4096)) (some ⟨sl 4 qz v,true,none,h⟩)):=⟨q4h hv,q32 hv⟩
theorem q1f {p:GUn} {o v:Option (List GUn)} (hv:apO o [p]=some v):(∀ {b t:Nat} {h:qf} {bb:Bool},appR 8 b h (some t) (some (sl 8 vun o)) (some (.list bb 8 [.agg [.str p.name,.str p.product,.int .i64 p.version,sl 2 vsi p.uses,sl 3 je p.results,.str p.partner,.bool p.shipped,.int .i64 p.complaints]]))=ifR (decide (b≤4096)) (some ⟨sl 8 vun v,true,some t,h⟩))∧(∀ {b:Nat} {h:qf} {bb:Bool},o.isNone=true→appR 8 b h none (some (sl 8 vun o)) (some (.list bb 8 [.agg [.str p.name,.str p.product,.int .i64 p.version,sl 2 vsi p.uses,sl 3 je p.results,.str p.partner,.bool p.shipped,.int .i64 p.complaints]]))=ifR (decide (b≤4096)) (some ⟨sl 8 vun v,true,none,h⟩)):=⟨jap hv,q96 hv⟩
theorem jk8 {p:GReg} {o v:Option (List GReg)} (hv:apO o [p]=some v):(∀ {b t:Nat} {h:qf} {bb:Bool},appR 4 b h (some t) (some (sl 4 jj o)) (some (.list bb 4 [.agg [.int .i64 p.day,sl 5 jg p.lots,sl 4 qz p.products,sl 8 vun p.units]]))=ifR (decide (b≤4096)) (some ⟨sl 4 jj v,true,some t,h⟩))∧(∀ {b:Nat} {h:qf} {bb:Bool},o.isNone=true→appR 4 b h none (some (sl 4 jj o)) (some (.list bb 4 [.agg [.int .i64 p.day,sl 5 jg p.lots,sl 4 qz p.products,sl 8 vun p.units]]))=ifR (decide (b≤4096)) (some ⟨sl 4 jj v,true,none,h⟩)):=⟨q55 hv,q8k hv⟩
theorem q90 {p:GEv} {o v:Option (List GEv)} (hv:apO o [p]=some v):(∀ {b t:Nat} {h:qf} {bb:Bool},appR 5 b h (some t) (some (sl 5 vev o)) (some (.list bb 5 [.agg [.int .i64 p.number,.str p.kind,sl 1 ye p.names,sl 1 zw p.values,.str p.text]]))=ifR (decide (b≤4096)) (some ⟨sl 5 vev v,true,some t,h⟩))∧(∀ {b:Nat} {h:qf} {bb:Bool},o.isNone=true→appR 5 b h none (some (sl 5 vev o)) (some (.list bb 5 [.agg [.int .i64 p.number,.str p.kind,sl 1 ye p.names,sl 1 zw p.values,.str p.text]]))=ifR (decide (b≤4096)) (some ⟨sl 5 vev v,true,none,h⟩)):=⟨q9j hv,jbf hv⟩
theorem q5h {x:Int} {o v:Option (List Int)} (hv:apO o [x]=some v):(∀ {b t:Nat} {h:qf} {bb:Bool},appR 1 b h (some t) (some (sl 1 zw o)) (some (.list bb 1 [.int .i64 x]))=ifR (decide (b≤4096)) (some ⟨sl 1 zw v,true,some t,h⟩))∧(∀ {b:Nat} {h:qf} {bb:Bool},o.isNone=true→appR 1 b h none (some (sl 1 zw o)) (some (.list bb 1 [.int .i64 x]))=ifR (decide (b≤4096)) (some ⟨sl 1 zw v,true,none,h⟩)):=⟨q7y hv,q79 hv⟩
theorem q4s {x:List UInt8} {o v:Option (List (List UInt8))} (hv:apO o [x]=some v):(∀ {b t:Nat} {h:qf} {bb:Bool},appR 1 b h (some t) (some (sl 1 ye o)) (some (.list bb 1 [.str x]))=ifR (decide (b≤4096)) (some ⟨sl 1 ye v,true,some t,h⟩))∧(∀ {b:Nat} {h:qf} {bb:Bool},o.isNone=true→appR 1 b h none (some (sl 1 ye o)) (some (.list bb 1 [.str x]))=ifR (decide (b≤4096)) (some ⟨sl 1 ye v,true,none,h⟩)):=⟨q8n hv,fun hn=>qcr (by omega) rfl hn hv⟩
theorem jn2 {α:Type} {o v:Option (List α)} {hi:Int} (hv:qj8 o none (some hi)=some v):∀ (h:qf) (z:Nat) (f:α→AVal) (k:IntKind),qfm z h (some (sl z f o)) none (some (some (.int k hi)))=some ⟨sl z f v,false,none,h⟩:=fun _ _ _ _=>jkv hv
@[go_sem] theorem j14 {n:Nat} {v:AVal}:below n (.vptr v)=below n v:=rfl
structure qf5 where
 names:Int
 values:Int
 known:Bool
theorem j11 {a0 b0:List UInt8} {a1 b1:Int}:z7 [.str,.int] [.str a0,.int .i64 a1] [.str b0,.int .i64 b1]=some (decide (a0=b0) && decide (a1=b1)):=by
 have e:∀ x y:Int,(x == y)=decide (x=y):=fun x y=>by by_cases h:x=y <;> simp [h]
 have e':∀ x y:List UInt8,(x == y)=decide (x=y):=fun x y=>by by_cases h:x=y <;> simp [h]
 have e2:∀ x y:Bool,(x == y)=decide (x=y):=fun x y=>by cases x <;> cases y <;> rfl
 simp only [z7,qbb,e,e',e2,decide_true,cond_true]
 by_cases h0:a0=b0 <;> by_cases h1:a1=b1 <;> simp [h0,h1]
@[go_sem] theorem zhm {h:qf} {a0 b0:List UInt8} {a1 b1:Int}:q2w [.str,.int] true h (some (.agg [.str a0,.int .i64 a1])) (some (.agg [.str b0,.int .i64 b1]))=some ⟨.bool (!(decide (a0=b0) && decide (a1=b1))),false,none,h⟩:=by
 show (match z7 [.str,.int] [.str a0,.int .i64 a1] [.str b0,.int .i64 b1] with | some t=>val h (.bool (bif true then !t else t)) | none=>none)=_
 rw [j11]
 rfl
theorem jpw {a0 b0:List UInt8} {a1 b1:Int} {a2 b2:Int}:z7 [.str,.int,.int] [.str a0,.int .i64 a1,.int .i64 a2] [.str b0,.int .i64 b1,.int .i64 b2]=some (decide (a0=b0) && decide (a1=b1) && decide (a2=b2)):=by
 have e:∀ x y:Int,(x == y)=decide (x=y):=fun x y=>by by_cases h:x=y <;> simp [h]
 have e':∀ x y:List UInt8,(x == y)=decide (x=y):=fun x y=>by by_cases h:x=y <;> simp [h]
 have e2:∀ x y:Bool,(x == y)=decide (x=y):=fun x y=>by cases x <;> cases y <;> rfl
 simp only [z7,qbb,e,e',e2,decide_true,cond_true]
 by_cases h0:a0=b0 <;> by_cases h1:a1=b1 <;> by_cases h2:a2=b2 <;> simp [h0,h1,h2]
@[go_sem] theorem zgv {h:qf} {a0 b0:List UInt8} {a1 b1:Int} {a2 b2:Int}:q2w [.str,.int,.int] true h (some (.agg [.str a0,.int .i64 a1,.int .i64 a2])) (some (.agg [.str b0,.int .i64 b1,.int .i64 b2]))=some ⟨.bool (!(decide (a0=b0) && decide (a1=b1) && decide (a2=b2))),false,none,h⟩:=by
 show (match z7 [.str,.int,.int] [.str a0,.int .i64 a1,.int .i64 a2] [.str b0,.int .i64 b1,.int .i64 b2] with | some t=>val h (.bool (bif true then !t else t)) | none=>none)=_
 rw [jpw]
 rfl
theorem j1f {a0 b0:List UInt8} {a1 b1:List UInt8} {a2 b2:Int} {a3 b3:Int} {a4 b4:Bool}:z7 [.str,.str,.int,.int,.bool] [.str a0,.str a1,.int .i64 a2,.int .i64 a3,.bool a4] [.str b0,.str b1,.int .i64 b2,.int .i64 b3,.bool b4]=some (decide (a0=b0) && decide (a1=b1) && decide (a2=b2) && decide (a3=b3) && decide (a4=b4)):=by
 have e:∀ x y:Int,(x == y)=decide (x=y):=fun x y=>by by_cases h:x=y <;> simp [h]
 have e':∀ x y:List UInt8,(x == y)=decide (x=y):=fun x y=>by by_cases h:x=y <;> simp [h]
 have e2:∀ x y:Bool,(x == y)=decide (x=y):=fun x y=>by cases x <;> cases y <;> rfl
 simp only [z7,qbb,e,e',e2,decide_true,cond_true]
 by_cases h0:a0=b0 <;> by_cases h1:a1=b1 <;> by_cases h2:a2=b2 <;> by_cases h3:a3=b3 <;> by_cases h4:a4=b4 <;> simp [h0,h1,h2,h3,h4]
@[go_sem] theorem zhh {h:qf} {a0 b0:List UInt8} {a1 b1:List UInt8} {a2 b2:Int} {a3 b3:Int} {a4 b4:Bool}:q2w [.str,.str,.int,.int,.bool] true h (some (.agg [.str a0,.str a1,.int .i64 a2,.int .i64 a3,.bool a4])) (some (.agg [.str b0,.str b1,.int .i64 b2,.int .i64 b3,.bool b4]))=some ⟨.bool (!(decide (a0=b0) && decide (a1=b1) && decide (a2=b2) && decide (a3=b3) && decide (a4=b4))),false,none,h⟩:=by
 show (match z7 [.str,.str,.int,.int,.bool] [.str a0,.str a1,.int .i64 a2,.int .i64 a3,.bool a4] [.str b0,.str b1,.int .i64 b2,.int .i64 b3,.bool b4] with | some t=>val h (.bool (bif true then !t else t)) | none=>none)=_
 rw [j1f]
 rfl
@[go_sem] theorem zcb {h0:Nat} {al:Option (List Nat)} {h:qf} {g:Fn} {a b:List AVal}:yr h0 al false 1 h (some (.vptr (.fn g a b)))=some ⟨.fn g a b,false,none,h⟩:=rfl
def qhi (h:qf) (zero:AVal) (r:Option (Option (Nat × AVal))):Option ORes:=match r with
 | some (some (_,v))=>some ⟨.tup [v,.bool true],false,none,h⟩
 | some none=>some ⟨.tup [zero,.bool false],false,none,h⟩
 | none=>none
@[go_sem] theorem jtw {h:qf} {z v:AVal} {i:Nat}:qhi h z (some (some (i,v)))=some ⟨.tup [v,.bool true],false,none,h⟩:=rfl
@[go_sem] theorem jt7 {h:qf} {z:AVal}:qhi h z (some none)=some ⟨.tup [z,.bool false],false,none,h⟩:=rfl
def qvn (h:qf) (kd:Kd) (z kv:AVal) (x:Option ABox):Option ORes:=match x with
 | some (.map es)=>qhi h z (zc kd kv es 0)
 | _=>none
@[go_sem] theorem j4s {h:qf} {kd:Kd} {z kv:AVal} {es:List (AVal × AVal)}:qvn h kd z kv (some (.map es))=qhi h z (zc kd kv es 0):=rfl
def qtp (h0:Nat) (al:Option (List Nat)) (h:qf) (kd:Kd) (z:AVal) (m k:Option AVal):Option ORes:=match m,k with
 | some (.map b),some kv=>ifR (j9 h0 al b) (qvn h kd z kv h[b]?)
 | some .nilmap,some _=>some ⟨.tup [z,.bool false],false,none,h⟩
 | _,_=>none
@[go_sem] theorem jpf {h0:Nat} {al:Option (List Nat)} {h:qf} {kd:Kd} {z kv:AVal} {b:Nat}:qtp h0 al h kd z (some (.map b)) (some kv)=ifR (j9 h0 al b) (qvn h kd z kv h[b]?):=rfl
@[go_sem] theorem j5t {p:jw} {xc:XC} {h0:Nat} {al:Option (List Nat)} {e:Env} {h:qf} {kd:Kd} {z:AVal} {m k:qq}:qg p xc h0 al e h (.lookup kd z true m k)=qtp h0 al h kd z (qj e m) (qj e k):=by
 simp only [qg,yg,qtp]
 cases qj e m with
 | none=>cases qj e k <;> rfl
 | some v=>cases qj e k with
  | none=>cases v <;> rfl
  | some kv=>cases v with
   | map b=>
    simp only [ifR,ze,qvn,qhi]
    cases j9 h0 al b with
    | false=>rfl
    | true=>
     simp only [cond_true]
     cases h[b]? with
     | none=>rfl
     | some x=>cases x with
      | map es=>
       simp only []
       cases zc kd kv es 0 with
       | none=>rfl
       | some r=>cases r <;> rfl
      | _=>rfl
   | _=>rfl
theorem qrk {σ δ γ:Type} (n:Nat) (mk:Nat→σ) (f:σ→Option (σ ⊕ δ)) (V:δ→γ) (r:Nat→γ) (hend:∃ d,f (mk n)=some (.inr d)∧V d=r n)
  (hstep:∀ i,i < n→(f (mk i)=some (.inl (mk (i + 1)))∧r i=r (i + 1))∨(∃ d,f (mk i)=some (.inr d)∧V d=r i)):∃ d,itO f (mk 0)=some d∧V d=r 0:=by
 have key:∀ (k i:Nat),i + k=n→∃ d,itO f (mk i)=some d∧V d=r i:=by
  intro k
  induction k with
  | zero=>
   intro i hi
   have:i=n:=by omega
   subst this
   obtain ⟨d,h1,h2⟩:=hend
   exact ⟨d,ki h1,h2⟩
  | succ k ih=>
   intro i hi
   rcases hstep i (by omega) with ⟨h1,h2⟩ | ⟨d,h1,h2⟩
   ·rw [qc7 h1,h2]; exact ih (i + 1) (by omega)
   ·exact ⟨d,ki h1,h2⟩
 exact key n 0 (by omega)
theorem qtm {α δ:Type} (l:List α) (f:Int→Option (Int ⊕ δ)) (q:α→Bool) (V:δ→Bool) (hend:∃ d,f (l.length:Int)=some (.inr d)∧V d=true)
  (hstep:∀ (i:Nat) x,l[i]?=some x→i < l.length→(q x=true∧f (i:Int)=some (.inl ((i + 1:Nat):Int)))∨(q x=false∧∃ d,f (i:Int)=some (.inr d)∧V d=false)):∃ d,itO f 0=some d∧V d=l.all q:=by
 have:=qrk l.length (fun i=>(i:Int)) f V (fun i=>(l.drop i).all q) (by rw [List.drop_eq_nil_of_le (Nat.le_refl _)]; exact hend) (fun i hi=>by
  obtain ⟨x,hx⟩:∃ x,l[i]?=some x:=⟨_,List.getElem?_eq_getElem hi⟩
  simp only [qbf hx,List.all_cons]
  rcases hstep i x hx hi with ⟨h1,h2⟩ | ⟨h1,h2⟩
  ·rw [h1]; exact .inl ⟨h2,rfl⟩
  ·rw [h1]; exact .inr h2)
 simpa using this
theorem jdu {α β:Type} (l:List α) (ix:Nat→Int) (f:Option (List β) × Int × Bool→Option ((Option (List β) × Int × Bool) ⊕ (Option (List β) × Bool × Int))) (h:α→List β) (a0:List β) (I:Nat→List β→Prop) (hI:I 0 a0)
  (hend:∀ a,f (jz a,ix l.length,qay a)=some (.inr (jz a,qay a,ix l.length)))
  (hstep:∀ (i:Nat) x a,l[i]?=some x→i < l.length→I i a→I (i + 1) (a++h x)∧f (jz a,ix i,qay a)=some (.inl (jz (a++h x),ix (i + 1),qay (a++h x)))):
  itO f (jz a0,ix 0,qay a0)=some (jz (a0++l.flatMap h),qay (a0++l.flatMap h),ix l.length):=by
 have key:∀ (k i:Nat),i + k=l.length→∀ a,I i a→itO f (jz a,ix i,qay a)=some (jz (a++(l.drop i).flatMap h),qay (a++(l.drop i).flatMap h),ix l.length):=by
  intro k
  induction k with
  | zero=>
   intro i hi a _
   have:i=l.length:=by omega
   subst this
   rw [List.drop_eq_nil_of_le (Nat.le_refl _),List.flatMap_nil,List.append_nil,ki (hend a)]
  | succ k ih=>
   intro i hi a ha
   obtain ⟨x,hx⟩:∃ x,l[i]?=some x:=⟨_,List.getElem?_eq_getElem (by omega)⟩
   obtain ⟨h1,h2⟩:=hstep i x a hx (by omega) ha
   rw [qc7 h2,ih (i + 1) (by omega) _ h1,qbf hx,List.flatMap_cons,List.append_assoc]
 have:=key l.length 0 (by omega) a0 hI
 rwa [List.drop_zero] at this
theorem qw0 {α:Type} {a:List α} {x:α} (h:a.length < 1073741824):apO (jz a) [x]=some (jz (a++[x])):=by
 unfold apO
 cases a with
 | nil=>rfl
 | cons y a=>
  have:((jz (y::a)).getD []).length + [x].length≤1073741824:=by simp [jz] at h ⊢; omega
  rw [if_pos this]; rfl
theorem qdk {α γ:Type} {a:List α} {x:α} {k:Option (List α)→Option γ} (h:a.length < 1073741824):cond (qay a) (qa (apO (jz a) [x]) k) (cond (jz a).isNone (qa (apO (jz a) [x]) k) none)=k (jz (a++[x])):=by
 rw [qw0 h]
 cases a <;> rfl
theorem zt {α:Type} (a:List α):(jz a).getD []=a:=by cases a <;> rfl
theorem qha {α β:Type} (h:α→β):∀ l:List α,l.flatMap (fun x=>[h x])=l.map h
 | []=>rfl
 | x::l=>by rw [List.flatMap_cons,qha h l]; rfl
theorem jf {α:Type} {l:List α} {i:Nat} {x:α} (hx:l[i]?=some x):qw l (i:Int)=some x:=by rw [jer,hx]
theorem yn {α:Type} {l:List α} {i:Nat} (h:i < l.length):decide ((i:Int) < (l.length:Int))=true:=decide_eq_true (by omega)
theorem zx {n:Nat}:decide ((n:Int) < (n:Int))=false:=decide_eq_false (by omega)
end Go.Z
namespace Go.Z
open Go Go.Abs Go.W
def formsL:List (List UInt8 × List UInt8 × Int × Nat):=[(qcz,[45,45],2,105),(kr,[45],1,106),(qbq,[112,45],2,107),(qbz,[112,45],3,108),(qb8,[112],1,109),(qbw,[45,112],1,110),(qcw,[117,108],2,111),(qan,[117,45],2,112),(qbl,[117],1,113),(qb0,[117,117],1,114),(qcf,[108],1,115),(qea,[108],1,116),(qau,[117],1,117),(qcb,[117],1,118),(qc4,[],0,0)]
def fnv (k:Nat):AVal:=bif Nat.beq k 0 then .nilfn else .fn (.func k) [] []
def qde (x:List UInt8):Option (List UInt8 × List UInt8 × Int × Nat):=formsL.find? fun f=>decide (x=f.1)
def j8 (x:List UInt8):List UInt8:=match qde x with
 | some f=>f.2.1
 | none=>[]
def qbx (x:List UInt8):Int:=match qde x with
 | some f=>f.2.2.1
 | none=>0
def qd8 (x:List UInt8):AVal:=match qde x with
 | some f=>fnv f.2.2.2
 | none=>.nilfn
def qlt (x:List UInt8):Bool:=(qde x).isSome
theorem qwu:ji=formsL.map fun f=>(.str f.1,.agg [.str f.2.1,.int .i64 f.2.2.1,fnv f.2.2.2]):=rfl
theorem qnh (x:List UInt8) (h:qf):∀ (l:List (List UInt8 × List UInt8 × Int × Nat)) (n:Nat),zc .str (.str x) (l.map fun f=>(.str f.1,.agg [.str f.2.1,.int .i64 f.2.2.1,fnv f.2.2.2])) n=some none∧l.find? (fun f=>decide (x=f.1))=none∨∃ i f,zc .str (.str x) (l.map fun f=>(.str f.1,.agg [.str f.2.1,.int .i64 f.2.2.1,fnv f.2.2.2])) n=some (some (i,.agg [.str f.2.1,.int .i64 f.2.2.1,fnv f.2.2.2]))∧l.find? (fun f=>decide (x=f.1))=some f
 | [],n=>.inl ⟨rfl,rfl⟩
 | f::l,n=>by
  have he:qbb .str (.str x) (.str f.1)=some (decide (x=f.1)):=by
   show some (x == f.1)=_
   by_cases hx:x=f.1 <;> simp [hx]
  by_cases hx:x=f.1
  ·refine .inr ⟨n,f,?_,?_⟩
   ·simp only [List.map_cons,zc,he,decide_eq_true hx]
   ·simp [List.find?,hx]
  ·rcases qnh x h l (n + 1) with ⟨h1,h2⟩ | ⟨i,g,h1,h2⟩
   ·exact .inl ⟨by simp only [List.map_cons,zc,he,hx,decide_false]; exact h1,by simp only [List.find?,hx,decide_false]; exact h2⟩
   ·exact .inr ⟨i,g,by simp only [List.map_cons,zc,he,hx,decide_false]; exact h1,by simp only [List.find?,hx,decide_false]; exact h2⟩
@[go_sem] theorem zbo {h:qf} {g:Fn} {a b:List AVal}:qhe false h (some (.fn g a b))=some ⟨.vptr (.fn g a b),false,none,h⟩:=rfl
@[go_sem] theorem zhi:pr.maps 50=some ji:=rfl
theorem jku {h:qf} (x:List UInt8):qhi h (.agg [.str [],.int .i64 0,.nilfn]) (zc .str (.str x) ji 0)=some ⟨.tup [.agg [.str (j8 x),.int .i64 (qbx x),qd8 x],.bool (qlt x)],false,none,h⟩:=by
 rw [qwu]
 rcases qnh x h formsL 0 with ⟨h1,h2⟩ | ⟨i,f,h1,h2⟩
 ·rw [h1]; simp only [qhi,j8,qbx,qd8,qlt,qde,h2]; rfl
 ·rw [h1]; simp only [qhi,j8,qbx,qd8,qlt,qde,h2]; rfl
theorem qt8 {h:qf} (x:List UInt8):qil h (.agg [.str [],.int .i64 0,.nilfn]) (zc .str (.str x) ji 0)=some ⟨.agg [.str (j8 x),.int .i64 (qbx x),qd8 x],false,none,h⟩:=by
 rw [qwu]
 rcases qnh x h formsL 0 with ⟨h1,h2⟩ | ⟨i,f,h1,h2⟩
 ·rw [h1]; simp only [qil,j8,qbx,qd8,qde,h2]; rfl
 ·rw [h1]; simp only [qil,j8,qbx,qd8,qde,h2]; rfl
@[go_sem] theorem zgj {x:List UInt8}:ql (qd8 x)=true:=by
 unfold qd8
 split
 ·rename_i f _; simp only [fnv]; cases Nat.beq f.2.2.2 0 <;> rfl
 ·rfl
def km (l:List (List UInt8 × Int)):List (AVal × AVal):=l.map fun p=>(.str p.1,.int .i64 p.2)
def qe2 (l:List (List UInt8 × Int)) (k:List UInt8):Int:=match l.find? fun p=>decide (k=p.1) with
 | some p=>p.2
 | none=>0
def qdp:List (List UInt8 × Int)→List UInt8→Int→List (List UInt8 × Int)
 | [],k,v=>[(k,v)]
 | p::l,k,v=>if k=p.1 then (p.1,v)::l else p::qdp l k v
def q8d (l:List (List UInt8 × Int)) (k:List UInt8) (v:Int):Option (List (List UInt8 × Int)):=if l.length≤1073741824 then some (qdp l k v) else none
theorem eqT {k s:List UInt8}:qbb .str (.str k) (.str s)=some (decide (k=s)):=by
 show some (k == s)=_
 by_cases hx:k=s <;> simp [hx]
theorem q8a (k:List UInt8):∀ (l:List (List UInt8 × Int)) (n:Nat),(zc .str (.str k) (km l) n=some none∧l.find? (fun p=>decide (k=p.1))=none∧∀ v,km (qdp l k v)=km l++[(.str k,.int .i64 v)])∨∃ i p,zc .str (.str k) (km l) n=some (some (n + i,.int .i64 p.2))∧l.find? (fun p=>decide (k=p.1))=some p∧∀ v,km (qdp l k v)=qb1 (km l) i (.int .i64 v)
 | [],n=>.inl ⟨rfl,rfl,fun _=>rfl⟩
 | p::l,n=>by
  by_cases hx:k=p.1
  ·refine .inr ⟨0,p,?_,?_,fun v=>?_⟩
   ·simp only [km,List.map_cons,zc,eqT,decide_eq_true hx]; rfl
   ·simp [List.find?,hx]
   ·simp only [qdp,if_pos hx]; rfl
  ·rcases q8a k l (n + 1) with ⟨h1,h2,h3⟩ | ⟨i,q,h1,h2,h3⟩
   ·refine .inl ⟨?_,?_,fun v=>?_⟩
    ·simp only [km,List.map_cons,zc,eqT,decide_eq_false hx]; exact h1
    ·simp only [List.find?,decide_eq_false hx]; exact h2
    ·simp only [qdp,if_neg hx]
     show _::km (qdp l k v)=_
     rw [h3]; rfl
   ·refine .inr ⟨i + 1,q,?_,?_,fun v=>?_⟩
    ·simp only [km,List.map_cons,zc,eqT,decide_eq_false hx]
     rw [show n + (i + 1)=n + 1 + i by omega]; exact h1
    ·simp only [List.find?,decide_eq_false hx]; exact h2
    ·simp only [qdp,if_neg hx]
     show _::km (qdp l k v)=_
     rw [h3]; rfl
theorem jhz {h:qf} {l:List (List UInt8 × Int)} {k:List UInt8}:qil h (.int .i64 0) (zc .str (.str k) (km l) 0)=some ⟨.int .i64 (qe2 l k),false,none,h⟩:=by
 unfold qe2
 rcases q8a k l 0 with ⟨h1,h2,_⟩ | ⟨i,p,h1,h2,_⟩ <;> rw [h1,h2] <;> rfl
theorem jp7 {h:qf} {b:Nat} {l v:List (List UInt8 × Int)} {k:List UInt8} {n:Int} (hv:q8d l k n=some v):qxn h b (km l) (.str k) (.int .i64 n) (zc .str (.str k) (km l) 0)=qbo (jt h b (.map (km v))) .undef:=by
 unfold q8d at hv
 split at hv
 ·rename_i hl
  cases hv
  rcases q8a k l 0 with ⟨h1,h2,h3⟩ | ⟨i,p,h1,h2,h3⟩
  ·rw [h1,h3]
   have:Nat.ble (km l).length 1073741824=true:=Nat.ble_eq_true_of_le (by rw [km,List.length_map]; exact hl)
   simp only [qxn,this,ifR,cond_true]
  ·rw [h1,h3,Nat.zero_add]; rfl
 ·cases hv
theorem jb5 {l:List (List UInt8 × Int)} {k k':List UInt8} {v:Int}:qe2 (qdp l k v) k'=if k'=k then v else qe2 l k':=by
 induction l with
 | nil=>by_cases h:k'=k <;> simp [qdp,qe2,List.find?,h]
 | cons p l ih=>
  unfold qe2 at ih ⊢
  by_cases hk:k=p.1
  ·by_cases h:k'=k
   ·subst h; simp [qdp,List.find?,← hk]
   ·have h2:¬ k'=p.1:=by rw [← hk]; exact h
    simp [qdp,List.find?,hk,h2]
  ·by_cases h2:k'=p.1
   ·have h3:¬ k'=k:=by rw [h2]; exact fun h=>hk h.symm
    have h4:¬ p.1=k:=fun h=>hk h.symm
    simp [qdp,List.find?,hk,h2,h4]
   ·simp only [qdp,if_neg hk,List.find?,decide_eq_false h2]
    exact ih
@[go_sem] theorem j6f {h0:Nat} {al:Option (List Nat)} {h:qf} {b:Nat}:yr h0 al false 1 h (some (.vptr (.map b)))=some ⟨.map b,false,none,h⟩:=rfl
@[go_sem] theorem q7r {n:Nat} {l:List (List UInt8 × Int)}:qaf n (km l)=true:=by
 induction l with
 | nil=>rfl
 | cons p l ih=>simp only [km,List.map_cons,qaf,below,Bool.true_and]; exact ih
@[go_sem] theorem jma {n:Nat} {l:List (List UInt8 × Int)}:qbn n (.map (km l))=true:=q7r
end Go.Z
