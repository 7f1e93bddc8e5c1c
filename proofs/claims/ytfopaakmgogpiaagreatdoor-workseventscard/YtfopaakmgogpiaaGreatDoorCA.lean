/- The structs of chapter 10 and their cells; what they are in plain lists. -/
import Derived.Test.YtfopaakmgogpiaaGreatDoorG0
import Derived.Test.YtfopaakmgogpiaaGreatDoorAbsL
import Derived.Test.YtfopaakmgogpiaaGreatDoorWS
import Derived.Test.YtfopaakmgogpiaaGreatDoorL1
import Derived.Test.YtfopaakmgogpiaaGreatDoorZM
set_option linter.unusedVariables false
set_option linter.unusedSimpArgs false
set_option maxRecDepth 100000
open Option renaming some→Ef,none→E0,getD_some→Gm
open Bool renaming true→En,false→E1,and_eq_true→Ge
open List renaming find?→E3,map_cons→E4,getElem?_eq_none_iff→E6,getElem?_eq_getElem→E7,length_nil→E9,length_map→Ga,drop_eq_nil_of_le→Gb,flatMap_cons→Gd
open Nat renaming blt→Gc
namespace Go.Z
open Go Go.Abs Go.W
def aS (p:qm):qa:=.agg [.str p.k,.int .i64 p.n]
@[go_sem] theorem zax {p:qm}:(aS p).flat=[.str p.k,.int .i64 p.n]:=rfl
@[go_sem] theorem jbu {n:Nat}(p:qm):below n (aS p)=En:=by rfl
@[go_sem] theorem jzh {n z:Nat}{l:Option (List qm)}:below n (sl z aS l)=En:=uA jbu
@[go_sem] theorem zh8 {p:qm}:qa.ah (aS p)=.ah (.agg [.str p.k,.int .i64 p.n]):=rfl
theorem jba {b t:Nat}{h:j8}{bb:Bool}{p:qm}{o v:Option (List qm)}(hv:bh o [p]=Ef v):bE 2 b h (Ef t) (Ef (sl 2 aS o)) (Ef (.list bb 2 [.agg [.str p.k,.int .i64 p.n]]))=bT (decide (b≤4096)) (Ef ⟨sl 2 aS v,En,Ef t,h⟩):=uG (x:=p) (by omega) rfl hv
theorem jcq {b:Nat}{h:j8}{bb:Bool}{p:qm}{o v:Option (List qm)}(hv:bh o [p]=Ef v)(hn:o.isNone=En):bE 2 b h E0 (Ef (sl 2 aS o)) (Ef (.list bb 2 [.agg [.str p.k,.int .i64 p.n]]))=bT (decide (b≤4096)) (Ef ⟨sl 2 aS v,En,E0,h⟩):=uH (x:=p) (by omega) rfl hn hv
def zz (p:qj):qa:=.agg [.str p.k,.int .i64 p.a,.int .i64 p.b]
@[go_sem] theorem j9g {p:qj}:(zz p).flat=[.str p.k,.int .i64 p.a,.int .i64 p.b]:=rfl
@[go_sem] theorem jas {n:Nat}(p:qj):below n (zz p)=En:=by rfl
@[go_sem] theorem jwc {n z:Nat}{l:Option (List qj)}:below n (sl z zz l)=En:=uA jas
@[go_sem] theorem ja5 {p:qj}:qa.ah (zz p)=.ah (.agg [.str p.k,.int .i64 p.a,.int .i64 p.b]):=rfl
theorem jat {b t:Nat}{h:j8}{bb:Bool}{p:qj}{o v:Option (List qj)}(hv:bh o [p]=Ef v):bE 3 b h (Ef t) (Ef (sl 3 zz o)) (Ef (.list bb 3 [.agg [.str p.k,.int .i64 p.a,.int .i64 p.b]]))=bT (decide (b≤4096)) (Ef ⟨sl 3 zz v,En,Ef t,h⟩):=uG (x:=p) (by omega) rfl hv
theorem jae {b:Nat}{h:j8}{bb:Bool}{p:qj}{o v:Option (List qj)}(hv:bh o [p]=Ef v)(hn:o.isNone=En):bE 3 b h E0 (Ef (sl 3 zz o)) (Ef (.list bb 3 [.agg [.str p.k,.int .i64 p.a,.int .i64 p.b]]))=bT (decide (b≤4096)) (Ef ⟨sl 3 zz v,En,E0,h⟩):=uH (x:=p) (by omega) rfl hn hv
def z7 (p:qk):qa:=.agg [.str p.name,.str p.kind,.int .i64 p.count,.int .i64 p.left,.bool p.held]
@[go_sem] theorem j8q {p:qk}:(z7 p).flat=[.str p.name,.str p.kind,.int .i64 p.count,.int .i64 p.left,.bool p.held]:=rfl
@[go_sem] theorem jag {n:Nat}(p:qk):below n (z7 p)=En:=by rfl
@[go_sem] theorem jv8 {n z:Nat}{l:Option (List qk)}:below n (sl z z7 l)=En:=uA jag
@[go_sem] theorem qz8 {p:qk}:qa.ah (z7 p)=.ah (.agg [.str p.name,.str p.kind,.int .i64 p.count,.int .i64 p.left,.bool p.held]):=rfl
theorem qwn {b t:Nat}{h:j8}{bb:Bool}{p:qk}{o v:Option (List qk)}(hv:bh o [p]=Ef v):bE 5 b h (Ef t) (Ef (sl 5 z7 o)) (Ef (.list bb 5 [.agg [.str p.name,.str p.kind,.int .i64 p.count,.int .i64 p.left,.bool p.held]]))=bT (decide (b≤4096)) (Ef ⟨sl 5 z7 v,En,Ef t,h⟩):=uG (x:=p) (by omega) rfl hv
theorem qwl {b:Nat}{h:j8}{bb:Bool}{p:qk}{o v:Option (List qk)}(hv:bh o [p]=Ef v)(hn:o.isNone=En):bE 5 b h E0 (Ef (sl 5 z7 o)) (Ef (.list bb 5 [.agg [.str p.name,.str p.kind,.int .i64 p.count,.int .i64 p.left,.bool p.held]]))=bT (decide (b≤4096)) (Ef ⟨sl 5 z7 v,En,E0,h⟩):=uH (x:=p) (by omega) rfl hn hv
structure qr where
 ax:Option (List qm)
 aw:Option (List qj)
def dp (p:qr):qa:=.agg [sl 2 aS p.ax,sl 3 zz p.aw]
@[go_sem] theorem j86 {p:qr}:(dp p).flat=[sl 2 aS p.ax,sl 3 zz p.aw]:=rfl
@[go_sem] theorem q8t {n:Nat}(p:qr):below n (dp p)=En:=by simp only[dp,go_sem]
@[go_sem] theorem jvd {n z:Nat}{l:Option (List qr)}:below n (sl z dp l)=En:=uA q8t
@[go_sem] theorem j7k {p:qr}:qa.ah (dp p)=.ah (.agg [sl 2 aS p.ax,sl 3 zz p.aw]):=rfl
theorem jan {b t:Nat}{h:j8}{bb:Bool}{p:qr}{o v:Option (List qr)}(hv:bh o [p]=Ef v):bE 2 b h (Ef t) (Ef (sl 2 dp o)) (Ef (.list bb 2 [.agg [sl 2 aS p.ax,sl 3 zz p.aw]]))=bT (decide (b≤4096)) (Ef ⟨sl 2 dp v,En,Ef t,h⟩):=uG (x:=p) (by omega) rfl hv
theorem q93 {b:Nat}{h:j8}{bb:Bool}{p:qr}{o v:Option (List qr)}(hv:bh o [p]=Ef v)(hn:o.isNone=En):bE 2 b h E0 (Ef (sl 2 dp o)) (Ef (.list bb 2 [.agg [sl 2 aS p.ax,sl 3 zz p.aw]]))=bT (decide (b≤4096)) (Ef ⟨sl 2 dp v,En,E0,h⟩):=uH (x:=p) (by omega) rfl hn hv
structure qi where
 name:List UInt8
 dn:Option (List qm)
 dt:Option (List qj)
 aH:Option (List qr)
def zr (p:qi):qa:=.agg [.str p.name,sl 2 aS p.dn,sl 3 zz p.dt,sl 2 dp p.aH]
@[go_sem] theorem q73 {p:qi}:(zr p).flat=[.str p.name,sl 2 aS p.dn,sl 3 zz p.dt,sl 2 dp p.aH]:=rfl
@[go_sem] theorem q51 {n:Nat}(p:qi):below n (zr p)=En:=by simp only[zr,go_sem]
@[go_sem] theorem jt7 {n z:Nat}{l:Option (List qi)}:below n (sl z zr l)=En:=uA q51
@[go_sem] theorem j6x {p:qi}:qa.ah (zr p)=.ah (.agg [.str p.name,sl 2 aS p.dn,sl 3 zz p.dt,sl 2 dp p.aH]):=rfl
theorem q5k {b t:Nat}{h:j8}{bb:Bool}{p:qi}{o v:Option (List qi)}(hv:bh o [p]=Ef v):bE 4 b h (Ef t) (Ef (sl 4 zr o)) (Ef (.list bb 4 [.agg [.str p.name,sl 2 aS p.dn,sl 3 zz p.dt,sl 2 dp p.aH]]))=bT (decide (b≤4096)) (Ef ⟨sl 4 zr v,En,Ef t,h⟩):=uG (x:=p) (by omega) rfl hv
theorem q5g {b:Nat}{h:j8}{bb:Bool}{p:qi}{o v:Option (List qi)}(hv:bh o [p]=Ef v)(hn:o.isNone=En):bE 4 b h E0 (Ef (sl 4 zr o)) (Ef (.list bb 4 [.agg [.str p.name,sl 2 aS p.dn,sl 3 zz p.dt,sl 2 dp p.aH]]))=bT (decide (b≤4096)) (Ef ⟨sl 4 zr v,En,E0,h⟩):=uH (x:=p) (by omega) rfl hn hv
structure qf where
 name:List UInt8
 product:List UInt8
 version:Int
 uses:Option (List qm)
 results:Option (List qj)
 partner:List UInt8
 aq:Bool
 ai:Int
def bp (p:qf):qa:=.agg [.str p.name,.str p.product,.int .i64 p.version,sl 2 aS p.uses,sl 3 zz p.results,.str p.partner,.bool p.aq,.int .i64 p.ai]
@[go_sem] theorem jit {p:qf}:(bp p).flat=[.str p.name,.str p.product,.int .i64 p.version,sl 2 aS p.uses,sl 3 zz p.results,.str p.partner,.bool p.aq,.int .i64 p.ai]:=rfl
@[go_sem] theorem jcf {n:Nat}(p:qf):below n (bp p)=En:=by simp only[bp,go_sem]
@[go_sem] theorem jxz {n z:Nat}{l:Option (List qf)}:below n (sl z bp l)=En:=uA jcf
@[go_sem] theorem zf5 {p:qf}:qa.ah (bp p)=.ah (.agg [.str p.name,.str p.product,.int .i64 p.version,sl 2 aS p.uses,sl 3 zz p.results,.str p.partner,.bool p.aq,.int .i64 p.ai]):=rfl
theorem jck {b t:Nat}{h:j8}{bb:Bool}{p:qf}{o v:Option (List qf)}(hv:bh o [p]=Ef v):bE 8 b h (Ef t) (Ef (sl 8 bp o)) (Ef (.list bb 8 [.agg [.str p.name,.str p.product,.int .i64 p.version,sl 2 aS p.uses,sl 3 zz p.results,.str p.partner,.bool p.aq,.int .i64 p.ai]]))=bT (decide (b≤4096)) (Ef ⟨sl 8 bp v,En,Ef t,h⟩):=uG (x:=p) (by omega) rfl hv
theorem jcd {b:Nat}{h:j8}{bb:Bool}{p:qf}{o v:Option (List qf)}(hv:bh o [p]=Ef v)(hn:o.isNone=En):bE 8 b h E0 (Ef (sl 8 bp o)) (Ef (.list bb 8 [.agg [.str p.name,.str p.product,.int .i64 p.version,sl 2 aS p.uses,sl 3 zz p.results,.str p.partner,.bool p.aq,.int .i64 p.ai]]))=bT (decide (b≤4096)) (Ef ⟨sl 8 bp v,En,E0,h⟩):=uH (x:=p) (by omega) rfl hn hv
structure qc where
 day:Int
 au:Option (List qk)
 ae:Option (List qi)
 units:Option (List qf)
def ya (p:qc):qa:=.agg [.int .i64 p.day,sl 5 z7 p.au,sl 4 zr p.ae,sl 8 bp p.units]
@[go_sem] theorem j9h {p:qc}:(ya p).flat=[.int .i64 p.day,sl 5 z7 p.au,sl 4 zr p.ae,sl 8 bp p.units]:=rfl
@[go_sem] theorem q96 {n:Nat}(p:qc):below n (ya p)=En:=by simp only[ya,go_sem]
@[go_sem] theorem jvh {n z:Nat}{l:Option (List qc)}:below n (sl z ya l)=En:=uA q96
@[go_sem] theorem j9a {p:qc}:qa.ah (ya p)=.ah (.agg [.int .i64 p.day,sl 5 z7 p.au,sl 4 zr p.ae,sl 8 bp p.units]):=rfl
theorem q88 {b t:Nat}{h:j8}{bb:Bool}{p:qc}{o v:Option (List qc)}(hv:bh o [p]=Ef v):bE 4 b h (Ef t) (Ef (sl 4 ya o)) (Ef (.list bb 4 [.agg [.int .i64 p.day,sl 5 z7 p.au,sl 4 zr p.ae,sl 8 bp p.units]]))=bT (decide (b≤4096)) (Ef ⟨sl 4 ya v,En,Ef t,h⟩):=uG (x:=p) (by omega) rfl hv
theorem q8p {b:Nat}{h:j8}{bb:Bool}{p:qc}{o v:Option (List qc)}(hv:bh o [p]=Ef v)(hn:o.isNone=En):bE 4 b h E0 (Ef (sl 4 ya o)) (Ef (.list bb 4 [.agg [.int .i64 p.day,sl 5 z7 p.au,sl 4 zr p.ae,sl 8 bp p.units]]))=bT (decide (b≤4096)) (Ef ⟨sl 4 ya v,En,E0,h⟩):=uH (x:=p) (by omega) rfl hn hv
structure ql where
 number:Int
 kind:List UInt8
 names:Option (List (List UInt8))
 values:Option (List Int)
 text:List UInt8
def vev (p:ql):qa:=.agg [.int .i64 p.number,.str p.kind,sl 1 qae p.names,sl 1 kr p.values,.str p.text]
@[go_sem] theorem zck {p:ql}:(vev p).flat=[.int .i64 p.number,.str p.kind,sl 1 qae p.names,sl 1 kr p.values,.str p.text]:=rfl
@[go_sem] theorem jcy {n:Nat}(p:ql):below n (vev p)=En:=by simp only[vev,go_sem]
@[go_sem] theorem j04 {n z:Nat}{l:Option (List ql)}:below n (sl z vev l)=En:=uA jcy
@[go_sem] theorem zh2 {p:ql}:qa.ah (vev p)=.ah (.agg [.int .i64 p.number,.str p.kind,sl 1 qae p.names,sl 1 kr p.values,.str p.text]):=rfl
theorem jbk {b t:Nat}{h:j8}{bb:Bool}{p:ql}{o v:Option (List ql)}(hv:bh o [p]=Ef v):bE 5 b h (Ef t) (Ef (sl 5 vev o)) (Ef (.list bb 5 [.agg [.int .i64 p.number,.str p.kind,sl 1 qae p.names,sl 1 kr p.values,.str p.text]]))=bT (decide (b≤4096)) (Ef ⟨sl 5 vev v,En,Ef t,h⟩):=uG (x:=p) (by omega) rfl hv
theorem jcb {b:Nat}{h:j8}{bb:Bool}{p:ql}{o v:Option (List ql)}(hv:bh o [p]=Ef v)(hn:o.isNone=En):bE 5 b h E0 (Ef (sl 5 vev o)) (Ef (.list bb 5 [.agg [.int .i64 p.number,.str p.kind,sl 1 qae p.names,sl 1 kr p.values,.str p.text]]))=bT (decide (b≤4096)) (Ef ⟨sl 5 vev v,En,E0,h⟩):=uH (x:=p) (by omega) rfl hn hv
def qr.er (d:qr):jg:=⟨d.ax.getD [],d.aw.getD []⟩
def qi.er (p:qi):jd:=⟨p.name,⟨p.dn.getD [],p.dt.getD []⟩,(p.aH.getD []).map qr.er⟩
def qf.er (u:qf):qz:=⟨u.name,u.product,u.version,u.uses.getD [],u.results.getD [],u.partner,u.aq,u.ai⟩
def qc.er (r:qc):qu:=⟨r.day,r.au.getD [],(r.ae.getD []).map qi.er,(r.units.getD []).map qf.er⟩
def ql.er (e:ql):je:=⟨e.number,e.kind,e.names.getD [],e.values.getD [],e.text⟩
end Go.Z
namespace Go.Z
open Go Go.Abs Go.W
theorem UW {hh:j8}:∀ {xs:List qa},zu 0 xs=En→lf hh xs=Ef xs
 | [],_=>rfl
 |x::xs,h=>by
  simp only[zu,Ge]at h
  have hx:iB hh x=Ef x:=by
   cases x with
   |ms b o n=>simp[Abs.below,Gc]at h
   |ak b o n=>simp[Abs.below,Gc]at h
   |_=>rfl
  simp only[lf,hx,UW h.2]
theorem qrp {hh:j8}:∀ {xs:List qa},zu 0 xs=En→aC.bn hh xs=Ef xs
 | [],_=>rfl
 |x::xs,h=>by
  simp only[zu,Ge]at h
  have ih:=qrp (hh:=hh) h.2
  cases x with
  |agg cs=>
   have h1:=h.1
   simp only[Abs.below]at h1
   simp only[aC.bn,UW h1,ih]
  |ms b o n=>simp[Abs.below,Gc]at h
  |ak b o n=>simp[Abs.below,Gc]at h
  |_=>simp only[aC.bn,iB,ih]
theorem qp8 {hh:j8}{x:qa}(h:Abs.below 0 x=En):aC hh x=Ef x:=by
 cases x with
 |agg cs=>
  simp only[Abs.below]at h
  simp only[aC,UW h]
 |aB vs=>
  simp only[Abs.below]at h
  simp only[aC,qrp h]
 |ms b o n=>simp[Abs.below,Gc]at h
 |ak b o n=>simp[Abs.below,Gc]at h
 |_=>rfl
theorem y6 {p:qt}{k:Nat}(f:qd){args:List qa}{v:qa}(hc:∃hh,DM f.results (X p f.body ⟨n6 0 args,[]⟩)=some (v,false,hh))(hp:p.cq k=none:=by rfl)(hf:p.bj k=some f:=by rfl)(hl:Nat.ble args.length f.ntmps=true:=by rfl)(hv:below 0 v=true:=by first|rfl|simp only[go_sem,seval]):jy p (X p) k args=some (v,false):=by
 obtain⟨hh,hc⟩:=hc
 cases f with
 |mk n b r=>exact ko hp (by rw[zd hf (Nat.le_of_ble_eq_true hl)];exact hc) (qp8 hv) hv
theorem fk {p:qt}{k:Nat}(f:qd){args:List qa}{v:qa}{o:Bool}(hc:∃hh,DM f.results (X p f.body ⟨n6 0 args,[]⟩)=some (v,o,hh))(hp:p.cq k=none:=by rfl)(hf:p.bj k=some f:=by rfl)(hn:Nat.ble args.length f.ntmps=true:=by rfl)(hv:below 0 v=true:=by first|rfl|simp only[go_sem,seval])(hl:v.cu=true:=by first|rfl|simp only[go_sem,seval]):jy p (X p) k args=some (v,o):=by
 obtain⟨hh,hc⟩:=hc
 cases f with
 |mk n b r=>exact qzj hp (by rw[zd hf (Nat.le_of_ble_eq_true hn)];exact hc) (qp8 hv) hv hl
theorem yj {σ δ:Type}{p:qt}{c:qe}{St:σ→qg}{Ex:δ→qo×qg}{s s':σ}(h:X p c (St s)=some (.normal,St s'))(hl:(St s').heap.length≤(St s).heap.length:=by exact Nat.le_refl _):yp p c St Ex s (.inl s'):=vG h (Ap hl)
theorem q61 {σ δ:Type}{p:qt}{c:qe}{St:σ→qg}{Ex:δ→qo×qg}{s s':σ}(h:∃t,X p c (St s)=Ef (.normal,⟨(St s').env,(St s').heap++t⟩))(hn:(St s).heap.length=(St s').heap.length)(h1:mc (St s).heap.length (St s').env=En)(h2:kh (St s).heap.length (St s').heap=En):yp p c St Ex s (.inl s'):=by
 obtain⟨t,h⟩:=h
 exact vG h (jlt hn rfl h1 h2)
theorem lF {α:Type}{z:Nat}{f:α→qa}{l:List α}:sl z f (Ef l)=.list E1 z (l.map f):=rfl
theorem y9 {α:Type}{z:Nat}{f:α→qa}:sl z f E0=.list En 0 []:=rfl
abbrev Iv (n:Int):qa:=.int .i64 n
abbrev Lv {α:Type}(o:Option (List α)):qa:=.int .i64 ((o.getD []).length:Int)
abbrev Nl:qa:=.list En 0 []
abbrev aE (e:ql):qa:=.agg [.int .i64 e.number,.str e.kind,sl 1 qae e.names,sl 1 kr e.values,.str e.text]
abbrev aR (r:qc):qa:=.agg [.int .i64 r.day,sl 5 z7 r.au,sl 4 zr r.ae,sl 8 bp r.units]
abbrev aU (u:qf):qa:=.agg [.str u.name,.str u.product,.int .i64 u.version,sl 2 aS u.uses,sl 3 zz u.results,.str u.partner,.bool u.aq,.int .i64 u.ai]
abbrev aL (l:qk):qa:=.agg [.str l.name,.str l.kind,.int .i64 l.count,.int .i64 l.left,.bool l.held]
abbrev aP (p:qi):qa:=.agg [.str p.name,sl 2 aS p.dn,sl 3 zz p.dt,sl 2 dp p.aH]
abbrev aD (d:qr):qa:=.agg [sl 2 aS d.ax,sl 3 zz d.aw]
abbrev aT (x:qj):qa:=.agg [.str x.k,.int .i64 x.a,.int .i64 x.b]
abbrev aN (x:qm):qa:=.agg [.str x.k,.int .i64 x.n]
abbrev aG (a:Int)(b:Option (List qk))(c:Option (List qi))(d:Option (List qf)):qa:=.agg [.int .i64 a,sl 5 z7 b,sl 4 zr c,sl 8 bp d]
abbrev kS (a:Int)(b:Option (List qk))(o1:Bool)(c:Option (List qi))(o2:Bool)(d:Option (List qf))(o3:Bool):qn:=.cells [(.int .i64 a,E1),(sl 5 z7 b,o1),(sl 4 zr c,o2),(sl 8 bp d,o3)]
abbrev kR (a:Int)(b:Option (List qk))(c:Option (List qi))(d:Option (List qf)):qn:=.cells [(.int .i64 a,E1),(sl 5 z7 b,E1),(sl 4 zr c,E1),(sl 8 bp d,E1)]
abbrev kO:qn:=.cells [(Nl,E1),(Nl,E1),(Nl,E1)]
abbrev bg:qn:=.cells [(Nl,E1),(Nl,E1),(.ak 4 0 1,E1)]
abbrev bR:qn:=.cells [(Nl,E1),(Nl,E1),(.ak 5 0 1,E1)]
abbrev kZ:qn:=.cells [(.int .i64 0,E1),(Nl,E1),(Nl,E1),(Nl,E1)]
abbrev aZ:qa:=.agg [.int .i64 0,Nl,Nl,Nl]
def om {α β:Type}(o:Option α)(f:α→β):Option β:=match o with
 |some x=>Ef (f x)
 |none=>E0
@[go_sem] theorem zkw {α β:Type}{x:α}{f:α→β}:om (Ef x) f=Ef (f x):=rfl
theorem zn {h:j8}{α:Type}{z:Nat}{f:α→qa}{l:Option (List α)}{k:IntKind}{i:Int}:gE z h (Ef (sl z f l)) (Ef (.int k i))=om (zo (l.getD []) i) fun x=>⟨.ah (f x),E1,E0,h⟩:=by
 cases hx:zo (l.getD []) i with
 |some x=>exact kc hx
 |none=>
  have hi:uz (l.getD []).length i=E0:=by
   unfold zo at hx
   unfold uz
   by_cases h0:0≤i
   ·rw[if_pos h0]at hx
    rw[if_neg]
    intro hc
    have:=E6.1 hx
    omega
   ·rw[if_neg (fun hc=>h0 hc.1)]
  cases l with
  |none=>simp only[sl,gE,xp,Option.getD_none,E9]at hi ⊢;rw[hi];simp[om]
  |some l=>simp only[sl,gE,xp,Gm,Ga]at hi ⊢;rw[hi];simp[om]
theorem q32 {h:j8}{s:List UInt8}{k:IntKind}{i:Int}:Ar h (Ef (.str s)) (Ef (.int k i))=om (zo s i) fun c=>⟨.int .u8 (c.toNat:Int),E1,E0,h⟩:=by
 cases hx:zo s i with
 |some x=>exact jhc hx
 |none=>
  have hi:uz s.length i=E0:=by
   unfold zo at hx
   unfold uz
   by_cases h0:0≤i
   ·rw[if_pos h0]at hx
    rw[if_neg]
    intro hc
    have:=E6.1 hx
    omega
   ·rw[if_neg (fun hc=>h0 hc.1)]
  simp only[Ar,xp,hi,om]
theorem xr {h:j8}{b pos:Nat}{s:List UInt8}:uE h b (Ef (.iter s pos))=cond (decide (pos<s.length)) (gS (yl h b (.iter s (pos+(zg s pos).2))) (.aB [.bool En,.int .i64 pos,.int .i32 (zg s pos).1])) (Ef ⟨.aB [.bool E1],E1,E0,h⟩):=by
 cases hx:decide (pos<s.length)with
 |true=>exact jqx hx
 |false=>exact jot hx
theorem lG {h:j8}{α:Type}{z b t:Nat}{f:α→qa}{o2:Option (List α)}:bE (z+1) b h (Ef t) (Ef (.list E1 (z+1) [])) (Ef (sl (z+1) f o2))=bT (decide (b≤4096)) (om (bh (Ef []) (o2.getD [])) fun v=>⟨sl (z+1) f v,En,Ef t,h⟩):=by
 cases hx:bh (Ef []) (o2.getD [])with
 |some x=>exact jb8 hx
 |none=>
  unfold bh at hx
  split at hx
  ·cases hx
  rename_i hl
  simp only[Gm,E9]at hl
  simp only[bE,bE.gT,Uy,E9,Ga,mP,dF hl,om]
  cases decide (b≤4096)<;>simp[bT]
theorem vH {p:qm}{o v:Option (List qm)}(hv:bh o [p]=Ef v):(∀ {b t:Nat} {h:j8} {bb:Bool},bE 2 b h (Ef t) (Ef (sl 2 aS o)) (Ef (.list bb 2 [.agg [.str p.k,.int .i64 p.n]]))=bT (decide (b≤4096)) (Ef ⟨sl 2 aS v,En,Ef t,h⟩))∧(∀ {b:Nat} {h:j8} {bb:Bool},o.isNone=En→bE 2 b h E0 (Ef (sl 2 aS o)) (Ef (.list bb 2 [.agg [.str p.k,.int .i64 p.n]]))=bT (decide (b≤4096)) (Ef ⟨sl 2 aS v,En,E0,h⟩)):=⟨jba hv,jcq hv⟩
theorem xt {p:qj}{o v:Option (List qj)}(hv:bh o [p]=Ef v):(∀ {b t:Nat} {h:j8} {bb:Bool},bE 3 b h (Ef t) (Ef (sl 3 zz o)) (Ef (.list bb 3 [.agg [.str p.k,.int .i64 p.a,.int .i64 p.b]]))=bT (decide (b≤4096)) (Ef ⟨sl 3 zz v,En,Ef t,h⟩))∧(∀ {b:Nat} {h:j8} {bb:Bool},o.isNone=En→bE 3 b h E0 (Ef (sl 3 zz o)) (Ef (.list bb 3 [.agg [.str p.k,.int .i64 p.a,.int .i64 p.b]]))=bT (decide (b≤4096)) (Ef ⟨sl 3 zz v,En,E0,h⟩)):=⟨jat hv,jae hv⟩
theorem Ng {p:qk}{o v:Option (List qk)}(hv:bh o [p]=Ef v):(∀ {b t:Nat} {h:j8} {bb:Bool},bE 5 b h (Ef t) (Ef (sl 5 z7 o)) (Ef (.list bb 5 [.agg [.str p.name,.str p.kind,.int .i64 p.count,.int .i64 p.left,.bool p.held]]))=bT (decide (b≤4096)) (Ef ⟨sl 5 z7 v,En,Ef t,h⟩))∧(∀ {b:Nat} {h:j8} {bb:Bool},o.isNone=En→bE 5 b h E0 (Ef (sl 5 z7 o)) (Ef (.list bb 5 [.agg [.str p.name,.str p.kind,.int .i64 p.count,.int .i64 p.left,.bool p.held]]))=bT (decide (b≤4096)) (Ef ⟨sl 5 z7 v,En,E0,h⟩)):=⟨qwn hv,qwl hv⟩
theorem UX {p:qr}{o v:Option (List qr)}(hv:bh o [p]=Ef v):(∀ {b t:Nat} {h:j8} {bb:Bool},bE 2 b h (Ef t) (Ef (sl 2 dp o)) (Ef (.list bb 2 [.agg [sl 2 aS p.ax,sl 3 zz p.aw]]))=bT (decide (b≤4096)) (Ef ⟨sl 2 dp v,En,Ef t,h⟩))∧(∀ {b:Nat} {h:j8} {bb:Bool},o.isNone=En→bE 2 b h E0 (Ef (sl 2 dp o)) (Ef (.list bb 2 [.agg [sl 2 aS p.ax,sl 3 zz p.aw]]))=bT (decide (b≤4096)) (Ef ⟨sl 2 dp v,En,E0,h⟩)):=⟨jan hv,q93 hv⟩
theorem UY {p:qi}{o v:Option (List qi)}(hv:bh o [p]=Ef v):(∀ {b t:Nat} {h:j8} {bb:Bool},bE 4 b h (Ef t) (Ef (sl 4 zr o)) (Ef (.list bb 4 [.agg [.str p.name,sl 2 aS p.dn,sl 3 zz p.dt,sl 2 dp p.aH]]))=bT (decide (b≤4096)) (Ef ⟨sl 4 zr v,En,Ef t,h⟩))∧(∀ {b:Nat} {h:j8} {bb:Bool},o.isNone=En→bE 4 b h E0 (Ef (sl 4 zr o)) (Ef (.list bb 4 [.agg [.str p.name,sl 2 aS p.dn,sl 3 zz p.dt,sl 2 dp p.aH]]))=bT (decide (b≤4096)) (Ef ⟨sl 4 zr v,En,E0,h⟩)):=⟨q5k hv,q5g hv⟩
theorem UZ {p:qf}{o v:Option (List qf)}(hv:bh o [p]=Ef v):(∀ {b t:Nat} {h:j8} {bb:Bool},bE 8 b h (Ef t) (Ef (sl 8 bp o)) (Ef (.list bb 8 [.agg [.str p.name,.str p.product,.int .i64 p.version,sl 2 aS p.uses,sl 3 zz p.results,.str p.partner,.bool p.aq,.int .i64 p.ai]]))=bT (decide (b≤4096)) (Ef ⟨sl 8 bp v,En,Ef t,h⟩))∧(∀ {b:Nat} {h:j8} {bb:Bool},o.isNone=En→bE 8 b h E0 (Ef (sl 8 bp o)) (Ef (.list bb 8 [.agg [.str p.name,.str p.product,.int .i64 p.version,sl 2 aS p.uses,sl 3 zz p.results,.str p.partner,.bool p.aq,.int .i64 p.ai]]))=bT (decide (b≤4096)) (Ef ⟨sl 8 bp v,En,E0,h⟩)):=⟨jck hv,jcd hv⟩
theorem jmg {p:qc}{o v:Option (List qc)}(hv:bh o [p]=Ef v):(∀ {b t:Nat} {h:j8} {bb:Bool},bE 4 b h (Ef t) (Ef (sl 4 ya o)) (Ef (.list bb 4 [.agg [.int .i64 p.day,sl 5 z7 p.au,sl 4 zr p.ae,sl 8 bp p.units]]))=bT (decide (b≤4096)) (Ef ⟨sl 4 ya v,En,Ef t,h⟩))∧(∀ {b:Nat} {h:j8} {bb:Bool},o.isNone=En→bE 4 b h E0 (Ef (sl 4 ya o)) (Ef (.list bb 4 [.agg [.int .i64 p.day,sl 5 z7 p.au,sl 4 zr p.ae,sl 8 bp p.units]]))=bT (decide (b≤4096)) (Ef ⟨sl 4 ya v,En,E0,h⟩)):=⟨q88 hv,q8p hv⟩
theorem jbq {p:ql}{o v:Option (List ql)}(hv:bh o [p]=Ef v):(∀ {b t:Nat} {h:j8} {bb:Bool},bE 5 b h (Ef t) (Ef (sl 5 vev o)) (Ef (.list bb 5 [.agg [.int .i64 p.number,.str p.kind,sl 1 qae p.names,sl 1 kr p.values,.str p.text]]))=bT (decide (b≤4096)) (Ef ⟨sl 5 vev v,En,Ef t,h⟩))∧(∀ {b:Nat} {h:j8} {bb:Bool},o.isNone=En→bE 5 b h E0 (Ef (sl 5 vev o)) (Ef (.list bb 5 [.agg [.int .i64 p.number,.str p.kind,sl 1 qae p.names,sl 1 kr p.values,.str p.text]]))=bT (decide (b≤4096)) (Ef ⟨sl 5 vev v,En,E0,h⟩)):=⟨jbk hv,jcb hv⟩
theorem q6t {x:Int}{o v:Option (List Int)}(hv:bh o [x]=Ef v):(∀ {b t:Nat} {h:j8} {bb:Bool},bE 1 b h (Ef t) (Ef (sl 1 kr o)) (Ef (.list bb 1 [.int .i64 x]))=bT (decide (b≤4096)) (Ef ⟨sl 1 kr v,En,Ef t,h⟩))∧(∀ {b:Nat} {h:j8} {bb:Bool},o.isNone=En→bE 1 b h E0 (Ef (sl 1 kr o)) (Ef (.list bb 1 [.int .i64 x]))=bT (decide (b≤4096)) (Ef ⟨sl 1 kr v,En,E0,h⟩)):=⟨jaf hv,q8m hv⟩
theorem q63 {x:List UInt8}{o v:Option (List (List UInt8))}(hv:bh o [x]=Ef v):(∀ {b t:Nat} {h:j8} {bb:Bool},bE 1 b h (Ef t) (Ef (sl 1 qae o)) (Ef (.list bb 1 [.str x]))=bT (decide (b≤4096)) (Ef ⟨sl 1 qae v,En,Ef t,h⟩))∧(∀ {b:Nat} {h:j8} {bb:Bool},o.isNone=En→bE 1 b h E0 (Ef (sl 1 qae o)) (Ef (.list bb 1 [.str x]))=bT (decide (b≤4096)) (Ef ⟨sl 1 qae v,En,E0,h⟩)):=⟨q8a hv,fun hn=>uH (by omega) rfl hn hv⟩
theorem jrx {α:Type}{o v:Option (List α)}{hi:Int}(hv:xu o E0 (Ef hi)=Ef v):∀(h:j8) (z:Nat) (f:α→qa) (k:IntKind),mQ z h (Ef (sl z f o)) E0 (Ef (Ef (.int k hi)))=Ef ⟨sl z f v,E1,E0,h⟩:=fun _ _ _ _=>jl4 hv
@[go_sem] theorem j3n {n:Nat}{v:qa}:below n (.ah v)=below n v:=rfl
structure ji where
 names:Int
 values:Int
 known:Bool
theorem j5b {a0 b0:List UInt8}{a1 b1:Int}:ky [.str,.int] [.str a0,.int .i64 a1] [.str b0,.int .i64 b1]=Ef (decide (a0=b0)&&decide (a1=b1)):=by
 have e:∀x y:Int,(x == y)=decide (x=y):=fun x y=>by by_cases h:x=y<;>simp[h]
 have e':∀x y:List UInt8,(x == y)=decide (x=y):=fun x y=>by by_cases h:x=y<;>simp[h]
 have e2:∀x y:Bool,(x == y)=decide (x=y):=fun x y=>by cases x<;>cases y<;>rfl
 simp only[ky,kY,e,e',e2,decide_true,cT]
 by_cases h0:a0=b0<;>by_cases h1:a1=b1<;>simp[h0,h1]
@[go_sem] theorem zj4 {h:j8}{a0 b0:List UInt8}{a1 b1:Int}:GI [.str,.int] En h (Ef (.agg [.str a0,.int .i64 a1])) (Ef (.agg [.str b0,.int .i64 b1]))=Ef ⟨.bool (!(decide (a0=b0)&&decide (a1=b1))),E1,E0,h⟩:=by
 show(match ky [.str,.int] [.str a0,.int .i64 a1] [.str b0,.int .i64 b1]with|some t=>val h (.bool (bif En then !t else t))|none=>E0)=_
 rw[j5b]
 rfl
theorem juq {a0 b0:List UInt8}{a1 b1:Int}{a2 b2:Int}:ky [.str,.int,.int] [.str a0,.int .i64 a1,.int .i64 a2] [.str b0,.int .i64 b1,.int .i64 b2]=Ef (decide (a0=b0)&&decide (a1=b1)&&decide (a2=b2)):=by
 have e:∀x y:Int,(x == y)=decide (x=y):=fun x y=>by by_cases h:x=y<;>simp[h]
 have e':∀x y:List UInt8,(x == y)=decide (x=y):=fun x y=>by by_cases h:x=y<;>simp[h]
 have e2:∀x y:Bool,(x == y)=decide (x=y):=fun x y=>by cases x<;>cases y<;>rfl
 simp only[ky,kY,e,e',e2,decide_true,cT]
 by_cases h0:a0=b0<;>by_cases h1:a1=b1<;>by_cases h2:a2=b2<;>simp[h0,h1,h2]
@[go_sem] theorem zi4 {h:j8}{a0 b0:List UInt8}{a1 b1:Int}{a2 b2:Int}:GI [.str,.int,.int] En h (Ef (.agg [.str a0,.int .i64 a1,.int .i64 a2])) (Ef (.agg [.str b0,.int .i64 b1,.int .i64 b2]))=Ef ⟨.bool (!(decide (a0=b0)&&decide (a1=b1)&&decide (a2=b2))),E1,E0,h⟩:=by
 show(match ky [.str,.int,.int] [.str a0,.int .i64 a1,.int .i64 a2] [.str b0,.int .i64 b1,.int .i64 b2]with|some t=>val h (.bool (bif En then !t else t))|none=>E0)=_
 rw[juq]
 rfl
theorem j10 {a0 b0:List UInt8}{a1 b1:List UInt8}{a2 b2:Int}{a3 b3:Int}{a4 b4:Bool}:ky [.str,.str,.int,.int,.bool] [.str a0,.str a1,.int .i64 a2,.int .i64 a3,.bool a4] [.str b0,.str b1,.int .i64 b2,.int .i64 b3,.bool b4]=Ef (decide (a0=b0)&&decide (a1=b1)&&decide (a2=b2)&&decide (a3=b3)&&decide (a4=b4)):=by
 have e:∀x y:Int,(x == y)=decide (x=y):=fun x y=>by by_cases h:x=y<;>simp[h]
 have e':∀x y:List UInt8,(x == y)=decide (x=y):=fun x y=>by by_cases h:x=y<;>simp[h]
 have e2:∀x y:Bool,(x == y)=decide (x=y):=fun x y=>by cases x<;>cases y<;>rfl
 simp only[ky,kY,e,e',e2,decide_true,cT]
 by_cases h0:a0=b0<;>by_cases h1:a1=b1<;>by_cases h2:a2=b2<;>by_cases h3:a3=b3<;>by_cases h4:a4=b4<;>simp[h0,h1,h2,h3,h4]
@[go_sem] theorem zjl {h:j8}{a0 b0:List UInt8}{a1 b1:List UInt8}{a2 b2:Int}{a3 b3:Int}{a4 b4:Bool}:GI [.str,.str,.int,.int,.bool] En h (Ef (.agg [.str a0,.str a1,.int .i64 a2,.int .i64 a3,.bool a4])) (Ef (.agg [.str b0,.str b1,.int .i64 b2,.int .i64 b3,.bool b4]))=Ef ⟨.bool (!(decide (a0=b0)&&decide (a1=b1)&&decide (a2=b2)&&decide (a3=b3)&&decide (a4=b4))),E1,E0,h⟩:=by
 show(match ky [.str,.str,.int,.int,.bool] [.str a0,.str a1,.int .i64 a2,.int .i64 a3,.bool a4] [.str b0,.str b1,.int .i64 b2,.int .i64 b3,.bool b4]with|some t=>val h (.bool (bif En then !t else t))|none=>E0)=_
 rw[j10]
 rfl
@[go_sem] theorem zg2 {h0:Nat}{al:Option (List Nat)}{h:j8}{g:Fn}{a b:List qa}:eH h0 al E1 1 h (Ef (.ah (.fn g a b)))=Ef ⟨.fn g a b,E1,E0,h⟩:=rfl
def xw (h:j8)(zero:qa)(r:Option (Option (Nat×qa))):Option qq:=match r with
 |some (Ef (_,v))=>Ef ⟨.aB [v,.bool En],E1,E0,h⟩
 |some E0=>Ef ⟨.aB [zero,.bool E1],E1,E0,h⟩
 |none=>E0
@[go_sem] theorem jvj {h:j8}{z v:qa}{i:Nat}:xw h z (Ef (Ef (i,v)))=Ef ⟨.aB [v,.bool En],E1,E0,h⟩:=rfl
@[go_sem] theorem jve {h:j8}{z:qa}:xw h z (Ef E0)=Ef ⟨.aB [z,.bool E1],E1,E0,h⟩:=rfl
def Nh (h:j8)(kd:Kd)(z kv:qa)(x:Option qn):Option qq:=match x with
 |some (.map es)=>xw h z (yx kd kv es 0)
 |_=>E0
@[go_sem] theorem j3b {h:j8}{kd:Kd}{z kv:qa}{es:List (qa×qa)}:Nh h kd z kv (Ef (.map es))=xw h z (yx kd kv es 0):=rfl
def U0 (h0:Nat)(al:Option (List Nat))(h:j8)(kd:Kd)(z:qa)(m k:Option qa):Option qq:=match m,k with
 |some (.map b),Ef kv=>bT (yv h0 al b) (Nh h kd z kv h[b]?)
 |some .bN,Ef _=>Ef ⟨.aB [z,.bool E1],E1,E0,h⟩
 |_,_=>E0
@[go_sem] theorem jr8 {h0:Nat}{al:Option (List Nat)}{h:j8}{kd:Kd}{z kv:qa}{b:Nat}:U0 h0 al h kd z (Ef (.map b)) (Ef kv)=bT (yv h0 al b) (Nh h kd z kv h[b]?):=rfl
@[go_sem] theorem j8h {p:qt}{xc:XC}{h0:Nat}{al:Option (List Nat)}{e:Env}{h:j8}{kd:Kd}{z:qa}{m k:qh}:j9 p xc h0 al e h (.lookup kd z En m k)=U0 h0 al h kd z (zc e m) (zc e k):=by
 simp only[j9,gW,U0]
 cases zc e m with
 |none=>cases zc e k<;>rfl
 |some v=>cases zc e k with
  |none=>cases v<;>rfl
  |some kv=>cases v with
   |map b=>
    simp only[bT,y5,Nh,xw]
    cases yv h0 al b with
    |false=>rfl
    |true=>
     simp only[cT]
     cases h[b]? with
     |none=>rfl
     |some x=>cases x with
      |map es=>
       simp only[]
       cases yx kd kv es 0 with
       |none=>rfl
       |some r=>cases r<;>rfl
      |_=>rfl
   |_=>rfl
theorem GJ {σ δ γ:Type}(n:Nat)(mk:Nat→σ)(f:σ→Option (σ⊕δ))(V:δ→γ)(r:Nat→γ)(cN:∃d,f (mk n)=Ef (.inr d)∧V d=r n)
  (b9:∀i,i<n→(f (mk i)=Ef (.inl (mk (i+1)))∧r i=r (i+1))∨(∃d,f (mk i)=Ef (.inr d)∧V d=r i)):∃d,bf f (mk 0)=Ef d∧V d=r 0:=by
 have key:∀(k i:Nat),i+k=n→∃d,bf f (mk i)=Ef d∧V d=r i:=by
  intro k
  induction k with
  |zero=>
   intro i hi
   have:i=n:=by omega
   subst this
   obtain⟨d,h1,h2⟩:=cN
   exact⟨d,iT h1,h2⟩
  |succ k ih=>
   intro i hi
   rcases b9 i (by omega)with⟨h1,h2⟩|⟨d,h1,h2⟩
   ·rw[oo h1,h2];exact ih (i+1) (by omega)
   ·exact⟨d,iT h1,h2⟩
 exact key n 0 (by omega)
theorem U1 {α δ:Type}(l:List α)(f:Int→Option (Int⊕δ))(q:α→Bool)(V:δ→Bool)(cN:∃d,f (l.length:Int)=Ef (.inr d)∧V d=En)
  (b9:∀(i:Nat) x,l[i]?=Ef x→i<l.length→(q x=En∧f (i:Int)=Ef (.inl ((i+1:Nat):Int)))∨(q x=E1∧∃d,f (i:Int)=Ef (.inr d)∧V d=E1)):∃d,bf f 0=Ef d∧V d=l.all q:=by
 have:=GJ l.length (fun i=>(i:Int)) f V (fun i=>(l.drop i).all q) (by rw[Gb (Nat.le_refl _)];exact cN) (fun i hi=>by
  obtain⟨x,hx⟩:∃x,l[i]?=Ef x:=⟨_,E7 hi⟩
  simp only[qN hx,List.all_cons]
  rcases b9 i x hx hi with⟨h1,h2⟩|⟨h1,h2⟩
  ·rw[h1];exact .inl ⟨h2,rfl⟩
  ·rw[h1];exact .inr h2)
 simpa using this
theorem jdk {α β:Type}(l:List α)(ix:Nat→Int)(f:Option (List β)×Int×Bool→Option ((Option (List β)×Int×Bool)⊕(Option (List β)×Bool×Int)))(h:α→List β)(a0:List β)(I:Nat→List β→Prop)(hI:I 0 a0)
  (cN:∀a,f (yq a,ix l.length,fR a)=Ef (.inr (yq a,fR a,ix l.length)))
  (b9:∀(i:Nat) x a,l[i]?=Ef x→i<l.length→I i a→I (i+1) (a++h x)∧f (yq a,ix i,fR a)=Ef (.inl (yq (a++h x),ix (i+1),fR (a++h x)))):
  bf f (yq a0,ix 0,fR a0)=Ef (yq (a0++l.flatMap h),fR (a0++l.flatMap h),ix l.length):=by
 have key:∀(k i:Nat),i+k=l.length→∀a,I i a→bf f (yq a,ix i,fR a)=Ef (yq (a++(l.drop i).flatMap h),fR (a++(l.drop i).flatMap h),ix l.length):=by
  intro k
  induction k with
  |zero=>
   intro i hi a _
   have:i=l.length:=by omega
   subst this
   rw[Gb (Nat.le_refl _),List.flatMap_nil,List.append_nil,iT (cN a)]
  |succ k ih=>
   intro i hi a ha
   obtain⟨x,hx⟩:∃x,l[i]?=Ef x:=⟨_,E7 (by omega)⟩
   obtain⟨h1,h2⟩:=b9 i x a hx (by omega) ha
   rw[oo h2,ih (i+1) (by omega) _ h1,qN hx,Gd,List.append_assoc]
 have:=key l.length 0 (by omega) a0 hI
 rwa [List.drop_zero]at this
theorem qvs {α:Type}{a:List α}{x:α}(h:a.length<1073741824):bh (yq a) [x]=Ef (yq (a++[x])):=by
 unfold bh
 cases a with
 |nil=>rfl
 |cons y a=>
  have:((yq (y::a)).getD []).length + [x].length≤1073741824:=by simp[yq]at h ⊢;omega
  rw[if_pos this];rfl
theorem vI {α γ:Type}{a:List α}{x:α}{k:Option (List α)→Option γ}(h:a.length<1073741824):cond (fR a) (jw (bh (yq a) [x]) k) (cond (yq a).isNone (jw (bh (yq a) [x]) k) E0)=k (yq (a++[x])):=by
 rw[qvs h]
 cases a<;>rfl
theorem kn {α:Type}(a:List α):(yq a).getD []=a:=by cases a<;>rfl
theorem Ni {α β:Type}(h:α→β):∀l:List α,l.flatMap (fun x=>[h x])=l.map h
 | []=>rfl
 |x::l=>by rw[Gd,Ni h l];rfl
theorem z6 {α:Type}{l:List α}{i:Nat}{x:α}(hx:l[i]?=Ef x):zo l (i:Int)=Ef x:=by rw[jfo,hx]
theorem fA {α:Type}{l:List α}{i:Nat}(h:i<l.length):decide ((i:Int)<(l.length:Int))=En:=dT (by omega)
theorem kw {n:Nat}:decide ((n:Int)<(n:Int))=E1:=dF (by omega)
end Go.Z
namespace Go.Z
open Go Go.Abs Go.W
def ik:List (List UInt8×List UInt8×Int×Nat):=[(l5,[45,45],2,105),(mR,[45],1,106),(l6,[112,45],2,107),(mS,[112,45],3,108),(po,[112],1,109),(oq,[45,112],1,110),(l7,[117,108],2,111),(ot,[117,45],2,112),(pq,[117],1,113),(mT,[117,117],1,114),(nM,[108],1,115),(qO,[108],1,116),(kE,[117],1,117),(xy,[117],1,118),(ou,[],0,0)]
def fnv (k:Nat):qa:=bif Nat.beq k 0 then .bY else .fn (.func k) [] []
def ov (x:List UInt8):Option (List UInt8×List UInt8×Int×Nat):=ik.find? fun f=>decide (x=f.1)
def yu (x:List UInt8):List UInt8:=match ov x with
 |some f=>f.2.1
 |none=>[]
def mU (x:List UInt8):Int:=match ov x with
 |some f=>f.2.2.1
 |none=>0
def lH (x:List UInt8):qa:=match ov x with
 |some f=>fnv f.2.2.2
 |none=>.bY
def DT (x:List UInt8):Bool:=(ov x).isSome
theorem qxw:z8=ik.map fun f=>(.str f.1,.agg [.str f.2.1,.int .i64 f.2.2.1,fnv f.2.2.2]):=rfl
theorem U2 (x:List UInt8)(h:j8):∀(l:List (List UInt8×List UInt8×Int×Nat)) (n:Nat),yx .str (.str x) (l.map fun f=>(.str f.1,.agg [.str f.2.1,.int .i64 f.2.2.1,fnv f.2.2.2])) n=Ef E0∧l.find? (fun f=>decide (x=f.1))=E0∨∃i f,yx .str (.str x) (l.map fun f=>(.str f.1,.agg [.str f.2.1,.int .i64 f.2.2.1,fnv f.2.2.2])) n=Ef (Ef (i,.agg [.str f.2.1,.int .i64 f.2.2.1,fnv f.2.2.2]))∧l.find? (fun f=>decide (x=f.1))=Ef f
 | [],n=>.inl ⟨rfl,rfl⟩
 |f::l,n=>by
  have he:kY .str (.str x) (.str f.1)=Ef (decide (x=f.1)):=by
   show Ef (x == f.1)=_
   by_cases hx:x=f.1<;>simp[hx]
  by_cases hx:x=f.1
  ·refine .inr ⟨n,f,?_,?_⟩
   ·simp only[E4,yx,he,dT hx]
   ·simp[E3,hx]
  ·rcases U2 x h l (n+1)with⟨h1,h2⟩|⟨i,g,h1,h2⟩
   ·exact .inl ⟨by simp only[E4,yx,he,hx,decide_false];exact h1,by simp only[E3,hx,decide_false];exact h2⟩
   ·exact .inr ⟨i,g,by simp only[E4,yx,he,hx,decide_false];exact h1,by simp only[E3,hx,decide_false];exact h2⟩
@[go_sem] theorem zc1 {h:j8}{g:Fn}{a b:List qa}:uD E1 h (Ef (.fn g a b))=Ef ⟨.ah (.fn g a b),E1,E0,h⟩:=rfl
@[go_sem] theorem zjk:pr.maps 50=Ef z8:=rfl
theorem jmx {h:j8}(x:List UInt8):xw h (.agg [.str [],.int .i64 0,.bY]) (yx .str (.str x) z8 0)=Ef ⟨.aB [.agg [.str (yu x),.int .i64 (mU x),lH x],.bool (DT x)],E1,E0,h⟩:=by
 rw[qxw]
 rcases U2 x h ik 0 with⟨h1,h2⟩|⟨i,f,h1,h2⟩
 ·rw[h1];simp only[xw,yu,mU,lH,DT,ov,h2];rfl
 ·rw[h1];simp only[xw,yu,mU,lH,DT,ov,h2];rfl
theorem Nj {h:j8}(x:List UInt8):vE h (.agg [.str [],.int .i64 0,.bY]) (yx .str (.str x) z8 0)=Ef ⟨.agg [.str (yu x),.int .i64 (mU x),lH x],E1,E0,h⟩:=by
 rw[qxw]
 rcases U2 x h ik 0 with⟨h1,h2⟩|⟨i,f,h1,h2⟩
 ·rw[h1];simp only[vE,yu,mU,lH,ov,h2];rfl
 ·rw[h1];simp only[vE,yu,mU,lH,ov,h2];rfl
@[go_sem] theorem zjb {x:List UInt8}:ze (lH x)=En:=by
 unfold lH
 split
 ·rename_i f _;simp only[fnv];cases Nat.beq f.2.2.2 0<;>rfl
 ·rfl
def en (l:List (List UInt8×Int)):List (qa×qa):=l.map fun p=>(.str p.1,.int .i64 p.2)
def l8 (l:List (List UInt8×Int))(k:List UInt8):Int:=match l.find? fun p=>decide (k=p.1)with
 |some p=>p.2
 |none=>0
def kF:List (List UInt8×Int)→List UInt8→Int→List (List UInt8×Int)
 | [],k,v=>[(k,v)]
 |p::l,k,v=>if k=p.1 then(p.1,v)::l else p::kF l k v
def Nk (l:List (List UInt8×Int))(k:List UInt8)(v:Int):Option (List (List UInt8×Int)):=if l.length≤1073741824 then Ef (kF l k v)else E0
theorem U3 {k s:List UInt8}:kY .str (.str k) (.str s)=Ef (decide (k=s)):=by
 show Ef (k == s)=_
 by_cases hx:k=s<;>simp[hx]
theorem U4 (k:List UInt8):∀(l:List (List UInt8×Int)) (n:Nat),(yx .str (.str k) (en l) n=Ef E0∧l.find? (fun p=>decide (k=p.1))=E0∧∀v,en (kF l k v)=en l++[(.str k,.int .i64 v)])∨∃i p,yx .str (.str k) (en l) n=Ef (Ef (n+i,.int .i64 p.2))∧l.find? (fun p=>decide (k=p.1))=Ef p∧∀v,en (kF l k v)=pG (en l) i (.int .i64 v)
 | [],n=>.inl ⟨rfl,rfl,fun _=>rfl⟩
 |p::l,n=>by
  by_cases hx:k=p.1
  ·refine .inr ⟨0,p,?_,?_,fun v=>?_⟩
   ·simp only[en,E4,yx,U3,dT hx];rfl
   ·simp[E3,hx]
   ·simp only[kF,if_pos hx];rfl
  ·rcases U4 k l (n+1)with⟨h1,h2,h3⟩|⟨i,q,h1,h2,h3⟩
   ·refine .inl ⟨?_,?_,fun v=>?_⟩
    ·simp only[en,E4,yx,U3,dF hx];exact h1
    ·simp only[E3,dF hx];exact h2
    ·simp only[kF,if_neg hx]
     show _::en (kF l k v)=_
     rw[h3];rfl
   ·refine .inr ⟨i+1,q,?_,?_,fun v=>?_⟩
    ·simp only[en,E4,yx,U3,dF hx]
     rw[show n+(i+1)=n+1+i by omega];exact h1
    ·simp only[E3,dF hx];exact h2
    ·simp only[kF,if_neg hx]
     show _::en (kF l k v)=_
     rw[h3];rfl
theorem jkc {h:j8}{l:List (List UInt8×Int)}{k:List UInt8}:vE h (.int .i64 0) (yx .str (.str k) (en l) 0)=Ef ⟨.int .i64 (l8 l k),E1,E0,h⟩:=by
 unfold l8
 rcases U4 k l 0 with⟨h1,h2,_⟩|⟨i,p,h1,h2,_⟩<;>rw[h1,h2]<;>rfl
theorem jp3 {h:j8}{b:Nat}{l v:List (List UInt8×Int)}{k:List UInt8}{n:Int}(hv:Nk l k n=Ef v):DQ h b (en l) (.str k) (.int .i64 n) (yx .str (.str k) (en l) 0)=gS (yl h b (.map (en v))) .undef:=by
 unfold Nk at hv
 split at hv
 ·rename_i hl
  cases hv
  rcases U4 k l 0 with⟨h1,h2,h3⟩|⟨i,p,h1,h2,h3⟩
  ·rw[h1,h3]
   have:Nat.ble (en l).length 1073741824=En:=Nat.ble_eq_true_of_le (by rw[en,Ga];exact hl)
   simp only[DQ,this,bT,cT]
  ·rw[h1,h3,Nat.zero_add];rfl
 ·cases hv
theorem jdl {l:List (List UInt8×Int)}{k k':List UInt8}{v:Int}:l8 (kF l k v) k'=if k'=k then v else l8 l k':=by
 induction l with
 |nil=>by_cases h:k'=k<;>simp[kF,l8,E3,h]
 |cons p l ih=>
  unfold l8 at ih ⊢
  by_cases hk:k=p.1
  ·by_cases h:k'=k
   ·subst h;simp[kF,E3,←hk]
   ·have h2:¬k'=p.1:=by rw[←hk];exact h
    simp[kF,E3,hk,h2]
  ·by_cases h2:k'=p.1
   ·have h3:¬k'=k:=by rw[h2];exact fun h=>hk h.symm
    have h4:¬p.1=k:=fun h=>hk h.symm
    simp[kF,E3,hk,h2,h4]
   ·simp only[kF,if_neg hk,E3,dF h2]
    exact ih
@[go_sem] theorem j7m {h0:Nat}{al:Option (List Nat)}{h:j8}{b:Nat}:eH h0 al E1 1 h (Ef (.ah (.map b)))=Ef ⟨.map b,E1,E0,h⟩:=rfl
@[go_sem] theorem q92 {n:Nat}{l:List (List UInt8×Int)}:tV n (en l)=En:=by
 induction l with
 |nil=>rfl
 |cons p l ih=>simp only[en,E4,tV,below,Bool.true_and];exact ih
@[go_sem] theorem jno {n:Nat}{l:List (List UInt8×Int)}:oS n (.map (en l))=En:=q92
end Go.Z
