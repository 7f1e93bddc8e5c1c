/- The structs of chapter 10 and their cells; what they are in plain lists. -/
import Derived.Test.YtimdocpnkimlfaaGreatDoorL1
import Derived.Test.YtimdocpnkimlfaaGreatDoorWS
import Derived.Test.YtimdocpnkimlfaaGreatDoorZM
set_option linter.unusedVariables false
set_option linter.unusedSimpArgs false
set_option maxRecDepth 100000
open Option renaming some→En,none→Ga,getD_some→Gx
open Bool renaming true→E3,false→Gc,and_eq_true→Gw
open List renaming find?→Gd,map_cons→Gg,getElem?_eq_getElem→Gh,length_map→Gl,getElem?_eq_none_iff→Gm,length_nil→Gp,drop_eq_nil_of_le→Gq,flatMap_cons→Gv,length_cons→G6
open Nat renaming ble_eq_true_of_le→Gi,le_of_ble_eq_true→Gr,blt→Gs,le_refl→Gz
namespace Go.Z
open Go Go.Abs Go.W
def bm (p:br):AVal:=.agg [.str p.k,.int .i64 p.n]
@[go_sem] theorem zbu {p}:(bm p).flat=[.str p.k,.int .i64 p.n]:=rfl
@[go_sem] theorem jft {n}(p:br):below n (bm p)=E3:=by rfl
@[go_sem] theorem j06 {n z l}:below n (sl z bm l)=E3:=vC jft
@[go_sem] theorem zfh {p}:AVal.ah (bm p)=.ah (.agg [.str p.k,.int .i64 p.n]):=rfl
theorem jd2 {b t h bb p o v}(hv:bH o [p]=En v):bO 2 b h (En t) (En (sl 2 bm o)) (En (.list bb 2 [.agg [.str p.k,.int .i64 p.n]]))=b3 (decide (b≤4096)) (En ⟨sl 2 bm v,E3,En t,h⟩):=vH (x:=p) (by omega) rfl hv
theorem je0 {b h bb p o v}(hv:bH o [p]=En v)(hn:o.isNone=E3):bO 2 b h Ga (En (sl 2 bm o)) (En (.list bb 2 [.agg [.str p.k,.int .i64 p.n]]))=b3 (decide (b≤4096)) (En ⟨sl 2 bm v,E3,Ga,h⟩):=vI (x:=p) (by omega) rfl hn hv
def q9 (p:jf):AVal:=.agg [.str p.k,.int .i64 p.a,.int .i64 p.b]
@[go_sem] theorem za8 {p}:(q9 p).flat=[.str p.k,.int .i64 p.a,.int .i64 p.b]:=rfl
@[go_sem] theorem jbk {n}(p:jf):below n (q9 p)=E3:=by rfl
@[go_sem] theorem jzy {n z l}:below n (sl z q9 l)=E3:=vC jbk
@[go_sem] theorem jdc {p}:AVal.ah (q9 p)=.ah (.agg [.str p.k,.int .i64 p.a,.int .i64 p.b]):=rfl
theorem q9a {b t h bb p o v}(hv:bH o [p]=En v):bO 3 b h (En t) (En (sl 3 q9 o)) (En (.list bb 3 [.agg [.str p.k,.int .i64 p.a,.int .i64 p.b]]))=b3 (decide (b≤4096)) (En ⟨sl 3 q9 v,E3,En t,h⟩):=vH (x:=p) (by omega) rfl hv
theorem q83 {b h bb p o v}(hv:bH o [p]=En v)(hn:o.isNone=E3):bO 3 b h Ga (En (sl 3 q9 o)) (En (.list bb 3 [.agg [.str p.k,.int .i64 p.a,.int .i64 p.b]]))=b3 (decide (b≤4096)) (En ⟨sl 3 q9 v,E3,Ga,h⟩):=vI (x:=p) (by omega) rfl hn hv
def jb (p:ja):AVal:=.agg [.str p.name,.str p.kind,.int .i64 p.count,.int .i64 p.left,.bool p.held]
@[go_sem] theorem za4 {p}:(jb p).flat=[.str p.name,.str p.kind,.int .i64 p.count,.int .i64 p.left,.bool p.held]:=rfl
@[go_sem] theorem q9x {n}(p:ja):below n (jb p)=E3:=by rfl
@[go_sem] theorem jzf {n z l}:below n (sl z jb l)=E3:=vC q9x
@[go_sem] theorem q0d {p}:AVal.ah (jb p)=.ah (.agg [.str p.name,.str p.kind,.int .i64 p.count,.int .i64 p.left,.bool p.held]):=rfl
theorem qwz {b t h bb p o v}(hv:bH o [p]=En v):bO 5 b h (En t) (En (sl 5 jb o)) (En (.list bb 5 [.agg [.str p.name,.str p.kind,.int .i64 p.count,.int .i64 p.left,.bool p.held]]))=b3 (decide (b≤4096)) (En ⟨sl 5 jb v,E3,En t,h⟩):=vH (x:=p) (by omega) rfl hv
theorem qwg {b h bb p o v}(hv:bH o [p]=En v)(hn:o.isNone=E3):bO 5 b h Ga (En (sl 5 jb o)) (En (.list bb 5 [.agg [.str p.name,.str p.kind,.int .i64 p.count,.int .i64 p.left,.bool p.held]]))=b3 (decide (b≤4096)) (En ⟨sl 5 jb v,E3,Ga,h⟩):=vI (x:=p) (by omega) rfl hn hv
structure bY where
 aM:Option (List br)
 aH:Option (List jf)
def yd (p:bY):AVal:=.agg [sl 2 bm p.aM,sl 3 q9 p.aH]
@[go_sem] theorem zae {p}:(yd p).flat=[sl 2 bm p.aM,sl 3 q9 p.aH]:=rfl
@[go_sem] theorem jcp {n}(p:bY):below n (yd p)=E3:=by simp only[yd,go_sem]
@[go_sem] theorem jzj {n z l}:below n (sl z yd l)=E3:=vC jcp
@[go_sem] theorem zah {p}:AVal.ah (yd p)=.ah (.agg [sl 2 bm p.aM,sl 3 q9 p.aH]):=rfl
theorem jat {b t h bb p o v}(hv:bH o [p]=En v):bO 2 b h (En t) (En (sl 2 yd o)) (En (.list bb 2 [.agg [sl 2 bm p.aM,sl 3 q9 p.aH]]))=b3 (decide (b≤4096)) (En ⟨sl 2 yd v,E3,En t,h⟩):=vH (x:=p) (by omega) rfl hv
theorem q82 {b h bb p o v}(hv:bH o [p]=En v)(hn:o.isNone=E3):bO 2 b h Ga (En (sl 2 yd o)) (En (.list bb 2 [.agg [sl 2 bm p.aM,sl 3 q9 p.aH]]))=b3 (decide (b≤4096)) (En ⟨sl 2 yd v,E3,Ga,h⟩):=vI (x:=p) (by omega) rfl hn hv
structure aX where
 name:List UInt8
 dn:Option (List br)
 dt:Option (List jf)
 aW:Option (List bY)
def qu (p:aX):AVal:=.agg [.str p.name,sl 2 bm p.dn,sl 3 q9 p.dt,sl 2 yd p.aW]
@[go_sem] theorem jcc {p}:(qu p).flat=[.str p.name,sl 2 bm p.dn,sl 3 q9 p.dt,sl 2 yd p.aW]:=rfl
@[go_sem] theorem q6n {n}(p:aX):below n (qu p)=E3:=by simp only[qu,go_sem]
@[go_sem] theorem jx9 {n z l}:below n (sl z qu l)=E3:=vC q6n
@[go_sem] theorem j8z {p}:AVal.ah (qu p)=.ah (.agg [.str p.name,sl 2 bm p.dn,sl 3 q9 p.dt,sl 2 yd p.aW]):=rfl
theorem q6x {b t h bb p o v}(hv:bH o [p]=En v):bO 4 b h (En t) (En (sl 4 qu o)) (En (.list bb 4 [.agg [.str p.name,sl 2 bm p.dn,sl 3 q9 p.dt,sl 2 yd p.aW]]))=b3 (decide (b≤4096)) (En ⟨sl 4 qu v,E3,En t,h⟩):=vH (x:=p) (by omega) rfl hv
theorem q6u {b h bb p o v}(hv:bH o [p]=En v)(hn:o.isNone=E3):bO 4 b h Ga (En (sl 4 qu o)) (En (.list bb 4 [.agg [.str p.name,sl 2 bm p.dn,sl 3 q9 p.dt,sl 2 yd p.aW]]))=b3 (decide (b≤4096)) (En ⟨sl 4 qu v,E3,Ga,h⟩):=vI (x:=p) (by omega) rfl hn hv
structure aY where
 name:List UInt8
 product:List UInt8
 version:Int
 uses:Option (List br)
 results:Option (List jf)
 partner:List UInt8
 aj:Bool
 ak:Int
def bj (p:aY):AVal:=.agg [.str p.name,.str p.product,.int .i64 p.version,sl 2 bm p.uses,sl 3 q9 p.results,.str p.partner,.bool p.aj,.int .i64 p.ak]
@[go_sem] theorem jlr {p}:(bj p).flat=[.str p.name,.str p.product,.int .i64 p.version,sl 2 bm p.uses,sl 3 q9 p.results,.str p.partner,.bool p.aj,.int .i64 p.ak]:=rfl
@[go_sem] theorem jei {n}(p:aY):below n (bj p)=E3:=by simp only[bj,go_sem]
@[go_sem] theorem j7w {n z l}:below n (sl z bj l)=E3:=vC jei
@[go_sem] theorem zfr {p}:AVal.ah (bj p)=.ah (.agg [.str p.name,.str p.product,.int .i64 p.version,sl 2 bm p.uses,sl 3 q9 p.results,.str p.partner,.bool p.aj,.int .i64 p.ak]):=rfl
theorem je7 {b t h bb p o v}(hv:bH o [p]=En v):bO 8 b h (En t) (En (sl 8 bj o)) (En (.list bb 8 [.agg [.str p.name,.str p.product,.int .i64 p.version,sl 2 bm p.uses,sl 3 q9 p.results,.str p.partner,.bool p.aj,.int .i64 p.ak]]))=b3 (decide (b≤4096)) (En ⟨sl 8 bj v,E3,En t,h⟩):=vH (x:=p) (by omega) rfl hv
theorem jdn {b h bb p o v}(hv:bH o [p]=En v)(hn:o.isNone=E3):bO 8 b h Ga (En (sl 8 bj o)) (En (.list bb 8 [.agg [.str p.name,.str p.product,.int .i64 p.version,sl 2 bm p.uses,sl 3 q9 p.results,.str p.partner,.bool p.aj,.int .i64 p.ak]]))=b3 (decide (b≤4096)) (En ⟨sl 8 bj v,E3,Ga,h⟩):=vI (x:=p) (by omega) rfl hn hv
structure au where
 day:Int
 ar:Option (List ja)
 ae:Option (List aX)
 units:Option (List aY)
def zh (p:au):AVal:=.agg [.int .i64 p.day,sl 5 jb p.ar,sl 4 qu p.ae,sl 8 bj p.units]
@[go_sem] theorem j98 {p}:(zh p).flat=[.int .i64 p.day,sl 5 jb p.ar,sl 4 qu p.ae,sl 8 bj p.units]:=rfl
@[go_sem] theorem q9v {n}(p:au):below n (zh p)=E3:=by simp only[zh,go_sem]
@[go_sem] theorem jy4 {n z l}:below n (sl z zh l)=E3:=vC q9v
@[go_sem] theorem j9n {p}:AVal.ah (zh p)=.ah (.agg [.int .i64 p.day,sl 5 jb p.ar,sl 4 qu p.ae,sl 8 bj p.units]):=rfl
theorem jb8 {b t h bb p o v}(hv:bH o [p]=En v):bO 4 b h (En t) (En (sl 4 zh o)) (En (.list bb 4 [.agg [.int .i64 p.day,sl 5 jb p.ar,sl 4 qu p.ae,sl 8 bj p.units]]))=b3 (decide (b≤4096)) (En ⟨sl 4 zh v,E3,En t,h⟩):=vH (x:=p) (by omega) rfl hv
theorem ja6 {b h bb p o v}(hv:bH o [p]=En v)(hn:o.isNone=E3):bO 4 b h Ga (En (sl 4 zh o)) (En (.list bb 4 [.agg [.int .i64 p.day,sl 5 jb p.ar,sl 4 qu p.ae,sl 8 bj p.units]]))=b3 (decide (b≤4096)) (En ⟨sl 4 zh v,E3,Ga,h⟩):=vI (x:=p) (by omega) rfl hn hv
structure GEv where
 number:Int
 kind:List UInt8
 names:Option (List (List UInt8))
 values:Option (List Int)
 text:List UInt8
def vev (p:GEv):AVal:=.agg [.int .i64 p.number,.str p.kind,sl 1 jd p.names,sl 1 zw p.values,.str p.text]
@[go_sem] theorem zkl {p}:(vev p).flat=[.int .i64 p.number,.str p.kind,sl 1 jd p.names,sl 1 zw p.values,.str p.text]:=rfl
@[go_sem] theorem jdy {n}(p:GEv):below n (vev p)=E3:=by simp only[vev,go_sem]
@[go_sem] theorem j8s {n z l}:below n (sl z vev l)=E3:=vC jdy
@[go_sem] theorem zbx {p}:AVal.ah (vev p)=.ah (.agg [.int .i64 p.number,.str p.kind,sl 1 jd p.names,sl 1 zw p.values,.str p.text]):=rfl
theorem jd7 {b t h bb p o v}(hv:bH o [p]=En v):bO 5 b h (En t) (En (sl 5 vev o)) (En (.list bb 5 [.agg [.int .i64 p.number,.str p.kind,sl 1 jd p.names,sl 1 zw p.values,.str p.text]]))=b3 (decide (b≤4096)) (En ⟨sl 5 vev v,E3,En t,h⟩):=vH (x:=p) (by omega) rfl hv
theorem jd1 {b h bb p o v}(hv:bH o [p]=En v)(hn:o.isNone=E3):bO 5 b h Ga (En (sl 5 vev o)) (En (.list bb 5 [.agg [.int .i64 p.number,.str p.kind,sl 1 jd p.names,sl 1 zw p.values,.str p.text]]))=b3 (decide (b≤4096)) (En ⟨sl 5 vev v,E3,Ga,h⟩):=vI (x:=p) (by omega) rfl hn hv
def bY.er (d:bY):jM:=⟨d.aM.getD [],d.aH.getD []⟩
def aX.er (p:aX):nC:=⟨p.name,⟨p.dn.getD [],p.dt.getD []⟩,(p.aW.getD []).map bY.er⟩
def aY.er (u:aY):j6:=⟨u.name,u.product,u.version,u.uses.getD [],u.results.getD [],u.partner,u.aj,u.ak⟩
def au.er (r:au):jq:=⟨r.day,r.ar.getD [],(r.ae.getD []).map aX.er,(r.units.getD []).map aY.er⟩
def GEv.er (e:GEv):eK:=⟨e.number,e.kind,e.names.getD [],e.values.getD [],e.text⟩
end Go.Z
namespace Go.Z
open Go Go.Abs Go.W
theorem Tw {hh}:∀ {xs:List AVal},qw 0 xs=E3→lF hh xs=En xs
 | [],_=>rfl
 |x::xs,h=>by
  simp only[qw,Gw]at h
  have hx:ko hh x=En x:=by
   cases x with
   |ms b o n=>simp[Abs.below,Gs]at h
   |ay b o n=>simp[Abs.below,Gs]at h
   |_=>rfl
  simp only[lF,hx,Tw h.2]
theorem qqk {hh}:∀ {xs:List AVal},qw 0 xs=E3→aF.bC hh xs=En xs
 | [],_=>rfl
 |x::xs,h=>by
  simp only[qw,Gw]at h
  have ih:=qqk (hh:=hh) h.2
  cases x with
  |agg cs=>
   have h1:=h.1
   simp only[Abs.below]at h1
   simp only[aF.bC,Tw h1,ih]
  |ms b o n=>simp[Abs.below,Gs]at h
  |ay b o n=>simp[Abs.below,Gs]at h
  |_=>simp only[aF.bC,ko,ih]
theorem qpq {hh x}(h:Abs.below 0 x=E3):aF hh x=En x:=by
 cases x with
 |agg cs=>
  simp only[Abs.below]at h
  simp only[aF,Tw h]
 |aC vs=>
  simp only[Abs.below]at h
  simp only[aF,qqk h]
 |ms b o n=>simp[Abs.below,Gs]at h
 |ay b o n=>simp[Abs.below,Gs]at h
 |_=>rfl
theorem zi {p k}(f:av){args v}(hc:∃hh,D4 f.results (X p f.body ⟨oJ 0 args,[]⟩)=some (v,false,hh))(hp:p.cG k=none:=by rfl)(hf:p.bM k=some f:=by rfl)(hl:Nat.ble args.length f.ntmps=true:=by rfl)(hv:below 0 v=true:=by first|rfl|simp only[go_sem,seval]):qc p (X p) k args=some (v,false):=by
 obtain⟨hh,hc⟩:=hc
 cases f with
 |mk n b r=>exact zx hp (by rw[qm hf (Gr hl)];exact hc) (qpq hv) hv
theorem y5 {p k}(f:av){args v o}(hc:∃hh,D4 f.results (X p f.body ⟨oJ 0 args,[]⟩)=some (v,o,hh))(hp:p.cG k=none:=by rfl)(hf:p.bM k=some f:=by rfl)(hn:Nat.ble args.length f.ntmps=true:=by rfl)(hv:below 0 v=true:=by first|rfl|simp only[go_sem,seval])(hl:v.cJ=true:=by first|rfl|simp only[go_sem,seval]):qc p (X p) k args=some (v,o):=by
 obtain⟨hh,hc⟩:=hc
 cases f with
 |mk n b r=>exact qyg hp (by rw[qm hf (Gr hn)];exact hc) (qpq hv) hv hl
theorem ju {σ δ:Type}{p:j8}{c:aw}{St:σ→bf}{Ex:δ→jg×bf}{s s':σ}(h:X p c (St s)=some (.normal,St s'))(hl:(St s').heap.length≤(St s).heap.length:=by exact Nat.le_refl _):jz p c St Ex s (.inl s'):=Be h (D3 hl)
theorem q8j {σ δ:Type}{p:j8}{c:aw}{St:σ→bf}{Ex:δ→jg×bf}{s s':σ}(h:∃t,X p c (St s)=En (.normal,⟨(St s').env,(St s').heap++t⟩))(hn:(St s).heap.length=(St s').heap.length)(h1:mV (St s).heap.length (St s').env=E3)(h2:zr (St s).heap.length (St s').heap=E3):jz p c St Ex s (.inl s'):=by
 obtain⟨t,h⟩:=h
 exact Be h (jpt hn rfl h1 h2)
theorem jB {α:Type}{z:Nat}{f:α→AVal}{l:List α}:sl z f (En l)=.list Gc z (l.map f):=rfl
theorem zm {α:Type}{z:Nat}{f:α→AVal}:sl z f Ga=.list E3 0 []:=rfl
abbrev Iv (n:Int):AVal:=.int .i64 n
abbrev Lv {α:Type}(o:Option (List α)):AVal:=.int .i64 ((o.getD []).length:Int)
abbrev Nl:AVal:=.list E3 0 []
abbrev aE (e:GEv):AVal:=.agg [.int .i64 e.number,.str e.kind,sl 1 jd e.names,sl 1 zw e.values,.str e.text]
abbrev aR (r:au):AVal:=.agg [.int .i64 r.day,sl 5 jb r.ar,sl 4 qu r.ae,sl 8 bj r.units]
abbrev aU (u:aY):AVal:=.agg [.str u.name,.str u.product,.int .i64 u.version,sl 2 bm u.uses,sl 3 q9 u.results,.str u.partner,.bool u.aj,.int .i64 u.ak]
abbrev aL (l:ja):AVal:=.agg [.str l.name,.str l.kind,.int .i64 l.count,.int .i64 l.left,.bool l.held]
abbrev aP (p:aX):AVal:=.agg [.str p.name,sl 2 bm p.dn,sl 3 q9 p.dt,sl 2 yd p.aW]
abbrev aD (d:bY):AVal:=.agg [sl 2 bm d.aM,sl 3 q9 d.aH]
abbrev aT (x:jf):AVal:=.agg [.str x.k,.int .i64 x.a,.int .i64 x.b]
abbrev aN (x:br):AVal:=.agg [.str x.k,.int .i64 x.n]
abbrev aG (a:Int)(b:Option (List ja))(c:Option (List aX))(d:Option (List aY)):AVal:=.agg [.int .i64 a,sl 5 jb b,sl 4 qu c,sl 8 bj d]
abbrev kS (a:Int)(b:Option (List ja))(o1:Bool)(c:Option (List aX))(o2:Bool)(d:Option (List aY))(o3:Bool):bg:=.cells [(.int .i64 a,Gc),(sl 5 jb b,o1),(sl 4 qu c,o2),(sl 8 bj d,o3)]
abbrev kR (a:Int)(b:Option (List ja))(c:Option (List aX))(d:Option (List aY)):bg:=.cells [(.int .i64 a,Gc),(sl 5 jb b,Gc),(sl 4 qu c,Gc),(sl 8 bj d,Gc)]
abbrev kO:bg:=.cells [(Nl,Gc),(Nl,Gc),(Nl,Gc)]
abbrev cf:bg:=.cells [(Nl,Gc),(Nl,Gc),(.ay 5 0 1,Gc)]
abbrev kZ:bg:=.cells [(.int .i64 0,Gc),(Nl,Gc),(Nl,Gc),(Nl,Gc)]
abbrev aZ:AVal:=.agg [.int .i64 0,Nl,Nl,Nl]
def om {α β:Type}(o:Option α)(f:α→β):Option β:=match o with
 |some x=>En (f x)
 |none=>Ga
@[go_sem] theorem zm0 {α β:Type}{x:α}{f:α→β}:om (En x) f=En (f x):=rfl
theorem jh {h:qh}{α:Type}{z:Nat}{f:α→AVal}{l k i}:jY z h (En (sl z f l)) (En (.int k i))=om (qq (l.getD []) i) fun x=>⟨.ah (f x),Gc,Ga,h⟩:=by
 cases hx:qq (l.getD []) i with
 |some x=>exact z7 hx
 |none=>
  have hi:pL (l.getD []).length i=Ga:=by
   unfold qq at hx
   unfold pL
   by_cases h0:0≤i
   ·rw[if_pos h0]at hx
    rw[if_neg]
    intro hc
    have:=Gm.1 hx
    omega
   ·rw[if_neg (fun hc=>h0 hc.1)]
  cases l with
  |none=>simp only[sl,jY,vB,Option.getD_none,Gp]at hi ⊢;rw[hi];simp[om]
  |some l=>simp only[sl,jY,vB,Gx,Gl]at hi ⊢;rw[hi];simp[om]
theorem jlh {h s k i}:Bb h (En (.str s)) (En (.int k i))=om (qq s i) fun c=>⟨.int .u8 (c.toNat:Int),Gc,Ga,h⟩:=by
 cases hx:qq s i with
 |some x=>exact jgp hx
 |none=>
  have hi:pL s.length i=Ga:=by
   unfold qq at hx
   unfold pL
   by_cases h0:0≤i
   ·rw[if_pos h0]at hx
    rw[if_neg]
    intro hc
    have:=Gm.1 hx
    omega
   ·rw[if_neg (fun hc=>h0 hc.1)]
  simp only[Bb,vB,hi,om]
theorem L5 {h b pos s}:vE h b (En (.iter s pos))=cond (decide (pos<s.length)) (fp (jo h b (.iter s (pos+(qn s pos).2))) (.aC [.bool E3,.int .i64 pos,.int .i32 (qn s pos).1])) (En ⟨.aC [.bool Gc],Gc,Ga,h⟩):=by
 cases hx:decide (pos<s.length)with
 |true=>exact jwb hx
 |false=>exact jtg hx
theorem kx {h:qh}{α:Type}{z b t:Nat}{f:α→AVal}{o2}:bO (z+1) b h (En t) (En (.list Gc (z+1) [])) (En (sl (z+1) f o2))=b3 (decide (b≤4096)) (om (bH (En []) (o2.getD [])) fun v=>⟨sl (z+1) f v,E3,En t,h⟩):=by
 cases hx:bH (En []) (o2.getD [])with
 |some x=>exact jek hx
 |none=>
  unfold bH at hx
  split at hx
  ·cases hx
  rename_i hl
  simp only[Gx,Gp]at hl
  simp only[bO,bO.iu,S9,Gp,Gl,nB,decide_eq_false hl,om]
  cases decide (b≤4096)<;>simp[b3]
theorem Bf {p o v}(hv:bH o [p]=En v):(∀ {b t:Nat} {h:qh} {bb:Bool},bO 2 b h (En t) (En (sl 2 bm o)) (En (.list bb 2 [.agg [.str p.k,.int .i64 p.n]]))=b3 (decide (b≤4096)) (En ⟨sl 2 bm v,E3,En t,h⟩))∧(∀ {b:Nat} {h:qh} {bb:Bool},o.isNone=E3→bO 2 b h Ga (En (sl 2 bm o)) (En (.list bb 2 [.agg [.str p.k,.int .i64 p.n]]))=b3 (decide (b≤4096)) (En ⟨sl 2 bm v,E3,Ga,h⟩)):=⟨jd2 hv,je0 hv⟩
theorem D9 {p o v}(hv:bH o [p]=En v):(∀ {b t:Nat} {h:qh} {bb:Bool},bO 3 b h (En t) (En (sl 3 q9 o)) (En (.list bb 3 [.agg [.str p.k,.int .i64 p.a,.int .i64 p.b]]))=b3 (decide (b≤4096)) (En ⟨sl 3 q9 v,E3,En t,h⟩))∧(∀ {b:Nat} {h:qh} {bb:Bool},o.isNone=E3→bO 3 b h Ga (En (sl 3 q9 o)) (En (.list bb 3 [.agg [.str p.k,.int .i64 p.a,.int .i64 p.b]]))=b3 (decide (b≤4096)) (En ⟨sl 3 q9 v,E3,Ga,h⟩)):=⟨q9a hv,q83 hv⟩
theorem Tx {p o v}(hv:bH o [p]=En v):(∀ {b t:Nat} {h:qh} {bb:Bool},bO 5 b h (En t) (En (sl 5 jb o)) (En (.list bb 5 [.agg [.str p.name,.str p.kind,.int .i64 p.count,.int .i64 p.left,.bool p.held]]))=b3 (decide (b≤4096)) (En ⟨sl 5 jb v,E3,En t,h⟩))∧(∀ {b:Nat} {h:qh} {bb:Bool},o.isNone=E3→bO 5 b h Ga (En (sl 5 jb o)) (En (.list bb 5 [.agg [.str p.name,.str p.kind,.int .i64 p.count,.int .i64 p.left,.bool p.held]]))=b3 (decide (b≤4096)) (En ⟨sl 5 jb v,E3,Ga,h⟩)):=⟨qwz hv,qwg hv⟩
theorem q8t {p o v}(hv:bH o [p]=En v):(∀ {b t:Nat} {h:qh} {bb:Bool},bO 2 b h (En t) (En (sl 2 yd o)) (En (.list bb 2 [.agg [sl 2 bm p.aM,sl 3 q9 p.aH]]))=b3 (decide (b≤4096)) (En ⟨sl 2 yd v,E3,En t,h⟩))∧(∀ {b:Nat} {h:qh} {bb:Bool},o.isNone=E3→bO 2 b h Ga (En (sl 2 yd o)) (En (.list bb 2 [.agg [sl 2 bm p.aM,sl 3 q9 p.aH]]))=b3 (decide (b≤4096)) (En ⟨sl 2 yd v,E3,Ga,h⟩)):=⟨jat hv,q82 hv⟩
theorem q3m {p o v}(hv:bH o [p]=En v):(∀ {b t:Nat} {h:qh} {bb:Bool},bO 4 b h (En t) (En (sl 4 qu o)) (En (.list bb 4 [.agg [.str p.name,sl 2 bm p.dn,sl 3 q9 p.dt,sl 2 yd p.aW]]))=b3 (decide (b≤4096)) (En ⟨sl 4 qu v,E3,En t,h⟩))∧(∀ {b:Nat} {h:qh} {bb:Bool},o.isNone=E3→bO 4 b h Ga (En (sl 4 qu o)) (En (.list bb 4 [.agg [.str p.name,sl 2 bm p.dn,sl 3 q9 p.dt,sl 2 yd p.aW]]))=b3 (decide (b≤4096)) (En ⟨sl 4 qu v,E3,Ga,h⟩)):=⟨q6x hv,q6u hv⟩
theorem L6 {p o v}(hv:bH o [p]=En v):(∀ {b t:Nat} {h:qh} {bb:Bool},bO 8 b h (En t) (En (sl 8 bj o)) (En (.list bb 8 [.agg [.str p.name,.str p.product,.int .i64 p.version,sl 2 bm p.uses,sl 3 q9 p.results,.str p.partner,.bool p.aj,.int .i64 p.ak]]))=b3 (decide (b≤4096)) (En ⟨sl 8 bj v,E3,En t,h⟩))∧(∀ {b:Nat} {h:qh} {bb:Bool},o.isNone=E3→bO 8 b h Ga (En (sl 8 bj o)) (En (.list bb 8 [.agg [.str p.name,.str p.product,.int .i64 p.version,sl 2 bm p.uses,sl 3 q9 p.results,.str p.partner,.bool p.aj,.int .i64 p.ak]]))=b3 (decide (b≤4096)) (En ⟨sl 8 bj v,E3,Ga,h⟩)):=⟨je7 hv,jdn hv⟩
theorem jq5 {p o v}(hv:bH o [p]=En v):(∀ {b t:Nat} {h:qh} {bb:Bool},bO 4 b h (En t) (En (sl 4 zh o)) (En (.list bb 4 [.agg [.int .i64 p.day,sl 5 jb p.ar,sl 4 qu p.ae,sl 8 bj p.units]]))=b3 (decide (b≤4096)) (En ⟨sl 4 zh v,E3,En t,h⟩))∧(∀ {b:Nat} {h:qh} {bb:Bool},o.isNone=E3→bO 4 b h Ga (En (sl 4 zh o)) (En (.list bb 4 [.agg [.int .i64 p.day,sl 5 jb p.ar,sl 4 qu p.ae,sl 8 bj p.units]]))=b3 (decide (b≤4096)) (En ⟨sl 4 zh v,E3,Ga,h⟩)):=⟨jb8 hv,ja6 hv⟩
theorem jsx {p o v}(hv:bH o [p]=En v):(∀ {b t:Nat} {h:qh} {bb:Bool},bO 5 b h (En t) (En (sl 5 vev o)) (En (.list bb 5 [.agg [.int .i64 p.number,.str p.kind,sl 1 jd p.names,sl 1 zw p.values,.str p.text]]))=b3 (decide (b≤4096)) (En ⟨sl 5 vev v,E3,En t,h⟩))∧(∀ {b:Nat} {h:qh} {bb:Bool},o.isNone=E3→bO 5 b h Ga (En (sl 5 vev o)) (En (.list bb 5 [.agg [.int .i64 p.number,.str p.kind,sl 1 jd p.names,sl 1 zw p.values,.str p.text]]))=b3 (decide (b≤4096)) (En ⟨sl 5 vev v,E3,Ga,h⟩)):=⟨jd7 hv,jd1 hv⟩
theorem q7z {x o v}(hv:bH o [x]=En v):(∀ {b t:Nat} {h:qh} {bb:Bool},bO 1 b h (En t) (En (sl 1 zw o)) (En (.list bb 1 [.int .i64 x]))=b3 (decide (b≤4096)) (En ⟨sl 1 zw v,E3,En t,h⟩))∧(∀ {b:Nat} {h:qh} {bb:Bool},o.isNone=E3→bO 1 b h Ga (En (sl 1 zw o)) (En (.list bb 1 [.int .i64 x]))=b3 (decide (b≤4096)) (En ⟨sl 1 zw v,E3,Ga,h⟩)):=⟨jcb hv,q87 hv⟩
theorem He {x o v}(hv:bH o [x]=En v):(∀ {b t:Nat} {h:qh} {bb:Bool},bO 1 b h (En t) (En (sl 1 jd o)) (En (.list bb 1 [.str x]))=b3 (decide (b≤4096)) (En ⟨sl 1 jd v,E3,En t,h⟩))∧(∀ {b:Nat} {h:qh} {bb:Bool},o.isNone=E3→bO 1 b h Ga (En (sl 1 jd o)) (En (.list bb 1 [.str x]))=b3 (decide (b≤4096)) (En ⟨sl 1 jd v,E3,Ga,h⟩)):=⟨jbc hv,fun hn=>vI (by omega) rfl hn hv⟩
theorem jxu {α:Type}{o v hi}(hv:yO o Ga (En hi)=En v):∀(h:qh) (z:Nat) (f:α→AVal) (k:IntKind),rR z h (En (sl z f o)) Ga (En (En (.int k hi)))=En ⟨sl z f v,Gc,Ga,h⟩:=fun _ _ _ _=>jo5 hv
@[go_sem] theorem j1e {n v}:below n (.ah v)=below n v:=rfl
structure rS where
 names:Int
 values:Int
 known:Bool
theorem js7 {a0 b0 a1 b1 a2 b2}:yv [.str,.int,.int] [.str a0,.int .i64 a1,.int .i64 a2] [.str b0,.int .i64 b1,.int .i64 b2]=En (decide (a0=b0)&&decide (a1=b1)&&decide (a2=b2)):=by
 have e:∀x y:Int,(x == y)=decide (x=y):=fun x y=>by by_cases h:x=y<;>simp[h]
 have e':∀x y:List UInt8,(x == y)=decide (x=y):=fun x y=>by by_cases h:x=y<;>simp[h]
 have e2:∀x y:Bool,(x == y)=decide (x=y):=fun x y=>by cases x<;>cases y<;>rfl
 simp only[yv,mg,e,e',e2,decide_true,cond_true]
 by_cases h0:a0=b0<;>by_cases h1:a1=b1<;>by_cases h2:a2=b2<;>simp[h0,h1,h2]
@[go_sem] theorem zll {h a0 b0 a1 b1 a2 b2}:Ty [.str,.int,.int] E3 h (En (.agg [.str a0,.int .i64 a1,.int .i64 a2])) (En (.agg [.str b0,.int .i64 b1,.int .i64 b2]))=En ⟨.bool (!(decide (a0=b0)&&decide (a1=b1)&&decide (a2=b2))),Gc,Ga,h⟩:=by
 show(match yv [.str,.int,.int] [.str a0,.int .i64 a1,.int .i64 a2] [.str b0,.int .i64 b1,.int .i64 b2]with|some t=>val h (.bool (bif E3 then !t else t))|none=>Ga)=_
 rw[js7]
 rfl
@[go_sem] theorem ze0 {h0 al h g a b}:gi h0 al Gc 1 h (En (.ah (.fn g a b)))=En ⟨.fn g a b,Gc,Ga,h⟩:=rfl
def yP (h:qh)(zero:AVal)(r:Option (Option (Nat×AVal))):Option bh:=match r with
 |some (En (_,v))=>En ⟨.aC [v,.bool E3],Gc,Ga,h⟩
 |some Ga=>En ⟨.aC [zero,.bool Gc],Gc,Ga,h⟩
 |none=>Ga
@[go_sem] theorem jzv {h z v i}:yP h z (En (En (i,v)))=En ⟨.aC [v,.bool E3],Gc,Ga,h⟩:=rfl
@[go_sem] theorem jzr {h z}:yP h z (En Ga)=En ⟨.aC [z,.bool Gc],Gc,Ga,h⟩:=rfl
def L7 (h:qh)(kd:Kd)(z kv:AVal)(x:Option bg):Option bh:=match x with
 |some (.map es)=>yP h z (jl kd kv es 0)
 |_=>Ga
@[go_sem] theorem j1c {h kd z kv es}:L7 h kd z kv (En (.map es))=yP h z (jl kd kv es 0):=rfl
def Tz (h0:Nat)(al:Option (List Nat))(h:qh)(kd:Kd)(z:AVal)(m k:Option AVal):Option bh:=match m,k with
 |some (.map b),En kv=>b3 (zc h0 al b) (L7 h kd z kv h[b]?)
 |some .bX,En _=>En ⟨.aC [z,.bool Gc],Gc,Ga,h⟩
 |_,_=>Ga
@[go_sem] theorem jw3 {h0 al h kd z kv b}:Tz h0 al h kd z (En (.map b)) (En kv)=b3 (zc h0 al b) (L7 h kd z kv h[b]?):=rfl
@[go_sem] theorem j9b {p xc h0 al e h kd z m k}:qf p xc h0 al e h (.lookup kd z E3 m k)=Tz h0 al h kd z (qi e m) (qi e k):=by
 simp only[qf,yi,Tz]
 cases qi e m with
 |none=>cases qi e k<;>rfl
 |some v=>cases qi e k with
  |none=>cases v<;>rfl
  |some kv=>cases v with
   |map b=>
    simp only[b3,zg,L7,yP]
    cases zc h0 al b with
    |false=>rfl
    |true=>
     simp only[cond_true]
     cases h[b]? with
     |none=>rfl
     |some x=>cases x with
      |map es=>
       simp only[]
       cases jl kd kv es 0 with
       |none=>rfl
       |some r=>cases r<;>rfl
      |_=>rfl
   |_=>rfl
theorem Hf {σ δ γ:Type}(n:Nat)(mk:Nat→σ)(f:σ→Option (σ⊕δ))(V:δ→γ)(r:Nat→γ)(cR:∃d,f (mk n)=En (.inr d)∧V d=r n)
  (cw:∀i,i<n→(f (mk i)=En (.inl (mk (i+1)))∧r i=r (i+1))∨(∃d,f (mk i)=En (.inr d)∧V d=r i)):∃d,bz f (mk 0)=En d∧V d=r 0:=by
 have key:∀(k i:Nat),i+k=n→∃d,bz f (mk i)=En d∧V d=r i:=by
  intro k
  induction k with
  |zero=>
   intro i hi
   have:i=n:=by omega
   subst this
   obtain⟨d,h1,h2⟩:=cR
   exact⟨d,y7 h1,h2⟩
  |succ k ih=>
   intro i hi
   rcases cw i (by omega)with⟨h1,h2⟩|⟨d,h1,h2⟩
   ·rw[nD h1,h2];exact ih (i+1) (by omega)
   ·exact⟨d,y7 h1,h2⟩
 exact key n 0 (by omega)
theorem TA {α δ:Type}(l:List α)(f:Int→Option (Int⊕δ))(q:α→Bool)(V:δ→Bool)(cR:∃d,f (l.length:Int)=En (.inr d)∧V d=E3)
  (cw:∀(i:Nat) x,l[i]?=En x→i<l.length→(q x=E3∧f (i:Int)=En (.inl ((i+1:Nat):Int)))∨(q x=Gc∧∃d,f (i:Int)=En (.inr d)∧V d=Gc)):∃d,bz f 0=En d∧V d=l.all q:=by
 have:=Hf l.length (fun i=>(i:Int)) f V (fun i=>(l.drop i).all q) (by rw[Gq (Gz _)];exact cR) (fun i hi=>by
  obtain⟨x,hx⟩:∃x,l[i]?=En x:=⟨_,Gh hi⟩
  simp only[pN hx,List.all_cons]
  rcases cw i x hx hi with⟨h1,h2⟩|⟨h1,h2⟩
  ·rw[h1];exact .inl ⟨h2,rfl⟩
  ·rw[h1];exact .inr h2)
 simpa using this
theorem jlo {α β:Type}(l:List α)(ix:Nat→Int)(f:Option (List β)×Int×Bool→Option ((Option (List β)×Int×Bool)⊕(Option (List β)×Bool×Int)))(h:α→List β)(a0:List β)(I:Nat→List β→Prop)(hI:I 0 a0)
  (cR:∀a,f (jm a,ix l.length,gw a)=En (.inr (jm a,gw a,ix l.length)))
  (cw:∀(i:Nat) x a,l[i]?=En x→i<l.length→I i a→I (i+1) (a++h x)∧f (jm a,ix i,gw a)=En (.inl (jm (a++h x),ix (i+1),gw (a++h x)))):
  bz f (jm a0,ix 0,gw a0)=En (jm (a0++l.flatMap h),gw (a0++l.flatMap h),ix l.length):=by
 have key:∀(k i:Nat),i+k=l.length→∀a,I i a→bz f (jm a,ix i,gw a)=En (jm (a++(l.drop i).flatMap h),gw (a++(l.drop i).flatMap h),ix l.length):=by
  intro k
  induction k with
  |zero=>
   intro i hi a _
   have:i=l.length:=by omega
   subst this
   rw[Gq (Gz _),List.flatMap_nil,List.append_nil,y7 (cR a)]
  |succ k ih=>
   intro i hi a ha
   obtain⟨x,hx⟩:∃x,l[i]?=En x:=⟨_,Gh (by omega)⟩
   obtain⟨h1,h2⟩:=cw i x a hx (by omega) ha
   rw[nD h2,ih (i+1) (by omega) _ h1,pN hx,Gv,List.append_assoc]
 have:=key l.length 0 (by omega) a0 hI
 rwa [List.drop_zero]at this
theorem qu6 {α:Type}{a:List α}{x}(h:a.length<1073741824):bH (jm a) [x]=En (jm (a++[x])):=by
 unfold bH
 cases a with
 |nil=>rfl
 |cons y a=>
  have:((jm (y::a)).getD []).length + [x].length≤1073741824:=by simp[jm]at h ⊢;omega
  rw[if_pos this];rfl
theorem yQ {α γ:Type}{a:List α}{x:α}{k:Option (List α)→Option γ}(h:a.length<1073741824):cond (gw a) (qa (bH (jm a) [x]) k) (cond (jm a).isNone (qa (bH (jm a) [x]) k) Ga)=k (jm (a++[x])):=by
 rw[qu6 h]
 cases a<;>rfl
theorem jy {α:Type}(a:List α):(jm a).getD []=a:=by cases a<;>rfl
theorem L8 {α β:Type}(h:α→β):∀l:List α,l.flatMap (fun x=>[h x])=l.map h
 | []=>rfl
 |x::l=>by rw[Gv,L8 h l];rfl
theorem jc {α:Type}{l:List α}{i:Nat}{x:α}(hx:l[i]?=En x):qq l (i:Int)=En x:=by rw[jhv,hx]
theorem kc {α:Type}{l:List α}{i}(h:i<l.length):decide ((i:Int)<(l.length:Int))=E3:=decide_eq_true (by omega)
theorem yb {n}:decide ((n:Int)<(n:Int))=Gc:=decide_eq_false (by omega)
end Go.Z
namespace Go.Z
open Go Go.Abs Go.W
def iN:List (List UInt8×List UInt8×Int×Nat):=[(mI,[45,45],2,168),(nE,[45],1,169),(mJ,[112,45],2,170),(nF,[112,45],3,171),(pO,[112],1,172),(mK,[45,112],1,173),(mL,[117,108],2,174),(oT,[117,45],2,175),(pP,[117],1,176),(nG,[117,117],1,177),(ou,[108],1,178),(rT,[108],1,179),(iO,[117],1,180),(yR,[117],1,181),(nH,[],0,0)]
def fnv (k:Nat):AVal:=bif Nat.beq k 0 then .cr else .fn (.func k) [] []
def oW (x:List UInt8):Option (List UInt8×List UInt8×Int×Nat):=iN.find? fun f=>decide (x=f.1)
def za (x:List UInt8):List UInt8:=match oW x with
 |some f=>f.2.1
 |none=>[]
def nI (x:List UInt8):Int:=match oW x with
 |some f=>f.2.2.1
 |none=>0
def lW (x:List UInt8):AVal:=match oW x with
 |some f=>fnv f.2.2.2
 |none=>.cr
def Ea (x:List UInt8):Bool:=(oW x).isSome
theorem qxn:qy=iN.map fun f=>(.str f.1,.agg [.str f.2.1,.int .i64 f.2.2.1,fnv f.2.2.2]):=rfl
theorem TB (x:List UInt8)(h:qh):∀(l:List (List UInt8×List UInt8×Int×Nat)) (n:Nat),jl .str (.str x) (l.map fun f=>(.str f.1,.agg [.str f.2.1,.int .i64 f.2.2.1,fnv f.2.2.2])) n=En Ga∧l.find? (fun f=>decide (x=f.1))=Ga∨∃i f,jl .str (.str x) (l.map fun f=>(.str f.1,.agg [.str f.2.1,.int .i64 f.2.2.1,fnv f.2.2.2])) n=En (En (i,.agg [.str f.2.1,.int .i64 f.2.2.1,fnv f.2.2.2]))∧l.find? (fun f=>decide (x=f.1))=En f
 | [],n=>.inl ⟨rfl,rfl⟩
 |f::l,n=>by
  have he:mg .str (.str x) (.str f.1)=En (decide (x=f.1)):=by
   show En (x == f.1)=_
   by_cases hx:x=f.1<;>simp[hx]
  by_cases hx:x=f.1
  ·refine .inr ⟨n,f,?_,?_⟩
   ·simp only[Gg,jl,he,decide_eq_true hx]
   ·simp[Gd,hx]
  ·rcases TB x h l (n+1)with⟨h1,h2⟩|⟨i,g,h1,h2⟩
   ·exact .inl ⟨by simp only[Gg,jl,he,hx,decide_false];exact h1,by simp only[Gd,hx,decide_false];exact h2⟩
   ·exact .inr ⟨i,g,by simp only[Gg,jl,he,hx,decide_false];exact h1,by simp only[Gd,hx,decide_false];exact h2⟩
@[go_sem] theorem zji {h g a b}:pM Gc h (En (.fn g a b))=En ⟨.ah (.fn g a b),Gc,Ga,h⟩:=rfl
@[go_sem] theorem zly:pr.maps 101=En qy:=rfl
theorem jn2 {h}(x:List UInt8):yP h (.agg [.str [],.int .i64 0,.cr]) (jl .str (.str x) qy 0)=En ⟨.aC [.agg [.str (za x),.int .i64 (nI x),lW x],.bool (Ea x)],Gc,Ga,h⟩:=by
 rw[qxn]
 rcases TB x h iN 0 with⟨h1,h2⟩|⟨i,f,h1,h2⟩
 ·rw[h1];simp only[yP,za,nI,lW,Ea,oW,h2];rfl
 ·rw[h1];simp only[yP,za,nI,lW,Ea,oW,h2];rfl
theorem L9 {h}(x:List UInt8):rQ h (.agg [.str [],.int .i64 0,.cr]) (jl .str (.str x) qy 0)=En ⟨.agg [.str (za x),.int .i64 (nI x),lW x],Gc,Ga,h⟩:=by
 rw[qxn]
 rcases TB x h iN 0 with⟨h1,h2⟩|⟨i,f,h1,h2⟩
 ·rw[h1];simp only[rQ,za,nI,lW,oW,h2];rfl
 ·rw[h1];simp only[rQ,za,nI,lW,oW,h2];rfl
@[go_sem] theorem zle {x}:qk (lW x)=E3:=by
 unfold lW
 split
 ·rename_i f _;simp only[fnv];cases Nat.beq f.2.2.2 0<;>rfl
 ·rfl
def eL (l:List (List UInt8×Int)):List (AVal×AVal):=l.map fun p=>(.str p.1,.int .i64 p.2)
def mM (l:List (List UInt8×Int))(k:List UInt8):Int:=match l.find? fun p=>decide (k=p.1)with
 |some p=>p.2
 |none=>0
def la:List (List UInt8×Int)→List UInt8→Int→List (List UInt8×Int)
 | [],k,v=>[(k,v)]
 |p::l,k,v=>if k=p.1 then(p.1,v)::l else p::la l k v
def Ma (l:List (List UInt8×Int))(k:List UInt8)(v:Int):Option (List (List UInt8×Int)):=if l.length≤1073741824 then En (la l k v)else Ga
theorem Eb {k s}:mg .str (.str k) (.str s)=En (decide (k=s)):=by
 show En (k == s)=_
 by_cases hx:k=s<;>simp[hx]
theorem TC (k:List UInt8):∀(l:List (List UInt8×Int)) (n:Nat),(jl .str (.str k) (eL l) n=En Ga∧l.find? (fun p=>decide (k=p.1))=Ga∧∀v,eL (la l k v)=eL l++[(.str k,.int .i64 v)])∨∃i p,jl .str (.str k) (eL l) n=En (En (n+i,.int .i64 p.2))∧l.find? (fun p=>decide (k=p.1))=En p∧∀v,eL (la l k v)=mW (eL l) i (.int .i64 v)
 | [],n=>.inl ⟨rfl,rfl,fun _=>rfl⟩
 |p::l,n=>by
  by_cases hx:k=p.1
  ·refine .inr ⟨0,p,?_,?_,fun v=>?_⟩
   ·simp only[eL,Gg,jl,Eb,decide_eq_true hx];rfl
   ·simp[Gd,hx]
   ·simp only[la,if_pos hx];rfl
  ·rcases TC k l (n+1)with⟨h1,h2,h3⟩|⟨i,q,h1,h2,h3⟩
   ·refine .inl ⟨?_,?_,fun v=>?_⟩
    ·simp only[eL,Gg,jl,Eb,decide_eq_false hx];exact h1
    ·simp only[Gd,decide_eq_false hx];exact h2
    ·simp only[la,if_neg hx]
     show _::eL (la l k v)=_
     rw[h3];rfl
   ·refine .inr ⟨i+1,q,?_,?_,fun v=>?_⟩
    ·simp only[eL,Gg,jl,Eb,decide_eq_false hx]
     rw[show n+(i+1)=n+1+i by omega];exact h1
    ·simp only[Gd,decide_eq_false hx];exact h2
    ·simp only[la,if_neg hx]
     show _::eL (la l k v)=_
     rw[h3];rfl
theorem jnf {h l k}:rQ h (.int .i64 0) (jl .str (.str k) (eL l) 0)=En ⟨.int .i64 (mM l k),Gc,Ga,h⟩:=by
 unfold mM
 rcases TC k l 0 with⟨h1,h2,_⟩|⟨i,p,h1,h2,_⟩<;>rw[h1,h2]<;>rfl
theorem jw2 {h b l v k n}(hv:Ma l k n=En v):vF h b (eL l) (.str k) (.int .i64 n) (jl .str (.str k) (eL l) 0)=fp (jo h b (.map (eL v))) .undef:=by
 unfold Ma at hv
 split at hv
 ·rename_i hl
  cases hv
  rcases TC k l 0 with⟨h1,h2,h3⟩|⟨i,p,h1,h2,h3⟩
  ·rw[h1,h3]
   have:Nat.ble (eL l).length 1073741824=E3:=Gi (by rw[eL,Gl];exact hl)
   simp only[vF,this,b3,cond_true]
  ·rw[h1,h3,Nat.zero_add];rfl
 ·cases hv
theorem jle {l k k' v}:mM (la l k v) k'=if k'=k then v else mM l k':=by
 induction l with
 |nil=>by_cases h:k'=k<;>simp[la,mM,Gd,h]
 |cons p l ih=>
  unfold mM at ih ⊢
  by_cases hk:k=p.1
  ·by_cases h:k'=k
   ·subst h;simp[la,Gd,←hk]
   ·have h2:¬k'=p.1:=by rw[←hk];exact h
    simp[la,Gd,hk,h2]
  ·by_cases h2:k'=p.1
   ·have h3:¬k'=k:=by rw[h2];exact fun h=>hk h.symm
    have h4:¬p.1=k:=fun h=>hk h.symm
    simp[la,Gd,hk,h2,h4]
   ·simp only[la,if_neg hk,Gd,decide_eq_false h2]
    exact ih
@[go_sem] theorem j9t {h0 al h b}:gi h0 al Gc 1 h (En (.ah (.map b)))=En ⟨.map b,Gc,Ga,h⟩:=rfl
@[go_sem] theorem jc6 {n l}:qI n (eL l)=E3:=by
 induction l with
 |nil=>rfl
 |cons p l ih=>simp only[eL,Gg,qI,below,Bool.true_and];exact ih
@[go_sem] theorem jrp {n l}:nY n (.map (eL l))=E3:=jc6
def lX (l:List (List UInt8))(s:List UInt8):Bool:=decide (s∈l)
def yS (l:List (List UInt8))(s:List UInt8):Option (List (List UInt8)):=if lX l s then En l else if l.length≤1073741824 then En (l++[s])else Ga
theorem j47 {h l s}:G4 h .str (.bool Gc) (.str s) (En (.map (y8 l)))=En ⟨.bool (lX l s),Gc,Ga,h⟩:=by
 rw[jf5,Tp]
 unfold lX
 by_cases hm:s∈l<;>simp[hm,q9t,jak]
theorem jgj {h b l v s}(hv:yS l s=En v)(hn:lX l s=Gc):D7 h b .str (.str s) (.bool E3) (En (.map (y8 l)))=fp (jo h b (.map (y8 v))) .undef:=by
 unfold yS at hv
 rw[hn]at hv
 simp only[Bool.false_eq_true,if_false]at hv
 split at hv
 ·rename_i hl
  cases hv
  have hm:¬s∈l:=by simpa[lX]using hn
  rw[q2y,Tp,if_neg hm,jeh,jex,Gi hl,jaz]
  rfl
 ·cases hv
theorem qmm:∀ (l:List (List UInt8)) (i:Nat) (k:List UInt8),l[i]?=En k→mW (y8 l) i (.bool E3)=y8 l
 | [],i,k,h=>by simp at h
 |x::l,0,k,h=>rfl
 |x::l,i+1,k,h=>by
  have:=qmm l i k (by simpa using h)
  show(AVal.str x,AVal.bool E3)::mW (y8 l) i (.bool E3)=_
  rw[this];rfl
theorem je3 {h b l v s}(hv:yS l s=En v):D7 h b .str (.str s) (.bool E3) (En (.map (y8 l)))=fp (jo h b (.map (y8 v))) .undef:=by
 cases hn:lX l s with
 |false=>exact jgj hv hn
 |true=>
  unfold yS at hv
  rw[hn]at hv
  simp only[if_true,En.injEq]at hv
  subst hv
  have hm:s∈l:=by simpa[lX]using hn
  rw[q2y,Tp,if_pos hm]
  have hi:l[l.idxOf s]?=En s:=by
   rw[Gh (List.idxOf_lt_length_of_mem hm),List.getElem_idxOf]
  show fp (jo h b (.map (mW (y8 l) (l.idxOf s) (.bool E3)))) .undef=_
  rw[qmm l _ s hi]
@[go_sem] theorem q7i {n}:∀ {l:List (List UInt8)},nY n (.map (y8 l))=E3
 | []=>rfl
 |x::l=>by
  have:=q7i (n:=n) (l:=l)
  simp only[nY]at this ⊢
  show(below n (.str x)&&below n (.bool E3)&&qI n (y8 l))=E3
  rw[this];rfl
theorem jvc {p xc h0 al e h r}:qf p xc h0 al e h (.dN r)=fp (aK h0 h r (.map (y8 []))) (.map (h0+r)):=q8o
variable {α:Type}
def fj (f:α→AVal)(l:List (List UInt8×α)):List (AVal×AVal):=l.map fun p=>(.str p.1,f p.2)
def nJ (z:α)(l:List (List UInt8×α))(k:List UInt8):α:=match l.find? fun p=>decide (k=p.1)with
 |some p=>p.2
 |none=>z
def hE:List (List UInt8×α)→List UInt8→α→List (List UInt8×α)
 | [],k,v=>[(k,v)]
 |p::l,k,v=>if k=p.1 then(p.1,v)::l else p::hE l k v
def yT (l:List (List UInt8×α))(k:List UInt8)(v:α):Option (List (List UInt8×α)):=if l.length≤1073741824 then En (hE l k v)else Ga
theorem TD (f:α→AVal)(k:List UInt8):∀(l:List (List UInt8×α)) (n:Nat),(jl .str (.str k) (fj f l) n=En Ga∧l.find? (fun p=>decide (k=p.1))=Ga∧∀v,fj f (hE l k v)=fj f l++[(.str k,f v)])∨∃i p,jl .str (.str k) (fj f l) n=En (En (n+i,f p.2))∧l.find? (fun p=>decide (k=p.1))=En p∧∀v,fj f (hE l k v)=mW (fj f l) i (f v)
 | [],n=>.inl ⟨rfl,rfl,fun _=>rfl⟩
 |p::l,n=>by
  by_cases hx:k=p.1
  ·refine .inr ⟨0,p,?_,?_,fun v=>?_⟩
   ·simp only[fj,Gg,jl,Eb,decide_eq_true hx];rfl
   ·simp[Gd,hx]
   ·simp only[hE,if_pos hx];rfl
  ·rcases TD f k l (n+1)with⟨h1,h2,h3⟩|⟨i,q,h1,h2,h3⟩
   ·refine .inl ⟨?_,?_,fun v=>?_⟩
    ·simp only[fj,Gg,jl,Eb,decide_eq_false hx];exact h1
    ·simp only[Gd,decide_eq_false hx];exact h2
    ·simp only[hE,if_neg hx]
     show _::fj f (hE l k v)=_
     rw[h3];rfl
   ·refine .inr ⟨i+1,q,?_,?_,fun v=>?_⟩
    ·simp only[fj,Gg,jl,Eb,decide_eq_false hx]
     rw[show n+(i+1)=n+1+i by omega];exact h1
    ·simp only[Gd,decide_eq_false hx];exact h2
    ·simp only[hE,if_neg hx]
     show _::fj f (hE l k v)=_
     rw[h3];rfl
theorem j7m {f:α→AVal}{z:α}{h:qh}{l:List (List UInt8×α)}{k:List UInt8}:rQ h (f z) (jl .str (.str k) (fj f l) 0)=En ⟨f (nJ z l k),Gc,Ga,h⟩:=by
 unfold nJ
 rcases TD f k l 0 with⟨h1,h2,_⟩|⟨i,p,h1,h2,_⟩<;>rw[h1,h2]<;>rfl
theorem jyu {f:α→AVal}{h:qh}{b:Nat}{l v:List (List UInt8×α)}{k:List UInt8}{x:α}(hv:yT l k x=En v):vF h b (fj f l) (.str k) (f x) (jl .str (.str k) (fj f l) 0)=fp (jo h b (.map (fj f v))) .undef:=by
 unfold yT at hv
 split at hv
 ·rename_i hl
  cases hv
  rcases TD f k l 0 with⟨h1,h2,h3⟩|⟨i,p,h1,h2,h3⟩
  ·rw[h1,h3]
   have:Nat.ble (fj f l).length 1073741824=E3:=Gi (by rw[fj,Gl];exact hl)
   simp only[vF,this,b3,cond_true]
  ·rw[h1,h3,Nat.zero_add];rfl
 ·cases hv
theorem q5s {z:α}{l:List (List UInt8×α)}{k k':List UInt8}{v:α}:nJ z (hE l k v) k'=if k'=k then v else nJ z l k':=by
 induction l with
 |nil=>by_cases h:k'=k<;>simp[hE,nJ,Gd,h]
 |cons p l ih=>
  unfold nJ at ih ⊢
  by_cases hk:k=p.1
  ·by_cases h:k'=k
   ·subst h;simp[hE,Gd,←hk]
   ·have h2:¬k'=p.1:=by rw[←hk];exact h
    simp[hE,Gd,hk,h2]
  ·by_cases h2:k'=p.1
   ·have h3:¬k'=k:=by rw[h2];exact fun h=>hk h.symm
    have h4:¬p.1=k:=fun h=>hk h.symm
    simp[hE,Gd,hk,h2,h4]
   ·simp only[hE,if_neg hk,Gd,decide_eq_false h2]
    exact ih
theorem q5a {k:List UInt8}{v:α}:∀ {l:List (List UInt8×α)},(hE l k v).length≤l.length+1
 | []=>Gz _
 |p::l=>by
  by_cases h:k=p.1
  ·simp only[hE,if_pos h,G6];omega
  ·simp only[hE,if_neg h,G6]
   have:=q5a (k:=k) (v:=v) (l:=l);omega
structure G2 where
 x:Int
 y:Int
theorem jpw {h:qh}{l:List (List UInt8×Bool)}{k:List UInt8}:rQ h (.bool Gc) (jl .str (.str k) (fj AVal.bool l) 0)=En ⟨.bool (nJ Gc l k),Gc,Ga,h⟩:=j7m (f:=AVal.bool) (z:=false)
theorem jvo {h:qh}{b:Nat}{l v:List (List UInt8×Bool)}{k:List UInt8}{x:Bool}(hv:yT l k x=En v):vF h b (fj AVal.bool l) (.str k) (.bool x) (jl .str (.str k) (fj AVal.bool l) 0)=fp (jo h b (.map (fj AVal.bool v))) .undef:=jyu (f:=AVal.bool) hv
theorem jku {p xc h0 al e h r}:qf p xc h0 al e h (.dN r)=fp (aK h0 h r (.map (fj AVal.bool []))) (.map (h0+r)):=q8o
theorem zea {l v:List (List UInt8×Bool)}{k:List UInt8}{x:Bool}(hv:yT l k x=En v):∀(h:qh) (b:Nat),vF h b (fj AVal.bool l) (.str k) (.bool x) (jl .str (.str k) (fj AVal.bool l) 0)=fp (jo h b (.map (fj AVal.bool v))) .undef:=fun _ _=>jvo hv
theorem ju3 {x y v:Int}(h:wN x y=En v):∀k:IntKind,yg .rem (.int k x) (.int k y)=En (.int k v):=fun _=>jpi h
end Go.Z
