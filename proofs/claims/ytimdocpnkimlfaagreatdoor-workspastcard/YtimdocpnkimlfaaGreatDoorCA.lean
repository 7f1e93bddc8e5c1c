/- The structs of chapter 10 and their cells; what they are in plain lists. -/
import Derived.Test.YtimdocpnkimlfaaGreatDoorL1
import Derived.Test.YtimdocpnkimlfaaGreatDoorWS
import Derived.Test.YtimdocpnkimlfaaGreatDoorZM
set_option linter.unusedVariables false
set_option linter.unusedSimpArgs false
set_option maxRecDepth 100000
open Option renaming some→En,none→Gb,getD_some→Gx
open Bool renaming true→Ga,false→Gd,and_eq_true→Gt
open List renaming find?→Ge,map_cons→Gh,getElem?_eq_none_iff→Gi,getElem?_eq_getElem→Gj,length_nil→Gm,length_map→Gn,drop_eq_nil_of_le→Gq,flatMap_cons→Gs
open Nat renaming blt→Gr
namespace Go.Z
open Go Go.Abs Go.W
def bp (p:bn):AVal:=.agg [.str p.k,.int .i64 p.n]
@[go_sem] theorem zhb {p}:(bp p).flat=[.str p.k,.int .i64 p.n]:=rfl
@[go_sem] theorem jfo {n}(p:bn):below n (bp p)=Ga:=by rfl
@[go_sem] theorem j1q {n z l}:below n (sl z bp l)=Ga:=vr jfo
@[go_sem] theorem zbr {p}:AVal.ai (bp p)=.ai (.agg [.str p.k,.int .i64 p.n]):=rfl
theorem jdx {b t h bb p o v}(hv:bB o [p]=En v):bQ 2 b h (En t) (En (sl 2 bp o)) (En (.list bb 2 [.agg [.str p.k,.int .i64 p.n]]))=cn (decide (b≤4096)) (En ⟨sl 2 bp v,Ga,En t,h⟩):=vA (x:=p) (by omega) rfl hv
theorem jex {b h bb p o v}(hv:bB o [p]=En v)(hn:o.isNone=Ga):bQ 2 b h Gb (En (sl 2 bp o)) (En (.list bb 2 [.agg [.str p.k,.int .i64 p.n]]))=cn (decide (b≤4096)) (En ⟨sl 2 bp v,Ga,Gb,h⟩):=vB (x:=p) (by omega) rfl hn hv
def jb (p:jc):AVal:=.agg [.str p.k,.int .i64 p.a,.int .i64 p.b]
@[go_sem] theorem zah {p}:(jb p).flat=[.str p.k,.int .i64 p.a,.int .i64 p.b]:=rfl
@[go_sem] theorem jbc {n}(p:jc):below n (jb p)=Ga:=by rfl
@[go_sem] theorem jyj {n z l}:below n (sl z jb l)=Ga:=vr jbc
@[go_sem] theorem jdo {p}:AVal.ai (jb p)=.ai (.agg [.str p.k,.int .i64 p.a,.int .i64 p.b]):=rfl
theorem jbg {b t h bb p o v}(hv:bB o [p]=En v):bQ 3 b h (En t) (En (sl 3 jb o)) (En (.list bb 3 [.agg [.str p.k,.int .i64 p.a,.int .i64 p.b]]))=cn (decide (b≤4096)) (En ⟨sl 3 jb v,Ga,En t,h⟩):=vA (x:=p) (by omega) rfl hv
theorem jbq {b h bb p o v}(hv:bB o [p]=En v)(hn:o.isNone=Ga):bQ 3 b h Gb (En (sl 3 jb o)) (En (.list bb 3 [.agg [.str p.k,.int .i64 p.a,.int .i64 p.b]]))=cn (decide (b≤4096)) (En ⟨sl 3 jb v,Ga,Gb,h⟩):=vB (x:=p) (by omega) rfl hn hv
def jd (p:je):AVal:=.agg [.str p.name,.str p.kind,.int .i64 p.count,.int .i64 p.left,.bool p.held]
@[go_sem] theorem j9v {p}:(jd p).flat=[.str p.name,.str p.kind,.int .i64 p.count,.int .i64 p.left,.bool p.held]:=rfl
@[go_sem] theorem ja1 {n}(p:je):below n (jd p)=Ga:=by rfl
@[go_sem] theorem jyw {n z l}:below n (sl z jd l)=Ga:=vr ja1
@[go_sem] theorem qz2 {p}:AVal.ai (jd p)=.ai (.agg [.str p.name,.str p.kind,.int .i64 p.count,.int .i64 p.left,.bool p.held]):=rfl
theorem qxc {b t h bb p o v}(hv:bB o [p]=En v):bQ 5 b h (En t) (En (sl 5 jd o)) (En (.list bb 5 [.agg [.str p.name,.str p.kind,.int .i64 p.count,.int .i64 p.left,.bool p.held]]))=cn (decide (b≤4096)) (En ⟨sl 5 jd v,Ga,En t,h⟩):=vA (x:=p) (by omega) rfl hv
theorem qw8 {b h bb p o v}(hv:bB o [p]=En v)(hn:o.isNone=Ga):bQ 5 b h Gb (En (sl 5 jd o)) (En (.list bb 5 [.agg [.str p.name,.str p.kind,.int .i64 p.count,.int .i64 p.left,.bool p.held]]))=cn (decide (b≤4096)) (En ⟨sl 5 jd v,Ga,Gb,h⟩):=vB (x:=p) (by omega) rfl hn hv
structure bf where
 aB:Option (List bn)
 aA:Option (List jc)
def yf (p:bf):AVal:=.agg [sl 2 bp p.aB,sl 3 jb p.aA]
@[go_sem] theorem zat {p}:(yf p).flat=[sl 2 bp p.aB,sl 3 jb p.aA]:=rfl
@[go_sem] theorem jb3 {n}(p:bf):below n (yf p)=Ga:=by simp only[yf,go_sem]
@[go_sem] theorem jye {n z l}:below n (sl z yf l)=Ga:=vr jb3
@[go_sem] theorem j93 {p}:AVal.ai (yf p)=.ai (.agg [sl 2 bp p.aB,sl 3 jb p.aA]):=rfl
theorem jcb {b t h bb p o v}(hv:bB o [p]=En v):bQ 2 b h (En t) (En (sl 2 yf o)) (En (.list bb 2 [.agg [sl 2 bp p.aB,sl 3 jb p.aA]]))=cn (decide (b≤4096)) (En ⟨sl 2 yf v,Ga,En t,h⟩):=vA (x:=p) (by omega) rfl hv
theorem q80 {b h bb p o v}(hv:bB o [p]=En v)(hn:o.isNone=Ga):bQ 2 b h Gb (En (sl 2 yf o)) (En (.list bb 2 [.agg [sl 2 bp p.aB,sl 3 jb p.aA]]))=cn (decide (b≤4096)) (En ⟨sl 2 yf v,Ga,Gb,h⟩):=vB (x:=p) (by omega) rfl hn hv
structure aC where
 name:List UInt8
 dn:Option (List bn)
 dt:Option (List jc)
 aH:Option (List bf)
def qu (p:aC):AVal:=.agg [.str p.name,sl 2 bp p.dn,sl 3 jb p.dt,sl 2 yf p.aH]
@[go_sem] theorem jco {p}:(qu p).flat=[.str p.name,sl 2 bp p.dn,sl 3 jb p.dt,sl 2 yf p.aH]:=rfl
@[go_sem] theorem q6p {n}(p:aC):below n (qu p)=Ga:=by simp only[qu,go_sem]
@[go_sem] theorem jxt {n z l}:below n (sl z qu l)=Ga:=vr q6p
@[go_sem] theorem j5d {p}:AVal.ai (qu p)=.ai (.agg [.str p.name,sl 2 bp p.dn,sl 3 jb p.dt,sl 2 yf p.aH]):=rfl
theorem q6w {b t h bb p o v}(hv:bB o [p]=En v):bQ 4 b h (En t) (En (sl 4 qu o)) (En (.list bb 4 [.agg [.str p.name,sl 2 bp p.dn,sl 3 jb p.dt,sl 2 yf p.aH]]))=cn (decide (b≤4096)) (En ⟨sl 4 qu v,Ga,En t,h⟩):=vA (x:=p) (by omega) rfl hv
theorem q65 {b h bb p o v}(hv:bB o [p]=En v)(hn:o.isNone=Ga):bQ 4 b h Gb (En (sl 4 qu o)) (En (.list bb 4 [.agg [.str p.name,sl 2 bp p.dn,sl 3 jb p.dt,sl 2 yf p.aH]]))=cn (decide (b≤4096)) (En ⟨sl 4 qu v,Ga,Gb,h⟩):=vB (x:=p) (by omega) rfl hn hv
structure bg where
 name:List UInt8
 product:List UInt8
 version:Int
 uses:Option (List bn)
 results:Option (List jc)
 partner:List UInt8
 ar:Bool
 ah:Int
def bD (p:bg):AVal:=.agg [.str p.name,.str p.product,.int .i64 p.version,sl 2 bp p.uses,sl 3 jb p.results,.str p.partner,.bool p.ar,.int .i64 p.ah]
@[go_sem] theorem jke {p}:(bD p).flat=[.str p.name,.str p.product,.int .i64 p.version,sl 2 bp p.uses,sl 3 jb p.results,.str p.partner,.bool p.ar,.int .i64 p.ah]:=rfl
@[go_sem] theorem jes {n}(p:bg):below n (bD p)=Ga:=by simp only[bD,go_sem]
@[go_sem] theorem j6x {n z l}:below n (sl z bD l)=Ga:=vr jes
@[go_sem] theorem zfn {p}:AVal.ai (bD p)=.ai (.agg [.str p.name,.str p.product,.int .i64 p.version,sl 2 bp p.uses,sl 3 jb p.results,.str p.partner,.bool p.ar,.int .i64 p.ah]):=rfl
theorem jem {b t h bb p o v}(hv:bB o [p]=En v):bQ 8 b h (En t) (En (sl 8 bD o)) (En (.list bb 8 [.agg [.str p.name,.str p.product,.int .i64 p.version,sl 2 bp p.uses,sl 3 jb p.results,.str p.partner,.bool p.ar,.int .i64 p.ah]]))=cn (decide (b≤4096)) (En ⟨sl 8 bD v,Ga,En t,h⟩):=vA (x:=p) (by omega) rfl hv
theorem jdd {b h bb p o v}(hv:bB o [p]=En v)(hn:o.isNone=Ga):bQ 8 b h Gb (En (sl 8 bD o)) (En (.list bb 8 [.agg [.str p.name,.str p.product,.int .i64 p.version,sl 2 bp p.uses,sl 3 jb p.results,.str p.partner,.bool p.ar,.int .i64 p.ah]]))=cn (decide (b≤4096)) (En ⟨sl 8 bD v,Ga,Gb,h⟩):=vB (x:=p) (by omega) rfl hn hv
structure ak where
 day:Int
 au:Option (List je)
 ae:Option (List aC)
 units:Option (List bg)
def jl (p:ak):AVal:=.agg [.int .i64 p.day,sl 5 jd p.au,sl 4 qu p.ae,sl 8 bD p.units]
@[go_sem] theorem j88 {p}:(jl p).flat=[.int .i64 p.day,sl 5 jd p.au,sl 4 qu p.ae,sl 8 bD p.units]:=rfl
@[go_sem] theorem jci {n}(p:ak):below n (jl p)=Ga:=by simp only[jl,go_sem]
@[go_sem] theorem jzj {n z l}:below n (sl z jl l)=Ga:=vr jci
@[go_sem] theorem j94 {p}:AVal.ai (jl p)=.ai (.agg [.int .i64 p.day,sl 5 jd p.au,sl 4 qu p.ae,sl 8 bD p.units]):=rfl
theorem q8w {b t h bb p o v}(hv:bB o [p]=En v):bQ 4 b h (En t) (En (sl 4 jl o)) (En (.list bb 4 [.agg [.int .i64 p.day,sl 5 jd p.au,sl 4 qu p.ae,sl 8 bD p.units]]))=cn (decide (b≤4096)) (En ⟨sl 4 jl v,Ga,En t,h⟩):=vA (x:=p) (by omega) rfl hv
theorem jb4 {b h bb p o v}(hv:bB o [p]=En v)(hn:o.isNone=Ga):bQ 4 b h Gb (En (sl 4 jl o)) (En (.list bb 4 [.agg [.int .i64 p.day,sl 5 jd p.au,sl 4 qu p.ae,sl 8 bD p.units]]))=cn (decide (b≤4096)) (En ⟨sl 4 jl v,Ga,Gb,h⟩):=vB (x:=p) (by omega) rfl hn hv
structure GEv where
 number:Int
 kind:List UInt8
 names:Option (List (List UInt8))
 values:Option (List Int)
 text:List UInt8
def vev (p:GEv):AVal:=.agg [.int .i64 p.number,.str p.kind,sl 1 yl p.names,sl 1 z7 p.values,.str p.text]
@[go_sem] theorem zio {p}:(vev p).flat=[.int .i64 p.number,.str p.kind,sl 1 yl p.names,sl 1 z7 p.values,.str p.text]:=rfl
@[go_sem] theorem jeg {n}(p:GEv):below n (vev p)=Ga:=by simp only[vev,go_sem]
@[go_sem] theorem j7d {n z l}:below n (sl z vev l)=Ga:=vr jeg
@[go_sem] theorem zj7 {p}:AVal.ai (vev p)=.ai (.agg [.int .i64 p.number,.str p.kind,sl 1 yl p.names,sl 1 z7 p.values,.str p.text]):=rfl
theorem jea {b t h bb p o v}(hv:bB o [p]=En v):bQ 5 b h (En t) (En (sl 5 vev o)) (En (.list bb 5 [.agg [.int .i64 p.number,.str p.kind,sl 1 yl p.names,sl 1 z7 p.values,.str p.text]]))=cn (decide (b≤4096)) (En ⟨sl 5 vev v,Ga,En t,h⟩):=vA (x:=p) (by omega) rfl hv
theorem jet {b h bb p o v}(hv:bB o [p]=En v)(hn:o.isNone=Ga):bQ 5 b h Gb (En (sl 5 vev o)) (En (.list bb 5 [.agg [.int .i64 p.number,.str p.kind,sl 1 yl p.names,sl 1 z7 p.values,.str p.text]]))=cn (decide (b≤4096)) (En ⟨sl 5 vev v,Ga,Gb,h⟩):=vB (x:=p) (by omega) rfl hn hv
def bf.er (d:bf):gq:=⟨d.aB.getD [],d.aA.getD []⟩
def aC.er (p:aC):cZ:=⟨p.name,⟨p.dn.getD [],p.dt.getD []⟩,(p.aH.getD []).map bf.er⟩
def bg.er (u:bg):bq:=⟨u.name,u.product,u.version,u.uses.getD [],u.results.getD [],u.partner,u.ar,u.ah⟩
def ak.er (r:ak):bm:=⟨r.day,r.au.getD [],(r.ae.getD []).map aC.er,(r.units.getD []).map bg.er⟩
def GEv.er (e:GEv):dV:=⟨e.number,e.kind,e.names.getD [],e.values.getD [],e.text⟩
end Go.Z
namespace Go.Z
open Go Go.Abs Go.W
theorem Tq {hh}:∀ {xs:List AVal},qy 0 xs=Ga→ly hh xs=En xs
 | [],_=>rfl
 |x::xs,h=>by
  simp only[qy,Gt]at h
  have hx:yq hh x=En x:=by
   cases x with
   |ms b o n=>simp[Abs.below,Gr]at h
   |aj b o n=>simp[Abs.below,Gr]at h
   |_=>rfl
  simp only[ly,hx,Tq h.2]
theorem qpn {hh}:∀ {xs:List AVal},qy 0 xs=Ga→aK.bE hh xs=En xs
 | [],_=>rfl
 |x::xs,h=>by
  simp only[qy,Gt]at h
  have ih:=qpn (hh:=hh) h.2
  cases x with
  |agg cs=>
   have h1:=h.1
   simp only[Abs.below]at h1
   simp only[aK.bE,Tq h1,ih]
  |ms b o n=>simp[Abs.below,Gr]at h
  |aj b o n=>simp[Abs.below,Gr]at h
  |_=>simp only[aK.bE,yq,ih]
theorem qph {hh x}(h:Abs.below 0 x=Ga):aK hh x=En x:=by
 cases x with
 |agg cs=>
  simp only[Abs.below]at h
  simp only[aK,Tq h]
 |aJ vs=>
  simp only[Abs.below]at h
  simp only[aK,qpn h]
 |ms b o n=>simp[Abs.below,Gr]at h
 |aj b o n=>simp[Abs.below,Gr]at h
 |_=>rfl
theorem zh {p k}(f:ax){args v}(hc:∃hh,D0 f.results (X p f.body ⟨oF 0 args,[]⟩)=some (v,false,hh))(hp:p.cN k=none:=by rfl)(hf:p.bO k=some f:=by rfl)(hl:Nat.ble args.length f.ntmps=true:=by rfl)(hv:below 0 v=true:=by first|rfl|simp only[go_sem,seval]):qc p (X p) k args=some (v,false):=by
 obtain⟨hh,hc⟩:=hc
 cases f with
 |mk n b r=>exact zo hp (by rw[ql hf (Nat.le_of_ble_eq_true hl)];exact hc) (qph hv) hv
theorem kg {p k}(f:ax){args v o}(hc:∃hh,D0 f.results (X p f.body ⟨oF 0 args,[]⟩)=some (v,o,hh))(hp:p.cN k=none:=by rfl)(hf:p.bO k=some f:=by rfl)(hn:Nat.ble args.length f.ntmps=true:=by rfl)(hv:below 0 v=true:=by first|rfl|simp only[go_sem,seval])(hl:v.cR=true:=by first|rfl|simp only[go_sem,seval]):qc p (X p) k args=some (v,o):=by
 obtain⟨hh,hc⟩:=hc
 cases f with
 |mk n b r=>exact qy5 hp (by rw[ql hf (Nat.le_of_ble_eq_true hn)];exact hc) (qph hv) hv hl
theorem jm {σ δ:Type}{p:jz}{c:aw}{St:σ→aY}{Ex:δ→jf×aY}{s s':σ}(h:X p c (St s)=some (.normal,St s'))(hl:(St s').heap.length≤(St s).heap.length:=by exact Nat.le_refl _):jw p c St Ex s (.inl s'):=wI h (Bb hl)
theorem q8c {σ δ:Type}{p:jz}{c:aw}{St:σ→aY}{Ex:δ→jf×aY}{s s':σ}(h:∃t,X p c (St s)=En (.normal,⟨(St s').env,(St s').heap++t⟩))(hn:(St s).heap.length=(St s').heap.length)(h1:mP (St s).heap.length (St s').env=Ga)(h2:zn (St s).heap.length (St s').heap=Ga):jw p c St Ex s (.inl s'):=by
 obtain⟨t,h⟩:=h
 exact wI h (jof hn rfl h1 h2)
theorem lR {α:Type}{z:Nat}{f:α→AVal}{l:List α}:sl z f (En l)=.list Gd z (l.map f):=rfl
theorem zf {α:Type}{z:Nat}{f:α→AVal}:sl z f Gb=.list Ga 0 []:=rfl
abbrev Iv (n:Int):AVal:=.int .i64 n
abbrev Lv {α:Type}(o:Option (List α)):AVal:=.int .i64 ((o.getD []).length:Int)
abbrev Nl:AVal:=.list Ga 0 []
abbrev aE (e:GEv):AVal:=.agg [.int .i64 e.number,.str e.kind,sl 1 yl e.names,sl 1 z7 e.values,.str e.text]
abbrev aR (r:ak):AVal:=.agg [.int .i64 r.day,sl 5 jd r.au,sl 4 qu r.ae,sl 8 bD r.units]
abbrev aU (u:bg):AVal:=.agg [.str u.name,.str u.product,.int .i64 u.version,sl 2 bp u.uses,sl 3 jb u.results,.str u.partner,.bool u.ar,.int .i64 u.ah]
abbrev aL (l:je):AVal:=.agg [.str l.name,.str l.kind,.int .i64 l.count,.int .i64 l.left,.bool l.held]
abbrev aP (p:aC):AVal:=.agg [.str p.name,sl 2 bp p.dn,sl 3 jb p.dt,sl 2 yf p.aH]
abbrev aD (d:bf):AVal:=.agg [sl 2 bp d.aB,sl 3 jb d.aA]
abbrev aT (x:jc):AVal:=.agg [.str x.k,.int .i64 x.a,.int .i64 x.b]
abbrev aN (x:bn):AVal:=.agg [.str x.k,.int .i64 x.n]
abbrev aG (a:Int)(b:Option (List je))(c:Option (List aC))(d:Option (List bg)):AVal:=.agg [.int .i64 a,sl 5 jd b,sl 4 qu c,sl 8 bD d]
abbrev kS (a:Int)(b:Option (List je))(o1:Bool)(c:Option (List aC))(o2:Bool)(d:Option (List bg))(o3:Bool):bh:=.cells [(.int .i64 a,Gd),(sl 5 jd b,o1),(sl 4 qu c,o2),(sl 8 bD d,o3)]
abbrev kR (a:Int)(b:Option (List je))(c:Option (List aC))(d:Option (List bg)):bh:=.cells [(.int .i64 a,Gd),(sl 5 jd b,Gd),(sl 4 qu c,Gd),(sl 8 bD d,Gd)]
abbrev kO:bh:=.cells [(Nl,Gd),(Nl,Gd),(Nl,Gd)]
abbrev cj:bh:=.cells [(Nl,Gd),(Nl,Gd),(.aj 5 0 1,Gd)]
abbrev kZ:bh:=.cells [(.int .i64 0,Gd),(Nl,Gd),(Nl,Gd),(Nl,Gd)]
abbrev aZ:AVal:=.agg [.int .i64 0,Nl,Nl,Nl]
def om {α β:Type}(o:Option α)(f:α→β):Option β:=match o with
 |some x=>En (f x)
 |none=>Gb
@[go_sem] theorem zm2 {α β:Type}{x:α}{f:α→β}:om (En x) f=En (f x):=rfl
theorem jg {h:qi}{α:Type}{z:Nat}{f:α→AVal}{l k i}:iU z h (En (sl z f l)) (En (.int k i))=om (qr (l.getD []) i) fun x=>⟨.ai (f x),Gd,Gb,h⟩:=by
 cases hx:qr (l.getD []) i with
 |some x=>exact zj hx
 |none=>
  have hi:vq (l.getD []).length i=Gb:=by
   unfold qr at hx
   unfold vq
   by_cases h0:0≤i
   ·rw[if_pos h0]at hx
    rw[if_neg]
    intro hc
    have:=Gi.1 hx
    omega
   ·rw[if_neg (fun hc=>h0 hc.1)]
  cases l with
  |none=>simp only[sl,iU,yQ,Option.getD_none,Gm]at hi ⊢;rw[hi];simp[om]
  |some l=>simp only[sl,iU,yQ,Gx,Gn]at hi ⊢;rw[hi];simp[om]
theorem jj0 {h s k i}:Bd h (En (.str s)) (En (.int k i))=om (qr s i) fun c=>⟨.int .u8 (c.toNat:Int),Gd,Gb,h⟩:=by
 cases hx:qr s i with
 |some x=>exact jjf hx
 |none=>
  have hi:vq s.length i=Gb:=by
   unfold qr at hx
   unfold vq
   by_cases h0:0≤i
   ·rw[if_pos h0]at hx
    rw[if_neg]
    intro hc
    have:=Gi.1 hx
    omega
   ·rw[if_neg (fun hc=>h0 hc.1)]
  simp only[Bd,yQ,hi,om]
theorem LI {h b pos s}:vw h b (En (.iter s pos))=cond (decide (pos<s.length)) (iA (jt h b (.iter s (pos+(qn s pos).2))) (.aJ [.bool Ga,.int .i64 pos,.int .i32 (qn s pos).1])) (En ⟨.aJ [.bool Gd],Gd,Gb,h⟩):=by
 cases hx:decide (pos<s.length)with
 |true=>exact jrs hx
 |false=>exact jw2 hx
theorem kw {h:qi}{α:Type}{z b t:Nat}{f:α→AVal}{o2}:bQ (z+1) b h (En t) (En (.list Gd (z+1) [])) (En (sl (z+1) f o2))=cn (decide (b≤4096)) (om (bB (En []) (o2.getD [])) fun v=>⟨sl (z+1) f v,Ga,En t,h⟩):=by
 cases hx:bB (En []) (o2.getD [])with
 |some x=>exact jel hx
 |none=>
  unfold bB at hx
  split at hx
  ·cases hx
  rename_i hl
  simp only[Gx,Gm]at hl
  simp only[bQ,bQ.iB,S5,Gm,Gn,nu,decide_eq_false hl,om]
  cases decide (b≤4096)<;>simp[cn]
theorem wJ {p o v}(hv:bB o [p]=En v):(∀ {b t:Nat} {h:qi} {bb:Bool},bQ 2 b h (En t) (En (sl 2 bp o)) (En (.list bb 2 [.agg [.str p.k,.int .i64 p.n]]))=cn (decide (b≤4096)) (En ⟨sl 2 bp v,Ga,En t,h⟩))∧(∀ {b:Nat} {h:qi} {bb:Bool},o.isNone=Ga→bQ 2 b h Gb (En (sl 2 bp o)) (En (.list bb 2 [.agg [.str p.k,.int .i64 p.n]]))=cn (decide (b≤4096)) (En ⟨sl 2 bp v,Ga,Gb,h⟩)):=⟨jdx hv,jex hv⟩
theorem yS {p o v}(hv:bB o [p]=En v):(∀ {b t:Nat} {h:qi} {bb:Bool},bQ 3 b h (En t) (En (sl 3 jb o)) (En (.list bb 3 [.agg [.str p.k,.int .i64 p.a,.int .i64 p.b]]))=cn (decide (b≤4096)) (En ⟨sl 3 jb v,Ga,En t,h⟩))∧(∀ {b:Nat} {h:qi} {bb:Bool},o.isNone=Ga→bQ 3 b h Gb (En (sl 3 jb o)) (En (.list bb 3 [.agg [.str p.k,.int .i64 p.a,.int .i64 p.b]]))=cn (decide (b≤4096)) (En ⟨sl 3 jb v,Ga,Gb,h⟩)):=⟨jbg hv,jbq hv⟩
theorem LJ {p o v}(hv:bB o [p]=En v):(∀ {b t:Nat} {h:qi} {bb:Bool},bQ 5 b h (En t) (En (sl 5 jd o)) (En (.list bb 5 [.agg [.str p.name,.str p.kind,.int .i64 p.count,.int .i64 p.left,.bool p.held]]))=cn (decide (b≤4096)) (En ⟨sl 5 jd v,Ga,En t,h⟩))∧(∀ {b:Nat} {h:qi} {bb:Bool},o.isNone=Ga→bQ 5 b h Gb (En (sl 5 jd o)) (En (.list bb 5 [.agg [.str p.name,.str p.kind,.int .i64 p.count,.int .i64 p.left,.bool p.held]]))=cn (decide (b≤4096)) (En ⟨sl 5 jd v,Ga,Gb,h⟩)):=⟨qxc hv,qw8 hv⟩
theorem Ts {p o v}(hv:bB o [p]=En v):(∀ {b t:Nat} {h:qi} {bb:Bool},bQ 2 b h (En t) (En (sl 2 yf o)) (En (.list bb 2 [.agg [sl 2 bp p.aB,sl 3 jb p.aA]]))=cn (decide (b≤4096)) (En ⟨sl 2 yf v,Ga,En t,h⟩))∧(∀ {b:Nat} {h:qi} {bb:Bool},o.isNone=Ga→bQ 2 b h Gb (En (sl 2 yf o)) (En (.list bb 2 [.agg [sl 2 bp p.aB,sl 3 jb p.aA]]))=cn (decide (b≤4096)) (En ⟨sl 2 yf v,Ga,Gb,h⟩)):=⟨jcb hv,q80 hv⟩
theorem Tt {p o v}(hv:bB o [p]=En v):(∀ {b t:Nat} {h:qi} {bb:Bool},bQ 4 b h (En t) (En (sl 4 qu o)) (En (.list bb 4 [.agg [.str p.name,sl 2 bp p.dn,sl 3 jb p.dt,sl 2 yf p.aH]]))=cn (decide (b≤4096)) (En ⟨sl 4 qu v,Ga,En t,h⟩))∧(∀ {b:Nat} {h:qi} {bb:Bool},o.isNone=Ga→bQ 4 b h Gb (En (sl 4 qu o)) (En (.list bb 4 [.agg [.str p.name,sl 2 bp p.dn,sl 3 jb p.dt,sl 2 yf p.aH]]))=cn (decide (b≤4096)) (En ⟨sl 4 qu v,Ga,Gb,h⟩)):=⟨q6w hv,q65 hv⟩
theorem Tv {p o v}(hv:bB o [p]=En v):(∀ {b t:Nat} {h:qi} {bb:Bool},bQ 8 b h (En t) (En (sl 8 bD o)) (En (.list bb 8 [.agg [.str p.name,.str p.product,.int .i64 p.version,sl 2 bp p.uses,sl 3 jb p.results,.str p.partner,.bool p.ar,.int .i64 p.ah]]))=cn (decide (b≤4096)) (En ⟨sl 8 bD v,Ga,En t,h⟩))∧(∀ {b:Nat} {h:qi} {bb:Bool},o.isNone=Ga→bQ 8 b h Gb (En (sl 8 bD o)) (En (.list bb 8 [.agg [.str p.name,.str p.product,.int .i64 p.version,sl 2 bp p.uses,sl 3 jb p.results,.str p.partner,.bool p.ar,.int .i64 p.ah]]))=cn (decide (b≤4096)) (En ⟨sl 8 bD v,Ga,Gb,h⟩)):=⟨jem hv,jdd hv⟩
theorem jo0 {p o v}(hv:bB o [p]=En v):(∀ {b t:Nat} {h:qi} {bb:Bool},bQ 4 b h (En t) (En (sl 4 jl o)) (En (.list bb 4 [.agg [.int .i64 p.day,sl 5 jd p.au,sl 4 qu p.ae,sl 8 bD p.units]]))=cn (decide (b≤4096)) (En ⟨sl 4 jl v,Ga,En t,h⟩))∧(∀ {b:Nat} {h:qi} {bb:Bool},o.isNone=Ga→bQ 4 b h Gb (En (sl 4 jl o)) (En (.list bb 4 [.agg [.int .i64 p.day,sl 5 jd p.au,sl 4 qu p.ae,sl 8 bD p.units]]))=cn (decide (b≤4096)) (En ⟨sl 4 jl v,Ga,Gb,h⟩)):=⟨q8w hv,jb4 hv⟩
theorem jeu {p o v}(hv:bB o [p]=En v):(∀ {b t:Nat} {h:qi} {bb:Bool},bQ 5 b h (En t) (En (sl 5 vev o)) (En (.list bb 5 [.agg [.int .i64 p.number,.str p.kind,sl 1 yl p.names,sl 1 z7 p.values,.str p.text]]))=cn (decide (b≤4096)) (En ⟨sl 5 vev v,Ga,En t,h⟩))∧(∀ {b:Nat} {h:qi} {bb:Bool},o.isNone=Ga→bQ 5 b h Gb (En (sl 5 vev o)) (En (.list bb 5 [.agg [.int .i64 p.number,.str p.kind,sl 1 yl p.names,sl 1 z7 p.values,.str p.text]]))=cn (decide (b≤4096)) (En ⟨sl 5 vev v,Ga,Gb,h⟩)):=⟨jea hv,jet hv⟩
theorem q7w {x o v}(hv:bB o [x]=En v):(∀ {b t:Nat} {h:qi} {bb:Bool},bQ 1 b h (En t) (En (sl 1 z7 o)) (En (.list bb 1 [.int .i64 x]))=cn (decide (b≤4096)) (En ⟨sl 1 z7 v,Ga,En t,h⟩))∧(∀ {b:Nat} {h:qi} {bb:Bool},o.isNone=Ga→bQ 1 b h Gb (En (sl 1 z7 o)) (En (.list bb 1 [.int .i64 x]))=cn (decide (b≤4096)) (En ⟨sl 1 z7 v,Ga,Gb,h⟩)):=⟨q9f hv,q95 hv⟩
theorem q8f {x o v}(hv:bB o [x]=En v):(∀ {b t:Nat} {h:qi} {bb:Bool},bQ 1 b h (En t) (En (sl 1 yl o)) (En (.list bb 1 [.str x]))=cn (decide (b≤4096)) (En ⟨sl 1 yl v,Ga,En t,h⟩))∧(∀ {b:Nat} {h:qi} {bb:Bool},o.isNone=Ga→bQ 1 b h Gb (En (sl 1 yl o)) (En (.list bb 1 [.str x]))=cn (decide (b≤4096)) (En ⟨sl 1 yl v,Ga,Gb,h⟩)):=⟨q9g hv,fun hn=>vB (by omega) rfl hn hv⟩
theorem jdy {α:Type}{o v hi}(hv:wK o Gb (En hi)=En v):∀(h:qi) (z:Nat) (f:α→AVal) (k:IntKind),oP z h (En (sl z f o)) Gb (En (En (.int k hi)))=En ⟨sl z f v,Gd,Gb,h⟩:=fun _ _ _ _=>jpz hv
@[go_sem] theorem j1r {n v}:below n (.ai v)=below n v:=rfl
structure rK where
 names:Int
 values:Int
 known:Bool
theorem j3m {a0 b0 a1 b1}:ya [.str,.int] [.str a0,.int .i64 a1] [.str b0,.int .i64 b1]=En (decide (a0=b0)&&decide (a1=b1)):=by
 have e:∀x y:Int,(x == y)=decide (x=y):=fun x y=>by by_cases h:x=y<;>simp[h]
 have e':∀x y:List UInt8,(x == y)=decide (x=y):=fun x y=>by by_cases h:x=y<;>simp[h]
 have e2:∀x y:Bool,(x == y)=decide (x=y):=fun x y=>by cases x<;>cases y<;>rfl
 simp only[ya,lv,e,e',e2,decide_true,cond_true]
 by_cases h0:a0=b0<;>by_cases h1:a1=b1<;>simp[h0,h1]
@[go_sem] theorem zl4 {h a0 b0 a1 b1}:Hf [.str,.int] Ga h (En (.agg [.str a0,.int .i64 a1])) (En (.agg [.str b0,.int .i64 b1]))=En ⟨.bool (!(decide (a0=b0)&&decide (a1=b1))),Gd,Gb,h⟩:=by
 show(match ya [.str,.int] [.str a0,.int .i64 a1] [.str b0,.int .i64 b1]with|some t=>val h (.bool (bif Ga then !t else t))|none=>Gb)=_
 rw[j3m]
 rfl
theorem juy {a0 b0 a1 b1 a2 b2}:ya [.str,.int,.int] [.str a0,.int .i64 a1,.int .i64 a2] [.str b0,.int .i64 b1,.int .i64 b2]=En (decide (a0=b0)&&decide (a1=b1)&&decide (a2=b2)):=by
 have e:∀x y:Int,(x == y)=decide (x=y):=fun x y=>by by_cases h:x=y<;>simp[h]
 have e':∀x y:List UInt8,(x == y)=decide (x=y):=fun x y=>by by_cases h:x=y<;>simp[h]
 have e2:∀x y:Bool,(x == y)=decide (x=y):=fun x y=>by cases x<;>cases y<;>rfl
 simp only[ya,lv,e,e',e2,decide_true,cond_true]
 by_cases h0:a0=b0<;>by_cases h1:a1=b1<;>by_cases h2:a2=b2<;>simp[h0,h1,h2]
@[go_sem] theorem zlm {h a0 b0 a1 b1 a2 b2}:Hf [.str,.int,.int] Ga h (En (.agg [.str a0,.int .i64 a1,.int .i64 a2])) (En (.agg [.str b0,.int .i64 b1,.int .i64 b2]))=En ⟨.bool (!(decide (a0=b0)&&decide (a1=b1)&&decide (a2=b2))),Gd,Gb,h⟩:=by
 show(match ya [.str,.int,.int] [.str a0,.int .i64 a1,.int .i64 a2] [.str b0,.int .i64 b1,.int .i64 b2]with|some t=>val h (.bool (bif Ga then !t else t))|none=>Gb)=_
 rw[juy]
 rfl
theorem j2t {a0 b0 a1 b1 a2 b2 a3 di a4 dW}:ya [.str,.str,.int,.int,.bool] [.str a0,.str a1,.int .i64 a2,.int .i64 a3,.bool a4] [.str b0,.str b1,.int .i64 b2,.int .i64 di,.bool dW]=En (decide (a0=b0)&&decide (a1=b1)&&decide (a2=b2)&&decide (a3=di)&&decide (a4=dW)):=by
 have e:∀x y:Int,(x == y)=decide (x=y):=fun x y=>by by_cases h:x=y<;>simp[h]
 have e':∀x y:List UInt8,(x == y)=decide (x=y):=fun x y=>by by_cases h:x=y<;>simp[h]
 have e2:∀x y:Bool,(x == y)=decide (x=y):=fun x y=>by cases x<;>cases y<;>rfl
 simp only[ya,lv,e,e',e2,decide_true,cond_true]
 by_cases h0:a0=b0<;>by_cases h1:a1=b1<;>by_cases h2:a2=b2<;>by_cases h3:a3=di<;>by_cases h4:a4=dW<;>simp[h0,h1,h2,h3,h4]
@[go_sem] theorem zl2 {h a0 b0 a1 b1 a2 b2 a3 di a4 dW}:Hf [.str,.str,.int,.int,.bool] Ga h (En (.agg [.str a0,.str a1,.int .i64 a2,.int .i64 a3,.bool a4])) (En (.agg [.str b0,.str b1,.int .i64 b2,.int .i64 di,.bool dW]))=En ⟨.bool (!(decide (a0=b0)&&decide (a1=b1)&&decide (a2=b2)&&decide (a3=di)&&decide (a4=dW))),Gd,Gb,h⟩:=by
 show(match ya [.str,.str,.int,.int,.bool] [.str a0,.str a1,.int .i64 a2,.int .i64 a3,.bool a4] [.str b0,.str b1,.int .i64 b2,.int .i64 di,.bool dW]with|some t=>val h (.bool (bif Ga then !t else t))|none=>Gb)=_
 rw[j2t]
 rfl
@[go_sem] theorem zi2 {h0 al h g a b}:ki h0 al Gd 1 h (En (.ai (.fn g a b)))=En ⟨.fn g a b,Gd,Gb,h⟩:=rfl
def yT (h:qi)(zero:AVal)(r:Option (Option (Nat×AVal))):Option bj:=match r with
 |some (En (_,v))=>En ⟨.aJ [v,.bool Ga],Gd,Gb,h⟩
 |some Gb=>En ⟨.aJ [zero,.bool Gd],Gd,Gb,h⟩
 |none=>Gb
@[go_sem] theorem jy5 {h z v i}:yT h z (En (En (i,v)))=En ⟨.aJ [v,.bool Ga],Gd,Gb,h⟩:=rfl
@[go_sem] theorem jyn {h z}:yT h z (En Gb)=En ⟨.aJ [z,.bool Gd],Gd,Gb,h⟩:=rfl
def LK (h:qi)(kd:Kd)(z kv:AVal)(x:Option bh):Option bj:=match x with
 |some (.map es)=>yT h z (zd kd kv es 0)
 |_=>Gb
@[go_sem] theorem j8b {h kd z kv es}:LK h kd z kv (En (.map es))=yT h z (zd kd kv es 0):=rfl
def Tw (h0:Nat)(al:Option (List Nat))(h:qi)(kd:Kd)(z:AVal)(m k:Option AVal):Option bj:=match m,k with
 |some (.map b),En kv=>cn (za h0 al b) (LK h kd z kv h[b]?)
 |some .b4,En _=>En ⟨.aJ [z,.bool Gd],Gd,Gb,h⟩
 |_,_=>Gb
@[go_sem] theorem jum {h0 al h kd z kv b}:Tw h0 al h kd z (En (.map b)) (En kv)=cn (za h0 al b) (LK h kd z kv h[b]?):=rfl
@[go_sem] theorem zad {p xc h0 al e h kd z m k}:qf p xc h0 al e h (.lookup kd z Ga m k)=Tw h0 al h kd z (qh e m) (qh e k):=by
 simp only[qf,yi,Tw]
 cases qh e m with
 |none=>cases qh e k<;>rfl
 |some v=>cases qh e k with
  |none=>cases v<;>rfl
  |some kv=>cases v with
   |map b=>
    simp only[cn,zg,LK,yT]
    cases za h0 al b with
    |false=>rfl
    |true=>
     simp only[cond_true]
     cases h[b]? with
     |none=>rfl
     |some x=>cases x with
      |map es=>
       simp only[]
       cases zd kd kv es 0 with
       |none=>rfl
       |some r=>cases r<;>rfl
      |_=>rfl
   |_=>rfl
theorem Hg {σ δ γ:Type}(n:Nat)(mk:Nat→σ)(f:σ→Option (σ⊕δ))(V:δ→γ)(r:Nat→γ)(dq:∃d,f (mk n)=En (.inr d)∧V d=r n)
  (cy:∀i,i<n→(f (mk i)=En (.inl (mk (i+1)))∧r i=r (i+1))∨(∃d,f (mk i)=En (.inr d)∧V d=r i)):∃d,bu f (mk 0)=En d∧V d=r 0:=by
 have key:∀(k i:Nat),i+k=n→∃d,bu f (mk i)=En d∧V d=r i:=by
  intro k
  induction k with
  |zero=>
   intro i hi
   have:i=n:=by omega
   subst this
   obtain⟨d,h1,h2⟩:=dq
   exact⟨d,ko h1,h2⟩
  |succ k ih=>
   intro i hi
   rcases cy i (by omega)with⟨h1,h2⟩|⟨d,h1,h2⟩
   ·rw[oh h1,h2];exact ih (i+1) (by omega)
   ·exact⟨d,ko h1,h2⟩
 exact key n 0 (by omega)
theorem Tx {α δ:Type}(l:List α)(f:Int→Option (Int⊕δ))(q:α→Bool)(V:δ→Bool)(dq:∃d,f (l.length:Int)=En (.inr d)∧V d=Ga)
  (cy:∀(i:Nat) x,l[i]?=En x→i<l.length→(q x=Ga∧f (i:Int)=En (.inl ((i+1:Nat):Int)))∨(q x=Gd∧∃d,f (i:Int)=En (.inr d)∧V d=Gd)):∃d,bu f 0=En d∧V d=l.all q:=by
 have:=Hg l.length (fun i=>(i:Int)) f V (fun i=>(l.drop i).all q) (by rw[Gq (Nat.le_refl _)];exact dq) (fun i hi=>by
  obtain⟨x,hx⟩:∃x,l[i]?=En x:=⟨_,Gj hi⟩
  simp only[rL hx,List.all_cons]
  rcases cy i x hx hi with⟨h1,h2⟩|⟨h1,h2⟩
  ·rw[h1];exact .inl ⟨h2,rfl⟩
  ·rw[h1];exact .inr h2)
 simpa using this
theorem jl6 {α β:Type}(l:List α)(ix:Nat→Int)(f:Option (List β)×Int×Bool→Option ((Option (List β)×Int×Bool)⊕(Option (List β)×Bool×Int)))(h:α→List β)(a0:List β)(I:Nat→List β→Prop)(hI:I 0 a0)
  (dq:∀a,f (jy a,ix l.length,gu a)=En (.inr (jy a,gu a,ix l.length)))
  (cy:∀(i:Nat) x a,l[i]?=En x→i<l.length→I i a→I (i+1) (a++h x)∧f (jy a,ix i,gu a)=En (.inl (jy (a++h x),ix (i+1),gu (a++h x)))):
  bu f (jy a0,ix 0,gu a0)=En (jy (a0++l.flatMap h),gu (a0++l.flatMap h),ix l.length):=by
 have key:∀(k i:Nat),i+k=l.length→∀a,I i a→bu f (jy a,ix i,gu a)=En (jy (a++(l.drop i).flatMap h),gu (a++(l.drop i).flatMap h),ix l.length):=by
  intro k
  induction k with
  |zero=>
   intro i hi a _
   have:i=l.length:=by omega
   subst this
   rw[Gq (Nat.le_refl _),List.flatMap_nil,List.append_nil,ko (dq a)]
  |succ k ih=>
   intro i hi a ha
   obtain⟨x,hx⟩:∃x,l[i]?=En x:=⟨_,Gj (by omega)⟩
   obtain⟨h1,h2⟩:=cy i x a hx (by omega) ha
   rw[oh h2,ih (i+1) (by omega) _ h1,rL hx,Gs,List.append_assoc]
 have:=key l.length 0 (by omega) a0 hI
 rwa [List.drop_zero]at this
theorem qxe {α:Type}{a:List α}{x}(h:a.length<1073741824):bB (jy a) [x]=En (jy (a++[x])):=by
 unfold bB
 cases a with
 |nil=>rfl
 |cons y a=>
  have:((jy (y::a)).getD []).length + [x].length≤1073741824:=by simp[jy]at h ⊢;omega
  rw[if_pos this];rfl
theorem wL {α γ:Type}{a:List α}{x:α}{k:Option (List α)→Option γ}(h:a.length<1073741824):cond (gu a) (qa (bB (jy a) [x]) k) (cond (jy a).isNone (qa (bB (jy a) [x]) k) Gb)=k (jy (a++[x])):=by
 rw[qxe h]
 cases a<;>rfl
theorem zt {α:Type}(a:List α):(jy a).getD []=a:=by cases a<;>rfl
theorem LL {α β:Type}(h:α→β):∀l:List α,l.flatMap (fun x=>[h x])=l.map h
 | []=>rfl
 |x::l=>by rw[Gs,LL h l];rfl
theorem q9 {α:Type}{l:List α}{i:Nat}{x:α}(hx:l[i]?=En x):qr l (i:Int)=En x:=by rw[jlr,hx]
theorem yc {α:Type}{l:List α}{i}(h:i<l.length):decide ((i:Int)<(l.length:Int))=Ga:=decide_eq_true (by omega)
theorem zq {n}:decide ((n:Int)<(n:Int))=Gd:=decide_eq_false (by omega)
end Go.Z
namespace Go.Z
open Go Go.Abs Go.W
def iV:List (List UInt8×List UInt8×Int×Nat):=[(mF,[45,45],2,168),(nv,[45],1,169),(mG,[112,45],2,170),(nw,[112,45],3,171),(pN,[112],1,172),(mH,[45,112],1,173),(mI,[117,108],2,174),(oQ,[117,45],2,175),(pO,[117],1,176),(nx,[117,117],1,177),(oi,[108],1,178),(rM,[108],1,179),(iW,[117],1,180),(yU,[117],1,181),(iX,[],0,0)]
def fnv (k:Nat):AVal:=bif Nat.beq k 0 then .cx else .fn (.func k) [] []
def oR (x:List UInt8):Option (List UInt8×List UInt8×Int×Nat):=iV.find? fun f=>decide (x=f.1)
def j8 (x:List UInt8):List UInt8:=match oR x with
 |some f=>f.2.1
 |none=>[]
def ny (x:List UInt8):Int:=match oR x with
 |some f=>f.2.2.1
 |none=>0
def lS (x:List UInt8):AVal:=match oR x with
 |some f=>fnv f.2.2.2
 |none=>.cx
def D5 (x:List UInt8):Bool:=(oR x).isSome
theorem qvj:ja=iV.map fun f=>(.str f.1,.agg [.str f.2.1,.int .i64 f.2.2.1,fnv f.2.2.2]):=rfl
theorem Ty (x:List UInt8)(h:qi):∀(l:List (List UInt8×List UInt8×Int×Nat)) (n:Nat),zd .str (.str x) (l.map fun f=>(.str f.1,.agg [.str f.2.1,.int .i64 f.2.2.1,fnv f.2.2.2])) n=En Gb∧l.find? (fun f=>decide (x=f.1))=Gb∨∃i f,zd .str (.str x) (l.map fun f=>(.str f.1,.agg [.str f.2.1,.int .i64 f.2.2.1,fnv f.2.2.2])) n=En (En (i,.agg [.str f.2.1,.int .i64 f.2.2.1,fnv f.2.2.2]))∧l.find? (fun f=>decide (x=f.1))=En f
 | [],n=>.inl ⟨rfl,rfl⟩
 |f::l,n=>by
  have he:lv .str (.str x) (.str f.1)=En (decide (x=f.1)):=by
   show En (x == f.1)=_
   by_cases hx:x=f.1<;>simp[hx]
  by_cases hx:x=f.1
  ·refine .inr ⟨n,f,?_,?_⟩
   ·simp only[Gh,zd,he,decide_eq_true hx]
   ·simp[Ge,hx]
  ·rcases Ty x h l (n+1)with⟨h1,h2⟩|⟨i,g,h1,h2⟩
   ·exact .inl ⟨by simp only[Gh,zd,he,hx,decide_false];exact h1,by simp only[Ge,hx,decide_false];exact h2⟩
   ·exact .inr ⟨i,g,by simp only[Gh,zd,he,hx,decide_false];exact h1,by simp only[Ge,hx,decide_false];exact h2⟩
@[go_sem] theorem zfg {h g a b}:vu Gd h (En (.fn g a b))=En ⟨.ai (.fn g a b),Gd,Gb,h⟩:=rfl
@[go_sem] theorem zme:pr.maps 101=En ja:=rfl
theorem jpd {h}(x:List UInt8):yT h (.agg [.str [],.int .i64 0,.cx]) (zd .str (.str x) ja 0)=En ⟨.aJ [.agg [.str (j8 x),.int .i64 (ny x),lS x],.bool (D5 x)],Gd,Gb,h⟩:=by
 rw[qvj]
 rcases Ty x h iV 0 with⟨h1,h2⟩|⟨i,f,h1,h2⟩
 ·rw[h1];simp only[yT,j8,ny,lS,D5,oR,h2];rfl
 ·rw[h1];simp only[yT,j8,ny,lS,D5,oR,h2];rfl
theorem LM {h}(x:List UInt8):wG h (.agg [.str [],.int .i64 0,.cx]) (zd .str (.str x) ja 0)=En ⟨.agg [.str (j8 x),.int .i64 (ny x),lS x],Gd,Gb,h⟩:=by
 rw[qvj]
 rcases Ty x h iV 0 with⟨h1,h2⟩|⟨i,f,h1,h2⟩
 ·rw[h1];simp only[wG,j8,ny,lS,oR,h2];rfl
 ·rw[h1];simp only[wG,j8,ny,lS,oR,h2];rfl
@[go_sem] theorem zkx {x}:qk (lS x)=Ga:=by
 unfold lS
 split
 ·rename_i f _;simp only[fnv];cases Nat.beq f.2.2.2 0<;>rfl
 ·rfl
def kz (l:List (List UInt8×Int)):List (AVal×AVal):=l.map fun p=>(.str p.1,.int .i64 p.2)
def mJ (l:List (List UInt8×Int))(k:List UInt8):Int:=match l.find? fun p=>decide (k=p.1)with
 |some p=>p.2
 |none=>0
def kX:List (List UInt8×Int)→List UInt8→Int→List (List UInt8×Int)
 | [],k,v=>[(k,v)]
 |p::l,k,v=>if k=p.1 then(p.1,v)::l else p::kX l k v
def LN (l:List (List UInt8×Int))(k:List UInt8)(v:Int):Option (List (List UInt8×Int)):=if l.length≤1073741824 then En (kX l k v)else Gb
theorem Tz {k s}:lv .str (.str k) (.str s)=En (decide (k=s)):=by
 show En (k == s)=_
 by_cases hx:k=s<;>simp[hx]
theorem TA (k:List UInt8):∀(l:List (List UInt8×Int)) (n:Nat),(zd .str (.str k) (kz l) n=En Gb∧l.find? (fun p=>decide (k=p.1))=Gb∧∀v,kz (kX l k v)=kz l++[(.str k,.int .i64 v)])∨∃i p,zd .str (.str k) (kz l) n=En (En (n+i,.int .i64 p.2))∧l.find? (fun p=>decide (k=p.1))=En p∧∀v,kz (kX l k v)=qG (kz l) i (.int .i64 v)
 | [],n=>.inl ⟨rfl,rfl,fun _=>rfl⟩
 |p::l,n=>by
  by_cases hx:k=p.1
  ·refine .inr ⟨0,p,?_,?_,fun v=>?_⟩
   ·simp only[kz,Gh,zd,Tz,decide_eq_true hx];rfl
   ·simp[Ge,hx]
   ·simp only[kX,if_pos hx];rfl
  ·rcases TA k l (n+1)with⟨h1,h2,h3⟩|⟨i,q,h1,h2,h3⟩
   ·refine .inl ⟨?_,?_,fun v=>?_⟩
    ·simp only[kz,Gh,zd,Tz,decide_eq_false hx];exact h1
    ·simp only[Ge,decide_eq_false hx];exact h2
    ·simp only[kX,if_neg hx]
     show _::kz (kX l k v)=_
     rw[h3];rfl
   ·refine .inr ⟨i+1,q,?_,?_,fun v=>?_⟩
    ·simp only[kz,Gh,zd,Tz,decide_eq_false hx]
     rw[show n+(i+1)=n+1+i by omega];exact h1
    ·simp only[Ge,decide_eq_false hx];exact h2
    ·simp only[kX,if_neg hx]
     show _::kz (kX l k v)=_
     rw[h3];rfl
theorem jmh {h l k}:wG h (.int .i64 0) (zd .str (.str k) (kz l) 0)=En ⟨.int .i64 (mJ l k),Gd,Gb,h⟩:=by
 unfold mJ
 rcases TA k l 0 with⟨h1,h2,_⟩|⟨i,p,h1,h2,_⟩<;>rw[h1,h2]<;>rfl
theorem jwf {h b l v k n}(hv:LN l k n=En v):D3 h b (kz l) (.str k) (.int .i64 n) (zd .str (.str k) (kz l) 0)=iA (jt h b (.map (kz v))) .undef:=by
 unfold LN at hv
 split at hv
 ·rename_i hl
  cases hv
  rcases TA k l 0 with⟨h1,h2,h3⟩|⟨i,p,h1,h2,h3⟩
  ·rw[h1,h3]
   have:Nat.ble (kz l).length 1073741824=Ga:=Nat.ble_eq_true_of_le (by rw[kz,Gn];exact hl)
   simp only[D3,this,cn,cond_true]
  ·rw[h1,h3,Nat.zero_add];rfl
 ·cases hv
theorem jgt {l k k' v}:mJ (kX l k v) k'=if k'=k then v else mJ l k':=by
 induction l with
 |nil=>by_cases h:k'=k<;>simp[kX,mJ,Ge,h]
 |cons p l ih=>
  unfold mJ at ih ⊢
  by_cases hk:k=p.1
  ·by_cases h:k'=k
   ·subst h;simp[kX,Ge,←hk]
   ·have h2:¬k'=p.1:=by rw[←hk];exact h
    simp[kX,Ge,hk,h2]
  ·by_cases h2:k'=p.1
   ·have h3:¬k'=k:=by rw[h2];exact fun h=>hk h.symm
    have h4:¬p.1=k:=fun h=>hk h.symm
    simp[kX,Ge,hk,h2,h4]
   ·simp only[kX,if_neg hk,Ge,decide_eq_false h2]
    exact ih
@[go_sem] theorem zae {h0 al h b}:ki h0 al Gd 1 h (En (.ai (.map b)))=En ⟨.map b,Gd,Gb,h⟩:=rfl
@[go_sem] theorem jbe {n l}:uP n (kz l)=Ga:=by
 induction l with
 |nil=>rfl
 |cons p l ih=>simp only[kz,Gh,uP,below,Bool.true_and];exact ih
@[go_sem] theorem jqs {n l}:pw n (.map (kz l))=Ga:=jbe
end Go.Z
