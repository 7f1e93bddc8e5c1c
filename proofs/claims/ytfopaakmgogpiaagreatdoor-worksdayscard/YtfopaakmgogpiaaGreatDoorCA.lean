/- The structs of chapter 10 and their cells; what they are in plain lists. -/
import Derived.Test.YtfopaakmgogpiaaGreatDoorG0
import Derived.Test.YtfopaakmgogpiaaGreatDoorWS
set_option maxRecDepth 100000
open Option renaming some→En,none→E2,getD_some→Hb
open Bool renaming true→E1,false→E3,and_eq_true→Ha
open List renaming find?→E4,map_cons→E6,getElem?_eq_none_iff→Gk,getElem?_eq_getElem→Gl,length_nil→Gm,length_map→Gn,drop_eq_nil_of_le→Gp,flatMap_cons→G2
open Nat renaming blt→Gq
namespace Go.Z
open Go Go.Abs Go.W
def aS (p:ql):qa:=.agg [.str p.k,.int .i64 p.n]
@[go_sem] theorem zfy {p:ql}:(aS p).flat=[.str p.k,.int .i64 p.n]:=rfl
@[go_sem] theorem jcq {n:Nat}(p:ql):below n (aS p)=E1:=by rfl
@[go_sem] theorem jy3 {n z:Nat}{l:Option (List ql)}:below n (sl z aS l)=E1:=ur jcq
@[go_sem] theorem zbg {p:ql}:qa.ah (aS p)=.ah (.agg [.str p.k,.int .i64 p.n]):=rfl
theorem ja9 {b t:Nat}{h:j8}{bb:Bool}{p:ql}{o v:Option (List ql)}(hv:bg o [p]=En v):bC 2 b h (En t) (En (sl 2 aS o)) (En (.list bb 2 [.agg [.str p.k,.int .i64 p.n]]))=bR (decide (b≤4096)) (En ⟨sl 2 aS v,E1,En t,h⟩):=uz (x:=p) (by omega) rfl hv
theorem ja6 {b:Nat}{h:j8}{bb:Bool}{p:ql}{o v:Option (List ql)}(hv:bg o [p]=En v)(hn:o.isNone=E1):bC 2 b h E2 (En (sl 2 aS o)) (En (.list bb 2 [.agg [.str p.k,.int .i64 p.n]]))=bR (decide (b≤4096)) (En ⟨sl 2 aS v,E1,E2,h⟩):=uA (x:=p) (by omega) rfl hn hv
def z6 (p:qk):qa:=.agg [.str p.k,.int .i64 p.a,.int .i64 p.b]
@[go_sem] theorem j9h {p:qk}:(z6 p).flat=[.str p.k,.int .i64 p.a,.int .i64 p.b]:=rfl
@[go_sem] theorem q8j {n:Nat}(p:qk):below n (z6 p)=E1:=by rfl
@[go_sem] theorem jve {n z:Nat}{l:Option (List qk)}:below n (sl z z6 l)=E1:=ur q8j
@[go_sem] theorem jcv {p:qk}:qa.ah (z6 p)=.ah (.agg [.str p.k,.int .i64 p.a,.int .i64 p.b]):=rfl
theorem q99 {b t:Nat}{h:j8}{bb:Bool}{p:qk}{o v:Option (List qk)}(hv:bg o [p]=En v):bC 3 b h (En t) (En (sl 3 z6 o)) (En (.list bb 3 [.agg [.str p.k,.int .i64 p.a,.int .i64 p.b]]))=bR (decide (b≤4096)) (En ⟨sl 3 z6 v,E1,En t,h⟩):=uz (x:=p) (by omega) rfl hv
theorem q92 {b:Nat}{h:j8}{bb:Bool}{p:qk}{o v:Option (List qk)}(hv:bg o [p]=En v)(hn:o.isNone=E1):bC 3 b h E2 (En (sl 3 z6 o)) (En (.list bb 3 [.agg [.str p.k,.int .i64 p.a,.int .i64 p.b]]))=bR (decide (b≤4096)) (En ⟨sl 3 z6 v,E1,E2,h⟩):=uA (x:=p) (by omega) rfl hn hv
def z8 (p:qj):qa:=.agg [.str p.name,.str p.kind,.int .i64 p.count,.int .i64 p.left,.bool p.held]
@[go_sem] theorem j8g {p:qj}:(z8 p).flat=[.str p.name,.str p.kind,.int .i64 p.count,.int .i64 p.left,.bool p.held]:=rfl
@[go_sem] theorem q8t {n:Nat}(p:qj):below n (z8 p)=E1:=by rfl
@[go_sem] theorem jwb {n z:Nat}{l:Option (List qj)}:below n (sl z z8 l)=E1:=ur q8t
@[go_sem] theorem q0u {p:qj}:qa.ah (z8 p)=.ah (.agg [.str p.name,.str p.kind,.int .i64 p.count,.int .i64 p.left,.bool p.held]):=rfl
theorem qw4 {b t:Nat}{h:j8}{bb:Bool}{p:qj}{o v:Option (List qj)}(hv:bg o [p]=En v):bC 5 b h (En t) (En (sl 5 z8 o)) (En (.list bb 5 [.agg [.str p.name,.str p.kind,.int .i64 p.count,.int .i64 p.left,.bool p.held]]))=bR (decide (b≤4096)) (En ⟨sl 5 z8 v,E1,En t,h⟩):=uz (x:=p) (by omega) rfl hv
theorem qwh {b:Nat}{h:j8}{bb:Bool}{p:qj}{o v:Option (List qj)}(hv:bg o [p]=En v)(hn:o.isNone=E1):bC 5 b h E2 (En (sl 5 z8 o)) (En (.list bb 5 [.agg [.str p.name,.str p.kind,.int .i64 p.count,.int .i64 p.left,.bool p.held]]))=bR (decide (b≤4096)) (En ⟨sl 5 z8 v,E1,E2,h⟩):=uA (x:=p) (by omega) rfl hn hv
structure qr where
 ax:Option (List ql)
 aw:Option (List qk)
def dk (p:qr):qa:=.agg [sl 2 aS p.ax,sl 3 z6 p.aw]
@[go_sem] theorem j87 {p:qr}:(dk p).flat=[sl 2 aS p.ax,sl 3 z6 p.aw]:=rfl
@[go_sem] theorem q71 {n:Nat}(p:qr):below n (dk p)=E1:=by simp only[dk,go_sem]
@[go_sem] theorem ju7 {n z:Nat}{l:Option (List qr)}:below n (sl z dk l)=E1:=ur q71
@[go_sem] theorem j7l {p:qr}:qa.ah (dk p)=.ah (.agg [sl 2 aS p.ax,sl 3 z6 p.aw]):=rfl
theorem q70 {b t:Nat}{h:j8}{bb:Bool}{p:qr}{o v:Option (List qr)}(hv:bg o [p]=En v):bC 2 b h (En t) (En (sl 2 dk o)) (En (.list bb 2 [.agg [sl 2 aS p.ax,sl 3 z6 p.aw]]))=bR (decide (b≤4096)) (En ⟨sl 2 dk v,E1,En t,h⟩):=uz (x:=p) (by omega) rfl hv
theorem q9j {b:Nat}{h:j8}{bb:Bool}{p:qr}{o v:Option (List qr)}(hv:bg o [p]=En v)(hn:o.isNone=E1):bC 2 b h E2 (En (sl 2 dk o)) (En (.list bb 2 [.agg [sl 2 aS p.ax,sl 3 z6 p.aw]]))=bR (decide (b≤4096)) (En ⟨sl 2 dk v,E1,E2,h⟩):=uA (x:=p) (by omega) rfl hn hv
structure qi where
 name:List UInt8
 dn:Option (List ql)
 dt:Option (List qk)
 aH:Option (List qr)
def zt (p:qi):qa:=.agg [.str p.name,sl 2 aS p.dn,sl 3 z6 p.dt,sl 2 dk p.aH]
@[go_sem] theorem q75 {p:qi}:(zt p).flat=[.str p.name,sl 2 aS p.dn,sl 3 z6 p.dt,sl 2 dk p.aH]:=rfl
@[go_sem] theorem q5i {n:Nat}(p:qi):below n (zt p)=E1:=by simp only[zt,go_sem]
@[go_sem] theorem jq6 {n z:Nat}{l:Option (List qi)}:below n (sl z zt l)=E1:=ur q5i
@[go_sem] theorem jw8 {p:qi}:qa.ah (zt p)=.ah (.agg [.str p.name,sl 2 aS p.dn,sl 3 z6 p.dt,sl 2 dk p.aH]):=rfl
theorem q5h {b t:Nat}{h:j8}{bb:Bool}{p:qi}{o v:Option (List qi)}(hv:bg o [p]=En v):bC 4 b h (En t) (En (sl 4 zt o)) (En (.list bb 4 [.agg [.str p.name,sl 2 aS p.dn,sl 3 z6 p.dt,sl 2 dk p.aH]]))=bR (decide (b≤4096)) (En ⟨sl 4 zt v,E1,En t,h⟩):=uz (x:=p) (by omega) rfl hv
theorem q5z {b:Nat}{h:j8}{bb:Bool}{p:qi}{o v:Option (List qi)}(hv:bg o [p]=En v)(hn:o.isNone=E1):bC 4 b h E2 (En (sl 4 zt o)) (En (.list bb 4 [.agg [.str p.name,sl 2 aS p.dn,sl 3 z6 p.dt,sl 2 dk p.aH]]))=bR (decide (b≤4096)) (En ⟨sl 4 zt v,E1,E2,h⟩):=uA (x:=p) (by omega) rfl hn hv
structure qe where
 name:List UInt8
 product:List UInt8
 version:Int
 uses:Option (List ql)
 results:Option (List qk)
 partner:List UInt8
 ar:Bool
 ai:Int
def bh (p:qe):qa:=.agg [.str p.name,.str p.product,.int .i64 p.version,sl 2 aS p.uses,sl 3 z6 p.results,.str p.partner,.bool p.ar,.int .i64 p.ai]
@[go_sem] theorem jdw {p:qe}:(bh p).flat=[.str p.name,.str p.product,.int .i64 p.version,sl 2 aS p.uses,sl 3 z6 p.results,.str p.partner,.bool p.ar,.int .i64 p.ai]:=rfl
@[go_sem] theorem jcj {n:Nat}(p:qe):below n (bh p)=E1:=by simp only[bh,go_sem]
@[go_sem] theorem j2d {n z:Nat}{l:Option (List qe)}:below n (sl z bh l)=E1:=ur jcj
@[go_sem] theorem za9 {p:qe}:qa.ah (bh p)=.ah (.agg [.str p.name,.str p.product,.int .i64 p.version,sl 2 aS p.uses,sl 3 z6 p.results,.str p.partner,.bool p.ar,.int .i64 p.ai]):=rfl
theorem jc7 {b t:Nat}{h:j8}{bb:Bool}{p:qe}{o v:Option (List qe)}(hv:bg o [p]=En v):bC 8 b h (En t) (En (sl 8 bh o)) (En (.list bb 8 [.agg [.str p.name,.str p.product,.int .i64 p.version,sl 2 aS p.uses,sl 3 z6 p.results,.str p.partner,.bool p.ar,.int .i64 p.ai]]))=bR (decide (b≤4096)) (En ⟨sl 8 bh v,E1,En t,h⟩):=uz (x:=p) (by omega) rfl hv
theorem jbc {b:Nat}{h:j8}{bb:Bool}{p:qe}{o v:Option (List qe)}(hv:bg o [p]=En v)(hn:o.isNone=E1):bC 8 b h E2 (En (sl 8 bh o)) (En (.list bb 8 [.agg [.str p.name,.str p.product,.int .i64 p.version,sl 2 aS p.uses,sl 3 z6 p.results,.str p.partner,.bool p.ar,.int .i64 p.ai]]))=bR (decide (b≤4096)) (En ⟨sl 8 bh v,E1,E2,h⟩):=uA (x:=p) (by omega) rfl hn hv
structure qc where
 day:Int
 au:Option (List qj)
 ae:Option (List qi)
 units:Option (List qe)
def y6 (p:qc):qa:=.agg [.int .i64 p.day,sl 5 z8 p.au,sl 4 zt p.ae,sl 8 bh p.units]
@[go_sem] theorem j69 {p:qc}:(y6 p).flat=[.int .i64 p.day,sl 5 z8 p.au,sl 4 zt p.ae,sl 8 bh p.units]:=rfl
@[go_sem] theorem q9d {n:Nat}(p:qc):below n (y6 p)=E1:=by simp only[y6,go_sem]
@[go_sem] theorem jv7 {n z:Nat}{l:Option (List qc)}:below n (sl z y6 l)=E1:=ur q9d
@[go_sem] theorem j8f {p:qc}:qa.ah (y6 p)=.ah (.agg [.int .i64 p.day,sl 5 z8 p.au,sl 4 zt p.ae,sl 8 bh p.units]):=rfl
theorem q86 {b t:Nat}{h:j8}{bb:Bool}{p:qc}{o v:Option (List qc)}(hv:bg o [p]=En v):bC 4 b h (En t) (En (sl 4 y6 o)) (En (.list bb 4 [.agg [.int .i64 p.day,sl 5 z8 p.au,sl 4 zt p.ae,sl 8 bh p.units]]))=bR (decide (b≤4096)) (En ⟨sl 4 y6 v,E1,En t,h⟩):=uz (x:=p) (by omega) rfl hv
theorem q9k {b:Nat}{h:j8}{bb:Bool}{p:qc}{o v:Option (List qc)}(hv:bg o [p]=En v)(hn:o.isNone=E1):bC 4 b h E2 (En (sl 4 y6 o)) (En (.list bb 4 [.agg [.int .i64 p.day,sl 5 z8 p.au,sl 4 zt p.ae,sl 8 bh p.units]]))=bR (decide (b≤4096)) (En ⟨sl 4 y6 v,E1,E2,h⟩):=uA (x:=p) (by omega) rfl hn hv
structure qm where
 number:Int
 kind:List UInt8
 names:Option (List (List UInt8))
 values:Option (List Int)
 text:List UInt8
def vev (p:qm):qa:=.agg [.int .i64 p.number,.str p.kind,sl 1 qag p.names,sl 1 kw p.values,.str p.text]
@[go_sem] theorem zbx {p:qm}:(vev p).flat=[.int .i64 p.number,.str p.kind,sl 1 qag p.names,sl 1 kw p.values,.str p.text]:=rfl
@[go_sem] theorem jce {n:Nat}(p:qm):below n (vev p)=E1:=by simp only[vev,go_sem]
@[go_sem] theorem j33 {n z:Nat}{l:Option (List qm)}:below n (sl z vev l)=E1:=ur jce
@[go_sem] theorem zd4 {p:qm}:qa.ah (vev p)=.ah (.agg [.int .i64 p.number,.str p.kind,sl 1 qag p.names,sl 1 kw p.values,.str p.text]):=rfl
theorem jbu {b t:Nat}{h:j8}{bb:Bool}{p:qm}{o v:Option (List qm)}(hv:bg o [p]=En v):bC 5 b h (En t) (En (sl 5 vev o)) (En (.list bb 5 [.agg [.int .i64 p.number,.str p.kind,sl 1 qag p.names,sl 1 kw p.values,.str p.text]]))=bR (decide (b≤4096)) (En ⟨sl 5 vev v,E1,En t,h⟩):=uz (x:=p) (by omega) rfl hv
theorem jdi {b:Nat}{h:j8}{bb:Bool}{p:qm}{o v:Option (List qm)}(hv:bg o [p]=En v)(hn:o.isNone=E1):bC 5 b h E2 (En (sl 5 vev o)) (En (.list bb 5 [.agg [.int .i64 p.number,.str p.kind,sl 1 qag p.names,sl 1 kw p.values,.str p.text]]))=bR (decide (b≤4096)) (En ⟨sl 5 vev v,E1,E2,h⟩):=uA (x:=p) (by omega) rfl hn hv
def qr.er (d:qr):jg:=⟨d.ax.getD [],d.aw.getD []⟩
def qi.er (p:qi):jf:=⟨p.name,⟨p.dn.getD [],p.dt.getD []⟩,(p.aH.getD []).map qr.er⟩
def qe.er (u:qe):qy:=⟨u.name,u.product,u.version,u.uses.getD [],u.results.getD [],u.partner,u.ar,u.ai⟩
def qc.er (r:qc):qu:=⟨r.day,r.au.getD [],(r.ae.getD []).map qi.er,(r.units.getD []).map qe.er⟩
def qm.er (e:qm):je:=⟨e.number,e.kind,e.names.getD [],e.values.getD [],e.text⟩
end Go.Z
namespace Go.Z
open Go Go.Abs Go.W
theorem UU {hh:j8}:∀ {xs:List qa},zw 0 xs=E1→kT hh xs=En xs
 | [],_=>rfl
 |x::xs,h=>by
  simp only[zw,Ha]at h
  have hx:fT hh x=En x:=by
   cases x with
   |ms b o n=>simp[Abs.below,Gq]at h
   |ak b o n=>simp[Abs.below,Gq]at h
   |_=>rfl
  simp only[kT,hx,UU h.2]
theorem qro {hh:j8}:∀ {xs:List qa},zw 0 xs=E1→aB.bj hh xs=En xs
 | [],_=>rfl
 |x::xs,h=>by
  simp only[zw,Ha]at h
  have ih:=qro (hh:=hh) h.2
  cases x with
  |agg cs=>
   have h1:=h.1
   simp only[Abs.below]at h1
   simp only[aB.bj,UU h1,ih]
  |ms b o n=>simp[Abs.below,Gq]at h
  |ak b o n=>simp[Abs.below,Gq]at h
  |_=>simp only[aB.bj,fT,ih]
theorem qqh {hh:j8}{x:qa}(h:Abs.below 0 x=E1):aB hh x=En x:=by
 cases x with
 |agg cs=>
  simp only[Abs.below]at h
  simp only[aB,UU h]
 |aC vs=>
  simp only[Abs.below]at h
  simp only[aB,qro h]
 |ms b o n=>simp[Abs.below,Gq]at h
 |ak b o n=>simp[Abs.below,Gq]at h
 |_=>rfl
theorem y7 {p:qt}{k:Nat}(f:qd){args:List qa}{v:qa}(hc:∃hh,Dx f.results (X p f.body ⟨nS 0 args,[]⟩)=some (v,false,hh))(hp:p.cm k=none:=by rfl)(hf:p.bL k=some f:=by rfl)(hl:Nat.ble args.length f.ntmps=true:=by rfl)(hv:below 0 v=true:=by first|rfl|simp only[go_sem,seval]):jz p (X p) k args=some (v,false):=by
 obtain⟨hh,hc⟩:=hc
 cases f with
 |mk n b r=>exact ky hp (by rw[zh hf (Nat.le_of_ble_eq_true hl)];exact hc) (qqh hv) hv
theorem eU {p:qt}{k:Nat}(f:qd){args:List qa}{v:qa}{o:Bool}(hc:∃hh,Dx f.results (X p f.body ⟨nS 0 args,[]⟩)=some (v,o,hh))(hp:p.cm k=none:=by rfl)(hf:p.bL k=some f:=by rfl)(hn:Nat.ble args.length f.ntmps=true:=by rfl)(hv:below 0 v=true:=by first|rfl|simp only[go_sem,seval])(hl:v.cu=true:=by first|rfl|simp only[go_sem,seval]):jz p (X p) k args=some (v,o):=by
 obtain⟨hh,hc⟩:=hc
 cases f with
 |mk n b r=>exact qys hp (by rw[zh hf (Nat.le_of_ble_eq_true hn)];exact hc) (qqh hv) hv hl
theorem yh {σ δ:Type}{p:qt}{c:qf}{St:σ→qg}{Ex:δ→qo×qg}{s s':σ}(h:X p c (St s)=some (.normal,St s'))(hl:(St s').heap.length≤(St s).heap.length:=by exact Nat.le_refl _):yo p c St Ex s (.inl s'):=DC h (Gc hl)
theorem q6x {σ δ:Type}{p:qt}{c:qf}{St:σ→qg}{Ex:δ→qo×qg}{s s':σ}(h:∃t,X p c (St s)=En (.normal,⟨(St s').env,(St s').heap++t⟩))(hn:(St s).heap.length=(St s').heap.length)(h1:l6 (St s).heap.length (St s').env=E1)(h2:kh (St s).heap.length (St s').heap=E1):yo p c St Ex s (.inl s'):=by
 obtain⟨t,h⟩:=h
 exact DC h (jl2 hn rfl h1 h2)
theorem ly {α:Type}{z:Nat}{f:α→qa}{l:List α}:sl z f (En l)=.list E3 z (l.map f):=rfl
theorem y8 {α:Type}{z:Nat}{f:α→qa}:sl z f E2=.list E1 0 []:=rfl
abbrev Iv (n:Int):qa:=.int .i64 n
abbrev Lv {α:Type}(o:Option (List α)):qa:=.int .i64 ((o.getD []).length:Int)
abbrev Nl:qa:=.list E1 0 []
abbrev aE (e:qm):qa:=.agg [.int .i64 e.number,.str e.kind,sl 1 qag e.names,sl 1 kw e.values,.str e.text]
abbrev aR (r:qc):qa:=.agg [.int .i64 r.day,sl 5 z8 r.au,sl 4 zt r.ae,sl 8 bh r.units]
abbrev aU (u:qe):qa:=.agg [.str u.name,.str u.product,.int .i64 u.version,sl 2 aS u.uses,sl 3 z6 u.results,.str u.partner,.bool u.ar,.int .i64 u.ai]
abbrev aL (l:qj):qa:=.agg [.str l.name,.str l.kind,.int .i64 l.count,.int .i64 l.left,.bool l.held]
abbrev aP (p:qi):qa:=.agg [.str p.name,sl 2 aS p.dn,sl 3 z6 p.dt,sl 2 dk p.aH]
abbrev aD (d:qr):qa:=.agg [sl 2 aS d.ax,sl 3 z6 d.aw]
abbrev aT (x:qk):qa:=.agg [.str x.k,.int .i64 x.a,.int .i64 x.b]
abbrev aN (x:ql):qa:=.agg [.str x.k,.int .i64 x.n]
abbrev aG (a:Int)(b:Option (List qj))(c:Option (List qi))(d:Option (List qe)):qa:=.agg [.int .i64 a,sl 5 z8 b,sl 4 zt c,sl 8 bh d]
abbrev kS (a:Int)(b:Option (List qj))(o1:Bool)(c:Option (List qi))(o2:Bool)(d:Option (List qe))(o3:Bool):qn:=.cells [(.int .i64 a,E3),(sl 5 z8 b,o1),(sl 4 zt c,o2),(sl 8 bh d,o3)]
abbrev kR (a:Int)(b:Option (List qj))(c:Option (List qi))(d:Option (List qe)):qn:=.cells [(.int .i64 a,E3),(sl 5 z8 b,E3),(sl 4 zt c,E3),(sl 8 bh d,E3)]
abbrev kO:qn:=.cells [(Nl,E3),(Nl,E3),(Nl,E3)]
abbrev kZ:qn:=.cells [(.int .i64 0,E3),(Nl,E3),(Nl,E3),(Nl,E3)]
abbrev aZ:qa:=.agg [.int .i64 0,Nl,Nl,Nl]
def om {α β:Type}(o:Option α)(f:α→β):Option β:=match o with
 |some x=>En (f x)
 |none=>E2
@[go_sem] theorem zkw {α β:Type}{x:α}{f:α→β}:om (En x) f=En (f x):=rfl
theorem zn {h:j8}{α:Type}{z:Nat}{f:α→qa}{l:Option (List α)}{k:IntKind}{i:Int}:kL z h (En (sl z f l)) (En (.int k i))=om (zp (l.getD []) i) fun x=>⟨.ah (f x),E3,E2,h⟩:=by
 cases hx:zp (l.getD []) i with
 |some x=>exact ko hx
 |none=>
  have hi:uq (l.getD []).length i=E2:=by
   unfold zp at hx
   unfold uq
   by_cases h0:0≤i
   ·rw[if_pos h0]at hx
    rw[if_neg]
    intro hc
    have:=Gk.1 hx
    omega
   ·rw[if_neg (fun hc=>h0 hc.1)]
  cases l with
  |none=>simp only[sl,kL,xb,Option.getD_none,Gm]at hi ⊢;rw[hi];simp[om]
  |some l=>simp only[sl,kL,xb,Hb,Gn]at hi ⊢;rw[hi];simp[om]
theorem q26 {h:j8}{s:List UInt8}{k:IntKind}{i:Int}:Ab h (En (.str s)) (En (.int k i))=om (zp s i) fun c=>⟨.int .u8 (c.toNat:Int),E3,E2,h⟩:=by
 cases hx:zp s i with
 |some x=>exact jes hx
 |none=>
  have hi:uq s.length i=E2:=by
   unfold zp at hx
   unfold uq
   by_cases h0:0≤i
   ·rw[if_pos h0]at hx
    rw[if_neg]
    intro hc
    have:=Gk.1 hx
    omega
   ·rw[if_neg (fun hc=>h0 hc.1)]
  simp only[Ab,xb,hi,om]
theorem xe {h:j8}{b pos:Nat}{s:List UInt8}:ux h b (En (.iter s pos))=cond (decide (pos<s.length)) (gP (yj h b (.iter s (pos+(zf s pos).2))) (.aC [.bool E1,.int .i64 pos,.int .i32 (zf s pos).1])) (En ⟨.aC [.bool E3],E3,E2,h⟩):=by
 cases hx:decide (pos<s.length)with
 |true=>exact joe hx
 |false=>exact jqx hx
theorem lT {h:j8}{α:Type}{z b t:Nat}{f:α→qa}{o2:Option (List α)}:bC (z+1) b h (En t) (En (.list E3 (z+1) [])) (En (sl (z+1) f o2))=bR (decide (b≤4096)) (om (bg (En []) (o2.getD [])) fun v=>⟨sl (z+1) f v,E1,En t,h⟩):=by
 cases hx:bg (En []) (o2.getD [])with
 |some x=>exact jb5 hx
 |none=>
  unfold bg at hx
  split at hx
  ·cases hx
  rename_i hl
  simp only[Hb,Gm]at hl
  simp only[bC,bC.gQ,Uy,Gm,Gn,mK,dF hl,om]
  cases decide (b≤4096)<;>simp[bR]
theorem vu {p:ql}{o v:Option (List ql)}(hv:bg o [p]=En v):(∀ {b t:Nat} {h:j8} {bb:Bool},bC 2 b h (En t) (En (sl 2 aS o)) (En (.list bb 2 [.agg [.str p.k,.int .i64 p.n]]))=bR (decide (b≤4096)) (En ⟨sl 2 aS v,E1,En t,h⟩))∧(∀ {b:Nat} {h:j8} {bb:Bool},o.isNone=E1→bC 2 b h E2 (En (sl 2 aS o)) (En (.list bb 2 [.agg [.str p.k,.int .i64 p.n]]))=bR (decide (b≤4096)) (En ⟨sl 2 aS v,E1,E2,h⟩)):=⟨ja9 hv,ja6 hv⟩
theorem xf {p:qk}{o v:Option (List qk)}(hv:bg o [p]=En v):(∀ {b t:Nat} {h:j8} {bb:Bool},bC 3 b h (En t) (En (sl 3 z6 o)) (En (.list bb 3 [.agg [.str p.k,.int .i64 p.a,.int .i64 p.b]]))=bR (decide (b≤4096)) (En ⟨sl 3 z6 v,E1,En t,h⟩))∧(∀ {b:Nat} {h:j8} {bb:Bool},o.isNone=E1→bC 3 b h E2 (En (sl 3 z6 o)) (En (.list bb 3 [.agg [.str p.k,.int .i64 p.a,.int .i64 p.b]]))=bR (decide (b≤4096)) (En ⟨sl 3 z6 v,E1,E2,h⟩)):=⟨q99 hv,q92 hv⟩
theorem Ni {p:qj}{o v:Option (List qj)}(hv:bg o [p]=En v):(∀ {b t:Nat} {h:j8} {bb:Bool},bC 5 b h (En t) (En (sl 5 z8 o)) (En (.list bb 5 [.agg [.str p.name,.str p.kind,.int .i64 p.count,.int .i64 p.left,.bool p.held]]))=bR (decide (b≤4096)) (En ⟨sl 5 z8 v,E1,En t,h⟩))∧(∀ {b:Nat} {h:j8} {bb:Bool},o.isNone=E1→bC 5 b h E2 (En (sl 5 z8 o)) (En (.list bb 5 [.agg [.str p.name,.str p.kind,.int .i64 p.count,.int .i64 p.left,.bool p.held]]))=bR (decide (b≤4096)) (En ⟨sl 5 z8 v,E1,E2,h⟩)):=⟨qw4 hv,qwh hv⟩
theorem UW {p:qr}{o v:Option (List qr)}(hv:bg o [p]=En v):(∀ {b t:Nat} {h:j8} {bb:Bool},bC 2 b h (En t) (En (sl 2 dk o)) (En (.list bb 2 [.agg [sl 2 aS p.ax,sl 3 z6 p.aw]]))=bR (decide (b≤4096)) (En ⟨sl 2 dk v,E1,En t,h⟩))∧(∀ {b:Nat} {h:j8} {bb:Bool},o.isNone=E1→bC 2 b h E2 (En (sl 2 dk o)) (En (.list bb 2 [.agg [sl 2 aS p.ax,sl 3 z6 p.aw]]))=bR (decide (b≤4096)) (En ⟨sl 2 dk v,E1,E2,h⟩)):=⟨q70 hv,q9j hv⟩
theorem UX {p:qi}{o v:Option (List qi)}(hv:bg o [p]=En v):(∀ {b t:Nat} {h:j8} {bb:Bool},bC 4 b h (En t) (En (sl 4 zt o)) (En (.list bb 4 [.agg [.str p.name,sl 2 aS p.dn,sl 3 z6 p.dt,sl 2 dk p.aH]]))=bR (decide (b≤4096)) (En ⟨sl 4 zt v,E1,En t,h⟩))∧(∀ {b:Nat} {h:j8} {bb:Bool},o.isNone=E1→bC 4 b h E2 (En (sl 4 zt o)) (En (.list bb 4 [.agg [.str p.name,sl 2 aS p.dn,sl 3 z6 p.dt,sl 2 dk p.aH]]))=bR (decide (b≤4096)) (En ⟨sl 4 zt v,E1,E2,h⟩)):=⟨q5h hv,q5z hv⟩
theorem UY {p:qe}{o v:Option (List qe)}(hv:bg o [p]=En v):(∀ {b t:Nat} {h:j8} {bb:Bool},bC 8 b h (En t) (En (sl 8 bh o)) (En (.list bb 8 [.agg [.str p.name,.str p.product,.int .i64 p.version,sl 2 aS p.uses,sl 3 z6 p.results,.str p.partner,.bool p.ar,.int .i64 p.ai]]))=bR (decide (b≤4096)) (En ⟨sl 8 bh v,E1,En t,h⟩))∧(∀ {b:Nat} {h:j8} {bb:Bool},o.isNone=E1→bC 8 b h E2 (En (sl 8 bh o)) (En (.list bb 8 [.agg [.str p.name,.str p.product,.int .i64 p.version,sl 2 aS p.uses,sl 3 z6 p.results,.str p.partner,.bool p.ar,.int .i64 p.ai]]))=bR (decide (b≤4096)) (En ⟨sl 8 bh v,E1,E2,h⟩)):=⟨jc7 hv,jbc hv⟩
theorem jld {p:qc}{o v:Option (List qc)}(hv:bg o [p]=En v):(∀ {b t:Nat} {h:j8} {bb:Bool},bC 4 b h (En t) (En (sl 4 y6 o)) (En (.list bb 4 [.agg [.int .i64 p.day,sl 5 z8 p.au,sl 4 zt p.ae,sl 8 bh p.units]]))=bR (decide (b≤4096)) (En ⟨sl 4 y6 v,E1,En t,h⟩))∧(∀ {b:Nat} {h:j8} {bb:Bool},o.isNone=E1→bC 4 b h E2 (En (sl 4 y6 o)) (En (.list bb 4 [.agg [.int .i64 p.day,sl 5 z8 p.au,sl 4 zt p.ae,sl 8 bh p.units]]))=bR (decide (b≤4096)) (En ⟨sl 4 y6 v,E1,E2,h⟩)):=⟨q86 hv,q9k hv⟩
theorem jcp {p:qm}{o v:Option (List qm)}(hv:bg o [p]=En v):(∀ {b t:Nat} {h:j8} {bb:Bool},bC 5 b h (En t) (En (sl 5 vev o)) (En (.list bb 5 [.agg [.int .i64 p.number,.str p.kind,sl 1 qag p.names,sl 1 kw p.values,.str p.text]]))=bR (decide (b≤4096)) (En ⟨sl 5 vev v,E1,En t,h⟩))∧(∀ {b:Nat} {h:j8} {bb:Bool},o.isNone=E1→bC 5 b h E2 (En (sl 5 vev o)) (En (.list bb 5 [.agg [.int .i64 p.number,.str p.kind,sl 1 qag p.names,sl 1 kw p.values,.str p.text]]))=bR (decide (b≤4096)) (En ⟨sl 5 vev v,E1,E2,h⟩)):=⟨jbu hv,jdi hv⟩
theorem q62 {x:Int}{o v:Option (List Int)}(hv:bg o [x]=En v):(∀ {b t:Nat} {h:j8} {bb:Bool},bC 1 b h (En t) (En (sl 1 kw o)) (En (.list bb 1 [.int .i64 x]))=bR (decide (b≤4096)) (En ⟨sl 1 kw v,E1,En t,h⟩))∧(∀ {b:Nat} {h:j8} {bb:Bool},o.isNone=E1→bC 1 b h E2 (En (sl 1 kw o)) (En (.list bb 1 [.int .i64 x]))=bR (decide (b≤4096)) (En ⟨sl 1 kw v,E1,E2,h⟩)):=⟨q8s hv,q7g hv⟩
theorem q61 {x:List UInt8}{o v:Option (List (List UInt8))}(hv:bg o [x]=En v):(∀ {b t:Nat} {h:j8} {bb:Bool},bC 1 b h (En t) (En (sl 1 qag o)) (En (.list bb 1 [.str x]))=bR (decide (b≤4096)) (En ⟨sl 1 qag v,E1,En t,h⟩))∧(∀ {b:Nat} {h:j8} {bb:Bool},o.isNone=E1→bC 1 b h E2 (En (sl 1 qag o)) (En (.list bb 1 [.str x]))=bR (decide (b≤4096)) (En ⟨sl 1 qag v,E1,E2,h⟩)):=⟨q7d hv,fun hn=>uA (by omega) rfl hn hv⟩
theorem jol {α:Type}{o v:Option (List α)}{hi:Int}(hv:xg o E2 (En hi)=En v):∀(h:j8) (z:Nat) (f:α→qa) (k:IntKind),qG z h (En (sl z f o)) E2 (En (En (.int k hi)))=En ⟨sl z f v,E3,E2,h⟩:=fun _ _ _ _=>jls hv
@[go_sem] theorem j2k {n:Nat}{v:qa}:below n (.ah v)=below n v:=rfl
structure ji where
 names:Int
 values:Int
 known:Bool
theorem j4y {a0 b0:List UInt8}{a1 b1:Int}:kz [.str,.int] [.str a0,.int .i64 a1] [.str b0,.int .i64 b1]=En (decide (a0=b0)&&decide (a1=b1)):=by
 have e:∀x y:Int,(x == y)=decide (x=y):=fun x y=>by by_cases h:x=y<;>simp[h]
 have e':∀x y:List UInt8,(x == y)=decide (x=y):=fun x y=>by by_cases h:x=y<;>simp[h]
 have e2:∀x y:Bool,(x == y)=decide (x=y):=fun x y=>by cases x<;>cases y<;>rfl
 simp only[kz,kN,e,e',e2,decide_true,cT]
 by_cases h0:a0=b0<;>by_cases h1:a1=b1<;>simp[h0,h1]
@[go_sem] theorem zjq {h:j8}{a0 b0:List UInt8}{a1 b1:Int}:Gr [.str,.int] E1 h (En (.agg [.str a0,.int .i64 a1])) (En (.agg [.str b0,.int .i64 b1]))=En ⟨.bool (!(decide (a0=b0)&&decide (a1=b1))),E3,E2,h⟩:=by
 show(match kz [.str,.int] [.str a0,.int .i64 a1] [.str b0,.int .i64 b1]with|some t=>val h (.bool (bif E1 then !t else t))|none=>E2)=_
 rw[j4y]
 rfl
theorem jrm {a0 b0:List UInt8}{a1 b1:Int}{a2 b2:Int}:kz [.str,.int,.int] [.str a0,.int .i64 a1,.int .i64 a2] [.str b0,.int .i64 b1,.int .i64 b2]=En (decide (a0=b0)&&decide (a1=b1)&&decide (a2=b2)):=by
 have e:∀x y:Int,(x == y)=decide (x=y):=fun x y=>by by_cases h:x=y<;>simp[h]
 have e':∀x y:List UInt8,(x == y)=decide (x=y):=fun x y=>by by_cases h:x=y<;>simp[h]
 have e2:∀x y:Bool,(x == y)=decide (x=y):=fun x y=>by cases x<;>cases y<;>rfl
 simp only[kz,kN,e,e',e2,decide_true,cT]
 by_cases h0:a0=b0<;>by_cases h1:a1=b1<;>by_cases h2:a2=b2<;>simp[h0,h1,h2]
@[go_sem] theorem zix {h:j8}{a0 b0:List UInt8}{a1 b1:Int}{a2 b2:Int}:Gr [.str,.int,.int] E1 h (En (.agg [.str a0,.int .i64 a1,.int .i64 a2])) (En (.agg [.str b0,.int .i64 b1,.int .i64 b2]))=En ⟨.bool (!(decide (a0=b0)&&decide (a1=b1)&&decide (a2=b2))),E3,E2,h⟩:=by
 show(match kz [.str,.int,.int] [.str a0,.int .i64 a1,.int .i64 a2] [.str b0,.int .i64 b1,.int .i64 b2]with|some t=>val h (.bool (bif E1 then !t else t))|none=>E2)=_
 rw[jrm]
 rfl
theorem jwy {a0 b0:List UInt8}{a1 b1:List UInt8}{a2 b2:Int}{a3 b3:Int}{a4 b4:Bool}:kz [.str,.str,.int,.int,.bool] [.str a0,.str a1,.int .i64 a2,.int .i64 a3,.bool a4] [.str b0,.str b1,.int .i64 b2,.int .i64 b3,.bool b4]=En (decide (a0=b0)&&decide (a1=b1)&&decide (a2=b2)&&decide (a3=b3)&&decide (a4=b4)):=by
 have e:∀x y:Int,(x == y)=decide (x=y):=fun x y=>by by_cases h:x=y<;>simp[h]
 have e':∀x y:List UInt8,(x == y)=decide (x=y):=fun x y=>by by_cases h:x=y<;>simp[h]
 have e2:∀x y:Bool,(x == y)=decide (x=y):=fun x y=>by cases x<;>cases y<;>rfl
 simp only[kz,kN,e,e',e2,decide_true,cT]
 by_cases h0:a0=b0<;>by_cases h1:a1=b1<;>by_cases h2:a2=b2<;>by_cases h3:a3=b3<;>by_cases h4:a4=b4<;>simp[h0,h1,h2,h3,h4]
@[go_sem] theorem zj9 {h:j8}{a0 b0:List UInt8}{a1 b1:List UInt8}{a2 b2:Int}{a3 b3:Int}{a4 b4:Bool}:Gr [.str,.str,.int,.int,.bool] E1 h (En (.agg [.str a0,.str a1,.int .i64 a2,.int .i64 a3,.bool a4])) (En (.agg [.str b0,.str b1,.int .i64 b2,.int .i64 b3,.bool b4]))=En ⟨.bool (!(decide (a0=b0)&&decide (a1=b1)&&decide (a2=b2)&&decide (a3=b3)&&decide (a4=b4))),E3,E2,h⟩:=by
 show(match kz [.str,.str,.int,.int,.bool] [.str a0,.str a1,.int .i64 a2,.int .i64 a3,.bool a4] [.str b0,.str b1,.int .i64 b2,.int .i64 b3,.bool b4]with|some t=>val h (.bool (bif E1 then !t else t))|none=>E2)=_
 rw[jwy]
 rfl
@[go_sem] theorem zfl {h0:Nat}{al:Option (List Nat)}{h:j8}{g:Fn}{a b:List qa}:gd h0 al E3 1 h (En (.ah (.fn g a b)))=En ⟨.fn g a b,E3,E2,h⟩:=rfl
def xh (h:j8)(zero:qa)(r:Option (Option (Nat×qa))):Option qq:=match r with
 |some (En (_,v))=>En ⟨.aC [v,.bool E1],E3,E2,h⟩
 |some E2=>En ⟨.aC [zero,.bool E3],E3,E2,h⟩
 |none=>E2
@[go_sem] theorem jvv {h:j8}{z v:qa}{i:Nat}:xh h z (En (En (i,v)))=En ⟨.aC [v,.bool E1],E3,E2,h⟩:=rfl
@[go_sem] theorem jv6 {h:j8}{z:qa}:xh h z (En E2)=En ⟨.aC [z,.bool E3],E3,E2,h⟩:=rfl
def Nj (h:j8)(kd:Kd)(z kv:qa)(x:Option qn):Option qq:=match x with
 |some (.map es)=>xh h z (yw kd kv es 0)
 |_=>E2
@[go_sem] theorem j2f {h:j8}{kd:Kd}{z kv:qa}{es:List (qa×qa)}:Nj h kd z kv (En (.map es))=xh h z (yw kd kv es 0):=rfl
def UZ (h0:Nat)(al:Option (List Nat))(h:j8)(kd:Kd)(z:qa)(m k:Option qa):Option qq:=match m,k with
 |some (.map b),En kv=>bR (yv h0 al b) (Nj h kd z kv h[b]?)
 |some .bM,En _=>En ⟨.aC [z,.bool E3],E3,E2,h⟩
 |_,_=>E2
@[go_sem] theorem jqq {h0:Nat}{al:Option (List Nat)}{h:j8}{kd:Kd}{z kv:qa}{b:Nat}:UZ h0 al h kd z (En (.map b)) (En kv)=bR (yv h0 al b) (Nj h kd z kv h[b]?):=rfl
@[go_sem] theorem j7u {p:qt}{xc:XC}{h0:Nat}{al:Option (List Nat)}{e:Env}{h:j8}{kd:Kd}{z:qa}{m k:qh}:za p xc h0 al e h (.lookup kd z E1 m k)=UZ h0 al h kd z (zd e m) (zd e k):=by
 simp only[za,gT,UZ]
 cases zd e m with
 |none=>cases zd e k<;>rfl
 |some v=>cases zd e k with
  |none=>cases v<;>rfl
  |some kv=>cases v with
   |map b=>
    simp only[bR,y5,Nj,xh]
    cases yv h0 al b with
    |false=>rfl
    |true=>
     simp only[cT]
     cases h[b]? with
     |none=>rfl
     |some x=>cases x with
      |map es=>
       simp only[]
       cases yw kd kv es 0 with
       |none=>rfl
       |some r=>cases r<;>rfl
      |_=>rfl
   |_=>rfl
theorem Gs {σ δ γ:Type}(n:Nat)(mk:Nat→σ)(f:σ→Option (σ⊕δ))(V:δ→γ)(r:Nat→γ)(cM:∃d,f (mk n)=En (.inr d)∧V d=r n)
  (bU:∀i,i<n→(f (mk i)=En (.inl (mk (i+1)))∧r i=r (i+1))∨(∃d,f (mk i)=En (.inr d)∧V d=r i)):∃d,bf f (mk 0)=En d∧V d=r 0:=by
 have key:∀(k i:Nat),i+k=n→∃d,bf f (mk i)=En d∧V d=r i:=by
  intro k
  induction k with
  |zero=>
   intro i hi
   have:i=n:=by omega
   subst this
   obtain⟨d,h1,h2⟩:=cM
   exact⟨d,iF h1,h2⟩
  |succ k ih=>
   intro i hi
   rcases bU i (by omega)with⟨h1,h2⟩|⟨d,h1,h2⟩
   ·rw[mL h1,h2];exact ih (i+1) (by omega)
   ·exact⟨d,iF h1,h2⟩
 exact key n 0 (by omega)
theorem U0 {α δ:Type}(l:List α)(f:Int→Option (Int⊕δ))(q:α→Bool)(V:δ→Bool)(cM:∃d,f (l.length:Int)=En (.inr d)∧V d=E1)
  (bU:∀(i:Nat) x,l[i]?=En x→i<l.length→(q x=E1∧f (i:Int)=En (.inl ((i+1:Nat):Int)))∨(q x=E3∧∃d,f (i:Int)=En (.inr d)∧V d=E3)):∃d,bf f 0=En d∧V d=l.all q:=by
 have:=Gs l.length (fun i=>(i:Int)) f V (fun i=>(l.drop i).all q) (by rw[Gp (Nat.le_refl _)];exact cM) (fun i hi=>by
  obtain⟨x,hx⟩:∃x,l[i]?=En x:=⟨_,Gl hi⟩
  simp only[oW hx,List.all_cons]
  rcases bU i x hx hi with⟨h1,h2⟩|⟨h1,h2⟩
  ·rw[h1];exact .inl ⟨h2,rfl⟩
  ·rw[h1];exact .inr h2)
 simpa using this
theorem jgm {α β:Type}(l:List α)(ix:Nat→Int)(f:Option (List β)×Int×Bool→Option ((Option (List β)×Int×Bool)⊕(Option (List β)×Bool×Int)))(h:α→List β)(a0:List β)(I:Nat→List β→Prop)(hI:I 0 a0)
  (cM:∀a,f (yp a,ix l.length,fK a)=En (.inr (yp a,fK a,ix l.length)))
  (bU:∀(i:Nat) x a,l[i]?=En x→i<l.length→I i a→I (i+1) (a++h x)∧f (yp a,ix i,fK a)=En (.inl (yp (a++h x),ix (i+1),fK (a++h x)))):
  bf f (yp a0,ix 0,fK a0)=En (yp (a0++l.flatMap h),fK (a0++l.flatMap h),ix l.length):=by
 have key:∀(k i:Nat),i+k=l.length→∀a,I i a→bf f (yp a,ix i,fK a)=En (yp (a++(l.drop i).flatMap h),fK (a++(l.drop i).flatMap h),ix l.length):=by
  intro k
  induction k with
  |zero=>
   intro i hi a _
   have:i=l.length:=by omega
   subst this
   rw[Gp (Nat.le_refl _),List.flatMap_nil,List.append_nil,iF (cM a)]
  |succ k ih=>
   intro i hi a ha
   obtain⟨x,hx⟩:∃x,l[i]?=En x:=⟨_,Gl (by omega)⟩
   obtain⟨h1,h2⟩:=bU i x a hx (by omega) ha
   rw[mL h2,ih (i+1) (by omega) _ h1,oW hx,G2,List.append_assoc]
 have:=key l.length 0 (by omega) a0 hI
 rwa [List.drop_zero]at this
theorem qv7 {α:Type}{a:List α}{x:α}(h:a.length<1073741824):bg (yp a) [x]=En (yp (a++[x])):=by
 unfold bg
 cases a with
 |nil=>rfl
 |cons y a=>
  have:((yp (y::a)).getD []).length + [x].length≤1073741824:=by simp[yp]at h ⊢;omega
  rw[if_pos this];rfl
theorem vw {α γ:Type}{a:List α}{x:α}{k:Option (List α)→Option γ}(h:a.length<1073741824):cond (fK a) (jx (bg (yp a) [x]) k) (cond (yp a).isNone (jx (bg (yp a) [x]) k) E2)=k (yp (a++[x])):=by
 rw[qv7 h]
 cases a<;>rfl
theorem kj {α:Type}(a:List α):(yp a).getD []=a:=by cases a<;>rfl
theorem Nk {α β:Type}(h:α→β):∀l:List α,l.flatMap (fun x=>[h x])=l.map h
 | []=>rfl
 |x::l=>by rw[G2,Nk h l];rfl
theorem z7 {α:Type}{l:List α}{i:Nat}{x:α}(hx:l[i]?=En x):zp l (i:Int)=En x:=by rw[jik,hx]
theorem eV {α:Type}{l:List α}{i:Nat}(h:i<l.length):decide ((i:Int)<(l.length:Int))=E1:=dT (by omega)
theorem kr {n:Nat}:decide ((n:Int)<(n:Int))=E3:=dF (by omega)
end Go.Z
namespace Go.Z
open Go Go.Abs Go.W
def ik:List (List UInt8×List UInt8×Int×Nat):=[(lU,[45,45],2,105),(mM,[45],1,106),(lV,[112,45],2,107),(mN,[112,45],3,108),(oX,[112],1,109),(n9,[45,112],1,110),(lW,[117,108],2,111),(oc,[117,45],2,112),(oY,[117],1,113),(mO,[117,117],1,114),(nE,[108],1,115),(qH,[108],1,116),(jW,[117],1,117),(xi,[117],1,118),(lX,[],0,0)]
def fnv (k:Nat):qa:=bif Nat.beq k 0 then .bX else .fn (.func k) [] []
def od (x:List UInt8):Option (List UInt8×List UInt8×Int×Nat):=ik.find? fun f=>decide (x=f.1)
def yt (x:List UInt8):List UInt8:=match od x with
 |some f=>f.2.1
 |none=>[]
def mP (x:List UInt8):Int:=match od x with
 |some f=>f.2.2.1
 |none=>0
def lz (x:List UInt8):qa:=match od x with
 |some f=>fnv f.2.2.2
 |none=>.bX
def DE (x:List UInt8):Bool:=(od x).isSome
theorem qyf:ya=ik.map fun f=>(.str f.1,.agg [.str f.2.1,.int .i64 f.2.2.1,fnv f.2.2.2]):=rfl
theorem U1 (x:List UInt8)(h:j8):∀(l:List (List UInt8×List UInt8×Int×Nat)) (n:Nat),yw .str (.str x) (l.map fun f=>(.str f.1,.agg [.str f.2.1,.int .i64 f.2.2.1,fnv f.2.2.2])) n=En E2∧l.find? (fun f=>decide (x=f.1))=E2∨∃i f,yw .str (.str x) (l.map fun f=>(.str f.1,.agg [.str f.2.1,.int .i64 f.2.2.1,fnv f.2.2.2])) n=En (En (i,.agg [.str f.2.1,.int .i64 f.2.2.1,fnv f.2.2.2]))∧l.find? (fun f=>decide (x=f.1))=En f
 | [],n=>.inl ⟨rfl,rfl⟩
 |f::l,n=>by
  have he:kN .str (.str x) (.str f.1)=En (decide (x=f.1)):=by
   show En (x == f.1)=_
   by_cases hx:x=f.1<;>simp[hx]
  by_cases hx:x=f.1
  ·refine .inr ⟨n,f,?_,?_⟩
   ·simp only[E6,yw,he,dT hx]
   ·simp[E4,hx]
  ·rcases U1 x h l (n+1)with⟨h1,h2⟩|⟨i,g,h1,h2⟩
   ·exact .inl ⟨by simp only[E6,yw,he,hx,decide_false];exact h1,by simp only[E4,hx,decide_false];exact h2⟩
   ·exact .inr ⟨i,g,by simp only[E6,yw,he,hx,decide_false];exact h1,by simp only[E4,hx,decide_false];exact h2⟩
@[go_sem] theorem zbc {h:j8}{g:Fn}{a b:List qa}:uw E3 h (En (.fn g a b))=En ⟨.ah (.fn g a b),E3,E2,h⟩:=rfl
@[go_sem] theorem zjz:pr.maps 50=En ya:=rfl
theorem jnh {h:j8}(x:List UInt8):xh h (.agg [.str [],.int .i64 0,.bX]) (yw .str (.str x) ya 0)=En ⟨.aC [.agg [.str (yt x),.int .i64 (mP x),lz x],.bool (DE x)],E3,E2,h⟩:=by
 rw[qyf]
 rcases U1 x h ik 0 with⟨h1,h2⟩|⟨i,f,h1,h2⟩
 ·rw[h1];simp only[xh,yt,mP,lz,DE,od,h2];rfl
 ·rw[h1];simp only[xh,yt,mP,lz,DE,od,h2];rfl
theorem Nn {h:j8}(x:List UInt8):vr h (.agg [.str [],.int .i64 0,.bX]) (yw .str (.str x) ya 0)=En ⟨.agg [.str (yt x),.int .i64 (mP x),lz x],E3,E2,h⟩:=by
 rw[qyf]
 rcases U1 x h ik 0 with⟨h1,h2⟩|⟨i,f,h1,h2⟩
 ·rw[h1];simp only[vr,yt,mP,lz,od,h2];rfl
 ·rw[h1];simp only[vr,yt,mP,lz,od,h2];rfl
@[go_sem] theorem ziv {x:List UInt8}:ze (lz x)=E1:=by
 unfold lz
 split
 ·rename_i f _;simp only[fnv];cases Nat.beq f.2.2.2 0<;>rfl
 ·rfl
def eg (l:List (List UInt8×Int)):List (qa×qa):=l.map fun p=>(.str p.1,.int .i64 p.2)
def lY (l:List (List UInt8×Int))(k:List UInt8):Int:=match l.find? fun p=>decide (k=p.1)with
 |some p=>p.2
 |none=>0
def jX:List (List UInt8×Int)→List UInt8→Int→List (List UInt8×Int)
 | [],k,v=>[(k,v)]
 |p::l,k,v=>if k=p.1 then(p.1,v)::l else p::jX l k v
def Np (l:List (List UInt8×Int))(k:List UInt8)(v:Int):Option (List (List UInt8×Int)):=if l.length≤1073741824 then En (jX l k v)else E2
theorem U2 {k s:List UInt8}:kN .str (.str k) (.str s)=En (decide (k=s)):=by
 show En (k == s)=_
 by_cases hx:k=s<;>simp[hx]
theorem U3 (k:List UInt8):∀(l:List (List UInt8×Int)) (n:Nat),(yw .str (.str k) (eg l) n=En E2∧l.find? (fun p=>decide (k=p.1))=E2∧∀v,eg (jX l k v)=eg l++[(.str k,.int .i64 v)])∨∃i p,yw .str (.str k) (eg l) n=En (En (n+i,.int .i64 p.2))∧l.find? (fun p=>decide (k=p.1))=En p∧∀v,eg (jX l k v)=px (eg l) i (.int .i64 v)
 | [],n=>.inl ⟨rfl,rfl,fun _=>rfl⟩
 |p::l,n=>by
  by_cases hx:k=p.1
  ·refine .inr ⟨0,p,?_,?_,fun v=>?_⟩
   ·simp only[eg,E6,yw,U2,dT hx];rfl
   ·simp[E4,hx]
   ·simp only[jX,if_pos hx];rfl
  ·rcases U3 k l (n+1)with⟨h1,h2,h3⟩|⟨i,q,h1,h2,h3⟩
   ·refine .inl ⟨?_,?_,fun v=>?_⟩
    ·simp only[eg,E6,yw,U2,dF hx];exact h1
    ·simp only[E4,dF hx];exact h2
    ·simp only[jX,if_neg hx]
     show _::eg (jX l k v)=_
     rw[h3];rfl
   ·refine .inr ⟨i+1,q,?_,?_,fun v=>?_⟩
    ·simp only[eg,E6,yw,U2,dF hx]
     rw[show n+(i+1)=n+1+i by omega];exact h1
    ·simp only[E4,dF hx];exact h2
    ·simp only[jX,if_neg hx]
     show _::eg (jX l k v)=_
     rw[h3];rfl
theorem jkn {h:j8}{l:List (List UInt8×Int)}{k:List UInt8}:vr h (.int .i64 0) (yw .str (.str k) (eg l) 0)=En ⟨.int .i64 (lY l k),E3,E2,h⟩:=by
 unfold lY
 rcases U3 k l 0 with⟨h1,h2,_⟩|⟨i,p,h1,h2,_⟩<;>rw[h1,h2]<;>rfl
theorem jpf {h:j8}{b:Nat}{l v:List (List UInt8×Int)}{k:List UInt8}{n:Int}(hv:Np l k n=En v):DA h b (eg l) (.str k) (.int .i64 n) (yw .str (.str k) (eg l) 0)=gP (yj h b (.map (eg v))) .undef:=by
 unfold Np at hv
 split at hv
 ·rename_i hl
  cases hv
  rcases U3 k l 0 with⟨h1,h2,h3⟩|⟨i,p,h1,h2,h3⟩
  ·rw[h1,h3]
   have:Nat.ble (eg l).length 1073741824=E1:=Nat.ble_eq_true_of_le (by rw[eg,Gn];exact hl)
   simp only[DA,this,bR,cT]
  ·rw[h1,h3,Nat.zero_add];rfl
 ·cases hv
theorem jet {l:List (List UInt8×Int)}{k k':List UInt8}{v:Int}:lY (jX l k v) k'=if k'=k then v else lY l k':=by
 induction l with
 |nil=>by_cases h:k'=k<;>simp[jX,lY,E4,h]
 |cons p l ih=>
  unfold lY at ih ⊢
  by_cases hk:k=p.1
  ·by_cases h:k'=k
   ·subst h;simp[jX,E4,←hk]
   ·have h2:¬k'=p.1:=by rw[←hk];exact h
    simp[jX,E4,hk,h2]
  ·by_cases h2:k'=p.1
   ·have h3:¬k'=k:=by rw[h2];exact fun h=>hk h.symm
    have h4:¬p.1=k:=fun h=>hk h.symm
    simp[jX,E4,hk,h2,h4]
   ·simp only[jX,if_neg hk,E4,dF h2]
    exact ih
@[go_sem] theorem j8d {h0:Nat}{al:Option (List Nat)}{h:j8}{b:Nat}:gd h0 al E3 1 h (En (.ah (.map b)))=En ⟨.map b,E3,E2,h⟩:=rfl
@[go_sem] theorem q9c {n:Nat}{l:List (List UInt8×Int)}:tQ n (eg l)=E1:=by
 induction l with
 |nil=>rfl
 |cons p l ih=>simp only[eg,E6,tQ,below,Bool.true_and];exact ih
@[go_sem] theorem jn0 {n:Nat}{l:List (List UInt8×Int)}:oG n (.map (eg l))=E1:=q9c
end Go.Z
