/- The structs of chapter 10 and their cells; what they are in plain lists. -/
import Derived.Test.YtfopaakmgogpiaaGreatDoorG0
import Derived.Test.YtfopaakmgogpiaaGreatDoorWS
set_option linter.unusedVariables false
set_option linter.unusedSimpArgs false
set_option maxRecDepth 100000
open Option renaming some→Eh,none→En,getD_some→Gk
open Bool renaming true→Ek,false→Eo,and_eq_true→Gi
open List renaming find?→Ep,map_cons→Eu,getElem?_eq_getElem→Ev,getElem?_eq_none_iff→Ga,length_nil→Gb,length_map→Gc,drop_eq_nil_of_le→Ge,flatMap_cons→Gh
open Nat renaming blt→Gf
namespace Go.Z
open Go Go.Abs Go.W
def aV (p:qk):qa:=.agg [.str p.k,.int .i64 p.n]
@[go_sem] theorem zjb {p}:(aV p).flat=[.str p.k,.int .i64 p.n]:=rfl
@[go_sem] theorem jcv {n}(p:qk):below n (aV p)=Ek:=by rfl
@[go_sem] theorem j58 {n z l}:below n (sl z aV l)=Ek:=u0 jcv
@[go_sem] theorem zb0 {p}:qa.ah (aV p)=.ah (.agg [.str p.k,.int .i64 p.n]):=rfl
theorem jb3 {b t h bb p o v}(hv:bj o [p]=Eh v):bE 2 b h (Eh t) (Eh (sl 2 aV o)) (Eh (.list bb 2 [.agg [.str p.k,.int .i64 p.n]]))=bT (decide (b≤4096)) (Eh ⟨sl 2 aV v,Ek,Eh t,h⟩):=vh (x:=p) (by omega) rfl hv
theorem jcq {b h bb p o v}(hv:bj o [p]=Eh v)(hn:o.isNone=Ek):bE 2 b h En (Eh (sl 2 aV o)) (Eh (.list bb 2 [.agg [.str p.k,.int .i64 p.n]]))=bT (decide (b≤4096)) (Eh ⟨sl 2 aV v,Ek,En,h⟩):=rD (x:=p) (by omega) rfl hn hv
def zx (p:qj):qa:=.agg [.str p.k,.int .i64 p.a,.int .i64 p.b]
@[go_sem] theorem zat {p}:(zx p).flat=[.str p.k,.int .i64 p.a,.int .i64 p.b]:=rfl
@[go_sem] theorem q89 {n}(p:qj):below n (zx p)=Ek:=by rfl
@[go_sem] theorem jxo {n z l}:below n (sl z zx l)=Ek:=u0 q89
@[go_sem] theorem jed {p}:qa.ah (zx p)=.ah (.agg [.str p.k,.int .i64 p.a,.int .i64 p.b]):=rfl
theorem jaw {b t h bb p o v}(hv:bj o [p]=Eh v):bE 3 b h (Eh t) (Eh (sl 3 zx o)) (Eh (.list bb 3 [.agg [.str p.k,.int .i64 p.a,.int .i64 p.b]]))=bT (decide (b≤4096)) (Eh ⟨sl 3 zx v,Ek,Eh t,h⟩):=vh (x:=p) (by omega) rfl hv
theorem jar {b h bb p o v}(hv:bj o [p]=Eh v)(hn:o.isNone=Ek):bE 3 b h En (Eh (sl 3 zx o)) (Eh (.list bb 3 [.agg [.str p.k,.int .i64 p.a,.int .i64 p.b]]))=bT (decide (b≤4096)) (Eh ⟨sl 3 zx v,Ek,En,h⟩):=rD (x:=p) (by omega) rfl hn hv
def zw (p:qm):qa:=.agg [.str p.name,.str p.kind,.int .i64 p.count,.int .i64 p.left,.bool p.held]
@[go_sem] theorem zak {p}:(zw p).flat=[.str p.name,.str p.kind,.int .i64 p.count,.int .i64 p.left,.bool p.held]:=rfl
@[go_sem] theorem jap {n}(p:qm):below n (zw p)=Ek:=by rfl
@[go_sem] theorem jxw {n z l}:below n (sl z zw l)=Ek:=u0 jap
@[go_sem] theorem q0s {p}:qa.ah (zw p)=.ah (.agg [.str p.name,.str p.kind,.int .i64 p.count,.int .i64 p.left,.bool p.held]):=rfl
theorem qyq {b t h bb p o v}(hv:bj o [p]=Eh v):bE 5 b h (Eh t) (Eh (sl 5 zw o)) (Eh (.list bb 5 [.agg [.str p.name,.str p.kind,.int .i64 p.count,.int .i64 p.left,.bool p.held]]))=bT (decide (b≤4096)) (Eh ⟨sl 5 zw v,Ek,Eh t,h⟩):=vh (x:=p) (by omega) rfl hv
theorem qx8 {b h bb p o v}(hv:bj o [p]=Eh v)(hn:o.isNone=Ek):bE 5 b h En (Eh (sl 5 zw o)) (Eh (.list bb 5 [.agg [.str p.name,.str p.kind,.int .i64 p.count,.int .i64 p.left,.bool p.held]]))=bT (decide (b≤4096)) (Eh ⟨sl 5 zw v,Ek,En,h⟩):=rD (x:=p) (by omega) rfl hn hv
structure qt where
 aI:Option (List qk)
 aH:Option (List qj)
def db (p:qt):qa:=.agg [sl 2 aV p.aI,sl 3 zx p.aH]
@[go_sem] theorem j8y {p}:(db p).flat=[sl 2 aV p.aI,sl 3 zx p.aH]:=rfl
@[go_sem] theorem q9s {n}(p:qt):below n (db p)=Ek:=by simp only[db,go_sem]
@[go_sem] theorem jx1 {n z l}:below n (sl z db l)=Ek:=u0 q9s
@[go_sem] theorem j81 {p}:qa.ah (db p)=.ah (.agg [sl 2 aV p.aI,sl 3 zx p.aH]):=rfl
theorem q8g {b t h bb p o v}(hv:bj o [p]=Eh v):bE 2 b h (Eh t) (Eh (sl 2 db o)) (Eh (.list bb 2 [.agg [sl 2 aV p.aI,sl 3 zx p.aH]]))=bT (decide (b≤4096)) (Eh ⟨sl 2 db v,Ek,Eh t,h⟩):=vh (x:=p) (by omega) rfl hv
theorem q8p {b h bb p o v}(hv:bj o [p]=Eh v)(hn:o.isNone=Ek):bE 2 b h En (Eh (sl 2 db o)) (Eh (.list bb 2 [.agg [sl 2 aV p.aI,sl 3 zx p.aH]]))=bT (decide (b≤4096)) (Eh ⟨sl 2 db v,Ek,En,h⟩):=rD (x:=p) (by omega) rfl hn hv
structure qq where
 name:List UInt8
 dn:Option (List qk)
 dt:Option (List qj)
 aO:Option (List qt)
def zm (p:qq):qa:=.agg [.str p.name,sl 2 aV p.dn,sl 3 zx p.dt,sl 2 db p.aO]
@[go_sem] theorem ja2 {p}:(zm p).flat=[.str p.name,sl 2 aV p.dn,sl 3 zx p.dt,sl 2 db p.aO]:=rfl
@[go_sem] theorem q6u {n}(p:qq):below n (zm p)=Ek:=by simp only[zm,go_sem]
@[go_sem] theorem jsa {n z l}:below n (sl z zm l)=Ek:=u0 q6u
@[go_sem] theorem j5y {p}:qa.ah (zm p)=.ah (.agg [.str p.name,sl 2 aV p.dn,sl 3 zx p.dt,sl 2 db p.aO]):=rfl
theorem q7a {b t h bb p o v}(hv:bj o [p]=Eh v):bE 4 b h (Eh t) (Eh (sl 4 zm o)) (Eh (.list bb 4 [.agg [.str p.name,sl 2 aV p.dn,sl 3 zx p.dt,sl 2 db p.aO]]))=bT (decide (b≤4096)) (Eh ⟨sl 4 zm v,Ek,Eh t,h⟩):=vh (x:=p) (by omega) rfl hv
theorem q63 {b h bb p o v}(hv:bj o [p]=Eh v)(hn:o.isNone=Ek):bE 4 b h En (Eh (sl 4 zm o)) (Eh (.list bb 4 [.agg [.str p.name,sl 2 aV p.dn,sl 3 zx p.dt,sl 2 db p.aO]]))=bT (decide (b≤4096)) (Eh ⟨sl 4 zm v,Ek,En,h⟩):=rD (x:=p) (by omega) rfl hn hv
structure qf where
 name:List UInt8
 product:List UInt8
 version:Int
 uses:Option (List qk)
 results:Option (List qj)
 partner:List UInt8
 aq:Bool
 aj:Int
def aQ (p:qf):qa:=.agg [.str p.name,.str p.product,.int .i64 p.version,sl 2 aV p.uses,sl 3 zx p.results,.str p.partner,.bool p.aq,.int .i64 p.aj]
@[go_sem] theorem jiw {p}:(aQ p).flat=[.str p.name,.str p.product,.int .i64 p.version,sl 2 aV p.uses,sl 3 zx p.results,.str p.partner,.bool p.aq,.int .i64 p.aj]:=rfl
@[go_sem] theorem jcd {n}(p:qf):below n (aQ p)=Ek:=by simp only[aQ,go_sem]
@[go_sem] theorem j8j {n z l}:below n (sl z aQ l)=Ek:=u0 jcd
@[go_sem] theorem zje {p}:qa.ah (aQ p)=.ah (.agg [.str p.name,.str p.product,.int .i64 p.version,sl 2 aV p.uses,sl 3 zx p.results,.str p.partner,.bool p.aq,.int .i64 p.aj]):=rfl
theorem jci {b t h bb p o v}(hv:bj o [p]=Eh v):bE 8 b h (Eh t) (Eh (sl 8 aQ o)) (Eh (.list bb 8 [.agg [.str p.name,.str p.product,.int .i64 p.version,sl 2 aV p.uses,sl 3 zx p.results,.str p.partner,.bool p.aq,.int .i64 p.aj]]))=bT (decide (b≤4096)) (Eh ⟨sl 8 aQ v,Ek,Eh t,h⟩):=vh (x:=p) (by omega) rfl hv
theorem jda {b h bb p o v}(hv:bj o [p]=Eh v)(hn:o.isNone=Ek):bE 8 b h En (Eh (sl 8 aQ o)) (Eh (.list bb 8 [.agg [.str p.name,.str p.product,.int .i64 p.version,sl 2 aV p.uses,sl 3 zx p.results,.str p.partner,.bool p.aq,.int .i64 p.aj]]))=bT (decide (b≤4096)) (Eh ⟨sl 8 aQ v,Ek,En,h⟩):=rD (x:=p) (by omega) rfl hn hv
structure qc where
 day:Int
 ar:Option (List qm)
 ae:Option (List qq)
 units:Option (List qf)
def y9 (p:qc):qa:=.agg [.int .i64 p.day,sl 5 zw p.ar,sl 4 zm p.ae,sl 8 aQ p.units]
@[go_sem] theorem j9x {p}:(y9 p).flat=[.int .i64 p.day,sl 5 zw p.ar,sl 4 zm p.ae,sl 8 aQ p.units]:=rfl
@[go_sem] theorem jah {n}(p:qc):below n (y9 p)=Ek:=by simp only[y9,go_sem]
@[go_sem] theorem jxn {n z l}:below n (sl z y9 l)=Ek:=u0 jah
@[go_sem] theorem j9n {p}:qa.ah (y9 p)=.ah (.agg [.int .i64 p.day,sl 5 zw p.ar,sl 4 zm p.ae,sl 8 aQ p.units]):=rfl
theorem jbn {b t h bb p o v}(hv:bj o [p]=Eh v):bE 4 b h (Eh t) (Eh (sl 4 y9 o)) (Eh (.list bb 4 [.agg [.int .i64 p.day,sl 5 zw p.ar,sl 4 zm p.ae,sl 8 aQ p.units]]))=bT (decide (b≤4096)) (Eh ⟨sl 4 y9 v,Ek,Eh t,h⟩):=vh (x:=p) (by omega) rfl hv
theorem q84 {b h bb p o v}(hv:bj o [p]=Eh v)(hn:o.isNone=Ek):bE 4 b h En (Eh (sl 4 y9 o)) (Eh (.list bb 4 [.agg [.int .i64 p.day,sl 5 zw p.ar,sl 4 zm p.ae,sl 8 aQ p.units]]))=bT (decide (b≤4096)) (Eh ⟨sl 4 y9 v,Ek,En,h⟩):=rD (x:=p) (by omega) rfl hn hv
structure ql where
 number:Int
 kind:List UInt8
 names:Option (List (List UInt8))
 values:Option (List Int)
 text:List UInt8
def vev (p:ql):qa:=.agg [.int .i64 p.number,.str p.kind,sl 1 zk p.names,sl 1 kh p.values,.str p.text]
@[go_sem] theorem zgj {p}:(vev p).flat=[.int .i64 p.number,.str p.kind,sl 1 zk p.names,sl 1 kh p.values,.str p.text]:=rfl
@[go_sem] theorem jdt {n}(p:ql):below n (vev p)=Ek:=by simp only[vev,go_sem]
@[go_sem] theorem j43 {n z l}:below n (sl z vev l)=Ek:=u0 jdt
@[go_sem] theorem zhp {p}:qa.ah (vev p)=.ah (.agg [.int .i64 p.number,.str p.kind,sl 1 zk p.names,sl 1 kh p.values,.str p.text]):=rfl
theorem jcy {b t h bb p o v}(hv:bj o [p]=Eh v):bE 5 b h (Eh t) (Eh (sl 5 vev o)) (Eh (.list bb 5 [.agg [.int .i64 p.number,.str p.kind,sl 1 zk p.names,sl 1 kh p.values,.str p.text]]))=bT (decide (b≤4096)) (Eh ⟨sl 5 vev v,Ek,Eh t,h⟩):=vh (x:=p) (by omega) rfl hv
theorem jea {b h bb p o v}(hv:bj o [p]=Eh v)(hn:o.isNone=Ek):bE 5 b h En (Eh (sl 5 vev o)) (Eh (.list bb 5 [.agg [.int .i64 p.number,.str p.kind,sl 1 zk p.names,sl 1 kh p.values,.str p.text]]))=bT (decide (b≤4096)) (Eh ⟨sl 5 vev v,Ek,En,h⟩):=rD (x:=p) (by omega) rfl hn hv
def qt.er (d:qt):jm:=⟨d.aI.getD [],d.aH.getD []⟩
def qq.er (p:qq):jj:=⟨p.name,⟨p.dn.getD [],p.dt.getD []⟩,(p.aO.getD []).map qt.er⟩
def qf.er (u:qf):qz:=⟨u.name,u.product,u.version,u.uses.getD [],u.results.getD [],u.partner,u.aq,u.aj⟩
def qc.er (r:qc):qu:=⟨r.day,r.ar.getD [],(r.ae.getD []).map qq.er,(r.units.getD []).map qf.er⟩
def ql.er (e:ql):je:=⟨e.number,e.kind,e.names.getD [],e.values.getD [],e.text⟩
end Go.Z
namespace Go.Z
open Go Go.Abs Go.W
theorem Wx {hh}:∀ {xs:List qa},zr 0 xs=Ek→lu hh xs=Eh xs
 | [],_=>rfl
 |x::xs,h=>by
  simp only[zr,Gi]at h
  have hx:iH hh x=Eh x:=by
   cases x with
   |ms b o n=>simp[Abs.below,Gf]at h
   |au b o n=>simp[Abs.below,Gf]at h
   |_=>rfl
  simp only[lu,hx,Wx h.2]
theorem qsh {hh}:∀ {xs:List qa},zr 0 xs=Ek→az.bm hh xs=Eh xs
 | [],_=>rfl
 |x::xs,h=>by
  simp only[zr,Gi]at h
  have ih:=qsh (hh:=hh) h.2
  cases x with
  |agg cs=>
   have h1:=h.1
   simp only[Abs.below]at h1
   simp only[az.bm,Wx h1,ih]
  |ms b o n=>simp[Abs.below,Gf]at h
  |au b o n=>simp[Abs.below,Gf]at h
  |_=>simp only[az.bm,iH,ih]
theorem qrf {hh x}(h:Abs.below 0 x=Ek):az hh x=Eh x:=by
 cases x with
 |agg cs=>
  simp only[Abs.below]at h
  simp only[az,Wx h]
 |ay vs=>
  simp only[Abs.below]at h
  simp only[az,qsh h]
 |ms b o n=>simp[Abs.below,Gf]at h
 |au b o n=>simp[Abs.below,Gf]at h
 |_=>rfl
theorem yz {p k}(f:qd){args v}(hc:∃hh,EM f.results (X p f.body ⟨ot 0 args,[]⟩)=some (v,false,hh))(hp:p.cn k=none:=by rfl)(hf:p.bB k=some f:=by rfl)(hl:Nat.ble args.length f.ntmps=true:=by rfl)(hv:below 0 v=true:=by first|rfl|simp only[go_sem,seval]):jy p (X p) k args=some (v,false):=by
 obtain⟨hh,hc⟩:=hc
 cases f with
 |mk n b r=>exact kr hp (by rw[zf hf (Nat.le_of_ble_eq_true hl)];exact hc) (qrf hv) hv
theorem eh {p k}(f:qd){args v o}(hc:∃hh,EM f.results (X p f.body ⟨ot 0 args,[]⟩)=some (v,o,hh))(hp:p.cn k=none:=by rfl)(hf:p.bB k=some f:=by rfl)(hn:Nat.ble args.length f.ntmps=true:=by rfl)(hv:below 0 v=true:=by first|rfl|simp only[go_sem,seval])(hl:v.ct=true:=by first|rfl|simp only[go_sem,seval]):jy p (X p) k args=some (v,o):=by
 obtain⟨hh,hc⟩:=hc
 cases f with
 |mk n b r=>exact qzw hp (by rw[zf hf (Nat.le_of_ble_eq_true hn)];exact hc) (qrf hv) hv hl
theorem yl {σ δ:Type}{p:qr}{c:qe}{St:σ→qg}{Ex:δ→qi×qg}{s s':σ}(h:X p c (St s)=some (.normal,St s'))(hl:(St s').heap.length≤(St s).heap.length:=by exact Nat.le_refl _):yr p c St Ex s (.inl s'):=kN h (lj hl)
theorem q72 {σ δ:Type}{p:qr}{c:qe}{St:σ→qg}{Ex:δ→qi×qg}{s s':σ}(h:∃t,X p c (St s)=Eh (.normal,⟨(St s').env,(St s').heap++t⟩))(hn:(St s).heap.length=(St s').heap.length)(h1:mK (St s).heap.length (St s').env=Ek)(h2:ko (St s).heap.length (St s').heap=Ek):yr p c St Ex s (.inl s'):=by
 obtain⟨t,h⟩:=h
 exact kN h (jm0 hn rfl h1 h2)
theorem hH {α:Type}{z:Nat}{f:α→qa}{l:List α}:sl z f (Eh l)=.list Eo z (l.map f):=rfl
theorem y7 {α:Type}{z:Nat}{f:α→qa}:sl z f En=.list Ek 0 []:=rfl
abbrev Iv (n:Int):qa:=.int .i64 n
abbrev Lv {α:Type}(o:Option (List α)):qa:=.int .i64 ((o.getD []).length:Int)
abbrev Nl:qa:=.list Ek 0 []
abbrev aE (e:ql):qa:=.agg [.int .i64 e.number,.str e.kind,sl 1 zk e.names,sl 1 kh e.values,.str e.text]
abbrev aR (r:qc):qa:=.agg [.int .i64 r.day,sl 5 zw r.ar,sl 4 zm r.ae,sl 8 aQ r.units]
abbrev aU (u:qf):qa:=.agg [.str u.name,.str u.product,.int .i64 u.version,sl 2 aV u.uses,sl 3 zx u.results,.str u.partner,.bool u.aq,.int .i64 u.aj]
abbrev aL (l:qm):qa:=.agg [.str l.name,.str l.kind,.int .i64 l.count,.int .i64 l.left,.bool l.held]
abbrev aP (p:qq):qa:=.agg [.str p.name,sl 2 aV p.dn,sl 3 zx p.dt,sl 2 db p.aO]
abbrev aD (d:qt):qa:=.agg [sl 2 aV d.aI,sl 3 zx d.aH]
abbrev aT (x:qj):qa:=.agg [.str x.k,.int .i64 x.a,.int .i64 x.b]
abbrev aN (x:qk):qa:=.agg [.str x.k,.int .i64 x.n]
abbrev aG (a:Int)(b:Option (List qm))(c:Option (List qq))(d:Option (List qf)):qa:=.agg [.int .i64 a,sl 5 zw b,sl 4 zm c,sl 8 aQ d]
abbrev kS (a:Int)(b:Option (List qm))(o1:Bool)(c:Option (List qq))(o2:Bool)(d:Option (List qf))(o3:Bool):qn:=.cells [(.int .i64 a,Eo),(sl 5 zw b,o1),(sl 4 zm c,o2),(sl 8 aQ d,o3)]
abbrev kR (a:Int)(b:Option (List qm))(c:Option (List qq))(d:Option (List qf)):qn:=.cells [(.int .i64 a,Eo),(sl 5 zw b,Eo),(sl 4 zm c,Eo),(sl 8 aQ d,Eo)]
abbrev kO:qn:=.cells [(Nl,Eo),(Nl,Eo),(Nl,Eo)]
abbrev bR:qn:=.cells [(Nl,Eo),(Nl,Eo),(.au 5 0 1,Eo)]
abbrev kZ:qn:=.cells [(.int .i64 0,Eo),(Nl,Eo),(Nl,Eo),(Nl,Eo)]
abbrev aZ:qa:=.agg [.int .i64 0,Nl,Nl,Nl]
def om {α β:Type}(o:Option α)(f:α→β):Option β:=match o with
 |some x=>Eh (f x)
 |none=>En
@[go_sem] theorem zmp {α β:Type}{x:α}{f:α→β}:om (Eh x) f=Eh (f x):=rfl
theorem zj {h:za}{α:Type}{z:Nat}{f:α→qa}{l k i}:jS z h (Eh (sl z f l)) (Eh (.int k i))=om (zn (l.getD []) i) fun x=>⟨.ah (f x),Eo,En,h⟩:=by
 cases hx:zn (l.getD []) i with
 |some x=>exact yx hx
 |none=>
  have hi:uZ (l.getD []).length i=En:=by
   unfold zn at hx
   unfold uZ
   by_cases h0:0≤i
   ·rw[if_pos h0]at hx
    rw[if_neg]
    intro hc
    have:=Ga.1 hx
    omega
   ·rw[if_neg (fun hc=>h0 hc.1)]
  cases l with
  |none=>simp only[sl,jS,xW,Option.getD_none,Gb]at hi ⊢;rw[hi];simp[om]
  |some l=>simp only[sl,jS,xW,Gk,Gc]at hi ⊢;rw[hi];simp[om]
theorem q47 {h s k i}:A4 h (Eh (.str s)) (Eh (.int k i))=om (zn s i) fun c=>⟨.int .u8 (c.toNat:Int),Eo,En,h⟩:=by
 cases hx:zn s i with
 |some x=>exact jjx hx
 |none=>
  have hi:uZ s.length i=En:=by
   unfold zn at hx
   unfold uZ
   by_cases h0:0≤i
   ·rw[if_pos h0]at hx
    rw[if_neg]
    intro hc
    have:=Ga.1 hx
    omega
   ·rw[if_neg (fun hc=>h0 hc.1)]
  simp only[A4,xW,hi,om]
theorem xY {h b pos s}:vf h b (Eh (.iter s pos))=cond (decide (pos<s.length)) (fP (yh h b (.iter s (pos+(zg s pos).2))) (.ay [.bool Ek,.int .i64 pos,.int .i32 (zg s pos).1])) (Eh ⟨.ay [.bool Eo],Eo,En,h⟩):=by
 cases hx:decide (pos<s.length)with
 |true=>exact ju1 hx
 |false=>exact jr7 hx
theorem lN {h:za}{α:Type}{z b t:Nat}{f:α→qa}{o2}:bE (z+1) b h (Eh t) (Eh (.list Eo (z+1) [])) (Eh (sl (z+1) f o2))=bT (decide (b≤4096)) (om (bj (Eh []) (o2.getD [])) fun v=>⟨sl (z+1) f v,Ek,Eh t,h⟩):=by
 cases hx:bj (Eh []) (o2.getD [])with
 |some x=>exact jdr hx
 |none=>
  unfold bj at hx
  split at hx
  ·cases hx
  rename_i hl
  simp only[Gk,Gb]at hl
  simp only[bE,bE.gR,Wa,Gb,Gc,nf,dF hl,om]
  cases decide (b≤4096)<;>simp[bT]
theorem A7 {p o v}(hv:bj o [p]=Eh v):(∀ {b t:Nat} {h:za} {bb:Bool},bE 2 b h (Eh t) (Eh (sl 2 aV o)) (Eh (.list bb 2 [.agg [.str p.k,.int .i64 p.n]]))=bT (decide (b≤4096)) (Eh ⟨sl 2 aV v,Ek,Eh t,h⟩))∧(∀ {b:Nat} {h:za} {bb:Bool},o.isNone=Ek→bE 2 b h En (Eh (sl 2 aV o)) (Eh (.list bb 2 [.agg [.str p.k,.int .i64 p.n]]))=bT (decide (b≤4096)) (Eh ⟨sl 2 aV v,Ek,En,h⟩)):=⟨jb3 hv,jcq hv⟩
theorem ES {p o v}(hv:bj o [p]=Eh v):(∀ {b t:Nat} {h:za} {bb:Bool},bE 3 b h (Eh t) (Eh (sl 3 zx o)) (Eh (.list bb 3 [.agg [.str p.k,.int .i64 p.a,.int .i64 p.b]]))=bT (decide (b≤4096)) (Eh ⟨sl 3 zx v,Ek,Eh t,h⟩))∧(∀ {b:Nat} {h:za} {bb:Bool},o.isNone=Ek→bE 3 b h En (Eh (sl 3 zx o)) (Eh (.list bb 3 [.agg [.str p.k,.int .i64 p.a,.int .i64 p.b]]))=bT (decide (b≤4096)) (Eh ⟨sl 3 zx v,Ek,En,h⟩)):=⟨jaw hv,jar hv⟩
theorem Wy {p o v}(hv:bj o [p]=Eh v):(∀ {b t:Nat} {h:za} {bb:Bool},bE 5 b h (Eh t) (Eh (sl 5 zw o)) (Eh (.list bb 5 [.agg [.str p.name,.str p.kind,.int .i64 p.count,.int .i64 p.left,.bool p.held]]))=bT (decide (b≤4096)) (Eh ⟨sl 5 zw v,Ek,Eh t,h⟩))∧(∀ {b:Nat} {h:za} {bb:Bool},o.isNone=Ek→bE 5 b h En (Eh (sl 5 zw o)) (Eh (.list bb 5 [.agg [.str p.name,.str p.kind,.int .i64 p.count,.int .i64 p.left,.bool p.held]]))=bT (decide (b≤4096)) (Eh ⟨sl 5 zw v,Ek,En,h⟩)):=⟨qyq hv,qx8 hv⟩
theorem q7v {p o v}(hv:bj o [p]=Eh v):(∀ {b t:Nat} {h:za} {bb:Bool},bE 2 b h (Eh t) (Eh (sl 2 db o)) (Eh (.list bb 2 [.agg [sl 2 aV p.aI,sl 3 zx p.aH]]))=bT (decide (b≤4096)) (Eh ⟨sl 2 db v,Ek,Eh t,h⟩))∧(∀ {b:Nat} {h:za} {bb:Bool},o.isNone=Ek→bE 2 b h En (Eh (sl 2 db o)) (Eh (.list bb 2 [.agg [sl 2 aV p.aI,sl 3 zx p.aH]]))=bT (decide (b≤4096)) (Eh ⟨sl 2 db v,Ek,En,h⟩)):=⟨q8g hv,q8p hv⟩
theorem q44 {p o v}(hv:bj o [p]=Eh v):(∀ {b t:Nat} {h:za} {bb:Bool},bE 4 b h (Eh t) (Eh (sl 4 zm o)) (Eh (.list bb 4 [.agg [.str p.name,sl 2 aV p.dn,sl 3 zx p.dt,sl 2 db p.aO]]))=bT (decide (b≤4096)) (Eh ⟨sl 4 zm v,Ek,Eh t,h⟩))∧(∀ {b:Nat} {h:za} {bb:Bool},o.isNone=Ek→bE 4 b h En (Eh (sl 4 zm o)) (Eh (.list bb 4 [.agg [.str p.name,sl 2 aV p.dn,sl 3 zx p.dt,sl 2 db p.aO]]))=bT (decide (b≤4096)) (Eh ⟨sl 4 zm v,Ek,En,h⟩)):=⟨q7a hv,q63 hv⟩
theorem OT {p o v}(hv:bj o [p]=Eh v):(∀ {b t:Nat} {h:za} {bb:Bool},bE 8 b h (Eh t) (Eh (sl 8 aQ o)) (Eh (.list bb 8 [.agg [.str p.name,.str p.product,.int .i64 p.version,sl 2 aV p.uses,sl 3 zx p.results,.str p.partner,.bool p.aq,.int .i64 p.aj]]))=bT (decide (b≤4096)) (Eh ⟨sl 8 aQ v,Ek,Eh t,h⟩))∧(∀ {b:Nat} {h:za} {bb:Bool},o.isNone=Ek→bE 8 b h En (Eh (sl 8 aQ o)) (Eh (.list bb 8 [.agg [.str p.name,.str p.product,.int .i64 p.version,sl 2 aV p.uses,sl 3 zx p.results,.str p.partner,.bool p.aq,.int .i64 p.aj]]))=bT (decide (b≤4096)) (Eh ⟨sl 8 aQ v,Ek,En,h⟩)):=⟨jci hv,jda hv⟩
theorem jmg {p o v}(hv:bj o [p]=Eh v):(∀ {b t:Nat} {h:za} {bb:Bool},bE 4 b h (Eh t) (Eh (sl 4 y9 o)) (Eh (.list bb 4 [.agg [.int .i64 p.day,sl 5 zw p.ar,sl 4 zm p.ae,sl 8 aQ p.units]]))=bT (decide (b≤4096)) (Eh ⟨sl 4 y9 v,Ek,Eh t,h⟩))∧(∀ {b:Nat} {h:za} {bb:Bool},o.isNone=Ek→bE 4 b h En (Eh (sl 4 y9 o)) (Eh (.list bb 4 [.agg [.int .i64 p.day,sl 5 zw p.ar,sl 4 zm p.ae,sl 8 aQ p.units]]))=bT (decide (b≤4096)) (Eh ⟨sl 4 y9 v,Ek,En,h⟩)):=⟨jbn hv,q84 hv⟩
theorem jvw {p o v}(hv:bj o [p]=Eh v):(∀ {b t:Nat} {h:za} {bb:Bool},bE 5 b h (Eh t) (Eh (sl 5 vev o)) (Eh (.list bb 5 [.agg [.int .i64 p.number,.str p.kind,sl 1 zk p.names,sl 1 kh p.values,.str p.text]]))=bT (decide (b≤4096)) (Eh ⟨sl 5 vev v,Ek,Eh t,h⟩))∧(∀ {b:Nat} {h:za} {bb:Bool},o.isNone=Ek→bE 5 b h En (Eh (sl 5 vev o)) (Eh (.list bb 5 [.agg [.int .i64 p.number,.str p.kind,sl 1 zk p.names,sl 1 kh p.values,.str p.text]]))=bT (decide (b≤4096)) (Eh ⟨sl 5 vev v,Ek,En,h⟩)):=⟨jcy hv,jea hv⟩
theorem q7i {x o v}(hv:bj o [x]=Eh v):(∀ {b t:Nat} {h:za} {bb:Bool},bE 1 b h (Eh t) (Eh (sl 1 kh o)) (Eh (.list bb 1 [.int .i64 x]))=bT (decide (b≤4096)) (Eh ⟨sl 1 kh v,Ek,Eh t,h⟩))∧(∀ {b:Nat} {h:za} {bb:Bool},o.isNone=Ek→bE 1 b h En (Eh (sl 1 kh o)) (Eh (.list bb 1 [.int .i64 x]))=bT (decide (b≤4096)) (Eh ⟨sl 1 kh v,Ek,En,h⟩)):=⟨ja0 hv,q94 hv⟩
theorem H0 {x o v}(hv:bj o [x]=Eh v):(∀ {b t:Nat} {h:za} {bb:Bool},bE 1 b h (Eh t) (Eh (sl 1 zk o)) (Eh (.list bb 1 [.str x]))=bT (decide (b≤4096)) (Eh ⟨sl 1 zk v,Ek,Eh t,h⟩))∧(∀ {b:Nat} {h:za} {bb:Bool},o.isNone=Ek→bE 1 b h En (Eh (sl 1 zk o)) (Eh (.list bb 1 [.str x]))=bT (decide (b≤4096)) (Eh ⟨sl 1 zk v,Ek,En,h⟩)):=⟨H2 hv,fun hn=>rD (by omega) rfl hn hv⟩
theorem jvp {α:Type}{o v hi}(hv:xZ o En (Eh hi)=Eh v):∀(h:za) (z:Nat) (f:α→qa) (k:IntKind),rE z h (Eh (sl z f o)) En (Eh (Eh (.int k hi)))=Eh ⟨sl z f v,Eo,En,h⟩:=fun _ _ _ _=>jo9 hv
@[go_sem] theorem jx9 {n v}:below n (.ah v)=below n v:=rfl
structure jg where
 names:Int
 values:Int
 known:Bool
theorem jul {a0 b0 a1 b1 a2 b2}:gH [.str,.int,.int] [.str a0,.int .i64 a1,.int .i64 a2] [.str b0,.int .i64 b1,.int .i64 b2]=Eh (decide (a0=b0)&&decide (a1=b1)&&decide (a2=b2)):=by
 have e:∀x y:Int,(x == y)=decide (x=y):=fun x y=>by by_cases h:x=y<;>simp[h]
 have e':∀x y:List UInt8,(x == y)=decide (x=y):=fun x y=>by by_cases h:x=y<;>simp[h]
 have e2:∀x y:Bool,(x == y)=decide (x=y):=fun x y=>by cases x<;>cases y<;>rfl
 simp only[gH,l4,e,e',e2,decide_true,cT]
 by_cases h0:a0=b0<;>by_cases h1:a1=b1<;>by_cases h2:a2=b2<;>simp[h0,h1,h2]
@[go_sem] theorem zkz {h a0 b0 a1 b1 a2 b2}:Wz [.str,.int,.int] Ek h (Eh (.agg [.str a0,.int .i64 a1,.int .i64 a2])) (Eh (.agg [.str b0,.int .i64 b1,.int .i64 b2]))=Eh ⟨.bool (!(decide (a0=b0)&&decide (a1=b1)&&decide (a2=b2))),Eo,En,h⟩:=by
 show(match gH [.str,.int,.int] [.str a0,.int .i64 a1,.int .i64 a2] [.str b0,.int .i64 b1,.int .i64 b2]with|some t=>val h (.bool (bif Ek then !t else t))|none=>En)=_
 rw[jul]
 rfl
@[go_sem] theorem zgu {h0 al h g a b}:fO h0 al Eo 1 h (Eh (.ah (.fn g a b)))=Eh ⟨.fn g a b,Eo,En,h⟩:=rfl
def x5 (h:za)(zero:qa)(r:Option (Option (Nat×qa))):Option qo:=match r with
 |some (Eh (_,v))=>Eh ⟨.ay [v,.bool Ek],Eo,En,h⟩
 |some En=>Eh ⟨.ay [zero,.bool Eo],Eo,En,h⟩
 |none=>En
@[go_sem] theorem jxi {h z v i}:x5 h z (Eh (Eh (i,v)))=Eh ⟨.ay [v,.bool Ek],Eo,En,h⟩:=rfl
@[go_sem] theorem jxy {h z}:x5 h z (Eh En)=Eh ⟨.ay [z,.bool Eo],Eo,En,h⟩:=rfl
def OU (h:za)(kd:Kd)(z kv:qa)(x:Option qn):Option qo:=match x with
 |some (.map es)=>x5 h z (yq kd kv es 0)
 |_=>En
@[go_sem] theorem j2m {h kd z kv es}:OU h kd z kv (Eh (.map es))=x5 h z (yq kd kv es 0):=rfl
def WA (h0:Nat)(al:Option (List Nat))(h:za)(kd:Kd)(z:qa)(m k:Option qa):Option qo:=match m,k with
 |some (.map b),Eh kv=>bT (yv h0 al b) (OU h kd z kv h[b]?)
 |some .bM,Eh _=>Eh ⟨.ay [z,.bool Eo],Eo,En,h⟩
 |_,_=>En
@[go_sem] theorem juc {h0 al h kd z kv b}:WA h0 al h kd z (Eh (.map b)) (Eh kv)=bT (yv h0 al b) (OU h kd z kv h[b]?):=rfl
@[go_sem] theorem j8k {p xc h0 al e h kd z m k}:j8 p xc h0 al e h (.lookup kd z Ek m k)=WA h0 al h kd z (zc e m) (zc e k):=by
 simp only[j8,gU,WA]
 cases zc e m with
 |none=>cases zc e k<;>rfl
 |some v=>cases zc e k with
  |none=>cases v<;>rfl
  |some kv=>cases v with
   |map b=>
    simp only[bT,kc,OU,x5]
    cases yv h0 al b with
    |false=>rfl
    |true=>
     simp only[cT]
     cases h[b]? with
     |none=>rfl
     |some x=>cases x with
      |map es=>
       simp only[]
       cases yq kd kv es 0 with
       |none=>rfl
       |some r=>cases r<;>rfl
      |_=>rfl
   |_=>rfl
theorem A8 {σ δ γ:Type}(n:Nat)(mk:Nat→σ)(f:σ→Option (σ⊕δ))(V:δ→γ)(r:Nat→γ)(cM:∃d,f (mk n)=Eh (.inr d)∧V d=r n)
  (b6:∀i,i<n→(f (mk i)=Eh (.inl (mk (i+1)))∧r i=r (i+1))∨(∃d,f (mk i)=Eh (.inr d)∧V d=r i)):∃d,aY f (mk 0)=Eh d∧V d=r 0:=by
 have key:∀(k i:Nat),i+k=n→∃d,aY f (mk i)=Eh d∧V d=r i:=by
  intro k
  induction k with
  |zero=>
   intro i hi
   have:i=n:=by omega
   subst this
   obtain⟨d,h1,h2⟩:=cM
   exact⟨d,jD h1,h2⟩
  |succ k ih=>
   intro i hi
   rcases b6 i (by omega)with⟨h1,h2⟩|⟨d,h1,h2⟩
   ·rw[oF h1,h2];exact ih (i+1) (by omega)
   ·exact⟨d,jD h1,h2⟩
 exact key n 0 (by omega)
theorem OV {α δ:Type}(l:List α)(f:Int→Option (Int⊕δ))(q:α→Bool)(V:δ→Bool)(cM:∃d,f (l.length:Int)=Eh (.inr d)∧V d=Ek)
  (b6:∀(i:Nat) x,l[i]?=Eh x→i<l.length→(q x=Ek∧f (i:Int)=Eh (.inl ((i+1:Nat):Int)))∨(q x=Eo∧∃d,f (i:Int)=Eh (.inr d)∧V d=Eo)):∃d,aY f 0=Eh d∧V d=l.all q:=by
 have:=A8 l.length (fun i=>(i:Int)) f V (fun i=>(l.drop i).all q) (by rw[Ge (Nat.le_refl _)];exact cM) (fun i hi=>by
  obtain⟨x,hx⟩:∃x,l[i]?=Eh x:=⟨_,Ev hi⟩
  simp only[pF hx,List.all_cons]
  rcases b6 i x hx hi with⟨h1,h2⟩|⟨h1,h2⟩
  ·rw[h1];exact .inl ⟨h2,rfl⟩
  ·rw[h1];exact .inr h2)
 simpa using this
theorem jjk {α β:Type}(l:List α)(ix:Nat→Int)(f:Option (List β)×Int×Bool→Option ((Option (List β)×Int×Bool)⊕(Option (List β)×Bool×Int)))(h:α→List β)(a0:List β)(I:Nat→List β→Prop)(hI:I 0 a0)
  (cM:∀a,f (yi a,ix l.length,fU a)=Eh (.inr (yi a,fU a,ix l.length)))
  (b6:∀(i:Nat) x a,l[i]?=Eh x→i<l.length→I i a→I (i+1) (a++h x)∧f (yi a,ix i,fU a)=Eh (.inl (yi (a++h x),ix (i+1),fU (a++h x)))):
  aY f (yi a0,ix 0,fU a0)=Eh (yi (a0++l.flatMap h),fU (a0++l.flatMap h),ix l.length):=by
 have key:∀(k i:Nat),i+k=l.length→∀a,I i a→aY f (yi a,ix i,fU a)=Eh (yi (a++(l.drop i).flatMap h),fU (a++(l.drop i).flatMap h),ix l.length):=by
  intro k
  induction k with
  |zero=>
   intro i hi a _
   have:i=l.length:=by omega
   subst this
   rw[Ge (Nat.le_refl _),List.flatMap_nil,List.append_nil,jD (cM a)]
  |succ k ih=>
   intro i hi a ha
   obtain⟨x,hx⟩:∃x,l[i]?=Eh x:=⟨_,Ev (by omega)⟩
   obtain⟨h1,h2⟩:=b6 i x a hx (by omega) ha
   rw[oF h2,ih (i+1) (by omega) _ h1,pF hx,Gh,List.append_assoc]
 have:=key l.length 0 (by omega) a0 hI
 rwa [List.drop_zero]at this
theorem qx2 {α:Type}{a:List α}{x}(h:a.length<1073741824):bj (yi a) [x]=Eh (yi (a++[x])):=by
 unfold bj
 cases a with
 |nil=>rfl
 |cons y a=>
  have:((yi (y::a)).getD []).length + [x].length≤1073741824:=by simp[yi]at h ⊢;omega
  rw[if_pos this];rfl
theorem x6 {α γ:Type}{a:List α}{x:α}{k:Option (List α)→Option γ}(h:a.length<1073741824):cond (fU a) (jw (bj (yi a) [x]) k) (cond (yi a).isNone (jw (bj (yi a) [x]) k) En)=k (yi (a++[x])):=by
 rw[qx2 h]
 cases a<;>rfl
theorem yp {α:Type}(a:List α):(yi a).getD []=a:=by cases a<;>rfl
theorem OW {α β:Type}(h:α→β):∀l:List α,l.flatMap (fun x=>[h x])=l.map h
 | []=>rfl
 |x::l=>by rw[Gh,OW h l];rfl
theorem zy {α:Type}{l:List α}{i:Nat}{x:α}(hx:l[i]?=Eh x):zn l (i:Int)=Eh x:=by rw[jhz,hx]
theorem eR {α:Type}{l:List α}{i}(h:i<l.length):decide ((i:Int)<(l.length:Int))=Ek:=dT (by omega)
theorem ky {n}:decide ((n:Int)<(n:Int))=Eo:=dF (by omega)
end Go.Z
namespace Go.Z
open Go Go.Abs Go.W
def il:List (List UInt8×List UInt8×Int×Nat):=[(mf,[45,45],2,105),(ng,[45],1,106),(mg,[112,45],2,107),(nh,[112,45],3,108),(pG,[112],1,109),(mr,[45,112],1,110),(mA,[117,108],2,111),(oG,[117,45],2,112),(pH,[117],1,113),(ni,[117,117],1,114),(nZ,[108],1,115),(rF,[108],1,116),(kP,[117],1,117),(x9,[117],1,118),(oH,[],0,0)]
def fnv (k:Nat):qa:=bif Nat.beq k 0 then .bX else .fn (.func k) [] []
def oI (x:List UInt8):Option (List UInt8×List UInt8×Int×Nat):=il.find? fun f=>decide (x=f.1)
def yu (x:List UInt8):List UInt8:=match oI x with
 |some f=>f.2.1
 |none=>[]
def nj (x:List UInt8):Int:=match oI x with
 |some f=>f.2.2.1
 |none=>0
def lO (x:List UInt8):qa:=match oI x with
 |some f=>fnv f.2.2.2
 |none=>.bX
def ET (x:List UInt8):Bool:=(oI x).isSome
theorem qx6:z6=il.map fun f=>(.str f.1,.agg [.str f.2.1,.int .i64 f.2.2.1,fnv f.2.2.2]):=rfl
theorem WB (x:List UInt8)(h:za):∀(l:List (List UInt8×List UInt8×Int×Nat)) (n:Nat),yq .str (.str x) (l.map fun f=>(.str f.1,.agg [.str f.2.1,.int .i64 f.2.2.1,fnv f.2.2.2])) n=Eh En∧l.find? (fun f=>decide (x=f.1))=En∨∃i f,yq .str (.str x) (l.map fun f=>(.str f.1,.agg [.str f.2.1,.int .i64 f.2.2.1,fnv f.2.2.2])) n=Eh (Eh (i,.agg [.str f.2.1,.int .i64 f.2.2.1,fnv f.2.2.2]))∧l.find? (fun f=>decide (x=f.1))=Eh f
 | [],n=>.inl ⟨rfl,rfl⟩
 |f::l,n=>by
  have he:l4 .str (.str x) (.str f.1)=Eh (decide (x=f.1)):=by
   show Eh (x == f.1)=_
   by_cases hx:x=f.1<;>simp[hx]
  by_cases hx:x=f.1
  ·refine .inr ⟨n,f,?_,?_⟩
   ·simp only[Eu,yq,he,dT hx]
   ·simp[Ep,hx]
  ·rcases WB x h l (n+1)with⟨h1,h2⟩|⟨i,g,h1,h2⟩
   ·exact .inl ⟨by simp only[Eu,yq,he,hx,decide_false];exact h1,by simp only[Ep,hx,decide_false];exact h2⟩
   ·exact .inr ⟨i,g,by simp only[Eu,yq,he,hx,decide_false];exact h1,by simp only[Ep,hx,decide_false];exact h2⟩
@[go_sem] theorem zd4 {h g a b}:vd Eo h (Eh (.fn g a b))=Eh ⟨.ah (.fn g a b),Eo,En,h⟩:=rfl
@[go_sem] theorem zlw:pr.maps 50=Eh z6:=rfl
theorem jm4 {h}(x:List UInt8):x5 h (.agg [.str [],.int .i64 0,.bX]) (yq .str (.str x) z6 0)=Eh ⟨.ay [.agg [.str (yu x),.int .i64 (nj x),lO x],.bool (ET x)],Eo,En,h⟩:=by
 rw[qx6]
 rcases WB x h il 0 with⟨h1,h2⟩|⟨i,f,h1,h2⟩
 ·rw[h1];simp only[x5,yu,nj,lO,ET,oI,h2];rfl
 ·rw[h1];simp only[x5,yu,nj,lO,ET,oI,h2];rfl
theorem OX {h}(x:List UInt8):wm h (.agg [.str [],.int .i64 0,.bX]) (yq .str (.str x) z6 0)=Eh ⟨.agg [.str (yu x),.int .i64 (nj x),lO x],Eo,En,h⟩:=by
 rw[qx6]
 rcases WB x h il 0 with⟨h1,h2⟩|⟨i,f,h1,h2⟩
 ·rw[h1];simp only[wm,yu,nj,lO,oI,h2];rfl
 ·rw[h1];simp only[wm,yu,nj,lO,oI,h2];rfl
@[go_sem] theorem zk1 {x}:zd (lO x)=Ek:=by
 unfold lO
 split
 ·rename_i f _;simp only[fnv];cases Nat.beq f.2.2.2 0<;>rfl
 ·rfl
def ej (l:List (List UInt8×Int)):List (qa×qa):=l.map fun p=>(.str p.1,.int .i64 p.2)
def mC (l:List (List UInt8×Int))(k:List UInt8):Int:=match l.find? fun p=>decide (k=p.1)with
 |some p=>p.2
 |none=>0
def kQ:List (List UInt8×Int)→List UInt8→Int→List (List UInt8×Int)
 | [],k,v=>[(k,v)]
 |p::l,k,v=>if k=p.1 then(p.1,v)::l else p::kQ l k v
def OY (l:List (List UInt8×Int))(k:List UInt8)(v:Int):Option (List (List UInt8×Int)):=if l.length≤1073741824 then Eh (kQ l k v)else En
theorem WC {k s}:l4 .str (.str k) (.str s)=Eh (decide (k=s)):=by
 show Eh (k == s)=_
 by_cases hx:k=s<;>simp[hx]
theorem WD (k:List UInt8):∀(l:List (List UInt8×Int)) (n:Nat),(yq .str (.str k) (ej l) n=Eh En∧l.find? (fun p=>decide (k=p.1))=En∧∀v,ej (kQ l k v)=ej l++[(.str k,.int .i64 v)])∨∃i p,yq .str (.str k) (ej l) n=Eh (Eh (n+i,.int .i64 p.2))∧l.find? (fun p=>decide (k=p.1))=Eh p∧∀v,ej (kQ l k v)=nG (ej l) i (.int .i64 v)
 | [],n=>.inl ⟨rfl,rfl,fun _=>rfl⟩
 |p::l,n=>by
  by_cases hx:k=p.1
  ·refine .inr ⟨0,p,?_,?_,fun v=>?_⟩
   ·simp only[ej,Eu,yq,WC,dT hx];rfl
   ·simp[Ep,hx]
   ·simp only[kQ,if_pos hx];rfl
  ·rcases WD k l (n+1)with⟨h1,h2,h3⟩|⟨i,q,h1,h2,h3⟩
   ·refine .inl ⟨?_,?_,fun v=>?_⟩
    ·simp only[ej,Eu,yq,WC,dF hx];exact h1
    ·simp only[Ep,dF hx];exact h2
    ·simp only[kQ,if_neg hx]
     show _::ej (kQ l k v)=_
     rw[h3];rfl
   ·refine .inr ⟨i+1,q,?_,?_,fun v=>?_⟩
    ·simp only[ej,Eu,yq,WC,dF hx]
     rw[show n+(i+1)=n+1+i by omega];exact h1
    ·simp only[Ep,dF hx];exact h2
    ·simp only[kQ,if_neg hx]
     show _::ej (kQ l k v)=_
     rw[h3];rfl
theorem jlj {h l k}:wm h (.int .i64 0) (yq .str (.str k) (ej l) 0)=Eh ⟨.int .i64 (mC l k),Eo,En,h⟩:=by
 unfold mC
 rcases WD k l 0 with⟨h1,h2,_⟩|⟨i,p,h1,h2,_⟩<;>rw[h1,h2]<;>rfl
theorem jtt {h b l v k n}(hv:OY l k n=Eh v):EP h b (ej l) (.str k) (.int .i64 n) (yq .str (.str k) (ej l) 0)=fP (yh h b (.map (ej v))) .undef:=by
 unfold OY at hv
 split at hv
 ·rename_i hl
  cases hv
  rcases WD k l 0 with⟨h1,h2,h3⟩|⟨i,p,h1,h2,h3⟩
  ·rw[h1,h3]
   have:Nat.ble (ej l).length 1073741824=Ek:=Nat.ble_eq_true_of_le (by rw[ej,Gc];exact hl)
   simp only[EP,this,bT,cT]
  ·rw[h1,h3,Nat.zero_add];rfl
 ·cases hv
theorem jju {l k k' v}:mC (kQ l k v) k'=if k'=k then v else mC l k':=by
 induction l with
 |nil=>by_cases h:k'=k<;>simp[kQ,mC,Ep,h]
 |cons p l ih=>
  unfold mC at ih ⊢
  by_cases hk:k=p.1
  ·by_cases h:k'=k
   ·subst h;simp[kQ,Ep,←hk]
   ·have h2:¬k'=p.1:=by rw[←hk];exact h
    simp[kQ,Ep,hk,h2]
  ·by_cases h2:k'=p.1
   ·have h3:¬k'=k:=by rw[h2];exact fun h=>hk h.symm
    have h4:¬p.1=k:=fun h=>hk h.symm
    simp[kQ,Ep,hk,h2,h4]
   ·simp only[kQ,if_neg hk,Ep,dF h2]
    exact ih
@[go_sem] theorem j9a {h0 al h b}:fO h0 al Eo 1 h (Eh (.ah (.map b)))=Eh ⟨.map b,Eo,En,h⟩:=rfl
@[go_sem] theorem jbm {n l}:pX n (ej l)=Ek:=by
 induction l with
 |nil=>rfl
 |cons p l ih=>simp only[ej,Eu,pX,below,Bool.true_and];exact ih
@[go_sem] theorem jpo {n l}:nF n (.map (ej l))=Ek:=jbm
def lP (l:List (List UInt8))(s:List UInt8):Bool:=decide (s∈l)
def ya (l:List (List UInt8))(s:List UInt8):Option (List (List UInt8)):=if lP l s then Eh l else if l.length≤1073741824 then Eh (l++[s])else En
theorem j3x {h l s}:HR h .str (.bool Eo) (.str s) (Eh (.map (eM l)))=Eh ⟨.bool (lP l s),Eo,En,h⟩:=by
 rw[jeb,Wp]
 unfold lP
 by_cases hm:s∈l<;>simp[hm,q98,jbc]
theorem jgn {h b l v s}(hv:ya l s=Eh v)(hn:lP l s=Eo):EQ h b .str (.str s) (.bool Ek) (Eh (.map (eM l)))=fP (yh h b (.map (eM v))) .undef:=by
 unfold ya at hv
 rw[hn]at hv
 simp only[Bool.false_eq_true,if_false]at hv
 split at hv
 ·rename_i hl
  cases hv
  have hm:¬s∈l:=by simpa[lP]using hn
  rw[q40,Wp,if_neg hm,jcl,jen,Nat.ble_eq_true_of_le hl,q9m]
  rfl
 ·cases hv
theorem qpi:∀ (l:List (List UInt8)) (i:Nat) (k:List UInt8),l[i]?=Eh k→nG (eM l) i (.bool Ek)=eM l
 | [],i,k,h=>by simp at h
 |x::l,0,k,h=>rfl
 |x::l,i+1,k,h=>by
  have:=qpi l i k (by simpa using h)
  show(qa.str x,qa.bool Ek)::nG (eM l) i (.bool Ek)=_
  rw[this];rfl
theorem jdv {h b l v s}(hv:ya l s=Eh v):EQ h b .str (.str s) (.bool Ek) (Eh (.map (eM l)))=fP (yh h b (.map (eM v))) .undef:=by
 cases hn:lP l s with
 |false=>exact jgn hv hn
 |true=>
  unfold ya at hv
  rw[hn]at hv
  simp only[if_true,Eh.injEq]at hv
  subst hv
  have hm:s∈l:=by simpa[lP]using hn
  rw[q40,Wp,if_pos hm]
  have hi:l[l.idxOf s]?=Eh s:=by
   rw[Ev (List.idxOf_lt_length_of_mem hm),List.getElem_idxOf]
  show fP (yh h b (.map (nG (eM l) (l.idxOf s) (.bool Ek)))) .undef=_
  rw[qpi l _ s hi]
@[go_sem] theorem q6p {n}:∀ {l:List (List UInt8)},nF n (.map (eM l))=Ek
 | []=>rfl
 |x::l=>by
  have:=q6p (n:=n) (l:=l)
  simp only[nF]at this ⊢
  show(below n (.str x)&&below n (.bool Ek)&&pX n (eM l))=Ek
  rw[this];rfl
theorem juf {p xc h0 al e h r}:j8 p xc h0 al e h (.dD r)=fP (aF h0 h r (.map (eM []))) (.map (h0+r)):=jni
end Go.Z
