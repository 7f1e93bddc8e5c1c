/- The structs of chapter 10 and their cells; what they are in plain lists. -/
import Derived.Test.YtimdocpnkimlfaaGreatDoorL1
import Derived.Test.YtimdocpnkimlfaaGreatDoorWS
import Derived.Test.YtimdocpnkimlfaaGreatDoorZM
set_option linter.unusedVariables false
set_option linter.unusedSimpArgs false
set_option maxRecDepth 100000
open Option renaming some→En,none→Gn,getD_some→G5
open Bool renaming true→Ey,false→Gp,and_eq_true→G2
open List renaming find?→Gq,map_cons→Gs,getElem?_eq_none_iff→Gt,getElem?_eq_getElem→Gv,length_nil→Gw,length_map→Gy,drop_eq_nil_of_le→Gz,flatMap_cons→G1
open Nat renaming blt→G0
namespace Go.Z
open Go Go.Abs Go.W
def bn (p:bq):AVal:=.agg [.str p.k,.int .i64 p.n]
@[go_sem] theorem zh4 {p}:(bn p).flat=[.str p.k,.int .i64 p.n]:=rfl
@[go_sem] theorem jf6 {n}(p:bq):below n (bn p)=Ey:=by rfl
@[go_sem] theorem j6h {n z l}:below n (sl z bn l)=Ey:=vJ jf6
@[go_sem] theorem zjr {p}:AVal.ah (bn p)=.ah (.agg [.str p.k,.int .i64 p.n]):=rfl
theorem jgc {b t h bb p o v}(hv:bH o [p]=En v):bM 2 b h (En t) (En (sl 2 bn o)) (En (.list bb 2 [.agg [.str p.k,.int .i64 p.n]]))=cr (decide (b≤4096)) (En ⟨sl 2 bn v,Ey,En t,h⟩):=vO (x:=p) (by omega) rfl hv
theorem jgd {b h bb p o v}(hv:bH o [p]=En v)(hn:o.isNone=Ey):bM 2 b h Gn (En (sl 2 bn o)) (En (.list bb 2 [.agg [.str p.k,.int .i64 p.n]]))=cr (decide (b≤4096)) (En ⟨sl 2 bn v,Ey,Gn,h⟩):=vP (x:=p) (by omega) rfl hn hv
def ja (p:je):AVal:=.agg [.str p.k,.int .i64 p.a,.int .i64 p.b]
@[go_sem] theorem zbo {p}:(ja p).flat=[.str p.k,.int .i64 p.a,.int .i64 p.b]:=rfl
@[go_sem] theorem jal {n}(p:je):below n (ja p)=Ey:=by rfl
@[go_sem] theorem j0j {n z l}:below n (sl z ja l)=Ey:=vJ jal
@[go_sem] theorem jgj {p}:AVal.ah (ja p)=.ah (.agg [.str p.k,.int .i64 p.a,.int .i64 p.b]):=rfl
theorem jdp {b t h bb p o v}(hv:bH o [p]=En v):bM 3 b h (En t) (En (sl 3 ja o)) (En (.list bb 3 [.agg [.str p.k,.int .i64 p.a,.int .i64 p.b]]))=cr (decide (b≤4096)) (En ⟨sl 3 ja v,Ey,En t,h⟩):=vO (x:=p) (by omega) rfl hv
theorem jdq {b h bb p o v}(hv:bH o [p]=En v)(hn:o.isNone=Ey):bM 3 b h Gn (En (sl 3 ja o)) (En (.list bb 3 [.agg [.str p.k,.int .i64 p.a,.int .i64 p.b]]))=cr (decide (b≤4096)) (En ⟨sl 3 ja v,Ey,Gn,h⟩):=vP (x:=p) (by omega) rfl hn hv
def jc (p:jd):AVal:=.agg [.str p.name,.str p.kind,.int .i64 p.count,.int .i64 p.left,.bool p.held]
@[go_sem] theorem zbc {p}:(jc p).flat=[.str p.name,.str p.kind,.int .i64 p.count,.int .i64 p.left,.bool p.held]:=rfl
@[go_sem] theorem jbh {n}(p:jd):below n (jc p)=Ey:=by rfl
@[go_sem] theorem jz4 {n z l}:below n (sl z jc l)=Ey:=vJ jbh
@[go_sem] theorem q0z {p}:AVal.ah (jc p)=.ah (.agg [.str p.name,.str p.kind,.int .i64 p.count,.int .i64 p.left,.bool p.held]):=rfl
theorem qve {b t h bb p o v}(hv:bH o [p]=En v):bM 5 b h (En t) (En (sl 5 jc o)) (En (.list bb 5 [.agg [.str p.name,.str p.kind,.int .i64 p.count,.int .i64 p.left,.bool p.held]]))=cr (decide (b≤4096)) (En ⟨sl 5 jc v,Ey,En t,h⟩):=vO (x:=p) (by omega) rfl hv
theorem qw5 {b h bb p o v}(hv:bH o [p]=En v)(hn:o.isNone=Ey):bM 5 b h Gn (En (sl 5 jc o)) (En (.list bb 5 [.agg [.str p.name,.str p.kind,.int .i64 p.count,.int .i64 p.left,.bool p.held]]))=cr (decide (b≤4096)) (En ⟨sl 5 jc v,Ey,Gn,h⟩):=vP (x:=p) (by omega) rfl hn hv
structure bL where
 aK:Option (List bq)
 az:Option (List je)
def yq (p:bL):AVal:=.agg [sl 2 bn p.aK,sl 3 ja p.az]
@[go_sem] theorem zbx {p}:(yq p).flat=[sl 2 bn p.aK,sl 3 ja p.az]:=rfl
@[go_sem] theorem jdr {n}(p:bL):below n (yq p)=Ey:=by simp only[yq,go_sem]
@[go_sem] theorem jzt {n z l}:below n (sl z yq l)=Ey:=vJ jdr
@[go_sem] theorem zch {p}:AVal.ah (yq p)=.ah (.agg [sl 2 bn p.aK,sl 3 ja p.az]):=rfl
theorem jbn {b t h bb p o v}(hv:bH o [p]=En v):bM 2 b h (En t) (En (sl 2 yq o)) (En (.list bb 2 [.agg [sl 2 bn p.aK,sl 3 ja p.az]]))=cr (decide (b≤4096)) (En ⟨sl 2 yq v,Ey,En t,h⟩):=vO (x:=p) (by omega) rfl hv
theorem jdl {b h bb p o v}(hv:bH o [p]=En v)(hn:o.isNone=Ey):bM 2 b h Gn (En (sl 2 yq o)) (En (.list bb 2 [.agg [sl 2 bn p.aK,sl 3 ja p.az]]))=cr (decide (b≤4096)) (En ⟨sl 2 yq v,Ey,Gn,h⟩):=vP (x:=p) (by omega) rfl hn hv
structure aS where
 name:List UInt8
 dn:Option (List bq)
 dt:Option (List je)
 aM:Option (List bL)
def qv (p:aS):AVal:=.agg [.str p.name,sl 2 bn p.dn,sl 3 ja p.dt,sl 2 yq p.aM]
@[go_sem] theorem jby {p}:(qv p).flat=[.str p.name,sl 2 bn p.dn,sl 3 ja p.dt,sl 2 yq p.aM]:=rfl
@[go_sem] theorem q7d {n}(p:aS):below n (qv p)=Ey:=by simp only[qv,go_sem]
@[go_sem] theorem jxm {n z l}:below n (sl z qv l)=Ey:=vJ q7d
@[go_sem] theorem j9i {p}:AVal.ah (qv p)=.ah (.agg [.str p.name,sl 2 bn p.dn,sl 3 ja p.dt,sl 2 yq p.aM]):=rfl
theorem q72 {b t h bb p o v}(hv:bH o [p]=En v):bM 4 b h (En t) (En (sl 4 qv o)) (En (.list bb 4 [.agg [.str p.name,sl 2 bn p.dn,sl 3 ja p.dt,sl 2 yq p.aM]]))=cr (decide (b≤4096)) (En ⟨sl 4 qv v,Ey,En t,h⟩):=vO (x:=p) (by omega) rfl hv
theorem q67 {b h bb p o v}(hv:bH o [p]=En v)(hn:o.isNone=Ey):bM 4 b h Gn (En (sl 4 qv o)) (En (.list bb 4 [.agg [.str p.name,sl 2 bn p.dn,sl 3 ja p.dt,sl 2 yq p.aM]]))=cr (decide (b≤4096)) (En ⟨sl 4 qv v,Ey,Gn,h⟩):=vP (x:=p) (by omega) rfl hn hv
structure ay where
 name:List UInt8
 product:List UInt8
 version:Int
 uses:Option (List bq)
 results:Option (List je)
 partner:List UInt8
 shipped:Bool
 ai:Int
def aY (p:ay):AVal:=.agg [.str p.name,.str p.product,.int .i64 p.version,sl 2 bn p.uses,sl 3 ja p.results,.str p.partner,.bool p.shipped,.int .i64 p.ai]
@[go_sem] theorem jni {p}:(aY p).flat=[.str p.name,.str p.product,.int .i64 p.version,sl 2 bn p.uses,sl 3 ja p.results,.str p.partner,.bool p.shipped,.int .i64 p.ai]:=rfl
@[go_sem] theorem je1 {n}(p:ay):below n (aY p)=Ey:=by simp only[aY,go_sem]
@[go_sem] theorem j10 {n z l}:below n (sl z aY l)=Ey:=vJ je1
@[go_sem] theorem zgv {p}:AVal.ah (aY p)=.ah (.agg [.str p.name,.str p.product,.int .i64 p.version,sl 2 bn p.uses,sl 3 ja p.results,.str p.partner,.bool p.shipped,.int .i64 p.ai]):=rfl
theorem jgs {b t h bb p o v}(hv:bH o [p]=En v):bM 8 b h (En t) (En (sl 8 aY o)) (En (.list bb 8 [.agg [.str p.name,.str p.product,.int .i64 p.version,sl 2 bn p.uses,sl 3 ja p.results,.str p.partner,.bool p.shipped,.int .i64 p.ai]]))=cr (decide (b≤4096)) (En ⟨sl 8 aY v,Ey,En t,h⟩):=vO (x:=p) (by omega) rfl hv
theorem jgy {b h bb p o v}(hv:bH o [p]=En v)(hn:o.isNone=Ey):bM 8 b h Gn (En (sl 8 aY o)) (En (.list bb 8 [.agg [.str p.name,.str p.product,.int .i64 p.version,sl 2 bn p.uses,sl 3 ja p.results,.str p.partner,.bool p.shipped,.int .i64 p.ai]]))=cr (decide (b≤4096)) (En ⟨sl 8 aY v,Ey,Gn,h⟩):=vP (x:=p) (by omega) rfl hn hv
structure aj where
 day:Int
 lots:Option (List jd)
 ae:Option (List aS)
 units:Option (List ay)
def zo (p:aj):AVal:=.agg [.int .i64 p.day,sl 5 jc p.lots,sl 4 qv p.ae,sl 8 aY p.units]
@[go_sem] theorem zav {p}:(zo p).flat=[.int .i64 p.day,sl 5 jc p.lots,sl 4 qv p.ae,sl 8 aY p.units]:=rfl
@[go_sem] theorem jbb {n}(p:aj):below n (zo p)=Ey:=by simp only[zo,go_sem]
@[go_sem] theorem jzu {n z l}:below n (sl z zo l)=Ey:=vJ jbb
@[go_sem] theorem zbi {p}:AVal.ah (zo p)=.ah (.agg [.int .i64 p.day,sl 5 jc p.lots,sl 4 qv p.ae,sl 8 aY p.units]):=rfl
theorem jca {b t h bb p o v}(hv:bH o [p]=En v):bM 4 b h (En t) (En (sl 4 zo o)) (En (.list bb 4 [.agg [.int .i64 p.day,sl 5 jc p.lots,sl 4 qv p.ae,sl 8 aY p.units]]))=cr (decide (b≤4096)) (En ⟨sl 4 zo v,Ey,En t,h⟩):=vO (x:=p) (by omega) rfl hv
theorem jcj {b h bb p o v}(hv:bH o [p]=En v)(hn:o.isNone=Ey):bM 4 b h Gn (En (sl 4 zo o)) (En (.list bb 4 [.agg [.int .i64 p.day,sl 5 jc p.lots,sl 4 qv p.ae,sl 8 aY p.units]]))=cr (decide (b≤4096)) (En ⟨sl 4 zo v,Ey,Gn,h⟩):=vP (x:=p) (by omega) rfl hn hv
structure GEv where
 number:Int
 kind:List UInt8
 names:Option (List (List UInt8))
 values:Option (List Int)
 text:List UInt8
def vev (p:GEv):AVal:=.agg [.int .i64 p.number,.str p.kind,sl 1 j9 p.names,sl 1 jm p.values,.str p.text]
@[go_sem] theorem zdf {p}:(vev p).flat=[.int .i64 p.number,.str p.kind,sl 1 j9 p.names,sl 1 jm p.values,.str p.text]:=rfl
@[go_sem] theorem jf8 {n}(p:GEv):below n (vev p)=Ey:=by simp only[vev,go_sem]
@[go_sem] theorem j5s {n z l}:below n (sl z vev l)=Ey:=vJ jf8
@[go_sem] theorem zda {p}:AVal.ah (vev p)=.ah (.agg [.int .i64 p.number,.str p.kind,sl 1 j9 p.names,sl 1 jm p.values,.str p.text]):=rfl
theorem jeq {b t h bb p o v}(hv:bH o [p]=En v):bM 5 b h (En t) (En (sl 5 vev o)) (En (.list bb 5 [.agg [.int .i64 p.number,.str p.kind,sl 1 j9 p.names,sl 1 jm p.values,.str p.text]]))=cr (decide (b≤4096)) (En ⟨sl 5 vev v,Ey,En t,h⟩):=vO (x:=p) (by omega) rfl hv
theorem jgo {b h bb p o v}(hv:bH o [p]=En v)(hn:o.isNone=Ey):bM 5 b h Gn (En (sl 5 vev o)) (En (.list bb 5 [.agg [.int .i64 p.number,.str p.kind,sl 1 j9 p.names,sl 1 jm p.values,.str p.text]]))=cr (decide (b≤4096)) (En ⟨sl 5 vev v,Ey,Gn,h⟩):=vP (x:=p) (by omega) rfl hn hv
def bL.er (d:bL):jS:=⟨d.aK.getD [],d.az.getD []⟩
def aS.er (p:aS):lj:=⟨p.name,⟨p.dn.getD [],p.dt.getD []⟩,(p.aM.getD []).map bL.er⟩
def ay.er (u:ay):aW:=⟨u.name,u.product,u.version,u.uses.getD [],u.results.getD [],u.partner,u.shipped,u.ai⟩
def aj.er (r:aj):ju:=⟨r.day,r.lots.getD [],(r.ae.getD []).map aS.er,(r.units.getD []).map ay.er⟩
def GEv.er (e:GEv):ek:=⟨e.number,e.kind,e.names.getD [],e.values.getD [],e.text⟩
end Go.Z
namespace Go.Z
open Go Go.Abs Go.W
theorem Xq {hh}:∀ {xs:List AVal},qx 0 xs=Ey→lI hh xs=En xs
 | [],_=>rfl
 |x::xs,h=>by
  simp only[qx,G2]at h
  have hx:kx hh x=En x:=by
   cases x with
   |ms b o n=>simp[Abs.below,G0]at h
   |aw b o n=>simp[Abs.below,G0]at h
   |_=>rfl
  simp only[lI,hx,Xq h.2]
theorem qpt {hh}:∀ {xs:List AVal},qx 0 xs=Ey→aF.bC hh xs=En xs
 | [],_=>rfl
 |x::xs,h=>by
  simp only[qx,G2]at h
  have ih:=qpt (hh:=hh) h.2
  cases x with
  |agg cs=>
   have h1:=h.1
   simp only[Abs.below]at h1
   simp only[aF.bC,Xq h1,ih]
  |ms b o n=>simp[Abs.below,G0]at h
  |aw b o n=>simp[Abs.below,G0]at h
  |_=>simp only[aF.bC,kx,ih]
theorem qqj {hh x}(h:Abs.below 0 x=Ey):aF hh x=En x:=by
 cases x with
 |agg cs=>
  simp only[Abs.below]at h
  simp only[aF,Xq h]
 |aB vs=>
  simp only[Abs.below]at h
  simp only[aF,qpt h]
 |ms b o n=>simp[Abs.below,G0]at h
 |aw b o n=>simp[Abs.below,G0]at h
 |_=>rfl
theorem zh {p k}(f:ar){args v}(hc:∃hh,E1 f.results (X p f.body ⟨oS 0 args,[]⟩)=some (v,false,hh))(hp:p.cO k=none:=by rfl)(hf:p.bQ k=some f:=by rfl)(hl:Nat.ble args.length f.ntmps=true:=by rfl)(hv:below 0 v=true:=by first|rfl|simp only[go_sem,seval]):qc p (X p) k args=some (v,false):=by
 obtain⟨hh,hc⟩:=hc
 cases f with
 |mk n b r=>exact yd hp (by rw[qn hf (Nat.le_of_ble_eq_true hl)];exact hc) (qqj hv) hv
theorem yv {p k}(f:ar){args v o}(hc:∃hh,E1 f.results (X p f.body ⟨oS 0 args,[]⟩)=some (v,o,hh))(hp:p.cO k=none:=by rfl)(hf:p.bQ k=some f:=by rfl)(hn:Nat.ble args.length f.ntmps=true:=by rfl)(hv:below 0 v=true:=by first|rfl|simp only[go_sem,seval])(hl:v.cS=true:=by first|rfl|simp only[go_sem,seval]):qc p (X p) k args=some (v,o):=by
 obtain⟨hh,hc⟩:=hc
 cases f with
 |mk n b r=>exact qzu hp (by rw[qn hf (Nat.le_of_ble_eq_true hn)];exact hc) (qqj hv) hv hl
theorem jp {σ δ:Type}{p:zb}{c:au}{St:σ→bf}{Ex:δ→jf×bf}{s s':σ}(h:X p c (St s)=some (.normal,St s'))(hl:(St s').heap.length≤(St s).heap.length:=by exact Nat.le_refl _):jz p c St Ex s (.inl s'):=E5 h (H2 hl)
theorem q9a {σ δ:Type}{p:zb}{c:au}{St:σ→bf}{Ex:δ→jf×bf}{s s':σ}(h:∃t,X p c (St s)=En (.normal,⟨(St s').env,(St s').heap++t⟩))(hn:(St s).heap.length=(St s').heap.length)(h1:nj (St s).heap.length (St s').env=Ey)(h2:zw (St s).heap.length (St s').heap=Ey):jz p c St Ex s (.inl s'):=by
 obtain⟨t,h⟩:=h
 exact E5 h (jr8 hn rfl h1 h2)
theorem lD {α:Type}{z:Nat}{f:α→AVal}{l:List α}:sl z f (En l)=.list Gp z (l.map f):=rfl
theorem zk {α:Type}{z:Nat}{f:α→AVal}:sl z f Gn=.list Ey 0 []:=rfl
abbrev Iv (n:Int):AVal:=.int .i64 n
abbrev Lv {α:Type}(o:Option (List α)):AVal:=.int .i64 ((o.getD []).length:Int)
abbrev Nl:AVal:=.list Ey 0 []
abbrev aE (e:GEv):AVal:=.agg [.int .i64 e.number,.str e.kind,sl 1 j9 e.names,sl 1 jm e.values,.str e.text]
abbrev aR (r:aj):AVal:=.agg [.int .i64 r.day,sl 5 jc r.lots,sl 4 qv r.ae,sl 8 aY r.units]
abbrev aU (u:ay):AVal:=.agg [.str u.name,.str u.product,.int .i64 u.version,sl 2 bn u.uses,sl 3 ja u.results,.str u.partner,.bool u.shipped,.int .i64 u.ai]
abbrev aL (l:jd):AVal:=.agg [.str l.name,.str l.kind,.int .i64 l.count,.int .i64 l.left,.bool l.held]
abbrev aP (p:aS):AVal:=.agg [.str p.name,sl 2 bn p.dn,sl 3 ja p.dt,sl 2 yq p.aM]
abbrev aD (d:bL):AVal:=.agg [sl 2 bn d.aK,sl 3 ja d.az]
abbrev aT (x:je):AVal:=.agg [.str x.k,.int .i64 x.a,.int .i64 x.b]
abbrev aN (x:bq):AVal:=.agg [.str x.k,.int .i64 x.n]
abbrev aG (a:Int)(b:Option (List jd))(c:Option (List aS))(d:Option (List ay)):AVal:=.agg [.int .i64 a,sl 5 jc b,sl 4 qv c,sl 8 aY d]
abbrev kS (a:Int)(b:Option (List jd))(o1:Bool)(c:Option (List aS))(o2:Bool)(d:Option (List ay))(o3:Bool):bh:=.cells [(.int .i64 a,Gp),(sl 5 jc b,o1),(sl 4 qv c,o2),(sl 8 aY d,o3)]
abbrev kR (a:Int)(b:Option (List jd))(c:Option (List aS))(d:Option (List ay)):bh:=.cells [(.int .i64 a,Gp),(sl 5 jc b,Gp),(sl 4 qv c,Gp),(sl 8 aY d,Gp)]
abbrev kO:bh:=.cells [(Nl,Gp),(Nl,Gp),(Nl,Gp)]
abbrev cg:bh:=.cells [(Nl,Gp),(Nl,Gp),(.aw 5 0 1,Gp)]
abbrev kZ:bh:=.cells [(.int .i64 0,Gp),(Nl,Gp),(Nl,Gp),(Nl,Gp)]
abbrev aZ:AVal:=.agg [.int .i64 0,Nl,Nl,Nl]
def om {α β:Type}(o:Option α)(f:α→β):Option β:=match o with
 |some x=>En (f x)
 |none=>Gn
@[go_sem] theorem zoa {α β:Type}{x:α}{f:α→β}:om (En x) f=En (f x):=rfl
theorem jg {h:qh}{α:Type}{z:Nat}{f:α→AVal}{l k i}:kF z h (En (sl z f l)) (En (.int k i))=om (qr (l.getD []) i) fun x=>⟨.ah (f x),Gp,Gn,h⟩:=by
 cases hx:qr (l.getD []) i with
 |some x=>exact yb hx
 |none=>
  have hi:vI (l.getD []).length i=Gn:=by
   unfold qr at hx
   unfold vI
   by_cases h0:0≤i
   ·rw[if_pos h0]at hx
    rw[if_neg]
    intro hc
    have:=Gt.1 hx
    omega
   ·rw[if_neg (fun hc=>h0 hc.1)]
  cases l with
  |none=>simp only[sl,kF,zM,Option.getD_none,Gw]at hi ⊢;rw[hi];simp[om]
  |some l=>simp only[sl,kF,zM,G5,Gy]at hi ⊢;rw[hi];simp[om]
theorem jj5 {h s k i}:BX h (En (.str s)) (En (.int k i))=om (qr s i) fun c=>⟨.int .u8 (c.toNat:Int),Gp,Gn,h⟩:=by
 cases hx:qr s i with
 |some x=>exact jjs hx
 |none=>
  have hi:vI s.length i=Gn:=by
   unfold qr at hx
   unfold vI
   by_cases h0:0≤i
   ·rw[if_pos h0]at hx
    rw[if_neg]
    intro hc
    have:=Gt.1 hx
    omega
   ·rw[if_neg (fun hc=>h0 hc.1)]
  simp only[BX,zM,hi,om]
theorem M7 {h b pos s}:vM h b (En (.iter s pos))=cond (decide (pos<s.length)) (fO (jt h b (.iter s (pos+(ql s pos).2))) (.aB [.bool Ey,.int .i64 pos,.int .i32 (ql s pos).1])) (En ⟨.aB [.bool Gp],Gp,Gn,h⟩):=by
 cases hx:decide (pos<s.length)with
 |true=>exact jt6 hx
 |false=>exact jsz hx
theorem mP {h:qh}{α:Type}{z b t:Nat}{f:α→AVal}{o2}:bM (z+1) b h (En t) (En (.list Gp (z+1) [])) (En (sl (z+1) f o2))=cr (decide (b≤4096)) (om (bH (En []) (o2.getD [])) fun v=>⟨sl (z+1) f v,Ey,En t,h⟩):=by
 cases hx:bH (En []) (o2.getD [])with
 |some x=>exact jhb hx
 |none=>
  unfold bH at hx
  split at hx
  ·cases hx
  rename_i hl
  simp only[G5,Gw]at hl
  simp only[bM,bM.iE,W8,Gw,Gy,nK,decide_eq_false hl,om]
  cases decide (b≤4096)<;>simp[cr]
theorem B4 {p o v}(hv:bH o [p]=En v):(∀ {b t:Nat} {h:qh} {bb:Bool},bM 2 b h (En t) (En (sl 2 bn o)) (En (.list bb 2 [.agg [.str p.k,.int .i64 p.n]]))=cr (decide (b≤4096)) (En ⟨sl 2 bn v,Ey,En t,h⟩))∧(∀ {b:Nat} {h:qh} {bb:Bool},o.isNone=Ey→bM 2 b h Gn (En (sl 2 bn o)) (En (.list bb 2 [.agg [.str p.k,.int .i64 p.n]]))=cr (decide (b≤4096)) (En ⟨sl 2 bn v,Ey,Gn,h⟩)):=⟨jgc hv,jgd hv⟩
theorem E6 {p o v}(hv:bH o [p]=En v):(∀ {b t:Nat} {h:qh} {bb:Bool},bM 3 b h (En t) (En (sl 3 ja o)) (En (.list bb 3 [.agg [.str p.k,.int .i64 p.a,.int .i64 p.b]]))=cr (decide (b≤4096)) (En ⟨sl 3 ja v,Ey,En t,h⟩))∧(∀ {b:Nat} {h:qh} {bb:Bool},o.isNone=Ey→bM 3 b h Gn (En (sl 3 ja o)) (En (.list bb 3 [.agg [.str p.k,.int .i64 p.a,.int .i64 p.b]]))=cr (decide (b≤4096)) (En ⟨sl 3 ja v,Ey,Gn,h⟩)):=⟨jdp hv,jdq hv⟩
theorem Xr {p o v}(hv:bH o [p]=En v):(∀ {b t:Nat} {h:qh} {bb:Bool},bM 5 b h (En t) (En (sl 5 jc o)) (En (.list bb 5 [.agg [.str p.name,.str p.kind,.int .i64 p.count,.int .i64 p.left,.bool p.held]]))=cr (decide (b≤4096)) (En ⟨sl 5 jc v,Ey,En t,h⟩))∧(∀ {b:Nat} {h:qh} {bb:Bool},o.isNone=Ey→bM 5 b h Gn (En (sl 5 jc o)) (En (.list bb 5 [.agg [.str p.name,.str p.kind,.int .i64 p.count,.int .i64 p.left,.bool p.held]]))=cr (decide (b≤4096)) (En ⟨sl 5 jc v,Ey,Gn,h⟩)):=⟨qve hv,qw5 hv⟩
theorem q9g {p o v}(hv:bH o [p]=En v):(∀ {b t:Nat} {h:qh} {bb:Bool},bM 2 b h (En t) (En (sl 2 yq o)) (En (.list bb 2 [.agg [sl 2 bn p.aK,sl 3 ja p.az]]))=cr (decide (b≤4096)) (En ⟨sl 2 yq v,Ey,En t,h⟩))∧(∀ {b:Nat} {h:qh} {bb:Bool},o.isNone=Ey→bM 2 b h Gn (En (sl 2 yq o)) (En (.list bb 2 [.agg [sl 2 bn p.aK,sl 3 ja p.az]]))=cr (decide (b≤4096)) (En ⟨sl 2 yq v,Ey,Gn,h⟩)):=⟨jbn hv,jdl hv⟩
theorem q57 {p o v}(hv:bH o [p]=En v):(∀ {b t:Nat} {h:qh} {bb:Bool},bM 4 b h (En t) (En (sl 4 qv o)) (En (.list bb 4 [.agg [.str p.name,sl 2 bn p.dn,sl 3 ja p.dt,sl 2 yq p.aM]]))=cr (decide (b≤4096)) (En ⟨sl 4 qv v,Ey,En t,h⟩))∧(∀ {b:Nat} {h:qh} {bb:Bool},o.isNone=Ey→bM 4 b h Gn (En (sl 4 qv o)) (En (.list bb 4 [.agg [.str p.name,sl 2 bn p.dn,sl 3 ja p.dt,sl 2 yq p.aM]]))=cr (decide (b≤4096)) (En ⟨sl 4 qv v,Ey,Gn,h⟩)):=⟨q72 hv,q67 hv⟩
theorem Xt {p o v}(hv:bH o [p]=En v):(∀ {b t:Nat} {h:qh} {bb:Bool},bM 8 b h (En t) (En (sl 8 aY o)) (En (.list bb 8 [.agg [.str p.name,.str p.product,.int .i64 p.version,sl 2 bn p.uses,sl 3 ja p.results,.str p.partner,.bool p.shipped,.int .i64 p.ai]]))=cr (decide (b≤4096)) (En ⟨sl 8 aY v,Ey,En t,h⟩))∧(∀ {b:Nat} {h:qh} {bb:Bool},o.isNone=Ey→bM 8 b h Gn (En (sl 8 aY o)) (En (.list bb 8 [.agg [.str p.name,.str p.product,.int .i64 p.version,sl 2 bn p.uses,sl 3 ja p.results,.str p.partner,.bool p.shipped,.int .i64 p.ai]]))=cr (decide (b≤4096)) (En ⟨sl 8 aY v,Ey,Gn,h⟩)):=⟨jgs hv,jgy hv⟩
theorem jr1 {p o v}(hv:bH o [p]=En v):(∀ {b t:Nat} {h:qh} {bb:Bool},bM 4 b h (En t) (En (sl 4 zo o)) (En (.list bb 4 [.agg [.int .i64 p.day,sl 5 jc p.lots,sl 4 qv p.ae,sl 8 aY p.units]]))=cr (decide (b≤4096)) (En ⟨sl 4 zo v,Ey,En t,h⟩))∧(∀ {b:Nat} {h:qh} {bb:Bool},o.isNone=Ey→bM 4 b h Gn (En (sl 4 zo o)) (En (.list bb 4 [.agg [.int .i64 p.day,sl 5 jc p.lots,sl 4 qv p.ae,sl 8 aY p.units]]))=cr (decide (b≤4096)) (En ⟨sl 4 zo v,Ey,Gn,h⟩)):=⟨jca hv,jcj hv⟩
theorem jy8 {p o v}(hv:bH o [p]=En v):(∀ {b t:Nat} {h:qh} {bb:Bool},bM 5 b h (En t) (En (sl 5 vev o)) (En (.list bb 5 [.agg [.int .i64 p.number,.str p.kind,sl 1 j9 p.names,sl 1 jm p.values,.str p.text]]))=cr (decide (b≤4096)) (En ⟨sl 5 vev v,Ey,En t,h⟩))∧(∀ {b:Nat} {h:qh} {bb:Bool},o.isNone=Ey→bM 5 b h Gn (En (sl 5 vev o)) (En (.list bb 5 [.agg [.int .i64 p.number,.str p.kind,sl 1 j9 p.names,sl 1 jm p.values,.str p.text]]))=cr (decide (b≤4096)) (En ⟨sl 5 vev v,Ey,Gn,h⟩)):=⟨jeq hv,jgo hv⟩
theorem q8p {x o v}(hv:bH o [x]=En v):(∀ {b t:Nat} {h:qh} {bb:Bool},bM 1 b h (En t) (En (sl 1 jm o)) (En (.list bb 1 [.int .i64 x]))=cr (decide (b≤4096)) (En ⟨sl 1 jm v,Ey,En t,h⟩))∧(∀ {b:Nat} {h:qh} {bb:Bool},o.isNone=Ey→bM 1 b h Gn (En (sl 1 jm o)) (En (.list bb 1 [.int .i64 x]))=cr (decide (b≤4096)) (En ⟨sl 1 jm v,Ey,Gn,h⟩)):=⟨jdo hv,jde hv⟩
theorem M8 {x o v}(hv:bH o [x]=En v):(∀ {b t:Nat} {h:qh} {bb:Bool},bM 1 b h (En t) (En (sl 1 j9 o)) (En (.list bb 1 [.str x]))=cr (decide (b≤4096)) (En ⟨sl 1 j9 v,Ey,En t,h⟩))∧(∀ {b:Nat} {h:qh} {bb:Bool},o.isNone=Ey→bM 1 b h Gn (En (sl 1 j9 o)) (En (.list bb 1 [.str x]))=cr (decide (b≤4096)) (En ⟨sl 1 j9 v,Ey,Gn,h⟩)):=⟨jcv hv,fun hn=>vP (by omega) rfl hn hv⟩
theorem jev {α:Type}{o v hi}(hv:vQ o Gn (En hi)=En v):∀(h:qh) (z:Nat) (f:α→AVal) (k:IntKind),rU z h (En (sl z f o)) Gn (En (En (.int k hi)))=En ⟨sl z f v,Gp,Gn,h⟩:=fun _ _ _ _=>jpv hv
@[go_sem] theorem j2f {n v}:below n (.ah v)=below n v:=rfl
structure rV where
 names:Int
 values:Int
 known:Bool
theorem jtv {a0 b0 a1 b1 a2 b2}:y6 [.str,.int,.int] [.str a0,.int .i64 a1,.int .i64 a2] [.str b0,.int .i64 b1,.int .i64 b2]=En (decide (a0=b0)&&decide (a1=b1)&&decide (a2=b2)):=by
 have e:∀x y:Int,(x == y)=decide (x=y):=fun x y=>by by_cases h:x=y<;>simp[h]
 have e':∀x y:List UInt8,(x == y)=decide (x=y):=fun x y=>by by_cases h:x=y<;>simp[h]
 have e2:∀x y:Bool,(x == y)=decide (x=y):=fun x y=>by cases x<;>cases y<;>rfl
 simp only[y6,ni,e,e',e2,decide_true,cond_true]
 by_cases h0:a0=b0<;>by_cases h1:a1=b1<;>by_cases h2:a2=b2<;>simp[h0,h1,h2]
@[go_sem] theorem zmh {h a0 b0 a1 b1 a2 b2}:Xu [.str,.int,.int] Ey h (En (.agg [.str a0,.int .i64 a1,.int .i64 a2])) (En (.agg [.str b0,.int .i64 b1,.int .i64 b2]))=En ⟨.bool (!(decide (a0=b0)&&decide (a1=b1)&&decide (a2=b2))),Gp,Gn,h⟩:=by
 show(match y6 [.str,.int,.int] [.str a0,.int .i64 a1,.int .i64 a2] [.str b0,.int .i64 b1,.int .i64 b2]with|some t=>val h (.bool (bif Ey then !t else t))|none=>Gn)=_
 rw[jtv]
 rfl
@[go_sem] theorem zcz {h0 al h g a b}:gC h0 al Gp 1 h (En (.ah (.fn g a b)))=En ⟨.fn g a b,Gp,Gn,h⟩:=rfl
def zO (h:qh)(zero:AVal)(r:Option (Option (Nat×AVal))):Option bj:=match r with
 |some (En (_,v))=>En ⟨.aB [v,.bool Ey],Gp,Gn,h⟩
 |some Gn=>En ⟨.aB [zero,.bool Gp],Gp,Gn,h⟩
 |none=>Gn
@[go_sem] theorem jzs {h z v i}:zO h z (En (En (i,v)))=En ⟨.aB [v,.bool Ey],Gp,Gn,h⟩:=rfl
@[go_sem] theorem jzv {h z}:zO h z (En Gn)=En ⟨.aB [z,.bool Gp],Gp,Gn,h⟩:=rfl
def M9 (h:qh)(kd:Kd)(z kv:AVal)(x:Option bh):Option bj:=match x with
 |some (.map es)=>zO h z (jq kd kv es 0)
 |_=>Gn
@[go_sem] theorem j35 {h kd z kv es}:M9 h kd z kv (En (.map es))=zO h z (jq kd kv es 0):=rfl
def Xv (h0:Nat)(al:Option (List Nat))(h:qh)(kd:Kd)(z:AVal)(m k:Option AVal):Option bj:=match m,k with
 |some (.map b),En kv=>cr (zd h0 al b) (M9 h kd z kv h[b]?)
 |some .bY,En _=>En ⟨.aB [z,.bool Gp],Gp,Gn,h⟩
 |_,_=>Gn
@[go_sem] theorem jto {h0 al h kd z kv b}:Xv h0 al h kd z (En (.map b)) (En kv)=cr (zd h0 al b) (M9 h kd z kv h[b]?):=rfl
@[go_sem] theorem zao {p xc h0 al e h kd z m k}:qf p xc h0 al e h (.lookup kd z Ey m k)=Xv h0 al h kd z (qi e m) (qi e k):=by
 simp only[qf,ym,Xv]
 cases qi e m with
 |none=>cases qi e k<;>rfl
 |some v=>cases qi e k with
  |none=>cases v<;>rfl
  |some kv=>cases v with
   |map b=>
    simp only[cr,zm,M9,zO]
    cases zd h0 al b with
    |false=>rfl
    |true=>
     simp only[cond_true]
     cases h[b]? with
     |none=>rfl
     |some x=>cases x with
      |map es=>
       simp only[]
       cases jq kd kv es 0 with
       |none=>rfl
       |some r=>cases r<;>rfl
      |_=>rfl
   |_=>rfl
theorem Ii {σ δ γ:Type}(n:Nat)(mk:Nat→σ)(f:σ→Option (σ⊕δ))(V:δ→γ)(r:Nat→γ)(dD:∃d,f (mk n)=En (.inr d)∧V d=r n)
  (cK:∀i,i<n→(f (mk i)=En (.inl (mk (i+1)))∧r i=r (i+1))∨(∃d,f (mk i)=En (.inr d)∧V d=r i)):∃d,bm f (mk 0)=En d∧V d=r 0:=by
 have key:∀(k i:Nat),i+k=n→∃d,bm f (mk i)=En d∧V d=r i:=by
  intro k
  induction k with
  |zero=>
   intro i hi
   have:i=n:=by omega
   subst this
   obtain⟨d,h1,h2⟩:=dD
   exact⟨d,ki h1,h2⟩
  |succ k ih=>
   intro i hi
   rcases cK i (by omega)with⟨h1,h2⟩|⟨d,h1,h2⟩
   ·rw[oA h1,h2];exact ih (i+1) (by omega)
   ·exact⟨d,ki h1,h2⟩
 exact key n 0 (by omega)
theorem Xw {α δ:Type}(l:List α)(f:Int→Option (Int⊕δ))(q:α→Bool)(V:δ→Bool)(dD:∃d,f (l.length:Int)=En (.inr d)∧V d=Ey)
  (cK:∀(i:Nat) x,l[i]?=En x→i<l.length→(q x=Ey∧f (i:Int)=En (.inl ((i+1:Nat):Int)))∨(q x=Gp∧∃d,f (i:Int)=En (.inr d)∧V d=Gp)):∃d,bm f 0=En d∧V d=l.all q:=by
 have:=Ii l.length (fun i=>(i:Int)) f V (fun i=>(l.drop i).all q) (by rw[Gz (Nat.le_refl _)];exact dD) (fun i hi=>by
  obtain⟨x,hx⟩:∃x,l[i]?=En x:=⟨_,Gv hi⟩
  simp only[rW hx,List.all_cons]
  rcases cK i x hx hi with⟨h1,h2⟩|⟨h1,h2⟩
  ·rw[h1];exact .inl ⟨h2,rfl⟩
  ·rw[h1];exact .inr h2)
 simpa using this
theorem jhr {α β:Type}(l:List α)(ix:Nat→Int)(f:Option (List β)×Int×Bool→Option ((Option (List β)×Int×Bool)⊕(Option (List β)×Bool×Int)))(h:α→List β)(a0:List β)(I:Nat→List β→Prop)(hI:I 0 a0)
  (dD:∀a,f (jl a,ix l.length,ic a)=En (.inr (jl a,ic a,ix l.length)))
  (cK:∀(i:Nat) x a,l[i]?=En x→i<l.length→I i a→I (i+1) (a++h x)∧f (jl a,ix i,ic a)=En (.inl (jl (a++h x),ix (i+1),ic (a++h x)))):
  bm f (jl a0,ix 0,ic a0)=En (jl (a0++l.flatMap h),ic (a0++l.flatMap h),ix l.length):=by
 have key:∀(k i:Nat),i+k=l.length→∀a,I i a→bm f (jl a,ix i,ic a)=En (jl (a++(l.drop i).flatMap h),ic (a++(l.drop i).flatMap h),ix l.length):=by
  intro k
  induction k with
  |zero=>
   intro i hi a _
   have:i=l.length:=by omega
   subst this
   rw[Gz (Nat.le_refl _),List.flatMap_nil,List.append_nil,ki (dD a)]
  |succ k ih=>
   intro i hi a ha
   obtain⟨x,hx⟩:∃x,l[i]?=En x:=⟨_,Gv (by omega)⟩
   obtain⟨h1,h2⟩:=cK i x a hx (by omega) ha
   rw[oA h2,ih (i+1) (by omega) _ h1,rW hx,G1,List.append_assoc]
 have:=key l.length 0 (by omega) a0 hI
 rwa [List.drop_zero]at this
theorem qwi {α:Type}{a:List α}{x}(h:a.length<1073741824):bH (jl a) [x]=En (jl (a++[x])):=by
 unfold bH
 cases a with
 |nil=>rfl
 |cons y a=>
  have:((jl (y::a)).getD []).length + [x].length≤1073741824:=by simp[jl]at h ⊢;omega
  rw[if_pos this];rfl
theorem zP {α γ:Type}{a:List α}{x:α}{k:Option (List α)→Option γ}(h:a.length<1073741824):cond (ic a) (qa (bH (jl a) [x]) k) (cond (jl a).isNone (qa (bH (jl a) [x]) k) Gn)=k (jl (a++[x])):=by
 rw[qwi h]
 cases a<;>rfl
theorem j8 {α:Type}(a:List α):(jl a).getD []=a:=by cases a<;>rfl
theorem Na {α β:Type}(h:α→β):∀l:List α,l.flatMap (fun x=>[h x])=l.map h
 | []=>rfl
 |x::l=>by rw[G1,Na h l];rfl
theorem jb {α:Type}{l:List α}{i:Nat}{x:α}(hx:l[i]?=En x):qr l (i:Int)=En x:=by rw[jj9,hx]
theorem ye {α:Type}{l:List α}{i}(h:i<l.length):decide ((i:Int)<(l.length:Int))=Ey:=decide_eq_true (by omega)
theorem zr {n}:decide ((n:Int)<(n:Int))=Gp:=decide_eq_false (by omega)
end Go.Z
namespace Go.Z
open Go Go.Abs Go.W
def iV:List (List UInt8×List UInt8×Int×Nat):=[(kH,[45,45],2,168),(nL,[45],1,169),(mQ,[112,45],2,170),(nM,[112,45],3,171),(pW,[112],1,172),(mR,[45,112],1,173),(mS,[117,108],2,174),(pg,[117,45],2,175),(pX,[117],1,176),(nO,[117,117],1,177),(oB,[108],1,178),(rX,[108],1,179),(kw,[117],1,180),(zQ,[117],1,181),(mT,[],0,0)]
def fnv (k:Nat):AVal:=bif Nat.beq k 0 then .cz else .fn (.func k) [] []
def ph (x:List UInt8):Option (List UInt8×List UInt8×Int×Nat):=iV.find? fun f=>decide (x=f.1)
def zc (x:List UInt8):List UInt8:=match ph x with
 |some f=>f.2.1
 |none=>[]
def nP (x:List UInt8):Int:=match ph x with
 |some f=>f.2.2.1
 |none=>0
def l4 (x:List UInt8):AVal:=match ph x with
 |some f=>fnv f.2.2.2
 |none=>.cz
def E7 (x:List UInt8):Bool:=(ph x).isSome
theorem qw6:q9=iV.map fun f=>(.str f.1,.agg [.str f.2.1,.int .i64 f.2.2.1,fnv f.2.2.2]):=rfl
theorem Xx (x:List UInt8)(h:qh):∀(l:List (List UInt8×List UInt8×Int×Nat)) (n:Nat),jq .str (.str x) (l.map fun f=>(.str f.1,.agg [.str f.2.1,.int .i64 f.2.2.1,fnv f.2.2.2])) n=En Gn∧l.find? (fun f=>decide (x=f.1))=Gn∨∃i f,jq .str (.str x) (l.map fun f=>(.str f.1,.agg [.str f.2.1,.int .i64 f.2.2.1,fnv f.2.2.2])) n=En (En (i,.agg [.str f.2.1,.int .i64 f.2.2.1,fnv f.2.2.2]))∧l.find? (fun f=>decide (x=f.1))=En f
 | [],n=>.inl ⟨rfl,rfl⟩
 |f::l,n=>by
  have he:ni .str (.str x) (.str f.1)=En (decide (x=f.1)):=by
   show En (x == f.1)=_
   by_cases hx:x=f.1<;>simp[hx]
  by_cases hx:x=f.1
  ·refine .inr ⟨n,f,?_,?_⟩
   ·simp only[Gs,jq,he,decide_eq_true hx]
   ·simp[Gq,hx]
  ·rcases Xx x h l (n+1)with⟨h1,h2⟩|⟨i,g,h1,h2⟩
   ·exact .inl ⟨by simp only[Gs,jq,he,hx,decide_false];exact h1,by simp only[Gq,hx,decide_false];exact h2⟩
   ·exact .inr ⟨i,g,by simp only[Gs,jq,he,hx,decide_false];exact h1,by simp only[Gq,hx,decide_false];exact h2⟩
@[go_sem] theorem zdo {h g a b}:vL Gp h (En (.fn g a b))=En ⟨.ah (.fn g a b),Gp,Gn,h⟩:=rfl
@[go_sem] theorem zm6:pr.maps 101=En q9:=rfl
theorem jp6 {h}(x:List UInt8):zO h (.agg [.str [],.int .i64 0,.cz]) (jq .str (.str x) q9 0)=En ⟨.aB [.agg [.str (zc x),.int .i64 (nP x),l4 x],.bool (E7 x)],Gp,Gn,h⟩:=by
 rw[qw6]
 rcases Xx x h iV 0 with⟨h1,h2⟩|⟨i,f,h1,h2⟩
 ·rw[h1];simp only[zO,zc,nP,l4,E7,ph,h2];rfl
 ·rw[h1];simp only[zO,zc,nP,l4,E7,ph,h2];rfl
theorem Nb {h}(x:List UInt8):pU h (.agg [.str [],.int .i64 0,.cz]) (jq .str (.str x) q9 0)=En ⟨.agg [.str (zc x),.int .i64 (nP x),l4 x],Gp,Gn,h⟩:=by
 rw[qw6]
 rcases Xx x h iV 0 with⟨h1,h2⟩|⟨i,f,h1,h2⟩
 ·rw[h1];simp only[pU,zc,nP,l4,ph,h2];rfl
 ·rw[h1];simp only[pU,zc,nP,l4,ph,h2];rfl
@[go_sem] theorem zmr {x}:qk (l4 x)=Ey:=by
 unfold l4
 split
 ·rename_i f _;simp only[fnv];cases Nat.beq f.2.2.2 0<;>rfl
 ·rfl
def eW (l:List (List UInt8×Int)):List (AVal×AVal):=l.map fun p=>(.str p.1,.int .i64 p.2)
def mU (l:List (List UInt8×Int))(k:List UInt8):Int:=match l.find? fun p=>decide (k=p.1)with
 |some p=>p.2
 |none=>0
def ll:List (List UInt8×Int)→List UInt8→Int→List (List UInt8×Int)
 | [],k,v=>[(k,v)]
 |p::l,k,v=>if k=p.1 then(p.1,v)::l else p::ll l k v
def Nc (l:List (List UInt8×Int))(k:List UInt8)(v:Int):Option (List (List UInt8×Int)):=if l.length≤1073741824 then En (ll l k v)else Gn
theorem E8 {k s}:ni .str (.str k) (.str s)=En (decide (k=s)):=by
 show En (k == s)=_
 by_cases hx:k=s<;>simp[hx]
theorem Xy (k:List UInt8):∀(l:List (List UInt8×Int)) (n:Nat),(jq .str (.str k) (eW l) n=En Gn∧l.find? (fun p=>decide (k=p.1))=Gn∧∀v,eW (ll l k v)=eW l++[(.str k,.int .i64 v)])∨∃i p,jq .str (.str k) (eW l) n=En (En (n+i,.int .i64 p.2))∧l.find? (fun p=>decide (k=p.1))=En p∧∀v,eW (ll l k v)=pH (eW l) i (.int .i64 v)
 | [],n=>.inl ⟨rfl,rfl,fun _=>rfl⟩
 |p::l,n=>by
  by_cases hx:k=p.1
  ·refine .inr ⟨0,p,?_,?_,fun v=>?_⟩
   ·simp only[eW,Gs,jq,E8,decide_eq_true hx];rfl
   ·simp[Gq,hx]
   ·simp only[ll,if_pos hx];rfl
  ·rcases Xy k l (n+1)with⟨h1,h2,h3⟩|⟨i,q,h1,h2,h3⟩
   ·refine .inl ⟨?_,?_,fun v=>?_⟩
    ·simp only[eW,Gs,jq,E8,decide_eq_false hx];exact h1
    ·simp only[Gq,decide_eq_false hx];exact h2
    ·simp only[ll,if_neg hx]
     show _::eW (ll l k v)=_
     rw[h3];rfl
   ·refine .inr ⟨i+1,q,?_,?_,fun v=>?_⟩
    ·simp only[eW,Gs,jq,E8,decide_eq_false hx]
     rw[show n+(i+1)=n+1+i by omega];exact h1
    ·simp only[Gq,decide_eq_false hx];exact h2
    ·simp only[ll,if_neg hx]
     show _::eW (ll l k v)=_
     rw[h3];rfl
theorem jok {h l k}:pU h (.int .i64 0) (jq .str (.str k) (eW l) 0)=En ⟨.int .i64 (mU l k),Gp,Gn,h⟩:=by
 unfold mU
 rcases Xy k l 0 with⟨h1,h2,_⟩|⟨i,p,h1,h2,_⟩<;>rw[h1,h2]<;>rfl
theorem jv0 {h b l v k n}(hv:Nc l k n=En v):pV h b (eW l) (.str k) (.int .i64 n) (jq .str (.str k) (eW l) 0)=fO (jt h b (.map (eW v))) .undef:=by
 unfold Nc at hv
 split at hv
 ·rename_i hl
  cases hv
  rcases Xy k l 0 with⟨h1,h2,h3⟩|⟨i,p,h1,h2,h3⟩
  ·rw[h1,h3]
   have:Nat.ble (eW l).length 1073741824=Ey:=Nat.ble_eq_true_of_le (by rw[eW,Gy];exact hl)
   simp only[pV,this,cr,cond_true]
  ·rw[h1,h3,Nat.zero_add];rfl
 ·cases hv
theorem jmr {l k k' v}:mU (ll l k v) k'=if k'=k then v else mU l k':=by
 induction l with
 |nil=>by_cases h:k'=k<;>simp[ll,mU,Gq,h]
 |cons p l ih=>
  unfold mU at ih ⊢
  by_cases hk:k=p.1
  ·by_cases h:k'=k
   ·subst h;simp[ll,Gq,←hk]
   ·have h2:¬k'=p.1:=by rw[←hk];exact h
    simp[ll,Gq,hk,h2]
  ·by_cases h2:k'=p.1
   ·have h3:¬k'=k:=by rw[h2];exact fun h=>hk h.symm
    have h4:¬p.1=k:=fun h=>hk h.symm
    simp[ll,Gq,hk,h2,h4]
   ·simp only[ll,if_neg hk,Gq,decide_eq_false h2]
    exact ih
@[go_sem] theorem zap {h0 al h b}:gC h0 al Gp 1 h (En (.ah (.map b)))=En ⟨.map b,Gp,Gn,h⟩:=rfl
@[go_sem] theorem q90 {n l}:vg n (eW l)=Ey:=by
 induction l with
 |nil=>rfl
 |cons p l ih=>simp only[eW,Gs,vg,below,Bool.true_and];exact ih
@[go_sem] theorem jsn {n l}:pF n (.map (eW l))=Ey:=q90
end Go.Z
