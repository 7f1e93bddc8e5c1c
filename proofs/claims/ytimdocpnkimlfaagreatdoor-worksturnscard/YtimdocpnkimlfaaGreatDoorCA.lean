/- The structs of chapter 10 and their cells; what they are in plain lists. -/
import Derived.Test.YtimdocpnkimlfaaGreatDoorL1
import Derived.Test.YtimdocpnkimlfaaGreatDoorWS
import Derived.Test.YtimdocpnkimlfaaGreatDoorZM
set_option linter.unusedVariables false
set_option linter.unusedSimpArgs false
set_option maxRecDepth 100000
open Option renaming some→En,none→E9,getD_some→Gt
open Bool renaming true→Es,false→Ga,and_eq_true→Gs
open List renaming find?→Gd,map_cons→Ge,getElem?_eq_none_iff→Gf,getElem?_eq_getElem→Gi,length_nil→Gj,length_map→Gl,drop_eq_nil_of_le→Gm,flatMap_cons→Gp
open Nat renaming blt→Gn
namespace Go.Z
open Go Go.Abs Go.W
def bp (p:bn):AVal:=.agg [.str p.k,.int .i64 p.n]
@[go_sem] theorem zel {p}:(bp p).flat=[.str p.k,.int .i64 p.n]:=rfl
@[go_sem] theorem jdo {n}(p:bn):below n (bp p)=Es:=by rfl
@[go_sem] theorem j18 {n z l}:below n (sl z bp l)=Es:=vi jdo
@[go_sem] theorem zh1 {p}:AVal.ai (bp p)=.ai (.agg [.str p.k,.int .i64 p.n]):=rfl
theorem jdy {b t h bb p o v}(hv:bq o [p]=En v):bS 2 b h (En t) (En (sl 2 bp o)) (En (.list bb 2 [.agg [.str p.k,.int .i64 p.n]]))=cq (decide (b≤4096)) (En ⟨sl 2 bp v,Es,En t,h⟩):=vo (x:=p) (by omega) rfl hv
theorem jd1 {b h bb p o v}(hv:bq o [p]=En v)(hn:o.isNone=Es):bS 2 b h E9 (En (sl 2 bp o)) (En (.list bb 2 [.agg [.str p.k,.int .i64 p.n]]))=cq (decide (b≤4096)) (En ⟨sl 2 bp v,Es,E9,h⟩):=vp (x:=p) (by omega) rfl hn hv
def q9 (p:jb):AVal:=.agg [.str p.k,.int .i64 p.a,.int .i64 p.b]
@[go_sem] theorem j88 {p}:(q9 p).flat=[.str p.k,.int .i64 p.a,.int .i64 p.b]:=rfl
@[go_sem] theorem jai {n}(p:jb):below n (q9 p)=Es:=by rfl
@[go_sem] theorem jx2 {n z l}:below n (sl z q9 l)=Es:=vi jai
@[go_sem] theorem jb8 {p}:AVal.ai (q9 p)=.ai (.agg [.str p.k,.int .i64 p.a,.int .i64 p.b]):=rfl
theorem q8p {b t h bb p o v}(hv:bq o [p]=En v):bS 3 b h (En t) (En (sl 3 q9 o)) (En (.list bb 3 [.agg [.str p.k,.int .i64 p.a,.int .i64 p.b]]))=cq (decide (b≤4096)) (En ⟨sl 3 q9 v,Es,En t,h⟩):=vo (x:=p) (by omega) rfl hv
theorem q8f {b h bb p o v}(hv:bq o [p]=En v)(hn:o.isNone=Es):bS 3 b h E9 (En (sl 3 q9 o)) (En (.list bb 3 [.agg [.str p.k,.int .i64 p.a,.int .i64 p.b]]))=cq (decide (b≤4096)) (En ⟨sl 3 q9 v,Es,E9,h⟩):=vp (x:=p) (by omega) rfl hn hv
def jd (p:jc):AVal:=.agg [.str p.name,.str p.kind,.int .i64 p.count,.int .i64 p.left,.bool p.held]
@[go_sem] theorem j97 {p}:(jd p).flat=[.str p.name,.str p.kind,.int .i64 p.count,.int .i64 p.left,.bool p.held]:=rfl
@[go_sem] theorem q9y {n}(p:jc):below n (jd p)=Es:=by rfl
@[go_sem] theorem jyo {n z l}:below n (sl z jd l)=Es:=vi q9y
@[go_sem] theorem qzs {p}:AVal.ai (jd p)=.ai (.agg [.str p.name,.str p.kind,.int .i64 p.count,.int .i64 p.left,.bool p.held]):=rfl
theorem qv6 {b t h bb p o v}(hv:bq o [p]=En v):bS 5 b h (En t) (En (sl 5 jd o)) (En (.list bb 5 [.agg [.str p.name,.str p.kind,.int .i64 p.count,.int .i64 p.left,.bool p.held]]))=cq (decide (b≤4096)) (En ⟨sl 5 jd v,Es,En t,h⟩):=vo (x:=p) (by omega) rfl hv
theorem qvr {b h bb p o v}(hv:bq o [p]=En v)(hn:o.isNone=Es):bS 5 b h E9 (En (sl 5 jd o)) (En (.list bb 5 [.agg [.str p.name,.str p.kind,.int .i64 p.count,.int .i64 p.left,.bool p.held]]))=cq (decide (b≤4096)) (En ⟨sl 5 jd v,Es,E9,h⟩):=vp (x:=p) (by omega) rfl hn hv
structure aY where
 aB:Option (List bn)
 aA:Option (List jb)
def yb (p:aY):AVal:=.agg [sl 2 bp p.aB,sl 3 q9 p.aA]
@[go_sem] theorem j8x {p}:(yb p).flat=[sl 2 bp p.aB,sl 3 q9 p.aA]:=rfl
@[go_sem] theorem jbr {n}(p:aY):below n (yb p)=Es:=by simp only[yb,go_sem]
@[go_sem] theorem jx3 {n z l}:below n (sl z yb l)=Es:=vi jbr
@[go_sem] theorem j8i {p}:AVal.ai (yb p)=.ai (.agg [sl 2 bp p.aB,sl 3 q9 p.aA]):=rfl
theorem jaq {b t h bb p o v}(hv:bq o [p]=En v):bS 2 b h (En t) (En (sl 2 yb o)) (En (.list bb 2 [.agg [sl 2 bp p.aB,sl 3 q9 p.aA]]))=cq (decide (b≤4096)) (En ⟨sl 2 yb v,Es,En t,h⟩):=vo (x:=p) (by omega) rfl hv
theorem q9c {b h bb p o v}(hv:bq o [p]=En v)(hn:o.isNone=Es):bS 2 b h E9 (En (sl 2 yb o)) (En (.list bb 2 [.agg [sl 2 bp p.aB,sl 3 q9 p.aA]]))=cq (decide (b≤4096)) (En ⟨sl 2 yb v,Es,E9,h⟩):=vp (x:=p) (by omega) rfl hn hv
structure aC where
 name:List UInt8
 dn:Option (List bn)
 dt:Option (List jb)
 aM:Option (List aY)
def qu (p:aC):AVal:=.agg [.str p.name,sl 2 bp p.dn,sl 3 q9 p.dt,sl 2 yb p.aM]
@[go_sem] theorem jaf {p}:(qu p).flat=[.str p.name,sl 2 bp p.dn,sl 3 q9 p.dt,sl 2 yb p.aM]:=rfl
@[go_sem] theorem q6f {n}(p:aC):below n (qu p)=Es:=by simp only[qu,go_sem]
@[go_sem] theorem ju2 {n z l}:below n (sl z qu l)=Es:=vi q6f
@[go_sem] theorem j7z {p}:AVal.ai (qu p)=.ai (.agg [.str p.name,sl 2 bp p.dn,sl 3 q9 p.dt,sl 2 yb p.aM]):=rfl
theorem q6y {b t h bb p o v}(hv:bq o [p]=En v):bS 4 b h (En t) (En (sl 4 qu o)) (En (.list bb 4 [.agg [.str p.name,sl 2 bp p.dn,sl 3 q9 p.dt,sl 2 yb p.aM]]))=cq (decide (b≤4096)) (En ⟨sl 4 qu v,Es,En t,h⟩):=vo (x:=p) (by omega) rfl hv
theorem q6r {b h bb p o v}(hv:bq o [p]=En v)(hn:o.isNone=Es):bS 4 b h E9 (En (sl 4 qu o)) (En (.list bb 4 [.agg [.str p.name,sl 2 bp p.dn,sl 3 q9 p.dt,sl 2 yb p.aM]]))=cq (decide (b≤4096)) (En ⟨sl 4 qu v,Es,E9,h⟩):=vp (x:=p) (by omega) rfl hn hv
structure bh where
 name:List UInt8
 product:List UInt8
 version:Int
 uses:Option (List bn)
 results:Option (List jb)
 partner:List UInt8
 aq:Bool
 ah:Int
def bI (p:bh):AVal:=.agg [.str p.name,.str p.product,.int .i64 p.version,sl 2 bp p.uses,sl 3 q9 p.results,.str p.partner,.bool p.aq,.int .i64 p.ah]
@[go_sem] theorem ji0 {p}:(bI p).flat=[.str p.name,.str p.product,.int .i64 p.version,sl 2 bp p.uses,sl 3 q9 p.results,.str p.partner,.bool p.aq,.int .i64 p.ah]:=rfl
@[go_sem] theorem jdm {n}(p:bh):below n (bI p)=Es:=by simp only[bI,go_sem]
@[go_sem] theorem jzm {n z l}:below n (sl z bI l)=Es:=vi jdm
@[go_sem] theorem zcr {p}:AVal.ai (bI p)=.ai (.agg [.str p.name,.str p.product,.int .i64 p.version,sl 2 bp p.uses,sl 3 q9 p.results,.str p.partner,.bool p.aq,.int .i64 p.ah]):=rfl
theorem jce {b t h bb p o v}(hv:bq o [p]=En v):bS 8 b h (En t) (En (sl 8 bI o)) (En (.list bb 8 [.agg [.str p.name,.str p.product,.int .i64 p.version,sl 2 bp p.uses,sl 3 q9 p.results,.str p.partner,.bool p.aq,.int .i64 p.ah]]))=cq (decide (b≤4096)) (En ⟨sl 8 bI v,Es,En t,h⟩):=vo (x:=p) (by omega) rfl hv
theorem jde {b h bb p o v}(hv:bq o [p]=En v)(hn:o.isNone=Es):bS 8 b h E9 (En (sl 8 bI o)) (En (.list bb 8 [.agg [.str p.name,.str p.product,.int .i64 p.version,sl 2 bp p.uses,sl 3 q9 p.results,.str p.partner,.bool p.aq,.int .i64 p.ah]]))=cq (decide (b≤4096)) (En ⟨sl 8 bI v,Es,E9,h⟩):=vp (x:=p) (by omega) rfl hn hv
structure ar where
 day:Int
 au:Option (List jc)
 ae:Option (List aC)
 units:Option (List bh)
def jf (p:ar):AVal:=.agg [.int .i64 p.day,sl 5 jd p.au,sl 4 qu p.ae,sl 8 bI p.units]
@[go_sem] theorem j9j {p}:(jf p).flat=[.int .i64 p.day,sl 5 jd p.au,sl 4 qu p.ae,sl 8 bI p.units]:=rfl
@[go_sem] theorem jbp {n}(p:ar):below n (jf p)=Es:=by simp only[jf,go_sem]
@[go_sem] theorem jym {n z l}:below n (sl z jf l)=Es:=vi jbp
@[go_sem] theorem j94 {p}:AVal.ai (jf p)=.ai (.agg [.int .i64 p.day,sl 5 jd p.au,sl 4 qu p.ae,sl 8 bI p.units]):=rfl
theorem jaa {b t h bb p o v}(hv:bq o [p]=En v):bS 4 b h (En t) (En (sl 4 jf o)) (En (.list bb 4 [.agg [.int .i64 p.day,sl 5 jd p.au,sl 4 qu p.ae,sl 8 bI p.units]]))=cq (decide (b≤4096)) (En ⟨sl 4 jf v,Es,En t,h⟩):=vo (x:=p) (by omega) rfl hv
theorem jbf {b h bb p o v}(hv:bq o [p]=En v)(hn:o.isNone=Es):bS 4 b h E9 (En (sl 4 jf o)) (En (.list bb 4 [.agg [.int .i64 p.day,sl 5 jd p.au,sl 4 qu p.ae,sl 8 bI p.units]]))=cq (decide (b≤4096)) (En ⟨sl 4 jf v,Es,E9,h⟩):=vp (x:=p) (by omega) rfl hn hv
structure GEv where
 number:Int
 kind:List UInt8
 names:Option (List (List UInt8))
 values:Option (List Int)
 text:List UInt8
def vev (p:GEv):AVal:=.agg [.int .i64 p.number,.str p.kind,sl 1 yf p.names,sl 1 zy p.values,.str p.text]
@[go_sem] theorem zc3 {p}:(vev p).flat=[.int .i64 p.number,.str p.kind,sl 1 yf p.names,sl 1 zy p.values,.str p.text]:=rfl
@[go_sem] theorem je5 {n}(p:GEv):below n (vev p)=Es:=by simp only[vev,go_sem]
@[go_sem] theorem j7g {n z l}:below n (sl z vev l)=Es:=vi je5
@[go_sem] theorem zhc {p}:AVal.ai (vev p)=.ai (.agg [.int .i64 p.number,.str p.kind,sl 1 yf p.names,sl 1 zy p.values,.str p.text]):=rfl
theorem jey {b t h bb p o v}(hv:bq o [p]=En v):bS 5 b h (En t) (En (sl 5 vev o)) (En (.list bb 5 [.agg [.int .i64 p.number,.str p.kind,sl 1 yf p.names,sl 1 zy p.values,.str p.text]]))=cq (decide (b≤4096)) (En ⟨sl 5 vev v,Es,En t,h⟩):=vo (x:=p) (by omega) rfl hv
theorem jc7 {b h bb p o v}(hv:bq o [p]=En v)(hn:o.isNone=Es):bS 5 b h E9 (En (sl 5 vev o)) (En (.list bb 5 [.agg [.int .i64 p.number,.str p.kind,sl 1 yf p.names,sl 1 zy p.values,.str p.text]]))=cq (decide (b≤4096)) (En ⟨sl 5 vev v,Es,E9,h⟩):=vp (x:=p) (by omega) rfl hn hv
def aY.er (d:aY):gi:=⟨d.aB.getD [],d.aA.getD []⟩
def aC.er (p:aC):cY:=⟨p.name,⟨p.dn.getD [],p.dt.getD []⟩,(p.aM.getD []).map aY.er⟩
def bh.er (u:bh):br:=⟨u.name,u.product,u.version,u.uses.getD [],u.results.getD [],u.partner,u.aq,u.ah⟩
def ar.er (r:ar):bj:=⟨r.day,r.au.getD [],(r.ae.getD []).map aC.er,(r.units.getD []).map bh.er⟩
def GEv.er (e:GEv):dR:=⟨e.number,e.kind,e.names.getD [],e.values.getD [],e.text⟩
end Go.Z
namespace Go.Z
open Go Go.Abs Go.W
theorem S7 {hh}:∀ {xs:List AVal},qw 0 xs=Es→lJ hh xs=En xs
 | [],_=>rfl
 |x::xs,h=>by
  simp only[qw,Gs]at h
  have hx:kq hh x=En x:=by
   cases x with
   |ms b o n=>simp[Abs.below,Gn]at h
   |aj b o n=>simp[Abs.below,Gn]at h
   |_=>rfl
  simp only[lJ,hx,S7 h.2]
theorem qoq {hh}:∀ {xs:List AVal},qw 0 xs=Es→aJ.bH hh xs=En xs
 | [],_=>rfl
 |x::xs,h=>by
  simp only[qw,Gs]at h
  have ih:=qoq (hh:=hh) h.2
  cases x with
  |agg cs=>
   have h1:=h.1
   simp only[Abs.below]at h1
   simp only[aJ.bH,S7 h1,ih]
  |ms b o n=>simp[Abs.below,Gn]at h
  |aj b o n=>simp[Abs.below,Gn]at h
  |_=>simp only[aJ.bH,kq,ih]
theorem qpf {hh x}(h:Abs.below 0 x=Es):aJ hh x=En x:=by
 cases x with
 |agg cs=>
  simp only[Abs.below]at h
  simp only[aJ,S7 h]
 |aI vs=>
  simp only[Abs.below]at h
  simp only[aJ,qoq h]
 |ms b o n=>simp[Abs.below,Gn]at h
 |aj b o n=>simp[Abs.below,Gn]at h
 |_=>rfl
theorem zd {p k}(f:av){args v}(hc:∃hh,DS f.results (X p f.body ⟨oH 0 args,[]⟩)=some (v,false,hh))(hp:p.cO k=none:=by rfl)(hf:p.bG k=some f:=by rfl)(hl:Nat.ble args.length f.ntmps=true:=by rfl)(hv:below 0 v=true:=by first|rfl|simp only[go_sem,seval]):qc p (X p) k args=some (v,false):=by
 obtain⟨hh,hc⟩:=hc
 cases f with
 |mk n b r=>exact zx hp (by rw[qj hf (Nat.le_of_ble_eq_true hl)];exact hc) (qpf hv) hv
theorem kr {p k}(f:av){args v o}(hc:∃hh,DS f.results (X p f.body ⟨oH 0 args,[]⟩)=some (v,o,hh))(hp:p.cO k=none:=by rfl)(hf:p.bG k=some f:=by rfl)(hn:Nat.ble args.length f.ntmps=true:=by rfl)(hv:below 0 v=true:=by first|rfl|simp only[go_sem,seval])(hl:v.cS=true:=by first|rfl|simp only[go_sem,seval]):qc p (X p) k args=some (v,o):=by
 obtain⟨hh,hc⟩:=hc
 cases f with
 |mk n b r=>exact qya hp (by rw[qj hf (Nat.le_of_ble_eq_true hn)];exact hc) (qpf hv) hv hl
theorem jq {σ δ:Type}{p:jz}{c:aw}{St:σ→bf}{Ex:δ→je×bf}{s s':σ}(h:X p c (St s)=some (.normal,St s'))(hl:(St s').heap.length≤(St s).heap.length:=by exact Nat.le_refl _):jw p c St Ex s (.inl s'):=wy h (A3 hl)
theorem q7u {σ δ:Type}{p:jz}{c:aw}{St:σ→bf}{Ex:δ→je×bf}{s s':σ}(h:∃t,X p c (St s)=En (.normal,⟨(St s').env,(St s').heap++t⟩))(hn:(St s).heap.length=(St s').heap.length)(h1:mS (St s).heap.length (St s').env=Es)(h2:zk (St s).heap.length (St s').heap=Es):jw p c St Ex s (.inl s'):=by
 obtain⟨t,h⟩:=h
 exact wy h (jnz hn rfl h1 h2)
theorem l3 {α:Type}{z:Nat}{f:α→AVal}{l:List α}:sl z f (En l)=.list Ga z (l.map f):=rfl
theorem zg {α:Type}{z:Nat}{f:α→AVal}:sl z f E9=.list Es 0 []:=rfl
abbrev Iv (n:Int):AVal:=.int .i64 n
abbrev Lv {α:Type}(o:Option (List α)):AVal:=.int .i64 ((o.getD []).length:Int)
abbrev Nl:AVal:=.list Es 0 []
abbrev aE (e:GEv):AVal:=.agg [.int .i64 e.number,.str e.kind,sl 1 yf e.names,sl 1 zy e.values,.str e.text]
abbrev aR (r:ar):AVal:=.agg [.int .i64 r.day,sl 5 jd r.au,sl 4 qu r.ae,sl 8 bI r.units]
abbrev aU (u:bh):AVal:=.agg [.str u.name,.str u.product,.int .i64 u.version,sl 2 bp u.uses,sl 3 q9 u.results,.str u.partner,.bool u.aq,.int .i64 u.ah]
abbrev aL (l:jc):AVal:=.agg [.str l.name,.str l.kind,.int .i64 l.count,.int .i64 l.left,.bool l.held]
abbrev aP (p:aC):AVal:=.agg [.str p.name,sl 2 bp p.dn,sl 3 q9 p.dt,sl 2 yb p.aM]
abbrev aD (d:aY):AVal:=.agg [sl 2 bp d.aB,sl 3 q9 d.aA]
abbrev aT (x:jb):AVal:=.agg [.str x.k,.int .i64 x.a,.int .i64 x.b]
abbrev aN (x:bn):AVal:=.agg [.str x.k,.int .i64 x.n]
abbrev aG (a:Int)(b:Option (List jc))(c:Option (List aC))(d:Option (List bh)):AVal:=.agg [.int .i64 a,sl 5 jd b,sl 4 qu c,sl 8 bI d]
abbrev kS (a:Int)(b:Option (List jc))(o1:Bool)(c:Option (List aC))(o2:Bool)(d:Option (List bh))(o3:Bool):bg:=.cells [(.int .i64 a,Ga),(sl 5 jd b,o1),(sl 4 qu c,o2),(sl 8 bI d,o3)]
abbrev kR (a:Int)(b:Option (List jc))(c:Option (List aC))(d:Option (List bh)):bg:=.cells [(.int .i64 a,Ga),(sl 5 jd b,Ga),(sl 4 qu c,Ga),(sl 8 bI d,Ga)]
abbrev kO:bg:=.cells [(Nl,Ga),(Nl,Ga),(Nl,Ga)]
abbrev bD:bg:=.cells [(Nl,Ga),(Nl,Ga),(.aj 4 0 1,Ga)]
abbrev cm:bg:=.cells [(Nl,Ga),(Nl,Ga),(.aj 5 0 1,Ga)]
abbrev kZ:bg:=.cells [(.int .i64 0,Ga),(Nl,Ga),(Nl,Ga),(Nl,Ga)]
abbrev aZ:AVal:=.agg [.int .i64 0,Nl,Nl,Nl]
def om {α β:Type}(o:Option α)(f:α→β):Option β:=match o with
 |some x=>En (f x)
 |none=>E9
@[go_sem] theorem zlx {α β:Type}{x:α}{f:α→β}:om (En x) f=En (f x):=rfl
theorem jg {h:qh}{α:Type}{z:Nat}{f:α→AVal}{l k i}:hH z h (En (sl z f l)) (En (.int k i))=om (qq (l.getD []) i) fun x=>⟨.ai (f x),Ga,E9,h⟩:=by
 cases hx:qq (l.getD []) i with
 |some x=>exact zh hx
 |none=>
  have hi:vh (l.getD []).length i=E9:=by
   unfold qq at hx
   unfold vh
   by_cases h0:0≤i
   ·rw[if_pos h0]at hx
    rw[if_neg]
    intro hc
    have:=Gf.1 hx
    omega
   ·rw[if_neg (fun hc=>h0 hc.1)]
  cases l with
  |none=>simp only[sl,hH,yE,Option.getD_none,Gj]at hi ⊢;rw[hi];simp[om]
  |some l=>simp only[sl,hH,yE,Gt,Gl]at hi ⊢;rw[hi];simp[om]
theorem jlj {h s k i}:A5 h (En (.str s)) (En (.int k i))=om (qq s i) fun c=>⟨.int .u8 (c.toNat:Int),Ga,E9,h⟩:=by
 cases hx:qq s i with
 |some x=>exact jhx hx
 |none=>
  have hi:vh s.length i=E9:=by
   unfold qq at hx
   unfold vh
   by_cases h0:0≤i
   ·rw[if_pos h0]at hx
    rw[if_neg]
    intro hc
    have:=Gf.1 hx
    omega
   ·rw[if_neg (fun hc=>h0 hc.1)]
  simp only[A5,yE,hi,om]
theorem LC {h b pos s}:vm h b (En (.iter s pos))=cond (decide (pos<s.length)) (iz (jr h b (.iter s (pos+(qn s pos).2))) (.aI [.bool Es,.int .i64 pos,.int .i32 (qn s pos).1])) (En ⟨.aI [.bool Ga],Ga,E9,h⟩):=by
 cases hx:decide (pos<s.length)with
 |true=>exact jq8 hx
 |false=>exact jvs hx
theorem kc {h:qh}{α:Type}{z b t:Nat}{f:α→AVal}{o2}:bS (z+1) b h (En t) (En (.list Ga (z+1) [])) (En (sl (z+1) f o2))=cq (decide (b≤4096)) (om (bq (En []) (o2.getD [])) fun v=>⟨sl (z+1) f v,Es,En t,h⟩):=by
 cases hx:bq (En []) (o2.getD [])with
 |some x=>exact je2 hx
 |none=>
  unfold bq at hx
  split at hx
  ·cases hx
  rename_i hl
  simp only[Gt,Gj]at hl
  simp only[bS,bS.iA,SL,Gj,Gl,ny,decide_eq_false hl,om]
  cases decide (b≤4096)<;>simp[cq]
theorem wz {p o v}(hv:bq o [p]=En v):(∀ {b t:Nat} {h:qh} {bb:Bool},bS 2 b h (En t) (En (sl 2 bp o)) (En (.list bb 2 [.agg [.str p.k,.int .i64 p.n]]))=cq (decide (b≤4096)) (En ⟨sl 2 bp v,Es,En t,h⟩))∧(∀ {b:Nat} {h:qh} {bb:Bool},o.isNone=Es→bS 2 b h E9 (En (sl 2 bp o)) (En (.list bb 2 [.agg [.str p.k,.int .i64 p.n]]))=cq (decide (b≤4096)) (En ⟨sl 2 bp v,Es,E9,h⟩)):=⟨jdy hv,jd1 hv⟩
theorem yG {p o v}(hv:bq o [p]=En v):(∀ {b t:Nat} {h:qh} {bb:Bool},bS 3 b h (En t) (En (sl 3 q9 o)) (En (.list bb 3 [.agg [.str p.k,.int .i64 p.a,.int .i64 p.b]]))=cq (decide (b≤4096)) (En ⟨sl 3 q9 v,Es,En t,h⟩))∧(∀ {b:Nat} {h:qh} {bb:Bool},o.isNone=Es→bS 3 b h E9 (En (sl 3 q9 o)) (En (.list bb 3 [.agg [.str p.k,.int .i64 p.a,.int .i64 p.b]]))=cq (decide (b≤4096)) (En ⟨sl 3 q9 v,Es,E9,h⟩)):=⟨q8p hv,q8f hv⟩
theorem LD {p o v}(hv:bq o [p]=En v):(∀ {b t:Nat} {h:qh} {bb:Bool},bS 5 b h (En t) (En (sl 5 jd o)) (En (.list bb 5 [.agg [.str p.name,.str p.kind,.int .i64 p.count,.int .i64 p.left,.bool p.held]]))=cq (decide (b≤4096)) (En ⟨sl 5 jd v,Es,En t,h⟩))∧(∀ {b:Nat} {h:qh} {bb:Bool},o.isNone=Es→bS 5 b h E9 (En (sl 5 jd o)) (En (.list bb 5 [.agg [.str p.name,.str p.kind,.int .i64 p.count,.int .i64 p.left,.bool p.held]]))=cq (decide (b≤4096)) (En ⟨sl 5 jd v,Es,E9,h⟩)):=⟨qv6 hv,qvr hv⟩
theorem S8 {p o v}(hv:bq o [p]=En v):(∀ {b t:Nat} {h:qh} {bb:Bool},bS 2 b h (En t) (En (sl 2 yb o)) (En (.list bb 2 [.agg [sl 2 bp p.aB,sl 3 q9 p.aA]]))=cq (decide (b≤4096)) (En ⟨sl 2 yb v,Es,En t,h⟩))∧(∀ {b:Nat} {h:qh} {bb:Bool},o.isNone=Es→bS 2 b h E9 (En (sl 2 yb o)) (En (.list bb 2 [.agg [sl 2 bp p.aB,sl 3 q9 p.aA]]))=cq (decide (b≤4096)) (En ⟨sl 2 yb v,Es,E9,h⟩)):=⟨jaq hv,q9c hv⟩
theorem S9 {p o v}(hv:bq o [p]=En v):(∀ {b t:Nat} {h:qh} {bb:Bool},bS 4 b h (En t) (En (sl 4 qu o)) (En (.list bb 4 [.agg [.str p.name,sl 2 bp p.dn,sl 3 q9 p.dt,sl 2 yb p.aM]]))=cq (decide (b≤4096)) (En ⟨sl 4 qu v,Es,En t,h⟩))∧(∀ {b:Nat} {h:qh} {bb:Bool},o.isNone=Es→bS 4 b h E9 (En (sl 4 qu o)) (En (.list bb 4 [.agg [.str p.name,sl 2 bp p.dn,sl 3 q9 p.dt,sl 2 yb p.aM]]))=cq (decide (b≤4096)) (En ⟨sl 4 qu v,Es,E9,h⟩)):=⟨q6y hv,q6r hv⟩
theorem Ta {p o v}(hv:bq o [p]=En v):(∀ {b t:Nat} {h:qh} {bb:Bool},bS 8 b h (En t) (En (sl 8 bI o)) (En (.list bb 8 [.agg [.str p.name,.str p.product,.int .i64 p.version,sl 2 bp p.uses,sl 3 q9 p.results,.str p.partner,.bool p.aq,.int .i64 p.ah]]))=cq (decide (b≤4096)) (En ⟨sl 8 bI v,Es,En t,h⟩))∧(∀ {b:Nat} {h:qh} {bb:Bool},o.isNone=Es→bS 8 b h E9 (En (sl 8 bI o)) (En (.list bb 8 [.agg [.str p.name,.str p.product,.int .i64 p.version,sl 2 bp p.uses,sl 3 q9 p.results,.str p.partner,.bool p.aq,.int .i64 p.ah]]))=cq (decide (b≤4096)) (En ⟨sl 8 bI v,Es,E9,h⟩)):=⟨jce hv,jde hv⟩
theorem jpb {p o v}(hv:bq o [p]=En v):(∀ {b t:Nat} {h:qh} {bb:Bool},bS 4 b h (En t) (En (sl 4 jf o)) (En (.list bb 4 [.agg [.int .i64 p.day,sl 5 jd p.au,sl 4 qu p.ae,sl 8 bI p.units]]))=cq (decide (b≤4096)) (En ⟨sl 4 jf v,Es,En t,h⟩))∧(∀ {b:Nat} {h:qh} {bb:Bool},o.isNone=Es→bS 4 b h E9 (En (sl 4 jf o)) (En (.list bb 4 [.agg [.int .i64 p.day,sl 5 jd p.au,sl 4 qu p.ae,sl 8 bI p.units]]))=cq (decide (b≤4096)) (En ⟨sl 4 jf v,Es,E9,h⟩)):=⟨jaa hv,jbf hv⟩
theorem Tb {p o v}(hv:bq o [p]=En v):(∀ {b t:Nat} {h:qh} {bb:Bool},bS 5 b h (En t) (En (sl 5 vev o)) (En (.list bb 5 [.agg [.int .i64 p.number,.str p.kind,sl 1 yf p.names,sl 1 zy p.values,.str p.text]]))=cq (decide (b≤4096)) (En ⟨sl 5 vev v,Es,En t,h⟩))∧(∀ {b:Nat} {h:qh} {bb:Bool},o.isNone=Es→bS 5 b h E9 (En (sl 5 vev o)) (En (.list bb 5 [.agg [.int .i64 p.number,.str p.kind,sl 1 yf p.names,sl 1 zy p.values,.str p.text]]))=cq (decide (b≤4096)) (En ⟨sl 5 vev v,Es,E9,h⟩)):=⟨jey hv,jc7 hv⟩
theorem q74 {x o v}(hv:bq o [x]=En v):(∀ {b t:Nat} {h:qh} {bb:Bool},bS 1 b h (En t) (En (sl 1 zy o)) (En (.list bb 1 [.int .i64 x]))=cq (decide (b≤4096)) (En ⟨sl 1 zy v,Es,En t,h⟩))∧(∀ {b:Nat} {h:qh} {bb:Bool},o.isNone=Es→bS 1 b h E9 (En (sl 1 zy o)) (En (.list bb 1 [.int .i64 x]))=cq (decide (b≤4096)) (En ⟨sl 1 zy v,Es,E9,h⟩)):=⟨q96 hv,jbx hv⟩
theorem q7s {x o v}(hv:bq o [x]=En v):(∀ {b t:Nat} {h:qh} {bb:Bool},bS 1 b h (En t) (En (sl 1 yf o)) (En (.list bb 1 [.str x]))=cq (decide (b≤4096)) (En ⟨sl 1 yf v,Es,En t,h⟩))∧(∀ {b:Nat} {h:qh} {bb:Bool},o.isNone=Es→bS 1 b h E9 (En (sl 1 yf o)) (En (.list bb 1 [.str x]))=cq (decide (b≤4096)) (En ⟨sl 1 yf v,Es,E9,h⟩)):=⟨q9e hv,fun hn=>vp (by omega) rfl hn hv⟩
theorem ju9 {α:Type}{o v hi}(hv:yH o E9 (En hi)=En v):∀(h:qh) (z:Nat) (f:α→AVal) (k:IntKind),nz z h (En (sl z f o)) E9 (En (En (.int k hi)))=En ⟨sl z f v,Ga,E9,h⟩:=fun _ _ _ _=>jpk hv
@[go_sem] theorem jzz {n v}:below n (.ai v)=below n v:=rfl
structure rH where
 names:Int
 values:Int
 known:Bool
theorem jzx {a0 b0 a1 b1}:z7 [.str,.int] [.str a0,.int .i64 a1] [.str b0,.int .i64 b1]=En (decide (a0=b0)&&decide (a1=b1)):=by
 have e:∀x y:Int,(x == y)=decide (x=y):=fun x y=>by by_cases h:x=y<;>simp[h]
 have e':∀x y:List UInt8,(x == y)=decide (x=y):=fun x y=>by by_cases h:x=y<;>simp[h]
 have e2:∀x y:Bool,(x == y)=decide (x=y):=fun x y=>by cases x<;>cases y<;>rfl
 simp only[z7,lH,e,e',e2,decide_true,cond_true]
 by_cases h0:a0=b0<;>by_cases h1:a1=b1<;>simp[h0,h1]
@[go_sem] theorem zky {h a0 b0 a1 b1}:G8 [.str,.int] Es h (En (.agg [.str a0,.int .i64 a1])) (En (.agg [.str b0,.int .i64 b1]))=En ⟨.bool (!(decide (a0=b0)&&decide (a1=b1))),Ga,E9,h⟩:=by
 show(match z7 [.str,.int] [.str a0,.int .i64 a1] [.str b0,.int .i64 b1]with|some t=>val h (.bool (bif Es then !t else t))|none=>E9)=_
 rw[jzx]
 rfl
theorem jwf {a0 b0 a1 b1 a2 b2}:z7 [.str,.int,.int] [.str a0,.int .i64 a1,.int .i64 a2] [.str b0,.int .i64 b1,.int .i64 b2]=En (decide (a0=b0)&&decide (a1=b1)&&decide (a2=b2)):=by
 have e:∀x y:Int,(x == y)=decide (x=y):=fun x y=>by by_cases h:x=y<;>simp[h]
 have e':∀x y:List UInt8,(x == y)=decide (x=y):=fun x y=>by by_cases h:x=y<;>simp[h]
 have e2:∀x y:Bool,(x == y)=decide (x=y):=fun x y=>by cases x<;>cases y<;>rfl
 simp only[z7,lH,e,e',e2,decide_true,cond_true]
 by_cases h0:a0=b0<;>by_cases h1:a1=b1<;>by_cases h2:a2=b2<;>simp[h0,h1,h2]
@[go_sem] theorem zj7 {h a0 b0 a1 b1 a2 b2}:G8 [.str,.int,.int] Es h (En (.agg [.str a0,.int .i64 a1,.int .i64 a2])) (En (.agg [.str b0,.int .i64 b1,.int .i64 b2]))=En ⟨.bool (!(decide (a0=b0)&&decide (a1=b1)&&decide (a2=b2))),Ga,E9,h⟩:=by
 show(match z7 [.str,.int,.int] [.str a0,.int .i64 a1,.int .i64 a2] [.str b0,.int .i64 b1,.int .i64 b2]with|some t=>val h (.bool (bif Es then !t else t))|none=>E9)=_
 rw[jwf]
 rfl
theorem j0i {a0 b0 a1 b1 a2 b2 a3 de a4 dQ}:z7 [.str,.str,.int,.int,.bool] [.str a0,.str a1,.int .i64 a2,.int .i64 a3,.bool a4] [.str b0,.str b1,.int .i64 b2,.int .i64 de,.bool dQ]=En (decide (a0=b0)&&decide (a1=b1)&&decide (a2=b2)&&decide (a3=de)&&decide (a4=dQ)):=by
 have e:∀x y:Int,(x == y)=decide (x=y):=fun x y=>by by_cases h:x=y<;>simp[h]
 have e':∀x y:List UInt8,(x == y)=decide (x=y):=fun x y=>by by_cases h:x=y<;>simp[h]
 have e2:∀x y:Bool,(x == y)=decide (x=y):=fun x y=>by cases x<;>cases y<;>rfl
 simp only[z7,lH,e,e',e2,decide_true,cond_true]
 by_cases h0:a0=b0<;>by_cases h1:a1=b1<;>by_cases h2:a2=b2<;>by_cases h3:a3=de<;>by_cases h4:a4=dQ<;>simp[h0,h1,h2,h3,h4]
@[go_sem] theorem zkw {h a0 b0 a1 b1 a2 b2 a3 de a4 dQ}:G8 [.str,.str,.int,.int,.bool] Es h (En (.agg [.str a0,.str a1,.int .i64 a2,.int .i64 a3,.bool a4])) (En (.agg [.str b0,.str b1,.int .i64 b2,.int .i64 de,.bool dQ]))=En ⟨.bool (!(decide (a0=b0)&&decide (a1=b1)&&decide (a2=b2)&&decide (a3=de)&&decide (a4=dQ))),Ga,E9,h⟩:=by
 show(match z7 [.str,.str,.int,.int,.bool] [.str a0,.str a1,.int .i64 a2,.int .i64 a3,.bool a4] [.str b0,.str b1,.int .i64 b2,.int .i64 de,.bool dQ]with|some t=>val h (.bool (bif Es then !t else t))|none=>E9)=_
 rw[j0i]
 rfl
@[go_sem] theorem zea {h0 al h g a b}:y5 h0 al Ga 1 h (En (.ai (.fn g a b)))=En ⟨.fn g a b,Ga,E9,h⟩:=rfl
def yI (h:qh)(zero:AVal)(r:Option (Option (Nat×AVal))):Option bm:=match r with
 |some (En (_,v))=>En ⟨.aI [v,.bool Es],Ga,E9,h⟩
 |some E9=>En ⟨.aI [zero,.bool Ga],Ga,E9,h⟩
 |none=>E9
@[go_sem] theorem jxo {h z v i}:yI h z (En (En (i,v)))=En ⟨.aI [v,.bool Es],Ga,E9,h⟩:=rfl
@[go_sem] theorem jx0 {h z}:yI h z (En E9)=En ⟨.aI [z,.bool Ga],Ga,E9,h⟩:=rfl
def LG (h:qh)(kd:Kd)(z kv:AVal)(x:Option bg):Option bm:=match x with
 |some (.map es)=>yI h z (za kd kv es 0)
 |_=>E9
@[go_sem] theorem j5d {h kd z kv es}:LG h kd z kv (En (.map es))=yI h z (za kd kv es 0):=rfl
def Tc (h0:Nat)(al:Option (List Nat))(h:qh)(kd:Kd)(z:AVal)(m k:Option AVal):Option bm:=match m,k with
 |some (.map b),En kv=>cq (j9 h0 al b) (LG h kd z kv h[b]?)
 |some .b8,En _=>En ⟨.aI [z,.bool Ga],Ga,E9,h⟩
 |_,_=>E9
@[go_sem] theorem jt3 {h0 al h kd z kv b}:Tc h0 al h kd z (En (.map b)) (En kv)=cq (j9 h0 al b) (LG h kd z kv h[b]?):=rfl
@[go_sem] theorem zac {p xc h0 al e h kd z m k}:qf p xc h0 al e h (.lookup kd z Es m k)=Tc h0 al h kd z (qi e m) (qi e k):=by
 simp only[qf,yi,Tc]
 cases qi e m with
 |none=>cases qi e k<;>rfl
 |some v=>cases qi e k with
  |none=>cases v<;>rfl
  |some kv=>cases v with
   |map b=>
    simp only[cq,zc,LG,yI]
    cases j9 h0 al b with
    |false=>rfl
    |true=>
     simp only[cond_true]
     cases h[b]? with
     |none=>rfl
     |some x=>cases x with
      |map es=>
       simp only[]
       cases za kd kv es 0 with
       |none=>rfl
       |some r=>cases r<;>rfl
      |_=>rfl
   |_=>rfl
theorem G9 {σ δ γ:Type}(n:Nat)(mk:Nat→σ)(f:σ→Option (σ⊕δ))(V:δ→γ)(r:Nat→γ)(cL:∃d,f (mk n)=En (.inr d)∧V d=r n)
  (cB:∀i,i<n→(f (mk i)=En (.inl (mk (i+1)))∧r i=r (i+1))∨(∃d,f (mk i)=En (.inr d)∧V d=r i)):∃d,bB f (mk 0)=En d∧V d=r 0:=by
 have key:∀(k i:Nat),i+k=n→∃d,bB f (mk i)=En d∧V d=r i:=by
  intro k
  induction k with
  |zero=>
   intro i hi
   have:i=n:=by omega
   subst this
   obtain⟨d,h1,h2⟩:=cL
   exact⟨d,ku h1,h2⟩
  |succ k ih=>
   intro i hi
   rcases cB i (by omega)with⟨h1,h2⟩|⟨d,h1,h2⟩
   ·rw[oQ h1,h2];exact ih (i+1) (by omega)
   ·exact⟨d,ku h1,h2⟩
 exact key n 0 (by omega)
theorem Td {α δ:Type}(l:List α)(f:Int→Option (Int⊕δ))(q:α→Bool)(V:δ→Bool)(cL:∃d,f (l.length:Int)=En (.inr d)∧V d=Es)
  (cB:∀(i:Nat) x,l[i]?=En x→i<l.length→(q x=Es∧f (i:Int)=En (.inl ((i+1:Nat):Int)))∨(q x=Ga∧∃d,f (i:Int)=En (.inr d)∧V d=Ga)):∃d,bB f 0=En d∧V d=l.all q:=by
 have:=G9 l.length (fun i=>(i:Int)) f V (fun i=>(l.drop i).all q) (by rw[Gm (Nat.le_refl _)];exact cL) (fun i hi=>by
  obtain⟨x,hx⟩:∃x,l[i]?=En x:=⟨_,Gi hi⟩
  simp only[rJ hx,List.all_cons]
  rcases cB i x hx hi with⟨h1,h2⟩|⟨h1,h2⟩
  ·rw[h1];exact .inl ⟨h2,rfl⟩
  ·rw[h1];exact .inr h2)
 simpa using this
theorem jkp {α β:Type}(l:List α)(ix:Nat→Int)(f:Option (List β)×Int×Bool→Option ((Option (List β)×Int×Bool)⊕(Option (List β)×Bool×Int)))(h:α→List β)(a0:List β)(I:Nat→List β→Prop)(hI:I 0 a0)
  (cL:∀a,f (jx a,ix l.length,gw a)=En (.inr (jx a,gw a,ix l.length)))
  (cB:∀(i:Nat) x a,l[i]?=En x→i<l.length→I i a→I (i+1) (a++h x)∧f (jx a,ix i,gw a)=En (.inl (jx (a++h x),ix (i+1),gw (a++h x)))):
  bB f (jx a0,ix 0,gw a0)=En (jx (a0++l.flatMap h),gw (a0++l.flatMap h),ix l.length):=by
 have key:∀(k i:Nat),i+k=l.length→∀a,I i a→bB f (jx a,ix i,gw a)=En (jx (a++(l.drop i).flatMap h),gw (a++(l.drop i).flatMap h),ix l.length):=by
  intro k
  induction k with
  |zero=>
   intro i hi a _
   have:i=l.length:=by omega
   subst this
   rw[Gm (Nat.le_refl _),List.flatMap_nil,List.append_nil,ku (cL a)]
  |succ k ih=>
   intro i hi a ha
   obtain⟨x,hx⟩:∃x,l[i]?=En x:=⟨_,Gi (by omega)⟩
   obtain⟨h1,h2⟩:=cB i x a hx (by omega) ha
   rw[oQ h2,ih (i+1) (by omega) _ h1,rJ hx,Gp,List.append_assoc]
 have:=key l.length 0 (by omega) a0 hI
 rwa [List.drop_zero]at this
theorem qxk {α:Type}{a:List α}{x}(h:a.length<1073741824):bq (jx a) [x]=En (jx (a++[x])):=by
 unfold bq
 cases a with
 |nil=>rfl
 |cons y a=>
  have:((jx (y::a)).getD []).length + [x].length≤1073741824:=by simp[jx]at h ⊢;omega
  rw[if_pos this];rfl
theorem wA {α γ:Type}{a:List α}{x:α}{k:Option (List α)→Option γ}(h:a.length<1073741824):cond (gw a) (qa (bq (jx a) [x]) k) (cond (jx a).isNone (qa (bq (jx a) [x]) k) E9)=k (jx (a++[x])):=by
 rw[qxk h]
 cases a<;>rfl
theorem zw {α:Type}(a:List α):(jx a).getD []=a:=by cases a<;>rfl
theorem LH {α β:Type}(h:α→β):∀l:List α,l.flatMap (fun x=>[h x])=l.map h
 | []=>rfl
 |x::l=>by rw[Gp,LH h l];rfl
theorem ja {α:Type}{l:List α}{i:Nat}{x:α}(hx:l[i]?=En x):qq l (i:Int)=En x:=by rw[jin,hx]
theorem yo {α:Type}{l:List α}{i}(h:i<l.length):decide ((i:Int)<(l.length:Int))=Es:=decide_eq_true (by omega)
theorem z6 {n}:decide ((n:Int)<(n:Int))=Ga:=decide_eq_false (by omega)
end Go.Z
namespace Go.Z
open Go Go.Abs Go.W
def iV:List (List UInt8×List UInt8×Int×Nat):=[(lA,[45,45],2,168),(kl,[45],1,169),(lB,[112,45],2,170),(l4,[112,45],3,171),(oo,[112],1,172),(lC,[45,112],1,173),(mM,[117,108],2,174),(oR,[117,45],2,175),(pJ,[117],1,176),(nA,[117,117],1,177),(yp,[108],1,178),(kg,[108],1,179),(yw,[117],1,180),(yJ,[117],1,181),(y8,[],0,0)]
def fnv (k:Nat):AVal:=bif Nat.beq k 0 then .cx else .fn (.func k) [] []
def oS (x:List UInt8):Option (List UInt8×List UInt8×Int×Nat):=iV.find? fun f=>decide (x=f.1)
def j6 (x:List UInt8):List UInt8:=match oS x with
 |some f=>f.2.1
 |none=>[]
def nB (x:List UInt8):Int:=match oS x with
 |some f=>f.2.2.1
 |none=>0
def l5 (x:List UInt8):AVal:=match oS x with
 |some f=>fnv f.2.2.2
 |none=>.cx
def DY (x:List UInt8):Bool:=(oS x).isSome
theorem qu0:qz=iV.map fun f=>(.str f.1,.agg [.str f.2.1,.int .i64 f.2.2.1,fnv f.2.2.2]):=rfl
theorem Te (x:List UInt8)(h:qh):∀(l:List (List UInt8×List UInt8×Int×Nat)) (n:Nat),za .str (.str x) (l.map fun f=>(.str f.1,.agg [.str f.2.1,.int .i64 f.2.2.1,fnv f.2.2.2])) n=En E9∧l.find? (fun f=>decide (x=f.1))=E9∨∃i f,za .str (.str x) (l.map fun f=>(.str f.1,.agg [.str f.2.1,.int .i64 f.2.2.1,fnv f.2.2.2])) n=En (En (i,.agg [.str f.2.1,.int .i64 f.2.2.1,fnv f.2.2.2]))∧l.find? (fun f=>decide (x=f.1))=En f
 | [],n=>.inl ⟨rfl,rfl⟩
 |f::l,n=>by
  have he:lH .str (.str x) (.str f.1)=En (decide (x=f.1)):=by
   show En (x == f.1)=_
   by_cases hx:x=f.1<;>simp[hx]
  by_cases hx:x=f.1
  ·refine .inr ⟨n,f,?_,?_⟩
   ·simp only[Ge,za,he,decide_eq_true hx]
   ·simp[Gd,hx]
  ·rcases Te x h l (n+1)with⟨h1,h2⟩|⟨i,g,h1,h2⟩
   ·exact .inl ⟨by simp only[Ge,za,he,hx,decide_false];exact h1,by simp only[Gd,hx,decide_false];exact h2⟩
   ·exact .inr ⟨i,g,by simp only[Ge,za,he,hx,decide_false];exact h1,by simp only[Gd,hx,decide_false];exact h2⟩
@[go_sem] theorem zgi {h g a b}:vk Ga h (En (.fn g a b))=En ⟨.ai (.fn g a b),Ga,E9,h⟩:=rfl
@[go_sem] theorem zkx:pr.maps 101=En qz:=rfl
theorem jox {h}(x:List UInt8):yI h (.agg [.str [],.int .i64 0,.cx]) (za .str (.str x) qz 0)=En ⟨.aI [.agg [.str (j6 x),.int .i64 (nB x),l5 x],.bool (DY x)],Ga,E9,h⟩:=by
 rw[qu0]
 rcases Te x h iV 0 with⟨h1,h2⟩|⟨i,f,h1,h2⟩
 ·rw[h1];simp only[yI,j6,nB,l5,DY,oS,h2];rfl
 ·rw[h1];simp only[yI,j6,nB,l5,DY,oS,h2];rfl
theorem LI {h}(x:List UInt8):wv h (.agg [.str [],.int .i64 0,.cx]) (za .str (.str x) qz 0)=En ⟨.agg [.str (j6 x),.int .i64 (nB x),l5 x],Ga,E9,h⟩:=by
 rw[qu0]
 rcases Te x h iV 0 with⟨h1,h2⟩|⟨i,f,h1,h2⟩
 ·rw[h1];simp only[wv,j6,nB,l5,oS,h2];rfl
 ·rw[h1];simp only[wv,j6,nB,l5,oS,h2];rfl
@[go_sem] theorem zj4 {x}:ql (l5 x)=Es:=by
 unfold l5
 split
 ·rename_i f _;simp only[fnv];cases Nat.beq f.2.2.2 0<;>rfl
 ·rfl
def eR (l:List (List UInt8×Int)):List (AVal×AVal):=l.map fun p=>(.str p.1,.int .i64 p.2)
def mN (l:List (List UInt8×Int))(k:List UInt8):Int:=match l.find? fun p=>decide (k=p.1)with
 |some p=>p.2
 |none=>0
def lb:List (List UInt8×Int)→List UInt8→Int→List (List UInt8×Int)
 | [],k,v=>[(k,v)]
 |p::l,k,v=>if k=p.1 then(p.1,v)::l else p::lb l k v
def LJ (l:List (List UInt8×Int))(k:List UInt8)(v:Int):Option (List (List UInt8×Int)):=if l.length≤1073741824 then En (lb l k v)else E9
theorem Tf {k s}:lH .str (.str k) (.str s)=En (decide (k=s)):=by
 show En (k == s)=_
 by_cases hx:k=s<;>simp[hx]
theorem Tg (k:List UInt8):∀(l:List (List UInt8×Int)) (n:Nat),(za .str (.str k) (eR l) n=En E9∧l.find? (fun p=>decide (k=p.1))=E9∧∀v,eR (lb l k v)=eR l++[(.str k,.int .i64 v)])∨∃i p,za .str (.str k) (eR l) n=En (En (n+i,.int .i64 p.2))∧l.find? (fun p=>decide (k=p.1))=En p∧∀v,eR (lb l k v)=qB (eR l) i (.int .i64 v)
 | [],n=>.inl ⟨rfl,rfl,fun _=>rfl⟩
 |p::l,n=>by
  by_cases hx:k=p.1
  ·refine .inr ⟨0,p,?_,?_,fun v=>?_⟩
   ·simp only[eR,Ge,za,Tf,decide_eq_true hx];rfl
   ·simp[Gd,hx]
   ·simp only[lb,if_pos hx];rfl
  ·rcases Tg k l (n+1)with⟨h1,h2,h3⟩|⟨i,q,h1,h2,h3⟩
   ·refine .inl ⟨?_,?_,fun v=>?_⟩
    ·simp only[eR,Ge,za,Tf,decide_eq_false hx];exact h1
    ·simp only[Gd,decide_eq_false hx];exact h2
    ·simp only[lb,if_neg hx]
     show _::eR (lb l k v)=_
     rw[h3];rfl
   ·refine .inr ⟨i+1,q,?_,?_,fun v=>?_⟩
    ·simp only[eR,Ge,za,Tf,decide_eq_false hx]
     rw[show n+(i+1)=n+1+i by omega];exact h1
    ·simp only[Gd,decide_eq_false hx];exact h2
    ·simp only[lb,if_neg hx]
     show _::eR (lb l k v)=_
     rw[h3];rfl
theorem jmc {h l k}:wv h (.int .i64 0) (za .str (.str k) (eR l) 0)=En ⟨.int .i64 (mN l k),Ga,E9,h⟩:=by
 unfold mN
 rcases Tg k l 0 with⟨h1,h2,_⟩|⟨i,p,h1,h2,_⟩<;>rw[h1,h2]<;>rfl
theorem jqp {h b l v k n}(hv:LJ l k n=En v):DV h b (eR l) (.str k) (.int .i64 n) (za .str (.str k) (eR l) 0)=iz (jr h b (.map (eR v))) .undef:=by
 unfold LJ at hv
 split at hv
 ·rename_i hl
  cases hv
  rcases Tg k l 0 with⟨h1,h2,h3⟩|⟨i,p,h1,h2,h3⟩
  ·rw[h1,h3]
   have:Nat.ble (eR l).length 1073741824=Es:=Nat.ble_eq_true_of_le (by rw[eR,Gl];exact hl)
   simp only[DV,this,cq,cond_true]
  ·rw[h1,h3,Nat.zero_add];rfl
 ·cases hv
theorem jkf {l k k' v}:mN (lb l k v) k'=if k'=k then v else mN l k':=by
 induction l with
 |nil=>by_cases h:k'=k<;>simp[lb,mN,Gd,h]
 |cons p l ih=>
  unfold mN at ih ⊢
  by_cases hk:k=p.1
  ·by_cases h:k'=k
   ·subst h;simp[lb,Gd,←hk]
   ·have h2:¬k'=p.1:=by rw[←hk];exact h
    simp[lb,Gd,hk,h2]
  ·by_cases h2:k'=p.1
   ·have h3:¬k'=k:=by rw[h2];exact fun h=>hk h.symm
    have h4:¬p.1=k:=fun h=>hk h.symm
    simp[lb,Gd,hk,h2,h4]
   ·simp only[lb,if_neg hk,Gd,decide_eq_false h2]
    exact ih
@[go_sem] theorem j9o {h0 al h b}:y5 h0 al Ga 1 h (En (.ai (.map b)))=En ⟨.map b,Ga,E9,h⟩:=rfl
@[go_sem] theorem q82 {n l}:uF n (eR l)=Es:=by
 induction l with
 |nil=>rfl
 |cons p l ih=>simp only[eR,Ge,uF,below,Bool.true_and];exact ih
@[go_sem] theorem jqb {n l}:po n (.map (eR l))=Es:=q82
end Go.Z
