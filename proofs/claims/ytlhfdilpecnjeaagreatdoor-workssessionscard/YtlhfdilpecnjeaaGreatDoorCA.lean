/- The structs of chapter 10 and their cells; what they are in plain lists. -/
import Derived.Test.YtlhfdilpecnjeaaGreatDoorL1
import Derived.Test.YtlhfdilpecnjeaaGreatDoorWS
set_option linter.all false
set_option maxRecDepth 100000
noncomputable section
open Option renaming some->En,none->Gb,getD_some->Io
open Bool renaming true->Ga,false->Gd,and_eq_true->Ik
open List renaming find?->Ha,map_cons->Hb,getElem?_eq_none_iff->Hc,getElem?_eq_getElem->Hq,length_nil->H2,length_map->If,drop_eq_nil_of_le->Ig,flatMap_cons->Ij
open Nat renaming blt->Ii
namespace Go.Z
open Go Go.Abs Go.W
def bD (p:bG):AVal:=.agg [.str p.k,.int .i64 p.n]
theorem zfp {p}:(bD p).flat=[.str p.k,.int .i64 p.n]:=rfl
theorem jht {n}(p:bG):below n (bD p)=Ga:=by rfl
theorem j62 {n z l}:below n (sl z bD l)=Ga:=vH jht
theorem zh5 {p}:AVal.aq (bD p)=.aq (.agg [.str p.k,.int .i64 p.n]):=rfl
theorem jj2 {b t h bb p o v}(hv:bB o [p]=En v):bV 2 b h (En t) (En (sl 2 bD o)) (En (.list bb 2 [.agg [.str p.k,.int .i64 p.n]]))=ct (decide (b<=4096)) (En ⟨sl 2 bD v,Ga,En t,h⟩):=vL (x:=p) (by omega) rfl hv
theorem jie {b h bb p o v}(hv:bB o [p]=En v)(hn:o.isNone=Ga):bV 2 b h Gb (En (sl 2 bD o)) (En (.list bb 2 [.agg [.str p.k,.int .i64 p.n]]))=ct (decide (b<=4096)) (En ⟨sl 2 bD v,Ga,Gb,h⟩):=tH (x:=p) (by omega) rfl hn hv
def jb (p:jh):AVal:=.agg [.str p.k,.int .i64 p.a,.int .i64 p.b]
theorem zbe {p}:(jb p).flat=[.str p.k,.int .i64 p.a,.int .i64 p.b]:=rfl
theorem jeg {n}(p:jh):below n (jb p)=Ga:=by rfl
theorem j4e {n z l}:below n (sl z jb l)=Ga:=vH jeg
theorem jit {p}:AVal.aq (jb p)=.aq (.agg [.str p.k,.int .i64 p.a,.int .i64 p.b]):=rfl
theorem jhk {b t h bb p o v}(hv:bB o [p]=En v):bV 3 b h (En t) (En (sl 3 jb o)) (En (.list bb 3 [.agg [.str p.k,.int .i64 p.a,.int .i64 p.b]]))=ct (decide (b<=4096)) (En ⟨sl 3 jb v,Ga,En t,h⟩):=vL (x:=p) (by omega) rfl hv
theorem jfg {b h bb p o v}(hv:bB o [p]=En v)(hn:o.isNone=Ga):bV 3 b h Gb (En (sl 3 jb o)) (En (.list bb 3 [.agg [.str p.k,.int .i64 p.a,.int .i64 p.b]]))=ct (decide (b<=4096)) (En ⟨sl 3 jb v,Ga,Gb,h⟩):=tH (x:=p) (by omega) rfl hn hv
def jf (p:jk):AVal:=.agg [.str p.name,.str p.kind,.int .i64 p.count,.int .i64 p.left,.bool p.held]
theorem zbp {p}:(jf p).flat=[.str p.name,.str p.kind,.int .i64 p.count,.int .i64 p.left,.bool p.held]:=rfl
theorem jfb {n}(p:jk):below n (jf p)=Ga:=by rfl
theorem j39 {n z l}:below n (sl z jf l)=Ga:=vH jfb
theorem q4t {p}:AVal.aq (jf p)=.aq (.agg [.str p.name,.str p.kind,.int .i64 p.count,.int .i64 p.left,.bool p.held]):=rfl
theorem q0n {b t h bb p o v}(hv:bB o [p]=En v):bV 5 b h (En t) (En (sl 5 jf o)) (En (.list bb 5 [.agg [.str p.name,.str p.kind,.int .i64 p.count,.int .i64 p.left,.bool p.held]]))=ct (decide (b<=4096)) (En ⟨sl 5 jf v,Ga,En t,h⟩):=vL (x:=p) (by omega) rfl hv
theorem q07 {b h bb p o v}(hv:bB o [p]=En v)(hn:o.isNone=Ga):bV 5 b h Gb (En (sl 5 jf o)) (En (.list bb 5 [.agg [.str p.name,.str p.kind,.int .i64 p.count,.int .i64 p.left,.bool p.held]]))=ct (decide (b<=4096)) (En ⟨sl 5 jf v,Ga,Gb,h⟩):=tH (x:=p) (by omega) rfl hn hv
structure cn where
 bh:ak bG
 aS:ak jh
def yv (p:cn):AVal:=.agg [sl 2 bD p.bh,sl 3 jb p.aS]
theorem zbb {p}:(yv p).flat=[sl 2 bD p.bh,sl 3 jb p.aS]:=rfl
attribute [go_sem] zfp jht j62 zh5 zbe jeg j4e jit zbp jfb j39 q4t zbb
theorem jg4 {n}(p:cn):below n (yv p)=Ga:=by simp only[yv,go_sem]
theorem j35 {n z l}:below n (sl z yv l)=Ga:=vH jg4
theorem zcd {p}:AVal.aq (yv p)=.aq (.agg [sl 2 bD p.bh,sl 3 jb p.aS]):=rfl
theorem jhn {b t h bb p o v}(hv:bB o [p]=En v):bV 2 b h (En t) (En (sl 2 yv o)) (En (.list bb 2 [.agg [sl 2 bD p.bh,sl 3 jb p.aS]]))=ct (decide (b<=4096)) (En ⟨sl 2 yv v,Ga,En t,h⟩):=vL (x:=p) (by omega) rfl hv
theorem jfd {b h bb p o v}(hv:bB o [p]=En v)(hn:o.isNone=Ga):bV 2 b h Gb (En (sl 2 yv o)) (En (.list bb 2 [.agg [sl 2 bD p.bh,sl 3 jb p.aS]]))=ct (decide (b<=4096)) (En ⟨sl 2 yv v,Ga,Gb,h⟩):=tH (x:=p) (by omega) rfl hn hv
structure bw where
 name:aj
 dn:ak bG
 dt:ak jh
 bm:ak cn
def qw (p:bw):AVal:=.agg [.str p.name,sl 2 bD p.dn,sl 3 jb p.dt,sl 2 yv p.bm]
theorem je0 {p}:(qw p).flat=[.str p.name,sl 2 bD p.dn,sl 3 jb p.dt,sl 2 yv p.bm]:=rfl
attribute [go_sem] jg4 j35 zcd je0
theorem jbv {n}(p:bw):below n (qw p)=Ga:=by simp only[qw,go_sem]
theorem j2r {n z l}:below n (sl z qw l)=Ga:=vH jbv
theorem j6v {p}:AVal.aq (qw p)=.aq (.agg [.str p.name,sl 2 bD p.dn,sl 3 jb p.dt,sl 2 yv p.bm]):=rfl
theorem jb4 {b t h bb p o v}(hv:bB o [p]=En v):bV 4 b h (En t) (En (sl 4 qw o)) (En (.list bb 4 [.agg [.str p.name,sl 2 bD p.dn,sl 3 jb p.dt,sl 2 yv p.bm]]))=ct (decide (b<=4096)) (En ⟨sl 4 qw v,Ga,En t,h⟩):=vL (x:=p) (by omega) rfl hv
theorem jb2 {b h bb p o v}(hv:bB o [p]=En v)(hn:o.isNone=Ga):bV 4 b h Gb (En (sl 4 qw o)) (En (.list bb 4 [.agg [.str p.name,sl 2 bD p.dn,sl 3 jb p.dt,sl 2 yv p.bm]]))=ct (decide (b<=4096)) (En ⟨sl 4 qw v,Ga,Gb,h⟩):=tH (x:=p) (by omega) rfl hn hv
structure bz where
 name:aj
 product:aj
 version:Int
 uses:ak bG
 results:ak jh
 partner:aj
 ax:Bool
 au:Int
def bI (p:bz):AVal:=.agg [.str p.name,.str p.product,.int .i64 p.version,sl 2 bD p.uses,sl 3 jb p.results,.str p.partner,.bool p.ax,.int .i64 p.au]
theorem jn4 {p}:(bI p).flat=[.str p.name,.str p.product,.int .i64 p.version,sl 2 bD p.uses,sl 3 jb p.results,.str p.partner,.bool p.ax,.int .i64 p.au]:=rfl
attribute [go_sem] jbv j2r j6v jn4
theorem jjs {n}(p:bz):below n (bI p)=Ga:=by simp only[bI,go_sem]
theorem zag {n z l}:below n (sl z bI l)=Ga:=vH jjs
theorem zea {p}:AVal.aq (bI p)=.aq (.agg [.str p.name,.str p.product,.int .i64 p.version,sl 2 bD p.uses,sl 3 jb p.results,.str p.partner,.bool p.ax,.int .i64 p.au]):=rfl
theorem ji6 {b t h bb p o v}(hv:bB o [p]=En v):bV 8 b h (En t) (En (sl 8 bI o)) (En (.list bb 8 [.agg [.str p.name,.str p.product,.int .i64 p.version,sl 2 bD p.uses,sl 3 jb p.results,.str p.partner,.bool p.ax,.int .i64 p.au]]))=ct (decide (b<=4096)) (En ⟨sl 8 bI v,Ga,En t,h⟩):=vL (x:=p) (by omega) rfl hv
theorem jkc {b h bb p o v}(hv:bB o [p]=En v)(hn:o.isNone=Ga):bV 8 b h Gb (En (sl 8 bI o)) (En (.list bb 8 [.agg [.str p.name,.str p.product,.int .i64 p.version,sl 2 bD p.uses,sl 3 jb p.results,.str p.partner,.bool p.ax,.int .i64 p.au]]))=ct (decide (b<=4096)) (En ⟨sl 8 bI v,Ga,Gb,h⟩):=tH (x:=p) (by omega) rfl hn hv
structure av where
 day:Int
 ay:ak jk
 ah:ak bw
 units:ak bz
def zw (p:av):AVal:=.agg [.int .i64 p.day,sl 5 jf p.ay,sl 4 qw p.ah,sl 8 bI p.units]
theorem zce {p}:(zw p).flat=[.int .i64 p.day,sl 5 jf p.ay,sl 4 qw p.ah,sl 8 bI p.units]:=rfl
attribute [go_sem] jjs zag zea zce
theorem jei {n}(p:av):below n (zw p)=Ga:=by simp only[zw,go_sem]
theorem j4h {n z l}:below n (sl z zw l)=Ga:=vH jei
theorem zcf {p}:AVal.aq (zw p)=.aq (.agg [.int .i64 p.day,sl 5 jf p.ay,sl 4 qw p.ah,sl 8 bI p.units]):=rfl
theorem jeo {b t h bb p o v}(hv:bB o [p]=En v):bV 4 b h (En t) (En (sl 4 zw o)) (En (.list bb 4 [.agg [.int .i64 p.day,sl 5 jf p.ay,sl 4 qw p.ah,sl 8 bI p.units]]))=ct (decide (b<=4096)) (En ⟨sl 4 zw v,Ga,En t,h⟩):=vL (x:=p) (by omega) rfl hv
theorem jfn {b h bb p o v}(hv:bB o [p]=En v)(hn:o.isNone=Ga):bV 4 b h Gb (En (sl 4 zw o)) (En (.list bb 4 [.agg [.int .i64 p.day,sl 5 jf p.ay,sl 4 qw p.ah,sl 8 bI p.units]]))=ct (decide (b<=4096)) (En ⟨sl 4 zw v,Ga,Gb,h⟩):=tH (x:=p) (by omega) rfl hn hv
structure aC where
 number:Int
 kind:aj
 names:ak aj
 values:ak Int
 text:aj
def bK (p:aC):AVal:=.agg [.int .i64 p.number,.str p.kind,sl 1 qx p.names,sl 1 zf p.values,.str p.text]
theorem ziz {p}:(bK p).flat=[.int .i64 p.number,.str p.kind,sl 1 qx p.names,sl 1 zf p.values,.str p.text]:=rfl
attribute [go_sem] jei j4h zcf ziz
theorem jkd {n}(p:aC):below n (bK p)=Ga:=by simp only[bK,go_sem]
theorem zai {n z l}:below n (sl z bK l)=Ga:=vH jkd
theorem zd2 {p}:AVal.aq (bK p)=.aq (.agg [.int .i64 p.number,.str p.kind,sl 1 qx p.names,sl 1 zf p.values,.str p.text]):=rfl
theorem J3 {b t h bb p o v}(hv:bB o [p]=En v):bV 5 b h (En t) (En (sl 5 bK o)) (En (.list bb 5 [.agg [.int .i64 p.number,.str p.kind,sl 1 qx p.names,sl 1 zf p.values,.str p.text]]))=ct (decide (b<=4096)) (En ⟨sl 5 bK v,Ga,En t,h⟩):=vL (x:=p) (by omega) rfl hv
theorem Pa {b h bb p o v}(hv:bB o [p]=En v)(hn:o.isNone=Ga):bV 5 b h Gb (En (sl 5 bK o)) (En (.list bb 5 [.agg [.int .i64 p.number,.str p.kind,sl 1 qx p.names,sl 1 zf p.values,.str p.text]]))=ct (decide (b<=4096)) (En ⟨sl 5 bK v,Ga,Gb,h⟩):=tH (x:=p) (by omega) rfl hn hv
def cn.er (d:cn):kL:=⟨d.bh.getD [],d.aS.getD []⟩
def bw.er (p:bw):xr:=⟨p.name,⟨p.dn.getD [],p.dt.getD []⟩,(p.bm.getD []).map cn.er⟩
def bz.er (u:bz):lx:=⟨u.name,u.product,u.version,u.uses.getD [],u.results.getD [],u.partner,u.ax,u.au⟩
def av.er (r:av):z8:=⟨r.day,r.ay.getD [],(r.ah.getD []).map bw.er,(r.units.getD []).map bz.er⟩
def aC.er (e:aC):cQ:=⟨e.number,e.kind,e.names.getD [],e.values.getD [],e.text⟩
attribute [go_sem] jkd zai zd2
end Go.Z
namespace Go.Z
open Go Go.Abs Go.W
theorem WJ {hh}:∀ {xs:List AVal},qp 0 xs=Ga->mU hh xs=En xs
 | [],_=>rfl
 |x::xs,h=>by
  simp only[qp,Ik]at h
  have M:ku hh x=En x:=by
   cases x with
   |ms b o n=>simp[Abs.below,Ii]at h|az b o n=>simp[Abs.below,Ii]at h|_=>rfl
  simp only[mU,M,WJ h.2]
theorem qs0 {hh}:∀ {xs:List AVal},qp 0 xs=Ga->aX.bT hh xs=En xs
 | [],_=>rfl
 |x::xs,h=>by
  simp only[qp,Ik]at h;have ih:=qs0 (hh:=hh) h.2
  cases x with
  |agg cs=>
   have Y:=h.1;simp only[Abs.below]at Y;simp only[aX.bT,WJ Y,ih]
  |ms b o n=>simp[Abs.below,Ii]at h|az b o n=>simp[Abs.below,Ii]at h|_=>simp only[aX.bT,ku,ih]
theorem qtv {hh x}(h:Abs.below 0 x=Ga):aX hh x=En x:=by
 cases x with
 |agg cs=>
  simp only[Abs.below]at h;simp only[aX,WJ h]
 |aI vs=>
  simp only[Abs.below]at h;simp only[aX,qs0 h]
 |ms b o n=>simp[Abs.below,Ii]at h|az b o n=>simp[Abs.below,Ii]at h|_=>rfl
theorem jz {p k}(f:jU){args v}(hc:∃hh,Gh f.results (X p f.body ⟨qG 0 args,[]⟩)=some (v,false,hh))(hp:p.cD k=none:=by rfl)(hf:p.br k=some f:=by rfl)(hl:Nat.ble args.length f.ntmps=true:=by rfl)(hv:below 0 v=true:=by first|rfl|simp only[go_sem,seval]):ae p (X p) k args=some (v,false):=by
 obtain⟨hh,hc⟩:=hc
 cases f with
 |mk n b r=>exact je hp (by rw[qg hf (Nat.le_of_ble_eq_true hl)];exact hc) (qtv hv) hv
theorem yc {p k}(f:jU){args v o}(hc:∃hh,Gh f.results (X p f.body ⟨qG 0 args,[]⟩)=some (v,o,hh))(hp:p.cD k=none:=by rfl)(hf:p.br k=some f:=by rfl)(hn:Nat.ble args.length f.ntmps=true:=by rfl)(hv:below 0 v=true:=by first|rfl|simp only[go_sem,seval])(hl:v.cT=true:=by first|rfl|simp only[go_sem,seval]):ae p (X p) k args=some (v,o):=by
 obtain⟨hh,hc⟩:=hc
 cases f with
 |mk n b r=>exact WK hp (by rw[qg hf (Nat.le_of_ble_eq_true hn)];exact hc) (qtv hv) hv hl
theorem jr {σ δ:Type}{p:j8}{c:bn}{St:σ->bg}{Ex:δ->q9×bg}{s s':σ}(h:X p c (St s)=some (.normal,St s'))(hl:(St s').heap.length<=(St s).heap.length:=by exact Nat.le_refl _):jo p c St Ex s (.inl s'):=z5 h (yg hl)
theorem jcu {σ δ:Type}{p:j8}{c:bn}{St:σ->bg}{Ex:δ->q9×bg}{s s':σ}(h:∃t,X p c (St s)=En (.normal,⟨(St s').env,(St s').heap++t⟩))(hn:(St s).heap.length=(St s').heap.length)(Y:mT (St s).heap.length (St s').env=Ga)(I:qt (St s).heap.length (St s').heap=Ga):jo p c St Ex s (.inl s'):=by
 obtain⟨t,h⟩:=h;exact z5 h (jsh hn rfl Y I)
theorem n6 {α:Type}{z:Nat}{f:α->AVal}{l:List α}:sl z f (En l)=.list Gd z (l.map f):=rfl
theorem zc {α:Type}{z:Nat}{f:α->AVal}:sl z f Gb=.list Ga 0 []:=rfl
abbrev Iv (n:Int):AVal:=.int .i64 n
abbrev Lv {α:Type}(o:Option (List α)):AVal:=.int .i64 ((o.getD []).length:Int)
abbrev Nl:AVal:=.list Ga 0 []
abbrev aE (e:aC):AVal:=.agg [.int .i64 e.number,.str e.kind,sl 1 qx e.names,sl 1 zf e.values,.str e.text]
abbrev aR (r:av):AVal:=.agg [.int .i64 r.day,sl 5 jf r.ay,sl 4 qw r.ah,sl 8 bI r.units]
abbrev aU (u:bz):AVal:=.agg [.str u.name,.str u.product,.int .i64 u.version,sl 2 bD u.uses,sl 3 jb u.results,.str u.partner,.bool u.ax,.int .i64 u.au]
abbrev aL (l:jk):AVal:=.agg [.str l.name,.str l.kind,.int .i64 l.count,.int .i64 l.left,.bool l.held]
abbrev aP (p:bw):AVal:=.agg [.str p.name,sl 2 bD p.dn,sl 3 jb p.dt,sl 2 yv p.bm]
abbrev aD (d:cn):AVal:=.agg [sl 2 bD d.bh,sl 3 jb d.aS]
abbrev aT (x:jh):AVal:=.agg [.str x.k,.int .i64 x.a,.int .i64 x.b]
abbrev aN (x:bG):AVal:=.agg [.str x.k,.int .i64 x.n]
abbrev aG (a:Int)(b:ak jk)(c:ak bw)(d:ak bz):AVal:=.agg [.int .i64 a,sl 5 jf b,sl 4 qw c,sl 8 bI d]
abbrev kS (a:Int)(b:ak jk)(o1:Bool)(c:ak bw)(o2:Bool)(d:ak bz)(o3:Bool):aM:=.cells [(.int .i64 a,Gd),(sl 5 jf b,o1),(sl 4 qw c,o2),(sl 8 bI d,o3)]
abbrev kR (a:Int)(b:ak jk)(c:ak bw)(d:ak bz):aM:=.cells [(.int .i64 a,Gd),(sl 5 jf b,Gd),(sl 4 qw c,Gd),(sl 8 bI d,Gd)]
abbrev kO:aM:=.cells [(Nl,Gd),(Nl,Gd),(Nl,Gd)]
abbrev kZ:aM:=.cells [(.int .i64 0,Gd),(Nl,Gd),(Nl,Gd),(Nl,Gd)]
abbrev aZ:AVal:=.agg [.int .i64 0,Nl,Nl,Nl]
def om {α β:Type}(o:Option α)(f:α->β):Option β:=match o with
 |some x=>En (f x)|none=>Gb
theorem znj {α β:Type}{x:α}{f:α->β}:om (En x) f=En (f x):=rfl
theorem ji {h:qh}{α:Type}{z:Nat}{f:α->AVal}{l k i}:mM z h (En (sl z f l)) (En (.int k i))=om (ql (l.getD []) i) fun x=>⟨.aq (f x),Gd,Gb,h⟩:=by
 cases M:ql (l.getD []) i with
 |some x=>exact jn M
 |none=>
  have hi:vG (l.getD []).length i=Gb:=by
   unfold ql at M;unfold vG;by_cases h0:0<=i
   .rw[if_pos h0]at M;rw[if_neg];intro hc;have:=Hc.1 M;omega
   .rw[if_neg (fun hc=>h0 hc.1)]
  cases l with
  |none=>simp only[sl,mM,zJ,Option.getD_none,H2]at hi ⊢;rw[hi];simp[om]|some l=>simp only[sl,mM,zJ,Io,If]at hi ⊢;rw[hi];simp[om]
theorem BL {h s k i}:BH h (En (.str s)) (En (.int k i))=om (ql s i) fun c=>⟨.int .u8 (c.toNat:Int),Gd,Gb,h⟩:=by
 cases M:ql s i with
 |some x=>exact yp M
 |none=>
  have hi:vG s.length i=Gb:=by
   unfold ql at M;unfold vG;by_cases h0:0<=i
   .rw[if_pos h0]at M;rw[if_neg];intro hc;have:=Hc.1 M;omega
   .rw[if_neg (fun hc=>h0 hc.1)]
  simp only[BH,zJ,hi,om]
theorem zM {h b pos s}:vJ h b (En (.iter s pos))=cond (decide (pos<s.length)) (iT (jy h b (.iter s (pos+(qj s pos).2))) (.aI [.bool Ga,.int .i64 pos,.int .i32 (qj s pos).1])) (En ⟨.aI [.bool Gd],Gd,Gb,h⟩):=by
 cases M:decide (pos<s.length)with
 |true=>exact j1n M|false=>exact j1d M
theorem kr {h:qh}{α:Type}{z b t:Nat}{f:α->AVal}{o2}:bV (z+1) b h (En t) (En (.list Gd (z+1) [])) (En (sl (z+1) f o2))=ct (decide (b<=4096)) (om (bB (En []) (o2.getD [])) fun v=>⟨sl (z+1) f v,Ga,En t,h⟩):=by
 cases M:bB (En []) (o2.getD [])with
 |some x=>exact q4r M
 |none=>
  unfold bB at M;split at M
  .cases M
  rename_i hl;simp only[Io,H2]at hl;simp only[bV,bV.iU,Wp,H2,If,nY,decide_eq_false hl,om];cases decide (b<=4096)<;>simp[ct]
theorem BM {p o v}(hv:bB o [p]=En v):(∀ {b t:Nat} {h:qh} {bb:Bool},bV 2 b h (En t) (En (sl 2 bD o)) (En (.list bb 2 [.agg [.str p.k,.int .i64 p.n]]))=ct (decide (b<=4096)) (En ⟨sl 2 bD v,Ga,En t,h⟩))/\(∀ {b:Nat} {h:qh} {bb:Bool},o.isNone=Ga->bV 2 b h Gb (En (sl 2 bD o)) (En (.list bb 2 [.agg [.str p.k,.int .i64 p.n]]))=ct (decide (b<=4096)) (En ⟨sl 2 bD v,Ga,Gb,h⟩)):=⟨jj2 hv,jie hv⟩
theorem Gm {p o v}(hv:bB o [p]=En v):(∀ {b t:Nat} {h:qh} {bb:Bool},bV 3 b h (En t) (En (sl 3 jb o)) (En (.list bb 3 [.agg [.str p.k,.int .i64 p.a,.int .i64 p.b]]))=ct (decide (b<=4096)) (En ⟨sl 3 jb v,Ga,En t,h⟩))/\(∀ {b:Nat} {h:qh} {bb:Bool},o.isNone=Ga->bV 3 b h Gb (En (sl 3 jb o)) (En (.list bb 3 [.agg [.str p.k,.int .i64 p.a,.int .i64 p.b]]))=ct (decide (b<=4096)) (En ⟨sl 3 jb v,Ga,Gb,h⟩)):=⟨jhk hv,jfg hv⟩
theorem WL {p o v}(hv:bB o [p]=En v):(∀ {b t:Nat} {h:qh} {bb:Bool},bV 5 b h (En t) (En (sl 5 jf o)) (En (.list bb 5 [.agg [.str p.name,.str p.kind,.int .i64 p.count,.int .i64 p.left,.bool p.held]]))=ct (decide (b<=4096)) (En ⟨sl 5 jf v,Ga,En t,h⟩))/\(∀ {b:Nat} {h:qh} {bb:Bool},o.isNone=Ga->bV 5 b h Gb (En (sl 5 jf o)) (En (.list bb 5 [.agg [.str p.name,.str p.kind,.int .i64 p.count,.int .i64 p.left,.bool p.held]]))=ct (decide (b<=4096)) (En ⟨sl 5 jf v,Ga,Gb,h⟩)):=⟨q0n hv,q07 hv⟩
theorem jcp {p o v}(hv:bB o [p]=En v):(∀ {b t:Nat} {h:qh} {bb:Bool},bV 2 b h (En t) (En (sl 2 yv o)) (En (.list bb 2 [.agg [sl 2 bD p.bh,sl 3 jb p.aS]]))=ct (decide (b<=4096)) (En ⟨sl 2 yv v,Ga,En t,h⟩))/\(∀ {b:Nat} {h:qh} {bb:Bool},o.isNone=Ga->bV 2 b h Gb (En (sl 2 yv o)) (En (.list bb 2 [.agg [sl 2 bD p.bh,sl 3 jb p.aS]]))=ct (decide (b<=4096)) (En ⟨sl 2 yv v,Ga,Gb,h⟩)):=⟨jhn hv,jfd hv⟩
theorem q7g {p o v}(hv:bB o [p]=En v):(∀ {b t:Nat} {h:qh} {bb:Bool},bV 4 b h (En t) (En (sl 4 qw o)) (En (.list bb 4 [.agg [.str p.name,sl 2 bD p.dn,sl 3 jb p.dt,sl 2 yv p.bm]]))=ct (decide (b<=4096)) (En ⟨sl 4 qw v,Ga,En t,h⟩))/\(∀ {b:Nat} {h:qh} {bb:Bool},o.isNone=Ga->bV 4 b h Gb (En (sl 4 qw o)) (En (.list bb 4 [.agg [.str p.name,sl 2 bD p.dn,sl 3 jb p.dt,sl 2 yv p.bm]]))=ct (decide (b<=4096)) (En ⟨sl 4 qw v,Ga,Gb,h⟩)):=⟨jb4 hv,jb2 hv⟩
theorem Pb {p o v}(hv:bB o [p]=En v):(∀ {b t:Nat} {h:qh} {bb:Bool},bV 8 b h (En t) (En (sl 8 bI o)) (En (.list bb 8 [.agg [.str p.name,.str p.product,.int .i64 p.version,sl 2 bD p.uses,sl 3 jb p.results,.str p.partner,.bool p.ax,.int .i64 p.au]]))=ct (decide (b<=4096)) (En ⟨sl 8 bI v,Ga,En t,h⟩))/\(∀ {b:Nat} {h:qh} {bb:Bool},o.isNone=Ga->bV 8 b h Gb (En (sl 8 bI o)) (En (.list bb 8 [.agg [.str p.name,.str p.product,.int .i64 p.version,sl 2 bD p.uses,sl 3 jb p.results,.str p.partner,.bool p.ax,.int .i64 p.au]]))=ct (decide (b<=4096)) (En ⟨sl 8 bI v,Ga,Gb,h⟩)):=⟨ji6 hv,jkc hv⟩
theorem jt1 {p o v}(hv:bB o [p]=En v):(∀ {b t:Nat} {h:qh} {bb:Bool},bV 4 b h (En t) (En (sl 4 zw o)) (En (.list bb 4 [.agg [.int .i64 p.day,sl 5 jf p.ay,sl 4 qw p.ah,sl 8 bI p.units]]))=ct (decide (b<=4096)) (En ⟨sl 4 zw v,Ga,En t,h⟩))/\(∀ {b:Nat} {h:qh} {bb:Bool},o.isNone=Ga->bV 4 b h Gb (En (sl 4 zw o)) (En (.list bb 4 [.agg [.int .i64 p.day,sl 5 jf p.ay,sl 4 qw p.ah,sl 8 bI p.units]]))=ct (decide (b<=4096)) (En ⟨sl 4 zw v,Ga,Gb,h⟩)):=⟨jeo hv,jfn hv⟩
theorem jio {p o v}(hv:bB o [p]=En v):(∀ {b t:Nat} {h:qh} {bb:Bool},bV 5 b h (En t) (En (sl 5 bK o)) (En (.list bb 5 [.agg [.int .i64 p.number,.str p.kind,sl 1 qx p.names,sl 1 zf p.values,.str p.text]]))=ct (decide (b<=4096)) (En ⟨sl 5 bK v,Ga,En t,h⟩))/\(∀ {b:Nat} {h:qh} {bb:Bool},o.isNone=Ga->bV 5 b h Gb (En (sl 5 bK o)) (En (.list bb 5 [.agg [.int .i64 p.number,.str p.kind,sl 1 qx p.names,sl 1 zf p.values,.str p.text]]))=ct (decide (b<=4096)) (En ⟨sl 5 bK v,Ga,Gb,h⟩)):=⟨J3 hv,Pa hv⟩
theorem WM {x o v}(hv:bB o [x]=En v):(∀ {b t:Nat} {h:qh} {bb:Bool},bV 1 b h (En t) (En (sl 1 zf o)) (En (.list bb 1 [.int .i64 x]))=ct (decide (b<=4096)) (En ⟨sl 1 zf v,Ga,En t,h⟩))/\(∀ {b:Nat} {h:qh} {bb:Bool},o.isNone=Ga->bV 1 b h Gb (En (sl 1 zf o)) (En (.list bb 1 [.int .i64 x]))=ct (decide (b<=4096)) (En ⟨sl 1 zf v,Ga,Gb,h⟩)):=⟨q15 hv,q0g hv⟩
theorem tI {x o v}(hv:bB o [x]=En v):(∀ {b t:Nat} {h:qh} {bb:Bool},bV 1 b h (En t) (En (sl 1 qx o)) (En (.list bb 1 [.str x]))=ct (decide (b<=4096)) (En ⟨sl 1 qx v,Ga,En t,h⟩))/\(∀ {b:Nat} {h:qh} {bb:Bool},o.isNone=Ga->bV 1 b h Gb (En (sl 1 qx o)) (En (.list bb 1 [.str x]))=ct (decide (b<=4096)) (En ⟨sl 1 qx v,Ga,Gb,h⟩)):=⟨Pc hv,fun hn=>tH (by omega) rfl hn hv⟩
theorem jzg {α:Type}{o v hi}(hv:n8 o Gb (En hi)=En v):∀(h:qh) (z:Nat) (f:α->AVal) (k:IntKind),qQ z h (En (sl z f o)) Gb (En (En (.int k hi)))=En ⟨sl z f v,Gd,Gb,h⟩:=fun _ _ _ _=>juh hv
theorem j8w {n v}:below n (.aq v)=below n v:=rfl
structure n9 where
 names:Int
 values:Int
 known:Bool
theorem jy3 {O b0 J b1 a2 b2}:yx [.str,.int,.int] [.str O,.int .i64 J,.int .i64 a2] [.str b0,.int .i64 b1,.int .i64 b2]=En (decide (O=b0)&&decide (J=b1)&&decide (a2=b2)):=by
 have e:∀x y:Int,(x == y)=decide (x=y):=fun x y=>by by_cases h:x=y<;>simp[h]
 have e':∀x y:aj,(x == y)=decide (x=y):=fun x y=>by by_cases h:x=y<;>simp[h]
 have e2:∀x y:Bool,(x == y)=decide (x=y):=fun x y=>by cases x<;>cases y<;>rfl
 simp only[yx,nQ,e,e',e2,decide_true,cond_true];by_cases h0:O=b0<;>by_cases Y:J=b1<;>by_cases I:a2=b2<;>simp[h0,Y,I]
theorem zlg {h O b0 J b1 a2 b2}:WN [.str,.int,.int] Ga h (En (.agg [.str O,.int .i64 J,.int .i64 a2])) (En (.agg [.str b0,.int .i64 b1,.int .i64 b2]))=En ⟨.bool (!(decide (O=b0)&&decide (J=b1)&&decide (a2=b2))),Gd,Gb,h⟩:=by
 show(match yx [.str,.int,.int] [.str O,.int .i64 J,.int .i64 a2] [.str b0,.int .i64 b1,.int .i64 b2]with|some t=>val h (.bool (bif Ga then !t else t))|none=>Gb)=_;rw[jy3];rfl
theorem zj6 {h0 al h g a b}:iu h0 al Gd 1 h (En (.aq (.fn g a b)))=En ⟨.fn g a b,Gd,Gb,h⟩:=rfl
def tJ (h:qh)(zero:AVal)(r:Option (Option (Nat×AVal))):Option bA:=match r with
 |some (En (_,v))=>En ⟨.aI [v,.bool Ga],Gd,Gb,h⟩|some Gb=>En ⟨.aI [zero,.bool Gd],Gd,Gb,h⟩|none=>Gb
theorem j4o {h z v i}:tJ h z (En (En (i,v)))=En ⟨.aI [v,.bool Ga],Gd,Gb,h⟩:=rfl
theorem j4i {h z}:tJ h z (En Gb)=En ⟨.aI [z,.bool Gd],Gd,Gb,h⟩:=rfl
def Pd (h:qh)(kd:Kd)(z kv:AVal)(x:Option aM):Option bA:=match x with
 |some (.map es)=>tJ h z (j6 kd kv es 0)|_=>Gb
theorem j9w {h kd z kv es}:Pd h kd z kv (En (.map es))=tJ h z (j6 kd kv es 0):=rfl
def WO (h0:Nat)(al:ak Nat)(h:qh)(kd:Kd)(z:AVal)(m k:Option AVal):Option bA:=match m,k with
 |some (.map b),En kv=>ct (ze h0 al b) (Pd h kd z kv h[b]?)|some .cg,En _=>En ⟨.aI [z,.bool Gd],Gd,Gb,h⟩|_,_=>Gb
theorem jx8 {h0 al h kd z kv b}:WO h0 al h kd z (En (.map b)) (En kv)=ct (ze h0 al b) (Pd h kd z kv h[b]?):=rfl
theorem za7 {p xc h0 al e h kd z m k}:qf p xc h0 al e h (.lookup kd z Ga m k)=WO h0 al h kd z (qi e m) (qi e k):=by
 simp only[qf,yo,WO]
 cases qi e m with
 |none=>cases qi e k<;>rfl
 |some v=>cases qi e k with
  |none=>cases v<;>rfl
  |some kv=>cases v with
   |map b=>
    simp only[ct,zh,Pd,tJ]
    cases ze h0 al b with
    |false=>rfl
    |true=>
     simp only[cond_true]
     cases h[b]? with
     |none=>rfl
     |some x=>cases x with
      |map es=>
       simp only[]
       cases j6 kd kv es 0 with
       |none=>rfl|some r=>cases r<;>rfl
      |_=>rfl
   |_=>rfl
theorem J4 {σ δ γ:Type}(n:Nat)(mk:Nat->σ)(f:σ->Option (σ⊕δ))(aaf:δ->γ)(r:Nat->γ)(dh:∃d,f (mk n)=En (.inr d)/\aaf d=r n)
  (cm:∀i,i<n->(f (mk i)=En (.inl (mk (i+1)))/\r i=r (i+1))\/(∃d,f (mk i)=En (.inr d)/\aaf d=r i)):∃d,bd f (mk 0)=En d/\aaf d=r 0:=by
 have key:∀(k i:Nat),i+k=n->∃d,bd f (mk i)=En d/\aaf d=r i:=by
  intro k
  induction k with
  |zero=>
   intro i hi
   have:i=n:=by omega
   subst this;obtain⟨d,Y,I⟩:=dh;exact⟨d,ju Y,I⟩
  |succ k ih=>
   intro i hi;rcases cm i (by omega)with⟨Y,I⟩|⟨d,Y,I⟩
   .rw[z9 Y,I];exact ih (i+1) (by omega)
   .exact⟨d,ju Y,I⟩
 exact key n 0 (by omega)
theorem Pe {α δ:Type}(l:List α)(f:Int->Option (Int⊕δ))(q:α->Bool)(aaf:δ->Bool)(dh:∃d,f (l.length:Int)=En (.inr d)/\aaf d=Ga)
  (cm:∀(i:Nat) x,l[i]?=En x->i<l.length->(q x=Ga/\f (i:Int)=En (.inl ((i+1:Nat):Int)))\/(q x=Gd/\∃d,f (i:Int)=En (.inr d)/\aaf d=Gd)):∃d,bd f 0=En d/\aaf d=l.all q:=by
 have:=J4 l.length (fun i=>(i:Int)) f aaf (fun i=>(l.drop i).all q) (by rw[Ig (Nat.le_refl _)];exact dh) (fun i hi=>by
  obtain⟨x,M⟩:∃x,l[i]?=En x:=⟨_,Hq hi⟩;simp only[qR M,List.all_cons];rcases cm i x M hi with⟨Y,I⟩|⟨Y,I⟩
  ·rw[Y];exact .inl ⟨I,rfl⟩
  ·rw[Y];exact .inr I)
 simpa using this
theorem q8m {α β:Type}(l:List α)(ix:Nat->Int)(f:Option (List β)×Int×Bool->Option ((Option (List β)×Int×Bool)⊕(Option (List β)×Bool×Int)))(h:α->List β)(O:List β)(aah:Nat->List β->Prop)(hI:aah 0 O)
  (dh:∀a,f (jd a,ix l.length,fE a)=En (.inr (jd a,fE a,ix l.length)))
  (cm:∀(i:Nat) x a,l[i]?=En x->i<l.length->aah i a->aah (i+1) (a++h x)/\f (jd a,ix i,fE a)=En (.inl (jd (a++h x),ix (i+1),fE (a++h x)))):
  bd f (jd O,ix 0,fE O)=En (jd (O++l.flatMap h),fE (O++l.flatMap h),ix l.length):=by
 have key:∀(k i:Nat),i+k=l.length->∀a,aah i a->bd f (jd a,ix i,fE a)=En (jd (a++(l.drop i).flatMap h),fE (a++(l.drop i).flatMap h),ix l.length):=by
  intro k
  induction k with
  |zero=>
   intro i hi a _
   have:i=l.length:=by omega
   subst this;rw[Ig (Nat.le_refl _),List.flatMap_nil,List.append_nil,ju (dh a)]
  |succ k ih=>
   intro i hi a ha;obtain⟨x,M⟩:∃x,l[i]?=En x:=⟨_,Hq (by omega)⟩;obtain⟨Y,I⟩:=cm i x a M (by omega) ha;rw[z9 I,ih (i+1) (by omega) _ Y,qR M,Ij,List.append_assoc]
 have:=key l.length 0 (by omega) O hI;rwa [List.drop_zero]at this
theorem qz4 {α:Type}{a:List α}{x}(h:a.length<1073741824):bB (jd a) [x]=En (jd (a++[x])):=by
 unfold bB
 cases a with
 |nil=>rfl
 |cons y a=>
  have:((jd (y::a)).getD []).length + [x].length<=1073741824:=by simp[jd]at h ⊢;omega
  rw[if_pos this];rfl
theorem vM {α γ:Type}{a:List α}{x:α}{k:Option (List α)->Option γ}(h:a.length<1073741824):cond (fE a) (qa (bB (jd a) [x]) k) (cond (jd a).isNone (qa (bB (jd a) [x]) k) Gb)=k (jd (a++[x])):=by
 rw[qz4 h];cases a<;>rfl
theorem zb {α:Type}(a:List α):(jd a).getD []=a:=by cases a<;>rfl
theorem J5 {α β:Type}(h:α->β):∀l:List α,l.flatMap (fun x=>[h x])=l.map h
 | []=>rfl
 |x::l=>by rw[Ij,J5 h l];rfl
theorem jcn {α β:Type}(l:List α)(f:Option (List β)×Int×Bool->Option ((Option (List β)×Int×Bool)⊕(Option (List β)×Bool×Int)))(h:α->β)(hl:l.length<=1073741824)
  (dh:∀a:Option (List β)×Bool,f (a.1,(l.length:Int),a.2)=En (.inr (a.1,a.2,(l.length:Int))))
  (cm:∀(i:Nat) x (a:List β),l[i]?=En x->i<l.length->a.length<1073741824->f (jd a,(i:Int),fE a)=En (.inl (jd (a++[h x]),((i+1:Nat):Int),Ga))):
  bd f (Gb,0,Gd)=En (jd (l.map h),fE (l.map h),(l.length:Int)):=by
 have:=q8m l (fun i=>(i:Int)) f (fun x=>[h x]) [] (fun i a=>a.length=i) rfl (fun a=>dh (jd a,fE a)) (fun i x a M hi ha=>⟨by simp[ha],by rw[cm i x a M hi (by omega),zN]⟩);rw[J5,List.nil_append]at this;exact this
theorem ja {α:Type}{l:List α}{i:Nat}{x:α}(M:l[i]?=En x):ql l (i:Int)=En x:=by rw[oO,M]
theorem yn {α:Type}{l:List α}{i}(h:i<l.length):decide ((i:Int)<(l.length:Int))=Ga:=decide_eq_true (by omega)
theorem z4 {n}:decide ((n:Int)<(n:Int))=Gd:=decide_eq_false (by omega)
attribute [go_sem] znj j8w zlg zj6 j4o j4i j9w jx8 za7
end Go.Z
namespace Go.Z
open Go Go.Abs Go.W
def jP:List (aj×aj×Int×Nat):=[(oc,[45,45],2,106),(oP,[45],1,107),(od,[112,45],2,108),(lW,[112,45],3,109),(sg,[112],1,110),(qS,[45,112],1,111),(oe,[117,108],2,112),(qT,[117,45],2,113),(si,[117],1,114),(oQ,[117,117],1,115),(pP,[108],1,116),(tK,[108],1,117),(lX,[117],1,118),(zO,[117],1,119),(oR,[],0,0)]
def fnv (k:Nat):AVal:=bif Nat.beq k 0 then .cx else .fn (.func k) [] []
def qU (x:aj):Option (aj×aj×Int×Nat):=jP.find? fun f=>decide (x=f.1)
def j9 (x:aj):aj:=match qU x with
 |some f=>f.2.1|none=>[]
def mN (x:aj):Int:=match qU x with
 |some f=>f.2.2.1|none=>0
def nz (x:aj):AVal:=match qU x with
 |some f=>fnv f.2.2.2|none=>.cx
def lY (x:aj):Bool:=(qU x).isSome
theorem qye:jc=jP.map fun f=>(.str f.1,.agg [.str f.2.1,.int .i64 f.2.2.1,fnv f.2.2.2]):=rfl
theorem WQ (x:aj)(h:qh):∀(l:List (aj×aj×Int×Nat)) (n:Nat),j6 .str (.str x) (l.map fun f=>(.str f.1,.agg [.str f.2.1,.int .i64 f.2.2.1,fnv f.2.2.2])) n=En Gb/\l.find? (fun f=>decide (x=f.1))=Gb\/∃i f,j6 .str (.str x) (l.map fun f=>(.str f.1,.agg [.str f.2.1,.int .i64 f.2.2.1,fnv f.2.2.2])) n=En (En (i,.agg [.str f.2.1,.int .i64 f.2.2.1,fnv f.2.2.2]))/\l.find? (fun f=>decide (x=f.1))=En f
 | [],n=>.inl ⟨rfl,rfl⟩
 |f::l,n=>by
  have he:nQ .str (.str x) (.str f.1)=En (decide (x=f.1)):=by
   show En (x == f.1)=_;by_cases M:x=f.1<;>simp[M]
  by_cases M:x=f.1
  .refine .inr ⟨n,f,?_,?_⟩
   .simp only[Hb,j6,he,decide_eq_true M]
   .simp[Ha,M]
  .rcases WQ x h l (n+1)with⟨Y,I⟩|⟨i,g,Y,I⟩
   .exact .inl ⟨by simp only[Hb,j6,he,M,decide_false];exact Y,by simp only[Ha,M,decide_false];exact I⟩
   .exact .inr ⟨i,g,by simp only[Hb,j6,he,M,decide_false];exact Y,by simp only[Ha,M,decide_false];exact I⟩
theorem zff {h g a b}:zK Gd h (En (.fn g a b))=En ⟨.aq (.fn g a b),Gd,Gb,h⟩:=rfl
theorem zmq:pr.maps 39=En jc:=rfl
theorem tL {h}(x:aj):tJ h (.agg [.str [],.int .i64 0,.cx]) (j6 .str (.str x) jc 0)=En ⟨.aI [.agg [.str (j9 x),.int .i64 (mN x),nz x],.bool (lY x)],Gd,Gb,h⟩:=by
 rw[qye];rcases WQ x h jP 0 with⟨Y,I⟩|⟨i,f,Y,I⟩
 .rw[Y];simp only[tJ,j9,mN,nz,lY,qU,I];rfl
 .rw[Y];simp only[tJ,j9,mN,nz,lY,qU,I];rfl
theorem Pg {h}(x:aj):xp h (.agg [.str [],.int .i64 0,.cx]) (j6 .str (.str x) jc 0)=En ⟨.agg [.str (j9 x),.int .i64 (mN x),nz x],Gd,Gb,h⟩:=by
 rw[qye];rcases WQ x h jP 0 with⟨Y,I⟩|⟨i,f,Y,I⟩
 .rw[Y];simp only[xp,j9,mN,nz,qU,I];rfl
 .rw[Y];simp only[xp,j9,mN,nz,qU,I];rfl
theorem zlr {x}:qk (nz x)=Ga:=by
 unfold nz;split
 .rename_i f _;simp only[fnv];cases Nat.beq f.2.2.2 0<;>rfl
 .rfl
def eZ (l:List (aj×Int)):List (AVal×AVal):=l.map fun p=>(.str p.1,.int .i64 p.2)
def og (l:List (aj×Int))(k:aj):Int:=match l.find? fun p=>decide (k=p.1)with
 |some p=>p.2|none=>0
def lZ:List (aj×Int)->aj->Int->List (aj×Int)
 | [],k,v=>[(k,v)]
 |p::l,k,v=>if k=p.1 then(p.1,v)::l else p::lZ l k v
def Ph (l:List (aj×Int))(k:aj)(v:Int):Option (List (aj×Int)):=if l.length<=1073741824 then En (lZ l k v)else Gb
theorem WR {k s}:nQ .str (.str k) (.str s)=En (decide (k=s)):=by
 show En (k == s)=_;by_cases M:k=s<;>simp[M]
theorem WS (k:aj):∀(l:List (aj×Int)) (n:Nat),(j6 .str (.str k) (eZ l) n=En Gb/\l.find? (fun p=>decide (k=p.1))=Gb/\∀v,eZ (lZ l k v)=eZ l++[(.str k,.int .i64 v)])\/∃i p,j6 .str (.str k) (eZ l) n=En (En (n+i,.int .i64 p.2))/\l.find? (fun p=>decide (k=p.1))=En p/\∀v,eZ (lZ l k v)=sP (eZ l) i (.int .i64 v)
 | [],n=>.inl ⟨rfl,rfl,fun _=>rfl⟩
 |p::l,n=>by
  by_cases M:k=p.1
  .refine .inr ⟨0,p,?_,?_,fun v=>?_⟩
   .simp only[eZ,Hb,j6,WR,decide_eq_true M];rfl
   .simp[Ha,M]
   .simp only[lZ,if_pos M];rfl
  .rcases WS k l (n+1)with⟨Y,I,h3⟩|⟨i,q,Y,I,h3⟩
   .refine .inl ⟨?_,?_,fun v=>?_⟩
    .simp only[eZ,Hb,j6,WR,decide_eq_false M];exact Y
    .simp only[Ha,decide_eq_false M];exact I
    .simp only[lZ,if_neg M];show _::eZ (lZ l k v)=_;rw[h3];rfl
   .refine .inr ⟨i+1,q,?_,?_,fun v=>?_⟩
    .simp only[eZ,Hb,j6,WR,decide_eq_false M];rw[show n+(i+1)=n+1+i by omega];exact Y
    .simp only[Ha,decide_eq_false M];exact I
    .simp only[lZ,if_neg M];show _::eZ (lZ l k v)=_;rw[h3];rfl
theorem jrz {h l k}:xp h (.int .i64 0) (j6 .str (.str k) (eZ l) 0)=En ⟨.int .i64 (og l k),Gd,Gb,h⟩:=by
 unfold og;rcases WS k l 0 with⟨Y,I,_⟩|⟨i,p,Y,I,_⟩<;>rw[Y,I]<;>rfl
theorem j2g {h b l v k n}(hv:Ph l k n=En v):Gk h b (eZ l) (.str k) (.int .i64 n) (j6 .str (.str k) (eZ l) 0)=iT (jy h b (.map (eZ v))) .undef:=by
 unfold Ph at hv;split at hv
 .rename_i hl;cases hv;rcases WS k l 0 with⟨Y,I,h3⟩|⟨i,p,Y,I,h3⟩
  .rw[Y,h3];have:Nat.ble (eZ l).length 1073741824=Ga:=Nat.ble_eq_true_of_le (by rw[eZ,If];exact hl);simp only[Gk,this,ct,cond_true]
  .rw[Y,h3,Nat.zero_add];rfl
 .cases hv
theorem joi {l k k' v}:og (lZ l k v) k'=if k'=k then v else og l k':=by
 induction l with
 |nil=>by_cases h:k'=k<;>simp[lZ,og,Ha,h]
 |cons p l ih=>
  unfold og at ih ⊢;by_cases hk:k=p.1
  .by_cases h:k'=k
   .subst h;simp[lZ,Ha,<-hk]
   .have I:¬k'=p.1:=by rw[<-hk];exact h
    simp[lZ,Ha,hk,I]
  .by_cases I:k'=p.1
   .have h3:¬k'=k:=by rw[I];exact fun h=>hk h.symm
    have h4:¬p.1=k:=fun h=>hk h.symm;simp[lZ,Ha,hk,I,h4]
   .simp only[lZ,if_neg hk,Ha,decide_eq_false I];exact ih
theorem zbr {h0 al h b}:iu h0 al Gd 1 h (En (.aq (.map b)))=En ⟨.map b,Gd,Gb,h⟩:=rfl
theorem jex {n l}:ke n (eZ l)=Ga:=by
 induction l with
 |nil=>rfl|cons p l ih=>simp only[eZ,Hb,ke,below,Bool.true_and];exact ih
theorem jwh {n l}:zj n (.map (eZ l))=Ga:=jex
attribute [go_sem] zff zmq zlr zbr jex jwh
end Go.Z
end
