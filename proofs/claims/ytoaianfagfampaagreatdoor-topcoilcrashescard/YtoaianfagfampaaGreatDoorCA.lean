/- The structs of chapter 10 and their cells; what they are in plain lists. -/
import Derived.Test.YtoaianfagfampaaGreatDoorL1
import Derived.Test.YtoaianfagfampaaGreatDoorWS
set_option linter.all false
set_option maxRecDepth 100000
noncomputable section
open Option renaming some->Eb,none->Eh,getD_some->G8
open Bool renaming true->Eg,false->En,and_eq_true->G7
open List renaming find?->Ep,map_cons->E3,getElem?_eq_none_iff->E4,getElem?_eq_getElem->E8,length_nil->E9,length_map->G0,drop_eq_nil_of_le->G1,flatMap_cons->G5
open Nat renaming blt->G4
namespace Go.Z
open Go Go.Abs Go.W
def bz (p:bD):AVal:=.agg [.str p.k,.int .i64 p.n]
theorem j5x {p}:(bz p).flat=[.str p.k,.int .i64 p.n]:=rfl
theorem jhu {n}(p:bD):below n (bz p)=Eg:=by rfl
theorem jxj {n z l}:below n (sl z bz l)=Eg:=uq jhu
theorem j5c {p}:AVal.aq (bz p)=.aq (.agg [.str p.k,.int .i64 p.n]):=rfl
theorem jgv {b t h bb p o v}(hv:bB o [p]=Eb v):bR 2 b h (Eb t) (Eb (sl 2 bz o)) (Eb (.list bb 2 [.agg [.str p.k,.int .i64 p.n]]))=cm (decide (b<=4096)) (Eb ⟨sl 2 bz v,Eg,Eb t,h⟩):=uw (x:=p) (by omega) rfl hv
theorem jhd {b h bb p o v}(hv:bB o [p]=Eb v)(hn:o.isNone=Eg):bR 2 b h Eh (Eb (sl 2 bz o)) (Eb (.list bb 2 [.agg [.str p.k,.int .i64 p.n]]))=cm (decide (b<=4096)) (Eb ⟨sl 2 bz v,Eg,Eh,h⟩):=sK (x:=p) (by omega) rfl hn hv
def je (p:jh):AVal:=.agg [.str p.k,.int .i64 p.a,.int .i64 p.b]
theorem j3s {p}:(je p).flat=[.str p.k,.int .i64 p.a,.int .i64 p.b]:=rfl
theorem jc9 {n}(p:jh):below n (je p)=Eg:=by rfl
theorem jxb {n z l}:below n (sl z je l)=Eg:=uq jc9
theorem jg0 {p}:AVal.aq (je p)=.aq (.agg [.str p.k,.int .i64 p.a,.int .i64 p.b]):=rfl
theorem jc8 {b t h bb p o v}(hv:bB o [p]=Eb v):bR 3 b h (Eb t) (Eb (sl 3 je o)) (Eb (.list bb 3 [.agg [.str p.k,.int .i64 p.a,.int .i64 p.b]]))=cm (decide (b<=4096)) (Eb ⟨sl 3 je v,Eg,Eb t,h⟩):=uw (x:=p) (by omega) rfl hv
theorem jc7 {b h bb p o v}(hv:bB o [p]=Eb v)(hn:o.isNone=Eg):bR 3 b h Eh (Eb (sl 3 je o)) (Eb (.list bb 3 [.agg [.str p.k,.int .i64 p.a,.int .i64 p.b]]))=cm (decide (b<=4096)) (Eb ⟨sl 3 je v,Eg,Eh,h⟩):=sK (x:=p) (by omega) rfl hn hv
def jd (p:ji):AVal:=.agg [.str p.name,.str p.kind,.int .i64 p.count,.int .i64 p.left,.bool p.held]
theorem j25 {p}:(jd p).flat=[.str p.name,.str p.kind,.int .i64 p.count,.int .i64 p.left,.bool p.held]:=rfl
theorem jd8 {n}(p:ji):below n (jd p)=Eg:=by rfl
theorem jwv {n z l}:below n (sl z jd l)=Eg:=uq jd8
theorem q2l {p}:AVal.aq (jd p)=.aq (.agg [.str p.name,.str p.kind,.int .i64 p.count,.int .i64 p.left,.bool p.held]):=rfl
theorem qz3 {b t h bb p o v}(hv:bB o [p]=Eb v):bR 5 b h (Eb t) (Eb (sl 5 jd o)) (Eb (.list bb 5 [.agg [.str p.name,.str p.kind,.int .i64 p.count,.int .i64 p.left,.bool p.held]]))=cm (decide (b<=4096)) (Eb ⟨sl 5 jd v,Eg,Eb t,h⟩):=uw (x:=p) (by omega) rfl hv
theorem qxx {b h bb p o v}(hv:bB o [p]=Eb v)(hn:o.isNone=Eg):bR 5 b h Eh (Eb (sl 5 jd o)) (Eb (.list bb 5 [.agg [.str p.name,.str p.kind,.int .i64 p.count,.int .i64 p.left,.bool p.held]]))=cm (decide (b<=4096)) (Eb ⟨sl 5 jd v,Eg,Eh,h⟩):=sK (x:=p) (by omega) rfl hn hv
structure b9 where
 aX:ak bD
 aO:ak jh
def yr (p:b9):AVal:=.agg [sl 2 bz p.aX,sl 3 je p.aO]
theorem j3d {p}:(yr p).flat=[sl 2 bz p.aX,sl 3 je p.aO]:=rfl
attribute [go_sem] j5x jhu jxj j5c j3s jc9 jxb jg0 j25 jd8 jwv q2l j3d
theorem jbl {n}(p:b9):below n (yr p)=Eg:=by simp only[yr,go_sem]
theorem jwp {n z l}:below n (sl z yr l)=Eg:=uq jbl
theorem j26 {p}:AVal.aq (yr p)=.aq (.agg [sl 2 bz p.aX,sl 3 je p.aO]):=rfl
theorem jcj {b t h bb p o v}(hv:bB o [p]=Eb v):bR 2 b h (Eb t) (Eb (sl 2 yr o)) (Eb (.list bb 2 [.agg [sl 2 bz p.aX,sl 3 je p.aO]]))=cm (decide (b<=4096)) (Eb ⟨sl 2 yr v,Eg,Eb t,h⟩):=uw (x:=p) (by omega) rfl hv
theorem jcs {b h bb p o v}(hv:bB o [p]=Eb v)(hn:o.isNone=Eg):bR 2 b h Eh (Eb (sl 2 yr o)) (Eb (.list bb 2 [.agg [sl 2 bz p.aX,sl 3 je p.aO]]))=cm (decide (b<=4096)) (Eb ⟨sl 2 yr v,Eg,Eh,h⟩):=sK (x:=p) (by omega) rfl hn hv
structure bm where
 name:aj
 dn:ak bD
 dt:ak jh
 bg:ak b9
def qz (p:bm):AVal:=.agg [.str p.name,sl 2 bz p.dn,sl 3 je p.dt,sl 2 yr p.bg]
theorem jbk {p}:(qz p).flat=[.str p.name,sl 2 bz p.dn,sl 3 je p.dt,sl 2 yr p.bg]:=rfl
attribute [go_sem] jbl jwp j26 jbk
theorem q8n {n}(p:bm):below n (qz p)=Eg:=by simp only[qz,go_sem]
theorem jtr {n z l}:below n (sl z qz l)=Eg:=uq q8n
theorem jyf {p}:AVal.aq (qz p)=.aq (.agg [.str p.name,sl 2 bz p.dn,sl 3 je p.dt,sl 2 yr p.bg]):=rfl
theorem q8p {b t h bb p o v}(hv:bB o [p]=Eb v):bR 4 b h (Eb t) (Eb (sl 4 qz o)) (Eb (.list bb 4 [.agg [.str p.name,sl 2 bz p.dn,sl 3 je p.dt,sl 2 yr p.bg]]))=cm (decide (b<=4096)) (Eb ⟨sl 4 qz v,Eg,Eb t,h⟩):=uw (x:=p) (by omega) rfl hv
theorem q9n {b h bb p o v}(hv:bB o [p]=Eb v)(hn:o.isNone=Eg):bR 4 b h Eh (Eb (sl 4 qz o)) (Eb (.list bb 4 [.agg [.str p.name,sl 2 bz p.dn,sl 3 je p.dt,sl 2 yr p.bg]]))=cm (decide (b<=4096)) (Eb ⟨sl 4 qz v,Eg,Eh,h⟩):=sK (x:=p) (by omega) rfl hn hv
structure bp where
 name:aj
 product:aj
 version:Int
 uses:ak bD
 results:ak jh
 partner:aj
 ax:Bool
 au:Int
def bC (p:bp):AVal:=.agg [.str p.name,.str p.product,.int .i64 p.version,sl 2 bz p.uses,sl 3 je p.results,.str p.partner,.bool p.ax,.int .i64 p.au]
theorem jkt {p}:(bC p).flat=[.str p.name,.str p.product,.int .i64 p.version,sl 2 bz p.uses,sl 3 je p.results,.str p.partner,.bool p.ax,.int .i64 p.au]:=rfl
attribute [go_sem] q8n jtr jyf jkt
theorem jeo {n}(p:bp):below n (bC p)=Eg:=by simp only[bC,go_sem]
theorem j0f {n z l}:below n (sl z bC l)=Eg:=uq jeo
theorem j5l {p}:AVal.aq (bC p)=.aq (.agg [.str p.name,.str p.product,.int .i64 p.version,sl 2 bz p.uses,sl 3 je p.results,.str p.partner,.bool p.ax,.int .i64 p.au]):=rfl
theorem jfd {b t h bb p o v}(hv:bB o [p]=Eb v):bR 8 b h (Eb t) (Eb (sl 8 bC o)) (Eb (.list bb 8 [.agg [.str p.name,.str p.product,.int .i64 p.version,sl 2 bz p.uses,sl 3 je p.results,.str p.partner,.bool p.ax,.int .i64 p.au]]))=cm (decide (b<=4096)) (Eb ⟨sl 8 bC v,Eg,Eb t,h⟩):=uw (x:=p) (by omega) rfl hv
theorem jfn {b h bb p o v}(hv:bB o [p]=Eb v)(hn:o.isNone=Eg):bR 8 b h Eh (Eb (sl 8 bC o)) (Eb (.list bb 8 [.agg [.str p.name,.str p.product,.int .i64 p.version,sl 2 bz p.uses,sl 3 je p.results,.str p.partner,.bool p.ax,.int .i64 p.au]]))=cm (decide (b<=4096)) (Eb ⟨sl 8 bC v,Eg,Eh,h⟩):=sK (x:=p) (by omega) rfl hn hv
structure av where
 day:Int
 ay:ak ji
 ah:ak bm
 units:ak bp
def ju (p:av):AVal:=.agg [.int .i64 p.day,sl 5 jd p.ay,sl 4 qz p.ah,sl 8 bC p.units]
theorem j4c {p}:(ju p).flat=[.int .i64 p.day,sl 5 jd p.ay,sl 4 qz p.ah,sl 8 bC p.units]:=rfl
attribute [go_sem] jeo j0f j5l j4c
theorem jdq {n}(p:av):below n (ju p)=Eg:=by simp only[ju,go_sem]
theorem jwr {n z l}:below n (sl z ju l)=Eg:=uq jdq
theorem j3o {p}:AVal.aq (ju p)=.aq (.agg [.int .i64 p.day,sl 5 jd p.ay,sl 4 qz p.ah,sl 8 bC p.units]):=rfl
theorem jd9 {b t h bb p o v}(hv:bB o [p]=Eb v):bR 4 b h (Eb t) (Eb (sl 4 ju o)) (Eb (.list bb 4 [.agg [.int .i64 p.day,sl 5 jd p.ay,sl 4 qz p.ah,sl 8 bC p.units]]))=cm (decide (b<=4096)) (Eb ⟨sl 4 ju v,Eg,Eb t,h⟩):=uw (x:=p) (by omega) rfl hv
theorem jbz {b h bb p o v}(hv:bB o [p]=Eb v)(hn:o.isNone=Eg):bR 4 b h Eh (Eb (sl 4 ju o)) (Eb (.list bb 4 [.agg [.int .i64 p.day,sl 5 jd p.ay,sl 4 qz p.ah,sl 8 bC p.units]]))=cm (decide (b<=4096)) (Eb ⟨sl 4 ju v,Eg,Eh,h⟩):=sK (x:=p) (by omega) rfl hn hv
structure GEv where
 number:Int
 kind:aj
 names:ak aj
 values:ak Int
 text:aj
def vev (p:GEv):AVal:=.agg [.int .i64 p.number,.str p.kind,sl 1 jf p.names,sl 1 zg p.values,.str p.text]
theorem j6q {p}:(vev p).flat=[.int .i64 p.number,.str p.kind,sl 1 jf p.names,sl 1 zg p.values,.str p.text]:=rfl
attribute [go_sem] jdq jwr j3o j6q
theorem jgg {n}(p:GEv):below n (vev p)=Eg:=by simp only[vev,go_sem]
theorem j15 {n z l}:below n (sl z vev l)=Eg:=uq jgg
theorem j6h {p}:AVal.aq (vev p)=.aq (.agg [.int .i64 p.number,.str p.kind,sl 1 jf p.names,sl 1 zg p.values,.str p.text]):=rfl
theorem TW {b t h bb p o v}(hv:bB o [p]=Eb v):bR 5 b h (Eb t) (Eb (sl 5 vev o)) (Eb (.list bb 5 [.agg [.int .i64 p.number,.str p.kind,sl 1 jf p.names,sl 1 zg p.values,.str p.text]]))=cm (decide (b<=4096)) (Eb ⟨sl 5 vev v,Eg,Eb t,h⟩):=uw (x:=p) (by omega) rfl hv
theorem TX {b h bb p o v}(hv:bB o [p]=Eb v)(hn:o.isNone=Eg):bR 5 b h Eh (Eb (sl 5 vev o)) (Eb (.list bb 5 [.agg [.int .i64 p.number,.str p.kind,sl 1 jf p.names,sl 1 zg p.values,.str p.text]]))=cm (decide (b<=4096)) (Eb ⟨sl 5 vev v,Eg,Eh,h⟩):=sK (x:=p) (by omega) rfl hn hv
def b9.er (d:b9):jH:=⟨d.aX.getD [],d.aO.getD []⟩
def bm.er (p:bm):wh:=⟨p.name,⟨p.dn.getD [],p.dt.getD []⟩,(p.bg.getD []).map b9.er⟩
def bp.er (u:bp):cH:=⟨u.name,u.product,u.version,u.uses.getD [],u.results.getD [],u.partner,u.ax,u.au⟩
def av.er (r:av):bX:=⟨r.day,r.ay.getD [],(r.ah.getD []).map bm.er,(r.units.getD []).map bp.er⟩
def GEv.er (e:GEv):cf:=⟨e.number,e.kind,e.names.getD [],e.values.getD [],e.text⟩
attribute [go_sem] jgg j15 j6h
end Go.Z
namespace Go.Z
open Go Go.Abs Go.W
theorem TY {hh}:∀ {xs:List AVal},qt 0 xs=Eg->lW hh xs=Eb xs
 | [],_=>rfl
 |x::xs,h=>by
  simp only[qt,G7]at h
  have M:kr hh x=Eb x:=by
   cases x with
   |ms b o n=>simp[Abs.below,G4]at h|az b o n=>simp[Abs.below,G4]at h|_=>rfl
  simp only[lW,M,TY h.2]
theorem qsb {hh}:∀ {xs:List AVal},qt 0 xs=Eg->aV.bP hh xs=Eb xs
 | [],_=>rfl
 |x::xs,h=>by
  simp only[qt,G7]at h;have ih:=qsb (hh:=hh) h.2
  cases x with
  |agg cs=>
   have Y:=h.1;simp only[Abs.below]at Y;simp only[aV.bP,TY Y,ih]
  |ms b o n=>simp[Abs.below,G4]at h|az b o n=>simp[Abs.below,G4]at h|_=>simp only[aV.bP,kr,ih]
theorem qrl {hh x}(h:Abs.below 0 x=Eg):aV hh x=Eb x:=by
 cases x with
 |agg cs=>
  simp only[Abs.below]at h;simp only[aV,TY h]
 |bq vs=>
  simp only[Abs.below]at h;simp only[aV,qsb h]
 |ms b o n=>simp[Abs.below,G4]at h|az b o n=>simp[Abs.below,G4]at h|_=>rfl
theorem zd {p k}(f:iC){args v}(hc:∃hh,Ff f.results (X p f.body ⟨pq 0 args,[]⟩)=some (v,false,hh))(hp:p.di k=none:=by rfl)(hf:p.bn k=some f:=by rfl)(hl:Nat.ble args.length f.ntmps=true:=by rfl)(hv:below 0 v=true:=by first|rfl|simp only[go_sem,seval]):ae p (X p) k args=some (v,false):=by
 obtain⟨hh,hc⟩:=hc
 cases f with
 |mk n b r=>exact jo hp (by rw[qh hf (Nat.le_of_ble_eq_true hl)];exact hc) (qrl hv) hv
theorem yf {p k}(f:iC){args v o}(hc:∃hh,Ff f.results (X p f.body ⟨pq 0 args,[]⟩)=some (v,o,hh))(hp:p.di k=none:=by rfl)(hf:p.bn k=some f:=by rfl)(hn:Nat.ble args.length f.ntmps=true:=by rfl)(hv:below 0 v=true:=by first|rfl|simp only[go_sem,seval])(hl:v.cP=true:=by first|rfl|simp only[go_sem,seval]):ae p (X p) k args=some (v,o):=by
 obtain⟨hh,hc⟩:=hc
 cases f with
 |mk n b r=>exact q1i hp (by rw[qh hf (Nat.le_of_ble_eq_true hn)];exact hc) (qrl hv) hv hl
theorem jy {σ δ:Type}{p:j8}{c:aQ}{St:σ->bj}{Ex:δ->jc×bj}{s s':σ}(h:X p c (St s)=some (.normal,St s'))(hl:(St s').heap.length<=(St s).heap.length:=by exact Nat.le_refl _):js p c St Ex s (.inl s'):=z7 h (yv hl)
theorem q94 {σ δ:Type}{p:j8}{c:aQ}{St:σ->bj}{Ex:δ->jc×bj}{s s':σ}(h:∃t,X p c (St s)=Eb (.normal,⟨(St s').env,(St s').heap++t⟩))(hn:(St s).heap.length=(St s').heap.length)(Y:lU (St s).heap.length (St s').env=Eg)(I:qr (St s).heap.length (St s').heap=Eg):js p c St Ex s (.inl s'):=by
 obtain⟨t,h⟩:=h;exact z7 h (jpy hn rfl Y I)
theorem nu {α:Type}{z:Nat}{f:α->AVal}{l:List α}:sl z f (Eb l)=.list En z (l.map f):=rfl
theorem zp {α:Type}{z:Nat}{f:α->AVal}:sl z f Eh=.list Eg 0 []:=rfl
abbrev Iv (n:Int):AVal:=.int .i64 n
abbrev Lv {α:Type}(o:Option (List α)):AVal:=.int .i64 ((o.getD []).length:Int)
abbrev Nl:AVal:=.list Eg 0 []
abbrev aE (e:GEv):AVal:=.agg [.int .i64 e.number,.str e.kind,sl 1 jf e.names,sl 1 zg e.values,.str e.text]
abbrev aR (r:av):AVal:=.agg [.int .i64 r.day,sl 5 jd r.ay,sl 4 qz r.ah,sl 8 bC r.units]
abbrev aU (u:bp):AVal:=.agg [.str u.name,.str u.product,.int .i64 u.version,sl 2 bz u.uses,sl 3 je u.results,.str u.partner,.bool u.ax,.int .i64 u.au]
abbrev aL (l:ji):AVal:=.agg [.str l.name,.str l.kind,.int .i64 l.count,.int .i64 l.left,.bool l.held]
abbrev aP (p:bm):AVal:=.agg [.str p.name,sl 2 bz p.dn,sl 3 je p.dt,sl 2 yr p.bg]
abbrev aD (d:b9):AVal:=.agg [sl 2 bz d.aX,sl 3 je d.aO]
abbrev aT (x:jh):AVal:=.agg [.str x.k,.int .i64 x.a,.int .i64 x.b]
abbrev aN (x:bD):AVal:=.agg [.str x.k,.int .i64 x.n]
abbrev aG (a:Int)(b:ak ji)(c:ak bm)(d:ak bp):AVal:=.agg [.int .i64 a,sl 5 jd b,sl 4 qz c,sl 8 bC d]
abbrev kS (a:Int)(b:ak ji)(o1:Bool)(c:ak bm)(o2:Bool)(d:ak bp)(o3:Bool):bG:=.cells [(.int .i64 a,En),(sl 5 jd b,o1),(sl 4 qz c,o2),(sl 8 bC d,o3)]
abbrev kR (a:Int)(b:ak ji)(c:ak bm)(d:ak bp):bG:=.cells [(.int .i64 a,En),(sl 5 jd b,En),(sl 4 qz c,En),(sl 8 bC d,En)]
abbrev kO:bG:=.cells [(Nl,En),(Nl,En),(Nl,En)]
abbrev cn:bG:=.cells [(Nl,En),(Nl,En),(.az 5 0 1,En)]
abbrev kZ:bG:=.cells [(.int .i64 0,En),(Nl,En),(Nl,En),(Nl,En)]
abbrev aZ:AVal:=.agg [.int .i64 0,Nl,Nl,Nl]
def om {α β:Type}(o:Option α)(f:α->β):Option β:=match o with
 |some x=>Eb (f x)|none=>Eh
theorem zdq {α β:Type}{x:α}{f:α->β}:om (Eb x) f=Eb (f x):=rfl
theorem jn {h:qi}{α:Type}{z:Nat}{f:α->AVal}{l k i}:iR z h (Eb (sl z f l)) (Eb (.int k i))=om (qo (l.getD []) i) fun x=>⟨.aq (f x),En,Eh,h⟩:=by
 cases M:qo (l.getD []) i with
 |some x=>exact jg M
 |none=>
  have hi:uo (l.getD []).length i=Eh:=by
   unfold qo at M;unfold uo;by_cases h0:0<=i
   .rw[if_pos h0]at M;rw[if_neg];intro hc;have:=E4.1 M;omega
   .rw[if_neg (fun hc=>h0 hc.1)]
  cases l with
  |none=>simp only[sl,iR,xV,Option.getD_none,E9]at hi ⊢;rw[hi];simp[om]|some l=>simp only[sl,iR,xV,G8,G0]at hi ⊢;rw[hi];simp[om]
theorem T0 {h s k i}:A6 h (Eb (.str s)) (Eb (.int k i))=om (qo s i) fun c=>⟨.int .u8 (c.toNat:Int),En,Eh,h⟩:=by
 cases M:qo s i with
 |some x=>exact Bb M
 |none=>
  have hi:uo s.length i=Eh:=by
   unfold qo at M;unfold uo;by_cases h0:0<=i
   .rw[if_pos h0]at M;rw[if_neg];intro hc;have:=E4.1 M;omega
   .rw[if_neg (fun hc=>h0 hc.1)]
  simp only[A6,xV,hi,om]
theorem xY {h b pos s}:uv h b (Eb (.iter s pos))=cond (decide (pos<s.length)) (iy (jx h b (.iter s (pos+(ql s pos).2))) (.bq [.bool Eg,.int .i64 pos,.int .i32 (ql s pos).1])) (Eb ⟨.bq [.bool En],En,Eh,h⟩):=by
 cases M:decide (pos<s.length)with
 |true=>exact ju3 M|false=>exact jus M
theorem nv {h:qi}{α:Type}{z b t:Nat}{f:α->AVal}{o2}:bR (z+1) b h (Eb t) (Eb (.list En (z+1) [])) (Eb (sl (z+1) f o2))=cm (decide (b<=4096)) (om (bB (Eb []) (o2.getD [])) fun v=>⟨sl (z+1) f v,Eg,Eb t,h⟩):=by
 cases M:bB (Eb []) (o2.getD [])with
 |some x=>exact je2 M
 |none=>
  unfold bB at M;split at M
  .cases M
  rename_i hl;simp only[G8,E9]at hl;simp only[bR,bR.iz,TC,E9,G0,np,decide_eq_false hl,om];cases decide (b<=4096)<;>simp[cm]
theorem Bc {p o v}(hv:bB o [p]=Eb v):(∀ {b t:Nat} {h:qi} {bb:Bool},bR 2 b h (Eb t) (Eb (sl 2 bz o)) (Eb (.list bb 2 [.agg [.str p.k,.int .i64 p.n]]))=cm (decide (b<=4096)) (Eb ⟨sl 2 bz v,Eg,Eb t,h⟩))/\(∀ {b:Nat} {h:qi} {bb:Bool},o.isNone=Eg->bR 2 b h Eh (Eb (sl 2 bz o)) (Eb (.list bb 2 [.agg [.str p.k,.int .i64 p.n]]))=cm (decide (b<=4096)) (Eb ⟨sl 2 bz v,Eg,Eh,h⟩)):=⟨jgv hv,jhd hv⟩
theorem Fj {p o v}(hv:bB o [p]=Eb v):(∀ {b t:Nat} {h:qi} {bb:Bool},bR 3 b h (Eb t) (Eb (sl 3 je o)) (Eb (.list bb 3 [.agg [.str p.k,.int .i64 p.a,.int .i64 p.b]]))=cm (decide (b<=4096)) (Eb ⟨sl 3 je v,Eg,Eb t,h⟩))/\(∀ {b:Nat} {h:qi} {bb:Bool},o.isNone=Eg->bR 3 b h Eh (Eb (sl 3 je o)) (Eb (.list bb 3 [.agg [.str p.k,.int .i64 p.a,.int .i64 p.b]]))=cm (decide (b<=4096)) (Eb ⟨sl 3 je v,Eg,Eh,h⟩)):=⟨jc8 hv,jc7 hv⟩
theorem T1 {p o v}(hv:bB o [p]=Eb v):(∀ {b t:Nat} {h:qi} {bb:Bool},bR 5 b h (Eb t) (Eb (sl 5 jd o)) (Eb (.list bb 5 [.agg [.str p.name,.str p.kind,.int .i64 p.count,.int .i64 p.left,.bool p.held]]))=cm (decide (b<=4096)) (Eb ⟨sl 5 jd v,Eg,Eb t,h⟩))/\(∀ {b:Nat} {h:qi} {bb:Bool},o.isNone=Eg->bR 5 b h Eh (Eb (sl 5 jd o)) (Eb (.list bb 5 [.agg [.str p.name,.str p.kind,.int .i64 p.count,.int .i64 p.left,.bool p.held]]))=cm (decide (b<=4096)) (Eb ⟨sl 5 jd v,Eg,Eh,h⟩)):=⟨qz3 hv,qxx hv⟩
theorem jaa {p o v}(hv:bB o [p]=Eb v):(∀ {b t:Nat} {h:qi} {bb:Bool},bR 2 b h (Eb t) (Eb (sl 2 yr o)) (Eb (.list bb 2 [.agg [sl 2 bz p.aX,sl 3 je p.aO]]))=cm (decide (b<=4096)) (Eb ⟨sl 2 yr v,Eg,Eb t,h⟩))/\(∀ {b:Nat} {h:qi} {bb:Bool},o.isNone=Eg->bR 2 b h Eh (Eb (sl 2 yr o)) (Eb (.list bb 2 [.agg [sl 2 bz p.aX,sl 3 je p.aO]]))=cm (decide (b<=4096)) (Eb ⟨sl 2 yr v,Eg,Eh,h⟩)):=⟨jcj hv,jcs hv⟩
theorem q6i {p o v}(hv:bB o [p]=Eb v):(∀ {b t:Nat} {h:qi} {bb:Bool},bR 4 b h (Eb t) (Eb (sl 4 qz o)) (Eb (.list bb 4 [.agg [.str p.name,sl 2 bz p.dn,sl 3 je p.dt,sl 2 yr p.bg]]))=cm (decide (b<=4096)) (Eb ⟨sl 4 qz v,Eg,Eb t,h⟩))/\(∀ {b:Nat} {h:qi} {bb:Bool},o.isNone=Eg->bR 4 b h Eh (Eb (sl 4 qz o)) (Eb (.list bb 4 [.agg [.str p.name,sl 2 bz p.dn,sl 3 je p.dt,sl 2 yr p.bg]]))=cm (decide (b<=4096)) (Eb ⟨sl 4 qz v,Eg,Eh,h⟩)):=⟨q8p hv,q9n hv⟩
theorem M7 {p o v}(hv:bB o [p]=Eb v):(∀ {b t:Nat} {h:qi} {bb:Bool},bR 8 b h (Eb t) (Eb (sl 8 bC o)) (Eb (.list bb 8 [.agg [.str p.name,.str p.product,.int .i64 p.version,sl 2 bz p.uses,sl 3 je p.results,.str p.partner,.bool p.ax,.int .i64 p.au]]))=cm (decide (b<=4096)) (Eb ⟨sl 8 bC v,Eg,Eb t,h⟩))/\(∀ {b:Nat} {h:qi} {bb:Bool},o.isNone=Eg->bR 8 b h Eh (Eb (sl 8 bC o)) (Eb (.list bb 8 [.agg [.str p.name,.str p.product,.int .i64 p.version,sl 2 bz p.uses,sl 3 je p.results,.str p.partner,.bool p.ax,.int .i64 p.au]]))=cm (decide (b<=4096)) (Eb ⟨sl 8 bC v,Eg,Eh,h⟩)):=⟨jfd hv,jfn hv⟩
theorem jp9 {p o v}(hv:bB o [p]=Eb v):(∀ {b t:Nat} {h:qi} {bb:Bool},bR 4 b h (Eb t) (Eb (sl 4 ju o)) (Eb (.list bb 4 [.agg [.int .i64 p.day,sl 5 jd p.ay,sl 4 qz p.ah,sl 8 bC p.units]]))=cm (decide (b<=4096)) (Eb ⟨sl 4 ju v,Eg,Eb t,h⟩))/\(∀ {b:Nat} {h:qi} {bb:Bool},o.isNone=Eg->bR 4 b h Eh (Eb (sl 4 ju o)) (Eb (.list bb 4 [.agg [.int .i64 p.day,sl 5 jd p.ay,sl 4 qz p.ah,sl 8 bC p.units]]))=cm (decide (b<=4096)) (Eb ⟨sl 4 ju v,Eg,Eh,h⟩)):=⟨jd9 hv,jbz hv⟩
theorem jtc {p o v}(hv:bB o [p]=Eb v):(∀ {b t:Nat} {h:qi} {bb:Bool},bR 5 b h (Eb t) (Eb (sl 5 vev o)) (Eb (.list bb 5 [.agg [.int .i64 p.number,.str p.kind,sl 1 jf p.names,sl 1 zg p.values,.str p.text]]))=cm (decide (b<=4096)) (Eb ⟨sl 5 vev v,Eg,Eb t,h⟩))/\(∀ {b:Nat} {h:qi} {bb:Bool},o.isNone=Eg->bR 5 b h Eh (Eb (sl 5 vev o)) (Eb (.list bb 5 [.agg [.int .i64 p.number,.str p.kind,sl 1 jf p.names,sl 1 zg p.values,.str p.text]]))=cm (decide (b<=4096)) (Eb ⟨sl 5 vev v,Eg,Eh,h⟩)):=⟨TW hv,TX hv⟩
theorem ja2 {x o v}(hv:bB o [x]=Eb v):(∀ {b t:Nat} {h:qi} {bb:Bool},bR 1 b h (Eb t) (Eb (sl 1 zg o)) (Eb (.list bb 1 [.int .i64 x]))=cm (decide (b<=4096)) (Eb ⟨sl 1 zg v,Eg,Eb t,h⟩))/\(∀ {b:Nat} {h:qi} {bb:Bool},o.isNone=Eg->bR 1 b h Eh (Eb (sl 1 zg o)) (Eb (.list bb 1 [.int .i64 x]))=cm (decide (b<=4096)) (Eb ⟨sl 1 zg v,Eg,Eh,h⟩)):=⟨qxa hv,qxq hv⟩
theorem Fk {x o v}(hv:bB o [x]=Eb v):(∀ {b t:Nat} {h:qi} {bb:Bool},bR 1 b h (Eb t) (Eb (sl 1 jf o)) (Eb (.list bb 1 [.str x]))=cm (decide (b<=4096)) (Eb ⟨sl 1 jf v,Eg,Eb t,h⟩))/\(∀ {b:Nat} {h:qi} {bb:Bool},o.isNone=Eg->bR 1 b h Eh (Eb (sl 1 jf o)) (Eb (.list bb 1 [.str x]))=cm (decide (b<=4096)) (Eb ⟨sl 1 jf v,Eg,Eh,h⟩)):=⟨T2 hv,fun hn=>sK (by omega) rfl hn hv⟩
theorem jts {α:Type}{o v hi}(hv:mH o Eh (Eb hi)=Eb v):∀(h:qi) (z:Nat) (f:α->AVal) (k:IntKind),nY z h (Eb (sl z f o)) Eh (Eb (Eb (.int k hi)))=Eb ⟨sl z f v,En,Eh,h⟩:=fun _ _ _ _=>ja1 hv
theorem j1h {n v}:below n (.aq v)=below n v:=rfl
structure sL where
 names:Int
 values:Int
 known:Bool
theorem jtk {O b0 J b1 a2 b2}:yi [.str,.int,.int] [.str O,.int .i64 J,.int .i64 a2] [.str b0,.int .i64 b1,.int .i64 b2]=Eb (decide (O=b0)&&decide (J=b1)&&decide (a2=b2)):=by
 have e:∀x y:Int,(x == y)=decide (x=y):=fun x y=>by by_cases h:x=y<;>simp[h]
 have e':∀x y:aj,(x == y)=decide (x=y):=fun x y=>by by_cases h:x=y<;>simp[h]
 have e2:∀x y:Bool,(x == y)=decide (x=y):=fun x y=>by cases x<;>cases y<;>rfl
 simp only[yi,lT,e,e',e2,decide_true,cond_true];by_cases h0:O=b0<;>by_cases Y:J=b1<;>by_cases I:a2=b2<;>simp[h0,Y,I]
theorem zbx {h O b0 J b1 a2 b2}:M8 [.str,.int,.int] Eg h (Eb (.agg [.str O,.int .i64 J,.int .i64 a2])) (Eb (.agg [.str b0,.int .i64 b1,.int .i64 b2]))=Eb ⟨.bool (!(decide (O=b0)&&decide (J=b1)&&decide (a2=b2))),En,Eh,h⟩:=by
 show(match yi [.str,.int,.int] [.str O,.int .i64 J,.int .i64 a2] [.str b0,.int .i64 b1,.int .i64 b2]with|some t=>val h (.bool (bif Eg then !t else t))|none=>Eh)=_;rw[jtk];rfl
theorem jzg {O b0 J b1 a2 b2 a3 b3 a4 b4}:yi [.str,.str,.int,.int,.bool] [.str O,.str J,.int .i64 a2,.int .i64 a3,.bool a4] [.str b0,.str b1,.int .i64 b2,.int .i64 b3,.bool b4]=Eb (decide (O=b0)&&decide (J=b1)&&decide (a2=b2)&&decide (a3=b3)&&decide (a4=b4)):=by
 have e:∀x y:Int,(x == y)=decide (x=y):=fun x y=>by by_cases h:x=y<;>simp[h]
 have e':∀x y:aj,(x == y)=decide (x=y):=fun x y=>by by_cases h:x=y<;>simp[h]
 have e2:∀x y:Bool,(x == y)=decide (x=y):=fun x y=>by cases x<;>cases y<;>rfl
 simp only[yi,lT,e,e',e2,decide_true,cond_true];by_cases h0:O=b0<;>by_cases Y:J=b1<;>by_cases I:a2=b2<;>by_cases h3:a3=b3<;>by_cases h4:a4=b4<;>simp[h0,Y,I,h3,h4]
theorem zcy {h O b0 J b1 a2 b2 a3 b3 a4 b4}:M8 [.str,.str,.int,.int,.bool] Eg h (Eb (.agg [.str O,.str J,.int .i64 a2,.int .i64 a3,.bool a4])) (Eb (.agg [.str b0,.str b1,.int .i64 b2,.int .i64 b3,.bool b4]))=Eb ⟨.bool (!(decide (O=b0)&&decide (J=b1)&&decide (a2=b2)&&decide (a3=b3)&&decide (a4=b4))),En,Eh,h⟩:=by
 show(match yi [.str,.str,.int,.int,.bool] [.str O,.str J,.int .i64 a2,.int .i64 a3,.bool a4] [.str b0,.str b1,.int .i64 b2,.int .i64 b3,.bool b4]with|some t=>val h (.bool (bif Eg then !t else t))|none=>Eh)=_;rw[jzg];rfl
theorem j8h {h0 al h g a b}:kh h0 al En 1 h (Eb (.aq (.fn g a b)))=Eb ⟨.fn g a b,En,Eh,h⟩:=rfl
def sM (h:qi)(zero:AVal)(r:Option (Option (Nat×AVal))):Option br:=match r with
 |some (Eb (_,v))=>Eb ⟨.bq [v,.bool Eg],En,Eh,h⟩|some Eh=>Eb ⟨.bq [zero,.bool En],En,Eh,h⟩|none=>Eh
theorem jwq {h z v i}:sM h z (Eb (Eb (i,v)))=Eb ⟨.bq [v,.bool Eg],En,Eh,h⟩:=rfl
theorem jwb {h z}:sM h z (Eb Eh)=Eb ⟨.bq [z,.bool En],En,Eh,h⟩:=rfl
def M9 (h:qi)(kd:Kd)(z kv:AVal)(x:Option bG):Option br:=match x with
 |some (.map es)=>sM h z (jz kd kv es 0)|_=>Eh
theorem jxs {h kd z kv es}:M9 h kd z kv (Eb (.map es))=sM h z (jz kd kv es 0):=rfl
def T3 (h0:Nat)(al:ak Nat)(h:qi)(kd:Kd)(z:AVal)(m k:Option AVal):Option br:=match m,k with
 |some (.map b),Eb kv=>cm (j9 h0 al b) (M9 h kd z kv h[b]?)|some .cD,Eb _=>Eb ⟨.bq [z,.bool En],En,Eh,h⟩|_,_=>Eh
theorem jvn {h0 al h kd z kv b}:T3 h0 al h kd z (Eb (.map b)) (Eb kv)=cm (j9 h0 al b) (M9 h kd z kv h[b]?):=rfl
theorem j4s {p xc h0 al e h kd z m k}:qg p xc h0 al e h (.lookup kd z Eg m k)=T3 h0 al h kd z (qj e m) (qj e k):=by
 simp only[qg,yl,T3]
 cases qj e m with
 |none=>cases qj e k<;>rfl
 |some v=>cases qj e k with
  |none=>cases v<;>rfl
  |some kv=>cases v with
   |map b=>
    simp only[cm,zi,M9,sM]
    cases j9 h0 al b with
    |false=>rfl
    |true=>
     simp only[cond_true]
     cases h[b]? with
     |none=>rfl
     |some x=>cases x with
      |map es=>
       simp only[]
       cases jz kd kv es 0 with
       |none=>rfl|some r=>cases r<;>rfl
      |_=>rfl
   |_=>rfl
theorem IY {σ δ γ:Type}(n:Nat)(mk:Nat->σ)(f:σ->Option (σ⊕δ))(aaf:δ->γ)(r:Nat->γ)(dA:∃d,f (mk n)=Eb (.inr d)/\aaf d=r n)
  (cr:∀i,i<n->(f (mk i)=Eb (.inl (mk (i+1)))/\r i=r (i+1))\/(∃d,f (mk i)=Eb (.inr d)/\aaf d=r i)):∃d,bu f (mk 0)=Eb d/\aaf d=r 0:=by
 have key:∀(k i:Nat),i+k=n->∃d,bu f (mk i)=Eb d/\aaf d=r i:=by
  intro k
  induction k with
  |zero=>
   intro i hi
   have:i=n:=by omega
   subst this;obtain⟨d,Y,I⟩:=dA;exact⟨d,zf Y,I⟩
  |succ k ih=>
   intro i hi;rcases cr i (by omega)with⟨Y,I⟩|⟨d,Y,I⟩
   .rw[kc Y,I];exact ih (i+1) (by omega)
   .exact⟨d,zf Y,I⟩
 exact key n 0 (by omega)
theorem T4 {α δ:Type}(l:List α)(f:Int->Option (Int⊕δ))(q:α->Bool)(aaf:δ->Bool)(dA:∃d,f (l.length:Int)=Eb (.inr d)/\aaf d=Eg)
  (cr:∀(i:Nat) x,l[i]?=Eb x->i<l.length->(q x=Eg/\f (i:Int)=Eb (.inl ((i+1:Nat):Int)))\/(q x=En/\∃d,f (i:Int)=Eb (.inr d)/\aaf d=En)):∃d,bu f 0=Eb d/\aaf d=l.all q:=by
 have:=IY l.length (fun i=>(i:Int)) f aaf (fun i=>(l.drop i).all q) (by rw[G1 (Nat.le_refl _)];exact dA) (fun i hi=>by
  obtain⟨x,M⟩:∃x,l[i]?=Eb x:=⟨_,E8 hi⟩;simp only[sN M,List.all_cons];rcases cr i x M hi with⟨Y,I⟩|⟨Y,I⟩
  ·rw[Y];exact .inl ⟨I,rfl⟩
  ·rw[Y];exact .inr I)
 simpa using this
theorem q69 {α β:Type}(l:List α)(ix:Nat->Int)(f:Option (List β)×Int×Bool->Option ((Option (List β)×Int×Bool)⊕(Option (List β)×Bool×Int)))(h:α->List β)(O:List β)(aah:Nat->List β->Prop)(hI:aah 0 O)
  (dA:∀a,f (jj a,ix l.length,fR a)=Eb (.inr (jj a,fR a,ix l.length)))
  (cr:∀(i:Nat) x a,l[i]?=Eb x->i<l.length->aah i a->aah (i+1) (a++h x)/\f (jj a,ix i,fR a)=Eb (.inl (jj (a++h x),ix (i+1),fR (a++h x)))):
  bu f (jj O,ix 0,fR O)=Eb (jj (O++l.flatMap h),fR (O++l.flatMap h),ix l.length):=by
 have key:∀(k i:Nat),i+k=l.length->∀a,aah i a->bu f (jj a,ix i,fR a)=Eb (jj (a++(l.drop i).flatMap h),fR (a++(l.drop i).flatMap h),ix l.length):=by
  intro k
  induction k with
  |zero=>
   intro i hi a _
   have:i=l.length:=by omega
   subst this;rw[G1 (Nat.le_refl _),List.flatMap_nil,List.append_nil,zf (dA a)]
  |succ k ih=>
   intro i hi a ha;obtain⟨x,M⟩:∃x,l[i]?=Eb x:=⟨_,E8 (by omega)⟩;obtain⟨Y,I⟩:=cr i x a M (by omega) ha;rw[kc I,ih (i+1) (by omega) _ Y,sN M,G5,List.append_assoc]
 have:=key l.length 0 (by omega) O hI;rwa [List.drop_zero]at this
theorem q0i {α:Type}{a:List α}{x}(h:a.length<1073741824):bB (jj a) [x]=Eb (jj (a++[x])):=by
 unfold bB
 cases a with
 |nil=>rfl
 |cons y a=>
  have:((jj (y::a)).getD []).length + [x].length<=1073741824:=by simp[jj]at h ⊢;omega
  rw[if_pos this];rfl
theorem sO {α γ:Type}{a:List α}{x:α}{k:Option (List α)->Option γ}(h:a.length<1073741824):cond (fR a) (qc (bB (jj a) [x]) k) (cond (jj a).isNone (qc (bB (jj a) [x]) k) Eh)=k (jj (a++[x])):=by
 rw[q0i h];cases a<;>rfl
theorem j6 {α:Type}(a:List α):(jj a).getD []=a:=by cases a<;>rfl
theorem IZ {α β:Type}(h:α->β):∀l:List α,l.flatMap (fun x=>[h x])=l.map h
 | []=>rfl
 |x::l=>by rw[G5,IZ h l];rfl
theorem ja8 {α β:Type}(l:List α)(f:Option (List β)×Int×Bool->Option ((Option (List β)×Int×Bool)⊕(Option (List β)×Bool×Int)))(h:α->β)(hl:l.length<=1073741824)
  (dA:∀a:Option (List β)×Bool,f (a.1,(l.length:Int),a.2)=Eb (.inr (a.1,a.2,(l.length:Int))))
  (cr:∀(i:Nat) x (a:List β),l[i]?=Eb x->i<l.length->a.length<1073741824->f (jj a,(i:Int),fR a)=Eb (.inl (jj (a++[h x]),((i+1:Nat):Int),Eg))):
  bu f (Eh,0,En)=Eb (jj (l.map h),fR (l.map h),(l.length:Int)):=by
 have:=q69 l (fun i=>(i:Int)) f (fun x=>[h x]) [] (fun i a=>a.length=i) rfl (fun a=>dA (jj a,fR a)) (fun i x a M hi ha=>⟨by simp[ha],by rw[cr i x a M hi (by omega),wi]⟩);rw[IZ,List.nil_append]at this;exact this
theorem ja {α:Type}{l:List α}{i:Nat}{x:α}(M:l[i]?=Eb x):qo l (i:Int)=Eb x:=by rw[Fl,M]
theorem yp {α:Type}{l:List α}{i}(h:i<l.length):decide ((i:Int)<(l.length:Int))=Eg:=decide_eq_true (by omega)
theorem z4 {n}:decide ((n:Int)<(n:Int))=En:=decide_eq_false (by omega)
attribute [go_sem] zdq j1h zbx zcy j8h jwq jwb jxs jvn j4s
end Go.Z
namespace Go.Z
open Go Go.Abs Go.W
def iT:List (aj×aj×Int×Nat):=[(nw,[45,45],2,72),(nZ,[45],1,73),(nx,[112,45],2,74),(lu,[112,45],3,75),(qQ,[112],1,76),(pC,[45,112],1,77),(ny,[117,108],2,78),(pD,[117,45],2,79),(qR,[117],1,80),(n9,[117,117],1,81),(oT,[108],1,82),(sP,[108],1,83),(iJ,[117],1,84),(xZ,[117],1,85),(jI,[],0,0)]
def fnv (k:Nat):AVal:=bif Nat.beq k 0 then .cO else .fn (.func k) [] []
def pE (x:aj):Option (aj×aj×Int×Nat):=iT.find? fun f=>decide (x=f.1)
def j0 (x:aj):aj:=match pE x with
 |some f=>f.2.1|none=>[]
def lO (x:aj):Int:=match pE x with
 |some f=>f.2.2.1|none=>0
def mI (x:aj):AVal:=match pE x with
 |some f=>fnv f.2.2.2|none=>.cO
def lP (x:aj):Bool:=(pE x).isSome
theorem qz0:y9=iT.map fun f=>(.str f.1,.agg [.str f.2.1,.int .i64 f.2.2.1,fnv f.2.2.2]):=rfl
theorem T5 (x:aj)(h:qi):∀(l:List (aj×aj×Int×Nat)) (n:Nat),jz .str (.str x) (l.map fun f=>(.str f.1,.agg [.str f.2.1,.int .i64 f.2.2.1,fnv f.2.2.2])) n=Eb Eh/\l.find? (fun f=>decide (x=f.1))=Eh\/∃i f,jz .str (.str x) (l.map fun f=>(.str f.1,.agg [.str f.2.1,.int .i64 f.2.2.1,fnv f.2.2.2])) n=Eb (Eb (i,.agg [.str f.2.1,.int .i64 f.2.2.1,fnv f.2.2.2]))/\l.find? (fun f=>decide (x=f.1))=Eb f
 | [],n=>.inl ⟨rfl,rfl⟩
 |f::l,n=>by
  have he:lT .str (.str x) (.str f.1)=Eb (decide (x=f.1)):=by
   show Eb (x == f.1)=_;by_cases M:x=f.1<;>simp[M]
  by_cases M:x=f.1
  .refine .inr ⟨n,f,?_,?_⟩
   .simp only[E3,jz,he,decide_eq_true M]
   .simp[Ep,M]
  .rcases T5 x h l (n+1)with⟨Y,I⟩|⟨i,g,Y,I⟩
   .exact .inl ⟨by simp only[E3,jz,he,M,decide_false];exact Y,by simp only[Ep,M,decide_false];exact I⟩
   .exact .inr ⟨i,g,by simp only[E3,jz,he,M,decide_false];exact Y,by simp only[Ep,M,decide_false];exact I⟩
theorem j5f {h g a b}:xW En h (Eb (.fn g a b))=Eb ⟨.aq (.fn g a b),En,Eh,h⟩:=rfl
theorem zci:pr.maps 22=Eb y9:=rfl
theorem sQ {h}(x:aj):sM h (.agg [.str [],.int .i64 0,.cO]) (jz .str (.str x) y9 0)=Eb ⟨.bq [.agg [.str (j0 x),.int .i64 (lO x),mI x],.bool (lP x)],En,Eh,h⟩:=by
 rw[qz0];rcases T5 x h iT 0 with⟨Y,I⟩|⟨i,f,Y,I⟩
 .rw[Y];simp only[sM,j0,lO,mI,lP,pE,I];rfl
 .rw[Y];simp only[sM,j0,lO,mI,lP,pE,I];rfl
theorem Na {h}(x:aj):vZ h (.agg [.str [],.int .i64 0,.cO]) (jz .str (.str x) y9 0)=Eb ⟨.agg [.str (j0 x),.int .i64 (lO x),mI x],En,Eh,h⟩:=by
 rw[qz0];rcases T5 x h iT 0 with⟨Y,I⟩|⟨i,f,Y,I⟩
 .rw[Y];simp only[vZ,j0,lO,mI,pE,I];rfl
 .rw[Y];simp only[vZ,j0,lO,mI,pE,I];rfl
theorem zbr {x}:qm (mI x)=Eg:=by
 unfold mI;split
 .rename_i f _;simp only[fnv];cases Nat.beq f.2.2.2 0<;>rfl
 .rfl
def eT (l:List (aj×Int)):List (AVal×AVal):=l.map fun p=>(.str p.1,.int .i64 p.2)
def nz (l:List (aj×Int))(k:aj):Int:=match l.find? fun p=>decide (k=p.1)with
 |some p=>p.2|none=>0
def lv:List (aj×Int)->aj->Int->List (aj×Int)
 | [],k,v=>[(k,v)]
 |p::l,k,v=>if k=p.1 then(p.1,v)::l else p::lv l k v
def Nb (l:List (aj×Int))(k:aj)(v:Int):Option (List (aj×Int)):=if l.length<=1073741824 then Eb (lv l k v)else Eh
theorem T6 {k s}:lT .str (.str k) (.str s)=Eb (decide (k=s)):=by
 show Eb (k == s)=_;by_cases M:k=s<;>simp[M]
theorem T7 (k:aj):∀(l:List (aj×Int)) (n:Nat),(jz .str (.str k) (eT l) n=Eb Eh/\l.find? (fun p=>decide (k=p.1))=Eh/\∀v,eT (lv l k v)=eT l++[(.str k,.int .i64 v)])\/∃i p,jz .str (.str k) (eT l) n=Eb (Eb (n+i,.int .i64 p.2))/\l.find? (fun p=>decide (k=p.1))=Eb p/\∀v,eT (lv l k v)=rJ (eT l) i (.int .i64 v)
 | [],n=>.inl ⟨rfl,rfl,fun _=>rfl⟩
 |p::l,n=>by
  by_cases M:k=p.1
  .refine .inr ⟨0,p,?_,?_,fun v=>?_⟩
   .simp only[eT,E3,jz,T6,decide_eq_true M];rfl
   .simp[Ep,M]
   .simp only[lv,if_pos M];rfl
  .rcases T7 k l (n+1)with⟨Y,I,h3⟩|⟨i,q,Y,I,h3⟩
   .refine .inl ⟨?_,?_,fun v=>?_⟩
    .simp only[eT,E3,jz,T6,decide_eq_false M];exact Y
    .simp only[Ep,decide_eq_false M];exact I
    .simp only[lv,if_neg M];show _::eT (lv l k v)=_;rw[h3];rfl
   .refine .inr ⟨i+1,q,?_,?_,fun v=>?_⟩
    .simp only[eT,E3,jz,T6,decide_eq_false M];rw[show n+(i+1)=n+1+i by omega];exact Y
    .simp only[Ep,decide_eq_false M];exact I
    .simp only[lv,if_neg M];show _::eT (lv l k v)=_;rw[h3];rfl
theorem jm7 {h l k}:vZ h (.int .i64 0) (jz .str (.str k) (eT l) 0)=Eb ⟨.int .i64 (nz l k),En,Eh,h⟩:=by
 unfold nz;rcases T7 k l 0 with⟨Y,I,_⟩|⟨i,p,Y,I,_⟩<;>rw[Y,I]<;>rfl
theorem jt0 {h b l v k n}(hv:Nb l k n=Eb v):Fh h b (eT l) (.str k) (.int .i64 n) (jz .str (.str k) (eT l) 0)=iy (jx h b (.map (eT v))) .undef:=by
 unfold Nb at hv;split at hv
 .rename_i hl;cases hv;rcases T7 k l 0 with⟨Y,I,h3⟩|⟨i,p,Y,I,h3⟩
  .rw[Y,h3];have:Nat.ble (eT l).length 1073741824=Eg:=Nat.ble_eq_true_of_le (by rw[eT,G0];exact hl);simp only[Fh,this,cm,cond_true]
  .rw[Y,h3,Nat.zero_add];rfl
 .cases hv
theorem jjm {l k k' v}:nz (lv l k v) k'=if k'=k then v else nz l k':=by
 induction l with
 |nil=>by_cases h:k'=k<;>simp[lv,nz,Ep,h]
 |cons p l ih=>
  unfold nz at ih ⊢;by_cases hk:k=p.1
  .by_cases h:k'=k
   .subst h;simp[lv,Ep,<-hk]
   .have I:¬k'=p.1:=by rw[<-hk];exact h
    simp[lv,Ep,hk,I]
  .by_cases I:k'=p.1
   .have h3:¬k'=k:=by rw[I];exact fun h=>hk h.symm
    have h4:¬p.1=k:=fun h=>hk h.symm;simp[lv,Ep,hk,I,h4]
   .simp only[lv,if_neg hk,Ep,decide_eq_false I];exact ih
theorem j2r {h0 al h b}:kh h0 al En 1 h (Eb (.aq (.map b)))=Eb ⟨.map b,En,Eh,h⟩:=rfl
theorem jcq {n l}:y8 n (eT l)=Eg:=by
 induction l with
 |nil=>rfl|cons p l ih=>simp only[eT,E3,y8,below,Bool.true_and];exact ih
theorem jq3 {n l}:ze n (.map (eT l))=Eg:=jcq
structure G3 where
 x:Int
 y:Int
 z:Int
attribute [go_sem] j5f zci zbr j2r jcq jq3
end Go.Z
end
