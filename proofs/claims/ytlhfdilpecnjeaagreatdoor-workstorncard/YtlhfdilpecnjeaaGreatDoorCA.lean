/- The structs of chapter 10 and their cells; what they are in plain lists. -/
import Derived.Test.YtlhfdilpecnjeaaGreatDoorL1
import Derived.Test.YtlhfdilpecnjeaaGreatDoorWS
set_option linter.unusedVariables false
set_option linter.unusedSimpArgs false
set_option maxRecDepth 100000
noncomputable section
open Option renaming some->En,none->Ha,getD_some->Ig
open Bool renaming true->E6,false->Hb,and_eq_true->If
open List renaming find?->Hc,map_cons->H2,getElem?_eq_none_iff->H3,getElem?_eq_getElem->H4,length_nil->H8,length_map->H9,drop_eq_nil_of_le->Ia,flatMap_cons->Ic
open Nat renaming blt->Ib
namespace Go.Z
open Go Go.Abs Go.W
def bA (p:bD):AVal:=.agg [.str p.k,.int .i64 p.n]
@[go_sem] theorem zhv {p}:(bA p).flat=[.str p.k,.int .i64 p.n]:=rfl
@[go_sem] theorem jhe {n}(p:bD):below n (bA p)=E6:=by rfl
@[go_sem] theorem j46 {n z l}:below n (sl z bA l)=E6:=vf jhe
@[go_sem] theorem zjx {p}:AVal.aq (bA p)=.aq (.agg [.str p.k,.int .i64 p.n]):=rfl
theorem jio {b t h bb p o v}(hv:bC o [p]=En v):bR 2 b h (En t) (En (sl 2 bA o)) (En (.list bb 2 [.agg [.str p.k,.int .i64 p.n]]))=cm (decide (b<=4096)) (En ⟨sl 2 bA v,E6,En t,h⟩):=vk (x:=p) (by omega) rfl hv
theorem jj6 {b h bb p o v}(hv:bC o [p]=En v)(hn:o.isNone=E6):bR 2 b h Ha (En (sl 2 bA o)) (En (.list bb 2 [.agg [.str p.k,.int .i64 p.n]]))=cm (decide (b<=4096)) (En ⟨sl 2 bA v,E6,Ha,h⟩):=tf (x:=p) (by omega) rfl hn hv
def jc (p:jg):AVal:=.agg [.str p.k,.int .i64 p.a,.int .i64 p.b]
@[go_sem] theorem zat {p}:(jc p).flat=[.str p.k,.int .i64 p.a,.int .i64 p.b]:=rfl
@[go_sem] theorem jfm {n}(p:jg):below n (jc p)=E6:=by rfl
@[go_sem] theorem j4e {n z l}:below n (sl z jc l)=E6:=vf jfm
@[go_sem] theorem jij {p}:AVal.aq (jc p)=.aq (.agg [.str p.k,.int .i64 p.a,.int .i64 p.b]):=rfl
theorem jfx {b t h bb p o v}(hv:bC o [p]=En v):bR 3 b h (En t) (En (sl 3 jc o)) (En (.list bb 3 [.agg [.str p.k,.int .i64 p.a,.int .i64 p.b]]))=cm (decide (b<=4096)) (En ⟨sl 3 jc v,E6,En t,h⟩):=vk (x:=p) (by omega) rfl hv
theorem jdj {b h bb p o v}(hv:bC o [p]=En v)(hn:o.isNone=E6):bR 3 b h Ha (En (sl 3 jc o)) (En (.list bb 3 [.agg [.str p.k,.int .i64 p.a,.int .i64 p.b]]))=cm (decide (b<=4096)) (En ⟨sl 3 jc v,E6,Ha,h⟩):=tf (x:=p) (by omega) rfl hn hv
def je (p:ji):AVal:=.agg [.str p.name,.str p.kind,.int .i64 p.count,.int .i64 p.left,.bool p.held]
@[go_sem] theorem zb4 {p}:(je p).flat=[.str p.name,.str p.kind,.int .i64 p.count,.int .i64 p.left,.bool p.held]:=rfl
@[go_sem] theorem jd6 {n}(p:ji):below n (je p)=E6:=by rfl
@[go_sem] theorem j3j {n z l}:below n (sl z je l)=E6:=vf jd6
@[go_sem] theorem q4g {p}:AVal.aq (je p)=.aq (.agg [.str p.name,.str p.kind,.int .i64 p.count,.int .i64 p.left,.bool p.held]):=rfl
theorem qyw {b t h bb p o v}(hv:bC o [p]=En v):bR 5 b h (En t) (En (sl 5 je o)) (En (.list bb 5 [.agg [.str p.name,.str p.kind,.int .i64 p.count,.int .i64 p.left,.bool p.held]]))=cm (decide (b<=4096)) (En ⟨sl 5 je v,E6,En t,h⟩):=vk (x:=p) (by omega) rfl hv
theorem q0v {b h bb p o v}(hv:bC o [p]=En v)(hn:o.isNone=E6):bR 5 b h Ha (En (sl 5 je o)) (En (.list bb 5 [.agg [.str p.name,.str p.kind,.int .i64 p.count,.int .i64 p.left,.bool p.held]]))=cm (decide (b<=4096)) (En ⟨sl 5 je v,E6,Ha,h⟩):=tf (x:=p) (by omega) rfl hn hv
structure cg where
 bd:ak bD
 aS:ak jg
def y6 (p:cg):AVal:=.agg [sl 2 bA p.bd,sl 3 jc p.aS]
@[go_sem] theorem zav {p}:(y6 p).flat=[sl 2 bA p.bd,sl 3 jc p.aS]:=rfl
@[go_sem] theorem jdh {n}(p:cg):below n (y6 p)=E6:=by simp only[y6,go_sem]
@[go_sem] theorem j3m {n z l}:below n (sl z y6 l)=E6:=vf jdh
@[go_sem] theorem j96 {p}:AVal.aq (y6 p)=.aq (.agg [sl 2 bA p.bd,sl 3 jc p.aS]):=rfl
theorem je1 {b t h bb p o v}(hv:bC o [p]=En v):bR 2 b h (En t) (En (sl 2 y6 o)) (En (.list bb 2 [.agg [sl 2 bA p.bd,sl 3 jc p.aS]]))=cm (decide (b<=4096)) (En ⟨sl 2 y6 v,E6,En t,h⟩):=vk (x:=p) (by omega) rfl hv
theorem jeh {b h bb p o v}(hv:bC o [p]=En v)(hn:o.isNone=E6):bR 2 b h Ha (En (sl 2 y6 o)) (En (.list bb 2 [.agg [sl 2 bA p.bd,sl 3 jc p.aS]]))=cm (decide (b<=4096)) (En ⟨sl 2 y6 v,E6,Ha,h⟩):=tf (x:=p) (by omega) rfl hn hv
structure bp where
 name:aj
 dn:ak bD
 dt:ak jg
 bm:ak cg
def qv (p:bp):AVal:=.agg [.str p.name,sl 2 bA p.dn,sl 3 jc p.dt,sl 2 y6 p.bm]
@[go_sem] theorem jdv {p}:(qv p).flat=[.str p.name,sl 2 bA p.dn,sl 3 jc p.dt,sl 2 y6 p.bm]:=rfl
@[go_sem] theorem ja9 {n}(p:bp):below n (qv p)=E6:=by simp only[qv,go_sem]
@[go_sem] theorem j2b {n z l}:below n (sl z qv l)=E6:=vf ja9
@[go_sem] theorem j6e {p}:AVal.aq (qv p)=.aq (.agg [.str p.name,sl 2 bA p.dn,sl 3 jc p.dt,sl 2 y6 p.bm]):=rfl
theorem ja6 {b t h bb p o v}(hv:bC o [p]=En v):bR 4 b h (En t) (En (sl 4 qv o)) (En (.list bb 4 [.agg [.str p.name,sl 2 bA p.dn,sl 3 jc p.dt,sl 2 y6 p.bm]]))=cm (decide (b<=4096)) (En ⟨sl 4 qv v,E6,En t,h⟩):=vk (x:=p) (by omega) rfl hv
theorem jai {b h bb p o v}(hv:bC o [p]=En v)(hn:o.isNone=E6):bR 4 b h Ha (En (sl 4 qv o)) (En (.list bb 4 [.agg [.str p.name,sl 2 bA p.dn,sl 3 jc p.dt,sl 2 y6 p.bm]]))=cm (decide (b<=4096)) (En ⟨sl 4 qv v,E6,Ha,h⟩):=tf (x:=p) (by omega) rfl hn hv
structure bw where
 name:aj
 product:aj
 version:Int
 uses:ak bD
 results:ak jg
 partner:aj
 ax:Bool
 au:Int
def bE (p:bw):AVal:=.agg [.str p.name,.str p.product,.int .i64 p.version,sl 2 bA p.uses,sl 3 jc p.results,.str p.partner,.bool p.ax,.int .i64 p.au]
@[go_sem] theorem jm7 {p}:(bE p).flat=[.str p.name,.str p.product,.int .i64 p.version,sl 2 bA p.uses,sl 3 jc p.results,.str p.partner,.bool p.ax,.int .i64 p.au]:=rfl
@[go_sem] theorem jha {n}(p:bw):below n (bE p)=E6:=by simp only[bE,go_sem]
@[go_sem] theorem j5a {n z l}:below n (sl z bE l)=E6:=vf jha
@[go_sem] theorem zgj {p}:AVal.aq (bE p)=.aq (.agg [.str p.name,.str p.product,.int .i64 p.version,sl 2 bA p.uses,sl 3 jc p.results,.str p.partner,.bool p.ax,.int .i64 p.au]):=rfl
theorem jhv {b t h bb p o v}(hv:bC o [p]=En v):bR 8 b h (En t) (En (sl 8 bE o)) (En (.list bb 8 [.agg [.str p.name,.str p.product,.int .i64 p.version,sl 2 bA p.uses,sl 3 jc p.results,.str p.partner,.bool p.ax,.int .i64 p.au]]))=cm (decide (b<=4096)) (En ⟨sl 8 bE v,E6,En t,h⟩):=vk (x:=p) (by omega) rfl hv
theorem jj4 {b h bb p o v}(hv:bC o [p]=En v)(hn:o.isNone=E6):bR 8 b h Ha (En (sl 8 bE o)) (En (.list bb 8 [.agg [.str p.name,.str p.product,.int .i64 p.version,sl 2 bA p.uses,sl 3 jc p.results,.str p.partner,.bool p.ax,.int .i64 p.au]]))=cm (decide (b<=4096)) (En ⟨sl 8 bE v,E6,Ha,h⟩):=tf (x:=p) (by omega) rfl hn hv
structure aw where
 day:Int
 az:ak ji
 ah:ak bp
 units:ak bw
def z6 (p:aw):AVal:=.agg [.int .i64 p.day,sl 5 je p.az,sl 4 qv p.ah,sl 8 bE p.units]
@[go_sem] theorem zbj {p}:(z6 p).flat=[.int .i64 p.day,sl 5 je p.az,sl 4 qv p.ah,sl 8 bE p.units]:=rfl
@[go_sem] theorem jgq {n}(p:aw):below n (z6 p)=E6:=by simp only[z6,go_sem]
@[go_sem] theorem j3t {n z l}:below n (sl z z6 l)=E6:=vf jgq
@[go_sem] theorem za9 {p}:AVal.aq (z6 p)=.aq (.agg [.int .i64 p.day,sl 5 je p.az,sl 4 qv p.ah,sl 8 bE p.units]):=rfl
theorem jf9 {b t h bb p o v}(hv:bC o [p]=En v):bR 4 b h (En t) (En (sl 4 z6 o)) (En (.list bb 4 [.agg [.int .i64 p.day,sl 5 je p.az,sl 4 qv p.ah,sl 8 bE p.units]]))=cm (decide (b<=4096)) (En ⟨sl 4 z6 v,E6,En t,h⟩):=vk (x:=p) (by omega) rfl hv
theorem jes {b h bb p o v}(hv:bC o [p]=En v)(hn:o.isNone=E6):bR 4 b h Ha (En (sl 4 z6 o)) (En (.list bb 4 [.agg [.int .i64 p.day,sl 5 je p.az,sl 4 qv p.ah,sl 8 bE p.units]]))=cm (decide (b<=4096)) (En ⟨sl 4 z6 v,E6,Ha,h⟩):=tf (x:=p) (by omega) rfl hn hv
structure GEv where
 number:Int
 kind:aj
 names:ak aj
 values:ak Int
 text:aj
def vev (p:GEv):AVal:=.agg [.int .i64 p.number,.str p.kind,sl 1 jf p.names,sl 1 jt p.values,.str p.text]
@[go_sem] theorem zhk {p}:(vev p).flat=[.int .i64 p.number,.str p.kind,sl 1 jf p.names,sl 1 jt p.values,.str p.text]:=rfl
@[go_sem] theorem jhi {n}(p:GEv):below n (vev p)=E6:=by simp only[vev,go_sem]
@[go_sem] theorem j57 {n z l}:below n (sl z vev l)=E6:=vf jhi
@[go_sem] theorem zcs {p}:AVal.aq (vev p)=.aq (.agg [.int .i64 p.number,.str p.kind,sl 1 jf p.names,sl 1 jt p.values,.str p.text]):=rfl
theorem q35 {b t h bb p o v}(hv:bC o [p]=En v):bR 5 b h (En t) (En (sl 5 vev o)) (En (.list bb 5 [.agg [.int .i64 p.number,.str p.kind,sl 1 jf p.names,sl 1 jt p.values,.str p.text]]))=cm (decide (b<=4096)) (En ⟨sl 5 vev v,E6,En t,h⟩):=vk (x:=p) (by omega) rfl hv
theorem q4e {b h bb p o v}(hv:bC o [p]=En v)(hn:o.isNone=E6):bR 5 b h Ha (En (sl 5 vev o)) (En (.list bb 5 [.agg [.int .i64 p.number,.str p.kind,sl 1 jf p.names,sl 1 jt p.values,.str p.text]]))=cm (decide (b<=4096)) (En ⟨sl 5 vev v,E6,Ha,h⟩):=tf (x:=p) (by omega) rfl hn hv
def cg.er (d:cg):kD:=⟨d.bd.getD [],d.aS.getD []⟩
def bp.er (p:bp):wP:=⟨p.name,⟨p.dn.getD [],p.dt.getD []⟩,(p.bm.getD []).map cg.er⟩
def bw.er (u:bw):lj:=⟨u.name,u.product,u.version,u.uses.getD [],u.results.getD [],u.partner,u.ax,u.au⟩
def aw.er (r:aw):yc:=⟨r.day,r.az.getD [],(r.ah.getD []).map bp.er,(r.units.getD []).map bw.er⟩
def GEv.er (e:GEv):cf:=⟨e.number,e.kind,e.names.getD [],e.values.getD [],e.text⟩
end Go.Z
namespace Go.Z
open Go Go.Abs Go.W
theorem VJ {hh}:∀ {xs:List AVal},qo 0 xs=E6->mG hh xs=En xs
 | [],_=>rfl
 |x::xs,h=>by
  simp only[qo,If]at h
  have M:jL hh x=En x:=by
   cases x with
   |ms b o n=>simp[Abs.below,Ib]at h|ay b o n=>simp[Abs.below,Ib]at h|_=>rfl
  simp only[mG,M,VJ h.2]
theorem qse {hh}:∀ {xs:List AVal},qo 0 xs=E6->aX.bO hh xs=En xs
 | [],_=>rfl
 |x::xs,h=>by
  simp only[qo,If]at h;have ih:=qse (hh:=hh) h.2
  cases x with
  |agg cs=>
   have Y:=h.1;simp only[Abs.below]at Y;simp only[aX.bO,VJ Y,ih]
  |ms b o n=>simp[Abs.below,Ib]at h|ay b o n=>simp[Abs.below,Ib]at h|_=>simp only[aX.bO,jL,ih]
theorem qsg {hh x}(h:Abs.below 0 x=E6):aX hh x=En x:=by
 cases x with
 |agg cs=>
  simp only[Abs.below]at h;simp only[aX,VJ h]
 |aJ vs=>
  simp only[Abs.below]at h;simp only[aX,qse h]
 |ms b o n=>simp[Abs.below,Ib]at h|ay b o n=>simp[Abs.below,Ib]at h|_=>rfl
theorem zg {p k}(f:iH){args v}(hc:∃hh,FZ f.results (X p f.body ⟨pH 0 args,[]⟩)=some (v,false,hh))(hp:p.cB k=none:=by rfl)(hf:p.br k=some f:=by rfl)(hl:Nat.ble args.length f.ntmps=true:=by rfl)(hv:below 0 v=true:=by first|rfl|simp only[go_sem,seval]):ae p (X p) k args=some (v,false):=by
 obtain⟨hh,hc⟩:=hc
 cases f with
 |mk n b r=>exact jr hp (by rw[qg hf (Nat.le_of_ble_eq_true hl)];exact hc) (qsg hv) hv
theorem yq {p k}(f:iH){args v o}(hc:∃hh,FZ f.results (X p f.body ⟨pH 0 args,[]⟩)=some (v,o,hh))(hp:p.cB k=none:=by rfl)(hf:p.br k=some f:=by rfl)(hn:Nat.ble args.length f.ntmps=true:=by rfl)(hv:below 0 v=true:=by first|rfl|simp only[go_sem,seval])(hl:v.cP=true:=by first|rfl|simp only[go_sem,seval]):ae p (X p) k args=some (v,o):=by
 obtain⟨hh,hc⟩:=hc
 cases f with
 |mk n b r=>exact q3l hp (by rw[qg hf (Nat.le_of_ble_eq_true hn)];exact hc) (qsg hv) hv hl
theorem jz {σ δ:Type}{p:j8}{c:aV}{St:σ->bn}{Ex:δ->jb×bn}{s s':σ}(h:X p c (St s)=some (.normal,St s'))(hl:(St s').heap.length<=(St s).heap.length:=by exact Nat.le_refl _):jy p c St Ex s (.inl s'):=kp h (jQ hl)
theorem jbw {σ δ:Type}{p:j8}{c:aV}{St:σ->bn}{Ex:δ->jb×bn}{s s':σ}(h:∃t,X p c (St s)=En (.normal,⟨(St s').env,(St s').heap++t⟩))(hn:(St s).heap.length=(St s').heap.length)(Y:mF (St s).heap.length (St s').env=E6)(I:qr (St s).heap.length (St s').heap=E6):jy p c St Ex s (.inl s'):=by
 obtain⟨t,h⟩:=h;exact kp h (jsh hn rfl Y I)
theorem nD {α:Type}{z:Nat}{f:α->AVal}{l:List α}:sl z f (En l)=.list Hb z (l.map f):=rfl
theorem zr {α:Type}{z:Nat}{f:α->AVal}:sl z f Ha=.list E6 0 []:=rfl
abbrev Iv (n:Int):AVal:=.int .i64 n
abbrev Lv {α:Type}(o:Option (List α)):AVal:=.int .i64 ((o.getD []).length:Int)
abbrev Nl:AVal:=.list E6 0 []
abbrev aE (e:GEv):AVal:=.agg [.int .i64 e.number,.str e.kind,sl 1 jf e.names,sl 1 jt e.values,.str e.text]
abbrev aR (r:aw):AVal:=.agg [.int .i64 r.day,sl 5 je r.az,sl 4 qv r.ah,sl 8 bE r.units]
abbrev aU (u:bw):AVal:=.agg [.str u.name,.str u.product,.int .i64 u.version,sl 2 bA u.uses,sl 3 jc u.results,.str u.partner,.bool u.ax,.int .i64 u.au]
abbrev aL (l:ji):AVal:=.agg [.str l.name,.str l.kind,.int .i64 l.count,.int .i64 l.left,.bool l.held]
abbrev aP (p:bp):AVal:=.agg [.str p.name,sl 2 bA p.dn,sl 3 jc p.dt,sl 2 y6 p.bm]
abbrev aD (d:cg):AVal:=.agg [sl 2 bA d.bd,sl 3 jc d.aS]
abbrev aT (x:jg):AVal:=.agg [.str x.k,.int .i64 x.a,.int .i64 x.b]
abbrev aN (x:bD):AVal:=.agg [.str x.k,.int .i64 x.n]
abbrev aG (a:Int)(b:ak ji)(c:ak bp)(d:ak bw):AVal:=.agg [.int .i64 a,sl 5 je b,sl 4 qv c,sl 8 bE d]
abbrev kS (a:Int)(b:ak ji)(o1:Bool)(c:ak bp)(o2:Bool)(d:ak bw)(o3:Bool):aK:=.cells [(.int .i64 a,Hb),(sl 5 je b,o1),(sl 4 qv c,o2),(sl 8 bE d,o3)]
abbrev kR (a:Int)(b:ak ji)(c:ak bp)(d:ak bw):aK:=.cells [(.int .i64 a,Hb),(sl 5 je b,Hb),(sl 4 qv c,Hb),(sl 8 bE d,Hb)]
abbrev kO:aK:=.cells [(Nl,Hb),(Nl,Hb),(Nl,Hb)]
abbrev kZ:aK:=.cells [(.int .i64 0,Hb),(Nl,Hb),(Nl,Hb),(Nl,Hb)]
abbrev aZ:AVal:=.agg [.int .i64 0,Nl,Nl,Nl]
def om {α β:Type}(o:Option α)(f:α->β):Option β:=match o with
 |some x=>En (f x)|none=>Ha
@[go_sem] theorem zmr {α β:Type}{x:α}{f:α->β}:om (En x) f=En (f x):=rfl
theorem jq {h:qf}{α:Type}{z:Nat}{f:α->AVal}{l k i}:mr z h (En (sl z f l)) (En (.int k i))=om (qm (l.getD []) i) fun x=>⟨.aq (f x),Hb,Ha,h⟩:=by
 cases M:qm (l.getD []) i with
 |some x=>exact jm M
 |none=>
  have hi:rE (l.getD []).length i=Ha:=by
   unfold qm at M;unfold rE;by_cases h0:0<=i
   .rw[if_pos h0]at M;rw[if_neg];intro hc;have:=H3.1 M;omega
   .rw[if_neg (fun hc=>h0 hc.1)]
  cases l with
  |none=>simp only[sl,mr,vd,Option.getD_none,H8]at hi ⊢;rw[hi];simp[om]|some l=>simp only[sl,mr,vd,Ig,H9]at hi ⊢;rw[hi];simp[om]
theorem VK {h s k i}:Bv h (En (.str s)) (En (.int k i))=om (qm s i) fun c=>⟨.int .u8 (c.toNat:Int),Hb,Ha,h⟩:=by
 cases M:qm s i with
 |some x=>exact nE M
 |none=>
  have hi:rE s.length i=Ha:=by
   unfold qm at M;unfold rE;by_cases h0:0<=i
   .rw[if_pos h0]at M;rw[if_neg];intro hc;have:=H3.1 M;omega
   .rw[if_neg (fun hc=>h0 hc.1)]
  simp only[Bv,vd,hi,om]
theorem yJ {h b pos s}:vi h b (En (.iter s pos))=cond (decide (pos<s.length)) (iA (j0 h b (.iter s (pos+(qj s pos).2))) (.aJ [.bool E6,.int .i64 pos,.int .i32 (qj s pos).1])) (En ⟨.aJ [.bool Hb],Hb,Ha,h⟩):=by
 cases M:decide (pos<s.length)with
 |true=>exact jys M|false=>exact jwm M
theorem nF {h:qf}{α:Type}{z b t:Nat}{f:α->AVal}{o2}:bR (z+1) b h (En t) (En (.list Hb (z+1) [])) (En (sl (z+1) f o2))=cm (decide (b<=4096)) (om (bC (En []) (o2.getD [])) fun v=>⟨sl (z+1) f v,E6,En t,h⟩):=by
 cases M:bC (En []) (o2.getD [])with
 |some x=>exact jjj M
 |none=>
  unfold bC at M;split at M
  .cases M
  rename_i hl;simp only[Ig,H8]at hl;simp only[bR,bR.iB,Vq,H8,H9,nB,decide_eq_false hl,om];cases decide (b<=4096)<;>simp[cm]
theorem BA {p o v}(hv:bC o [p]=En v):(∀ {b t:Nat} {h:qf} {bb:Bool},bR 2 b h (En t) (En (sl 2 bA o)) (En (.list bb 2 [.agg [.str p.k,.int .i64 p.n]]))=cm (decide (b<=4096)) (En ⟨sl 2 bA v,E6,En t,h⟩))/\(∀ {b:Nat} {h:qf} {bb:Bool},o.isNone=E6->bR 2 b h Ha (En (sl 2 bA o)) (En (.list bb 2 [.agg [.str p.k,.int .i64 p.n]]))=cm (decide (b<=4096)) (En ⟨sl 2 bA v,E6,Ha,h⟩)):=⟨jio hv,jj6 hv⟩
theorem F4 {p o v}(hv:bC o [p]=En v):(∀ {b t:Nat} {h:qf} {bb:Bool},bR 3 b h (En t) (En (sl 3 jc o)) (En (.list bb 3 [.agg [.str p.k,.int .i64 p.a,.int .i64 p.b]]))=cm (decide (b<=4096)) (En ⟨sl 3 jc v,E6,En t,h⟩))/\(∀ {b:Nat} {h:qf} {bb:Bool},o.isNone=E6->bR 3 b h Ha (En (sl 3 jc o)) (En (.list bb 3 [.agg [.str p.k,.int .i64 p.a,.int .i64 p.b]]))=cm (decide (b<=4096)) (En ⟨sl 3 jc v,E6,Ha,h⟩)):=⟨jfx hv,jdj hv⟩
theorem VL {p o v}(hv:bC o [p]=En v):(∀ {b t:Nat} {h:qf} {bb:Bool},bR 5 b h (En t) (En (sl 5 je o)) (En (.list bb 5 [.agg [.str p.name,.str p.kind,.int .i64 p.count,.int .i64 p.left,.bool p.held]]))=cm (decide (b<=4096)) (En ⟨sl 5 je v,E6,En t,h⟩))/\(∀ {b:Nat} {h:qf} {bb:Bool},o.isNone=E6->bR 5 b h Ha (En (sl 5 je o)) (En (.list bb 5 [.agg [.str p.name,.str p.kind,.int .i64 p.count,.int .i64 p.left,.bool p.held]]))=cm (decide (b<=4096)) (En ⟨sl 5 je v,E6,Ha,h⟩)):=⟨qyw hv,q0v hv⟩
theorem jcn {p o v}(hv:bC o [p]=En v):(∀ {b t:Nat} {h:qf} {bb:Bool},bR 2 b h (En t) (En (sl 2 y6 o)) (En (.list bb 2 [.agg [sl 2 bA p.bd,sl 3 jc p.aS]]))=cm (decide (b<=4096)) (En ⟨sl 2 y6 v,E6,En t,h⟩))/\(∀ {b:Nat} {h:qf} {bb:Bool},o.isNone=E6->bR 2 b h Ha (En (sl 2 y6 o)) (En (.list bb 2 [.agg [sl 2 bA p.bd,sl 3 jc p.aS]]))=cm (decide (b<=4096)) (En ⟨sl 2 y6 v,E6,Ha,h⟩)):=⟨je1 hv,jeh hv⟩
theorem q88 {p o v}(hv:bC o [p]=En v):(∀ {b t:Nat} {h:qf} {bb:Bool},bR 4 b h (En t) (En (sl 4 qv o)) (En (.list bb 4 [.agg [.str p.name,sl 2 bA p.dn,sl 3 jc p.dt,sl 2 y6 p.bm]]))=cm (decide (b<=4096)) (En ⟨sl 4 qv v,E6,En t,h⟩))/\(∀ {b:Nat} {h:qf} {bb:Bool},o.isNone=E6->bR 4 b h Ha (En (sl 4 qv o)) (En (.list bb 4 [.agg [.str p.name,sl 2 bA p.dn,sl 3 jc p.dt,sl 2 y6 p.bm]]))=cm (decide (b<=4096)) (En ⟨sl 4 qv v,E6,Ha,h⟩)):=⟨ja6 hv,jai hv⟩
theorem Ou {p o v}(hv:bC o [p]=En v):(∀ {b t:Nat} {h:qf} {bb:Bool},bR 8 b h (En t) (En (sl 8 bE o)) (En (.list bb 8 [.agg [.str p.name,.str p.product,.int .i64 p.version,sl 2 bA p.uses,sl 3 jc p.results,.str p.partner,.bool p.ax,.int .i64 p.au]]))=cm (decide (b<=4096)) (En ⟨sl 8 bE v,E6,En t,h⟩))/\(∀ {b:Nat} {h:qf} {bb:Bool},o.isNone=E6->bR 8 b h Ha (En (sl 8 bE o)) (En (.list bb 8 [.agg [.str p.name,.str p.product,.int .i64 p.version,sl 2 bA p.uses,sl 3 jc p.results,.str p.partner,.bool p.ax,.int .i64 p.au]]))=cm (decide (b<=4096)) (En ⟨sl 8 bE v,E6,Ha,h⟩)):=⟨jhv hv,jj4 hv⟩
theorem ju8 {p o v}(hv:bC o [p]=En v):(∀ {b t:Nat} {h:qf} {bb:Bool},bR 4 b h (En t) (En (sl 4 z6 o)) (En (.list bb 4 [.agg [.int .i64 p.day,sl 5 je p.az,sl 4 qv p.ah,sl 8 bE p.units]]))=cm (decide (b<=4096)) (En ⟨sl 4 z6 v,E6,En t,h⟩))/\(∀ {b:Nat} {h:qf} {bb:Bool},o.isNone=E6->bR 4 b h Ha (En (sl 4 z6 o)) (En (.list bb 4 [.agg [.int .i64 p.day,sl 5 je p.az,sl 4 qv p.ah,sl 8 bE p.units]]))=cm (decide (b<=4096)) (En ⟨sl 4 z6 v,E6,Ha,h⟩)):=⟨jf9 hv,jes hv⟩
theorem j1z {p o v}(hv:bC o [p]=En v):(∀ {b t:Nat} {h:qf} {bb:Bool},bR 5 b h (En t) (En (sl 5 vev o)) (En (.list bb 5 [.agg [.int .i64 p.number,.str p.kind,sl 1 jf p.names,sl 1 jt p.values,.str p.text]]))=cm (decide (b<=4096)) (En ⟨sl 5 vev v,E6,En t,h⟩))/\(∀ {b:Nat} {h:qf} {bb:Bool},o.isNone=E6->bR 5 b h Ha (En (sl 5 vev o)) (En (.list bb 5 [.agg [.int .i64 p.number,.str p.kind,sl 1 jf p.names,sl 1 jt p.values,.str p.text]]))=cm (decide (b<=4096)) (En ⟨sl 5 vev v,E6,Ha,h⟩)):=⟨q35 hv,q4e hv⟩
theorem jbo {x o v}(hv:bC o [x]=En v):(∀ {b t:Nat} {h:qf} {bb:Bool},bR 1 b h (En t) (En (sl 1 jt o)) (En (.list bb 1 [.int .i64 x]))=cm (decide (b<=4096)) (En ⟨sl 1 jt v,E6,En t,h⟩))/\(∀ {b:Nat} {h:qf} {bb:Bool},o.isNone=E6->bR 1 b h Ha (En (sl 1 jt o)) (En (.list bb 1 [.int .i64 x]))=cm (decide (b<=4096)) (En ⟨sl 1 jt v,E6,Ha,h⟩)):=⟨VM hv,VN hv⟩
theorem F5 {x o v}(hv:bC o [x]=En v):(∀ {b t:Nat} {h:qf} {bb:Bool},bR 1 b h (En t) (En (sl 1 jf o)) (En (.list bb 1 [.str x]))=cm (decide (b<=4096)) (En ⟨sl 1 jf v,E6,En t,h⟩))/\(∀ {b:Nat} {h:qf} {bb:Bool},o.isNone=E6->bR 1 b h Ha (En (sl 1 jf o)) (En (.list bb 1 [.str x]))=cm (decide (b<=4096)) (En ⟨sl 1 jf v,E6,Ha,h⟩)):=⟨q02 hv,fun hn=>tf (by omega) rfl hn hv⟩
theorem j2j {α:Type}{o v hi}(hv:jB o Ha (En hi)=En v):∀(h:qf) (z:Nat) (f:α->AVal) (k:IntKind),pU z h (En (sl z f o)) Ha (En (En (.int k hi)))=En ⟨sl z f v,Hb,Ha,h⟩:=fun _ _ _ _=>vm hv
@[go_sem] theorem j6j {n v}:below n (.aq v)=below n v:=rfl
structure ti where
 names:Int
 values:Int
 known:Bool
theorem j1k {O b0 J b1 a2 b2}:y9 [.str,.int,.int] [.str O,.int .i64 J,.int .i64 a2] [.str b0,.int .i64 b1,.int .i64 b2]=En (decide (O=b0)&&decide (J=b1)&&decide (a2=b2)):=by
 have e:∀x y:Int,(x == y)=decide (x=y):=fun x y=>by by_cases h:x=y<;>simp[h]
 have e':∀x y:aj,(x == y)=decide (x=y):=fun x y=>by by_cases h:x=y<;>simp[h]
 have e2:∀x y:Bool,(x == y)=decide (x=y):=fun x y=>by cases x<;>cases y<;>rfl
 simp only[y9,nq,e,e',e2,decide_true,cond_true];by_cases h0:O=b0<;>by_cases Y:J=b1<;>by_cases I:a2=b2<;>simp[h0,Y,I]
@[go_sem] theorem zku {h O b0 J b1 a2 b2}:VO [.str,.int,.int] E6 h (En (.agg [.str O,.int .i64 J,.int .i64 a2])) (En (.agg [.str b0,.int .i64 b1,.int .i64 b2]))=En ⟨.bool (!(decide (O=b0)&&decide (J=b1)&&decide (a2=b2))),Hb,Ha,h⟩:=by
 show(match y9 [.str,.int,.int] [.str O,.int .i64 J,.int .i64 a2] [.str b0,.int .i64 b1,.int .i64 b2]with|some t=>val h (.bool (bif E6 then !t else t))|none=>Ha)=_;rw[j1k];rfl
@[go_sem] theorem zjp {h0 al h g a b}:gT h0 al Hb 1 h (En (.aq (.fn g a b)))=En ⟨.fn g a b,Hb,Ha,h⟩:=rfl
def tj (h:qf)(zero:AVal)(r:Option (Option (Nat×AVal))):Option bu:=match r with
 |some (En (_,v))=>En ⟨.aJ [v,.bool E6],Hb,Ha,h⟩|some Ha=>En ⟨.aJ [zero,.bool Hb],Hb,Ha,h⟩|none=>Ha
@[go_sem] theorem j4h {h z v i}:tj h z (En (En (i,v)))=En ⟨.aJ [v,.bool E6],Hb,Ha,h⟩:=rfl
@[go_sem] theorem j4c {h z}:tj h z (En Ha)=En ⟨.aJ [z,.bool Hb],Hb,Ha,h⟩:=rfl
def Ov (h:qf)(kd:Kd)(z kv:AVal)(x:Option aK):Option bu:=match x with
 |some (.map es)=>tj h z (za kd kv es 0)|_=>Ha
@[go_sem] theorem j6c {h kd z kv es}:Ov h kd z kv (En (.map es))=tj h z (za kd kv es 0):=rfl
def VP (h0:Nat)(al:ak Nat)(h:qf)(kd:Kd)(z:AVal)(m k:Option AVal):Option bu:=match m,k with
 |some (.map b),En kv=>cm (zf h0 al b) (Ov h kd z kv h[b]?)|some .b8,En _=>En ⟨.aJ [z,.bool Hb],Hb,Ha,h⟩|_,_=>Ha
@[go_sem] theorem jxk {h0 al h kd z kv b}:VP h0 al h kd z (En (.map b)) (En kv)=cm (zf h0 al b) (Ov h kd z kv h[b]?):=rfl
@[go_sem] theorem j9x {p xc h0 al e h kd z m k}:qe p xc h0 al e h (.lookup kd z E6 m k)=VP h0 al h kd z (qh e m) (qh e k):=by
 simp only[qe,yt,VP]
 cases qh e m with
 |none=>cases qh e k<;>rfl
 |some v=>cases qh e k with
  |none=>cases v<;>rfl
  |some kv=>cases v with
   |map b=>
    simp only[cm,zm,Ov,tj]
    cases zf h0 al b with
    |false=>rfl
    |true=>
     simp only[cond_true]
     cases h[b]? with
     |none=>rfl
     |some x=>cases x with
      |map es=>
       simp only[]
       cases za kd kv es 0 with
       |none=>rfl|some r=>cases r<;>rfl
      |_=>rfl
   |_=>rfl
theorem JB {σ δ γ:Type}(n:Nat)(mk:Nat->σ)(f:σ->Option (σ⊕δ))(aaf:δ->γ)(r:Nat->γ)(da:∃d,f (mk n)=En (.inr d)/\aaf d=r n)
  (cn:∀i,i<n->(f (mk i)=En (.inl (mk (i+1)))/\r i=r (i+1))\/(∃d,f (mk i)=En (.inr d)/\aaf d=r i)):∃d,bq f (mk 0)=En d/\aaf d=r 0:=by
 have key:∀(k i:Nat),i+k=n->∃d,bq f (mk i)=En d/\aaf d=r i:=by
  intro k
  induction k with
  |zero=>
   intro i hi
   have:i=n:=by omega
   subst this;obtain⟨d,Y,I⟩:=da;exact⟨d,zj Y,I⟩
  |succ k ih=>
   intro i hi;rcases cn i (by omega)with⟨Y,I⟩|⟨d,Y,I⟩
   .rw[km Y,I];exact ih (i+1) (by omega)
   .exact⟨d,zj Y,I⟩
 exact key n 0 (by omega)
theorem VQ {α δ:Type}(l:List α)(f:Int->Option (Int⊕δ))(q:α->Bool)(aaf:δ->Bool)(da:∃d,f (l.length:Int)=En (.inr d)/\aaf d=E6)
  (cn:∀(i:Nat) x,l[i]?=En x->i<l.length->(q x=E6/\f (i:Int)=En (.inl ((i+1:Nat):Int)))\/(q x=Hb/\∃d,f (i:Int)=En (.inr d)/\aaf d=Hb)):∃d,bq f 0=En d/\aaf d=l.all q:=by
 have:=JB l.length (fun i=>(i:Int)) f aaf (fun i=>(l.drop i).all q) (by rw[Ia (Nat.le_refl _)];exact da) (fun i hi=>by
  obtain⟨x,M⟩:∃x,l[i]?=En x:=⟨_,H4 hi⟩;simp only[rF M,List.all_cons];rcases cn i x M hi with⟨Y,I⟩|⟨Y,I⟩
  ·rw[Y];exact .inl ⟨I,rfl⟩
  ·rw[Y];exact .inr I)
 simpa using this
theorem q9a {α β:Type}(l:List α)(ix:Nat->Int)(f:Option (List β)×Int×Bool->Option ((Option (List β)×Int×Bool)⊕(Option (List β)×Bool×Int)))(h:α->List β)(O:List β)(aah:Nat->List β->Prop)(hI:aah 0 O)
  (da:∀a,f (jh a,ix l.length,fS a)=En (.inr (jh a,fS a,ix l.length)))
  (cn:∀(i:Nat) x a,l[i]?=En x->i<l.length->aah i a->aah (i+1) (a++h x)/\f (jh a,ix i,fS a)=En (.inl (jh (a++h x),ix (i+1),fS (a++h x)))):
  bq f (jh O,ix 0,fS O)=En (jh (O++l.flatMap h),fS (O++l.flatMap h),ix l.length):=by
 have key:∀(k i:Nat),i+k=l.length->∀a,aah i a->bq f (jh a,ix i,fS a)=En (jh (a++(l.drop i).flatMap h),fS (a++(l.drop i).flatMap h),ix l.length):=by
  intro k
  induction k with
  |zero=>
   intro i hi a _
   have:i=l.length:=by omega
   subst this;rw[Ia (Nat.le_refl _),List.flatMap_nil,List.append_nil,zj (da a)]
  |succ k ih=>
   intro i hi a ha;obtain⟨x,M⟩:∃x,l[i]?=En x:=⟨_,H4 (by omega)⟩;obtain⟨Y,I⟩:=cn i x a M (by omega) ha;rw[km I,ih (i+1) (by omega) _ Y,rF M,Ic,List.append_assoc]
 have:=key l.length 0 (by omega) O hI;rwa [List.drop_zero]at this
theorem q1a {α:Type}{a:List α}{x}(h:a.length<1073741824):bC (jh a) [x]=En (jh (a++[x])):=by
 unfold bC
 cases a with
 |nil=>rfl
 |cons y a=>
  have:((jh (y::a)).getD []).length + [x].length<=1073741824:=by simp[jh]at h ⊢;omega
  rw[if_pos this];rfl
theorem vn {α γ:Type}{a:List α}{x:α}{k:Option (List α)->Option γ}(h:a.length<1073741824):cond (fS a) (qa (bC (jh a) [x]) k) (cond (jh a).isNone (qa (bC (jh a) [x]) k) Ha)=k (jh (a++[x])):=by
 rw[q1a h];cases a<;>rfl
theorem zc {α:Type}(a:List α):(jh a).getD []=a:=by cases a<;>rfl
theorem JC {α β:Type}(h:α->β):∀l:List α,l.flatMap (fun x=>[h x])=l.map h
 | []=>rfl
 |x::l=>by rw[Ic,JC h l];rfl
theorem jru {α β:Type}(l:List α)(f:Option (List β)×Int×Bool->Option ((Option (List β)×Int×Bool)⊕(Option (List β)×Bool×Int)))(h:α->β)(hl:l.length<=1073741824)
  (da:∀a:Option (List β)×Bool,f (a.1,(l.length:Int),a.2)=En (.inr (a.1,a.2,(l.length:Int))))
  (cn:∀(i:Nat) x (a:List β),l[i]?=En x->i<l.length->a.length<1073741824->f (jh a,(i:Int),fS a)=En (.inl (jh (a++[h x]),((i+1:Nat):Int),E6))):
  bq f (Ha,0,Hb)=En (jh (l.map h),fS (l.map h),(l.length:Int)):=by
 have:=q9a l (fun i=>(i:Int)) f (fun x=>[h x]) [] (fun i a=>a.length=i) rfl (fun a=>da (jh a,fS a)) (fun i x a M hi ha=>⟨by simp[ha],by rw[cn i x a M hi (by omega),wQ]⟩);rw[JC,List.nil_append]at this;exact this
theorem q9 {α:Type}{l:List α}{i:Nat}{x:α}(M:l[i]?=En x):qm l (i:Int)=En x:=by rw[wR,M]
theorem kj {α:Type}{l:List α}{i}(h:i<l.length):decide ((i:Int)<(l.length:Int))=E6:=decide_eq_true (by omega)
theorem yd {n}:decide ((n:Int)<(n:Int))=Hb:=decide_eq_false (by omega)
end Go.Z
namespace Go.Z
open Go Go.Abs Go.W
def jC:List (aj×aj×Int×Nat):=[(nG,[45,45],2,106),(oe,[45],1,107),(nH,[112,45],2,108),(lO,[112,45],3,109),(rG,[112],1,110),(pV,[45,112],1,111),(nI,[117,108],2,112),(pW,[117,45],2,113),(rH,[117],1,114),(og,[117,117],1,115),(pi,[108],1,116),(tm,[108],1,117),(lP,[117],1,118),(yK,[117],1,119),(oh,[],0,0)]
def fnv (k:Nat):AVal:=bif Nat.beq k 0 then .cu else .fn (.func k) [] []
def pX (x:aj):Option (aj×aj×Int×Nat):=jC.find? fun f=>decide (x=f.1)
def zb (x:aj):aj:=match pX x with
 |some f=>f.2.1|none=>[]
def mA (x:aj):Int:=match pX x with
 |some f=>f.2.2.1|none=>0
def mX (x:aj):AVal:=match pX x with
 |some f=>fnv f.2.2.2|none=>.cu
def mC (x:aj):Bool:=(pX x).isSome
theorem qx3:jd=jC.map fun f=>(.str f.1,.agg [.str f.2.1,.int .i64 f.2.2.1,fnv f.2.2.2]):=rfl
theorem VR (x:aj)(h:qf):∀(l:List (aj×aj×Int×Nat)) (n:Nat),za .str (.str x) (l.map fun f=>(.str f.1,.agg [.str f.2.1,.int .i64 f.2.2.1,fnv f.2.2.2])) n=En Ha/\l.find? (fun f=>decide (x=f.1))=Ha\/∃i f,za .str (.str x) (l.map fun f=>(.str f.1,.agg [.str f.2.1,.int .i64 f.2.2.1,fnv f.2.2.2])) n=En (En (i,.agg [.str f.2.1,.int .i64 f.2.2.1,fnv f.2.2.2]))/\l.find? (fun f=>decide (x=f.1))=En f
 | [],n=>.inl ⟨rfl,rfl⟩
 |f::l,n=>by
  have he:nq .str (.str x) (.str f.1)=En (decide (x=f.1)):=by
   show En (x == f.1)=_;by_cases M:x=f.1<;>simp[M]
  by_cases M:x=f.1
  .refine .inr ⟨n,f,?_,?_⟩
   .simp only[H2,za,he,decide_eq_true M]
   .simp[Hc,M]
  .rcases VR x h l (n+1)with⟨Y,I⟩|⟨i,g,Y,I⟩
   .exact .inl ⟨by simp only[H2,za,he,M,decide_false];exact Y,by simp only[Hc,M,decide_false];exact I⟩
   .exact .inr ⟨i,g,by simp only[H2,za,he,M,decide_false];exact Y,by simp only[Hc,M,decide_false];exact I⟩
@[go_sem] theorem ze4 {h g a b}:vh Hb h (En (.fn g a b))=En ⟨.aq (.fn g a b),Hb,Ha,h⟩:=rfl
@[go_sem] theorem zl0:pr.maps 39=En jd:=rfl
theorem tn {h}(x:aj):tj h (.agg [.str [],.int .i64 0,.cu]) (za .str (.str x) jd 0)=En ⟨.aJ [.agg [.str (zb x),.int .i64 (mA x),mX x],.bool (mC x)],Hb,Ha,h⟩:=by
 rw[qx3];rcases VR x h jC 0 with⟨Y,I⟩|⟨i,f,Y,I⟩
 .rw[Y];simp only[tj,zb,mA,mX,mC,pX,I];rfl
 .rw[Y];simp only[tj,zb,mA,mX,mC,pX,I];rfl
theorem Ow {h}(x:aj):wN h (.agg [.str [],.int .i64 0,.cu]) (za .str (.str x) jd 0)=En ⟨.agg [.str (zb x),.int .i64 (mA x),mX x],Hb,Ha,h⟩:=by
 rw[qx3];rcases VR x h jC 0 with⟨Y,I⟩|⟨i,f,Y,I⟩
 .rw[Y];simp only[wN,zb,mA,mX,pX,I];rfl
 .rw[Y];simp only[wN,zb,mA,mX,pX,I];rfl
@[go_sem] theorem zks {x}:qk (mX x)=E6:=by
 unfold mX;split
 .rename_i f _;simp only[fnv];cases Nat.beq f.2.2.2 0<;>rfl
 .rfl
def eS (l:List (aj×Int)):List (AVal×AVal):=l.map fun p=>(.str p.1,.int .i64 p.2)
def nJ (l:List (aj×Int))(k:aj):Int:=match l.find? fun p=>decide (k=p.1)with
 |some p=>p.2|none=>0
def lQ:List (aj×Int)->aj->Int->List (aj×Int)
 | [],k,v=>[(k,v)]
 |p::l,k,v=>if k=p.1 then(p.1,v)::l else p::lQ l k v
def Ox (l:List (aj×Int))(k:aj)(v:Int):Option (List (aj×Int)):=if l.length<=1073741824 then En (lQ l k v)else Ha
theorem VS {k s}:nq .str (.str k) (.str s)=En (decide (k=s)):=by
 show En (k == s)=_;by_cases M:k=s<;>simp[M]
theorem VT (k:aj):∀(l:List (aj×Int)) (n:Nat),(za .str (.str k) (eS l) n=En Ha/\l.find? (fun p=>decide (k=p.1))=Ha/\∀v,eS (lQ l k v)=eS l++[(.str k,.int .i64 v)])\/∃i p,za .str (.str k) (eS l) n=En (En (n+i,.int .i64 p.2))/\l.find? (fun p=>decide (k=p.1))=En p/\∀v,eS (lQ l k v)=sk (eS l) i (.int .i64 v)
 | [],n=>.inl ⟨rfl,rfl,fun _=>rfl⟩
 |p::l,n=>by
  by_cases M:k=p.1
  .refine .inr ⟨0,p,?_,?_,fun v=>?_⟩
   .simp only[eS,H2,za,VS,decide_eq_true M];rfl
   .simp[Hc,M]
   .simp only[lQ,if_pos M];rfl
  .rcases VT k l (n+1)with⟨Y,I,h3⟩|⟨i,q,Y,I,h3⟩
   .refine .inl ⟨?_,?_,fun v=>?_⟩
    .simp only[eS,H2,za,VS,decide_eq_false M];exact Y
    .simp only[Hc,decide_eq_false M];exact I
    .simp only[lQ,if_neg M];show _::eS (lQ l k v)=_;rw[h3];rfl
   .refine .inr ⟨i+1,q,?_,?_,fun v=>?_⟩
    .simp only[eS,H2,za,VS,decide_eq_false M];rw[show n+(i+1)=n+1+i by omega];exact Y
    .simp only[Hc,decide_eq_false M];exact I
    .simp only[lQ,if_neg M];show _::eS (lQ l k v)=_;rw[h3];rfl
theorem jq7 {h l k}:wN h (.int .i64 0) (za .str (.str k) (eS l) 0)=En ⟨.int .i64 (nJ l k),Hb,Ha,h⟩:=by
 unfold nJ;rcases VT k l 0 with⟨Y,I,_⟩|⟨i,p,Y,I,_⟩<;>rw[Y,I]<;>rfl
theorem j2g {h b l v k n}(hv:Ox l k n=En v):F2 h b (eS l) (.str k) (.int .i64 n) (za .str (.str k) (eS l) 0)=iA (j0 h b (.map (eS v))) .undef:=by
 unfold Ox at hv;split at hv
 .rename_i hl;cases hv;rcases VT k l 0 with⟨Y,I,h3⟩|⟨i,p,Y,I,h3⟩
  .rw[Y,h3];have:Nat.ble (eS l).length 1073741824=E6:=Nat.ble_eq_true_of_le (by rw[eS,H9];exact hl);simp only[F2,this,cm,cond_true]
  .rw[Y,h3,Nat.zero_add];rfl
 .cases hv
theorem jlo {l k k' v}:nJ (lQ l k v) k'=if k'=k then v else nJ l k':=by
 induction l with
 |nil=>by_cases h:k'=k<;>simp[lQ,nJ,Hc,h]
 |cons p l ih=>
  unfold nJ at ih ⊢;by_cases hk:k=p.1
  .by_cases h:k'=k
   .subst h;simp[lQ,Hc,<-hk]
   .have I:¬k'=p.1:=by rw[<-hk];exact h
    simp[lQ,Hc,hk,I]
  .by_cases I:k'=p.1
   .have h3:¬k'=k:=by rw[I];exact fun h=>hk h.symm
    have h4:¬p.1=k:=fun h=>hk h.symm;simp[lQ,Hc,hk,I,h4]
   .simp only[lQ,if_neg hk,Hc,decide_eq_false I];exact ih
@[go_sem] theorem zaz {h0 al h b}:gT h0 al Hb 1 h (En (.aq (.map b)))=En ⟨.map b,Hb,Ha,h⟩:=rfl
@[go_sem] theorem jgd {n l}:kr n (eS l)=E6:=by
 induction l with
 |nil=>rfl|cons p l ih=>simp only[eS,H2,kr,below,Bool.true_and];exact ih
@[go_sem] theorem jvo {n l}:zn n (.map (eS l))=E6:=jgd
structure G3 where
 x:Int
 y:Int
 z:Int
end Go.Z
end
