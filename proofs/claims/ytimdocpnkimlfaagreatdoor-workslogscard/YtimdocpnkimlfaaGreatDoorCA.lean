/- The structs of chapter 10 and their cells; what they are in plain lists. -/
import Derived.Test.YtimdocpnkimlfaaGreatDoorL1
import Derived.Test.YtimdocpnkimlfaaGreatDoorWS
import Derived.Test.YtimdocpnkimlfaaGreatDoorZM
set_option linter.unusedVariables false
set_option linter.unusedSimpArgs false
set_option maxRecDepth 100000
open Option renaming some→Ea,none→Ec,getD_some→Hb
open Bool renaming false→Eb,true→Ek,and_eq_true→Ha
open List renaming length_nil→En,drop_eq_nil_of_le→E3,map_cons→Gc,length_map→Hu,find?→Hy
open Nat renaming blt→Ga,le_refl→Hz
namespace Go.Z
open Go Go.Abs Go.W
def li (p:fV):AVal:=.agg [.str p.k,.int .i64 p.n]
@[go_sem] theorem jw1 {p}:(li p).flat=[.str p.k,.int .i64 p.n]:=rfl
@[go_sem] theorem jt6 {n}(p:fV):below n (li p)=Ek:=by rfl
@[go_sem] theorem j3e {p}:AVal.ax (li p)=.ax (.agg [.str p.k,.int .i64 p.n]):=rfl
def lj (p:rh):AVal:=.agg [.str p.k,.int .i64 p.a,.int .i64 p.b]
@[go_sem] theorem ju2 {p}:(lj p).flat=[.str p.k,.int .i64 p.a,.int .i64 p.b]:=rfl
@[go_sem] theorem jsk {n}(p:rh):below n (lj p)=Ek:=by rfl
@[go_sem] theorem jvx {p}:AVal.ax (lj p)=.ax (.agg [.str p.k,.int .i64 p.a,.int .i64 p.b]):=rfl
def tP (p:iO):AVal:=.agg [.str p.name,.str p.kind,.int .i64 p.count,.int .i64 p.left,.bool p.held]
@[go_sem] theorem jwo {p}:(tP p).flat=[.str p.name,.str p.kind,.int .i64 p.count,.int .i64 p.left,.bool p.held]:=rfl
@[go_sem] theorem jnh {n}(p:iO):below n (tP p)=Ek:=by rfl
@[go_sem] theorem jvc {p}:AVal.ax (tP p)=.ax (.agg [.str p.name,.str p.kind,.int .i64 p.count,.int .i64 p.left,.bool p.held]):=rfl
structure kT where
 bG:Option (List fV)
 bI:Option (List rh)
def vU (p:kT):AVal:=.agg [sl 2 li p.bG,sl 3 lj p.bI]
@[go_sem] theorem jwf {p}:(vU p).flat=[sl 2 li p.bG,sl 3 lj p.bI]:=rfl
@[go_sem] theorem jwg {p}:AVal.ax (vU p)=.ax (.agg [sl 2 li p.bG,sl 3 lj p.bI]):=rfl
structure iP where
 name:List UInt8
 dn:Option (List fV)
 dt:Option (List rh)
 cq:Option (List kT)
def vV (p:iP):AVal:=.agg [.str p.name,sl 2 li p.dn,sl 3 lj p.dt,sl 2 vU p.cq]
@[go_sem] theorem jpg {p}:(vV p).flat=[.str p.name,sl 2 li p.dn,sl 3 lj p.dt,sl 2 vU p.cq]:=rfl
@[go_sem] theorem jti {p}:AVal.ax (vV p)=.ax (.agg [.str p.name,sl 2 li p.dn,sl 3 lj p.dt,sl 2 vU p.cq]):=rfl
structure nR where
 name:List UInt8
 product:List UInt8
 version:Int
 uses:Option (List fV)
 results:Option (List rh)
 partner:List UInt8
 shipped:Bool
 aQ:Int
def vW (p:nR):AVal:=.agg [.str p.name,.str p.product,.int .i64 p.version,sl 2 li p.uses,sl 3 lj p.results,.str p.partner,.bool p.shipped,.int .i64 p.aQ]
@[go_sem] theorem j0p {p}:(vW p).flat=[.str p.name,.str p.product,.int .i64 p.version,sl 2 li p.uses,sl 3 lj p.results,.str p.partner,.bool p.shipped,.int .i64 p.aQ]:=rfl
@[go_sem] theorem j0k {p}:AVal.ax (vW p)=.ax (.agg [.str p.name,.str p.product,.int .i64 p.version,sl 2 li p.uses,sl 3 lj p.results,.str p.partner,.bool p.shipped,.int .i64 p.aQ]):=rfl
structure fW where
 day:Int
 lots:Option (List iO)
 aI:Option (List iP)
 units:Option (List nR)
def Qq (p:fW):AVal:=.agg [.int .i64 p.day,sl 5 tP p.lots,sl 4 vV p.aI,sl 8 vW p.units]
@[go_sem] theorem jvl {p}:(Qq p).flat=[.int .i64 p.day,sl 5 tP p.lots,sl 4 vV p.aI,sl 8 vW p.units]:=rfl
@[go_sem] theorem jug {p}:AVal.ax (Qq p)=.ax (.agg [.int .i64 p.day,sl 5 tP p.lots,sl 4 vV p.aI,sl 8 vW p.units]):=rfl
structure aT where
 number:Int
 kind:List UInt8
 names:Option (List (List UInt8))
 values:Option (List Int)
 text:List UInt8
def bX (p:aT):AVal:=.agg [.int .i64 p.number,.str p.kind,sl 1 qv p.names,sl 1 qx p.values,.str p.text]
@[go_sem] theorem j1f {p}:(bX p).flat=[.int .i64 p.number,.str p.kind,sl 1 qv p.names,sl 1 qx p.values,.str p.text]:=rfl
@[go_sem] theorem q5v {n}(p:aT):below n (bX p)=Ek:=by simp only[bX,go_sem]
@[go_sem] theorem jqu {n z l}:below n (sl z bX l)=Ek:=PR q5v
@[go_sem] theorem j1x {p}:AVal.ax (bX p)=.ax (.agg [.int .i64 p.number,.str p.kind,sl 1 qv p.names,sl 1 qx p.values,.str p.text]):=rfl
theorem tQ {b t h bb p o v}(hv:cK o [p]=Ea v):bZ 5 b h (Ea t) (Ea (sl 5 bX o)) (Ea (.list bb 5 [.agg [.int .i64 p.number,.str p.kind,sl 1 qv p.names,sl 1 qx p.values,.str p.text]]))=cj (decide (b≤4096)) (Ea ⟨sl 5 bX v,Ek,Ea t,h⟩):=Qr (x:=p) (by omega) rfl hv
theorem ZP {b h bb p o v}(hv:cK o [p]=Ea v)(hn:o.isNone=Ek):bZ 5 b h Ec (Ea (sl 5 bX o)) (Ea (.list bb 5 [.agg [.int .i64 p.number,.str p.kind,sl 1 qv p.names,sl 1 qx p.values,.str p.text]]))=cj (decide (b≤4096)) (Ea ⟨sl 5 bX v,Ek,Ec,h⟩):=Qs (x:=p) (by omega) rfl hn hv
def kT.er (d:kT):tR:=⟨d.bG.getD [],d.bI.getD []⟩
def iP.er (p:iP):lN:=⟨p.name,⟨p.dn.getD [],p.dt.getD []⟩,(p.cq.getD []).map kT.er⟩
def nR.er (u:nR):j8:=⟨u.name,u.product,u.version,u.uses.getD [],u.results.getD [],u.partner,u.shipped,u.aQ⟩
def fW.er (r:fW):jo:=⟨r.day,r.lots.getD [],(r.aI.getD []).map iP.er,(r.units.getD []).map nR.er⟩
def aT.er (e:aT):cB:=⟨e.number,e.kind,e.names.getD [],e.values.getD [],e.text⟩
end Go.Z
namespace Go.Z
open Go Go.Abs Go.W
theorem Qt {hh}:∀ {xs:List AVal},qr 0 xs=Ek→y5 hh xs=Ea xs
 | [],_=>rfl
 |x::xs,h=>by
  simp only[qr,Ha]at h
  have hx:y6 hh x=Ea x:=by
   cases x with
   |ms b o n=>simp[Abs.below,Ga]at h
   |aA b o n=>simp[Abs.below,Ga]at h
   |_=>rfl
  simp only[y5,hx,Qt h.2]
theorem ZQ {hh}:∀ {xs:List AVal},qr 0 xs=Ek→aH.aW hh xs=Ea xs
 | [],_=>rfl
 |x::xs,h=>by
  simp only[qr,Ha]at h
  have ih:=ZQ (hh:=hh) h.2
  cases x with
  |agg cs=>
   have h1:=h.1
   simp only[Abs.below]at h1
   simp only[aH.aW,Qt h1,ih]
  |ms b o n=>simp[Abs.below,Ga]at h
  |aA b o n=>simp[Abs.below,Ga]at h
  |_=>simp only[aH.aW,y6,ih]
theorem ZR {hh x}(h:Abs.below 0 x=Ek):aH hh x=Ea x:=by
 cases x with
 |agg cs=>
  simp only[Abs.below]at h
  simp only[aH,Qt h]
 |av vs=>
  simp only[Abs.below]at h
  simp only[aH,ZQ h]
 |ms b o n=>simp[Abs.below,Ga]at h
 |aA b o n=>simp[Abs.below,Ga]at h
 |_=>rfl
theorem ll {p k}(f:aj){args v}(hc:∃hh,Bx f.results (X p f.body ⟨nc 0 args,[]⟩)=some (v,false,hh))(hp:p.bM k=none:=by rfl)(hf:p.bn k=some f:=by rfl)(hl:Nat.ble args.length f.ntmps=true:=by rfl)(hv:below 0 v=true:=by first|rfl|simp only[go_sem,seval]):ae p (X p) k args=some (v,false):=by
 obtain⟨hh,hc⟩:=hc
 cases f with
 |mk n b r=>exact qm hp (by rw[qn hf (Nat.le_of_ble_eq_true hl)];exact hc) (ZR hv) hv
theorem Qu {p k}(f:aj){args v o}(hc:∃hh,Bx f.results (X p f.body ⟨nc 0 args,[]⟩)=some (v,o,hh))(hp:p.bM k=none:=by rfl)(hf:p.bn k=some f:=by rfl)(hn:Nat.ble args.length f.ntmps=true:=by rfl)(hv:below 0 v=true:=by first|rfl|simp only[go_sem,seval])(hl:v.b6=true:=by first|rfl|simp only[go_sem,seval]):ae p (X p) k args=some (v,o):=by
 obtain⟨hh,hc⟩:=hc
 cases f with
 |mk n b r=>exact IG hp (by rw[qn hf (Nat.le_of_ble_eq_true hn)];exact hc) (ZR hv) hv hl
theorem nk {σ δ:Type}{p:jg}{c:au}{St:σ→aV}{Ex:δ→je×aV}{s s':σ}(h:X p c (St s)=some (.normal,St s'))(hl:(St s').heap.length≤(St s).heap.length:=by exact Nat.le_refl _):zd p c St Ex s (.inl s'):=jp h (ju hl)
theorem j10 {α:Type}{z:Nat}{f:α→AVal}{l:List α}:sl z f (Ea l)=.list Eb z (l.map f):=rfl
theorem np {α:Type}{z:Nat}{f:α→AVal}:sl z f Ec=.list Ek 0 []:=rfl
abbrev Iv (n:Int):AVal:=.int .i64 n
abbrev Lv {α:Type}(o:Option (List α)):AVal:=.int .i64 ((o.getD []).length:Int)
abbrev Nl:AVal:=.list Ek 0 []
abbrev aE (e:aT):AVal:=.agg [.int .i64 e.number,.str e.kind,sl 1 qv e.names,sl 1 qx e.values,.str e.text]
abbrev aR (r:fW):AVal:=.agg [.int .i64 r.day,sl 5 tP r.lots,sl 4 vV r.aI,sl 8 vW r.units]
abbrev aU (u:nR):AVal:=.agg [.str u.name,.str u.product,.int .i64 u.version,sl 2 li u.uses,sl 3 lj u.results,.str u.partner,.bool u.shipped,.int .i64 u.aQ]
abbrev aL (l:iO):AVal:=.agg [.str l.name,.str l.kind,.int .i64 l.count,.int .i64 l.left,.bool l.held]
abbrev aP (p:iP):AVal:=.agg [.str p.name,sl 2 li p.dn,sl 3 lj p.dt,sl 2 vU p.cq]
abbrev aD (d:kT):AVal:=.agg [sl 2 li d.bG,sl 3 lj d.bI]
def om {α β:Type}(o:Option α)(f:α→β):Option β:=match o with
 |some x=>Ea (f x)
 |none=>Ec
@[go_sem] theorem j5q {α β:Type}{x:α}{f:α→β}:om (Ea x) f=Ea (f x):=rfl
theorem ri {h:ql}{α:Type}{z:Nat}{f:α→AVal}{l k i}:nQ z h (Ea (sl z f l)) (Ea (.int k i))=om (jn (l.getD []) i) fun x=>⟨.ax (f x),Eb,Ec,h⟩:=by
 cases hx:jn (l.getD []) i with
 |some x=>exact js hx
 |none=>
  have hi:qW (l.getD []).length i=Ec:=by
   unfold jn at hx
   unfold qW
   by_cases h0:0≤i
   ·rw[if_pos h0]at hx
    rw[if_neg]
    intro hc
    have:=List.getElem?_eq_none_iff.1 hx
    omega
   ·rw[if_neg (fun hc=>h0 hc.1)]
  cases l with
  |none=>simp only[sl,nQ,vP,Option.getD_none,En]at hi ⊢;rw[hi];simp[om]
  |some l=>simp only[sl,nQ,vP,Hb,Hu]at hi ⊢;rw[hi];simp[om]
theorem q85 {h s k i}:vR h (Ea (.str s)) (Ea (.int k i))=om (jn s i) fun c=>⟨.int .u8 (c.toNat:Int),Eb,Ec,h⟩:=by
 cases hx:jn s i with
 |some x=>exact jk hx
 |none=>
  have hi:qW s.length i=Ec:=by
   unfold jn at hx
   unfold qW
   by_cases h0:0≤i
   ·rw[if_pos h0]at hx
    rw[if_neg]
    intro hc
    have:=List.getElem?_eq_none_iff.1 hx
    omega
   ·rw[if_neg (fun hc=>h0 hc.1)]
  simp only[vR,vP,hi,om]
theorem ZS {h b pos s}:qZ h b (Ea (.iter s pos))=cond (decide (pos<s.length)) (gY (jh h b (.iter s (pos+(qf s pos).2))) (.av [.bool Ek,.int .i64 pos,.int .i32 (qf s pos).1])) (Ea ⟨.av [.bool Eb],Eb,Ec,h⟩):=by
 cases hx:decide (pos<s.length)with
 |true=>exact lO hx
 |false=>exact EG hx
theorem q5w {h:ql}{α:Type}{z b t:Nat}{f:α→AVal}{o2}:bZ (z+1) b h (Ea t) (Ea (.list Eb (z+1) [])) (Ea (sl (z+1) f o2))=cj (decide (b≤4096)) (om (cK (Ea []) (o2.getD [])) fun v=>⟨sl (z+1) f v,Ek,Ea t,h⟩):=by
 cases hx:cK (Ea []) (o2.getD [])with
 |some x=>exact vX hx
 |none=>
  unfold cK at hx
  split at hx
  ·cases hx
  rename_i hl
  simp only[Hb,En]at hl
  simp only[bZ,bZ.gB,ZI,En,Hu,kn,decide_eq_false hl,om]
  cases decide (b≤4096)<;>simp[cj]
theorem ZT {x o v}(hv:cK o [x]=Ea v):(∀ {b t:Nat} {h:ql} {bb:Bool},bZ 1 b h (Ea t) (Ea (sl 1 qx o)) (Ea (.list bb 1 [.int .i64 x]))=cj (decide (b≤4096)) (Ea ⟨sl 1 qx v,Ek,Ea t,h⟩))∧(∀ {b:Nat} {h:ql} {bb:Bool},o.isNone=Ek→bZ 1 b h Ec (Ea (sl 1 qx o)) (Ea (.list bb 1 [.int .i64 x]))=cj (decide (b≤4096)) (Ea ⟨sl 1 qx v,Ek,Ec,h⟩)):=⟨Qv hv,Qw hv⟩
@[go_sem] theorem jts {n v}:below n (.ax v)=below n v:=rfl
structure lm where
 names:Int
 values:Int
 known:Bool
@[go_sem] theorem j0h {h0 al h g a b}:y8 h0 al Eb 1 h (Ea (.ax (.fn g a b)))=Ea ⟨.fn g a b,Eb,Ec,h⟩:=rfl
def tS (h:ql)(zero:AVal)(r:Option (Option (Nat×AVal))):Option aK:=match r with
 |some (Ea (_,v))=>Ea ⟨.av [v,.bool Ek],Eb,Ec,h⟩
 |some Ec=>Ea ⟨.av [zero,.bool Eb],Eb,Ec,h⟩
 |none=>Ec
@[go_sem] theorem jl6 {h z v i}:tS h z (Ea (Ea (i,v)))=Ea ⟨.av [v,.bool Ek],Eb,Ec,h⟩:=rfl
@[go_sem] theorem jlu {h z}:tS h z (Ea Ec)=Ea ⟨.av [z,.bool Eb],Eb,Ec,h⟩:=rfl
def IH (h:ql)(kd:Kd)(z kv:AVal)(x:Option aJ):Option aK:=match x with
 |some (.map es)=>tS h z (zb kd kv es 0)
 |_=>Ec
@[go_sem] theorem jp3 {h kd z kv es}:IH h kd z kv (Ea (.map es))=tS h z (zb kd kv es 0):=rfl
def Qx (h0:Nat)(al:Option (List Nat))(h:ql)(kd:Kd)(z:AVal)(m k:Option AVal):Option aK:=match m,k with
 |some (.map b),Ea kv=>cj (jm h0 al b) (IH h kd z kv h[b]?)
 |some .bB,Ea _=>Ea ⟨.av [z,.bool Eb],Eb,Ec,h⟩
 |_,_=>Ec
@[go_sem] theorem jik {h0 al h kd z kv b}:Qx h0 al h kd z (Ea (.map b)) (Ea kv)=cj (jm h0 al b) (IH h kd z kv h[b]?):=rfl
@[go_sem] theorem jvz {p xc h0 al e h kd z m k}:qb p xc h0 al e h (.lookup kd z Ek m k)=Qx h0 al h kd z (qg e m) (qg e k):=by
 simp only[qb,zm,Qx]
 cases qg e m with
 |none=>cases qg e k<;>rfl
 |some v=>cases qg e k with
  |none=>cases v<;>rfl
  |some kv=>cases v with
   |map b=>
    simp only[cj,j6,IH,tS]
    cases jm h0 al b with
    |false=>rfl
    |true=>
     simp only[cond_true]
     cases h[b]? with
     |none=>rfl
     |some x=>cases x with
      |map es=>
       simp only[]
       cases zb kd kv es 0 with
       |none=>rfl
       |some r=>cases r<;>rfl
      |_=>rfl
   |_=>rfl
theorem EH {σ δ γ:Type}(n:Nat)(mk:Nat→σ)(f:σ→Option (σ⊕δ))(V:δ→γ)(r:Nat→γ)(dm:∃d,f (mk n)=Ea (.inr d)∧V d=r n)
  (dr:∀i,i<n→(f (mk i)=Ea (.inl (mk (i+1)))∧r i=r (i+1))∨(∃d,f (mk i)=Ea (.inr d)∧V d=r i)):∃d,bq f (mk 0)=Ea d∧V d=r 0:=by
 have key:∀(k i:Nat),i+k=n→∃d,bq f (mk i)=Ea d∧V d=r i:=by
  intro k
  induction k with
  |zero=>
   intro i hi
   have:i=n:=by omega
   subst this
   obtain⟨d,h1,h2⟩:=dm
   exact⟨d,jq h1,h2⟩
  |succ k ih=>
   intro i hi
   rcases dr i (by omega)with⟨h1,h2⟩|⟨d,h1,h2⟩
   ·rw[z6 h1,h2];exact ih (i+1) (by omega)
   ·exact⟨d,jq h1,h2⟩
 exact key n 0 (by omega)
theorem q99 {α δ:Type}(l:List α)(f:Int→Option (Int⊕δ))(q:α→Bool)(V:δ→Bool)(dm:∃d,f (l.length:Int)=Ea (.inr d)∧V d=Ek)
  (dr:∀(i:Nat) x,l[i]?=Ea x→i<l.length→(q x=Ek∧f (i:Int)=Ea (.inl ((i+1:Nat):Int)))∨(q x=Eb∧∃d,f (i:Int)=Ea (.inr d)∧V d=Eb)):∃d,bq f 0=Ea d∧V d=l.all q:=by
 have:=EH l.length (fun i=>(i:Int)) f V (fun i=>(l.drop i).all q) (by rw[E3 (Hz _)];exact dm) (fun i hi=>by
  obtain⟨x,hx⟩:∃x,l[i]?=Ea x:=⟨_,List.getElem?_eq_getElem hi⟩
  simp only[BD hx,List.all_cons]
  rcases dr i x hx hi with⟨h1,h2⟩|⟨h1,h2⟩
  ·rw[h1];exact .inl ⟨h2,rfl⟩
  ·rw[h1];exact .inr h2)
 simpa using this
theorem q80 {α β:Type}(l:List α)(ix:Nat→Int)(f:Option (List β)×Int×Bool→Option ((Option (List β)×Int×Bool)⊕(Option (List β)×Bool×Int)))(h:α→List β)(a0:List β)(I:Nat→List β→Prop)(hI:I 0 a0)
  (dm:∀a,f (yh a,ix l.length,nq a)=Ea (.inr (yh a,nq a,ix l.length)))
  (dr:∀(i:Nat) x a,l[i]?=Ea x→i<l.length→I i a→I (i+1) (a++h x)∧f (yh a,ix i,nq a)=Ea (.inl (yh (a++h x),ix (i+1),nq (a++h x)))):
  bq f (yh a0,ix 0,nq a0)=Ea (yh (a0++l.flatMap h),nq (a0++l.flatMap h),ix l.length):=by
 have key:∀(k i:Nat),i+k=l.length→∀a,I i a→bq f (yh a,ix i,nq a)=Ea (yh (a++(l.drop i).flatMap h),nq (a++(l.drop i).flatMap h),ix l.length):=by
  intro k
  induction k with
  |zero=>
   intro i hi a _
   have:i=l.length:=by omega
   subst this
   rw[E3 (Hz _),List.flatMap_nil,List.append_nil,jq (dm a)]
  |succ k ih=>
   intro i hi a ha
   obtain⟨x,hx⟩:∃x,l[i]?=Ea x:=⟨_,List.getElem?_eq_getElem (by omega)⟩
   obtain⟨h1,h2⟩:=dr i x a hx (by omega) ha
   rw[z6 h2,ih (i+1) (by omega) _ h1,BD hx,List.flatMap_cons,List.append_assoc]
 have:=key l.length 0 (by omega) a0 hI
 rwa [List.drop_zero]at this
theorem q4e {α:Type}{a:List α}{x}(h:a.length<1073741824):cK (yh a) [x]=Ea (yh (a++[x])):=by
 unfold cK
 cases a with
 |nil=>rfl
 |cons y a=>
  have:((yh (y::a)).getD []).length + [x].length≤1073741824:=by simp[yh]at h ⊢;omega
  rw[if_pos this];rfl
theorem jb6 {α γ:Type}{a:List α}{x:α}{k:Option (List α)→Option γ}(h:a.length<1073741824):cond (nq a) (qe (cK (yh a) [x]) k) (cond (yh a).isNone (qe (cK (yh a) [x]) k) Ec)=k (yh (a++[x])):=by
 rw[q4e h]
 cases a<;>rfl
theorem II {α:Type}(a:List α):(yh a).getD []=a:=by cases a<;>rfl
theorem mK {α:Type}{l:List α}{i:Nat}{x:α}(hx:l[i]?=Ea x):jn l (i:Int)=Ea x:=by rw[y4,hx]
theorem tT {α:Type}{l:List α}{i}(h:i<l.length):decide ((i:Int)<(l.length:Int))=Ek:=decide_eq_true (by omega)
theorem rj {n}:decide ((n:Int)<(n:Int))=Eb:=decide_eq_false (by omega)
end Go.Z
namespace Go.Z
open Go Go.Abs Go.W
def jL:List (List UInt8×List UInt8×Int×Nat):=[(BE,[45,45],2,168),(BF,[45],1,169),(BG,[112,45],2,170),(BH,[112,45],3,171),(EI,[112],1,172),(tU,[45,112],1,173),(EJ,[117,108],2,174),(EK,[117,45],2,175),(EL,[117],1,176),(EM,[117,117],1,177),(BI,[108],1,178),(EN,[108],1,179),(BJ,[117],1,180),(IJ,[117],1,181),(BK,[],0,0)]
def fnv (k:Nat):AVal:=bif Nat.beq k 0 then .bN else .fn (.func k) [] []
def sn (x:List UInt8):Option (List UInt8×List UInt8×Int×Nat):=jL.find? fun f=>decide (x=f.1)
def ph (x:List UInt8):List UInt8:=match sn x with
 |some f=>f.2.1
 |none=>[]
def su (x:List UInt8):Int:=match sn x with
 |some f=>f.2.2.1
 |none=>0
def EO (x:List UInt8):AVal:=match sn x with
 |some f=>fnv f.2.2.2
 |none=>.bN
def pi (x:List UInt8):Bool:=(sn x).isSome
theorem q29:qz=jL.map fun f=>(.str f.1,.agg [.str f.2.1,.int .i64 f.2.2.1,fnv f.2.2.2]):=rfl
theorem ZU (x:List UInt8)(h:ql):∀(l:List (List UInt8×List UInt8×Int×Nat)) (n:Nat),zb .str (.str x) (l.map fun f=>(.str f.1,.agg [.str f.2.1,.int .i64 f.2.2.1,fnv f.2.2.2])) n=Ea Ec∧l.find? (fun f=>decide (x=f.1))=Ec∨∃i f,zb .str (.str x) (l.map fun f=>(.str f.1,.agg [.str f.2.1,.int .i64 f.2.2.1,fnv f.2.2.2])) n=Ea (Ea (i,.agg [.str f.2.1,.int .i64 f.2.2.1,fnv f.2.2.2]))∧l.find? (fun f=>decide (x=f.1))=Ea f
 | [],n=>.inl ⟨rfl,rfl⟩
 |f::l,n=>by
  have he:mX .str (.str x) (.str f.1)=Ea (decide (x=f.1)):=by
   show Ea (x == f.1)=_
   by_cases hx:x=f.1<;>simp[hx]
  by_cases hx:x=f.1
  ·refine .inr ⟨n,f,?_,?_⟩
   ·simp only[Gc,zb,he,decide_eq_true hx]
   ·simp[Hy,hx]
  ·rcases ZU x h l (n+1)with⟨h1,h2⟩|⟨i,g,h1,h2⟩
   ·exact .inl ⟨by simp only[Gc,zb,he,hx,decide_false];exact h1,by simp only[Hy,hx,decide_false];exact h2⟩
   ·exact .inr ⟨i,g,by simp only[Gc,zb,he,hx,decide_false];exact h1,by simp only[Hy,hx,decide_false];exact h2⟩
@[go_sem] theorem jyt {h g a b}:qY Eb h (Ea (.fn g a b))=Ea ⟨.ax (.fn g a b),Eb,Ec,h⟩:=rfl
@[go_sem] theorem j4h:pr.maps 101=Ea qz:=rfl
theorem BL {h}(x:List UInt8):tS h (.agg [.str [],.int .i64 0,.bN]) (zb .str (.str x) qz 0)=Ea ⟨.av [.agg [.str (ph x),.int .i64 (su x),EO x],.bool (pi x)],Eb,Ec,h⟩:=by
 rw[q29]
 rcases ZU x h jL 0 with⟨h1,h2⟩|⟨i,f,h1,h2⟩
 ·rw[h1];simp only[tS,ph,su,EO,pi,sn,h2];rfl
 ·rw[h1];simp only[tS,ph,su,EO,pi,sn,h2];rfl
@[go_sem] theorem j3u {x}:qk (EO x)=Ek:=by
 unfold EO
 split
 ·rename_i f _;simp only[fnv];cases Nat.beq f.2.2.2 0<;>rfl
 ·rfl
@[go_sem] theorem jve {h0 al h b}:y8 h0 al Eb 1 h (Ea (.ax (.map b)))=Ea ⟨.map b,Eb,Ec,h⟩:=rfl
end Go.Z
