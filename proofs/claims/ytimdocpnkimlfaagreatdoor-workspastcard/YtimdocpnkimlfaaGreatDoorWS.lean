/- The register of chapter 10 in plain lists. -/
set_option linter.unusedVariables false
set_option linter.unusedSimpArgs false
open List renaming getElem?_eq_some_iff→I,getElem?_eq_getElem→En,mem_of_getElem?→Ga,getElem?_set_ne→Gb,getElem?_set_self→Ge,getElem?_append_left→Gh,mem_append→Gj,mem_cons_of_mem→Gm,getElem?_of_mem→Gn,getElem?_map→Gq,mem_or_eq_of_mem_set→Gr,findIdx?_cons→Gs,mem_cons_self→Gt,getElem_mem→Gz,getElem?_cons_zero→G7,getElem?_cons_succ→G8,mem_singleton→G9,getElem?_append_right→Ha,getLast?_eq_getElem?→Hb,getElem?_dropLast→Hc,mem_map_of_mem→Hd,set_cons_zero→He,set_cons_succ→If,length_append→Ig,getElem?_inj→Jk,cons_append→Jq,length_cons→Jr,all_eq_true→Lg,length_take→Lh,length_filter_le→Nz,take_append_drop→Qw,length_dropLast→Q6,mem_of_mem_take→Q7,mem_cons→Q9,ext_getElem?→Rb,take_add_one→Rf,nodup_cons→Rg,map_cons→Ri,map_set→Rj
open Option renaming some→Gd,bind_some→Gy,isSome_iff_exists→Jp,some_get→Rh
open Int renaming le_refl→Gi,le_trans→Me
open Nat renaming le_refl→Gx,lt_or_ge→Ny,le_trans→Ra
open Ne renaming symm→Ix
namespace Go.W
abbrev Str:=List UInt8
structure bn where
 k:Str
 n:Int
 deriving DecidableEq
structure jc where
 k:Str
 a:Int
 b:Int
 deriving DecidableEq
structure je where
 name:Str
 kind:Str
 count:Int
 left:Int
 held:Bool
 deriving DecidableEq
structure gq where
 aB:List bn
 aA:List jc
 deriving DecidableEq
structure cZ where
 name:Str
 bV:gq
 aH:List gq
 deriving DecidableEq
structure bq where
 name:Str
 product:Str
 version:Int
 uses:List bn
 results:List jc
 partner:Str
 ar:Bool
 ah:Int
 deriving DecidableEq
structure bm where
 day:Int
 au:List je
 ae:List cZ
 units:List bq
 deriving DecidableEq
structure dV where
 number:Int
 kind:Str
 names:List Str
 values:List Int
 text:Str
 deriving DecidableEq
def zy (r:bm)(n:Str):Option Nat:=r.au.findIdx? fun x=>decide (x.name=n)
def zx (r:bm)(n:Str):Option Nat:=r.ae.findIdx? fun x=>decide (x.name=n)
def zu (r:bm)(n:Str):Option Nat:=r.units.findIdx? fun x=>decide (x.name=n)
def kq (r:bm)(n:Str):Option cZ:=(zx r n).bind fun k=>r.ae[k]?
def ol (r:bm)(u:bq):Option Int:=(kq r u.product).map fun p=>(p.aH.length:Int)
def Bh (l:List gq)(v:Int):Option gq:=if 1≤v then l[(v-1).toNat]? else none
def gQ (r:bm)(u:bq):Option gq:=(kq r u.product).bind fun p=>Bh p.aH u.version
def oo (r:bm)(n:Str):Option je:=(zy r n).bind fun k=>r.au[k]?
theorem bJ {α:Type}{p:α→Bool}{l:List α}{k:Nat}(h:l.findIdx? p=Gd k):∃x,l[k]?=Gd x∧p x=true∧k<l.length∧∀j x,j<k→l[j]?=Gd x→p x=false:=by
 induction l generalizing k with
 |nil=>simp at h
 |cons y l ih=>
  rw[Gs]at h
  by_cases hp:p y=true
  ·rw[if_pos hp]at h
   cases h
   exact⟨y,rfl,hp,by simp,fun j x hj=>by omega⟩
  ·rw[if_neg hp]at h
   obtain⟨i,hi,rfl⟩:=Option.map_eq_some_iff.1 h
   obtain⟨x,h1,h2,h3,h4⟩:=ih hi
   refine⟨x,by simpa using h1,h2,by simp;omega,fun j z hj hz=>?_⟩
   cases j with
   |zero=>simp at hz;subst hz;simpa using hp
   |succ j=>exact h4 j z (by omega) (by simpa using hz)
theorem ey {α:Type}{p:α→Bool}{l:List α}:l.findIdx? p=none↔∀x∈l,p x=false:=by
 induction l with
 |nil=>simp
 |cons y l ih=>
  rw[Gs]
  by_cases hp:p y=true
  ·rw[if_pos hp];simp[hp]
  ·rw[if_neg hp]
   have eK:p y=false:=by simpa using hp
   simp[ih,eK]
def kc {α:Type}(same:α→Bool)(x:α)(l:List α):List α:=match l.findIdx? same with
 |some i=>l.set i x
 |none=>l++[x]
def Eg {α:Type}(same:α→Bool)(x:α)(l:List α):List α:=(l.map fun y=>if same y then x else y)++(if l.any same then []else [x])
def z6 {α β:Type}(key:α→β)(l:List α):Prop:=(l.map key).Nodup
theorem qxm {α β:Type}[DecidableEq β]{key:α→β}{k:β}{x:α}:∀ {l:List α},z6 key l→(l.map fun y=>if decide (key y=k)then x else y)=(match l.findIdx? (fun y=>decide (key y=k))with|some i=>l.set i x|none=>l)
 | [],_=>rfl
 |y::l,h=>by
  have hn:=Rg.1 (by simpa[z6]using h:(key y::l.map key).Nodup)
  rw[Gs]
  by_cases hy:key y=k
  ·simp only[Ri,hy,decide_true,if_true]
   have:l.map (fun y=>if decide (key y=k)then x else y)=l:=by
    conv=>rhs;rw[←List.map_id l]
    refine List.map_congr_left fun z hz=>?_
    have:key z≠k:=fun e=>hn.1 (by rw[hy,←e];exact Hd hz)
    simp[this]
   rw[this];rfl
  ·have ih:=qxm (k:=k) (x:=x) (l:=l) hn.2
   simp only[Ri,hy,decide_false,Bool.false_eq_true,if_false]
   rw[ih]
   cases l.findIdx? (fun y=>decide (key y=k))with
   |none=>rfl
   |some i=>rfl
theorem Ec {α:Type}{p:α→Bool}{l:List α}:l.any p=(l.findIdx? p).isSome:=by
 induction l with
 |nil=>rfl
 |cons y l ih=>
  rw[Gs,List.any_cons]
  by_cases hp:p y=true
  ·rw[if_pos hp,hp];rfl
  ·rw[if_neg hp]
   have:p y=false:=by simpa using hp
   rw[this,Bool.false_or,ih]
   cases l.findIdx? p<;>rfl
theorem qzx {α β:Type}[DecidableEq β]{key:α→β}{k:β}{x:α}{l:List α}(h:z6 key l):Eg (fun y=>decide (key y=k)) x l=kc (fun y=>decide (key y=k)) x l:=by
 unfold Eg kc
 rw[qxm h,Ec]
 cases l.findIdx? (fun y=>decide (key y=k))with
 |none=>simp
 |some i=>simp
theorem q0e {α β:Type}[DecidableEq β]{key:α→β}{k:β}{x:α}(hx:key x=k):∀ {l:List α} {i:Nat},z6 key l→l.findIdx? (fun y=>decide (key y=k))=Gd i→z6 key (l.set i x):=by
 intro l i h hi
 obtain⟨y,h1,h2,h3,_⟩:=bJ hi
 have:(l.set i x).map key=l.map key:=by
  rw[Rj]
  apply Rb
  intro j
  by_cases hj:j=i
  ·subst hj
   rw[Ge (by simpa using h3),Gq,h1]
   simp at h2;simp[hx,h2]
  ·rw[Gb (Ix hj)]
 unfold z6;rw[this];exact h
theorem Qd {α β:Type}[DecidableEq β]{key:α→β}{k:β}{x:α}{l:List α}(hx:key x=k)(h:z6 key l):z6 key (kc (fun y=>decide (key y=k)) x l):=by
 unfold kc
 cases hi:l.findIdx? (fun y=>decide (key y=k))with
 |some i=>exact q0e hx h hi
 |none=>
  rw[ey]at hi
  unfold z6 at *
  rw[List.map_append,List.nodup_append]
  refine⟨h,by simp,?_⟩
  intro a ha b hb
  simp at hb
  subst hb
  obtain⟨z,hz,rfl⟩:=List.mem_map.1 ha
  have:=hi z hz
  rw[hx];simpa using this
theorem q4g {α β:Type}{key:α→β}{l:List α}(p:α→Bool)(h:z6 key l):z6 key (l.filter p):=
 List.Nodup.sublist (List.Sublist.map key List.filter_sublist) h
end Go.W
namespace Go.W
def mF:Str:=[108,111,116]
def nv:Str:=[112,114,111,100,117,99,116]
def mG:Str:=[110,101,101,100]
def nw:Str:=[116,101,115,116]
def pN:Str:=[105,115,115,117,101]
def mH:Str:=[98,117,105,108,100]
def mI:Str:=[117,115,101]
def oQ:Str:=[109,101,97,115,117,114,101]
def pO:Str:=[117,112,100,97,116,101]
def nx:Str:=[112,97,105,114]
def oi:Str:=[104,111,108,100]
def rM:Str:=[102,114,101,101]
def iW:Str:=[115,104,105,112]
def yU:Str:=[99,111,109,112,108,97,105,110]
def iX:Str:=[117,110,100,111]
def Eb (wrap:Int→Int)(r:bm)(u:bq)(kind:Str):Int:=u.uses.foldl (fun n x=>if(oo r x.k).any (fun l=>decide (l.kind=kind))then wrap (n+x.n)else n) 0
def rO (u:bq)(t:jc):Bool:=u.results.foldl (fun is x=>if decide (x.k=t.k)&&decide (x.a=u.version)then decide (t.a≤x.b)&&decide (x.b≤t.b)else is) false
def yW (d:gq)(u:bq):List Str:=(d.aA.filter fun t=>!rO u t).map (·.k)
def yY (wrap:Int→Int)(r:bm)(d:gq)(u:bq):Bool:=d.aB.all fun n=>decide (n.n≤Eb wrap r u n.k)
def Bo (r:bm)(u:bq):Bool:=u.uses.any fun x=>(oo r x.k).any (·.held)
def vD (wrap:Int→Int)(r:bm)(u:bq):Int:=
 if u.ar then 21 else if ol r u≠Gd u.version then 32 else
 match gQ r u with
 |none=>20
 |some d=>if !yY wrap r d u then 20 else if !(yW d u).isEmpty then 31 else if Bo r u then 34 else 0
def b6 (r:bm)(i:Nat)(x:je):bm:={ r with au:=r.au.set i x }
def bP (r:bm)(i:Nat)(x:cZ):bm:={ r with ae:=r.ae.set i x }
def ay (r:bm)(i:Nat)(x:bq):bm:={ r with units:=r.units.set i x }
def dj (k:Str)(x:bn):Bool:=decide (x.k=k)
def eT (k:Str)(x:jc):Bool:=decide (x.k=k)
def kr (l:List bn)(k:Str)(n:Int):List bn:=if n=0 then l.filter (fun x=>!dj k x)else kc (dj k) ⟨k,n⟩ l
def jP (wrap:Int→Int)(l:List bn)(k:Str)(n:Int):List bn:=match l.findIdx? (dj k)with
 |some i=>(match l[i]? with
  |some x=>l.set i ⟨k,wrap (n+x.n)⟩
  |none=>l)
 |none=>l++[⟨k,n⟩]
def nm (e:dV)(i:Nat):Str:=(e.names[i]?).getD []
def vl (e:dV)(i:Nat):Int:=(e.values[i]?).getD 0
abbrev pS:=Except Int bm
def lW (r:bm)(e:dV):pS:=
 if e.kind=mF then
  (if(zy r (nm e 0)).isSome then .error 9 else if vl e 1<1∨10000<vl e 1 then .error 3 else if 64≤r.au.length then .error 5 else
   .ok { r with au:=r.au++[⟨nm e 0,nm e 1,vl e 1,vl e 1,false⟩] })
 else if e.kind=nv then
  (if(zx r (nm e 0)).isSome then .error 9 else if 16≤r.ae.length then .error 5 else .ok { r with ae:=r.ae++[⟨nm e 0,⟨[],[]⟩,[]⟩] })
 else match kq r (nm e 1)with
  |none=>.error 10
  |some p=>if(zu r (nm e 0)).isSome then .error 9 else if p.aH.isEmpty then .error 32 else if 256≤r.units.length then .error 5 else
    .ok { r with units:=r.units++[⟨nm e 0,nm e 1,p.aH.length,[],[],[],false,0⟩] }
def kn (r:bm)(e:dV):pS:=match zx r (nm e 0)with
 |none=>.error 10
 |some i=>match r.ae[i]? with
  |none=>.error 10
  |some p=>
   if e.kind=mG then
    (if vl e 1<0∨10000<vl e 1 then .error 3 else if 0<vl e 1∧!(p.bV.aB.any (dj (nm e 1)))∧16≤p.bV.aB.length then .error 5 else
     .ok (bP r i { p with bV:={ p.bV with aB:=kr p.bV.aB (nm e 1) (vl e 1) } }))
   else if e.kind=nw then
    (if vl e 2<vl e 1 then .error 11 else if !(p.bV.aA.any (eT (nm e 1)))∧16≤p.bV.aA.length then .error 5 else
     .ok (bP r i { p with bV:={ p.bV with aA:=kc (eT (nm e 1)) ⟨nm e 1,vl e 1,vl e 2⟩ p.bV.aA } }))
   else(if p.bV.aB.isEmpty then .error 12 else if 100≤p.aH.length then .error 5 else .ok (bP r i { p with aH:=p.aH++[p.bV] }))
def oU (r:bm)(e:dV):pS:=match zy r (nm e 0)with
 |none=>.error 10
 |some i=>match r.au[i]? with
  |none=>.error 10
  |some x=>if e.kind=oi then(if x.held then .error 34 else .ok (b6 r i { x with held:=true }))else(if !x.held then .error 20 else .ok (b6 r i { x with held:=false }))
def pT (wrap:Int→Int)(r:bm)(i:Nat)(u:bq)(e:dV):pS:=match zy r (nm e 1)with
 |none=>.error 10
 |some k=>match r.au[k]? with
  |none=>.error 10
  |some x=>if u.ar then .error 21 else if vl e 1=0 then .error 3 else if x.held then .error 34 else
   if !((gQ r u).any fun d=>d.aB.any (dj x.kind))then .error 7 else if x.left<vl e 1 then .error 4 else
    .ok (ay (b6 r k { x with left:=wrap (x.left-vl e 1) }) i { u with uses:=jP wrap u.uses x.name (vl e 1) })
def pU (r:bm)(i:Nat)(u:bq)(e:dV):pS:=match zu r (nm e 1)with
 |none=>.error 10
 |some k=>match r.units[k]? with
  |none=>.error 10
  |some v=>if i=k then .error 9 else if u.product≠v.product∨u.version≠v.version then .error 30 else if u.ar∨v.ar then .error 21 else
   if u.partner≠[]∨v.partner≠[]then .error 35 else .ok (ay (ay r i { u with partner:=v.name }) k { v with partner:=u.name })
def lX (wrap:Int→Int)(r:bm)(e:dV):pS:=match zu r (nm e 0)with
 |none=>.error 10
 |some i=>match r.units[i]? with
  |none=>.error 10
  |some u=>
   if e.kind=mI then pT wrap r i u e
   else if e.kind=nx then pU r i u e
   else if e.kind=oQ then
    (if u.ar then .error 21 else if !((gQ r u).any fun d=>d.aA.any (eT (nm e 1)))then .error 7 else if 64≤u.results.length then .error 5 else
     .ok (ay r i { u with results:=u.results++[⟨nm e 1,u.version,vl e 1⟩] }))
   else if e.kind=pO then
    (if u.ar then .error 21 else match ol r u with
     |none=>.error 32
     |some v=>if u.version=v then .error 32 else .ok (ay r i { u with version:=v }))
   else if e.kind=iW then(if vD wrap r u≠0 then .error (vD wrap r u)else .ok (ay r i { u with ar:=true }))
   else(if !u.ar then .error 20 else .ok (ay r i { u with ah:=wrap (u.ah+1) }))
def apply (wrap:Int→Int)(r:bm)(e:dV):pS:=
 if e.kind=mF∨e.kind=nv∨e.kind=mH then lW r e
 else if e.kind=mG∨e.kind=nw∨e.kind=pN then kn r e
 else if e.kind=oi∨e.kind=rM then oU r e
 else lX wrap r e
def after (wrap:Int→Int)(r:bm)(e:dV):pS:=if vl e 0<r.day then .error 20 else match apply wrap r e with
 | .error x=>.error x
 | .ok r'=>.ok { r' with day:=vl e 0 }
structure WF (r:bm):Prop where
 aB:∀p∈r.ae,z6 (·.k) p.bV.aB∧p.bV.aB.length≤16
 aA:∀p∈r.ae,z6 (·.k) p.bV.aA∧p.bV.aA.length≤16
 ef:∀u∈r.units,(gQ r u).isSome
 uses:∀u∈r.units,z6 (·.k) u.uses∧∀x∈u.uses,(zy r x.k).isSome
theorem WF.empty (d:Int):WF ⟨d,[],[],[]⟩:=⟨by simp,by simp,by simp,by simp⟩
theorem findIdx?_append {α:Type}{p:α→Bool}{l m:List α}{k:Nat}(h:l.findIdx? p=Gd k):(l++m).findIdx? p=Gd k:=by
 rw[List.findIdx?_append,h];rfl
theorem gA {α:Type}{p:α→Bool}{l:List α}{i:Nat}{x y:α}(hy:l[i]?=Gd y)(pW:p x=p y):(l.set i x).findIdx? p=l.findIdx? p:=by
 induction l generalizing i with
 |nil=>rfl
 |cons z l ih=>
  cases i with
  |zero=>
   simp at hy;subst hy
   rw[He,Gs,Gs,pW]
  |succ i=>
   rw[If,Gs,Gs,ih (by simpa using hy)]
theorem qln {r r':bm}{u:bq}(h:∀n p,kq r n=Gd p→∃p',kq r' n=Gd p'∧∃m,p'.aH=p.aH++m)(hp:(gQ r u).isSome):(gQ r' u).isSome:=by
 unfold gQ at *
 cases hq:kq r u.product with
 |none=>rw[hq]at hp;simp at hp
 |some p=>
  rw[hq]at hp
  obtain⟨p',h1,m,h2⟩:=h _ _ hq
  rw[h1]
  simp only[Gy,Bh]at hp ⊢
  split at hp
  ·rename_i hv
   rw[if_pos hv,h2]
   have bw:=(I.1 (Rh hp).symm).1
   rw[Gh bw];exact hp
  ·simp at hp
theorem q6q {r r':bm}(h:r'.ae=r.ae)(n:Str):kq r' n=kq r n:=by unfold kq zx;rw[h]
theorem jcq {r r':bm}(h:r'.ae=r.ae)(u:bq):gQ r' u=gQ r u:=by unfold gQ;rw[q6q h]
theorem CA {r r':bm}{u:bq}(hp:(gQ r u).isSome)(h:r'.ae=r.ae:=by rfl):(gQ r' u).isSome:=by rw[jcq h];exact hp
theorem ja7 {r:bm}{i:Nat}{p p':cZ}(hp:r.ae[i]?=Gd p)(hn:p'.name=p.name)(hd:∃m,p'.aH=p.aH++m)(n:Str)(q:cZ)(hq:kq r n=Gd q):∃q',kq (bP r i p') n=Gd q'∧∃m,q'.aH=q.aH++m:=by
 unfold kq zx at *
 simp only[bP]
 rw[gA hp (by simp[hn])]
 cases hk:r.ae.findIdx? (fun x=>decide (x.name=n))with
 |none=>rw[hk]at hq;simp at hq
 |some k=>
  rw[hk]at hq
  simp only[Gy]at hq ⊢
  have bw:=(I.1 hp).1
  by_cases A3:k=i
  ·subst A3
   rw[hp]at hq;cases hq
   exact⟨p',by rw[Ge bw],hd⟩
  ·exact⟨q,by rw[Gb (Ix A3)];exact hq,[],by simp⟩
theorem zO {α:Type}{l:List α}{i:Nat}{x y:α}(h:y∈l.set i x):y∈l∨y=x:=Gr h
theorem q3o {wrap:Int→Int}{l:List bn}{k:Str}{n:Int}(h:z6 (·.k) l):z6 (·.k) (jP wrap l k n):=by
 unfold jP
 cases hi:l.findIdx? (dj k)with
 |none=>
  have:=Qd (key:=fun x:bn=>x.k) (k:=k) (x:=⟨k,n⟩) rfl h
  unfold kc at this
  rw[show l.findIdx? (fun y=>decide (y.k=k))=none from hi]at this
  exact this
 |some i=>
  obtain⟨x,h1,_⟩:=bJ hi
  simp only[h1]
  exact q0e rfl h hi
theorem jb6 {wrap:Int→Int}{l:List bn}{k:Str}{n:Int}{x:bn}(h:x∈jP wrap l k n):x.k=k∨x∈l:=by
 unfold jP at h
 split at h
 ·split at h
  ·rcases zO h with h|rfl
   ·exact .inr h
   ·exact .inl rfl
  ·exact .inr h
 ·rcases Gj.1 h with h|h
  ·exact .inr h
  ·simp at h;subst h;exact .inl rfl
theorem qzq {r:bm}{i:Nat}{x y:je}(hx:r.au[i]?=Gd x)(hn:y.name=x.name)(n:Str):zy (b6 r i y) n=zy r n:=by
 unfold zy b6;exact gA hx (by simp[hn])
theorem WF.ay {r:bm}(w:WF r){i:Nat}{u u':bq}(hu:r.units[i]?=Gd u)(hp:(gQ r u').isSome)(hk:z6 (·.k) u'.uses∧∀x∈u'.uses,(zy r x.k).isSome):WF (ay r i u'):=by
 refine⟨w.aB,w.aA,?_,?_⟩
 ·intro v hv
  refine CA (r:=r) ?_
  rcases zO hv with hv|rfl
  ·exact w.ef v hv
  ·exact hp
 ·intro v hv
  rcases zO hv with hv|rfl
  ·exact w.uses v hv
  ·exact hk
theorem WF.b6 {r:bm}(w:WF r){i:Nat}{x y:je}(hx:r.au[i]?=Gd x)(hn:y.name=x.name):WF (b6 r i y):=
 ⟨w.aB,w.aA,fun u hu=>CA (w.ef u hu),fun u hu=>⟨(w.uses u hu).1,fun z hz=>by rw[qzq hx hn];exact(w.uses u hu).2 z hz⟩⟩
theorem WF.bP {r:bm}(w:WF r){i:Nat}{p p':cZ}(hp:r.ae[i]?=Gd p)(hn:p'.name=p.name)(hd:∃m,p'.aH=p.aH++m)(h1:z6 (·.k) p'.bV.aB∧p'.bV.aB.length≤16)(h2:z6 (·.k) p'.bV.aA∧p'.bV.aA.length≤16):WF (bP r i p'):=by
 refine⟨?_,?_,?_,?_⟩
 ·intro q hq
  rcases zO hq with hq|rfl
  ·exact w.aB q hq
  ·exact h1
 ·intro q hq
  rcases zO hq with hq|rfl
  ·exact w.aA q hq
  ·exact h2
 ·intro u hu
  exact qln (fun n q hq=>ja7 hp hn hd n q hq) (w.ef u hu)
 ·exact w.uses
theorem qwe {α:Type}{p:α→Bool}{x:α}{l:List α}(h:l.length≤16)(h2:¬(!(l.any p)∧16≤l.length)):(kc p x l).length≤16:=by
 unfold kc
 cases hi:l.findIdx? p with
 |some i=>simpa using h
 |none=>
  have:l.any p=false:=by rw[Ec,hi];rfl
  simp[this]at h2
  simp;omega
theorem q87 {l:List bn}{k:Str}{n:Int}(h:z6 (·.k) l∧l.length≤16)(h0:0≤n)(h2:¬(0<n∧!(l.any (dj k))∧16≤l.length)):z6 (·.k) (kr l k n)∧(kr l k n).length≤16:=by
 unfold kr
 by_cases hn:n=0
 ·rw[if_pos hn]
  exact⟨q4g _ h.1,Ra (Nz _ _) h.2⟩
 ·rw[if_neg hn]
  refine⟨Qd (key:=fun x:bn=>x.k) rfl h.1,qwe h.2 fun hh=>h2 ⟨by omega,hh.1,hh.2⟩⟩
theorem jlu {wrap:Int→Int}{r r':bm}{e:dV}(w:WF r)(h:after wrap r e=.ok r'):WF r':=by
 unfold after at h
 split at h
 ·cases h
 split at h
 ·cases h
 rename_i r1 ha
 cases h
 suffices hw:WF r1 from⟨hw.aB,hw.aA,fun u hu=>CA (hw.ef u hu),hw.uses⟩
 unfold apply at ha
 split at ha
 ·-- a new thing
  unfold lW at ha
  split at ha
  ·repeat' split at ha
   all_goals first|(cases ha;done)|skip
   cases ha
   exact⟨w.aB,w.aA,fun u hu=>CA (w.ef u hu),fun u hu=>⟨(w.uses u hu).1,fun x hx=>by
    have:=(w.uses u hu).2 x hx
    unfold zy at *
    obtain⟨k,hk⟩:=Jp.1 this
    rw[findIdx?_append hk];rfl⟩⟩
  split at ha
  ·repeat' split at ha
   all_goals first|(cases ha;done)|skip
   cases ha
   refine⟨?_,?_,?_,w.uses⟩
   ·intro p hp
    rcases Gj.1 hp with hp|hp
    ·exact w.aB p hp
    ·simp at hp;subst hp;exact⟨by simp[z6],by simp⟩
   ·intro p hp
    rcases Gj.1 hp with hp|hp
    ·exact w.aA p hp
    ·simp at hp;subst hp;exact⟨by simp[z6],by simp⟩
   ·intro u hu
    refine qln (fun n p hp=>⟨p,?_,[],by simp⟩) (w.ef u hu)
    unfold kq zx at *
    cases hk:r.ae.findIdx? (fun x=>decide (x.name=n))with
    |none=>rw[hk]at hp;simp at hp
    |some k=>
     rw[hk]at hp
     rw[findIdx?_append hk]
     simp only[Gy]at hp ⊢
     rw[Gh (I.1 hp).1];exact hp
  ·split at ha
   ·cases ha
   rename_i p hp
   repeat' split at ha
   all_goals first|(cases ha;done)|skip
   rename_i bI _
   cases ha
   refine⟨w.aB,w.aA,?_,?_⟩
   ·intro u hu
    refine CA (r:=r) ?_
    rcases Gj.1 hu with hu|hu
    ·exact w.ef u hu
    ·simp at hu;subst hu
     unfold gQ
     simp only[hp,Gy,Bh]
     have:0<p.aH.length:=by
      cases hd:p.aH with
      |nil=>rw[hd]at bI;simp at bI
      |cons _ _=>simp
     rw[if_pos (by omega),En (by omega)];rfl
   ·intro u hu
    rcases Gj.1 hu with hu|hu
    ·exact w.uses u hu
    ·simp at hu;subst hu;exact⟨by simp[z6],by simp⟩
 split at ha
 ·-- a product
  unfold kn at ha
  split at ha
  ·cases ha
  split at ha
  ·cases ha
  rename_i i hi p hp
  have dx:=Ga hp
  split at ha
  ·repeat' split at ha
   all_goals first|(cases ha;done)|skip
   rename_i hr h2
   cases ha
   exact w.bP hp rfl ⟨[],by simp⟩ (q87 (w.aB p dx) (by omega) h2) (w.aA p dx)
  split at ha
  ·repeat' split at ha
   all_goals first|(cases ha;done)|skip
   rename_i hr h2
   cases ha
   exact w.bP hp rfl ⟨[],by simp⟩ (w.aB p dx) ⟨Qd (key:=fun x:jc=>x.k) rfl (w.aA p dx).1,qwe (w.aA p dx).2 h2⟩
  ·repeat' split at ha
   all_goals first|(cases ha;done)|skip
   cases ha
   exact w.bP hp rfl ⟨_,rfl⟩ (w.aB p dx) (w.aA p dx)
 split at ha
 ·-- a lot
  unfold oU at ha
  split at ha
  ·cases ha
  split at ha
  ·cases ha
  rename_i i hi x hx
  repeat' split at ha
  all_goals first|(cases ha;done)|(cases ha;exact w.b6 hx rfl)
 ·-- a unit
  unfold lX at ha
  split at ha
  ·cases ha
  split at ha
  ·cases ha
  rename_i i hi u hu
  have dx:=Ga hu
  have uL:=w.ef u dx
  split at ha
  ·unfold pT at ha
   split at ha
   ·cases ha
   split at ha
   ·cases ha
   rename_i _ k hk _ x hx
   repeat' split at ha
   all_goals first|(cases ha;done)|skip
   cases ha
   refine(w.b6 (y:={ x with left:=wrap (x.left-vl e 1) }) hx rfl).ay (u':={ u with uses:=jP wrap u.uses x.name (vl e 1) }) hu (CA (r:=r) uL) ⟨q3o (w.uses u dx).1,fun z hz=>?_⟩
   rw[qzq (y:={ x with left:=wrap (x.left-vl e 1) }) hx rfl]
   rcases jb6 hz with hz|hz
   ·obtain⟨y,h1,h2,_⟩:=bJ hk
    rw[hx]at h1;cases h1
    simp at h2
    rw[hz,h2,hk];rfl
   ·exact(w.uses u dx).2 z hz
  split at ha
  ·unfold pU at ha
   split at ha
   ·cases ha
   split at ha
   ·cases ha
   rename_i k hk v hv
   have CC:=Ga hv
   split at ha
   ·cases ha
   rename_i oN
   repeat' split at ha
   all_goals first|(cases ha;done)|skip
   cases ha
   exact(w.ay (u':={ u with partner:=v.name }) hu uL (w.uses u dx)).ay (u':={ v with partner:=u.name }) (by simp only[ay];rw[Gb oN];exact hv) (CA (r:=r) (w.ef v CC)) (w.uses v CC)
  split at ha
  ·repeat' split at ha
   all_goals first|(cases ha;done)|skip
   cases ha
   exact w.ay hu uL (w.uses u dx)
  split at ha
  ·split at ha
   ·cases ha
   split at ha
   ·cases ha
   rename_i v hv
   split at ha
   ·cases ha
   cases ha
   refine w.ay hu ?_ (w.uses u dx)
   unfold gQ ol at *
   cases hq:kq r u.product with
   |none=>rw[hq]at hv;simp at hv
   |some p=>
    rw[hq]at hv uL
    simp only[Option.map_some,Gd.injEq,Gy]at hv uL ⊢
    subst hv
    unfold Bh at uL ⊢
    split at uL
    ·have bw:=(I.1 (Rh uL).symm).1
     rw[if_pos (by omega),En (by omega)];rfl
    ·simp at uL
  split at ha
  ·split at ha
   ·cases ha
   cases ha
   exact w.ay hu uL (w.uses u dx)
  ·split at ha
   ·cases ha
   cases ha
   exact w.ay hu uL (w.uses u dx)
end Go.W
namespace Go.W
def cP:List (Str×Nat×Nat):=[(mF,2,2),(nv,1,1),(mG,2,2),(nw,2,3),(pN,1,1),(mH,2,1),(mI,2,2),(oQ,2,2),(pO,1,1),(nx,2,1),(oi,1,1),(rM,1,1),(iW,1,1),(yU,1,1),(iX,0,0)]
def yt (k:Str):Option (Nat×Nat):=(cP.find? fun x=>decide (x.1=k)).map (·.2)
def vJ (c:UInt8):Bool:=(decide (65≤c.toNat)&&decide (c.toNat≤90))||(decide (97≤c.toNat)&&decide (c.toNat≤122))
def Ew (c:UInt8):Bool:=(decide (48≤c.toNat)&&decide (c.toNat≤57))||decide (c.toNat=95)
def dr (s:Str):Bool:=match s with
 | []=>false
 |c::t=>vJ c&&t.all (fun c=>vJ c||Ew c)&&decide (s.length≤24)
def zb (e:dV):Int:=
 if e.number<1∨1000<e.number then 3 else match yt e.kind with
 |none=>13
 |some f=>if e.names.length≠f.1∨e.values.length≠f.2 then 2 else if !(e.names.all dr)then 8 else if !(e.values.all fun n=>decide (0≤n)&&decide (n≤999999999))then 3 else if e.text≠[]then 1 else 0
abbrev yp:=List dV×List bm
def yz:bm:=⟨0,[],[],[]⟩
def now (h:yp):bm:=h.2.getLast?.getD yz
def accept (wrap:Int→Int)(h:yp)(k:Int)(e:dV):Except Int yp:=
 if e.number≠k then .error 11 else
 if e.kind=iX then(match h.1.getLast? with
  |none=>.error 12
  |some c=>if c.kind=iW then .error 19 else .ok (h.1.dropLast,h.2.dropLast))
 else match after wrap (now h) e with
  | .error x=>.error x
  | .ok r=>.ok (h.1++[e],h.2++[r])
def yo (wrap:Int→Int):Nat→yp→List dV→Except (Int×Int) yp
 |_,h,[]=>.ok h
 |i,h,e::l=>if zb e≠0 then .error ((i:Int)+1,zb e)else match accept wrap h ((i:Int)+1) e with
  | .error x=>.error ((i:Int)+1,x)
  | .ok h'=>yo wrap (i+1) h' l
def run (wrap:Int→Int)(l:List dV):Except (Int×Int) yp:=if 1000<l.length then .error (0,5)else yo wrap 0 ([],[yz]) l
theorem YC (wrap:Int→Int):∀(l m:List dV) (i:Nat) (h:yp),yo wrap i h (l++m)=match yo wrap i h l with
  | .error x=>.error x
  | .ok h'=>yo wrap (i+l.length) h' m
 | [],m,i,h=>by simp[yo]
 |e::l,m,i,h=>by
  simp only[Jq,yo]
  split
  ·rfl
  cases accept wrap h ((i:Int)+1) e with
  |error x=>rfl
  |ok h'=>simp only[];rw[YC wrap l m (i+1) h',Jr,show i+1+l.length=i+(l.length+1) by omega]
structure dD (wrap:Int→Int)(h:yp):Prop where
 len:h.2.length=h.1.length+1
 first:h.2[0]?=Gd yz
 next:∀j e r,h.1[j]?=Gd e→h.2[j]?=Gd r→∃r',h.2[j+1]?=Gd r'∧after wrap r e=.ok r'
 kinds:∀e∈h.1,zb e=0∧e.kind≠iX
theorem dD.empty {wrap:Int→Int}:dD wrap ([],[yz]):=⟨rfl,rfl,fun j e r h=>by simp at h,by simp⟩
theorem dD.now {wrap:Int→Int}{h:yp}(k:dD wrap h):h.2[h.1.length]?=Gd (Go.W.now h):=by
 unfold Go.W.now
 have hl:=k.len
 rw[Hb,hl]
 have:h.1.length<h.2.length:=by omega
 simp[En this]
theorem dD.accept {wrap:Int→Int}{h h':yp}{k:Int}{e:dV}(o:dD wrap h)(hc:zb e=0)(ha:accept wrap h k e=.ok h'):dD wrap h':=by
 unfold Go.W.accept at ha
 split at ha
 ·cases ha
 split at ha
 ·split at ha
  ·cases ha
  ·rename_i c hc
   split at ha
   ·cases ha
   cases ha
   have gN:0<h.1.length:=by
    cases hh:h.1 with
    |nil=>rw[hh]at hc;simp at hc
    |cons _ _=>simp
   have hl:=o.len
   refine⟨by simp only[Q6];omega,?_,?_,?_⟩
   ·rw[Hc,if_pos (by omega)];exact o.first
   ·intro j e' r h1 h2
    simp only[Hc]at h1 h2 ⊢
    split at h1
    ·rename_i hj
     rw[if_pos (by omega)]at h2
     rw[if_pos (by omega)]
     exact o.next j e' r h1 h2
    ·cases h1
   ·intro e' he
    exact o.kinds e' (Q7 (by rwa [List.dropLast_eq_take]at he))
 ·rename_i hnu
  split at ha
  ·cases ha
  ·rename_i r hr
   cases ha
   have hl:=o.len
   refine⟨by simp only[Ig,Jr,List.length_nil];omega,?_,?_,?_⟩
   ·rw[Gh (by omega)];exact o.first
   ·intro j e' q h1 h2
    by_cases hj:j<h.1.length
    ·rw[Gh hj]at h1
     rw[Gh (by omega)]at h2
     obtain⟨r',k1,k2⟩:=o.next j e' q h1 h2
     exact⟨r',by rw[Gh (by have:=(I.1 k1).1;omega)];exact k1,k2⟩
    ·have hj':j=h.1.length:=by have:=(I.1 h1).1;simp at this;omega
     subst hj'
     rw[Ha (Gx _)]at h1
     simp at h1;subst h1
     rw[Gh (by omega),o.now]at h2
     cases h2
     exact⟨r,by rw[Ha (by omega)];simp[hl],hr⟩
   ·intro e' he
    rcases Gj.1 he with he|he
    ·exact o.kinds e' he
    ·simp at he;subst he;exact⟨hc,hnu⟩
theorem qv0 {wrap:Int→Int}:∀ {l:List dV} {i:Nat} {h h':yp},dD wrap h→yo wrap i h l=.ok h'→dD wrap h'
 | [],i,h,h',o,hr=>by simp only[yo]at hr;cases hr;exact o
 |e::l,i,h,h',o,hr=>by
  simp only[yo]at hr
  split at hr
  ·cases hr
  rename_i hc
  split at hr
  ·cases hr
  ·rename_i h1 ha
   exact qv0 (o.accept (by simpa using hc) ha) hr
theorem jdi {wrap:Int→Int}{l:List dV}{h:yp}(hr:run wrap l=.ok h):dD wrap h:=by
 unfold run at hr
 split at hr
 ·cases hr
 ·exact qv0 dD.empty hr
theorem dD.wf {wrap:Int→Int}{h:yp}(o:dD wrap h):∀(j:Nat) (r:bm),h.2[j]?=Gd r→WF r
 |0,r,hr=>by rw[o.first]at hr;cases hr;exact WF.empty 0
 |j+1,r,hr=>by
  have bw:=(I.1 hr).1
  have hl:=o.len
  have h1:j<h.1.length:=by omega
  obtain⟨r',k1,k2⟩:=o.next j _ _ (En h1) (En (by omega:j<h.2.length))
  rw[k1]at hr;cases hr
  exact jlu (dD.wf o j _ (En (by omega))) k2
theorem dD.rW {wrap:Int→Int}{h:yp}(o:dD wrap h):WF (Go.W.now h):=o.wf _ _ o.now
theorem XU {wrap:Int→Int}{r r':bm}{e:dV}(h:after wrap r e=.ok r'):r'.day=vl e 0∧r.day≤vl e 0:=by
 unfold after at h
 split at h
 ·cases h
 rename_i hd
 split at h
 ·cases h
 ·cases h;exact⟨rfl,by omega⟩
theorem dD.days {wrap:Int→Int}{h:yp}(o:dD wrap h):∀(j:Nat) (e f:dV),h.1[j]?=Gd e→h.1[j+1]?=Gd f→vl e 0≤vl f 0:=by
 intro j e f he hf
 have hl:=o.len
 have h1:=(I.1 hf).1
 obtain⟨r1,k1,k2⟩:=o.next j _ _ he (En (by omega:j<h.2.length))
 obtain⟨r2,k3,k4⟩:=o.next (j+1) _ _ hf k1
 rw[←(XU k2).1];exact(XU k4).2
theorem dD.gw {wrap:Int→Int}{h:yp}(o:dD wrap h)(i:Nat)(e:dV)(he:h.1[i]?=Gd e):∀(d:Nat) (f:dV),h.1[i+d]?=Gd f→vl e 0≤vl f 0
 |0,f,hf=>by rw[Nat.add_zero,he]at hf;cases hf;exact Gi _
 |d+1,f,hf=>by
  have h1:=(I.1 hf).1
  have h2:=dD.gw o i e he d _ (En (by omega:i+d<h.1.length))
  exact Me h2 (o.days (i+d) _ _ (En (by omega)) hf)
theorem Uq {α:Type}{p:α→Bool}:∀ {l:List α},(∀(i j:Nat) (x y:α),i≤j→l[i]?=Gd x→l[j]?=Gd y→p y=true→p x=true)→l.filter p=l.take (l.filter p).length
 | [],_=>rfl
 |x::l,h=>by
  by_cases hx:p x=true
  ·rw[List.filter_cons_of_pos hx,Jr,List.take_succ_cons]
   congr 1
   exact Uq fun i j a b n6 ha hb hp=>h (i+1) (j+1) a b (by omega) (by simpa using ha) (by simpa using hb) hp
  ·have hn:l.filter p=[]:=by
    rw[List.filter_eq_nil_iff]
    intro y hy hp
    obtain⟨j,hj⟩:=Gn hy
    exact hx (h 0 (j+1) x y (by omega) rfl (by simpa using hj) hp)
   rw[List.filter_cons_of_neg hx,hn];rfl
def IH (wrap:Int→Int)(day:Int)(l:List dV):bm:=(l.filter fun e=>decide (vl e 0≤day)).foldl (fun r e=>match after wrap r e with
 | .ok r'=>r'
 | .error _=>r) yz
theorem dD.l8 {wrap:Int→Int}{h:yp}(o:dD wrap h):∀(n:Nat),n≤h.1.length→h.2[n]?=Gd ((h.1.take n).foldl (fun r e=>match after wrap r e with
 | .ok r'=>r'
 | .error _=>r) yz)
 |0,_=>by simpa using o.first
 |n+1,hn=>by
  have ih:=dD.l8 o n (by omega)
  obtain⟨r',k1,k2⟩:=o.next n _ _ (En (by omega)) ih
  rw[k1,Rf,En (by omega:n<h.1.length)]
  simp only[Option.toList_some,List.foldl_append,List.foldl_cons,List.foldl_nil]
  rw[k2]
theorem dD.oZ {wrap:Int→Int}{h:yp}(o:dD wrap h)(day:Int):h.2[(h.1.filter fun e=>decide (vl e 0≤day)).length]?=Gd (IH wrap day h.1):=by
 have hp:=Uq (p:=fun e=>decide (vl e 0≤day)) (l:=h.1) (fun i j x y n6 hx hy hp=>by
  have h1:=o.gw i x hx (j-i) y (by rw[show i+(j-i)=j by omega];exact hy)
  simp at hp ⊢;omega)
 have:=o.l8 (h.1.filter fun e=>decide (vl e 0≤day)).length (Nz _ _)
 rw[←hp]at this
 exact this
end Go.W
namespace Go.W
structure iC (r:bm):Prop where
 units:z6 (·.name) r.units
 named:∀u∈r.units,u.name≠[]
 jD:∀u∈r.units,u.partner≠[]→∃v∈r.units,v.name=u.partner∧v.partner=u.name
 au:z6 (·.name) r.au
 eM:z6 (·.name) r.ae
 kinds:∀u∈r.units,∀v∈r.units,v.name=u.partner→v.product=u.product
theorem iC.empty (d:Int):iC ⟨d,[],[],[]⟩:=⟨by simp[z6],by simp,by simp,by simp[z6],by simp[z6],by simp⟩
theorem YD {α β:Type}[DecidableEq β]{key:α→β}{l:List α}{x:α}(h:z6 key l)(hn:l.findIdx? (fun y=>decide (key y=key x))=none):z6 key (l++[x]):=by
 have:=Qd (x:=x) rfl h
 unfold kc at this
 rw[hn]at this
 exact this
theorem q38 {α β:Type}{key:α→β}{l:List α}{i:Nat}{x y:α}(hy:l[i]?=Gd y)(hk:key x=key y):(l.set i x).map key=l.map key:=by
 rw[Rj]
 apply Rb
 intro j
 by_cases hj:j=i
 ·subst hj
  have bw:=(I.1 hy).1
  rw[Ge (by simpa using bw),Gq,hy,hk];rfl
 ·rw[Gb (Ix hj)]
theorem Fc {α β:Type}{key:α→β}{l:List α}{i:Nat}{x y:α}(h:z6 key l)(hy:l[i]?=Gd y)(hk:key x=key y):z6 key (l.set i x):=by
 unfold z6 at *;rw[q38 hy hk];exact h
theorem iC.ay {r:bm}(w:iC r){i:Nat}{u u':bq}(hu:r.units[i]?=Gd u)(h1:u'.name=u.name)(h2:u'.partner=u.partner)(h3:u'.product=u.product):iC (ay r i u'):=by
 have hm:=Ga hu
 have bw:=(I.1 hu).1
 -- each unit of the new list stands for one of the old with the same name,partner and product
 have old:∀v∈(Go.W.ay r i u').units,∃v0∈r.units,v0.name=v.name∧v0.partner=v.partner∧v0.product=v.product:=by
  intro v hv
  rcases zO hv with hv|rfl
  ·exact⟨v,hv,rfl,rfl,rfl⟩
  ·exact⟨u,hm,h1.symm,h2.symm,h3.symm⟩
 have new:∀v∈r.units,∃v1∈(Go.W.ay r i u').units,v1.name=v.name∧v1.partner=v.partner:=by
  intro v hv
  obtain⟨j,hj⟩:=Gn hv
  by_cases pD:j=i
  ·subst pD
   rw[hu]at hj;cases hj
   exact⟨u',Ga (i:=j) (by simp only[Go.W.ay];rw[Ge bw]),h1,h2⟩
  ·exact⟨v,Ga (i:=j) (by simp only[Go.W.ay];rw[Gb (Ix pD)];exact hj),rfl,rfl⟩
 refine⟨Fc w.units hu h1,?_,?_,w.au,w.eM,?_⟩
 ·intro v hv
  obtain⟨v0,k0,k1,_⟩:=old v hv
  rw[←k1];exact w.named v0 k0
 ·intro v hv hp
  obtain⟨v0,k0,k1,k2,_⟩:=old v hv
  obtain⟨z,z0,z1,z2⟩:=w.jD v0 k0 (by rw[k2];exact hp)
  obtain⟨z',y0,y1,y2⟩:=new z z0
  exact⟨z',y0,by rw[y1,z1,k2],by rw[y2,z2,k1]⟩
 ·intro v hv z hz hn
  obtain⟨v0,k0,k1,k2,k3⟩:=old v hv
  obtain⟨z0,j0,j1,j2,JN⟩:=old z hz
  rw[←JN,←k3]
  exact w.kinds v0 k0 z0 j0 (by rw[j1,k2];exact hn)
theorem iC.eh {r:bm}(w:iC r){ls:List je}(h:z6 (·.name) ls):iC { r with au:=ls }:=⟨w.units,w.named,w.jD,h,w.eM,w.kinds⟩
theorem iC.dL {r:bm}(w:iC r){ps:List cZ}(h:z6 (·.name) ps):iC { r with ae:=ps }:=⟨w.units,w.named,w.jD,w.au,h,w.kinds⟩
theorem YE {α β:Type}{key:α→β}{l:List α}(h:z6 key l){x y:α}(hx:x∈l)(hy:y∈l)(he:key x=key y):x=y:=by
 induction l with
 |nil=>cases hx
 |cons z l ih=>
  have hn:=Rg.1 (by simpa[z6]using h:(key z::l.map key).Nodup)
  rcases Q9.1 hx with rfl|fp
  ·rcases Q9.1 hy with rfl|qR
   ·rfl
   ·exact absurd (by rw[he];exact Hd qR) hn.1
  ·rcases Q9.1 hy with rfl|qR
   ·exact absurd (by rw[←he];exact Hd fp) hn.1
   ·exact ih hn.2 fp qR
theorem jc5 {wrap:Int→Int}{r r':bm}{e:dV}(w:iC r)(hc:e.names.all (fun s=>!s.isEmpty)=true)(hb:e.kind=mH→0<e.names.length)(h:after wrap r e=.ok r'):iC r':=by
 unfold after at h
 split at h
 ·cases h
 split at h
 ·cases h
 rename_i r1 ha
 cases h
 suffices hw:iC r1 from⟨hw.units,hw.named,hw.jD,hw.au,hw.eM,hw.kinds⟩
 unfold apply at ha
 split at ha
 ·rename_i hk3
  unfold lW at ha
  split at ha
  ·repeat' split at ha
   all_goals first|(cases ha;done)|skip
   rename_i hn _ _
   cases ha
   refine w.eh (YD w.au ?_)
   simpa[zy]using hn
  split at ha
  ·repeat' split at ha
   all_goals first|(cases ha;done)|skip
   rename_i hn _
   cases ha
   refine w.dL (YD w.eM ?_)
   simpa[zx]using hn
  ·rename_i gf dA
   have kI:e.kind=mH:=by rcases hk3 with h|h|h<;>first|exact absurd h gf|exact absurd h dA|exact h
   split at ha
   ·cases ha
   rename_i p hp
   repeat' split at ha
   all_goals first|(cases ha;done)|skip
   rename_i hn _ _
   cases ha
   have jE:r.units.findIdx? (fun x=>decide (x.name=nm e 0))=none:=by simpa[zu]using hn
   have dh:∀v∈r.units,v.name≠nm e 0:=fun v hv=>by
    have:=(ey.1 jE) v hv
    simpa using this
   have bI:nm e 0≠[]:=by
    have hl:=hb kI
    unfold nm
    rw[En hl]
    have:=Lg.1 hc _ (Gz hl)
    simpa using this
   refine⟨YD w.units jE,?_,?_,w.au,w.eM,?_⟩
   ·intro v hv
    rcases Gj.1 hv with hv|hv
    ·exact w.named v hv
    ·simp at hv;subst hv;exact bI
   ·intro v hv eK
    rcases Gj.1 hv with hv|hv
    ·obtain⟨z,z0,z1⟩:=w.jD v hv eK
     exact⟨z,List.mem_append_left _ z0,z1⟩
    ·simp at hv;subst hv;simp at eK
   ·intro v hv z hz Fe
    rcases Gj.1 hv with hv|hv
    ·rcases Gj.1 hz with hz|hz
     ·exact w.kinds v hv z hz Fe
     ·simp at hz;subst hz
      -- the partner of an older unit is an older unit
      by_cases Ik:v.partner=[]
      ·rw[Ik]at Fe;exact absurd Fe bI
      ·obtain⟨y,y0,y1,_⟩:=w.jD v hv Ik
       exact absurd (by rw[y1,←Fe]) (dh y y0)
    ·simp at hv;subst hv
     simp only at Fe
     rcases Gj.1 hz with hz|hz
     ·exact absurd Fe (w.named z hz)
     ·simp at hz;subst hz;rfl
 split at ha
 ·unfold kn at ha
  split at ha
  ·cases ha
  split at ha
  ·cases ha
  rename_i _ i hi _ p hp
  have key:∀p':cZ,p'.name=p.name→iC (bP r i p'):=fun p' hn=>w.dL (Fc w.eM hp hn)
  repeat' split at ha
  all_goals first|(cases ha;done)|(cases ha;exact key _ rfl)
 split at ha
 ·unfold oU at ha
  split at ha
  ·cases ha
  split at ha
  ·cases ha
  rename_i _ i hi _ x hx
  have key:∀x':je,x'.name=x.name→iC (b6 r i x'):=fun x' hn=>w.eh (Fc w.au hx hn)
  repeat' split at ha
  all_goals first|(cases ha;done)|(cases ha;exact key _ rfl)
 ·unfold lX at ha
  split at ha
  ·cases ha
  split at ha
  ·cases ha
  rename_i _ i hi _ u hu
  have hm:=Ga hu
  have key:∀u':bq,u'.name=u.name→u'.partner=u.partner→u'.product=u.product→iC (ay r i u'):=fun u' k1 k2 k3=>w.ay hu k1 k2 k3
  split at ha
  ·unfold pT at ha
   split at ha
   ·cases ha
   split at ha
   ·cases ha
   rename_i _ k hk _ x hx
   repeat' split at ha
   all_goals first|(cases ha;done)|skip
   cases ha
   exact iC.ay (r:=b6 r k { x with left:=wrap (x.left-vl e 1) }) (u':={ u with uses:=jP wrap u.uses x.name (vl e 1) }) (w.eh (Fc (x:={ x with left:=wrap (x.left-vl e 1) }) w.au hx rfl)) hu rfl rfl rfl
  split at ha
  ·unfold pU at ha
   split at ha
   ·cases ha
   split at ha
   ·cases ha
   rename_i _ k hk _ v hv
   split at ha
   ·cases ha
   rename_i oN
   split at ha
   ·cases ha
   rename_i qL
   split at ha
   ·cases ha
   split at ha
   ·cases ha
   rename_i hnp
   cases ha
   have CC:=Ga hv
   have hup:u.partner=[]:=by by_cases h:u.partner=[]<;>simp_all
   have hvp:v.partner=[]:=by by_cases h:v.partner=[]<;>simp_all
   have Ac:u.product=v.product:=by by_cases h:u.product=v.product<;>simp_all
   have YF:=(I.1 hu).1
   have hkv:=(I.1 hv).1
   have nY:(r.units.set i { u with partner:=v.name })[k]?=Gd v:=by rw[Gb oN];exact hv
   have huv:u.name≠v.name:=fun he=>by
    have:=YE w.units hm CC he
    subst this
    -- the same unit at two places
    have qQ:(r.units.map (·.name)).Nodup:=w.units
    have h1:(r.units.map (·.name))[i]?=Gd u.name:=by rw[Gq,hu];rfl
    have h2:(r.units.map (·.name))[k]?=Gd u.name:=by rw[Gq,hv];rfl
    have:=(Jk (by simpa using YF) qQ).1 (h1.trans h2.symm)
    exact oN this
   -- the units of the new list: the two,and the old ones but for them
   have mem:∀z∈(ay (ay r i { u with partner:=v.name }) k { v with partner:=u.name }).units,z={ u with partner:=v.name }∨z={ v with partner:=u.name }∨(z∈r.units∧z.name≠u.name∧z.name≠v.name):=by
    intro z hz
    obtain⟨j,hj⟩:=Gn hz
    simp only[ay]at hj
    by_cases YG:j=k
    ·subst YG
     rw[Ge (by simpa using hkv)]at hj
     cases hj;exact .inr (.inl rfl)
    rw[Gb (Ix YG)]at hj
    by_cases pD:j=i
    ·subst pD
     rw[Ge YF]at hj
     cases hj;exact .inl rfl
    rw[Gb (Ix pD)]at hj
    have DE:=(I.1 hj).1
    have qQ:(r.units.map (·.name)).Nodup:=w.units
    have pK:(r.units.map (·.name))[j]?=Gd z.name:=by rw[Gq,hj];rfl
    refine .inr (.inr ⟨Ga hj,fun he=>pD ?_,fun he=>YG ?_⟩)
    ·have h1:(r.units.map (·.name))[i]?=Gd u.name:=by rw[Gq,hu];rfl
     exact(Jk (by simpa using DE) qQ).1 (pK.trans (by rw[he];exact h1.symm))
    ·have h1:(r.units.map (·.name))[k]?=Gd v.name:=by rw[Gq,hv];rfl
     exact(Jk (by simpa using DE) qQ).1 (pK.trans (by rw[he];exact h1.symm))
   have inU:({ u with partner:=v.name }:bq)∈(ay (ay r i { u with partner:=v.name }) k { v with partner:=u.name }).units:=Ga (i:=i) (by simp only[ay];rw[Gb (Ix oN),Ge YF])
   have inV:({ v with partner:=u.name }:bq)∈(ay (ay r i { u with partner:=v.name }) k { v with partner:=u.name }).units:=Ga (i:=k) (by simp only[ay];rw[Ge (by simpa using hkv)])
   have inZ:∀z∈r.units,z.name≠u.name→z.name≠v.name→z∈(ay (ay r i { u with partner:=v.name }) k { v with partner:=u.name }).units:=by
    intro z hz h1 h2
    obtain⟨j,hj⟩:=Gn hz
    refine Ga (i:=j) ?_
    simp only[ay]
    rw[Gb (fun e=>h2 (by subst e;rw[hv]at hj;cases hj;rfl)),Gb (fun e=>h1 (by subst e;rw[hu]at hj;cases hj;rfl))]
    exact hj
   refine⟨?_,?_,?_,w.au,w.eM,?_⟩
   ·exact Fc (Fc w.units hu rfl) nY rfl
   ·intro z hz
    rcases mem z hz with rfl|rfl|⟨h,_⟩
    ·exact w.named u hm
    ·exact w.named v CC
    ·exact w.named z h
   ·intro z hz hp
    rcases mem z hz with rfl|rfl|⟨h,h1,h2⟩
    ·exact⟨_,inV,rfl,rfl⟩
    ·exact⟨_,inU,rfl,rfl⟩
    ·obtain⟨y,y0,y1,y2⟩:=w.jD z h hp
     refine⟨y,inZ y y0 (fun e=>?_) (fun e=>?_),y1,y2⟩
     ·have:=YE w.units y0 hm e
      subst this
      rw[hup]at y2;exact w.named z h y2.symm
     ·have:=YE w.units y0 CC e
      subst this
      rw[hvp]at y2;exact w.named z h y2.symm
   ·intro z hz y hy CD
    rcases mem z hz with rfl|rfl|⟨h,h1,h2⟩
    ·rcases mem y hy with rfl|rfl|⟨k0,k1,k2⟩
     ·exact absurd CD huv
     ·exact Ac.symm
     ·exact absurd CD k2
    ·rcases mem y hy with rfl|rfl|⟨k0,k1,k2⟩
     ·exact Ac
     ·exact absurd CD (Ix huv)
     ·exact absurd CD k1
    ·rcases mem y hy with rfl|rfl|⟨k0,k1,k2⟩
     ·exact w.kinds z h u hm CD
     ·exact w.kinds z h v CC CD
     ·exact w.kinds z h y k0 CD
  repeat' split at ha
  all_goals first|(cases ha;done)|(cases ha;exact key _ rfl rfl rfl)
theorem Ij {e:dV}(h:zb e=0):e.names.all (fun s=>!s.isEmpty)=true∧∃f,yt e.kind=Gd f∧e.names.length=f.1∧e.values.length=f.2:=by
 unfold zb at h
 split at h
 ·cases h
 split at h
 ·cases h
 rename_i f hf
 split at h
 ·cases h
 rename_i hl
 split at h
 ·cases h
 rename_i hn
 refine⟨?_,f,hf,by by_cases hh:e.names.length=f.1<;>simp_all,by by_cases hh:e.values.length=f.2<;>simp_all⟩
 have hn:e.names.all dr=true:=by simpa using hn
 rw[Lg]at hn ⊢
 intro s hs
 have:=hn s hs
 cases s with
 |nil=>simp[dr]at this
 |cons c t=>rfl
theorem dD.Ml {wrap:Int→Int}{h:yp}(o:dD wrap h):∀(j:Nat) (r:bm),h.2[j]?=Gd r→iC r
 |0,r,hr=>by rw[o.first]at hr;cases hr;exact iC.empty 0
 |j+1,r,hr=>by
  have bw:=(I.1 hr).1
  have hl:=o.len
  have h1:j<h.1.length:=by omega
  obtain⟨r',k1,k2⟩:=o.next j _ _ (En h1) (En (by omega:j<h.2.length))
  rw[k1]at hr;cases hr
  obtain⟨c1,f,c2,cT,_⟩:=Ij (o.kinds _ (Gz h1)).1
  refine jc5 (dD.Ml o j _ (En (by omega))) c1 (fun hk=>?_) k2
  rw[hk]at c2
  have h2:yt mH=Gd (2,1):=by decide
  rw[h2]at c2
  have:f=(2,1):=(Gd.inj c2).symm
  rw[cT,this];decide
theorem dD.BT {wrap:Int→Int}{h:yp}(o:dD wrap h):iC (Go.W.now h):=o.Ml _ _ o.now
end Go.W
namespace Go.W
theorem jhp {wrap:Int→Int}{l:List dV}{h:yp}{e:dV}(hr:run wrap l=.ok h)(hn:l.length<1000):run wrap (l++[e])=if zb e≠0 then .error ((l.length:Int)+1,zb e)else match accept wrap h ((l.length:Int)+1) e with
  | .error x=>.error ((l.length:Int)+1,x)
  | .ok h'=>.ok h':=by
 unfold run at hr ⊢
 rw[if_neg (by omega)]at hr
 rw[if_neg (by rw[Ig,List.length_singleton];omega),YC,hr]
 simp only[Nat.zero_add,yo]<;>rfl
theorem jcz {wrap:Int→Int}{h h':yp}{k:Int}{e:dV}(ha:accept wrap h k e=.ok h')(hu:e.kind≠iX):e.number=k∧∃r,after wrap (now h) e=.ok r∧h'=(h.1++[e],h.2++[r]):=by
 unfold accept at ha
 split at ha
 ·cases ha
 rename_i hk
 try rw[if_neg hu]at ha
 split at ha
 ·cases ha
 rename_i r hx
 cases ha
 exact⟨by simpa using hk,r,hx,rfl⟩
end Go.W
namespace Go.W
def gX (n:Str):List bn→Int
 | []=>0
 |x::l=>(if x.k=n then x.n else 0)+gX n l
def ie (n:Str):List bq→Int
 | []=>0
 |u::l=>gX n u.uses+ie n l
theorem qul (n:Str):∀l m:List bn,gX n (l++m)=gX n l+gX n m
 | [],m=>by simp[gX]
 |x::l,m=>by simp only[Jq,gX,qul n l m];omega
theorem q7o (n:Str):∀ {l:List bn} {i:Nat} {x y:bn},l[i]?=Gd x→gX n (l.set i y)=gX n l-(if x.k=n then x.n else 0)+(if y.k=n then y.n else 0)
 | [],i,x,y,h=>by simp at h
 |z::l,0,x,y,h=>by
  simp only[G7,Gd.injEq]at h
  subst h
  simp only[He,gX];omega
 |z::l,i+1,x,y,h=>by
  simp only[G8]at h
  simp only[If,gX,q7o n h];omega
theorem Qe (n:Str):∀ {l:List bn},(∀x∈l,1≤x.n)→0≤gX n l
 | [],_=>Gi _
 |x::l,h=>by
  have h1:=h x (Gt ..)
  have h2:=Qe n (fun y hy=>h y (Gm _ hy))
  simp only[gX];split<;>omega
theorem q8j (n:Str):∀ {l:List bn} {i:Nat} {x:bn},(∀x∈l,1≤x.n)→l[i]?=Gd x→x.k=n→x.n≤gX n l
 | [],i,x,_,h,_=>by simp at h
 |z::l,0,x,hp,h,hk=>by
  simp only[G7,Gd.injEq]at h
  subst h
  have:=Qe n (fun y hy=>hp y (Gm _ hy))
  simp only[gX,if_pos hk];omega
 |z::l,i+1,x,hp,h,hk=>by
  simp only[G8]at h
  have h1:=q8j n (fun y hy=>hp y (Gm _ hy)) h hk
  have h2:=hp z (Gt ..)
  simp only[gX];split<;>omega
theorem q3i (n:Str):∀ {l:List bn},(∀x∈l,x.k≠n)→gX n l=0
 | [],_=>rfl
 |x::l,h=>by
  simp only[gX,if_neg (h x (Gt ..)),q3i n (fun y hy=>h y (Gm _ hy))];rfl
theorem qsg (n:Str):∀l m:List bq,ie n (l++m)=ie n l+ie n m
 | [],m=>by simp[ie]
 |x::l,m=>by simp only[Jq,ie,qsg n l m];omega
theorem YH (n:Str):∀ {l:List bq} {i:Nat} {u v:bq},l[i]?=Gd u→ie n (l.set i v)=ie n l-gX n u.uses+gX n v.uses
 | [],i,u,v,h=>by simp at h
 |z::l,0,u,v,h=>by
  simp only[G7,Gd.injEq]at h
  subst h
  simp only[He,ie];omega
 |z::l,i+1,u,v,h=>by
  simp only[G8]at h
  simp only[If,ie,YH n h];omega
theorem jc2 (n:Str){l:List bq}{i:Nat}{u v:bq}(h:l[i]?=Gd u)(hv:v.uses=u.uses):ie n (l.set i v)=ie n l:=by
 rw[YH n h,hv];omega
theorem qz0 (n:Str):∀ {l:List bq},(∀u∈l,∀x∈u.uses,x.k≠n)→ie n l=0
 | [],_=>rfl
 |u::l,h=>by
  simp only[ie,q3i n (h u (Gt ..)),qz0 n (fun y hy=>h y (Gm _ hy))];rfl
theorem Qf (n:Str):∀ {l:List bq},(∀u∈l,∀x∈u.uses,1≤x.n)→0≤ie n l
 | [],_=>Gi _
 |u::l,h=>by
  have h1:=Qe n (h u (Gt ..))
  have h2:=Qf n (fun y hy=>h y (Gm _ hy))
  simp only[ie];omega
theorem q2q (n:Str):∀ {l:List bq} {i:Nat} {u:bq},(∀u∈l,∀x∈u.uses,1≤x.n)→l[i]?=Gd u→gX n u.uses≤ie n l
 | [],i,u,_,h=>by simp at h
 |z::l,0,u,hp,h=>by
  simp only[G7,Gd.injEq]at h
  subst h
  have:=Qf n (fun y hy=>hp y (Gm _ hy))
  simp only[ie];omega
 |z::l,i+1,u,hp,h=>by
  simp only[G8]at h
  have h1:=q2q n (fun y hy=>hp y (Gm _ hy)) h
  have h2:=Qe n (hp z (Gt ..))
  simp only[ie];omega
theorem jid {α β:Type}{key:α→β}{l:List α}(h:z6 key l){i j:Nat}{a b:α}(ha:l[i]?=Gd a)(hb:l[j]?=Gd b)(n6:i≠j):key a≠key b:=by
 intro e
 have hn:(l.map key).Nodup:=h
 have h1:(l.map key)[i]?=Gd (key a):=by rw[Gq,ha];rfl
 have h2:(l.map key)[j]?=Gd (key b):=by rw[Gq,hb];rfl
 obtain⟨i1,e1⟩:=I.1 h1
 obtain⟨j1,e2⟩:=I.1 h2
 have hp:=List.pairwise_iff_getElem.1 hn
 rcases Nat.lt_or_gt_of_ne n6 with hl|hl
 ·exact hp i j i1 j1 hl (e1.trans (e.trans e2.symm))
 ·exact hp j i j1 i1 hl (e2.trans (e.symm.trans e1.symm))
structure fR (j:Nat)(r:bm):Prop where
 au:∀(k:Nat) (x:je),r.au[k]?=Gd x→0≤x.left∧x.count≤10000∧x.left+ie x.name r.units=x.count
 uses:∀u∈r.units,∀x∈u.uses,1≤x.n
 told:∀u∈r.units,0≤u.ah∧u.ah≤j
theorem fR.empty (d:Int):fR 0 ⟨d,[],[],[]⟩:=⟨by simp,by simp,by simp⟩
theorem fR.mono {i j:Nat}{r:bm}(w:fR i r)(h:i≤j):fR j r:=⟨w.au,w.uses,fun u hu=>⟨(w.told u hu).1,by have:=(w.told u hu).2;omega⟩⟩
theorem fR.same {j:Nat}{r:bm}(w:fR j r){ps:List cZ}{d:Int}:fR j ⟨d,r.au,ps,r.units⟩:=⟨w.au,w.uses,w.told⟩
theorem fR.ay {j:Nat}{r:bm}(w:fR j r){i:Nat}{u v:bq}(hu:r.units[i]?=Gd u)(h1:v.uses=u.uses)(h2:0≤v.ah∧v.ah≤j):fR j (Go.W.ay r i v):=by
 refine⟨fun k x hx=>?_,fun y hy=>?_,fun y hy=>?_⟩
 ·have:=w.au k x hx
  show _∧_∧x.left+ie x.name (r.units.set i v)=_
  rw[jc2 _ hu h1];exact this
 ·rcases Gr hy with h|h
  ·exact w.uses y h
  ·rw[h,h1];exact w.uses u (Ga hu)
 ·rcases Gr hy with h|h
  ·exact w.told y h
  ·rw[h];exact h2
theorem fR.b6 {j:Nat}{r:bm}(w:fR j r){i:Nat}{x y:je}(hx:r.au[i]?=Gd x)(h:y.name=x.name∧y.left=x.left∧y.count=x.count):fR j (Go.W.b6 r i y):=by
 refine⟨fun k z hz=>?_,w.uses,w.told⟩
 have hz:(r.au.set i y)[k]?=Gd z:=hz
 by_cases hk:i=k
 ·subst hk
  rw[Ge (I.1 hx).1]at hz
  cases hz
  have:=w.au i x hx
  rw[h.1,h.2.1,h.2.2]
  exact this
 ·rw[Gb hk]at hz
  exact w.au k z hz
def wV (wrap:Int→Int):Prop:=∀n:Int,0≤n→n≤1000000→wrap n=n
theorem jam {wrap:Int→Int}(hw:wV wrap){l:List bn}{k:Str}{n:Int}(h1:1≤n)(hp:∀x∈l,1≤x.n)(hb:n+gX k l≤1000000)(m:Str):gX m (jP wrap l k n)=gX m l+(if k=m then n else 0)∧∀x∈jP wrap l k n,1≤x.n:=by
 unfold jP
 cases hi:l.findIdx? (dj k)with
 |none=>
  refine⟨by rw[qul];simp[gX],fun x hx=>?_⟩
  rcases Gj.1 hx with h|h
  ·exact hp x h
  ·rw[G9.1 h];exact h1
 |some i=>
  obtain⟨x,hx,hk,_⟩:=bJ hi
  have hk:x.k=k:=by simpa[dj]using hk
  have hle:=q8j k hp hx hk
  have As:=hp x (Ga hx)
  have xM:wrap (n+x.n)=n+x.n:=hw _ (by omega) (by omega)
  simp only[hx,xM]
  refine⟨?_,fun y hy=>?_⟩
  ·rw[q7o m hx,hk]
   by_cases e:k=m
   ·simp only[if_pos e];omega
   ·simp only[if_neg e];omega
  ·rcases Gr hy with h|h
   ·exact hp y h
   ·rw[h];show 1≤n+x.n;omega
theorem fR.use {wrap:Int→Int}(hw:wV wrap){j:Nat}{r:bm}(w:fR j r)(w2:iC r){i k:Nat}{u:bq}{x:je}{n:Int}(hu:r.units[i]?=Gd u)(hx:r.au[k]?=Gd x)(h1:1≤n)(h2:n≤x.left):fR j (Go.W.ay (Go.W.b6 r k { x with left:=wrap (x.left-n) }) i { u with uses:=jP wrap u.uses x.name n }):=by
 obtain⟨l0,l1,l2⟩:=w.au k x hx
 have hum:=Ga hu
 have hg:=q2q x.name w.uses hu
 have hb:n+gX x.name u.uses≤1000000:=by omega
 have xM:wrap (x.left-n)=x.left-n:=hw _ (by omega) (by have:=Qf x.name w.uses;omega)
 have ht:=fun m=>jam hw (k:=x.name) h1 (w.uses u hum) hb m
 refine⟨fun q z hz=>?_,fun y hy=>?_,fun y hy=>?_⟩
 ·have hz:(r.au.set k { x with left:=wrap (x.left-n) })[q]?=Gd z:=hz
  show 0≤z.left∧z.count≤10000∧z.left+ie z.name (r.units.set i { u with uses:=jP wrap u.uses x.name n })=z.count
  rw[YH _ hu,(ht z.name).1]
  by_cases hk:k=q
  ·subst hk
   rw[Ge (I.1 hx).1]at hz
   cases hz
   simp only[xM,if_true]
   omega
  ·rw[Gb hk]at hz
   have bI:x.name≠z.name:=jid (key:=fun x:je=>x.name) w2.au hx hz hk
   rw[if_neg bI]
   have:=w.au q z hz
   omega
 ·rcases Gr hy with h|h
  ·exact w.uses y h
  ·rw[h];exact(ht x.name).2
 ·rcases Gr hy with h|h
  ·exact w.told y h
  ·rw[h];exact w.told u hum
theorem fR.uM {j:Nat}{r:bm}(w:fR j r){u:bq}(h1:u.uses=[])(h2:0≤u.ah∧u.ah≤j):fR j { r with units:=r.units++[u] }:=by
 refine⟨fun k x hx=>?_,fun y hy=>?_,fun y hy=>?_⟩
 ·have:=w.au k x hx
  show 0≤x.left∧x.count≤10000∧x.left+ie x.name (r.units++[u])=x.count
  rw[qsg]
  simp only[ie,h1,gX]
  omega
 ·rcases Gj.1 hy with h|h
  ·exact w.uses y h
  ·rw[G9.1 h,h1];simp
 ·rcases Gj.1 hy with h|h
  ·exact w.told y h
  ·rw[G9.1 h];exact h2
theorem fR.xN {j:Nat}{r:bm}(w:fR j r)(w1:WF r){x:je}(hn:(zy r x.name).isSome=false)(h1:x.left=x.count)(h2:0≤x.count∧x.count≤10000):fR j { r with au:=r.au++[x] }:=by
 refine⟨fun k y hy=>?_,w.uses,w.told⟩
 have hy:(r.au++[x])[k]?=Gd y:=hy
 rw[List.getElem?_append]at hy
 split at hy
 ·exact w.au k y hy
 ·have hz:ie x.name r.units=0:=qz0 _ fun u hu z hz e=>by
   have:=(w1.uses u hu).2 z hz
   rw[e,hn]at this;cases this
  have hm:y∈[x]:=Ga hy
  rw[G9.1 hm]
  show 0≤x.left∧x.count≤10000∧x.left+ie x.name r.units=x.count
  rw[hz];omega
theorem jfr {wrap:Int→Int}(hw:wV wrap){j:Nat}(hj:j≤1000){r r':bm}{e:dV}(w1:WF r)(w2:iC r)(w:fR j r)(hv:∀i,0≤vl e i)(ha:apply wrap r e=.ok r'):fR (j+1) r':=by
 have l9:∀ {i:Nat} {u:bq},r.units[i]?=Gd u→0≤u.ah∧u.ah≤((j+1:Nat):Int):=fun h=>by
  have:=w.told _ (Ga h);omega
 have wj:=w.mono (Nat.le_succ j)
 unfold apply at ha
 split at ha
 ·unfold lW at ha
  split at ha
  ·split at ha
   ·cases ha
   rename_i hn
   split at ha
   ·cases ha
   rename_i hb
   split at ha
   ·cases ha
   cases ha
   exact wj.xN w1 (by simpa using hn) rfl ⟨hv 1,by show vl e 1≤10000;omega⟩
  split at ha
  ·repeat' split at ha
   all_goals first|(cases ha;done)|skip
   cases ha
   exact wj.same
  ·repeat' split at ha
   all_goals first|(cases ha;done)|skip
   cases ha
   exact wj.uM rfl ⟨Gi _,by show(0:Int)≤_;omega⟩
 split at ha
 ·unfold kn at ha
  repeat' split at ha
  all_goals first|(cases ha;done)|(cases ha;exact wj.same)
 split at ha
 ·unfold oU at ha
  split at ha
  ·cases ha
  split at ha
  ·cases ha
  rename_i hx
  repeat' split at ha
  all_goals first|(cases ha;done)|(cases ha;exact wj.b6 hx ⟨rfl,rfl,rfl⟩)
 unfold lX at ha
 split at ha
 ·cases ha
 split at ha
 ·cases ha
 rename_i _ i hi _ u hu
 split at ha
 ·unfold pT at ha
  split at ha
  ·cases ha
  split at ha
  ·cases ha
  rename_i _ k hk _ x hx
  split at ha
  ·cases ha
  split at ha
  ·cases ha
  rename_i h0
  split at ha
  ·cases ha
  split at ha
  ·cases ha
  split at ha
  ·cases ha
  rename_i hle
  cases ha
  exact wj.use hw w2 hu hx (by have:=hv 1;omega) (by omega)
 split at ha
 ·unfold pU at ha
  split at ha
  ·cases ha
  split at ha
  ·cases ha
  rename_i _ k hk _ v pG
  split at ha
  ·cases ha
  rename_i oN
  repeat' split at ha
  all_goals first|(cases ha;done)|skip
  cases ha
  refine(wj.ay hu (v:={ u with partner:=v.name }) rfl (l9 (u:=u) hu)).ay (u:=v) ?_ rfl (l9 (u:=v) pG)
  show(r.units.set i _)[k]?=_
  rw[Gb oN];exact pG
 repeat' split at ha
 all_goals first|(cases ha;done)|skip
 ·cases ha;exact wj.ay hu rfl (l9 (u:=u) hu)
 ·cases ha;exact wj.ay hu rfl (l9 (u:=u) hu)
 ·cases ha;exact wj.ay hu rfl (l9 (u:=u) hu)
 ·cases ha
  have:=w.told _ (Ga hu)
  have xM:wrap (u.ah+1)=u.ah+1:=hw _ (by omega) (by omega)
  exact wj.ay hu rfl (by show 0≤wrap _∧wrap _≤_;rw[xM];omega)
theorem jef {wrap:Int→Int}(hw:wV wrap){j:Nat}(hj:j≤1000){r r':bm}{e:dV}(w1:WF r)(w2:iC r)(w:fR j r)(hv:∀i,0≤vl e i)(h:after wrap r e=.ok r'):fR (j+1) r':=by
 unfold after at h
 split at h
 ·cases h
 split at h
 ·cases h
 rename_i r1 ha
 cases h
 have:=jfr hw hj w1 w2 w hv ha
 exact⟨this.au,this.uses,this.told⟩
theorem XV {e:dV}(h:zb e=0)(i:Nat):0≤vl e i∧vl e i≤999999999:=by
 have hall:e.values.all (fun n=>decide (0≤n)&&decide (n≤999999999))=true:=by
  unfold zb at h
  split at h
  ·cases h
  split at h
  ·cases h
  split at h
  ·cases h
  split at h
  ·cases h
  split at h
  ·cases h
  rename_i hh
  simpa using hh
 unfold vl
 cases hi:e.values[i]? with
 |none=>exact⟨Gi _,by decide⟩
 |some v=>
  have:=Lg.1 hall v (Ga hi)
  simpa using this
theorem dD.wf3 {wrap:Int→Int}(hw:wV wrap){h:yp}(o:dD wrap h)(hl:h.1.length≤1000):∀(j:Nat) (r:bm),h.2[j]?=Gd r→fR j r
 |0,r,hr=>by rw[o.first]at hr;cases hr;exact fR.empty 0
 |j+1,r,hr=>by
  have bw:=(I.1 hr).1
  have TI:=o.len
  have h1:j<h.1.length:=by omega
  have h2:j<h.2.length:=by omega
  obtain⟨r',k1,k2⟩:=o.next j _ _ (En h1) (En h2)
  rw[k1]at hr;cases hr
  have hj:=En h2
  exact jef hw (by omega) (o.wf j _ hj) (o.Ml j _ hj) (dD.wf3 hw o hl j _ hj) (fun i=>(XV (o.kinds _ (Gz h1)).1 i).1) k2
end Go.W
namespace Go.W
structure ei (x y:je):Prop where
 name:y.name=x.name
 kind:y.kind=x.kind
 count:y.count=x.count
 left:y.left≤x.left
structure cD (x y:bq):Prop where
 name:y.name=x.name
 version:x.version≤y.version
 results:x.results.length≤y.results.length
 told:x.ah≤y.ah
structure c8 (x y:cZ):Prop where
 name:y.name=x.name
 aH:x.aH.length≤y.aH.length
def dB {α:Type}(R:α→α→Prop)(l m:List α):Prop:=∀(i:Nat) (x:α),l[i]?=Gd x→∃y,m[i]?=Gd y∧R x y
theorem dB.refl {α:Type}{R:α→α→Prop}(hR:∀x,R x x)(l:List α):dB R l l:=fun i x h=>⟨x,h,hR x⟩
theorem dB.trans {α:Type}{R:α→α→Prop}(hR:∀x y z,R x y→R y z→R x z){l m k:List α}(h1:dB R l m)(h2:dB R m k):dB R l k:=fun i x h=>by
 obtain⟨y,a1,a2⟩:=h1 i x h
 obtain⟨z,b1,b2⟩:=h2 i y a1
 exact⟨z,b1,hR _ _ _ a2 b2⟩
theorem dB.add {α:Type}{R:α→α→Prop}(hR:∀x,R x x)(l m:List α):dB R l (l++m):=fun i x h=>⟨x,by rw[Gh (I.1 h).1];exact h,hR x⟩
theorem dB.set {α:Type}{R:α→α→Prop}(hR:∀x,R x x){l:List α}{i:Nat}{x y:α}(hx:l[i]?=Gd x)(pW:R x y):dB R l (l.set i y):=fun k z hz=>by
 by_cases hk:i=k
 ·subst hk
  rw[hx]at hz;cases hz
  exact⟨y,Ge (I.1 hx).1,pW⟩
 ·exact⟨z,by rw[Gb hk];exact hz,hR z⟩
theorem dB.len {α:Type}{R:α→α→Prop}{l m:List α}(h:dB R l m):l.length≤m.length:=by
 rcases Ny m.length l.length with hl|hl
 ·obtain⟨y,a1,_⟩:=h m.length _ (En hl)
  have:=(I.1 a1).1
  omega
 ·exact hl
theorem ei.refl (x:je):ei x x:=⟨rfl,rfl,rfl,Gi _⟩
theorem cD.refl (x:bq):cD x x:=⟨rfl,Gi _,Gx _,Gi _⟩
theorem c8.refl (x:cZ):c8 x x:=⟨rfl,Gx _⟩
theorem ei.trans (x y z:je)(h:ei x y)(g:ei y z):ei x z:=⟨g.name.trans h.name,g.kind.trans h.kind,g.count.trans h.count,Me g.left h.left⟩
theorem cD.trans (x y z:bq)(h:cD x y)(g:cD y z):cD x z:=⟨g.name.trans h.name,Me h.version g.version,Ra h.results g.results,Me h.told g.told⟩
theorem c8.trans (x y z:cZ)(h:c8 x y)(g:c8 y z):c8 x z:=⟨g.name.trans h.name,Ra h.aH g.aH⟩
structure dJ (r s:bm):Prop where
 au:dB ei r.au s.au
 units:dB cD r.units s.units
 eM:dB c8 r.ae s.ae
theorem dJ.refl (r:bm):dJ r r:=⟨.refl ei.refl _,.refl cD.refl _,.refl c8.refl _⟩
theorem dJ.trans {r s t:bm}(h:dJ r s)(g:dJ s t):dJ r t:=⟨h.au.trans ei.trans g.au,h.units.trans cD.trans g.units,h.eM.trans c8.trans g.eM⟩
theorem dJ.eh {r:bm}{l:List je}(h:dB ei r.au l):dJ r { r with au:=l }:=⟨h,.refl cD.refl _,.refl c8.refl _⟩
theorem dJ.dv {r:bm}{l:List bq}(h:dB cD r.units l):dJ r { r with units:=l }:=⟨.refl ei.refl _,h,.refl c8.refl _⟩
theorem dJ.dL {r:bm}{l:List cZ}(h:dB c8 r.ae l):dJ r { r with ae:=l }:=⟨.refl ei.refl _,.refl cD.refl _,h⟩
theorem q83 {r:bm}{u:bq}{v:Int}(hp:(gQ r u).isSome)(hv:ol r u=Gd v):u.version≤v:=by
 unfold gQ at hp
 unfold ol at hv
 cases hq:kq r u.product with
 |none=>rw[hq]at hv;cases hv
 |some p=>
  rw[hq]at hp hv
  cases hv
  simp only[Gy,Bh]at hp
  split at hp
  ·obtain⟨d,hd⟩:=Jp.1 hp
   have:=(I.1 hd).1
   show u.version≤(p.aH.length:Int)
   omega
  ·cases hp
theorem jgj {wrap:Int→Int}(hw:wV wrap){j:Nat}(hj:j≤1000){r r':bm}{e:dV}(w1:WF r)(w:fR j r)(hv:∀i,0≤vl e i)(ha:apply wrap r e=.ok r'):dJ r r':=by
 unfold apply at ha
 split at ha
 ·unfold lW at ha
  repeat' split at ha
  all_goals first|(cases ha;done)|skip
  ·cases ha;exact .eh (.add ei.refl _ _)
  ·cases ha;exact .dL (.add c8.refl _ _)
  ·cases ha;exact .dv (.add cD.refl _ _)
 split at ha
 ·unfold kn at ha
  split at ha
  ·cases ha
  split at ha
  ·cases ha
  rename_i hp
  repeat' split at ha
  all_goals first|(cases ha;done)|skip
  ·cases ha;exact .dL (.set c8.refl hp ⟨rfl,Gx _⟩)
  ·cases ha;exact .dL (.set c8.refl hp ⟨rfl,Gx _⟩)
  ·cases ha;exact .dL (.set c8.refl hp ⟨rfl,by simp⟩)
 split at ha
 ·unfold oU at ha
  split at ha
  ·cases ha
  split at ha
  ·cases ha
  rename_i hx
  repeat' split at ha
  all_goals first|(cases ha;done)|(cases ha;exact .eh (.set ei.refl hx ⟨rfl,rfl,rfl,Gi _⟩))
 unfold lX at ha
 split at ha
 ·cases ha
 split at ha
 ·cases ha
 rename_i _ i hi _ u hu
 split at ha
 ·unfold pT at ha
  split at ha
  ·cases ha
  split at ha
  ·cases ha
  rename_i _ k hk _ x hx
  split at ha
  ·cases ha
  split at ha
  ·cases ha
  rename_i h0
  split at ha
  ·cases ha
  split at ha
  ·cases ha
  split at ha
  ·cases ha
  rename_i hle
  cases ha
  obtain⟨l0,l1,l2⟩:=w.au k x hx
  have ht:=Qf x.name w.uses
  have h1:=hv 1
  have xM:wrap (x.left-vl e 1)=x.left-vl e 1:=hw _ (by omega) (by omega)
  refine dJ.trans (s:=b6 r k { x with left:=wrap (x.left-vl e 1) }) (.eh (.set ei.refl hx ⟨rfl,rfl,rfl,by show wrap _≤_;rw[xM];omega⟩)) (.dv ?_)
  exact .set cD.refl (show(b6 r k { x with left:=wrap (x.left-vl e 1) }).units[i]?=Gd u from hu) ⟨rfl,Gi _,Gx _,Gi _⟩
 split at ha
 ·unfold pU at ha
  split at ha
  ·cases ha
  split at ha
  ·cases ha
  rename_i _ k hk _ v pG
  split at ha
  ·cases ha
  rename_i oN
  repeat' split at ha
  all_goals first|(cases ha;done)|skip
  cases ha
  refine dJ.trans (s:=ay r i { u with partner:=v.name }) (.dv (.set cD.refl hu ⟨rfl,Gi _,Gx _,Gi _⟩)) (.dv ?_)
  refine .set (x:=v) cD.refl ?_ ⟨rfl,Gi _,Gx _,Gi _⟩
  show(r.units.set i _)[k]?=_
  rw[Gb oN];exact pG
 split at ha
 ·repeat' split at ha
  all_goals first|(cases ha;done)|skip
  cases ha;exact .dv (.set cD.refl hu ⟨rfl,Gi _,by simp,Gi _⟩)
 split at ha
 ·split at ha
  ·cases ha
  split at ha
  ·cases ha
  rename_i v dh
  split at ha
  ·cases ha
  cases ha
  exact .dv (.set cD.refl hu ⟨rfl,q83 (w1.ef u (Ga hu)) dh,Gx _,Gi _⟩)
 split at ha
 ·split at ha
  ·cases ha
  cases ha
  exact .dv (.set cD.refl hu ⟨rfl,Gi _,Gx _,Gi _⟩)
 ·split at ha
  ·cases ha
  cases ha
  have:=w.told _ (Ga hu)
  have xM:wrap (u.ah+1)=u.ah+1:=hw _ (by omega) (by omega)
  exact .dv (.set cD.refl hu ⟨rfl,Gi _,Gx _,by show _≤wrap _;rw[xM];omega⟩)
theorem jfx {wrap:Int→Int}(hw:wV wrap){j:Nat}(hj:j≤1000){r r':bm}{e:dV}(w1:WF r)(w:fR j r)(hv:∀i,0≤vl e i)(h:after wrap r e=.ok r'):dJ r r':=by
 unfold after at h
 split at h
 ·cases h
 split at h
 ·cases h
 rename_i r1 ha
 cases h
 have:=jgj hw hj w1 w hv ha
 exact⟨this.au,this.units,this.eM⟩
theorem dD.le {wrap:Int→Int}(hw:wV wrap){h:yp}(o:dD wrap h)(hl:h.1.length≤1000)(i:Nat){r:bm}(hr:h.2[i]?=Gd r):∀(d:Nat) (s:bm),h.2[i+d]?=Gd s→dJ r s
 |0,s,hs=>by rw[Nat.add_zero,hr]at hs;cases hs;exact dJ.refl _
 |d+1,s,hs=>by
  have bw:=(I.1 hs).1
  have TI:=o.len
  have h1:i+d<h.1.length:=by omega
  have h2:i+d<h.2.length:=by omega
  have hj:=En h2
  obtain⟨r',k1,k2⟩:=o.next (i+d) _ _ (En h1) hj
  rw[show i+(d+1)=i+d+1 by omega,k1]at hs;cases hs
  exact(dD.le hw o hl i hr d _ hj).trans (jfx hw (by omega) (o.wf _ _ hj) (o.wf3 hw hl _ _ hj) (fun q=>(XV (o.kinds _ (Gz h1)).1 q).1) k2)
end Go.W
namespace Go.W
structure dk (x y:bq):Prop where
 name:y.name=x.name
 ar:y.ar=x.ar
 same:x.ar=true→y.version=x.version∧y.uses=x.uses∧y.results=x.results∧y.partner=x.partner
theorem dk.refl (x:bq):dk x x:=⟨rfl,rfl,fun _=>⟨rfl,rfl,rfl,rfl⟩⟩
theorem dk.trans (x y z:bq)(h:dk x y)(g:dk y z):dk x z:=⟨g.name.trans h.name,g.ar.trans h.ar,fun hx=>by
 obtain⟨a,b,c,d⟩:=h.same hx
 obtain⟨a',b',c',d'⟩:=g.same (h.ar.trans hx)
 exact⟨a'.trans a,b'.trans b,c'.trans c,d'.trans d⟩⟩
structure cE (r s:bm):Prop where
 old:dB dk r.units s.units
 new:∀(i:Nat) (y:bq),r.units.length≤i→s.units[i]?=Gd y→y.ar=false
theorem cE.same {r s:bm}(h:s.units=r.units):cE r s:=by
 refine⟨by rw[h];exact .refl dk.refl _,fun i y hi hy=>?_⟩
 rw[h]at hy
 have:=(I.1 hy).1
 omega
theorem cE.set {r s:bm}{i:Nat}{x y:bq}(hx:r.units[i]?=Gd x)(hs:s.units=r.units.set i y)(pW:dk x y):cE r s:=by
 refine⟨by rw[hs];exact .set dk.refl hx pW,fun k z hi hz=>?_⟩
 rw[hs]at hz
 have:=(I.1 hz).1
 rw[List.length_set]at this
 omega
theorem cE.trans {r s t:bm}(h:cE r s)(g:cE s t):cE r t:=by
 refine⟨h.old.trans dk.trans g.old,fun i y hi hy=>?_⟩
 rcases Ny i s.units.length with hl|hl
 ·obtain⟨z,z1,z2⟩:=g.old i _ (En hl)
  rw[hy]at z1;cases z1
  rw[z2.ar]
  exact h.new i _ hi (En hl)
 ·exact g.new i y hl hy
theorem q8q {wrap:Int→Int}{r r':bm}{e:dV}(hk:e.kind≠iW)(ha:apply wrap r e=.ok r'):cE r r':=by
 unfold apply at ha
 split at ha
 ·unfold lW at ha
  repeat' split at ha
  all_goals first|(cases ha;done)|skip
  ·cases ha;exact .same rfl
  ·cases ha;exact .same rfl
  ·cases ha
   refine⟨.add dk.refl _ _,fun i y hi hy=>?_⟩
   rw[Ha hi]at hy
   rw[G9.1 (Ga hy)]
 split at ha
 ·unfold kn at ha
  repeat' split at ha
  all_goals first|(cases ha;done)|(cases ha;exact .same rfl)
 split at ha
 ·unfold oU at ha
  repeat' split at ha
  all_goals first|(cases ha;done)|(cases ha;exact .same rfl)
 unfold lX at ha
 split at ha
 ·cases ha
 split at ha
 ·cases ha
 rename_i _ i hi _ u hu
 split at ha
 ·unfold pT at ha
  split at ha
  ·cases ha
  split at ha
  ·cases ha
  split at ha
  ·cases ha
  rename_i hs
  repeat' split at ha
  all_goals first|(cases ha;done)|skip
  cases ha
  exact .set hu rfl ⟨rfl,rfl,fun h=>absurd h hs⟩
 split at ha
 ·unfold pU at ha
  split at ha
  ·cases ha
  split at ha
  ·cases ha
  rename_i _ k eW _ v hv
  split at ha
  ·cases ha
  rename_i oN
  split at ha
  ·cases ha
  split at ha
  ·cases ha
  rename_i hs
  split at ha
  ·cases ha
  cases ha
  have h1:¬u.ar=true:=fun h=>hs (.inl h)
  have h2:¬v.ar=true:=fun h=>hs (.inr h)
  refine cE.trans (s:=ay r i { u with partner:=v.name }) (.set hu rfl ⟨rfl,rfl,fun h=>absurd h h1⟩) (.set (x:=v) ?_ rfl ⟨rfl,rfl,fun h=>absurd h h2⟩)
  show(r.units.set i _)[k]?=_
  rw[Gb oN];exact hv
 split at ha
 ·split at ha
  ·cases ha
  rename_i hs
  repeat' split at ha
  all_goals first|(cases ha;done)|skip
  cases ha;exact .set hu rfl ⟨rfl,rfl,fun h=>absurd h hs⟩
 split at ha
 ·split at ha
  ·cases ha
  rename_i hs
  repeat' split at ha
  all_goals first|(cases ha;done)|skip
  cases ha;exact .set hu rfl ⟨rfl,rfl,fun h=>absurd h hs⟩
 try rw[if_neg hk]at ha
 split at ha
 ·cases ha
 cases ha
 exact .set hu rfl ⟨rfl,rfl,fun _=>⟨rfl,rfl,rfl,rfl⟩⟩
theorem qur {wrap:Int→Int}{r r':bm}{e:dV}(hk:e.kind≠iW)(h:after wrap r e=.ok r'):cE r r':=by
 unfold after at h
 split at h
 ·cases h
 split at h
 ·cases h
 rename_i r1 ha
 cases h
 have:=q8q hk ha
 exact⟨this.old,this.new⟩
end Go.W
namespace Go.W
theorem qyq {wrap:Int→Int}{l m:List dV}{i:Nat}{h h':yp}(hr:yo wrap i h (l++m)=.ok h'):∃q,yo wrap i h l=.ok q∧yo wrap (i+l.length) q m=.ok h':=by
 rw[YC]at hr
 cases hq:yo wrap i h l with
 |error x=>rw[hq]at hr;cases hr
 |ok q=>rw[hq]at hr;exact⟨q,rfl,hr⟩
theorem Mm {wrap:Int→Int}{l m:List dV}{h':yp}(hr:run wrap (l++m)=.ok h'):∃q,run wrap l=.ok q∧yo wrap l.length q m=.ok h':=by
 unfold run at hr ⊢
 split at hr
 ·cases hr
 rename_i hl
 rw[Ig]at hl
 obtain⟨q,h1,h2⟩:=qyq hr
 rw[if_neg (by omega)]
 rw[Nat.zero_add]at h2
 exact⟨q,h1,h2⟩
theorem q8d {wrap:Int→Int}{l:List dV}{h:yp}(hr:run wrap l=.ok h):l.length≤1000:=by
 unfold run at hr
 split at hr
 ·cases hr
 ·omega
theorem jit {wrap:Int→Int}{l:List dV}{h:yp}(hr:run wrap l=.ok h){i:Nat}{e:dV}(he:l[i]?=Gd e):∃q q',run wrap (l.take i)=.ok q∧run wrap (l.take (i+1))=.ok q'∧zb e=0∧accept wrap q ((i:Int)+1) e=.ok q':=by
 have bw:=(I.1 he).1
 have hlen:=q8d hr
 have h1:l.take (i+1)=l.take i++[e]:=by rw[Rf,he];rfl
 obtain⟨q',g1,_⟩:=Mm (l:=l.take (i+1)) (m:=l.drop (i+1)) (h':=h) (by rw[Qw];exact hr)
 have g2:=g1
 rw[h1]at g2
 obtain⟨q,g3,_⟩:=Mm g2
 have hl:(l.take i).length=i:=by rw[Lh];omega
 rw[jhp g3 (by omega),hl]at g2
 refine⟨q,q',g3,g1,?_⟩
 split at g2
 ·cases g2
 rename_i hc
 refine⟨by simpa using hc,?_⟩
 split at g2
 ·cases g2
 ·rename_i hx;cases g2;exact hx
theorem Qg {wrap:Int→Int}:∀ {l:List dV} {i:Nat} {h h':yp},(∀e∈l,e.kind≠iX)→yo wrap i h l=.ok h'→h'.1=h.1++l∧∃s,h'.2=h.2++s∧s.length=l.length
 | [],i,h,h',_,hr=>by
  simp only[yo]at hr;cases hr
  exact⟨by simp,[],by simp,rfl⟩
 |e::l,i,h,h',hu,hr=>by
  simp only[yo]at hr
  split at hr
  ·cases hr
  split at hr
  ·cases hr
  rename_i q hq
  obtain⟨_,r,_,rfl⟩:=jcz hq (hu e (Gt ..))
  obtain⟨h1,s,h2,h3⟩:=Qg (fun x hx=>hu x (Gm _ hx)) hr
  refine⟨by rw[h1];simp,r::s,by rw[h2];simp,by simp[h3]⟩
theorem jqe {wrap:Int→Int}{l:List dV}{h:yp}(hu:∀e∈l,e.kind≠iX)(hr:run wrap l=.ok h):h.1=l∧∀m,m≤l.length→∃q,run wrap (l.take m)=.ok q∧q.1=l.take m∧h.2[m]?=Gd (now q):=by
 have hlen:=q8d hr
 have iH:=hr
 unfold run at iH
 rw[if_neg (by omega)]at iH
 obtain⟨h1,_⟩:=Qg hu iH
 refine⟨by simpa using h1,fun m hm=>?_⟩
 obtain⟨q,g1,g2⟩:=Mm (l:=l.take m) (m:=l.drop m) (h':=h) (by rw[Qw];exact hr)
 have YI:=g1
 unfold run at YI
 rw[if_neg (by rw[Lh];omega)]at YI
 obtain⟨k1,_⟩:=Qg (fun e he=>hu e (Q7 he)) YI
 obtain⟨_,s,k2,_⟩:=Qg (fun e he=>hu e (List.mem_of_mem_drop he)) g2
 have o:=jdi g1
 have KF:q.1=l.take m:=by simpa using k1
 have hn:=o.now
 rw[KF,Lh,Nat.min_eq_left hm]at hn
 exact⟨q,g1,KF,by rw[k2,Gh (I.1 hn).1];exact hn⟩
end Go.W
namespace Go.W
theorem q6d {wrap:Int→Int}{h h':yp}{k:Int}{e:dV}(o:dD wrap h)(ha:accept wrap h k e=.ok h'):
  (e.kind≠iX∧after wrap (now h) e=.ok (now h'))∨(e.kind=iX∧∃c,c.kind≠iW∧after wrap (now h') c=.ok (now h)):=by
 unfold accept at ha
 split at ha
 ·cases ha
 split at ha
 ·rename_i hu
  refine .inr ⟨hu,?_⟩
  split at ha
  ·cases ha
  ·rename_i c hc
   split at ha
   ·cases ha
   rename_i hs
   cases ha
   have gN:0<h.1.length:=by
    cases hh:h.1 with
    |nil=>rw[hh]at hc;simp at hc
    |cons _ _=>simp
   have hl:=o.len
   have hn:=o.now
   have dZ:h.1[h.1.length-1]?=Gd c:=by rw[←Hb];exact hc
   have hr:∃r,h.2[h.1.length-1]?=Gd r:=⟨_,En (by omega)⟩
   obtain⟨r,hr⟩:=hr
   obtain⟨r',k1,k2⟩:=o.next _ _ _ dZ hr
   rw[show h.1.length-1+1=h.1.length by omega,hn]at k1
   cases k1
   refine⟨c,hs,?_⟩
   have:now (h.1.dropLast,h.2.dropLast)=r:=by
    unfold now
    show(h.2.dropLast.getLast?).getD yz=r
    rw[Hb,Q6,Hc,if_pos (by omega),show h.2.length-1-1=h.1.length-1 by omega,hr]
    rfl
   rw[this];exact k2
 ·rename_i hu
  split at ha
  ·cases ha
  ·rename_i r hr
   cases ha
   refine .inl ⟨hu,?_⟩
   rw[hr]
   congr 1
   unfold now
   simp
def jkr (a u:bq):Prop:=u.version=a.version∧u.uses.length=a.uses.length∧u.results.length=a.results.length∧u.partner=a.partner
structure dC (M:Str→bq)(S:bm):Prop where
 ent:∀n,(M n).name≠[]→∃u∈S.units,u.name=n∧u.ar=true∧jkr (M n) u
 has:∀u∈S.units,u.ar=true→(M u.name).name≠[]
theorem dC.empty {M:Str→bq}(hM:∀n,(M n).name=[]){S:bm}(h:S.units=[]):dC M S:=
 ⟨fun n hn=>absurd (hM n) hn,fun u hu=>by rw[h]at hu;cases hu⟩
theorem dC.fwd {M:Str→bq}{r s:bm}(k:cE r s)(v:dC M r):dC M s:=by
 refine⟨fun n hn=>?_,fun y hy hs=>?_⟩
 ·obtain⟨u,u0,u1,u2,u3⟩:=v.ent n hn
  obtain⟨i,hi⟩:=Gn u0
  obtain⟨y,y1,y2⟩:=k.old i u hi
  obtain⟨a,b,c,d⟩:=y2.same u2
  exact⟨y,Ga y1,y2.name.trans u1,y2.ar.trans u2,a.trans u3.1,by rw[b];exact u3.2.1,by rw[c];exact u3.2.2.1,d.trans u3.2.2.2⟩
 ·obtain⟨i,hi⟩:=Gn hy
  rcases Ny i r.units.length with hl|hl
  ·obtain⟨z,z1,z2⟩:=k.old i _ (En hl)
   rw[hi]at z1;cases z1
   rw[z2.name]
   exact v.has _ (Gz hl) (z2.ar.symm.trans hs)
  ·rw[k.new i y hl hi]at hs;cases hs
theorem dC.bwd {M:Str→bq}{r s:bm}(k:cE r s)(v:dC M s):dC M r:=by
 refine⟨fun n hn=>?_,fun x hx hs=>?_⟩
 ·obtain⟨y,y0,y1,y2,y3⟩:=v.ent n hn
  obtain⟨i,hi⟩:=Gn y0
  rcases Ny i r.units.length with hl|hl
  ·obtain⟨z,z1,z2⟩:=k.old i _ (En hl)
   rw[hi]at z1;cases z1
   have mY:=z2.ar.symm.trans y2
   obtain⟨a,b,c,d⟩:=z2.same mY
   exact⟨_,Gz hl,z2.name.symm.trans y1,mY,a.symm.trans y3.1,by rw[←b];exact y3.2.1,by rw[←c];exact y3.2.2.1,d.symm.trans y3.2.2.2⟩
  ·rw[k.new i y hl hi]at y2;cases y2
 ·obtain⟨i,hi⟩:=Gn hx
  obtain⟨y,y1,y2⟩:=k.old i x hi
  rw[←y2.name]
  exact v.has y (Ga y1) (y2.ar.trans hs)
theorem dC.step {wrap:Int→Int}{M:Str→bq}{h h':yp}{k:Int}{e:dV}(o:dD wrap h)(ha:accept wrap h k e=.ok h')(hs:e.kind≠iW)(v:dC M (now h)):dC M (now h'):=by
 rcases q6d o ha with⟨_,h1⟩|⟨_,c,c1,c2⟩
 ·exact v.fwd (qur hs h1)
 ·exact v.bwd (qur c1 c2)
end Go.W
