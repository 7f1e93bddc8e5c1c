/- The register of chapter 10 in plain lists. -/
set_option linter.unusedVariables false
set_option linter.unusedSimpArgs false
open List renaming getElem?_eq_some_iff→I,getElem?_eq_getElem→Eh,mem_of_getElem?→El,getElem?_set_ne→En,getElem?_set_self→Eo,getElem?_append_left→Ev,mem_append→E5,findIdx?_cons→E6,getElem?_map→E7,getElem?_of_mem→Gc,mem_map_of_mem→Gh,getElem?_append_right→Gi,getElem?_inj→Gl,getElem?_dropLast→Gm,mem_cons→Gn,ext_getElem?→Gp,all_eq_true→Gx,getElem_mem→Ha,nodup_cons→Hb,map_cons→If,map_set→Ip
open Option renaming some→Ga,bind_some→Gb,some_get→Ht
open Ne renaming symm→Gk
namespace Go.W
abbrev Str:=List UInt8
structure qk where
 k:Str
 n:Int
 deriving DecidableEq
structure qi where
 k:Str
 a:Int
 b:Int
 deriving DecidableEq
structure qj where
 name:Str
 kind:Str
 count:Int
 left:Int
 held:Bool
 deriving DecidableEq
structure jj where
 aF:List qk
 aB:List qi
 deriving DecidableEq
structure jh where
 name:Str
 bJ:jj
 aO:List jj
 deriving DecidableEq
structure qz where
 name:Str
 product:Str
 version:Int
 uses:List qk
 results:List qi
 partner:Str
 ar:Bool
 aj:Int
 deriving DecidableEq
structure qu where
 day:Int
 aq:List qj
 ae:List jh
 units:List qz
 deriving DecidableEq
structure je where
 number:Int
 kind:Str
 names:List Str
 values:List Int
 text:Str
 deriving DecidableEq
def y9 (r:qu)(n:Str):Option Nat:=r.aq.findIdx? fun x=>decide (x.name=n)
def ku (r:qu)(n:Str):Option Nat:=r.ae.findIdx? fun x=>decide (x.name=n)
def kh (r:qu)(n:Str):Option Nat:=r.units.findIdx? fun x=>decide (x.name=n)
def ia (r:qu)(n:Str):Option jh:=(ku r n).bind fun k=>r.ae[k]?
def pn (r:qu)(u:qz):Option Int:=(ia r u.product).map fun p=>(p.aO.length:Int)
def D2 (l:List jj)(v:Int):Option jj:=if 1≤v then l[(v-1).toNat]? else none
def gX (r:qu)(u:qz):Option jj:=(ia r u.product).bind fun p=>D2 p.aO u.version
def nH (r:qu)(n:Str):Option qj:=(y9 r n).bind fun k=>r.aq[k]?
theorem bG {α:Type}{p:α→Bool}{l:List α}{k:Nat}(h:l.findIdx? p=Ga k):∃x,l[k]?=Ga x∧p x=true∧k<l.length∧∀j x,j<k→l[j]?=Ga x→p x=false:=by
 induction l generalizing k with
 |nil=>simp at h
 |cons y l ih=>
  rw[E6]at h
  by_cases hp:p y=true
  ·rw[if_pos hp]at h
   cases h
   exact⟨y,rfl,hp,by simp,fun j x hj=>by omega⟩
  ·rw[if_neg hp]at h
   obtain⟨i,hi,rfl⟩:=Option.map_eq_some_iff.1 h
   obtain⟨x,h1,h2,h3,h4⟩:=ih hi
   refine⟨x,by simpa using h1,h2,by simp;omega,fun j z hj hz=>?_⟩
   cases j with
   |zero=>simp at hz;subst hz;simpa using hp
   |succ j=>exact h4 j z (by omega) (by simpa using hz)
theorem fb {α:Type}{p:α→Bool}{l:List α}:l.findIdx? p=none↔∀x∈l,p x=false:=by
 induction l with
 |nil=>simp
 |cons y l ih=>
  rw[E6]
  by_cases hp:p y=true
  ·rw[if_pos hp];simp[hp]
  ·rw[if_neg hp]
   have dV:p y=false:=by simpa using hp
   simp[ih,dV]
def eR {α:Type}(same:α→Bool)(x:α)(l:List α):List α:=match l.findIdx? same with
 |some i=>l.set i x
 |none=>l++[x]
def D9 {α:Type}(same:α→Bool)(x:α)(l:List α):List α:=(l.map fun y=>if same y then x else y)++(if l.any same then []else [x])
def kx {α β:Type}(key:α→β)(l:List α):Prop:=(l.map key).Nodup
theorem qv0 {α β:Type}[DecidableEq β]{key:α→β}{k:β}{x:α}:∀ {l:List α},kx key l→(l.map fun y=>if decide (key y=k)then x else y)=(match l.findIdx? (fun y=>decide (key y=k))with|some i=>l.set i x|none=>l)
 | [],_=>rfl
 |y::l,h=>by
  have hn:=Hb.1 (by simpa[kx]using h:(key y::l.map key).Nodup)
  rw[E6]
  by_cases hy:key y=k
  ·simp only[If,hy,decide_true,if_true]
   have:l.map (fun y=>if decide (key y=k)then x else y)=l:=by
    conv=>rhs;rw[←List.map_id l]
    refine List.map_congr_left fun z hz=>?_
    have:key z≠k:=fun e=>hn.1 (by rw[hy,←e];exact Gh hz)
    simp[this]
   rw[this];rfl
  ·have ih:=qv0 (k:=k) (x:=x) (l:=l) hn.2
   simp only[If,hy,decide_false,Bool.false_eq_true,if_false]
   rw[ih]
   cases l.findIdx? (fun y=>decide (key y=k))with
   |none=>rfl
   |some i=>rfl
theorem D5 {α:Type}{p:α→Bool}{l:List α}:l.any p=(l.findIdx? p).isSome:=by
 induction l with
 |nil=>rfl
 |cons y l ih=>
  rw[E6,List.any_cons]
  by_cases hp:p y=true
  ·rw[if_pos hp,hp];rfl
  ·rw[if_neg hp]
   have:p y=false:=by simpa using hp
   rw[this,Bool.false_or,ih]
   cases l.findIdx? p<;>rfl
theorem qzo {α β:Type}[DecidableEq β]{key:α→β}{k:β}{x:α}{l:List α}(h:kx key l):D9 (fun y=>decide (key y=k)) x l=eR (fun y=>decide (key y=k)) x l:=by
 unfold D9 eR
 rw[qv0 h,D5]
 cases l.findIdx? (fun y=>decide (key y=k))with
 |none=>simp
 |some i=>simp
theorem qz6 {α β:Type}[DecidableEq β]{key:α→β}{k:β}{x:α}(hx:key x=k):∀ {l:List α} {i:Nat},kx key l→l.findIdx? (fun y=>decide (key y=k))=Ga i→kx key (l.set i x):=by
 intro l i h hi
 obtain⟨y,h1,h2,h3,_⟩:=bG hi
 have:(l.set i x).map key=l.map key:=by
  rw[Ip]
  apply Gp
  intro j
  by_cases hj:j=i
  ·subst hj
   rw[Eo (by simpa using h3),E7,h1]
   simp at h2;simp[hx,h2]
  ·rw[En (Gk hj)]
 unfold kx;rw[this];exact h
theorem OO {α β:Type}[DecidableEq β]{key:α→β}{k:β}{x:α}{l:List α}(hx:key x=k)(h:kx key l):kx key (eR (fun y=>decide (key y=k)) x l):=by
 unfold eR
 cases hi:l.findIdx? (fun y=>decide (key y=k))with
 |some i=>exact qz6 hx h hi
 |none=>
  rw[fb]at hi
  unfold kx at *
  rw[List.map_append,List.nodup_append]
  refine⟨h,by simp,?_⟩
  intro a ha b hb
  simp at hb
  subst hb
  obtain⟨z,hz,rfl⟩:=List.mem_map.1 ha
  have:=hi z hz
  rw[hx];simpa using this
theorem q1y {α β:Type}{key:α→β}{l:List α}(p:α→Bool)(h:kx key l):kx key (l.filter p):=
 List.Nodup.sublist (List.Sublist.map key List.filter_sublist) h
end Go.W
namespace Go.W
def lY:Str:=[108,111,116]
def mR:Str:=[112,114,111,100,117,99,116]
def lZ:Str:=[110,101,101,100]
def mS:Str:=[116,101,115,116]
def pj:Str:=[105,115,115,117,101]
def l0:Str:=[98,117,105,108,100]
def l3:Str:=[117,115,101]
def oj:Str:=[109,101,97,115,117,114,101]
def pk:Str:=[117,112,100,97,116,101]
def mT:Str:=[112,97,105,114]
def nG:Str:=[104,111,108,100]
def qR:Str:=[102,114,101,101]
def kH:Str:=[115,104,105,112]
def xM:Str:=[99,111,109,112,108,97,105,110]
def ol:Str:=[117,110,100,111]
def D4 (wrap:Int→Int)(r:qu)(u:qz)(kind:Str):Int:=u.uses.foldl (fun n x=>if(nH r x.k).any (fun l=>decide (l.kind=kind))then wrap (n+x.n)else n) 0
def qS (u:qz)(t:qi):Bool:=u.results.foldl (fun is x=>if decide (x.k=t.k)&&decide (x.a=u.version)then decide (t.a≤x.b)&&decide (x.b≤t.b)else is) false
def qT (d:jj)(u:qz):List Str:=(d.aB.filter fun t=>!qS u t).map (·.k)
def xQ (wrap:Int→Int)(r:qu)(d:jj)(u:qz):Bool:=d.aF.all fun n=>decide (n.n≤D4 wrap r u n.k)
def AP (r:qu)(u:qz):Bool:=u.uses.any fun x=>(nH r x.k).any (·.held)
def qU (wrap:Int→Int)(r:qu)(u:qz):Int:=
 if u.ar then 21 else if pn r u≠Ga u.version then 32 else
 match gX r u with
 |none=>20
 |some d=>if !xQ wrap r d u then 20 else if !(qT d u).isEmpty then 31 else if AP r u then 34 else 0
def b6 (r:qu)(i:Nat)(x:qj):qu:={ r with aq:=r.aq.set i x }
def bA (r:qu)(i:Nat)(x:jh):qu:={ r with ae:=r.ae.set i x }
def aw (r:qu)(i:Nat)(x:qz):qu:={ r with units:=r.units.set i x }
def cO (k:Str)(x:qk):Bool:=decide (x.k=k)
def eg (k:Str)(x:qi):Bool:=decide (x.k=k)
def iZ (l:List qk)(k:Str)(n:Int):List qk:=if n=0 then l.filter (fun x=>!cO k x)else eR (cO k) ⟨k,n⟩ l
def l6 (wrap:Int→Int)(l:List qk)(k:Str)(n:Int):List qk:=match l.findIdx? (cO k)with
 |some i=>(match l[i]? with
  |some x=>l.set i ⟨k,wrap (n+x.n)⟩
  |none=>l)
 |none=>l++[⟨k,n⟩]
def nm (e:je)(i:Nat):Str:=(e.names[i]?).getD []
def vl (e:je)(i:Nat):Int:=(e.values[i]?).getD 0
abbrev ou:=Except Int qu
def nJ (r:qu)(e:je):ou:=
 if e.kind=lY then
  (if(y9 r (nm e 0)).isSome then .error 9 else if vl e 1<1∨10000<vl e 1 then .error 3 else if 64≤r.aq.length then .error 5 else
   .ok { r with aq:=r.aq++[⟨nm e 0,nm e 1,vl e 1,vl e 1,false⟩] })
 else if e.kind=mR then
  (if(ku r (nm e 0)).isSome then .error 9 else if 16≤r.ae.length then .error 5 else .ok { r with ae:=r.ae++[⟨nm e 0,⟨[],[]⟩,[]⟩] })
 else match ia r (nm e 1)with
  |none=>.error 10
  |some p=>if(kh r (nm e 0)).isSome then .error 9 else if p.aO.isEmpty then .error 32 else if 256≤r.units.length then .error 5 else
    .ok { r with units:=r.units++[⟨nm e 0,nm e 1,p.aO.length,[],[],[],false,0⟩] }
def nK (r:qu)(e:je):ou:=match ku r (nm e 0)with
 |none=>.error 10
 |some i=>match r.ae[i]? with
  |none=>.error 10
  |some p=>
   if e.kind=lZ then
    (if vl e 1<0∨10000<vl e 1 then .error 3 else if 0<vl e 1∧!(p.bJ.aF.any (cO (nm e 1)))∧16≤p.bJ.aF.length then .error 5 else
     .ok (bA r i { p with bJ:={ p.bJ with aF:=iZ p.bJ.aF (nm e 1) (vl e 1) } }))
   else if e.kind=mS then
    (if vl e 2<vl e 1 then .error 11 else if !(p.bJ.aB.any (eg (nm e 1)))∧16≤p.bJ.aB.length then .error 5 else
     .ok (bA r i { p with bJ:={ p.bJ with aB:=eR (eg (nm e 1)) ⟨nm e 1,vl e 1,vl e 2⟩ p.bJ.aB } }))
   else(if p.bJ.aF.isEmpty then .error 12 else if 100≤p.aO.length then .error 5 else .ok (bA r i { p with aO:=p.aO++[p.bJ] }))
def uT (r:qu)(e:je):ou:=match y9 r (nm e 0)with
 |none=>.error 10
 |some i=>match r.aq[i]? with
  |none=>.error 10
  |some x=>if e.kind=nG then(if x.held then .error 34 else .ok (b6 r i { x with held:=true }))else(if !x.held then .error 20 else .ok (b6 r i { x with held:=false }))
def vZ (wrap:Int→Int)(r:qu)(i:Nat)(u:qz)(e:je):ou:=match y9 r (nm e 1)with
 |none=>.error 10
 |some k=>match r.aq[k]? with
  |none=>.error 10
  |some x=>if u.ar then .error 21 else if vl e 1=0 then .error 3 else if x.held then .error 34 else
   if !((gX r u).any fun d=>d.aF.any (cO x.kind))then .error 7 else if x.left<vl e 1 then .error 4 else
    .ok (aw (b6 r k { x with left:=wrap (x.left-vl e 1) }) i { u with uses:=l6 wrap u.uses x.name (vl e 1) })
def wc (r:qu)(i:Nat)(u:qz)(e:je):ou:=match kh r (nm e 1)with
 |none=>.error 10
 |some k=>match r.units[k]? with
  |none=>.error 10
  |some v=>if i=k then .error 9 else if u.product≠v.product∨u.version≠v.version then .error 30 else if u.ar∨v.ar then .error 21 else
   if u.partner≠[]∨v.partner≠[]then .error 35 else .ok (aw (aw r i { u with partner:=v.name }) k { v with partner:=u.name })
def nL (wrap:Int→Int)(r:qu)(e:je):ou:=match kh r (nm e 0)with
 |none=>.error 10
 |some i=>match r.units[i]? with
  |none=>.error 10
  |some u=>
   if e.kind=l3 then vZ wrap r i u e
   else if e.kind=mT then wc r i u e
   else if e.kind=oj then
    (if u.ar then .error 21 else if !((gX r u).any fun d=>d.aB.any (eg (nm e 1)))then .error 7 else if 64≤u.results.length then .error 5 else
     .ok (aw r i { u with results:=u.results++[⟨nm e 1,u.version,vl e 1⟩] }))
   else if e.kind=pk then
    (if u.ar then .error 21 else match pn r u with
     |none=>.error 32
     |some v=>if u.version=v then .error 32 else .ok (aw r i { u with version:=v }))
   else if e.kind=kH then(if qU wrap r u≠0 then .error (qU wrap r u)else .ok (aw r i { u with ar:=true }))
   else(if !u.ar then .error 20 else .ok (aw r i { u with aj:=wrap (u.aj+1) }))
def apply (wrap:Int→Int)(r:qu)(e:je):ou:=
 if e.kind=lY∨e.kind=mR∨e.kind=l0 then nJ r e
 else if e.kind=lZ∨e.kind=mS∨e.kind=pj then nK r e
 else if e.kind=nG∨e.kind=qR then uT r e
 else nL wrap r e
def after (wrap:Int→Int)(r:qu)(e:je):ou:=if vl e 0<r.day then .error 20 else match apply wrap r e with
 | .error x=>.error x
 | .ok r'=>.ok { r' with day:=vl e 0 }
structure WF (r:qu):Prop where
 aF:∀p∈r.ae,kx (·.k) p.bJ.aF∧p.bJ.aF.length≤16
 aB:∀p∈r.ae,kx (·.k) p.bJ.aB∧p.bJ.aB.length≤16
 dJ:∀u∈r.units,(gX r u).isSome
 uses:∀u∈r.units,kx (·.k) u.uses∧∀x∈u.uses,(y9 r x.k).isSome
theorem WF.empty (d:Int):WF ⟨d,[],[],[]⟩:=⟨by simp,by simp,by simp,by simp⟩
theorem findIdx?_append {α:Type}{p:α→Bool}{l m:List α}{k:Nat}(h:l.findIdx? p=Ga k):(l++m).findIdx? p=Ga k:=by
 rw[List.findIdx?_append,h];rfl
theorem fS {α:Type}{p:α→Bool}{l:List α}{i:Nat}{x y:α}(hy:l[i]?=Ga y)(hxy:p x=p y):(l.set i x).findIdx? p=l.findIdx? p:=by
 induction l generalizing i with
 |nil=>rfl
 |cons z l ih=>
  cases i with
  |zero=>
   simp at hy;subst hy
   rw[List.set_cons_zero,E6,E6,hxy]
  |succ i=>
   rw[List.set_cons_succ,E6,E6,ih (by simpa using hy)]
theorem qol {r r':qu}{u:qz}(h:∀n p,ia r n=Ga p→∃p',ia r' n=Ga p'∧∃m,p'.aO=p.aO++m)(hp:(gX r u).isSome):(gX r' u).isSome:=by
 unfold gX at *
 cases hq:ia r u.product with
 |none=>rw[hq]at hp;simp at hp
 |some p=>
  rw[hq]at hp
  obtain⟨p',h1,m,h2⟩:=h _ _ hq
  rw[h1]
  simp only[Gb,D2]at hp ⊢
  split at hp
  ·rename_i hv
   rw[if_pos hv,h2]
   have aY:=(I.1 (Ht hp).symm).1
   rw[Ev aY];exact hp
  ·simp at hp
theorem q41 {r r':qu}(h:r'.ae=r.ae)(n:Str):ia r' n=ia r n:=by unfold ia ku;rw[h]
theorem q9l {r r':qu}(h:r'.ae=r.ae)(u:qz):gX r' u=gX r u:=by unfold gX;rw[q41 h]
theorem Bx {r r':qu}{u:qz}(hp:(gX r u).isSome)(h:r'.ae=r.ae:=by rfl):(gX r' u).isSome:=by rw[q9l h];exact hp
theorem q8m {r:qu}{i:Nat}{p p':jh}(hp:r.ae[i]?=Ga p)(hn:p'.name=p.name)(hd:∃m,p'.aO=p.aO++m)(n:Str)(q:jh)(hq:ia r n=Ga q):∃q',ia (bA r i p') n=Ga q'∧∃m,q'.aO=q.aO++m:=by
 unfold ia ku at *
 simp only[bA]
 rw[fS hp (by simp[hn])]
 cases hk:r.ae.findIdx? (fun x=>decide (x.name=n))with
 |none=>rw[hk]at hq;simp at hq
 |some k=>
  rw[hk]at hq
  simp only[Gb]at hq ⊢
  have aY:=(I.1 hp).1
  by_cases Ao:k=i
  ·subst Ao
   rw[hp]at hq;cases hq
   exact⟨p',by rw[Eo aY],hd⟩
  ·exact⟨q,by rw[En (Gk Ao)];exact hq,[],by simp⟩
theorem yA {α:Type}{l:List α}{i:Nat}{x y:α}(h:y∈l.set i x):y∈l∨y=x:=List.mem_or_eq_of_mem_set h
theorem q2q {wrap:Int→Int}{l:List qk}{k:Str}{n:Int}(h:kx (·.k) l):kx (·.k) (l6 wrap l k n):=by
 unfold l6
 cases hi:l.findIdx? (cO k)with
 |none=>
  have:=OO (key:=fun x:qk=>x.k) (k:=k) (x:=⟨k,n⟩) rfl h
  unfold eR at this
  rw[show l.findIdx? (fun y=>decide (y.k=k))=none from hi]at this
  exact this
 |some i=>
  obtain⟨x,h1,_⟩:=bG hi
  simp only[h1]
  exact qz6 rfl h hi
theorem q71 {wrap:Int→Int}{l:List qk}{k:Str}{n:Int}{x:qk}(h:x∈l6 wrap l k n):x.k=k∨x∈l:=by
 unfold l6 at h
 split at h
 ·split at h
  ·rcases yA h with h|rfl
   ·exact .inr h
   ·exact .inl rfl
  ·exact .inr h
 ·rcases E5.1 h with h|h
  ·exact .inr h
  ·simp at h;subst h;exact .inl rfl
theorem qzz {r:qu}{i:Nat}{x y:qj}(hx:r.aq[i]?=Ga x)(hn:y.name=x.name)(n:Str):y9 (b6 r i y) n=y9 r n:=by
 unfold y9 b6;exact fS hx (by simp[hn])
theorem WF.aw {r:qu}(w:WF r){i:Nat}{u u':qz}(hu:r.units[i]?=Ga u)(hp:(gX r u').isSome)(hk:kx (·.k) u'.uses∧∀x∈u'.uses,(y9 r x.k).isSome):WF (aw r i u'):=by
 refine⟨w.aF,w.aB,?_,?_⟩
 ·intro v hv
  refine Bx (r:=r) ?_
  rcases yA hv with hv|rfl
  ·exact w.dJ v hv
  ·exact hp
 ·intro v hv
  rcases yA hv with hv|rfl
  ·exact w.uses v hv
  ·exact hk
theorem WF.b6 {r:qu}(w:WF r){i:Nat}{x y:qj}(hx:r.aq[i]?=Ga x)(hn:y.name=x.name):WF (b6 r i y):=
 ⟨w.aF,w.aB,fun u hu=>Bx (w.dJ u hu),fun u hu=>⟨(w.uses u hu).1,fun z hz=>by rw[qzz hx hn];exact(w.uses u hu).2 z hz⟩⟩
theorem WF.bA {r:qu}(w:WF r){i:Nat}{p p':jh}(hp:r.ae[i]?=Ga p)(hn:p'.name=p.name)(hd:∃m,p'.aO=p.aO++m)(h1:kx (·.k) p'.bJ.aF∧p'.bJ.aF.length≤16)(h2:kx (·.k) p'.bJ.aB∧p'.bJ.aB.length≤16):WF (bA r i p'):=by
 refine⟨?_,?_,?_,?_⟩
 ·intro q hq
  rcases yA hq with hq|rfl
  ·exact w.aF q hq
  ·exact h1
 ·intro q hq
  rcases yA hq with hq|rfl
  ·exact w.aB q hq
  ·exact h2
 ·intro u hu
  exact qol (fun n q hq=>q8m hp hn hd n q hq) (w.dJ u hu)
 ·exact w.uses
theorem qwy {α:Type}{p:α→Bool}{x:α}{l:List α}(h:l.length≤16)(h2:¬(!(l.any p)∧16≤l.length)):(eR p x l).length≤16:=by
 unfold eR
 cases hi:l.findIdx? p with
 |some i=>simpa using h
 |none=>
  have:l.any p=false:=by rw[D5,hi];rfl
  simp[this]at h2
  simp;omega
theorem q60 {l:List qk}{k:Str}{n:Int}(h:kx (·.k) l∧l.length≤16)(h0:0≤n)(h2:¬(0<n∧!(l.any (cO k))∧16≤l.length)):kx (·.k) (iZ l k n)∧(iZ l k n).length≤16:=by
 unfold iZ
 by_cases hn:n=0
 ·rw[if_pos hn]
  exact⟨q1y _ h.1,Nat.le_trans (List.length_filter_le _ _) h.2⟩
 ·rw[if_neg hn]
  refine⟨OO (key:=fun x:qk=>x.k) rfl h.1,qwy h.2 fun hh=>h2 ⟨by omega,hh.1,hh.2⟩⟩
theorem jd3 {wrap:Int→Int}{r r':qu}{e:je}(w:WF r)(h:after wrap r e=.ok r'):WF r':=by
 unfold after at h
 split at h
 ·cases h
 split at h
 ·cases h
 rename_i r1 ha
 cases h
 suffices hw:WF r1 from⟨hw.aF,hw.aB,fun u hu=>Bx (hw.dJ u hu),hw.uses⟩
 unfold apply at ha
 split at ha
 ·-- a new thing
  unfold nJ at ha
  split at ha
  ·repeat' split at ha
   all_goals first|(cases ha;done)|skip
   cases ha
   exact⟨w.aF,w.aB,fun u hu=>Bx (w.dJ u hu),fun u hu=>⟨(w.uses u hu).1,fun x hx=>by
    have:=(w.uses u hu).2 x hx
    unfold y9 at *
    obtain⟨k,hk⟩:=Option.isSome_iff_exists.1 this
    rw[findIdx?_append hk];rfl⟩⟩
  split at ha
  ·repeat' split at ha
   all_goals first|(cases ha;done)|skip
   cases ha
   refine⟨?_,?_,?_,w.uses⟩
   ·intro p hp
    rcases E5.1 hp with hp|hp
    ·exact w.aF p hp
    ·simp at hp;subst hp;exact⟨by simp[kx],by simp⟩
   ·intro p hp
    rcases E5.1 hp with hp|hp
    ·exact w.aB p hp
    ·simp at hp;subst hp;exact⟨by simp[kx],by simp⟩
   ·intro u hu
    refine qol (fun n p hp=>⟨p,?_,[],by simp⟩) (w.dJ u hu)
    unfold ia ku at *
    cases hk:r.ae.findIdx? (fun x=>decide (x.name=n))with
    |none=>rw[hk]at hp;simp at hp
    |some k=>
     rw[hk]at hp
     rw[findIdx?_append hk]
     simp only[Gb]at hp ⊢
     rw[Ev (I.1 hp).1];exact hp
  ·split at ha
   ·cases ha
   rename_i p hp
   repeat' split at ha
   all_goals first|(cases ha;done)|skip
   rename_i br _
   cases ha
   refine⟨w.aF,w.aB,?_,?_⟩
   ·intro u hu
    refine Bx (r:=r) ?_
    rcases E5.1 hu with hu|hu
    ·exact w.dJ u hu
    ·simp at hu;subst hu
     unfold gX
     simp only[hp,Gb,D2]
     have:0<p.aO.length:=by
      cases hd:p.aO with
      |nil=>rw[hd]at br;simp at br
      |cons _ _=>simp
     rw[if_pos (by omega),Eh (by omega)];rfl
   ·intro u hu
    rcases E5.1 hu with hu|hu
    ·exact w.uses u hu
    ·simp at hu;subst hu;exact⟨by simp[kx],by simp⟩
 split at ha
 ·-- a product
  unfold nK at ha
  split at ha
  ·cases ha
  split at ha
  ·cases ha
  rename_i i hi p hp
  have cR:=El hp
  split at ha
  ·repeat' split at ha
   all_goals first|(cases ha;done)|skip
   rename_i hr h2
   cases ha
   exact w.bA hp rfl ⟨[],by simp⟩ (q60 (w.aF p cR) (by omega) h2) (w.aB p cR)
  split at ha
  ·repeat' split at ha
   all_goals first|(cases ha;done)|skip
   rename_i hr h2
   cases ha
   exact w.bA hp rfl ⟨[],by simp⟩ (w.aF p cR) ⟨OO (key:=fun x:qi=>x.k) rfl (w.aB p cR).1,qwy (w.aB p cR).2 h2⟩
  ·repeat' split at ha
   all_goals first|(cases ha;done)|skip
   cases ha
   exact w.bA hp rfl ⟨_,rfl⟩ (w.aF p cR) (w.aB p cR)
 split at ha
 ·-- a lot
  unfold uT at ha
  split at ha
  ·cases ha
  split at ha
  ·cases ha
  rename_i i hi x hx
  repeat' split at ha
  all_goals first|(cases ha;done)|(cases ha;exact w.b6 hx rfl)
 ·-- a unit
  unfold nL at ha
  split at ha
  ·cases ha
  split at ha
  ·cases ha
  rename_i i hi u hu
  have cR:=El hu
  have tX:=w.dJ u cR
  split at ha
  ·unfold vZ at ha
   split at ha
   ·cases ha
   split at ha
   ·cases ha
   rename_i _ k hk _ x hx
   repeat' split at ha
   all_goals first|(cases ha;done)|skip
   cases ha
   refine(w.b6 (y:={ x with left:=wrap (x.left-vl e 1) }) hx rfl).aw (u':={ u with uses:=l6 wrap u.uses x.name (vl e 1) }) hu (Bx (r:=r) tX) ⟨q2q (w.uses u cR).1,fun z hz=>?_⟩
   rw[qzz (y:={ x with left:=wrap (x.left-vl e 1) }) hx rfl]
   rcases q71 hz with hz|hz
   ·obtain⟨y,h1,h2,_⟩:=bG hk
    rw[hx]at h1;cases h1
    simp at h2
    rw[hz,h2,hk];rfl
   ·exact(w.uses u cR).2 z hz
  split at ha
  ·unfold wc at ha
   split at ha
   ·cases ha
   split at ha
   ·cases ha
   rename_i k hk v hv
   have Bz:=El hv
   split at ha
   ·cases ha
   rename_i Ap
   repeat' split at ha
   all_goals first|(cases ha;done)|skip
   cases ha
   exact(w.aw (u':={ u with partner:=v.name }) hu tX (w.uses u cR)).aw (u':={ v with partner:=u.name }) (by simp only[aw];rw[En Ap];exact hv) (Bx (r:=r) (w.dJ v Bz)) (w.uses v Bz)
  split at ha
  ·repeat' split at ha
   all_goals first|(cases ha;done)|skip
   cases ha
   exact w.aw hu tX (w.uses u cR)
  split at ha
  ·split at ha
   ·cases ha
   split at ha
   ·cases ha
   rename_i v hv
   split at ha
   ·cases ha
   cases ha
   refine w.aw hu ?_ (w.uses u cR)
   unfold gX pn at *
   cases hq:ia r u.product with
   |none=>rw[hq]at hv;simp at hv
   |some p=>
    rw[hq]at hv tX
    simp only[Option.map_some,Ga.injEq,Gb]at hv tX ⊢
    subst hv
    unfold D2 at tX ⊢
    split at tX
    ·have aY:=(I.1 (Ht tX).symm).1
     rw[if_pos (by omega),Eh (by omega)];rfl
    ·simp at tX
  split at ha
  ·split at ha
   ·cases ha
   cases ha
   exact w.aw hu tX (w.uses u cR)
  ·split at ha
   ·cases ha
   cases ha
   exact w.aw hu tX (w.uses u cR)
end Go.W
namespace Go.W
def cW:List (Str×Nat×Nat):=[(lY,2,2),(mR,1,1),(lZ,2,2),(mS,2,3),(pj,1,1),(l0,2,1),(l3,2,2),(oj,2,2),(pk,1,1),(mT,2,1),(nG,1,1),(qR,1,1),(kH,1,1),(xM,1,1),(ol,0,0)]
def fP (k:Str):Option (Nat×Nat):=(cW.find? fun x=>decide (x.1=k)).map (·.2)
def uZ (c:UInt8):Bool:=(decide (65≤c.toNat)&&decide (c.toNat≤90))||(decide (97≤c.toNat)&&decide (c.toNat≤122))
def Ei (c:UInt8):Bool:=(decide (48≤c.toNat)&&decide (c.toNat≤57))||decide (c.toNat=95)
def cj (s:Str):Bool:=match s with
 | []=>false
 |c::t=>uZ c&&t.all (fun c=>uZ c||Ei c)&&decide (s.length≤24)
def kg (e:je):Int:=
 if e.number<1∨1000<e.number then 3 else match fP e.kind with
 |none=>13
 |some f=>if e.names.length≠f.1∨e.values.length≠f.2 then 2 else if !(e.names.all cj)then 8 else if !(e.values.all fun n=>decide (0≤n)&&decide (n≤999999999))then 3 else if e.text≠[]then 1 else 0
abbrev fA:=List je×List qu
def l8:qu:=⟨0,[],[],[]⟩
def now (h:fA):qu:=h.2.getLast?.getD l8
def accept (wrap:Int→Int)(h:fA)(k:Int)(e:je):Except Int fA:=
 if e.number≠k then .error 11 else
 if e.kind=ol then(match h.1.getLast? with
  |none=>.error 12
  |some c=>if c.kind=kH then .error 19 else .ok (h.1.dropLast,h.2.dropLast))
 else match after wrap (now h) e with
  | .error x=>.error x
  | .ok r=>.ok (h.1++[e],h.2++[r])
def vd (wrap:Int→Int):Nat→fA→List je→Except (Int×Int) fA
 |_,h,[]=>.ok h
 |i,h,e::l=>if kg e≠0 then .error ((i:Int)+1,kg e)else match accept wrap h ((i:Int)+1) e with
  | .error x=>.error ((i:Int)+1,x)
  | .ok h'=>vd wrap (i+1) h' l
def run (wrap:Int→Int)(l:List je):Except (Int×Int) fA:=if 1000<l.length then .error (0,5)else vd wrap 0 ([],[l8]) l
structure jd (wrap:Int→Int)(h:fA):Prop where
 len:h.2.length=h.1.length+1
 first:h.2[0]?=Ga l8
 next:∀j e r,h.1[j]?=Ga e→h.2[j]?=Ga r→∃r',h.2[j+1]?=Ga r'∧after wrap r e=.ok r'
 kinds:∀e∈h.1,kg e=0∧e.kind≠ol
theorem jd.empty {wrap:Int→Int}:jd wrap ([],[l8]):=⟨rfl,rfl,fun j e r h=>by simp at h,by simp⟩
theorem jd.now {wrap:Int→Int}{h:fA}(k:jd wrap h):h.2[h.1.length]?=Ga (Go.W.now h):=by
 unfold Go.W.now
 have hl:=k.len
 rw[List.getLast?_eq_getElem?,hl]
 have:h.1.length<h.2.length:=by omega
 simp[Eh this]
theorem jd.accept {wrap:Int→Int}{h h':fA}{k:Int}{e:je}(o:jd wrap h)(hc:kg e=0)(ha:accept wrap h k e=.ok h'):jd wrap h':=by
 unfold Go.W.accept at ha
 split at ha
 ·cases ha
 split at ha
 ·split at ha
  ·cases ha
  ·rename_i c hc
   split at ha
   ·cases ha
   cases ha
   have gR:0<h.1.length:=by
    cases hh:h.1 with
    |nil=>rw[hh]at hc;simp at hc
    |cons _ _=>simp
   have hl:=o.len
   refine⟨by simp only[List.length_dropLast];omega,?_,?_,?_⟩
   ·rw[Gm,if_pos (by omega)];exact o.first
   ·intro j e' r h1 h2
    simp only[Gm]at h1 h2 ⊢
    split at h1
    ·rename_i hj
     rw[if_pos (by omega)]at h2
     rw[if_pos (by omega)]
     exact o.next j e' r h1 h2
    ·cases h1
   ·intro e' he
    exact o.kinds e' (List.mem_of_mem_take (by rwa [List.dropLast_eq_take]at he))
 ·rename_i hnu
  split at ha
  ·cases ha
  ·rename_i r hr
   cases ha
   have hl:=o.len
   refine⟨by simp only[List.length_append,List.length_cons,List.length_nil];omega,?_,?_,?_⟩
   ·rw[Ev (by omega)];exact o.first
   ·intro j e' q h1 h2
    by_cases hj:j<h.1.length
    ·rw[Ev hj]at h1
     rw[Ev (by omega)]at h2
     obtain⟨r',k1,k2⟩:=o.next j e' q h1 h2
     exact⟨r',by rw[Ev (by have:=(I.1 k1).1;omega)];exact k1,k2⟩
    ·have hj':j=h.1.length:=by have:=(I.1 h1).1;simp at this;omega
     subst hj'
     rw[Gi (Nat.le_refl _)]at h1
     simp at h1;subst h1
     rw[Ev (by omega),o.now]at h2
     cases h2
     exact⟨r,by rw[Gi (by omega)];simp[hl],hr⟩
   ·intro e' he
    rcases E5.1 he with he|he
    ·exact o.kinds e' he
    ·simp at he;subst he;exact⟨hc,hnu⟩
theorem jd.wf {wrap:Int→Int}{h:fA}(o:jd wrap h):∀(j:Nat) (r:qu),h.2[j]?=Ga r→WF r
 |0,r,hr=>by rw[o.first]at hr;cases hr;exact WF.empty 0
 |j+1,r,hr=>by
  have aY:=(I.1 hr).1
  have hl:=o.len
  have h1:j<h.1.length:=by omega
  obtain⟨r',k1,k2⟩:=o.next j _ _ (Eh h1) (Eh (by omega:j<h.2.length))
  rw[k1]at hr;cases hr
  exact jd3 (jd.wf o j _ (Eh (by omega))) k2
theorem jd.qZ {wrap:Int→Int}{h:fA}(o:jd wrap h):WF (Go.W.now h):=o.wf _ _ o.now
end Go.W
namespace Go.W
structure jf (r:qu):Prop where
 units:kx (·.name) r.units
 named:∀u∈r.units,u.name≠[]
 iC:∀u∈r.units,u.partner≠[]→∃v∈r.units,v.name=u.partner∧v.partner=u.name
 aq:kx (·.name) r.aq
 iD:kx (·.name) r.ae
 kinds:∀u∈r.units,∀v∈r.units,v.name=u.partner→v.product=u.product
theorem jf.empty (d:Int):jf ⟨d,[],[],[]⟩:=⟨by simp[kx],by simp,by simp,by simp[kx],by simp[kx],by simp⟩
theorem WV {α β:Type}[DecidableEq β]{key:α→β}{l:List α}{x:α}(h:kx key l)(hn:l.findIdx? (fun y=>decide (key y=key x))=none):kx key (l++[x]):=by
 have:=OO (x:=x) rfl h
 unfold eR at this
 rw[hn]at this
 exact this
theorem q1f {α β:Type}{key:α→β}{l:List α}{i:Nat}{x y:α}(hy:l[i]?=Ga y)(hk:key x=key y):(l.set i x).map key=l.map key:=by
 rw[Ip]
 apply Gp
 intro j
 by_cases hj:j=i
 ·subst hj
  have aY:=(I.1 hy).1
  rw[Eo (by simpa using aY),E7,hy,hk];rfl
 ·rw[En (Gk hj)]
theorem EA {α β:Type}{key:α→β}{l:List α}{i:Nat}{x y:α}(h:kx key l)(hy:l[i]?=Ga y)(hk:key x=key y):kx key (l.set i x):=by
 unfold kx at *;rw[q1f hy hk];exact h
theorem jf.aw {r:qu}(w:jf r){i:Nat}{u u':qz}(hu:r.units[i]?=Ga u)(h1:u'.name=u.name)(h2:u'.partner=u.partner)(h3:u'.product=u.product):jf (aw r i u'):=by
 have hm:=El hu
 have aY:=(I.1 hu).1
 -- each unit of the new list stands for one of the old with the same name,partner and product
 have old:∀v∈(Go.W.aw r i u').units,∃v0∈r.units,v0.name=v.name∧v0.partner=v.partner∧v0.product=v.product:=by
  intro v hv
  rcases yA hv with hv|rfl
  ·exact⟨v,hv,rfl,rfl,rfl⟩
  ·exact⟨u,hm,h1.symm,h2.symm,h3.symm⟩
 have new:∀v∈r.units,∃v1∈(Go.W.aw r i u').units,v1.name=v.name∧v1.partner=v.partner:=by
  intro v hv
  obtain⟨j,hj⟩:=Gc hv
  by_cases oV:j=i
  ·subst oV
   rw[hu]at hj;cases hj
   exact⟨u',El (i:=j) (by simp only[Go.W.aw];rw[Eo aY]),h1,h2⟩
  ·exact⟨v,El (i:=j) (by simp only[Go.W.aw];rw[En (Gk oV)];exact hj),rfl,rfl⟩
 refine⟨EA w.units hu h1,?_,?_,w.aq,w.iD,?_⟩
 ·intro v hv
  obtain⟨v0,k0,k1,_⟩:=old v hv
  rw[←k1];exact w.named v0 k0
 ·intro v hv hp
  obtain⟨v0,k0,k1,k2,_⟩:=old v hv
  obtain⟨z,z0,z1,z2⟩:=w.iC v0 k0 (by rw[k2];exact hp)
  obtain⟨z',y0,y1,y2⟩:=new z z0
  exact⟨z',y0,by rw[y1,z1,k2],by rw[y2,z2,k1]⟩
 ·intro v hv z hz hn
  obtain⟨v0,k0,k1,k2,k3⟩:=old v hv
  obtain⟨z0,j0,j1,j2,j3⟩:=old z hz
  rw[←j3,←k3]
  exact w.kinds v0 k0 z0 j0 (by rw[j1,k2];exact hn)
theorem jf.iE {r:qu}(w:jf r){ls:List qj}(h:kx (·.name) ls):jf { r with aq:=ls }:=⟨w.units,w.named,w.iC,h,w.iD,w.kinds⟩
theorem jf.jR {r:qu}(w:jf r){ps:List jh}(h:kx (·.name) ps):jf { r with ae:=ps }:=⟨w.units,w.named,w.iC,w.aq,h,w.kinds⟩
theorem WW {α β:Type}{key:α→β}{l:List α}(h:kx key l){x y:α}(hx:x∈l)(hy:y∈l)(he:key x=key y):x=y:=by
 induction l with
 |nil=>cases hx
 |cons z l ih=>
  have hn:=Hb.1 (by simpa[kx]using h:(key z::l.map key).Nodup)
  rcases Gn.1 hx with rfl|eM
  ·rcases Gn.1 hy with rfl|pS
   ·rfl
   ·exact absurd (by rw[he];exact Gh pS) hn.1
  ·rcases Gn.1 hy with rfl|pS
   ·exact absurd (by rw[←he];exact Gh eM) hn.1
   ·exact ih hn.2 eM pS
theorem jbx {wrap:Int→Int}{r r':qu}{e:je}(w:jf r)(hc:e.names.all (fun s=>!s.isEmpty)=true)(hb:e.kind=l0→0<e.names.length)(h:after wrap r e=.ok r'):jf r':=by
 unfold after at h
 split at h
 ·cases h
 split at h
 ·cases h
 rename_i r1 ha
 cases h
 suffices hw:jf r1 from⟨hw.units,hw.named,hw.iC,hw.aq,hw.iD,hw.kinds⟩
 unfold apply at ha
 split at ha
 ·rename_i hk3
  unfold nJ at ha
  split at ha
  ·repeat' split at ha
   all_goals first|(cases ha;done)|skip
   rename_i hn _ _
   cases ha
   refine w.iE (WV w.aq ?_)
   simpa[y9]using hn
  split at ha
  ·repeat' split at ha
   all_goals first|(cases ha;done)|skip
   rename_i hn _
   cases ha
   refine w.jR (WV w.iD ?_)
   simpa[ku]using hn
  ·rename_i fG cV
   have jY:e.kind=l0:=by rcases hk3 with h|h|h<;>first|exact absurd h fG|exact absurd h cV|exact h
   split at ha
   ·cases ha
   rename_i p hp
   repeat' split at ha
   all_goals first|(cases ha;done)|skip
   rename_i hn _ _
   cases ha
   have iK:r.units.findIdx? (fun x=>decide (x.name=nm e 0))=none:=by simpa[kh]using hn
   have cQ:∀v∈r.units,v.name≠nm e 0:=fun v hv=>by
    have:=(fb.1 iK) v hv
    simpa using this
   have br:nm e 0≠[]:=by
    have hl:=hb jY
    unfold nm
    rw[Eh hl]
    have:=Gx.1 hc _ (Ha hl)
    simpa using this
   refine⟨WV w.units iK,?_,?_,w.aq,w.iD,?_⟩
   ·intro v hv
    rcases E5.1 hv with hv|hv
    ·exact w.named v hv
    ·simp at hv;subst hv;exact br
   ·intro v hv dV
    rcases E5.1 hv with hv|hv
    ·obtain⟨z,z0,z1⟩:=w.iC v hv dV
     exact⟨z,List.mem_append_left _ z0,z1⟩
    ·simp at hv;subst hv;simp at dV
   ·intro v hv z hz EB
    rcases E5.1 hv with hv|hv
    ·rcases E5.1 hz with hz|hz
     ·exact w.kinds v hv z hz EB
     ·simp at hz;subst hz
      -- the partner of an older unit is an older unit
      by_cases Hv:v.partner=[]
      ·rw[Hv]at EB;exact absurd EB br
      ·obtain⟨y,y0,y1,_⟩:=w.iC v hv Hv
       exact absurd (by rw[y1,←EB]) (cQ y y0)
    ·simp at hv;subst hv
     simp only at EB
     rcases E5.1 hz with hz|hz
     ·exact absurd EB (w.named z hz)
     ·simp at hz;subst hz;rfl
 split at ha
 ·unfold nK at ha
  split at ha
  ·cases ha
  split at ha
  ·cases ha
  rename_i _ i hi _ p hp
  have key:∀p':jh,p'.name=p.name→jf (bA r i p'):=fun p' hn=>w.jR (EA w.iD hp hn)
  repeat' split at ha
  all_goals first|(cases ha;done)|(cases ha;exact key _ rfl)
 split at ha
 ·unfold uT at ha
  split at ha
  ·cases ha
  split at ha
  ·cases ha
  rename_i _ i hi _ x hx
  have key:∀x':qj,x'.name=x.name→jf (b6 r i x'):=fun x' hn=>w.iE (EA w.aq hx hn)
  repeat' split at ha
  all_goals first|(cases ha;done)|(cases ha;exact key _ rfl)
 ·unfold nL at ha
  split at ha
  ·cases ha
  split at ha
  ·cases ha
  rename_i _ i hi _ u hu
  have hm:=El hu
  have key:∀u':qz,u'.name=u.name→u'.partner=u.partner→u'.product=u.product→jf (aw r i u'):=fun u' k1 k2 k3=>w.aw hu k1 k2 k3
  split at ha
  ·unfold vZ at ha
   split at ha
   ·cases ha
   split at ha
   ·cases ha
   rename_i _ k hk _ x hx
   repeat' split at ha
   all_goals first|(cases ha;done)|skip
   cases ha
   exact jf.aw (r:=b6 r k { x with left:=wrap (x.left-vl e 1) }) (u':={ u with uses:=l6 wrap u.uses x.name (vl e 1) }) (w.iE (EA (x:={ x with left:=wrap (x.left-vl e 1) }) w.aq hx rfl)) hu rfl rfl rfl
  split at ha
  ·unfold wc at ha
   split at ha
   ·cases ha
   split at ha
   ·cases ha
   rename_i _ k hk _ v hv
   split at ha
   ·cases ha
   rename_i Ap
   split at ha
   ·cases ha
   rename_i pM
   split at ha
   ·cases ha
   split at ha
   ·cases ha
   rename_i hnp
   cases ha
   have Bz:=El hv
   have hup:u.partner=[]:=by by_cases h:u.partner=[]<;>simp_all
   have hvp:v.partner=[]:=by by_cases h:v.partner=[]<;>simp_all
   have yM:u.product=v.product:=by by_cases h:u.product=v.product<;>simp_all
   have WX:=(I.1 hu).1
   have hkv:=(I.1 hv).1
   have nx:(r.units.set i { u with partner:=v.name })[k]?=Ga v:=by rw[En Ap];exact hv
   have huv:u.name≠v.name:=fun he=>by
    have:=WW w.units hm Bz he
    subst this
    -- the same unit at two places
    have pR:(r.units.map (·.name)).Nodup:=w.units
    have h1:(r.units.map (·.name))[i]?=Ga u.name:=by rw[E7,hu];rfl
    have h2:(r.units.map (·.name))[k]?=Ga u.name:=by rw[E7,hv];rfl
    have:=(Gl (by simpa using WX) pR).1 (h1.trans h2.symm)
    exact Ap this
   -- the units of the new list: the two,and the old ones but for them
   have mem:∀z∈(aw (aw r i { u with partner:=v.name }) k { v with partner:=u.name }).units,z={ u with partner:=v.name }∨z={ v with partner:=u.name }∨(z∈r.units∧z.name≠u.name∧z.name≠v.name):=by
    intro z hz
    obtain⟨j,hj⟩:=Gc hz
    simp only[aw]at hj
    by_cases WY:j=k
    ·subst WY
     rw[Eo (by simpa using hkv)]at hj
     cases hj;exact .inr (.inl rfl)
    rw[En (Gk WY)]at hj
    by_cases oV:j=i
    ·subst oV
     rw[Eo WX]at hj
     cases hj;exact .inl rfl
    rw[En (Gk oV)]at hj
    have Du:=(I.1 hj).1
    have pR:(r.units.map (·.name)).Nodup:=w.units
    have pf:(r.units.map (·.name))[j]?=Ga z.name:=by rw[E7,hj];rfl
    refine .inr (.inr ⟨El hj,fun he=>oV ?_,fun he=>WY ?_⟩)
    ·have h1:(r.units.map (·.name))[i]?=Ga u.name:=by rw[E7,hu];rfl
     exact(Gl (by simpa using Du) pR).1 (pf.trans (by rw[he];exact h1.symm))
    ·have h1:(r.units.map (·.name))[k]?=Ga v.name:=by rw[E7,hv];rfl
     exact(Gl (by simpa using Du) pR).1 (pf.trans (by rw[he];exact h1.symm))
   have inU:({ u with partner:=v.name }:qz)∈(aw (aw r i { u with partner:=v.name }) k { v with partner:=u.name }).units:=El (i:=i) (by simp only[aw];rw[En (Gk Ap),Eo WX])
   have inV:({ v with partner:=u.name }:qz)∈(aw (aw r i { u with partner:=v.name }) k { v with partner:=u.name }).units:=El (i:=k) (by simp only[aw];rw[Eo (by simpa using hkv)])
   have inZ:∀z∈r.units,z.name≠u.name→z.name≠v.name→z∈(aw (aw r i { u with partner:=v.name }) k { v with partner:=u.name }).units:=by
    intro z hz h1 h2
    obtain⟨j,hj⟩:=Gc hz
    refine El (i:=j) ?_
    simp only[aw]
    rw[En (fun e=>h2 (by subst e;rw[hv]at hj;cases hj;rfl)),En (fun e=>h1 (by subst e;rw[hu]at hj;cases hj;rfl))]
    exact hj
   refine⟨?_,?_,?_,w.aq,w.iD,?_⟩
   ·exact EA (EA w.units hu rfl) nx rfl
   ·intro z hz
    rcases mem z hz with rfl|rfl|⟨h,_⟩
    ·exact w.named u hm
    ·exact w.named v Bz
    ·exact w.named z h
   ·intro z hz hp
    rcases mem z hz with rfl|rfl|⟨h,h1,h2⟩
    ·exact⟨_,inV,rfl,rfl⟩
    ·exact⟨_,inU,rfl,rfl⟩
    ·obtain⟨y,y0,y1,y2⟩:=w.iC z h hp
     refine⟨y,inZ y y0 (fun e=>?_) (fun e=>?_),y1,y2⟩
     ·have:=WW w.units y0 hm e
      subst this
      rw[hup]at y2;exact w.named z h y2.symm
     ·have:=WW w.units y0 Bz e
      subst this
      rw[hvp]at y2;exact w.named z h y2.symm
   ·intro z hz y hy BA
    rcases mem z hz with rfl|rfl|⟨h,h1,h2⟩
    ·rcases mem y hy with rfl|rfl|⟨k0,k1,k2⟩
     ·exact absurd BA huv
     ·exact yM.symm
     ·exact absurd BA k2
    ·rcases mem y hy with rfl|rfl|⟨k0,k1,k2⟩
     ·exact yM
     ·exact absurd BA (Gk huv)
     ·exact absurd BA k1
    ·rcases mem y hy with rfl|rfl|⟨k0,k1,k2⟩
     ·exact w.kinds z h u hm BA
     ·exact w.kinds z h v Bz BA
     ·exact w.kinds z h y k0 BA
  repeat' split at ha
  all_goals first|(cases ha;done)|(cases ha;exact key _ rfl rfl rfl)
theorem NH {e:je}(h:kg e=0):e.names.all (fun s=>!s.isEmpty)=true∧∃f,fP e.kind=Ga f∧e.names.length=f.1∧e.values.length=f.2:=by
 unfold kg at h
 split at h
 ·cases h
 split at h
 ·cases h
 rename_i f hf
 split at h
 ·cases h
 rename_i hl
 split at h
 ·cases h
 rename_i hn
 refine⟨?_,f,hf,by by_cases hh:e.names.length=f.1<;>simp_all,by by_cases hh:e.values.length=f.2<;>simp_all⟩
 have hn:e.names.all cj=true:=by simpa using hn
 rw[Gx]at hn ⊢
 intro s hs
 have:=hn s hs
 cases s with
 |nil=>simp[cj]at this
 |cons c t=>rfl
theorem jd.wf2 {wrap:Int→Int}{h:fA}(o:jd wrap h):∀(j:Nat) (r:qu),h.2[j]?=Ga r→jf r
 |0,r,hr=>by rw[o.first]at hr;cases hr;exact jf.empty 0
 |j+1,r,hr=>by
  have aY:=(I.1 hr).1
  have hl:=o.len
  have h1:j<h.1.length:=by omega
  obtain⟨r',k1,k2⟩:=o.next j _ _ (Eh h1) (Eh (by omega:j<h.2.length))
  rw[k1]at hr;cases hr
  obtain⟨c1,f,c2,c3,_⟩:=NH (o.kinds _ (Ha h1)).1
  refine jbx (jd.wf2 o j _ (Eh (by omega))) c1 (fun hk=>?_) k2
  rw[hk]at c2
  have h2:fP l0=Ga (2,1):=by decide
  rw[h2]at c2
  have:f=(2,1):=(Ga.inj c2).symm
  rw[c3,this];decide
theorem jd.A7 {wrap:Int→Int}{h:fA}(o:jd wrap h):jf (Go.W.now h):=o.wf2 _ _ o.now
end Go.W
namespace Go.W
def nT (u:qz)(s:Str):Bool:=u.uses.any fun x=>decide (x.k=s)
end Go.W
