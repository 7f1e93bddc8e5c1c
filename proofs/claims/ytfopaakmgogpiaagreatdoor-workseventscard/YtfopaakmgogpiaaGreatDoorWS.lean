/- The register of chapter 10 in plain lists. -/
set_option linter.unusedVariables false
set_option linter.unusedSimpArgs false
open List renaming getElem?_eq_some_iff→I,getElem?_append_left→Ef,getElem?_eq_getElem→En,findIdx?_cons→E0,mem_of_getElem?→E1,getElem?_set_ne→E3,getElem?_set_self→E6,mem_append→E7,getElem?_append_right→Ga,getElem?_dropLast→Gb,ext_getElem?→Gd,getElem?_map→Ge,length_cons→Gm,map_cons→Gz,map_set→Ha
open Option renaming some→E4,bind_some→E9,some_get→Gy
open Bool renaming false→Gc
namespace Go.W
abbrev Str:=List UInt8
structure qm where
 k:Str
 n:Int
 deriving DecidableEq
structure qj where
 k:Str
 a:Int
 b:Int
 deriving DecidableEq
structure qk where
 name:Str
 kind:Str
 count:Int
 left:Int
 held:Bool
 deriving DecidableEq
structure jg where
 ax:List qm
 aw:List qj
 deriving DecidableEq
structure jd where
 name:Str
 bJ:jg
 aH:List jg
 deriving DecidableEq
structure qz where
 name:Str
 product:Str
 version:Int
 uses:List qm
 results:List qj
 partner:Str
 aq:Bool
 ai:Int
 deriving DecidableEq
structure qu where
 day:Int
 au:List qk
 ae:List jd
 units:List qz
 deriving DecidableEq
structure je where
 number:Int
 kind:Str
 names:List Str
 values:List Int
 text:Str
 deriving DecidableEq
def ku (r:qu)(n:Str):Option Nat:=r.au.findIdx? fun x=>decide (x.name=n)
def kq (r:qu)(n:Str):Option Nat:=r.ae.findIdx? fun x=>decide (x.name=n)
def kl (r:qu)(n:Str):Option Nat:=r.units.findIdx? fun x=>decide (x.name=n)
def hM (r:qu)(n:Str):Option jd:=(kq r n).bind fun k=>r.ae[k]?
def pv (r:qu)(u:qz):Option Int:=(hM r u.product).map fun p=>(p.aH.length:Int)
def DW (l:List jg)(v:Int):Option jg:=if 1≤v then l[(v-1).toNat]? else none
def gU (r:qu)(u:qz):Option jg:=(hM r u.product).bind fun p=>DW p.aH u.version
def nO (r:qu)(n:Str):Option qk:=(ku r n).bind fun k=>r.au[k]?
theorem bI {α:Type}{p:α→Bool}{l:List α}{k:Nat}(h:l.findIdx? p=E4 k):∃x,l[k]?=E4 x∧p x=true∧k<l.length∧∀j x,j<k→l[j]?=E4 x→p x=Gc:=by
 induction l generalizing k with
 |nil=>simp at h
 |cons y l ih=>
  rw[E0]at h
  by_cases hp:p y=true
  ·rw[if_pos hp]at h
   cases h
   exact⟨y,rfl,hp,by simp,fun j x hj=>by omega⟩
  ·rw[if_neg hp]at h
   obtain⟨i,hi,rfl⟩:=Option.map_eq_some_iff.1 h
   obtain⟨x,h1,h2,h3,h4⟩:=ih hi
   refine⟨x,by simpa using h1,h2,by simp;omega,fun j z hj hz=>?_⟩
   cases j with
   |zero=>simp at hz;subst hz;simpa using hp
   |succ j=>exact h4 j z (by omega) (by simpa using hz)
theorem jA {α:Type}{p:α→Bool}{l:List α}:l.findIdx? p=none↔∀x∈l,p x=Gc:=by
 induction l with
 |nil=>simp
 |cons y l ih=>
  rw[E0]
  by_cases hp:p y=true
  ·rw[if_pos hp];simp[hp]
  ·rw[if_neg hp]
   have eh:p y=Gc:=by simpa using hp
   simp[ih,eh]
def eX {α:Type}(same:α→Bool)(x:α)(l:List α):List α:=match l.findIdx? same with
 |some i=>l.set i x
 |none=>l++[x]
def D2 {α:Type}(same:α→Bool)(x:α)(l:List α):List α:=(l.map fun y=>if same y then x else y)++(if l.any same then []else [x])
def k9 {α β:Type}(key:α→β)(l:List α):Prop:=(l.map key).Nodup
theorem qv9 {α β:Type}[DecidableEq β]{key:α→β}{k:β}{x:α}:∀ {l:List α},k9 key l→(l.map fun y=>if decide (key y=k)then x else y)=(match l.findIdx? (fun y=>decide (key y=k))with|some i=>l.set i x|none=>l)
 | [],_=>rfl
 |y::l,h=>by
  have hn:=List.nodup_cons.1 (by simpa[k9]using h:(key y::l.map key).Nodup)
  rw[E0]
  by_cases hy:key y=k
  ·simp only[Gz,hy,decide_true,if_true]
   have:l.map (fun y=>if decide (key y=k)then x else y)=l:=by
    conv=>rhs;rw[←List.map_id l]
    refine List.map_congr_left fun z hz=>?_
    have:key z≠k:=fun e=>hn.1 (by rw[hy,←e];exact List.mem_map_of_mem hz)
    simp[this]
   rw[this];rfl
  ·have ih:=qv9 (k:=k) (x:=x) (l:=l) hn.2
   simp only[Gz,hy,decide_false,Bool.false_eq_true,if_false]
   rw[ih]
   cases l.findIdx? (fun y=>decide (key y=k))with
   |none=>rfl
   |some i=>rfl
theorem DY {α:Type}{p:α→Bool}{l:List α}:l.any p=(l.findIdx? p).isSome:=by
 induction l with
 |nil=>rfl
 |cons y l ih=>
  rw[E0,List.any_cons]
  by_cases hp:p y=true
  ·rw[if_pos hp,hp];rfl
  ·rw[if_neg hp]
   have:p y=Gc:=by simpa using hp
   rw[this,Bool.false_or,ih]
   cases l.findIdx? p<;>rfl
theorem q0l {α β:Type}[DecidableEq β]{key:α→β}{k:β}{x:α}{l:List α}(h:k9 key l):D2 (fun y=>decide (key y=k)) x l=eX (fun y=>decide (key y=k)) x l:=by
 unfold D2 eX
 rw[qv9 h,DY]
 cases l.findIdx? (fun y=>decide (key y=k))with
 |none=>simp
 |some i=>simp
theorem q0c {α β:Type}[DecidableEq β]{key:α→β}{k:β}{x:α}(hx:key x=k):∀ {l:List α} {i:Nat},k9 key l→l.findIdx? (fun y=>decide (key y=k))=E4 i→k9 key (l.set i x):=by
 intro l i h hi
 obtain⟨y,h1,h2,h3,_⟩:=bI hi
 have:(l.set i x).map key=l.map key:=by
  rw[Ha]
  apply Gd
  intro j
  by_cases hj:j=i
  ·subst hj
   rw[E6 (by simpa using h3),Ge,h1]
   simp at h2;simp[hx,h2]
  ·rw[E3 (Ne.symm hj)]
 unfold k9;rw[this];exact h
theorem WM {α β:Type}[DecidableEq β]{key:α→β}{k:β}{x:α}{l:List α}(hx:key x=k)(h:k9 key l):k9 key (eX (fun y=>decide (key y=k)) x l):=by
 unfold eX
 cases hi:l.findIdx? (fun y=>decide (key y=k))with
 |some i=>exact q0c hx h hi
 |none=>
  rw[jA]at hi
  unfold k9 at *
  rw[List.map_append,List.nodup_append]
  refine⟨h,by simp,?_⟩
  intro a ha b hb
  simp at hb
  subst hb
  obtain⟨z,hz,rfl⟩:=List.mem_map.1 ha
  have:=hi z hz
  rw[hx];simpa using this
theorem q28 {α β:Type}{key:α→β}{l:List α}(p:α→Bool)(h:k9 key l):k9 key (l.filter p):=
 List.Nodup.sublist (List.Sublist.map key List.filter_sublist) h
end Go.W
namespace Go.W
def l5:Str:=[108,111,116]
def mR:Str:=[112,114,111,100,117,99,116]
def l6:Str:=[110,101,101,100]
def mS:Str:=[116,101,115,116]
def po:Str:=[105,115,115,117,101]
def oq:Str:=[98,117,105,108,100]
def l7:Str:=[117,115,101]
def ot:Str:=[109,101,97,115,117,114,101]
def pq:Str:=[117,112,100,97,116,101]
def mT:Str:=[112,97,105,114]
def nM:Str:=[104,111,108,100]
def qO:Str:=[102,114,101,101]
def kE:Str:=[115,104,105,112]
def xy:Str:=[99,111,109,112,108,97,105,110]
def ou:Str:=[117,110,100,111]
def DX (wrap:Int→Int)(r:qu)(u:qz)(kind:Str):Int:=u.uses.foldl (fun n x=>if(nO r x.k).any (fun l=>decide (l.kind=kind))then wrap (n+x.n)else n) 0
def qP (u:qz)(t:qj):Bool:=u.results.foldl (fun is x=>if decide (x.k=t.k)&&decide (x.a=u.version)then decide (t.a≤x.b)&&decide (x.b≤t.b)else is) Gc
def xD (d:jg)(u:qz):List Str:=(d.aw.filter fun t=>!qP u t).map (·.k)
def xF (wrap:Int→Int)(r:qu)(d:jg)(u:qz):Bool:=d.ax.all fun n=>decide (n.n≤DX wrap r u n.k)
def AE (r:qu)(u:qz):Bool:=u.uses.any fun x=>(nO r x.k).any (·.held)
def uJ (wrap:Int→Int)(r:qu)(u:qz):Int:=
 if u.aq then 21 else if pv r u≠E4 u.version then 32 else
 match gU r u with
 |none=>20
 |some d=>if !xF wrap r d u then 20 else if !(xD d u).isEmpty then 31 else if AE r u then 34 else 0
def cj (r:qu)(i:Nat)(x:qk):qu:={ r with au:=r.au.set i x }
def bG (r:qu)(i:Nat)(x:jd):qu:={ r with ae:=r.ae.set i x }
def aA (r:qu)(i:Nat)(x:qz):qu:={ r with units:=r.units.set i x }
def cO (k:Str)(x:qm):Bool:=decide (x.k=k)
def ef (k:Str)(x:qj):Bool:=decide (x.k=k)
def iU (l:List qm)(k:Str)(n:Int):List qm:=if n=0 then l.filter (fun x=>!cO k x)else eX (cO k) ⟨k,n⟩ l
def mW (wrap:Int→Int)(l:List qm)(k:Str)(n:Int):List qm:=match l.findIdx? (cO k)with
 |some i=>(match l[i]? with
  |some x=>l.set i ⟨k,wrap (n+x.n)⟩
  |none=>l)
 |none=>l++[⟨k,n⟩]
def nm (e:je)(i:Nat):Str:=(e.names[i]?).getD []
def vl (e:je)(i:Nat):Int:=(e.values[i]?).getD 0
abbrev oz:=Except Int qu
def oA (r:qu)(e:je):oz:=
 if e.kind=l5 then
  (if(ku r (nm e 0)).isSome then .error 9 else if vl e 1<1∨10000<vl e 1 then .error 3 else if 64≤r.au.length then .error 5 else
   .ok { r with au:=r.au++[⟨nm e 0,nm e 1,vl e 1,vl e 1,Gc⟩] })
 else if e.kind=mR then
  (if(kq r (nm e 0)).isSome then .error 9 else if 16≤r.ae.length then .error 5 else .ok { r with ae:=r.ae++[⟨nm e 0,⟨[],[]⟩,[]⟩] })
 else match hM r (nm e 1)with
  |none=>.error 10
  |some p=>if(kl r (nm e 0)).isSome then .error 9 else if p.aH.isEmpty then .error 32 else if 256≤r.units.length then .error 5 else
    .ok { r with units:=r.units++[⟨nm e 0,nm e 1,p.aH.length,[],[],[],Gc,0⟩] }
def oB (r:qu)(e:je):oz:=match kq r (nm e 0)with
 |none=>.error 10
 |some i=>match r.ae[i]? with
  |none=>.error 10
  |some p=>
   if e.kind=l6 then
    (if vl e 1<0∨10000<vl e 1 then .error 3 else if 0<vl e 1∧!(p.bJ.ax.any (cO (nm e 1)))∧16≤p.bJ.ax.length then .error 5 else
     .ok (bG r i { p with bJ:={ p.bJ with ax:=iU p.bJ.ax (nm e 1) (vl e 1) } }))
   else if e.kind=mS then
    (if vl e 2<vl e 1 then .error 11 else if !(p.bJ.aw.any (ef (nm e 1)))∧16≤p.bJ.aw.length then .error 5 else
     .ok (bG r i { p with bJ:={ p.bJ with aw:=eX (ef (nm e 1)) ⟨nm e 1,vl e 1,vl e 2⟩ p.bJ.aw } }))
   else(if p.bJ.ax.isEmpty then .error 12 else if 100≤p.aH.length then .error 5 else .ok (bG r i { p with aH:=p.aH++[p.bJ] }))
def vM (r:qu)(e:je):oz:=match ku r (nm e 0)with
 |none=>.error 10
 |some i=>match r.au[i]? with
  |none=>.error 10
  |some x=>if e.kind=nM then(if x.held then .error 34 else .ok (cj r i { x with held:=true }))else(if !x.held then .error 20 else .ok (cj r i { x with held:=Gc }))
def xM (wrap:Int→Int)(r:qu)(i:Nat)(u:qz)(e:je):oz:=match ku r (nm e 1)with
 |none=>.error 10
 |some k=>match r.au[k]? with
  |none=>.error 10
  |some x=>if u.aq then .error 21 else if vl e 1=0 then .error 3 else if x.held then .error 34 else
   if !((gU r u).any fun d=>d.ax.any (cO x.kind))then .error 7 else if x.left<vl e 1 then .error 4 else
    .ok (aA (cj r k { x with left:=wrap (x.left-vl e 1) }) i { u with uses:=mW wrap u.uses x.name (vl e 1) })
def xN (r:qu)(i:Nat)(u:qz)(e:je):oz:=match kl r (nm e 1)with
 |none=>.error 10
 |some k=>match r.units[k]? with
  |none=>.error 10
  |some v=>if i=k then .error 9 else if u.product≠v.product∨u.version≠v.version then .error 30 else if u.aq∨v.aq then .error 21 else
   if u.partner≠[]∨v.partner≠[]then .error 35 else .ok (aA (aA r i { u with partner:=v.name }) k { v with partner:=u.name })
def oC (wrap:Int→Int)(r:qu)(e:je):oz:=match kl r (nm e 0)with
 |none=>.error 10
 |some i=>match r.units[i]? with
  |none=>.error 10
  |some u=>
   if e.kind=l7 then xM wrap r i u e
   else if e.kind=mT then xN r i u e
   else if e.kind=ot then
    (if u.aq then .error 21 else if !((gU r u).any fun d=>d.aw.any (ef (nm e 1)))then .error 7 else if 64≤u.results.length then .error 5 else
     .ok (aA r i { u with results:=u.results++[⟨nm e 1,u.version,vl e 1⟩] }))
   else if e.kind=pq then
    (if u.aq then .error 21 else match pv r u with
     |none=>.error 32
     |some v=>if u.version=v then .error 32 else .ok (aA r i { u with version:=v }))
   else if e.kind=kE then(if uJ wrap r u≠0 then .error (uJ wrap r u)else .ok (aA r i { u with aq:=true }))
   else(if !u.aq then .error 20 else .ok (aA r i { u with ai:=wrap (u.ai+1) }))
def apply (wrap:Int→Int)(r:qu)(e:je):oz:=
 if e.kind=l5∨e.kind=mR∨e.kind=oq then oA r e
 else if e.kind=l6∨e.kind=mS∨e.kind=po then oB r e
 else if e.kind=nM∨e.kind=qO then vM r e
 else oC wrap r e
def after (wrap:Int→Int)(r:qu)(e:je):oz:=if vl e 0<r.day then .error 20 else match apply wrap r e with
 | .error x=>.error x
 | .ok r'=>.ok { r' with day:=vl e 0 }
structure WF (r:qu):Prop where
 ax:∀p∈r.ae,k9 (·.k) p.bJ.ax∧p.bJ.ax.length≤16
 aw:∀p∈r.ae,k9 (·.k) p.bJ.aw∧p.bJ.aw.length≤16
 dI:∀u∈r.units,(gU r u).isSome
 uses:∀u∈r.units,k9 (·.k) u.uses∧∀x∈u.uses,(ku r x.k).isSome
theorem WF.empty (d:Int):WF ⟨d,[],[],[]⟩:=⟨by simp,by simp,by simp,by simp⟩
theorem findIdx?_append {α:Type}{p:α→Bool}{l m:List α}{k:Nat}(h:l.findIdx? p=E4 k):(l++m).findIdx? p=E4 k:=by
 rw[List.findIdx?_append,h];rfl
theorem fQ {α:Type}{p:α→Bool}{l:List α}{i:Nat}{x y:α}(hy:l[i]?=E4 y)(x5:p x=p y):(l.set i x).findIdx? p=l.findIdx? p:=by
 induction l generalizing i with
 |nil=>rfl
 |cons z l ih=>
  cases i with
  |zero=>
   simp at hy;subst hy
   rw[List.set_cons_zero,E0,E0,x5]
  |succ i=>
   rw[List.set_cons_succ,E0,E0,ih (by simpa using hy)]
theorem qnw {r r':qu}{u:qz}(h:∀n p,hM r n=E4 p→∃p',hM r' n=E4 p'∧∃m,p'.aH=p.aH++m)(hp:(gU r u).isSome):(gU r' u).isSome:=by
 unfold gU at *
 cases hq:hM r u.product with
 |none=>rw[hq]at hp;simp at hp
 |some p=>
  rw[hq]at hp
  obtain⟨p',h1,m,h2⟩:=h _ _ hq
  rw[h1]
  simp only[E9,DW]at hp ⊢
  split at hp
  ·rename_i hv
   rw[if_pos hv,h2]
   have aY:=(I.1 (Gy hp).symm).1
   rw[Ef aY];exact hp
  ·simp at hp
theorem q5w {r r':qu}(h:r'.ae=r.ae)(n:Str):hM r' n=hM r n:=by unfold hM kq;rw[h]
theorem q8q {r r':qu}(h:r'.ae=r.ae)(u:qz):gU r' u=gU r u:=by unfold gU;rw[q5w h]
theorem Bt {r r':qu}{u:qz}(hp:(gU r u).isSome)(h:r'.ae=r.ae:=by rfl):(gU r' u).isSome:=by rw[q8q h];exact hp
theorem q91 {r:qu}{i:Nat}{p p':jd}(hp:r.ae[i]?=E4 p)(hn:p'.name=p.name)(hd:∃m,p'.aH=p.aH++m)(n:Str)(q:jd)(hq:hM r n=E4 q):∃q',hM (bG r i p') n=E4 q'∧∃m,q'.aH=q.aH++m:=by
 unfold hM kq at *
 simp only[bG]
 rw[fQ hp (by simp[hn])]
 cases hk:r.ae.findIdx? (fun x=>decide (x.name=n))with
 |none=>rw[hk]at hq;simp at hq
 |some k=>
  rw[hk]at hq
  simp only[E9]at hq ⊢
  have aY:=(I.1 hp).1
  by_cases Ai:k=i
  ·subst Ai
   rw[hp]at hq;cases hq
   exact⟨p',by rw[E6 aY],hd⟩
  ·exact⟨q,by rw[E3 (Ne.symm Ai)];exact hq,[],by simp⟩
theorem xV {α:Type}{l:List α}{i:Nat}{x y:α}(h:y∈l.set i x):y∈l∨y=x:=List.mem_or_eq_of_mem_set h
theorem q4c {wrap:Int→Int}{l:List qm}{k:Str}{n:Int}(h:k9 (·.k) l):k9 (·.k) (mW wrap l k n):=by
 unfold mW
 cases hi:l.findIdx? (cO k)with
 |none=>
  have:=WM (key:=fun x:qm=>x.k) (k:=k) (x:=⟨k,n⟩) rfl h
  unfold eX at this
  rw[show l.findIdx? (fun y=>decide (y.k=k))=none from hi]at this
  exact this
 |some i=>
  obtain⟨x,h1,_⟩:=bI hi
  simp only[h1]
  exact q0c rfl h hi
theorem q81 {wrap:Int→Int}{l:List qm}{k:Str}{n:Int}{x:qm}(h:x∈mW wrap l k n):x.k=k∨x∈l:=by
 unfold mW at h
 split at h
 ·split at h
  ·rcases xV h with h|rfl
   ·exact .inr h
   ·exact .inl rfl
  ·exact .inr h
 ·rcases E7.1 h with h|h
  ·exact .inr h
  ·simp at h;subst h;exact .inl rfl
theorem q0u {r:qu}{i:Nat}{x y:qk}(hx:r.au[i]?=E4 x)(hn:y.name=x.name)(n:Str):ku (cj r i y) n=ku r n:=by
 unfold ku cj;exact fQ hx (by simp[hn])
theorem WF.aA {r:qu}(w:WF r){i:Nat}{u u':qz}(hu:r.units[i]?=E4 u)(hp:(gU r u').isSome)(hk:k9 (·.k) u'.uses∧∀x∈u'.uses,(ku r x.k).isSome):WF (aA r i u'):=by
 refine⟨w.ax,w.aw,?_,?_⟩
 ·intro v hv
  refine Bt (r:=r) ?_
  rcases xV hv with hv|rfl
  ·exact w.dI v hv
  ·exact hp
 ·intro v hv
  rcases xV hv with hv|rfl
  ·exact w.uses v hv
  ·exact hk
theorem WF.cj {r:qu}(w:WF r){i:Nat}{x y:qk}(hx:r.au[i]?=E4 x)(hn:y.name=x.name):WF (cj r i y):=
 ⟨w.ax,w.aw,fun u hu=>Bt (w.dI u hu),fun u hu=>⟨(w.uses u hu).1,fun z hz=>by rw[q0u hx hn];exact(w.uses u hu).2 z hz⟩⟩
theorem WF.bG {r:qu}(w:WF r){i:Nat}{p p':jd}(hp:r.ae[i]?=E4 p)(hn:p'.name=p.name)(hd:∃m,p'.aH=p.aH++m)(h1:k9 (·.k) p'.bJ.ax∧p'.bJ.ax.length≤16)(h2:k9 (·.k) p'.bJ.aw∧p'.bJ.aw.length≤16):WF (bG r i p'):=by
 refine⟨?_,?_,?_,?_⟩
 ·intro q hq
  rcases xV hq with hq|rfl
  ·exact w.ax q hq
  ·exact h1
 ·intro q hq
  rcases xV hq with hq|rfl
  ·exact w.aw q hq
  ·exact h2
 ·intro u hu
  exact qnw (fun n q hq=>q91 hp hn hd n q hq) (w.dI u hu)
 ·exact w.uses
theorem qx1 {α:Type}{p:α→Bool}{x:α}{l:List α}(h:l.length≤16)(h2:¬(!(l.any p)∧16≤l.length)):(eX p x l).length≤16:=by
 unfold eX
 cases hi:l.findIdx? p with
 |some i=>simpa using h
 |none=>
  have:l.any p=Gc:=by rw[DY,hi];rfl
  simp[this]at h2
  simp;omega
theorem q8u {l:List qm}{k:Str}{n:Int}(h:k9 (·.k) l∧l.length≤16)(h0:0≤n)(h2:¬(0<n∧!(l.any (cO k))∧16≤l.length)):k9 (·.k) (iU l k n)∧(iU l k n).length≤16:=by
 unfold iU
 by_cases hn:n=0
 ·rw[if_pos hn]
  exact⟨q28 _ h.1,Nat.le_trans (List.length_filter_le _ _) h.2⟩
 ·rw[if_neg hn]
  refine⟨WM (key:=fun x:qm=>x.k) rfl h.1,qx1 h.2 fun hh=>h2 ⟨by omega,hh.1,hh.2⟩⟩
theorem jg6 {wrap:Int→Int}{r r':qu}{e:je}(w:WF r)(h:after wrap r e=.ok r'):WF r':=by
 unfold after at h
 split at h
 ·cases h
 split at h
 ·cases h
 rename_i r1 ha
 cases h
 suffices hw:WF r1 from⟨hw.ax,hw.aw,fun u hu=>Bt (hw.dI u hu),hw.uses⟩
 unfold apply at ha
 split at ha
 ·-- a new thing
  unfold oA at ha
  split at ha
  ·repeat' split at ha
   all_goals first|(cases ha;done)|skip
   cases ha
   exact⟨w.ax,w.aw,fun u hu=>Bt (w.dI u hu),fun u hu=>⟨(w.uses u hu).1,fun x hx=>by
    have:=(w.uses u hu).2 x hx
    unfold ku at *
    obtain⟨k,hk⟩:=Option.isSome_iff_exists.1 this
    rw[findIdx?_append hk];rfl⟩⟩
  split at ha
  ·repeat' split at ha
   all_goals first|(cases ha;done)|skip
   cases ha
   refine⟨?_,?_,?_,w.uses⟩
   ·intro p hp
    rcases E7.1 hp with hp|hp
    ·exact w.ax p hp
    ·simp at hp;subst hp;exact⟨by simp[k9],by simp⟩
   ·intro p hp
    rcases E7.1 hp with hp|hp
    ·exact w.aw p hp
    ·simp at hp;subst hp;exact⟨by simp[k9],by simp⟩
   ·intro u hu
    refine qnw (fun n p hp=>⟨p,?_,[],by simp⟩) (w.dI u hu)
    unfold hM kq at *
    cases hk:r.ae.findIdx? (fun x=>decide (x.name=n))with
    |none=>rw[hk]at hp;simp at hp
    |some k=>
     rw[hk]at hp
     rw[findIdx?_append hk]
     simp only[E9]at hp ⊢
     rw[Ef (I.1 hp).1];exact hp
  ·split at ha
   ·cases ha
   rename_i p hp
   repeat' split at ha
   all_goals first|(cases ha;done)|skip
   rename_i bA _
   cases ha
   refine⟨w.ax,w.aw,?_,?_⟩
   ·intro u hu
    refine Bt (r:=r) ?_
    rcases E7.1 hu with hu|hu
    ·exact w.dI u hu
    ·simp at hu;subst hu
     unfold gU
     simp only[hp,E9,DW]
     have:0<p.aH.length:=by
      cases hd:p.aH with
      |nil=>rw[hd]at bA;simp at bA
      |cons _ _=>simp
     rw[if_pos (by omega),En (by omega)];rfl
   ·intro u hu
    rcases E7.1 hu with hu|hu
    ·exact w.uses u hu
    ·simp at hu;subst hu;exact⟨by simp[k9],by simp⟩
 split at ha
 ·-- a product
  unfold oB at ha
  split at ha
  ·cases ha
  split at ha
  ·cases ha
  rename_i i hi p hp
  have cS:=E1 hp
  split at ha
  ·repeat' split at ha
   all_goals first|(cases ha;done)|skip
   rename_i hr h2
   cases ha
   exact w.bG hp rfl ⟨[],by simp⟩ (q8u (w.ax p cS) (by omega) h2) (w.aw p cS)
  split at ha
  ·repeat' split at ha
   all_goals first|(cases ha;done)|skip
   rename_i hr h2
   cases ha
   exact w.bG hp rfl ⟨[],by simp⟩ (w.ax p cS) ⟨WM (key:=fun x:qj=>x.k) rfl (w.aw p cS).1,qx1 (w.aw p cS).2 h2⟩
  ·repeat' split at ha
   all_goals first|(cases ha;done)|skip
   cases ha
   exact w.bG hp rfl ⟨_,rfl⟩ (w.ax p cS) (w.aw p cS)
 split at ha
 ·-- a lot
  unfold vM at ha
  split at ha
  ·cases ha
  split at ha
  ·cases ha
  rename_i i hi x hx
  repeat' split at ha
  all_goals first|(cases ha;done)|(cases ha;exact w.cj hx rfl)
 ·-- a unit
  unfold oC at ha
  split at ha
  ·cases ha
  split at ha
  ·cases ha
  rename_i i hi u hu
  have cS:=E1 hu
  have tP:=w.dI u cS
  split at ha
  ·unfold xM at ha
   split at ha
   ·cases ha
   split at ha
   ·cases ha
   rename_i _ k hk _ x hx
   repeat' split at ha
   all_goals first|(cases ha;done)|skip
   cases ha
   refine(w.cj (y:={ x with left:=wrap (x.left-vl e 1) }) hx rfl).aA (u':={ u with uses:=mW wrap u.uses x.name (vl e 1) }) hu (Bt (r:=r) tP) ⟨q4c (w.uses u cS).1,fun z hz=>?_⟩
   rw[q0u (y:={ x with left:=wrap (x.left-vl e 1) }) hx rfl]
   rcases q81 hz with hz|hz
   ·obtain⟨y,h1,h2,_⟩:=bI hk
    rw[hx]at h1;cases h1
    simp at h2
    rw[hz,h2,hk];rfl
   ·exact(w.uses u cS).2 z hz
  split at ha
  ·unfold xN at ha
   split at ha
   ·cases ha
   split at ha
   ·cases ha
   rename_i k hk v hv
   have hmv:=E1 hv
   split at ha
   ·cases ha
   rename_i TD
   repeat' split at ha
   all_goals first|(cases ha;done)|skip
   cases ha
   exact(w.aA (u':={ u with partner:=v.name }) hu tP (w.uses u cS)).aA (u':={ v with partner:=u.name }) (by simp only[aA];rw[E3 TD];exact hv) (Bt (r:=r) (w.dI v hmv)) (w.uses v hmv)
  split at ha
  ·repeat' split at ha
   all_goals first|(cases ha;done)|skip
   cases ha
   exact w.aA hu tP (w.uses u cS)
  split at ha
  ·split at ha
   ·cases ha
   split at ha
   ·cases ha
   rename_i v hv
   split at ha
   ·cases ha
   cases ha
   refine w.aA hu ?_ (w.uses u cS)
   unfold gU pv at *
   cases hq:hM r u.product with
   |none=>rw[hq]at hv;simp at hv
   |some p=>
    rw[hq]at hv tP
    simp only[Option.map_some,E4.injEq,E9]at hv tP ⊢
    subst hv
    unfold DW at tP ⊢
    split at tP
    ·have aY:=(I.1 (Gy tP).symm).1
     rw[if_pos (by omega),En (by omega)];rfl
    ·simp at tP
  split at ha
  ·split at ha
   ·cases ha
   cases ha
   exact w.aA hu tP (w.uses u cS)
  ·split at ha
   ·cases ha
   cases ha
   exact w.aA hu tP (w.uses u cS)
end Go.W
namespace Go.W
def cX:List (Str×Nat×Nat):=[(l5,2,2),(mR,1,1),(l6,2,2),(mS,2,3),(po,1,1),(oq,2,1),(l7,2,2),(ot,2,2),(pq,1,1),(mT,2,1),(nM,1,1),(qO,1,1),(kE,1,1),(xy,1,1),(ou,0,0)]
def fS (k:Str):Option (Nat×Nat):=(cX.find? fun x=>decide (x.1=k)).map (·.2)
def uP (c:UInt8):Bool:=(decide (65≤c.toNat)&&decide (c.toNat≤90))||(decide (97≤c.toNat)&&decide (c.toNat≤122))
def Ec (c:UInt8):Bool:=(decide (48≤c.toNat)&&decide (c.toNat≤57))||decide (c.toNat=95)
def cP (s:Str):Bool:=match s with
 | []=>Gc
 |c::t=>uP c&&t.all (fun c=>uP c||Ec c)&&decide (s.length≤24)
def yt (e:je):Int:=
 if e.number<1∨1000<e.number then 3 else match fS e.kind with
 |none=>13
 |some f=>if e.names.length≠f.1∨e.values.length≠f.2 then 2 else if !(e.names.all cP)then 8 else if !(e.values.all fun n=>decide (0≤n)&&decide (n≤999999999))then 3 else if e.text≠[]then 1 else 0
abbrev fB:=List je×List qu
def lL:qu:=⟨0,[],[],[]⟩
def now (h:fB):qu:=h.2.getLast?.getD lL
def accept (wrap:Int→Int)(h:fB)(k:Int)(e:je):Except Int fB:=
 if e.number≠k then .error 11 else
 if e.kind=ou then(match h.1.getLast? with
  |none=>.error 12
  |some c=>if c.kind=kE then .error 19 else .ok (h.1.dropLast,h.2.dropLast))
 else match after wrap (now h) e with
  | .error x=>.error x
  | .ok r=>.ok (h.1++[e],h.2++[r])
def lN (wrap:Int→Int):Nat→fB→List je→Except (Int×Int) fB
 |_,h,[]=>.ok h
 |i,h,e::l=>if yt e≠0 then .error ((i:Int)+1,yt e)else match accept wrap h ((i:Int)+1) e with
  | .error x=>.error ((i:Int)+1,x)
  | .ok h'=>lN wrap (i+1) h' l
def run (wrap:Int→Int)(l:List je):Except (Int×Int) fB:=if 1000<l.length then .error (0,5)else lN wrap 0 ([],[lL]) l
theorem qna (wrap:Int→Int):∀(l m:List je) (i:Nat) (h:fB),lN wrap i h (l++m)=match lN wrap i h l with
  | .error x=>.error x
  | .ok h'=>lN wrap (i+l.length) h' m
 | [],m,i,h=>by simp[lN]
 |e::l,m,i,h=>by
  simp only[List.cons_append,lN]
  split
  ·rfl
  cases accept wrap h ((i:Int)+1) e with
  |error x=>rfl
  |ok h'=>simp only[];rw[qna wrap l m (i+1) h',Gm,show i+1+l.length=i+(l.length+1) by omega]
structure jf (wrap:Int→Int)(h:fB):Prop where
 len:h.2.length=h.1.length+1
 first:h.2[0]?=E4 lL
 next:∀j e r,h.1[j]?=E4 e→h.2[j]?=E4 r→∃r',h.2[j+1]?=E4 r'∧after wrap r e=.ok r'
 kinds:∀e∈h.1,yt e=0∧e.kind≠ou
theorem jf.empty {wrap:Int→Int}:jf wrap ([],[lL]):=⟨rfl,rfl,fun j e r h=>by simp at h,by simp⟩
theorem jf.now {wrap:Int→Int}{h:fB}(k:jf wrap h):h.2[h.1.length]?=E4 (Go.W.now h):=by
 unfold Go.W.now
 have hl:=k.len
 rw[List.getLast?_eq_getElem?,hl]
 have:h.1.length<h.2.length:=by omega
 simp[En this]
theorem jf.accept {wrap:Int→Int}{h h':fB}{k:Int}{e:je}(o:jf wrap h)(hc:yt e=0)(ha:accept wrap h k e=.ok h'):jf wrap h':=by
 unfold Go.W.accept at ha
 split at ha
 ·cases ha
 split at ha
 ·split at ha
  ·cases ha
  ·rename_i c hc
   split at ha
   ·cases ha
   cases ha
   have gO:0<h.1.length:=by
    cases hh:h.1 with
    |nil=>rw[hh]at hc;simp at hc
    |cons _ _=>simp
   have hl:=o.len
   refine⟨by simp only[List.length_dropLast];omega,?_,?_,?_⟩
   ·rw[Gb,if_pos (by omega)];exact o.first
   ·intro j e' r h1 h2
    simp only[Gb]at h1 h2 ⊢
    split at h1
    ·rename_i hj
     rw[if_pos (by omega)]at h2
     rw[if_pos (by omega)]
     exact o.next j e' r h1 h2
    ·cases h1
   ·intro e' he
    exact o.kinds e' (List.mem_of_mem_take (by rwa [List.dropLast_eq_take]at he))
 ·rename_i hnu
  split at ha
  ·cases ha
  ·rename_i r hr
   cases ha
   have hl:=o.len
   refine⟨by simp only[List.length_append,Gm,List.length_nil];omega,?_,?_,?_⟩
   ·rw[Ef (by omega)];exact o.first
   ·intro j e' q h1 h2
    by_cases hj:j<h.1.length
    ·rw[Ef hj]at h1
     rw[Ef (by omega)]at h2
     obtain⟨r',k1,k2⟩:=o.next j e' q h1 h2
     exact⟨r',by rw[Ef (by have:=(I.1 k1).1;omega)];exact k1,k2⟩
    ·have hj':j=h.1.length:=by have:=(I.1 h1).1;simp at this;omega
     subst hj'
     rw[Ga (Nat.le_refl _)]at h1
     simp at h1;subst h1
     rw[Ef (by omega),o.now]at h2
     cases h2
     exact⟨r,by rw[Ga (by omega)];simp[hl],hr⟩
   ·intro e' he
    rcases E7.1 he with he|he
    ·exact o.kinds e' he
    ·simp at he;subst he;exact⟨hc,hnu⟩
theorem jf.wf {wrap:Int→Int}{h:fB}(o:jf wrap h):∀(j:Nat) (r:qu),h.2[j]?=E4 r→WF r
 |0,r,hr=>by rw[o.first]at hr;cases hr;exact WF.empty 0
 |j+1,r,hr=>by
  have aY:=(I.1 hr).1
  have hl:=o.len
  have h1:j<h.1.length:=by omega
  obtain⟨r',k1,k2⟩:=o.next j _ _ (En h1) (En (by omega:j<h.2.length))
  rw[k1]at hr;cases hr
  exact jg6 (jf.wf o j _ (En (by omega))) k2
theorem jf.xX {wrap:Int→Int}{h:fB}(o:jf wrap h):WF (Go.W.now h):=o.wf _ _ o.now
end Go.W
namespace Go.W
structure jt (r:qu):Prop where
 units:k9 (·.name) r.units
 named:∀u∈r.units,u.name≠[]
 KW:∀u∈r.units,u.partner≠[]→∃v∈r.units,v.name=u.partner∧v.partner=u.name
 au:k9 (·.name) r.au
 KX:k9 (·.name) r.ae
 kinds:∀u∈r.units,∀v∈r.units,v.name=u.partner→v.product=u.product
theorem jt.empty (d:Int):jt ⟨d,[],[],[]⟩:=⟨by simp[k9],by simp,by simp,by simp[k9],by simp[k9],by simp⟩
theorem q3n {α β:Type}{key:α→β}{l:List α}{i:Nat}{x y:α}(hy:l[i]?=E4 y)(hk:key x=key y):(l.set i x).map key=l.map key:=by
 rw[Ha]
 apply Gd
 intro j
 by_cases hj:j=i
 ·subst hj
  have aY:=(I.1 hy).1
  rw[E6 (by simpa using aY),Ge,hy,hk];rfl
 ·rw[E3 (Ne.symm hj)]
theorem q7y {α β:Type}{key:α→β}{l:List α}{i:Nat}{x y:α}(h:k9 key l)(hy:l[i]?=E4 y)(hk:key x=key y):k9 key (l.set i x):=by
 unfold k9 at *;rw[q3n hy hk];exact h
theorem jt.aA {r:qu}(w:jt r){i:Nat}{u u':qz}(hu:r.units[i]?=E4 u)(h1:u'.name=u.name)(h2:u'.partner=u.partner)(h3:u'.product=u.product):jt (aA r i u'):=by
 have hm:=E1 hu
 have aY:=(I.1 hu).1
 -- each unit of the new list stands for one of the old with the same name,partner and product
 have old:∀v∈(Go.W.aA r i u').units,∃v0∈r.units,v0.name=v.name∧v0.partner=v.partner∧v0.product=v.product:=by
  intro v hv
  rcases xV hv with hv|rfl
  ·exact⟨v,hv,rfl,rfl,rfl⟩
  ·exact⟨u,hm,h1.symm,h2.symm,h3.symm⟩
 have new:∀v∈r.units,∃v1∈(Go.W.aA r i u').units,v1.name=v.name∧v1.partner=v.partner:=by
  intro v hv
  obtain⟨j,hj⟩:=List.getElem?_of_mem hv
  by_cases xb:j=i
  ·subst xb
   rw[hu]at hj;cases hj
   exact⟨u',E1 (i:=j) (by simp only[Go.W.aA];rw[E6 aY]),h1,h2⟩
  ·exact⟨v,E1 (i:=j) (by simp only[Go.W.aA];rw[E3 (Ne.symm xb)];exact hj),rfl,rfl⟩
 refine⟨q7y w.units hu h1,?_,?_,w.au,w.KX,?_⟩
 ·intro v hv
  obtain⟨v0,k0,k1,_⟩:=old v hv
  rw[←k1];exact w.named v0 k0
 ·intro v hv hp
  obtain⟨v0,k0,k1,k2,_⟩:=old v hv
  obtain⟨z,z0,z1,z2⟩:=w.KW v0 k0 (by rw[k2];exact hp)
  obtain⟨z',y0,y1,y2⟩:=new z z0
  exact⟨z',y0,by rw[y1,z1,k2],by rw[y2,z2,k1]⟩
 ·intro v hv z hz hn
  obtain⟨v0,k0,k1,k2,k3⟩:=old v hv
  obtain⟨z0,j0,j1,j2,j3⟩:=old z hz
  rw[←j3,←k3]
  exact w.kinds v0 k0 z0 j0 (by rw[j1,k2];exact hn)
theorem Vs {e:je}(h:yt e=0):e.names.all (fun s=>!s.isEmpty)=true∧∃f,fS e.kind=E4 f∧e.names.length=f.1∧e.values.length=f.2:=by
 unfold yt at h
 split at h
 ·cases h
 split at h
 ·cases h
 rename_i f hf
 split at h
 ·cases h
 rename_i hl
 split at h
 ·cases h
 rename_i hn
 refine⟨?_,f,hf,by by_cases hh:e.names.length=f.1<;>simp_all,by by_cases hh:e.values.length=f.2<;>simp_all⟩
 have hn:e.names.all cP=true:=by simpa using hn
 rw[List.all_eq_true]at hn ⊢
 intro s hs
 have:=hn s hs
 cases s with
 |nil=>simp[cP]at this
 |cons c t=>rfl
end Go.W
