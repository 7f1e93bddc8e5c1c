/- The register of chapter 10 in plain lists. -/
open List renaming getElem?_eq_some_iff→I,getElem?_eq_getElem→En,getElem?_append_left→E1,findIdx?_cons→E2,mem_of_getElem?→E3,getElem?_set_ne→E6,getElem?_set_self→Gk,mem_append→Gl,getElem?_append_right→Gn,getElem?_dropLast→Gp,length_filter_le→G2,getElem?_of_mem→Ha,ext_getElem?→Hd,getElem?_map→H7,length_cons→If,map_cons→Mm,map_set→Mn
open Option renaming some→E4,bind_some→Gm,some_get→Md
open Bool renaming false→Gq,true→Hb
namespace Go.W
abbrev Str:=List UInt8
structure ql where
 k:Str
 n:Int
 deriving DecidableEq
structure qk where
 k:Str
 a:Int
 b:Int
 deriving DecidableEq
structure qj where
 name:Str
 kind:Str
 count:Int
 left:Int
 held:Bool
 deriving DecidableEq
structure jg where
 ax:List ql
 aw:List qk
 deriving DecidableEq
structure jf where
 name:Str
 bH:jg
 aH:List jg
 deriving DecidableEq
structure qy where
 name:Str
 product:Str
 version:Int
 uses:List ql
 results:List qk
 partner:Str
 ar:Bool
 ai:Int
 deriving DecidableEq
structure qu where
 day:Int
 au:List qj
 ae:List jf
 units:List qy
 deriving DecidableEq
structure je where
 number:Int
 kind:Str
 names:List Str
 values:List Int
 text:Str
 deriving DecidableEq
def ku (r:qu)(n:Str):Option Nat:=r.au.findIdx? fun x=>decide (x.name=n)
def kq (r:qu)(n:Str):Option Nat:=r.ae.findIdx? fun x=>decide (x.name=n)
def km (r:qu)(n:Str):Option Nat:=r.units.findIdx? fun x=>decide (x.name=n)
def hH (r:qu)(n:Str):Option jf:=(kq r n).bind fun k=>r.ae[k]?
def oZ (r:qu)(u:qy):Option Int:=(hH r u.product).map fun p=>(p.aH.length:Int)
def DH (l:List jg)(v:Int):Option jg:=if 1≤v then l[(v-1).toNat]? else none
def gR (r:qu)(u:qy):Option jg:=(hH r u.product).bind fun p=>DH p.aH u.version
def nF (r:qu)(n:Str):Option qj:=(ku r n).bind fun k=>r.au[k]?
theorem bG {α:Type}{p:α→Bool}{l:List α}{k:Nat}(h:l.findIdx? p=E4 k):∃x,l[k]?=E4 x∧p x=Hb∧k<l.length∧∀j x,j<k→l[j]?=E4 x→p x=Gq:=by
 induction l generalizing k with
 |nil=>simp at h
 |cons y l ih=>
  rw[E2]at h
  by_cases hp:p y=Hb
  ·rw[if_pos hp]at h
   cases h
   exact⟨y,rfl,hp,by simp,fun j x hj=>by omega⟩
  ·rw[if_neg hp]at h
   obtain⟨i,hi,rfl⟩:=Option.map_eq_some_iff.1 h
   obtain⟨x,h1,h2,h3,h4⟩:=ih hi
   refine⟨x,by simpa using h1,h2,by simp;omega,fun j z hj hz=>?_⟩
   cases j with
   |zero=>simp at hz;subst hz;simpa using hp
   |succ j=>exact h4 j z (by omega) (by simpa using hz)
theorem iT {α:Type}{p:α→Bool}{l:List α}:l.findIdx? p=none↔∀x∈l,p x=Gq:=by
 induction l with
 |nil=>simp
 |cons y l ih=>
  rw[E2]
  by_cases hp:p y=Hb
  ·rw[if_pos hp];simp[hp]
  ·rw[if_neg hp]
   have ec:p y=Gq:=by simpa using hp
   simp[ih,ec]
def eW {α:Type}(same:α→Bool)(x:α)(l:List α):List α:=match l.findIdx? same with
 |some i=>l.set i x
 |none=>l++[x]
def DN {α:Type}(same:α→Bool)(x:α)(l:List α):List α:=(l.map fun y=>if same y then x else y)++(if l.any same then []else [x])
def dP {α β:Type}(key:α→β)(l:List α):Prop:=(l.map key).Nodup
theorem qwe {α β:Type}[DecidableEq β]{key:α→β}{k:β}{x:α}:∀ {l:List α},dP key l→(l.map fun y=>if decide (key y=k)then x else y)=(match l.findIdx? (fun y=>decide (key y=k))with|some i=>l.set i x|none=>l)
 | [],_=>rfl
 |y::l,h=>by
  have hn:=List.nodup_cons.1 (by simpa[dP]using h:(key y::l.map key).Nodup)
  rw[E2]
  by_cases hy:key y=k
  ·simp only[Mm,hy,decide_true,if_true]
   have:l.map (fun y=>if decide (key y=k)then x else y)=l:=by
    conv=>rhs;rw[←List.map_id l]
    refine List.map_congr_left fun z hz=>?_
    have:key z≠k:=fun e=>hn.1 (by rw[hy,←e];exact List.mem_map_of_mem hz)
    simp[this]
   rw[this];rfl
  ·have ih:=qwe (k:=k) (x:=x) (l:=l) hn.2
   simp only[Mm,hy,decide_false,Bool.false_eq_true,if_false]
   rw[ih]
   cases l.findIdx? (fun y=>decide (key y=k))with
   |none=>rfl
   |some i=>rfl
theorem DJ {α:Type}{p:α→Bool}{l:List α}:l.any p=(l.findIdx? p).isSome:=by
 induction l with
 |nil=>rfl
 |cons y l ih=>
  rw[E2,List.any_cons]
  by_cases hp:p y=Hb
  ·rw[if_pos hp,hp];rfl
  ·rw[if_neg hp]
   have:p y=Gq:=by simpa using hp
   rw[this,Bool.false_or,ih]
   cases l.findIdx? p<;>rfl
theorem q0q {α β:Type}[DecidableEq β]{key:α→β}{k:β}{x:α}{l:List α}(h:dP key l):DN (fun y=>decide (key y=k)) x l=eW (fun y=>decide (key y=k)) x l:=by
 unfold DN eW
 rw[qwe h,DJ]
 cases l.findIdx? (fun y=>decide (key y=k))with
 |none=>simp
 |some i=>simp
theorem q0c {α β:Type}[DecidableEq β]{key:α→β}{k:β}{x:α}(hx:key x=k):∀ {l:List α} {i:Nat},dP key l→l.findIdx? (fun y=>decide (key y=k))=E4 i→dP key (l.set i x):=by
 intro l i h hi
 obtain⟨y,h1,h2,h3,_⟩:=bG hi
 have:(l.set i x).map key=l.map key:=by
  rw[Mn]
  apply Hd
  intro j
  by_cases hj:j=i
  ·subst hj
   rw[Gk (by simpa using h3),H7,h1]
   simp at h2;simp[hx,h2]
  ·rw[E6 (Ne.symm hj)]
 unfold dP;rw[this];exact h
theorem WC {α β:Type}[DecidableEq β]{key:α→β}{k:β}{x:α}{l:List α}(hx:key x=k)(h:dP key l):dP key (eW (fun y=>decide (key y=k)) x l):=by
 unfold eW
 cases hi:l.findIdx? (fun y=>decide (key y=k))with
 |some i=>exact q0c hx h hi
 |none=>
  rw[iT]at hi
  unfold dP at *
  rw[List.map_append,List.nodup_append]
  refine⟨h,by simp,?_⟩
  intro a ha b hb
  simp at hb
  subst hb
  obtain⟨z,hz,rfl⟩:=List.mem_map.1 ha
  have:=hi z hz
  rw[hx];simpa using this
theorem q41 {α β:Type}{key:α→β}{l:List α}(p:α→Bool)(h:dP key l):dP key (l.filter p):=
 List.Nodup.sublist (List.Sublist.map key List.filter_sublist) h
end Go.W
namespace Go.W
def lU:Str:=[108,111,116]
def mM:Str:=[112,114,111,100,117,99,116]
def lV:Str:=[110,101,101,100]
def mN:Str:=[116,101,115,116]
def oX:Str:=[105,115,115,117,101]
def n9:Str:=[98,117,105,108,100]
def lW:Str:=[117,115,101]
def oc:Str:=[109,101,97,115,117,114,101]
def oY:Str:=[117,112,100,97,116,101]
def mO:Str:=[112,97,105,114]
def nE:Str:=[104,111,108,100]
def qH:Str:=[102,114,101,101]
def jW:Str:=[115,104,105,112]
def xi:Str:=[99,111,109,112,108,97,105,110]
def lX:Str:=[117,110,100,111]
def DI (wrap:Int→Int)(r:qu)(u:qy)(kind:Str):Int:=u.uses.foldl (fun n x=>if(nF r x.k).any (fun l=>decide (l.kind=kind))then wrap (n+x.n)else n) 0
def qI (u:qy)(t:qk):Bool:=u.results.foldl (fun is x=>if decide (x.k=t.k)&&decide (x.a=u.version)then decide (t.a≤x.b)&&decide (x.b≤t.b)else is) Gq
def xl (d:jg)(u:qy):List Str:=(d.aw.filter fun t=>!qI u t).map (·.k)
def xn (wrap:Int→Int)(r:qu)(d:jg)(u:qy):Bool:=d.ax.all fun n=>decide (n.n≤DI wrap r u n.k)
def Al (r:qu)(u:qy):Bool:=u.uses.any fun x=>(nF r x.k).any (·.held)
def uD (wrap:Int→Int)(r:qu)(u:qy):Int:=
 if u.ar then 21 else if oZ r u≠E4 u.version then 32 else
 match gR r u with
 |none=>20
 |some d=>if !xn wrap r d u then 20 else if !(xl d u).isEmpty then 31 else if Al r u then 34 else 0
def cf (r:qu)(i:Nat)(x:qj):qu:={ r with au:=r.au.set i x }
def bE (r:qu)(i:Nat)(x:jf):qu:={ r with ae:=r.ae.set i x }
def aA (r:qu)(i:Nat)(x:qy):qu:={ r with units:=r.units.set i x }
def cN (k:Str)(x:ql):Bool:=decide (x.k=k)
def dZ (k:Str)(x:qk):Bool:=decide (x.k=k)
def iP (l:List ql)(k:Str)(n:Int):List ql:=if n=0 then l.filter (fun x=>!cN k x)else eW (cN k) ⟨k,n⟩ l
def mR (wrap:Int→Int)(l:List ql)(k:Str)(n:Int):List ql:=match l.findIdx? (cN k)with
 |some i=>(match l[i]? with
  |some x=>l.set i ⟨k,wrap (n+x.n)⟩
  |none=>l)
 |none=>l++[⟨k,n⟩]
def nm (e:je)(i:Nat):Str:=(e.names[i]?).getD []
def vl (e:je)(i:Nat):Int:=(e.values[i]?).getD 0
abbrev oh:=Except Int qu
def oi (r:qu)(e:je):oh:=
 if e.kind=lU then
  (if(ku r (nm e 0)).isSome then .error 9 else if vl e 1<1∨10000<vl e 1 then .error 3 else if 64≤r.au.length then .error 5 else
   .ok { r with au:=r.au++[⟨nm e 0,nm e 1,vl e 1,vl e 1,Gq⟩] })
 else if e.kind=mM then
  (if(kq r (nm e 0)).isSome then .error 9 else if 16≤r.ae.length then .error 5 else .ok { r with ae:=r.ae++[⟨nm e 0,⟨[],[]⟩,[]⟩] })
 else match hH r (nm e 1)with
  |none=>.error 10
  |some p=>if(km r (nm e 0)).isSome then .error 9 else if p.aH.isEmpty then .error 32 else if 256≤r.units.length then .error 5 else
    .ok { r with units:=r.units++[⟨nm e 0,nm e 1,p.aH.length,[],[],[],Gq,0⟩] }
def oj (r:qu)(e:je):oh:=match kq r (nm e 0)with
 |none=>.error 10
 |some i=>match r.ae[i]? with
  |none=>.error 10
  |some p=>
   if e.kind=lV then
    (if vl e 1<0∨10000<vl e 1 then .error 3 else if 0<vl e 1∧!(p.bH.ax.any (cN (nm e 1)))∧16≤p.bH.ax.length then .error 5 else
     .ok (bE r i { p with bH:={ p.bH with ax:=iP p.bH.ax (nm e 1) (vl e 1) } }))
   else if e.kind=mN then
    (if vl e 2<vl e 1 then .error 11 else if !(p.bH.aw.any (dZ (nm e 1)))∧16≤p.bH.aw.length then .error 5 else
     .ok (bE r i { p with bH:={ p.bH with aw:=eW (dZ (nm e 1)) ⟨nm e 1,vl e 1,vl e 2⟩ p.bH.aw } }))
   else(if p.bH.ax.isEmpty then .error 12 else if 100≤p.aH.length then .error 5 else .ok (bE r i { p with aH:=p.aH++[p.bH] }))
def vC (r:qu)(e:je):oh:=match ku r (nm e 0)with
 |none=>.error 10
 |some i=>match r.au[i]? with
  |none=>.error 10
  |some x=>if e.kind=nE then(if x.held then .error 34 else .ok (cf r i { x with held:=Hb }))else(if !x.held then .error 20 else .ok (cf r i { x with held:=Gq }))
def xw (wrap:Int→Int)(r:qu)(i:Nat)(u:qy)(e:je):oh:=match ku r (nm e 1)with
 |none=>.error 10
 |some k=>match r.au[k]? with
  |none=>.error 10
  |some x=>if u.ar then .error 21 else if vl e 1=0 then .error 3 else if x.held then .error 34 else
   if !((gR r u).any fun d=>d.ax.any (cN x.kind))then .error 7 else if x.left<vl e 1 then .error 4 else
    .ok (aA (cf r k { x with left:=wrap (x.left-vl e 1) }) i { u with uses:=mR wrap u.uses x.name (vl e 1) })
def xy (r:qu)(i:Nat)(u:qy)(e:je):oh:=match km r (nm e 1)with
 |none=>.error 10
 |some k=>match r.units[k]? with
  |none=>.error 10
  |some v=>if i=k then .error 9 else if u.product≠v.product∨u.version≠v.version then .error 30 else if u.ar∨v.ar then .error 21 else
   if u.partner≠[]∨v.partner≠[]then .error 35 else .ok (aA (aA r i { u with partner:=v.name }) k { v with partner:=u.name })
def ol (wrap:Int→Int)(r:qu)(e:je):oh:=match km r (nm e 0)with
 |none=>.error 10
 |some i=>match r.units[i]? with
  |none=>.error 10
  |some u=>
   if e.kind=lW then xw wrap r i u e
   else if e.kind=mO then xy r i u e
   else if e.kind=oc then
    (if u.ar then .error 21 else if !((gR r u).any fun d=>d.aw.any (dZ (nm e 1)))then .error 7 else if 64≤u.results.length then .error 5 else
     .ok (aA r i { u with results:=u.results++[⟨nm e 1,u.version,vl e 1⟩] }))
   else if e.kind=oY then
    (if u.ar then .error 21 else match oZ r u with
     |none=>.error 32
     |some v=>if u.version=v then .error 32 else .ok (aA r i { u with version:=v }))
   else if e.kind=jW then(if uD wrap r u≠0 then .error (uD wrap r u)else .ok (aA r i { u with ar:=Hb }))
   else(if !u.ar then .error 20 else .ok (aA r i { u with ai:=wrap (u.ai+1) }))
def apply (wrap:Int→Int)(r:qu)(e:je):oh:=
 if e.kind=lU∨e.kind=mM∨e.kind=n9 then oi r e
 else if e.kind=lV∨e.kind=mN∨e.kind=oX then oj r e
 else if e.kind=nE∨e.kind=qH then vC r e
 else ol wrap r e
def after (wrap:Int→Int)(r:qu)(e:je):oh:=if vl e 0<r.day then .error 20 else match apply wrap r e with
 | .error x=>.error x
 | .ok r'=>.ok { r' with day:=vl e 0 }
structure WF (r:qu):Prop where
 ax:∀p∈r.ae,dP (·.k) p.bH.ax∧p.bH.ax.length≤16
 aw:∀p∈r.ae,dP (·.k) p.bH.aw∧p.bH.aw.length≤16
 dD:∀u∈r.units,(gR r u).isSome
 uses:∀u∈r.units,dP (·.k) u.uses∧∀x∈u.uses,(ku r x.k).isSome
theorem WF.empty (d:Int):WF ⟨d,[],[],[]⟩:=⟨by simp,by simp,by simp,by simp⟩
theorem findIdx?_append {α:Type}{p:α→Bool}{l m:List α}{k:Nat}(h:l.findIdx? p=E4 k):(l++m).findIdx? p=E4 k:=by
 rw[List.findIdx?_append,h];rfl
theorem fO {α:Type}{p:α→Bool}{l:List α}{i:Nat}{x y:α}(hy:l[i]?=E4 y)(xN:p x=p y):(l.set i x).findIdx? p=l.findIdx? p:=by
 induction l generalizing i with
 |nil=>rfl
 |cons z l ih=>
  cases i with
  |zero=>
   simp at hy;subst hy
   rw[List.set_cons_zero,E2,E2,xN]
  |succ i=>
   rw[List.set_cons_succ,E2,E2,ih (by simpa using hy)]
theorem qof {r r':qu}{u:qy}(h:∀n p,hH r n=E4 p→∃p',hH r' n=E4 p'∧∃m,p'.aH=p.aH++m)(hp:(gR r u).isSome):(gR r' u).isSome:=by
 unfold gR at *
 cases hq:hH r u.product with
 |none=>rw[hq]at hp;simp at hp
 |some p=>
  rw[hq]at hp
  obtain⟨p',h1,m,h2⟩:=h _ _ hq
  rw[h1]
  simp only[Gm,DH]at hp ⊢
  split at hp
  ·rename_i hv
   rw[if_pos hv,h2]
   have aX:=(I.1 (Md hp).symm).1
   rw[E1 aX];exact hp
  ·simp at hp
theorem q5u {r r':qu}(h:r'.ae=r.ae)(n:Str):hH r' n=hH r n:=by unfold hH kq;rw[h]
theorem q9g {r r':qu}(h:r'.ae=r.ae)(u:qy):gR r' u=gR r u:=by unfold gR;rw[q5u h]
theorem Bf {r r':qu}{u:qy}(hp:(gR r u).isSome)(h:r'.ae=r.ae:=by rfl):(gR r' u).isSome:=by rw[q9g h];exact hp
theorem q8n {r:qu}{i:Nat}{p p':jf}(hp:r.ae[i]?=E4 p)(hn:p'.name=p.name)(hd:∃m,p'.aH=p.aH++m)(n:Str)(q:jf)(hq:hH r n=E4 q):∃q',hH (bE r i p') n=E4 q'∧∃m,q'.aH=q.aH++m:=by
 unfold hH kq at *
 simp only[bE]
 rw[fO hp (by simp[hn])]
 cases hk:r.ae.findIdx? (fun x=>decide (x.name=n))with
 |none=>rw[hk]at hq;simp at hq
 |some k=>
  rw[hk]at hq
  simp only[Gm]at hq ⊢
  have aX:=(I.1 hp).1
  by_cases zU:k=i
  ·subst zU
   rw[hp]at hq;cases hq
   exact⟨p',by rw[Gk aX],hd⟩
  ·exact⟨q,by rw[E6 (Ne.symm zU)];exact hq,[],by simp⟩
theorem xI {α:Type}{l:List α}{i:Nat}{x y:α}(h:y∈l.set i x):y∈l∨y=x:=List.mem_or_eq_of_mem_set h
theorem q24 {wrap:Int→Int}{l:List ql}{k:Str}{n:Int}(h:dP (·.k) l):dP (·.k) (mR wrap l k n):=by
 unfold mR
 cases hi:l.findIdx? (cN k)with
 |none=>
  have:=WC (key:=fun x:ql=>x.k) (k:=k) (x:=⟨k,n⟩) rfl h
  unfold eW at this
  rw[show l.findIdx? (fun y=>decide (y.k=k))=none from hi]at this
  exact this
 |some i=>
  obtain⟨x,h1,_⟩:=bG hi
  simp only[h1]
  exact q0c rfl h hi
theorem q82 {wrap:Int→Int}{l:List ql}{k:Str}{n:Int}{x:ql}(h:x∈mR wrap l k n):x.k=k∨x∈l:=by
 unfold mR at h
 split at h
 ·split at h
  ·rcases xI h with h|rfl
   ·exact .inr h
   ·exact .inl rfl
  ·exact .inr h
 ·rcases Gl.1 h with h|h
  ·exact .inr h
  ·simp at h;subst h;exact .inl rfl
theorem q0l {r:qu}{i:Nat}{x y:qj}(hx:r.au[i]?=E4 x)(hn:y.name=x.name)(n:Str):ku (cf r i y) n=ku r n:=by
 unfold ku cf;exact fO hx (by simp[hn])
theorem WF.aA {r:qu}(w:WF r){i:Nat}{u u':qy}(hu:r.units[i]?=E4 u)(hp:(gR r u').isSome)(hk:dP (·.k) u'.uses∧∀x∈u'.uses,(ku r x.k).isSome):WF (aA r i u'):=by
 refine⟨w.ax,w.aw,?_,?_⟩
 ·intro v hv
  refine Bf (r:=r) ?_
  rcases xI hv with hv|rfl
  ·exact w.dD v hv
  ·exact hp
 ·intro v hv
  rcases xI hv with hv|rfl
  ·exact w.uses v hv
  ·exact hk
theorem WF.cf {r:qu}(w:WF r){i:Nat}{x y:qj}(hx:r.au[i]?=E4 x)(hn:y.name=x.name):WF (cf r i y):=
 ⟨w.ax,w.aw,fun u hu=>Bf (w.dD u hu),fun u hu=>⟨(w.uses u hu).1,fun z hz=>by rw[q0l hx hn];exact(w.uses u hu).2 z hz⟩⟩
theorem WF.bE {r:qu}(w:WF r){i:Nat}{p p':jf}(hp:r.ae[i]?=E4 p)(hn:p'.name=p.name)(hd:∃m,p'.aH=p.aH++m)(h1:dP (·.k) p'.bH.ax∧p'.bH.ax.length≤16)(h2:dP (·.k) p'.bH.aw∧p'.bH.aw.length≤16):WF (bE r i p'):=by
 refine⟨?_,?_,?_,?_⟩
 ·intro q hq
  rcases xI hq with hq|rfl
  ·exact w.ax q hq
  ·exact h1
 ·intro q hq
  rcases xI hq with hq|rfl
  ·exact w.aw q hq
  ·exact h2
 ·intro u hu
  exact qof (fun n q hq=>q8n hp hn hd n q hq) (w.dD u hu)
 ·exact w.uses
theorem qvl {α:Type}{p:α→Bool}{x:α}{l:List α}(h:l.length≤16)(h2:¬(!(l.any p)∧16≤l.length)):(eW p x l).length≤16:=by
 unfold eW
 cases hi:l.findIdx? p with
 |some i=>simpa using h
 |none=>
  have:l.any p=Gq:=by rw[DJ,hi];rfl
  simp[this]at h2
  simp;omega
theorem q74 {l:List ql}{k:Str}{n:Int}(h:dP (·.k) l∧l.length≤16)(h0:0≤n)(h2:¬(0<n∧!(l.any (cN k))∧16≤l.length)):dP (·.k) (iP l k n)∧(iP l k n).length≤16:=by
 unfold iP
 by_cases hn:n=0
 ·rw[if_pos hn]
  exact⟨q41 _ h.1,Nat.le_trans (G2 _ _) h.2⟩
 ·rw[if_neg hn]
  refine⟨WC (key:=fun x:ql=>x.k) rfl h.1,qvl h.2 fun hh=>h2 ⟨by omega,hh.1,hh.2⟩⟩
theorem jjf {wrap:Int→Int}{r r':qu}{e:je}(w:WF r)(h:after wrap r e=.ok r'):WF r':=by
 unfold after at h
 split at h
 ·cases h
 split at h
 ·cases h
 rename_i r1 ha
 cases h
 suffices hw:WF r1 from⟨hw.ax,hw.aw,fun u hu=>Bf (hw.dD u hu),hw.uses⟩
 unfold apply at ha
 split at ha
 ·-- a new thing
  unfold oi at ha
  split at ha
  ·repeat' split at ha
   all_goals first|(cases ha;done)|skip
   cases ha
   exact⟨w.ax,w.aw,fun u hu=>Bf (w.dD u hu),fun u hu=>⟨(w.uses u hu).1,fun x hx=>by
    have:=(w.uses u hu).2 x hx
    unfold ku at *
    obtain⟨k,hk⟩:=Option.isSome_iff_exists.1 this
    rw[findIdx?_append hk];rfl⟩⟩
  split at ha
  ·repeat' split at ha
   all_goals first|(cases ha;done)|skip
   cases ha
   refine⟨?_,?_,?_,w.uses⟩
   ·intro p hp
    rcases Gl.1 hp with hp|hp
    ·exact w.ax p hp
    ·simp at hp;subst hp;exact⟨by simp[dP],by simp⟩
   ·intro p hp
    rcases Gl.1 hp with hp|hp
    ·exact w.aw p hp
    ·simp at hp;subst hp;exact⟨by simp[dP],by simp⟩
   ·intro u hu
    refine qof (fun n p hp=>⟨p,?_,[],by simp⟩) (w.dD u hu)
    unfold hH kq at *
    cases hk:r.ae.findIdx? (fun x=>decide (x.name=n))with
    |none=>rw[hk]at hp;simp at hp
    |some k=>
     rw[hk]at hp
     rw[findIdx?_append hk]
     simp only[Gm]at hp ⊢
     rw[E1 (I.1 hp).1];exact hp
  ·split at ha
   ·cases ha
   rename_i p hp
   repeat' split at ha
   all_goals first|(cases ha;done)|skip
   rename_i bw _
   cases ha
   refine⟨w.ax,w.aw,?_,?_⟩
   ·intro u hu
    refine Bf (r:=r) ?_
    rcases Gl.1 hu with hu|hu
    ·exact w.dD u hu
    ·simp at hu;subst hu
     unfold gR
     simp only[hp,Gm,DH]
     have:0<p.aH.length:=by
      cases hd:p.aH with
      |nil=>rw[hd]at bw;simp at bw
      |cons _ _=>simp
     rw[if_pos (by omega),En (by omega)];rfl
   ·intro u hu
    rcases Gl.1 hu with hu|hu
    ·exact w.uses u hu
    ·simp at hu;subst hu;exact⟨by simp[dP],by simp⟩
 split at ha
 ·-- a product
  unfold oj at ha
  split at ha
  ·cases ha
  split at ha
  ·cases ha
  rename_i i hi p hp
  have cR:=E3 hp
  split at ha
  ·repeat' split at ha
   all_goals first|(cases ha;done)|skip
   rename_i hr h2
   cases ha
   exact w.bE hp rfl ⟨[],by simp⟩ (q74 (w.ax p cR) (by omega) h2) (w.aw p cR)
  split at ha
  ·repeat' split at ha
   all_goals first|(cases ha;done)|skip
   rename_i hr h2
   cases ha
   exact w.bE hp rfl ⟨[],by simp⟩ (w.ax p cR) ⟨WC (key:=fun x:qk=>x.k) rfl (w.aw p cR).1,qvl (w.aw p cR).2 h2⟩
  ·repeat' split at ha
   all_goals first|(cases ha;done)|skip
   cases ha
   exact w.bE hp rfl ⟨_,rfl⟩ (w.ax p cR) (w.aw p cR)
 split at ha
 ·-- a lot
  unfold vC at ha
  split at ha
  ·cases ha
  split at ha
  ·cases ha
  rename_i i hi x hx
  repeat' split at ha
  all_goals first|(cases ha;done)|(cases ha;exact w.cf hx rfl)
 ·-- a unit
  unfold ol at ha
  split at ha
  ·cases ha
  split at ha
  ·cases ha
  rename_i i hi u hu
  have cR:=E3 hu
  have tK:=w.dD u cR
  split at ha
  ·unfold xw at ha
   split at ha
   ·cases ha
   split at ha
   ·cases ha
   rename_i _ k hk _ x hx
   repeat' split at ha
   all_goals first|(cases ha;done)|skip
   cases ha
   refine(w.cf (y:={ x with left:=wrap (x.left-vl e 1) }) hx rfl).aA (u':={ u with uses:=mR wrap u.uses x.name (vl e 1) }) hu (Bf (r:=r) tK) ⟨q24 (w.uses u cR).1,fun z hz=>?_⟩
   rw[q0l (y:={ x with left:=wrap (x.left-vl e 1) }) hx rfl]
   rcases q82 hz with hz|hz
   ·obtain⟨y,h1,h2,_⟩:=bG hk
    rw[hx]at h1;cases h1
    simp at h2
    rw[hz,h2,hk];rfl
   ·exact(w.uses u cR).2 z hz
  split at ha
  ·unfold xy at ha
   split at ha
   ·cases ha
   split at ha
   ·cases ha
   rename_i k hk v hv
   have hmv:=E3 hv
   split at ha
   ·cases ha
   rename_i TE
   repeat' split at ha
   all_goals first|(cases ha;done)|skip
   cases ha
   exact(w.aA (u':={ u with partner:=v.name }) hu tK (w.uses u cR)).aA (u':={ v with partner:=u.name }) (by simp only[aA];rw[E6 TE];exact hv) (Bf (r:=r) (w.dD v hmv)) (w.uses v hmv)
  split at ha
  ·repeat' split at ha
   all_goals first|(cases ha;done)|skip
   cases ha
   exact w.aA hu tK (w.uses u cR)
  split at ha
  ·split at ha
   ·cases ha
   split at ha
   ·cases ha
   rename_i v hv
   split at ha
   ·cases ha
   cases ha
   refine w.aA hu ?_ (w.uses u cR)
   unfold gR oZ at *
   cases hq:hH r u.product with
   |none=>rw[hq]at hv;simp at hv
   |some p=>
    rw[hq]at hv tK
    simp only[Option.map_some,E4.injEq,Gm]at hv tK ⊢
    subst hv
    unfold DH at tK ⊢
    split at tK
    ·have aX:=(I.1 (Md tK).symm).1
     rw[if_pos (by omega),En (by omega)];rfl
    ·simp at tK
  split at ha
  ·split at ha
   ·cases ha
   cases ha
   exact w.aA hu tK (w.uses u cR)
  ·split at ha
   ·cases ha
   cases ha
   exact w.aA hu tK (w.uses u cR)
end Go.W
namespace Go.W
def cq:List (Str×Nat×Nat):=[(lU,2,2),(mM,1,1),(lV,2,2),(mN,2,3),(oX,1,1),(n9,2,1),(lW,2,2),(oc,2,2),(oY,1,1),(mO,2,1),(nE,1,1),(qH,1,1),(jW,1,1),(xi,1,1),(lX,0,0)]
def fM (k:Str):Option (Nat×Nat):=(cq.find? fun x=>decide (x.1=k)).map (·.2)
def uJ (c:UInt8):Bool:=(decide (65≤c.toNat)&&decide (c.toNat≤90))||(decide (97≤c.toNat)&&decide (c.toNat≤122))
def DZ (c:UInt8):Bool:=(decide (48≤c.toNat)&&decide (c.toNat≤57))||decide (c.toNat=95)
def cO (s:Str):Bool:=match s with
 | []=>Gq
 |c::t=>uJ c&&t.all (fun c=>uJ c||DZ c)&&decide (s.length≤24)
def kc (e:je):Int:=
 if e.number<1∨1000<e.number then 3 else match fM e.kind with
 |none=>13
 |some f=>if e.names.length≠f.1∨e.values.length≠f.2 then 2 else if !(e.names.all cO)then 8 else if !(e.values.all fun n=>decide (0≤n)&&decide (n≤999999999))then 3 else if e.text≠[]then 1 else 0
abbrev eH:=List je×List qu
def jY:qu:=⟨0,[],[],[]⟩
def now (h:eH):qu:=h.2.getLast?.getD jY
def accept (wrap:Int→Int)(h:eH)(k:Int)(e:je):Except Int eH:=
 if e.number≠k then .error 11 else
 if e.kind=lX then(match h.1.getLast? with
  |none=>.error 12
  |some c=>if c.kind=jW then .error 19 else .ok (h.1.dropLast,h.2.dropLast))
 else match after wrap (now h) e with
  | .error x=>.error x
  | .ok r=>.ok (h.1++[e],h.2++[r])
def uL (wrap:Int→Int):Nat→eH→List je→Except (Int×Int) eH
 |_,h,[]=>.ok h
 |i,h,e::l=>if kc e≠0 then .error ((i:Int)+1,kc e)else match accept wrap h ((i:Int)+1) e with
  | .error x=>.error ((i:Int)+1,x)
  | .ok h'=>uL wrap (i+1) h' l
def run (wrap:Int→Int)(l:List je):Except (Int×Int) eH:=if 1000<l.length then .error (0,5)else uL wrap 0 ([],[jY]) l
structure jb (wrap:Int→Int)(h:eH):Prop where
 len:h.2.length=h.1.length+1
 first:h.2[0]?=E4 jY
 next:∀j e r,h.1[j]?=E4 e→h.2[j]?=E4 r→∃r',h.2[j+1]?=E4 r'∧after wrap r e=.ok r'
 kinds:∀e∈h.1,kc e=0∧e.kind≠lX
theorem jb.empty {wrap:Int→Int}:jb wrap ([],[jY]):=⟨rfl,rfl,fun j e r h=>by simp at h,by simp⟩
theorem jb.now {wrap:Int→Int}{h:eH}(k:jb wrap h):h.2[h.1.length]?=E4 (Go.W.now h):=by
 unfold Go.W.now
 have hl:=k.len
 rw[List.getLast?_eq_getElem?,hl]
 have:h.1.length<h.2.length:=by omega
 simp[En this]
theorem jb.accept {wrap:Int→Int}{h h':eH}{k:Int}{e:je}(o:jb wrap h)(hc:kc e=0)(ha:accept wrap h k e=.ok h'):jb wrap h':=by
 unfold Go.W.accept at ha
 split at ha
 ·cases ha
 split at ha
 ·split at ha
  ·cases ha
  ·rename_i c hc
   split at ha
   ·cases ha
   cases ha
   have gL:0<h.1.length:=by
    cases hh:h.1 with
    |nil=>rw[hh]at hc;simp at hc
    |cons _ _=>simp
   have hl:=o.len
   refine⟨by simp only[List.length_dropLast];omega,?_,?_,?_⟩
   ·rw[Gp,if_pos (by omega)];exact o.first
   ·intro j e' r h1 h2
    simp only[Gp]at h1 h2 ⊢
    split at h1
    ·rename_i hj
     rw[if_pos (by omega)]at h2
     rw[if_pos (by omega)]
     exact o.next j e' r h1 h2
    ·cases h1
   ·intro e' he
    exact o.kinds e' (List.mem_of_mem_take (by rwa [List.dropLast_eq_take]at he))
 ·rename_i hnu
  split at ha
  ·cases ha
  ·rename_i r hr
   cases ha
   have hl:=o.len
   refine⟨by simp only[List.length_append,If,List.length_nil];omega,?_,?_,?_⟩
   ·rw[E1 (by omega)];exact o.first
   ·intro j e' q h1 h2
    by_cases hj:j<h.1.length
    ·rw[E1 hj]at h1
     rw[E1 (by omega)]at h2
     obtain⟨r',k1,k2⟩:=o.next j e' q h1 h2
     exact⟨r',by rw[E1 (by have:=(I.1 k1).1;omega)];exact k1,k2⟩
    ·have hj':j=h.1.length:=by have:=(I.1 h1).1;simp at this;omega
     subst hj'
     rw[Gn (Nat.le_refl _)]at h1
     simp at h1;subst h1
     rw[E1 (by omega),o.now]at h2
     cases h2
     exact⟨r,by rw[Gn (by omega)];simp[hl],hr⟩
   ·intro e' he
    rcases Gl.1 he with he|he
    ·exact o.kinds e' he
    ·simp at he;subst he;exact⟨hc,hnu⟩
theorem jb.wf {wrap:Int→Int}{h:eH}(o:jb wrap h):∀(j:Nat) (r:qu),h.2[j]?=E4 r→WF r
 |0,r,hr=>by rw[o.first]at hr;cases hr;exact WF.empty 0
 |j+1,r,hr=>by
  have aX:=(I.1 hr).1
  have hl:=o.len
  have h1:j<h.1.length:=by omega
  obtain⟨r',k1,k2⟩:=o.next j _ _ (En h1) (En (by omega:j<h.2.length))
  rw[k1]at hr;cases hr
  exact jjf (jb.wf o j _ (En (by omega))) k2
theorem jb.xJ {wrap:Int→Int}{h:eH}(o:jb wrap h):WF (Go.W.now h):=o.wf _ _ o.now
theorem q0s {wrap:Int→Int}{r r':qu}{e:je}(h:after wrap r e=.ok r'):r'.day=vl e 0∧r.day≤vl e 0:=by
 unfold after at h
 split at h
 ·cases h
 rename_i hd
 split at h
 ·cases h
 ·cases h;exact⟨rfl,by omega⟩
theorem jb.days {wrap:Int→Int}{h:eH}(o:jb wrap h):∀(j:Nat) (e f:je),h.1[j]?=E4 e→h.1[j+1]?=E4 f→vl e 0≤vl f 0:=by
 intro j e f he hf
 have hl:=o.len
 have h1:=(I.1 hf).1
 obtain⟨r1,k1,k2⟩:=o.next j _ _ he (En (by omega:j<h.2.length))
 obtain⟨r2,k3,k4⟩:=o.next (j+1) _ _ hf k1
 rw[←(q0s k2).1];exact(q0s k4).2
theorem jb.hJ {wrap:Int→Int}{h:eH}(o:jb wrap h)(i:Nat)(e:je)(he:h.1[i]?=E4 e):∀(d:Nat) (f:je),h.1[i+d]?=E4 f→vl e 0≤vl f 0
 |0,f,hf=>by rw[Nat.add_zero,he]at hf;cases hf;exact Int.le_refl _
 |d+1,f,hf=>by
  have h1:=(I.1 hf).1
  have h2:=jb.hJ o i e he d _ (En (by omega:i+d<h.1.length))
  exact Int.le_trans h2 (o.days (i+d) _ _ (En (by omega)) hf)
theorem VQ {α:Type}{p:α→Bool}:∀ {l:List α},(∀(i j:Nat) (x y:α),i≤j→l[i]?=E4 x→l[j]?=E4 y→p y=Hb→p x=Hb)→l.filter p=l.take (l.filter p).length
 | [],_=>rfl
 |x::l,h=>by
  by_cases hx:p x=Hb
  ·rw[List.filter_cons_of_pos hx,If,List.take_succ_cons]
   congr 1
   exact VQ fun i j a b oK ha hb hp=>h (i+1) (j+1) a b (by omega) (by simpa using ha) (by simpa using hb) hp
  ·have hn:l.filter p=[]:=by
    rw[List.filter_eq_nil_iff]
    intro y hy hp
    obtain⟨j,hj⟩:=Ha hy
    exact hx (h 0 (j+1) x y (by omega) rfl (by simpa using hj) hp)
   rw[List.filter_cons_of_neg hx,hn];rfl
def VO (wrap:Int→Int)(day:Int)(l:List je):qu:=(l.filter fun e=>decide (vl e 0≤day)).foldl (fun r e=>match after wrap r e with
 | .ok r'=>r'
 | .error _=>r) jY
theorem jb.lK {wrap:Int→Int}{h:eH}(o:jb wrap h):∀(n:Nat),n≤h.1.length→h.2[n]?=E4 ((h.1.take n).foldl (fun r e=>match after wrap r e with
 | .ok r'=>r'
 | .error _=>r) jY)
 |0,_=>by simpa using o.first
 |n+1,hn=>by
  have ih:=jb.lK o n (by omega)
  obtain⟨r',k1,k2⟩:=o.next n _ _ (En (by omega)) ih
  rw[k1,List.take_add_one,En (by omega:n<h.1.length)]
  simp only[Option.toList_some,List.foldl_append,List.foldl_cons,List.foldl_nil]
  rw[k2]
theorem jb.Ho {wrap:Int→Int}{h:eH}(o:jb wrap h)(day:Int):h.2[(h.1.filter fun e=>decide (vl e 0≤day)).length]?=E4 (VO wrap day h.1):=by
 have hp:=VQ (p:=fun e=>decide (vl e 0≤day)) (l:=h.1) (fun i j x y oK hx hy hp=>by
  have h1:=o.hJ i x hx (j-i) y (by rw[show i+(j-i)=j by omega];exact hy)
  simp at hp ⊢;omega)
 have:=o.lK (h.1.filter fun e=>decide (vl e 0≤day)).length (G2 _ _)
 rw[←hp]at this
 exact this
end Go.W
namespace Go.W
structure jt (r:qu):Prop where
 units:dP (·.name) r.units
 named:∀u∈r.units,u.name≠[]
 K0:∀u∈r.units,u.partner≠[]→∃v∈r.units,v.name=u.partner∧v.partner=u.name
 au:dP (·.name) r.au
 K1:dP (·.name) r.ae
 kinds:∀u∈r.units,∀v∈r.units,v.name=u.partner→v.product=u.product
theorem jt.empty (d:Int):jt ⟨d,[],[],[]⟩:=⟨by simp[dP],by simp,by simp,by simp[dP],by simp[dP],by simp⟩
theorem q2x {α β:Type}{key:α→β}{l:List α}{i:Nat}{x y:α}(hy:l[i]?=E4 y)(hk:key x=key y):(l.set i x).map key=l.map key:=by
 rw[Mn]
 apply Hd
 intro j
 by_cases hj:j=i
 ·subst hj
  have aX:=(I.1 hy).1
  rw[Gk (by simpa using aX),H7,hy,hk];rfl
 ·rw[E6 (Ne.symm hj)]
theorem q9i {α β:Type}{key:α→β}{l:List α}{i:Nat}{x y:α}(h:dP key l)(hy:l[i]?=E4 y)(hk:key x=key y):dP key (l.set i x):=by
 unfold dP at *;rw[q2x hy hk];exact h
theorem jt.aA {r:qu}(w:jt r){i:Nat}{u u':qy}(hu:r.units[i]?=E4 u)(h1:u'.name=u.name)(h2:u'.partner=u.partner)(h3:u'.product=u.product):jt (aA r i u'):=by
 have hm:=E3 hu
 have aX:=(I.1 hu).1
 -- each unit of the new list stands for one of the old with the same name,partner and product
 have old:∀v∈(Go.W.aA r i u').units,∃v0∈r.units,v0.name=v.name∧v0.partner=v.partner∧v0.product=v.product:=by
  intro v hv
  rcases xI hv with hv|rfl
  ·exact⟨v,hv,rfl,rfl,rfl⟩
  ·exact⟨u,hm,h1.symm,h2.symm,h3.symm⟩
 have new:∀v∈r.units,∃v1∈(Go.W.aA r i u').units,v1.name=v.name∧v1.partner=v.partner:=by
  intro v hv
  obtain⟨j,hj⟩:=Ha hv
  by_cases wO:j=i
  ·subst wO
   rw[hu]at hj;cases hj
   exact⟨u',E3 (i:=j) (by simp only[Go.W.aA];rw[Gk aX]),h1,h2⟩
  ·exact⟨v,E3 (i:=j) (by simp only[Go.W.aA];rw[E6 (Ne.symm wO)];exact hj),rfl,rfl⟩
 refine⟨q9i w.units hu h1,?_,?_,w.au,w.K1,?_⟩
 ·intro v hv
  obtain⟨v0,k0,k1,_⟩:=old v hv
  rw[←k1];exact w.named v0 k0
 ·intro v hv hp
  obtain⟨v0,k0,k1,k2,_⟩:=old v hv
  obtain⟨z,z0,z1,z2⟩:=w.K0 v0 k0 (by rw[k2];exact hp)
  obtain⟨z',y0,y1,y2⟩:=new z z0
  exact⟨z',y0,by rw[y1,z1,k2],by rw[y2,z2,k1]⟩
 ·intro v hv z hz hn
  obtain⟨v0,k0,k1,k2,k3⟩:=old v hv
  obtain⟨z0,j0,j1,j2,j3⟩:=old z hz
  rw[←j3,←k3]
  exact w.kinds v0 k0 z0 j0 (by rw[j1,k2];exact hn)
theorem NA {e:je}(h:kc e=0):e.names.all (fun s=>!s.isEmpty)=Hb∧∃f,fM e.kind=E4 f∧e.names.length=f.1∧e.values.length=f.2:=by
 unfold kc at h
 split at h
 ·cases h
 split at h
 ·cases h
 rename_i f hf
 split at h
 ·cases h
 rename_i hl
 split at h
 ·cases h
 rename_i hn
 refine⟨?_,f,hf,by by_cases hh:e.names.length=f.1<;>simp_all,by by_cases hh:e.values.length=f.2<;>simp_all⟩
 have hn:e.names.all cO=Hb:=by simpa using hn
 rw[List.all_eq_true]at hn ⊢
 intro s hs
 have:=hn s hs
 cases s with
 |nil=>simp[cO]at this
 |cons c t=>rfl
end Go.W
