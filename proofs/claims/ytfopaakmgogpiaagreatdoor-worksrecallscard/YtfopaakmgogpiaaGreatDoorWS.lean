/- The register of chapter 10 in plain lists. -/
set_option linter.unusedVariables false
set_option linter.unusedSimpArgs false
open List renaming getElem?_eq_some_iff→I,mem_of_getElem?→Eh,getElem?_eq_getElem→Ek,getElem?_set_ne→En,getElem?_set_self→Eo,getElem?_append_left→Eu,mem_append→Ev,findIdx?_cons→Ga,getElem?_map→Gc,getElem?_of_mem→Gf,mem_map_of_mem→Gh,getElem?_append_right→Gi,getElem?_inj→Gl,getElem?_dropLast→Gm,mem_cons→Gn,ext_getElem?→Gr,all_eq_true→Gv,getElem_mem→Gw,nodup_cons→Gx,map_cons→G2,map_set→G3
open Option renaming some→Gb,bind_some→Ge,some_get→Gy
open Ne renaming symm→Gk
namespace Go.W
abbrev Str:=List UInt8
structure qk where
 k:Str
 n:Int
 deriving DecidableEq
structure qj where
 k:Str
 a:Int
 b:Int
 deriving DecidableEq
structure qm where
 name:Str
 kind:Str
 count:Int
 left:Int
 held:Bool
 deriving DecidableEq
structure jm where
 aI:List qk
 aH:List qj
 deriving DecidableEq
structure jj where
 name:Str
 bK:jm
 aO:List jm
 deriving DecidableEq
structure qz where
 name:Str
 product:Str
 version:Int
 uses:List qk
 results:List qj
 partner:Str
 aq:Bool
 aj:Int
 deriving DecidableEq
structure qu where
 day:Int
 ar:List qm
 ae:List jj
 units:List qz
 deriving DecidableEq
structure je where
 number:Int
 kind:Str
 names:List Str
 values:List Int
 text:Str
 deriving DecidableEq
def kg (r:qu)(n:Str):Option Nat:=r.ar.findIdx? fun x=>decide (x.name=n)
def kw (r:qu)(n:Str):Option Nat:=r.ae.findIdx? fun x=>decide (x.name=n)
def yg (r:qu)(n:Str):Option Nat:=r.units.findIdx? fun x=>decide (x.name=n)
def hJ (r:qu)(n:Str):Option jj:=(kw r n).bind fun k=>r.ae[k]?
def pI (r:qu)(u:qz):Option Int:=(hJ r u.product).map fun p=>(p.aO.length:Int)
def EW (l:List jm)(v:Int):Option jm:=if 1≤v then l[(v-1).toNat]? else none
def gS (r:qu)(u:qz):Option jm:=(hJ r u.product).bind fun p=>EW p.aO u.version
def n5 (r:qu)(n:Str):Option qm:=(kg r n).bind fun k=>r.ar[k]?
theorem bC {α:Type}{p:α→Bool}{l:List α}{k:Nat}(h:l.findIdx? p=Gb k):∃x,l[k]?=Gb x∧p x=true∧k<l.length∧∀j x,j<k→l[j]?=Gb x→p x=false:=by
 induction l generalizing k with
 |nil=>simp at h
 |cons y l ih=>
  rw[Ga]at h
  by_cases hp:p y=true
  ·rw[if_pos hp]at h
   cases h
   exact⟨y,rfl,hp,by simp,fun j x hj=>by omega⟩
  ·rw[if_neg hp]at h
   obtain⟨i,hi,rfl⟩:=Option.map_eq_some_iff.1 h
   obtain⟨x,h1,h2,h3,h4⟩:=ih hi
   refine⟨x,by simpa using h1,h2,by simp;omega,fun j z hj hz=>?_⟩
   cases j with
   |zero=>simp at hz;subst hz;simpa using hp
   |succ j=>exact h4 j z (by omega) (by simpa using hz)
theorem dK {α:Type}{p:α→Bool}{l:List α}:l.findIdx? p=none↔∀x∈l,p x=false:=by
 induction l with
 |nil=>simp
 |cons y l ih=>
  rw[Ga]
  by_cases hp:p y=true
  ·rw[if_pos hp];simp[hp]
  ·rw[if_neg hp]
   have dS:p y=false:=by simpa using hp
   simp[ih,dS]
def eS {α:Type}(same:α→Bool)(x:α)(l:List α):List α:=match l.findIdx? same with
 |some i=>l.set i x
 |none=>l++[x]
def E2 {α:Type}(same:α→Bool)(x:α)(l:List α):List α:=(l.map fun y=>if same y then x else y)++(if l.any same then []else [x])
def kz {α β:Type}(key:α→β)(l:List α):Prop:=(l.map key).Nodup
theorem qwn {α β:Type}[DecidableEq β]{key:α→β}{k x}:∀ {l:List α},kz key l→(l.map fun y=>if decide (key y=k)then x else y)=(match l.findIdx? (fun y=>decide (key y=k))with|some i=>l.set i x|none=>l)
 | [],_=>rfl
 |y::l,h=>by
  have hn:=Gx.1 (by simpa[kz]using h:(key y::l.map key).Nodup)
  rw[Ga]
  by_cases hy:key y=k
  ·simp only[G2,hy,decide_true,if_true]
   have:l.map (fun y=>if decide (key y=k)then x else y)=l:=by
    conv=>rhs;rw[←List.map_id l]
    refine List.map_congr_left fun z hz=>?_
    have:key z≠k:=fun e=>hn.1 (by rw[hy,←e];exact Gh hz)
    simp[this]
   rw[this];rfl
  ·have ih:=qwn (k:=k) (x:=x) (l:=l) hn.2
   simp only[G2,hy,decide_false,Bool.false_eq_true,if_false]
   rw[ih]
   cases l.findIdx? (fun y=>decide (key y=k))with
   |none=>rfl
   |some i=>rfl
theorem Bi {α:Type}{p:α→Bool}{l:List α}:l.any p=(l.findIdx? p).isSome:=by
 induction l with
 |nil=>rfl
 |cons y l ih=>
  rw[Ga,List.any_cons]
  by_cases hp:p y=true
  ·rw[if_pos hp,hp];rfl
  ·rw[if_neg hp]
   have:p y=false:=by simpa using hp
   rw[this,Bool.false_or,ih]
   cases l.findIdx? p<;>rfl
theorem q1c {α β:Type}[DecidableEq β]{key:α→β}{k:β}{x:α}{l}(h:kz key l):E2 (fun y=>decide (key y=k)) x l=eS (fun y=>decide (key y=k)) x l:=by
 unfold E2 eS
 rw[qwn h,Bi]
 cases l.findIdx? (fun y=>decide (key y=k))with
 |none=>simp
 |some i=>simp
theorem q1g {α β:Type}[DecidableEq β]{key:α→β}{k:β}{x:α}(hx:key x=k):∀ {l:List α} {i:Nat},kz key l→l.findIdx? (fun y=>decide (key y=k))=Gb i→kz key (l.set i x):=by
 intro l i h hi
 obtain⟨y,h1,h2,h3,_⟩:=bC hi
 have:(l.set i x).map key=l.map key:=by
  rw[G3]
  apply Gr
  intro j
  by_cases hj:j=i
  ·subst hj
   rw[Eo (by simpa using h3),Gc,h1]
   simp at h2;simp[hx,h2]
  ·rw[En (Gk hj)]
 unfold kz;rw[this];exact h
theorem Qf {α β:Type}[DecidableEq β]{key:α→β}{k:β}{x:α}{l}(hx:key x=k)(h:kz key l):kz key (eS (fun y=>decide (key y=k)) x l):=by
 unfold eS
 cases hi:l.findIdx? (fun y=>decide (key y=k))with
 |some i=>exact q1g hx h hi
 |none=>
  rw[dK]at hi
  unfold kz at *
  rw[List.map_append,List.nodup_append]
  refine⟨h,by simp,?_⟩
  intro a ha b hb
  simp at hb
  subst hb
  obtain⟨z,hz,rfl⟩:=List.mem_map.1 ha
  have:=hi z hz
  rw[hx];simpa using this
theorem q21 {α β:Type}{key:α→β}{l}(p:α→Bool)(h:kz key l):kz key (l.filter p):=
 List.Nodup.sublist (List.Sublist.map key List.filter_sublist) h
end Go.W
namespace Go.W
def mf:Str:=[108,111,116]
def ng:Str:=[112,114,111,100,117,99,116]
def mg:Str:=[110,101,101,100]
def nh:Str:=[116,101,115,116]
def pG:Str:=[105,115,115,117,101]
def mr:Str:=[98,117,105,108,100]
def mA:Str:=[117,115,101]
def oG:Str:=[109,101,97,115,117,114,101]
def pH:Str:=[117,112,100,97,116,101]
def ni:Str:=[112,97,105,114]
def nZ:Str:=[104,111,108,100]
def rF:Str:=[102,114,101,101]
def kP:Str:=[115,104,105,112]
def x9:Str:=[99,111,109,112,108,97,105,110]
def oH:Str:=[117,110,100,111]
def EY (wrap:Int→Int)(r:qu)(u:qz)(kind:Str):Int:=u.uses.foldl (fun n x=>if(n5 r x.k).any (fun l=>decide (l.kind=kind))then wrap (n+x.n)else n) 0
def rH (u:qz)(t:qj):Bool:=u.results.foldl (fun is x=>if decide (x.k=t.k)&&decide (x.a=u.version)then decide (t.a≤x.b)&&decide (x.b≤t.b)else is) false
def yA (d:jm)(u:qz):List Str:=(d.aH.filter fun t=>!rH u t).map (·.k)
def yB (wrap:Int→Int)(r:qu)(d:jm)(u:qz):Bool:=d.aI.all fun n=>decide (n.n≤EY wrap r u n.k)
def Bk (r:qu)(u:qz):Bool:=u.uses.any fun x=>(n5 r x.k).any (·.held)
def vm (wrap:Int→Int)(r:qu)(u:qz):Int:=
 if u.aq then 21 else if pI r u≠Gb u.version then 32 else
 match gS r u with
 |none=>20
 |some d=>if !yB wrap r d u then 20 else if !(yA d u).isEmpty then 31 else if Bk r u then 34 else 0
def b8 (r:qu)(i:Nat)(x:qm):qu:={ r with ar:=r.ar.set i x }
def bD (r:qu)(i:Nat)(x:jj):qu:={ r with ae:=r.ae.set i x }
def aw (r:qu)(i:Nat)(x:qz):qu:={ r with units:=r.units.set i x }
def cN (k:Str)(x:qk):Bool:=decide (x.k=k)
def ec (k:Str)(x:qj):Bool:=decide (x.k=k)
def jE (l:List qk)(k:Str)(n:Int):List qk:=if n=0 then l.filter (fun x=>!cN k x)else eS (cN k) ⟨k,n⟩ l
def mF (wrap:Int→Int)(l:List qk)(k:Str)(n:Int):List qk:=match l.findIdx? (cN k)with
 |some i=>(match l[i]? with
  |some x=>l.set i ⟨k,wrap (n+x.n)⟩
  |none=>l)
 |none=>l++[⟨k,n⟩]
def nm (e:je)(i:Nat):Str:=(e.names[i]?).getD []
def vl (e:je)(i:Nat):Int:=(e.values[i]?).getD 0
abbrev pJ:=Except Int qu
def n8 (r:qu)(e:je):pJ:=
 if e.kind=mf then
  (if(kg r (nm e 0)).isSome then .error 9 else if vl e 1<1∨10000<vl e 1 then .error 3 else if 64≤r.ar.length then .error 5 else
   .ok { r with ar:=r.ar++[⟨nm e 0,nm e 1,vl e 1,vl e 1,false⟩] })
 else if e.kind=ng then
  (if(kw r (nm e 0)).isSome then .error 9 else if 16≤r.ae.length then .error 5 else .ok { r with ae:=r.ae++[⟨nm e 0,⟨[],[]⟩,[]⟩] })
 else match hJ r (nm e 1)with
  |none=>.error 10
  |some p=>if(yg r (nm e 0)).isSome then .error 9 else if p.aO.isEmpty then .error 32 else if 256≤r.units.length then .error 5 else
    .ok { r with units:=r.units++[⟨nm e 0,nm e 1,p.aO.length,[],[],[],false,0⟩] }
def n9 (r:qu)(e:je):pJ:=match kw r (nm e 0)with
 |none=>.error 10
 |some i=>match r.ae[i]? with
  |none=>.error 10
  |some p=>
   if e.kind=mg then
    (if vl e 1<0∨10000<vl e 1 then .error 3 else if 0<vl e 1∧!(p.bK.aI.any (cN (nm e 1)))∧16≤p.bK.aI.length then .error 5 else
     .ok (bD r i { p with bK:={ p.bK with aI:=jE p.bK.aI (nm e 1) (vl e 1) } }))
   else if e.kind=nh then
    (if vl e 2<vl e 1 then .error 11 else if !(p.bK.aH.any (ec (nm e 1)))∧16≤p.bK.aH.length then .error 5 else
     .ok (bD r i { p with bK:={ p.bK with aH:=eS (ec (nm e 1)) ⟨nm e 1,vl e 1,vl e 2⟩ p.bK.aH } }))
   else(if p.bK.aI.isEmpty then .error 12 else if 100≤p.aO.length then .error 5 else .ok (bD r i { p with aO:=p.aO++[p.bK] }))
def vo (r:qu)(e:je):pJ:=match kg r (nm e 0)with
 |none=>.error 10
 |some i=>match r.ar[i]? with
  |none=>.error 10
  |some x=>if e.kind=nZ then(if x.held then .error 34 else .ok (b8 r i { x with held:=true }))else(if !x.held then .error 20 else .ok (b8 r i { x with held:=false }))
def wA (wrap:Int→Int)(r:qu)(i:Nat)(u:qz)(e:je):pJ:=match kg r (nm e 1)with
 |none=>.error 10
 |some k=>match r.ar[k]? with
  |none=>.error 10
  |some x=>if u.aq then .error 21 else if vl e 1=0 then .error 3 else if x.held then .error 34 else
   if !((gS r u).any fun d=>d.aI.any (cN x.kind))then .error 7 else if x.left<vl e 1 then .error 4 else
    .ok (aw (b8 r k { x with left:=wrap (x.left-vl e 1) }) i { u with uses:=mF wrap u.uses x.name (vl e 1) })
def wC (r:qu)(i:Nat)(u:qz)(e:je):pJ:=match yg r (nm e 1)with
 |none=>.error 10
 |some k=>match r.units[k]? with
  |none=>.error 10
  |some v=>if i=k then .error 9 else if u.product≠v.product∨u.version≠v.version then .error 30 else if u.aq∨v.aq then .error 21 else
   if u.partner≠[]∨v.partner≠[]then .error 35 else .ok (aw (aw r i { u with partner:=v.name }) k { v with partner:=u.name })
def oc (wrap:Int→Int)(r:qu)(e:je):pJ:=match yg r (nm e 0)with
 |none=>.error 10
 |some i=>match r.units[i]? with
  |none=>.error 10
  |some u=>
   if e.kind=mA then wA wrap r i u e
   else if e.kind=ni then wC r i u e
   else if e.kind=oG then
    (if u.aq then .error 21 else if !((gS r u).any fun d=>d.aH.any (ec (nm e 1)))then .error 7 else if 64≤u.results.length then .error 5 else
     .ok (aw r i { u with results:=u.results++[⟨nm e 1,u.version,vl e 1⟩] }))
   else if e.kind=pH then
    (if u.aq then .error 21 else match pI r u with
     |none=>.error 32
     |some v=>if u.version=v then .error 32 else .ok (aw r i { u with version:=v }))
   else if e.kind=kP then(if vm wrap r u≠0 then .error (vm wrap r u)else .ok (aw r i { u with aq:=true }))
   else(if !u.aq then .error 20 else .ok (aw r i { u with aj:=wrap (u.aj+1) }))
def apply (wrap:Int→Int)(r:qu)(e:je):pJ:=
 if e.kind=mf∨e.kind=ng∨e.kind=mr then n8 r e
 else if e.kind=mg∨e.kind=nh∨e.kind=pG then n9 r e
 else if e.kind=nZ∨e.kind=rF then vo r e
 else oc wrap r e
def after (wrap:Int→Int)(r:qu)(e:je):pJ:=if vl e 0<r.day then .error 20 else match apply wrap r e with
 | .error x=>.error x
 | .ok r'=>.ok { r' with day:=vl e 0 }
structure WF (r:qu):Prop where
 aI:∀p∈r.ae,kz (·.k) p.bK.aI∧p.bK.aI.length≤16
 aH:∀p∈r.ae,kz (·.k) p.bK.aH∧p.bK.aH.length≤16
 dI:∀u∈r.units,(gS r u).isSome
 uses:∀u∈r.units,kz (·.k) u.uses∧∀x∈u.uses,(kg r x.k).isSome
theorem WF.empty (d:Int):WF ⟨d,[],[],[]⟩:=⟨by simp,by simp,by simp,by simp⟩
theorem findIdx?_append {α:Type}{p:α→Bool}{l m:List α}{k:Nat}(h:l.findIdx? p=Gb k):(l++m).findIdx? p=Gb k:=by
 rw[List.findIdx?_append,h];rfl
theorem fT {α:Type}{p:α→Bool}{l:List α}{i:Nat}{x y}(hy:l[i]?=Gb y)(hxy:p x=p y):(l.set i x).findIdx? p=l.findIdx? p:=by
 induction l generalizing i with
 |nil=>rfl
 |cons z l ih=>
  cases i with
  |zero=>
   simp at hy;subst hy
   rw[List.set_cons_zero,Ga,Ga,hxy]
  |succ i=>
   rw[List.set_cons_succ,Ga,Ga,ih (by simpa using hy)]
theorem qpe {r r' u}(h:∀n p,hJ r n=Gb p→∃p',hJ r' n=Gb p'∧∃m,p'.aO=p.aO++m)(hp:(gS r u).isSome):(gS r' u).isSome:=by
 unfold gS at *
 cases hq:hJ r u.product with
 |none=>rw[hq]at hp;simp at hp
 |some p=>
  rw[hq]at hp
  obtain⟨p',h1,m,h2⟩:=h _ _ hq
  rw[h1]
  simp only[Ge,EW]at hp ⊢
  split at hp
  ·rename_i hv
   rw[if_pos hv,h2]
   have bh:=(I.1 (Gy hp).symm).1
   rw[Eu bh];exact hp
  ·simp at hp
theorem q6a {r r'}(h:r'.ae=r.ae)(n:Str):hJ r' n=hJ r n:=by unfold hJ kw;rw[h]
theorem jay {r r'}(h:r'.ae=r.ae)(u:qz):gS r' u=gS r u:=by unfold gS;rw[q6a h]
theorem Cr {r r' u}(hp:(gS r u).isSome)(h:r'.ae=r.ae:=by rfl):(gS r' u).isSome:=by rw[jay h];exact hp
theorem jal {r:qu}{i:Nat}{p p':jj}(hp:r.ae[i]?=Gb p)(hn:p'.name=p.name)(hd:∃m,p'.aO=p.aO++m)(n:Str)(q:jj)(hq:hJ r n=Gb q):∃q',hJ (bD r i p') n=Gb q'∧∃m,q'.aO=q.aO++m:=by
 unfold hJ kw at *
 simp only[bD]
 rw[fT hp (by simp[hn])]
 cases hk:r.ae.findIdx? (fun x=>decide (x.name=n))with
 |none=>rw[hk]at hq;simp at hq
 |some k=>
  rw[hk]at hq
  simp only[Ge]at hq ⊢
  have bh:=(I.1 hp).1
  by_cases AR:k=i
  ·subst AR
   rw[hp]at hq;cases hq
   exact⟨p',by rw[Eo bh],hd⟩
  ·exact⟨q,by rw[En (Gk AR)];exact hq,[],by simp⟩
theorem yP {α:Type}{l:List α}{i x y}(h:y∈l.set i x):y∈l∨y=x:=List.mem_or_eq_of_mem_set h
theorem q4y {wrap l k n}(h:kz (·.k) l):kz (·.k) (mF wrap l k n):=by
 unfold mF
 cases hi:l.findIdx? (cN k)with
 |none=>
  have:=Qf (key:=fun x:qk=>x.k) (k:=k) (x:=⟨k,n⟩) rfl h
  unfold eS at this
  rw[show l.findIdx? (fun y=>decide (y.k=k))=none from hi]at this
  exact this
 |some i=>
  obtain⟨x,h1,_⟩:=bC hi
  simp only[h1]
  exact q1g rfl h hi
theorem q9v {wrap:Int→Int}{l:List qk}{k n x}(h:x∈mF wrap l k n):x.k=k∨x∈l:=by
 unfold mF at h
 split at h
 ·split at h
  ·rcases yP h with h|rfl
   ·exact .inr h
   ·exact .inl rfl
  ·exact .inr h
 ·rcases Ev.1 h with h|h
  ·exact .inr h
  ·simp at h;subst h;exact .inl rfl
theorem q1e {r:qu}{i:Nat}{x y:qm}(hx:r.ar[i]?=Gb x)(hn:y.name=x.name)(n:Str):kg (b8 r i y) n=kg r n:=by
 unfold kg b8;exact fT hx (by simp[hn])
theorem WF.aw {r:qu}(w:WF r){i:Nat}{u u'}(hu:r.units[i]?=Gb u)(hp:(gS r u').isSome)(hk:kz (·.k) u'.uses∧∀x∈u'.uses,(kg r x.k).isSome):WF (aw r i u'):=by
 refine⟨w.aI,w.aH,?_,?_⟩
 ·intro v hv
  refine Cr (r:=r) ?_
  rcases yP hv with hv|rfl
  ·exact w.dI v hv
  ·exact hp
 ·intro v hv
  rcases yP hv with hv|rfl
  ·exact w.uses v hv
  ·exact hk
theorem WF.b8 {r}(w:WF r){i x y}(hx:r.ar[i]?=Gb x)(hn:y.name=x.name):WF (b8 r i y):=
 ⟨w.aI,w.aH,fun u hu=>Cr (w.dI u hu),fun u hu=>⟨(w.uses u hu).1,fun z hz=>by rw[q1e hx hn];exact(w.uses u hu).2 z hz⟩⟩
theorem WF.bD {r:qu}(w:WF r){i:Nat}{p p'}(hp:r.ae[i]?=Gb p)(hn:p'.name=p.name)(hd:∃m,p'.aO=p.aO++m)(h1:kz (·.k) p'.bK.aI∧p'.bK.aI.length≤16)(h2:kz (·.k) p'.bK.aH∧p'.bK.aH.length≤16):WF (bD r i p'):=by
 refine⟨?_,?_,?_,?_⟩
 ·intro q hq
  rcases yP hq with hq|rfl
  ·exact w.aI q hq
  ·exact h1
 ·intro q hq
  rcases yP hq with hq|rfl
  ·exact w.aH q hq
  ·exact h2
 ·intro u hu
  exact qpe (fun n q hq=>jal hp hn hd n q hq) (w.dI u hu)
 ·exact w.uses
theorem qx4 {α:Type}{p:α→Bool}{x l}(h:l.length≤16)(h2:¬(!(l.any p)∧16≤l.length)):(eS p x l).length≤16:=by
 unfold eS
 cases hi:l.findIdx? p with
 |some i=>simpa using h
 |none=>
  have:l.any p=false:=by rw[Bi,hi];rfl
  simp[this]at h2
  simp;omega
theorem jai {l:List qk}{k:Str}{n}(h:kz (·.k) l∧l.length≤16)(h0:0≤n)(h2:¬(0<n∧!(l.any (cN k))∧16≤l.length)):kz (·.k) (jE l k n)∧(jE l k n).length≤16:=by
 unfold jE
 by_cases hn:n=0
 ·rw[if_pos hn]
  exact⟨q21 _ h.1,Nat.le_trans (List.length_filter_le _ _) h.2⟩
 ·rw[if_neg hn]
  refine⟨Qf (key:=fun x:qk=>x.k) rfl h.1,qx4 h.2 fun hh=>h2 ⟨by omega,hh.1,hh.2⟩⟩
theorem je5 {wrap:Int→Int}{r r':qu}{e:je}(w:WF r)(h:after wrap r e=.ok r'):WF r':=by
 unfold after at h
 split at h
 ·cases h
 split at h
 ·cases h
 rename_i r1 ha
 cases h
 suffices hw:WF r1 from⟨hw.aI,hw.aH,fun u hu=>Cr (hw.dI u hu),hw.uses⟩
 unfold apply at ha
 split at ha
 ·-- a new thing
  unfold n8 at ha
  split at ha
  ·repeat' split at ha
   all_goals first|(cases ha;done)|skip
   cases ha
   exact⟨w.aI,w.aH,fun u hu=>Cr (w.dI u hu),fun u hu=>⟨(w.uses u hu).1,fun x hx=>by
    have:=(w.uses u hu).2 x hx
    unfold kg at *
    obtain⟨k,hk⟩:=Option.isSome_iff_exists.1 this
    rw[findIdx?_append hk];rfl⟩⟩
  split at ha
  ·repeat' split at ha
   all_goals first|(cases ha;done)|skip
   cases ha
   refine⟨?_,?_,?_,w.uses⟩
   ·intro p hp
    rcases Ev.1 hp with hp|hp
    ·exact w.aI p hp
    ·simp at hp;subst hp;exact⟨by simp[kz],by simp⟩
   ·intro p hp
    rcases Ev.1 hp with hp|hp
    ·exact w.aH p hp
    ·simp at hp;subst hp;exact⟨by simp[kz],by simp⟩
   ·intro u hu
    refine qpe (fun n p hp=>⟨p,?_,[],by simp⟩) (w.dI u hu)
    unfold hJ kw at *
    cases hk:r.ae.findIdx? (fun x=>decide (x.name=n))with
    |none=>rw[hk]at hp;simp at hp
    |some k=>
     rw[hk]at hp
     rw[findIdx?_append hk]
     simp only[Ge]at hp ⊢
     rw[Eu (I.1 hp).1];exact hp
  ·split at ha
   ·cases ha
   rename_i p hp
   repeat' split at ha
   all_goals first|(cases ha;done)|skip
   rename_i bu _
   cases ha
   refine⟨w.aI,w.aH,?_,?_⟩
   ·intro u hu
    refine Cr (r:=r) ?_
    rcases Ev.1 hu with hu|hu
    ·exact w.dI u hu
    ·simp at hu;subst hu
     unfold gS
     simp only[hp,Ge,EW]
     have:0<p.aO.length:=by
      cases hd:p.aO with
      |nil=>rw[hd]at bu;simp at bu
      |cons _ _=>simp
     rw[if_pos (by omega),Ek (by omega)];rfl
   ·intro u hu
    rcases Ev.1 hu with hu|hu
    ·exact w.uses u hu
    ·simp at hu;subst hu;exact⟨by simp[kz],by simp⟩
 split at ha
 ·-- a product
  unfold n9 at ha
  split at ha
  ·cases ha
  split at ha
  ·cases ha
  rename_i i hi p hp
  have cR:=Eh hp
  split at ha
  ·repeat' split at ha
   all_goals first|(cases ha;done)|skip
   rename_i hr h2
   cases ha
   exact w.bD hp rfl ⟨[],by simp⟩ (jai (w.aI p cR) (by omega) h2) (w.aH p cR)
  split at ha
  ·repeat' split at ha
   all_goals first|(cases ha;done)|skip
   rename_i hr h2
   cases ha
   exact w.bD hp rfl ⟨[],by simp⟩ (w.aI p cR) ⟨Qf (key:=fun x:qj=>x.k) rfl (w.aH p cR).1,qx4 (w.aH p cR).2 h2⟩
  ·repeat' split at ha
   all_goals first|(cases ha;done)|skip
   cases ha
   exact w.bD hp rfl ⟨_,rfl⟩ (w.aI p cR) (w.aH p cR)
 split at ha
 ·-- a lot
  unfold vo at ha
  split at ha
  ·cases ha
  split at ha
  ·cases ha
  rename_i i hi x hx
  repeat' split at ha
  all_goals first|(cases ha;done)|(cases ha;exact w.b8 hx rfl)
 ·-- a unit
  unfold oc at ha
  split at ha
  ·cases ha
  split at ha
  ·cases ha
  rename_i i hi u hu
  have cR:=Eh hu
  have uw:=w.dI u cR
  split at ha
  ·unfold wA at ha
   split at ha
   ·cases ha
   split at ha
   ·cases ha
   rename_i _ k hk _ x hx
   repeat' split at ha
   all_goals first|(cases ha;done)|skip
   cases ha
   refine(w.b8 (y:={ x with left:=wrap (x.left-vl e 1) }) hx rfl).aw (u':={ u with uses:=mF wrap u.uses x.name (vl e 1) }) hu (Cr (r:=r) uw) ⟨q4y (w.uses u cR).1,fun z hz=>?_⟩
   rw[q1e (y:={ x with left:=wrap (x.left-vl e 1) }) hx rfl]
   rcases q9v hz with hz|hz
   ·obtain⟨y,h1,h2,_⟩:=bC hk
    rw[hx]at h1;cases h1
    simp at h2
    rw[hz,h2,hk];rfl
   ·exact(w.uses u cR).2 z hz
  split at ha
  ·unfold wC at ha
   split at ha
   ·cases ha
   split at ha
   ·cases ha
   rename_i k hk v hv
   have Cs:=Eh hv
   split at ha
   ·cases ha
   rename_i AU
   repeat' split at ha
   all_goals first|(cases ha;done)|skip
   cases ha
   exact(w.aw (u':={ u with partner:=v.name }) hu uw (w.uses u cR)).aw (u':={ v with partner:=u.name }) (by simp only[aw];rw[En AU];exact hv) (Cr (r:=r) (w.dI v Cs)) (w.uses v Cs)
  split at ha
  ·repeat' split at ha
   all_goals first|(cases ha;done)|skip
   cases ha
   exact w.aw hu uw (w.uses u cR)
  split at ha
  ·split at ha
   ·cases ha
   split at ha
   ·cases ha
   rename_i v hv
   split at ha
   ·cases ha
   cases ha
   refine w.aw hu ?_ (w.uses u cR)
   unfold gS pI at *
   cases hq:hJ r u.product with
   |none=>rw[hq]at hv;simp at hv
   |some p=>
    rw[hq]at hv uw
    simp only[Option.map_some,Gb.injEq,Ge]at hv uw ⊢
    subst hv
    unfold EW at uw ⊢
    split at uw
    ·have bh:=(I.1 (Gy uw).symm).1
     rw[if_pos (by omega),Ek (by omega)];rfl
    ·simp at uw
  split at ha
  ·split at ha
   ·cases ha
   cases ha
   exact w.aw hu uw (w.uses u cR)
  ·split at ha
   ·cases ha
   cases ha
   exact w.aw hu uw (w.uses u cR)
end Go.W
namespace Go.W
def cW:List (Str×Nat×Nat):=[(mf,2,2),(ng,1,1),(mg,2,2),(nh,2,3),(pG,1,1),(mr,2,1),(mA,2,2),(oG,2,2),(pH,1,1),(ni,2,1),(nZ,1,1),(rF,1,1),(kP,1,1),(x9,1,1),(oH,0,0)]
def fR (k:Str):Option (Nat×Nat):=(cW.find? fun x=>decide (x.1=k)).map (·.2)
def vu (c:UInt8):Bool:=(decide (65≤c.toNat)&&decide (c.toNat≤90))||(decide (97≤c.toNat)&&decide (c.toNat≤122))
def Fg (c:UInt8):Bool:=(decide (48≤c.toNat)&&decide (c.toNat≤57))||decide (c.toNat=95)
def cO (s:Str):Bool:=match s with
 | []=>false
 |c::t=>vu c&&t.all (fun c=>vu c||Fg c)&&decide (s.length≤24)
def ki (e:je):Int:=
 if e.number<1∨1000<e.number then 3 else match fR e.kind with
 |none=>13
 |some f=>if e.names.length≠f.1∨e.values.length≠f.2 then 2 else if !(e.names.all cO)then 8 else if !(e.values.all fun n=>decide (0≤n)&&decide (n≤999999999))then 3 else if e.text≠[]then 1 else 0
abbrev iQ:=List je×List qu
def mH:qu:=⟨0,[],[],[]⟩
def now (h:iQ):qu:=h.2.getLast?.getD mH
def accept (wrap:Int→Int)(h:iQ)(k:Int)(e:je):Except Int iQ:=
 if e.number≠k then .error 11 else
 if e.kind=oH then(match h.1.getLast? with
  |none=>.error 12
  |some c=>if c.kind=kP then .error 19 else .ok (h.1.dropLast,h.2.dropLast))
 else match after wrap (now h) e with
  | .error x=>.error x
  | .ok r=>.ok (h.1++[e],h.2++[r])
def vz (wrap:Int→Int):Nat→iQ→List je→Except (Int×Int) iQ
 |_,h,[]=>.ok h
 |i,h,e::l=>if ki e≠0 then .error ((i:Int)+1,ki e)else match accept wrap h ((i:Int)+1) e with
  | .error x=>.error ((i:Int)+1,x)
  | .ok h'=>vz wrap (i+1) h' l
def run (wrap:Int→Int)(l:List je):Except (Int×Int) iQ:=if 1000<l.length then .error (0,5)else vz wrap 0 ([],[mH]) l
structure jb (wrap:Int→Int)(h:iQ):Prop where
 len:h.2.length=h.1.length+1
 first:h.2[0]?=Gb mH
 next:∀j e r,h.1[j]?=Gb e→h.2[j]?=Gb r→∃r',h.2[j+1]?=Gb r'∧after wrap r e=.ok r'
 kinds:∀e∈h.1,ki e=0∧e.kind≠oH
theorem jb.empty {wrap}:jb wrap ([],[mH]):=⟨rfl,rfl,fun j e r h=>by simp at h,by simp⟩
theorem jb.now {wrap h}(k:jb wrap h):h.2[h.1.length]?=Gb (Go.W.now h):=by
 unfold Go.W.now
 have hl:=k.len
 rw[List.getLast?_eq_getElem?,hl]
 have:h.1.length<h.2.length:=by omega
 simp[Ek this]
theorem jb.accept {wrap h h' k e}(o:jb wrap h)(hc:ki e=0)(ha:accept wrap h k e=.ok h'):jb wrap h':=by
 unfold Go.W.accept at ha
 split at ha
 ·cases ha
 split at ha
 ·split at ha
  ·cases ha
  ·rename_i c hc
   split at ha
   ·cases ha
   cases ha
   have gN:0<h.1.length:=by
    cases hh:h.1 with
    |nil=>rw[hh]at hc;simp at hc
    |cons _ _=>simp
   have hl:=o.len
   refine⟨by simp only[List.length_dropLast];omega,?_,?_,?_⟩
   ·rw[Gm,if_pos (by omega)];exact o.first
   ·intro j e' r h1 h2
    simp only[Gm]at h1 h2 ⊢
    split at h1
    ·rename_i hj
     rw[if_pos (by omega)]at h2
     rw[if_pos (by omega)]
     exact o.next j e' r h1 h2
    ·cases h1
   ·intro e' he
    exact o.kinds e' (List.mem_of_mem_take (by rwa [List.dropLast_eq_take]at he))
 ·rename_i hnu
  split at ha
  ·cases ha
  ·rename_i r hr
   cases ha
   have hl:=o.len
   refine⟨by simp only[List.length_append,List.length_cons,List.length_nil];omega,?_,?_,?_⟩
   ·rw[Eu (by omega)];exact o.first
   ·intro j e' q h1 h2
    by_cases hj:j<h.1.length
    ·rw[Eu hj]at h1
     rw[Eu (by omega)]at h2
     obtain⟨r',k1,k2⟩:=o.next j e' q h1 h2
     exact⟨r',by rw[Eu (by have:=(I.1 k1).1;omega)];exact k1,k2⟩
    ·have hj':j=h.1.length:=by have:=(I.1 h1).1;simp at this;omega
     subst hj'
     rw[Gi (Nat.le_refl _)]at h1
     simp at h1;subst h1
     rw[Eu (by omega),o.now]at h2
     cases h2
     exact⟨r,by rw[Gi (by omega)];simp[hl],hr⟩
   ·intro e' he
    rcases Ev.1 he with he|he
    ·exact o.kinds e' he
    ·simp at he;subst he;exact⟨hc,hnu⟩
theorem jb.wf {wrap h}(o:jb wrap h):∀(j:Nat) (r:qu),h.2[j]?=Gb r→WF r
 |0,r,hr=>by rw[o.first]at hr;cases hr;exact WF.empty 0
 |j+1,r,hr=>by
  have bh:=(I.1 hr).1
  have hl:=o.len
  have h1:j<h.1.length:=by omega
  obtain⟨r',k1,k2⟩:=o.next j _ _ (Ek h1) (Ek (by omega:j<h.2.length))
  rw[k1]at hr;cases hr
  exact je5 (jb.wf o j _ (Ek (by omega))) k2
theorem jb.rM {wrap h}(o:jb wrap h):WF (Go.W.now h):=o.wf _ _ o.now
end Go.W
namespace Go.W
structure jc (r:qu):Prop where
 units:kz (·.name) r.units
 named:∀u∈r.units,u.name≠[]
 fb:∀u∈r.units,u.partner≠[]→∃v∈r.units,v.name=u.partner∧v.partner=u.name
 ar:kz (·.name) r.ar
 iE:kz (·.name) r.ae
 kinds:∀u∈r.units,∀v∈r.units,v.name=u.partner→v.product=u.product
theorem jc.empty (d:Int):jc ⟨d,[],[],[]⟩:=⟨by simp[kz],by simp,by simp,by simp[kz],by simp[kz],by simp⟩
theorem Yz {α β:Type}[DecidableEq β]{key:α→β}{l:List α}{x:α}(h:kz key l)(hn:l.findIdx? (fun y=>decide (key y=key x))=none):kz key (l++[x]):=by
 have:=Qf (x:=x) rfl h
 unfold eS at this
 rw[hn]at this
 exact this
theorem q3r {α β:Type}{key:α→β}{l:List α}{i:Nat}{x y:α}(hy:l[i]?=Gb y)(hk:key x=key y):(l.set i x).map key=l.map key:=by
 rw[G3]
 apply Gr
 intro j
 by_cases hj:j=i
 ·subst hj
  have bh:=(I.1 hy).1
  rw[Eo (by simpa using bh),Gc,hy,hk];rfl
 ·rw[En (Gk hj)]
theorem FE {α β:Type}{key:α→β}{l:List α}{i:Nat}{x y:α}(h:kz key l)(hy:l[i]?=Gb y)(hk:key x=key y):kz key (l.set i x):=by
 unfold kz at *;rw[q3r hy hk];exact h
theorem jc.aw {r:qu}(w:jc r){i:Nat}{u u':qz}(hu:r.units[i]?=Gb u)(h1:u'.name=u.name)(h2:u'.partner=u.partner)(h3:u'.product=u.product):jc (aw r i u'):=by
 have hm:=Eh hu
 have bh:=(I.1 hu).1
 -- each unit of the new list stands for one of the old with the same name,partner and product
 have old:∀v∈(Go.W.aw r i u').units,∃v0∈r.units,v0.name=v.name∧v0.partner=v.partner∧v0.product=v.product:=by
  intro v hv
  rcases yP hv with hv|rfl
  ·exact⟨v,hv,rfl,rfl,rfl⟩
  ·exact⟨u,hm,h1.symm,h2.symm,h3.symm⟩
 have new:∀v∈r.units,∃v1∈(Go.W.aw r i u').units,v1.name=v.name∧v1.partner=v.partner:=by
  intro v hv
  obtain⟨j,hj⟩:=Gf hv
  by_cases pw:j=i
  ·subst pw
   rw[hu]at hj;cases hj
   exact⟨u',Eh (i:=j) (by simp only[Go.W.aw];rw[Eo bh]),h1,h2⟩
  ·exact⟨v,Eh (i:=j) (by simp only[Go.W.aw];rw[En (Gk pw)];exact hj),rfl,rfl⟩
 refine⟨FE w.units hu h1,?_,?_,w.ar,w.iE,?_⟩
 ·intro v hv
  obtain⟨v0,k0,k1,_⟩:=old v hv
  rw[←k1];exact w.named v0 k0
 ·intro v hv hp
  obtain⟨v0,k0,k1,k2,_⟩:=old v hv
  obtain⟨z,z0,z1,z2⟩:=w.fb v0 k0 (by rw[k2];exact hp)
  obtain⟨z',y0,y1,y2⟩:=new z z0
  exact⟨z',y0,by rw[y1,z1,k2],by rw[y2,z2,k1]⟩
 ·intro v hv z hz hn
  obtain⟨v0,k0,k1,k2,k3⟩:=old v hv
  obtain⟨z0,j0,j1,j2,j3⟩:=old z hz
  rw[←j3,←k3]
  exact w.kinds v0 k0 z0 j0 (by rw[j1,k2];exact hn)
theorem jc.iF {r:qu}(w:jc r){ls:List qm}(h:kz (·.name) ls):jc { r with ar:=ls }:=⟨w.units,w.named,w.fb,h,w.iE,w.kinds⟩
theorem jc.jX {r:qu}(w:jc r){ps:List jj}(h:kz (·.name) ps):jc { r with ae:=ps }:=⟨w.units,w.named,w.fb,w.ar,h,w.kinds⟩
theorem FF {α β:Type}{key:α→β}{l:List α}(h:kz key l){x y:α}(hx:x∈l)(hy:y∈l)(he:key x=key y):x=y:=by
 induction l with
 |nil=>cases hx
 |cons z l ih=>
  have hn:=Gx.1 (by simpa[kz]using h:(key z::l.map key).Nodup)
  rcases Gn.1 hx with rfl|eK
  ·rcases Gn.1 hy with rfl|qK
   ·rfl
   ·exact absurd (by rw[he];exact Gh qK) hn.1
  ·rcases Gn.1 hy with rfl|qK
   ·exact absurd (by rw[←he];exact Gh eK) hn.1
   ·exact ih hn.2 eK qK
theorem jdn {wrap:Int→Int}{r r':qu}{e:je}(w:jc r)(hc:e.names.all (fun s=>!s.isEmpty)=true)(hb:e.kind=mr→0<e.names.length)(h:after wrap r e=.ok r'):jc r':=by
 unfold after at h
 split at h
 ·cases h
 split at h
 ·cases h
 rename_i r1 ha
 cases h
 suffices hw:jc r1 from⟨hw.units,hw.named,hw.fb,hw.ar,hw.iE,hw.kinds⟩
 unfold apply at ha
 split at ha
 ·rename_i hk3
  unfold n8 at ha
  split at ha
  ·repeat' split at ha
   all_goals first|(cases ha;done)|skip
   rename_i hn _ _
   cases ha
   refine w.iF (Yz w.ar ?_)
   simpa[kg]using hn
  split at ha
  ·repeat' split at ha
   all_goals first|(cases ha;done)|skip
   rename_i hn _
   cases ha
   refine w.jX (Yz w.iE ?_)
   simpa[kw]using hn
  ·rename_i fH cV
   have kD:e.kind=mr:=by rcases hk3 with h|h|h<;>first|exact absurd h fH|exact absurd h cV|exact h
   split at ha
   ·cases ha
   rename_i p hp
   repeat' split at ha
   all_goals first|(cases ha;done)|skip
   rename_i hn _ _
   cases ha
   have iL:r.units.findIdx? (fun x=>decide (x.name=nm e 0))=none:=by simpa[yg]using hn
   have cQ:∀v∈r.units,v.name≠nm e 0:=fun v hv=>by
    have:=(dK.1 iL) v hv
    simpa using this
   have bu:nm e 0≠[]:=by
    have hl:=hb kD
    unfold nm
    rw[Ek hl]
    have:=Gv.1 hc _ (Gw hl)
    simpa using this
   refine⟨Yz w.units iL,?_,?_,w.ar,w.iE,?_⟩
   ·intro v hv
    rcases Ev.1 hv with hv|hv
    ·exact w.named v hv
    ·simp at hv;subst hv;exact bu
   ·intro v hv dS
    rcases Ev.1 hv with hv|hv
    ·obtain⟨z,z0,z1⟩:=w.fb v hv dS
     exact⟨z,List.mem_append_left _ z0,z1⟩
    ·simp at hv;subst hv;simp at dS
   ·intro v hv z hz FG
    rcases Ev.1 hv with hv|hv
    ·rcases Ev.1 hz with hz|hz
     ·exact w.kinds v hv z hz FG
     ·simp at hz;subst hz
      -- the partner of an older unit is an older unit
      by_cases wE:v.partner=[]
      ·rw[wE]at FG;exact absurd FG bu
      ·obtain⟨y,y0,y1,_⟩:=w.fb v hv wE
       exact absurd (by rw[y1,←FG]) (cQ y y0)
    ·simp at hv;subst hv
     simp only at FG
     rcases Ev.1 hz with hz|hz
     ·exact absurd FG (w.named z hz)
     ·simp at hz;subst hz;rfl
 split at ha
 ·unfold n9 at ha
  split at ha
  ·cases ha
  split at ha
  ·cases ha
  rename_i _ i hi _ p hp
  have key:∀p':jj,p'.name=p.name→jc (bD r i p'):=fun p' hn=>w.jX (FE w.iE hp hn)
  repeat' split at ha
  all_goals first|(cases ha;done)|(cases ha;exact key _ rfl)
 split at ha
 ·unfold vo at ha
  split at ha
  ·cases ha
  split at ha
  ·cases ha
  rename_i _ i hi _ x hx
  have key:∀x':qm,x'.name=x.name→jc (b8 r i x'):=fun x' hn=>w.iF (FE w.ar hx hn)
  repeat' split at ha
  all_goals first|(cases ha;done)|(cases ha;exact key _ rfl)
 ·unfold oc at ha
  split at ha
  ·cases ha
  split at ha
  ·cases ha
  rename_i _ i hi _ u hu
  have hm:=Eh hu
  have key:∀u':qz,u'.name=u.name→u'.partner=u.partner→u'.product=u.product→jc (aw r i u'):=fun u' k1 k2 k3=>w.aw hu k1 k2 k3
  split at ha
  ·unfold wA at ha
   split at ha
   ·cases ha
   split at ha
   ·cases ha
   rename_i _ k hk _ x hx
   repeat' split at ha
   all_goals first|(cases ha;done)|skip
   cases ha
   exact jc.aw (r:=b8 r k { x with left:=wrap (x.left-vl e 1) }) (u':={ u with uses:=mF wrap u.uses x.name (vl e 1) }) (w.iF (FE (x:={ x with left:=wrap (x.left-vl e 1) }) w.ar hx rfl)) hu rfl rfl rfl
  split at ha
  ·unfold wC at ha
   split at ha
   ·cases ha
   split at ha
   ·cases ha
   rename_i _ k hk _ v hv
   split at ha
   ·cases ha
   rename_i AU
   split at ha
   ·cases ha
   rename_i qE
   split at ha
   ·cases ha
   split at ha
   ·cases ha
   rename_i hnp
   cases ha
   have Cs:=Eh hv
   have hup:u.partner=[]:=by by_cases h:u.partner=[]<;>simp_all
   have hvp:v.partner=[]:=by by_cases h:v.partner=[]<;>simp_all
   have zH:u.product=v.product:=by by_cases h:u.product=v.product<;>simp_all
   have YA:=(I.1 hu).1
   have hkv:=(I.1 hv).1
   have nO:(r.units.set i { u with partner:=v.name })[k]?=Gb v:=by rw[En AU];exact hv
   have huv:u.name≠v.name:=fun he=>by
    have:=FF w.units hm Cs he
    subst this
    -- the same unit at two places
    have qJ:(r.units.map (·.name)).Nodup:=w.units
    have h1:(r.units.map (·.name))[i]?=Gb u.name:=by rw[Gc,hu];rfl
    have h2:(r.units.map (·.name))[k]?=Gb u.name:=by rw[Gc,hv];rfl
    have:=(Gl (by simpa using YA) qJ).1 (h1.trans h2.symm)
    exact AU this
   -- the units of the new list: the two,and the old ones but for them
   have mem:∀z∈(aw (aw r i { u with partner:=v.name }) k { v with partner:=u.name }).units,z={ u with partner:=v.name }∨z={ v with partner:=u.name }∨(z∈r.units∧z.name≠u.name∧z.name≠v.name):=by
    intro z hz
    obtain⟨j,hj⟩:=Gf hz
    simp only[aw]at hj
    by_cases YB:j=k
    ·subst YB
     rw[Eo (by simpa using hkv)]at hj
     cases hj;exact .inr (.inl rfl)
    rw[En (Gk YB)]at hj
    by_cases pw:j=i
    ·subst pw
     rw[Eo YA]at hj
     cases hj;exact .inl rfl
    rw[En (Gk pw)]at hj
    have Ep:=(I.1 hj).1
    have qJ:(r.units.map (·.name)).Nodup:=w.units
    have pC:(r.units.map (·.name))[j]?=Gb z.name:=by rw[Gc,hj];rfl
    refine .inr (.inr ⟨Eh hj,fun he=>pw ?_,fun he=>YB ?_⟩)
    ·have h1:(r.units.map (·.name))[i]?=Gb u.name:=by rw[Gc,hu];rfl
     exact(Gl (by simpa using Ep) qJ).1 (pC.trans (by rw[he];exact h1.symm))
    ·have h1:(r.units.map (·.name))[k]?=Gb v.name:=by rw[Gc,hv];rfl
     exact(Gl (by simpa using Ep) qJ).1 (pC.trans (by rw[he];exact h1.symm))
   have inU:({ u with partner:=v.name }:qz)∈(aw (aw r i { u with partner:=v.name }) k { v with partner:=u.name }).units:=Eh (i:=i) (by simp only[aw];rw[En (Gk AU),Eo YA])
   have inV:({ v with partner:=u.name }:qz)∈(aw (aw r i { u with partner:=v.name }) k { v with partner:=u.name }).units:=Eh (i:=k) (by simp only[aw];rw[Eo (by simpa using hkv)])
   have inZ:∀z∈r.units,z.name≠u.name→z.name≠v.name→z∈(aw (aw r i { u with partner:=v.name }) k { v with partner:=u.name }).units:=by
    intro z hz h1 h2
    obtain⟨j,hj⟩:=Gf hz
    refine Eh (i:=j) ?_
    simp only[aw]
    rw[En (fun e=>h2 (by subst e;rw[hv]at hj;cases hj;rfl)),En (fun e=>h1 (by subst e;rw[hu]at hj;cases hj;rfl))]
    exact hj
   refine⟨?_,?_,?_,w.ar,w.iE,?_⟩
   ·exact FE (FE w.units hu rfl) nO rfl
   ·intro z hz
    rcases mem z hz with rfl|rfl|⟨h,_⟩
    ·exact w.named u hm
    ·exact w.named v Cs
    ·exact w.named z h
   ·intro z hz hp
    rcases mem z hz with rfl|rfl|⟨h,h1,h2⟩
    ·exact⟨_,inV,rfl,rfl⟩
    ·exact⟨_,inU,rfl,rfl⟩
    ·obtain⟨y,y0,y1,y2⟩:=w.fb z h hp
     refine⟨y,inZ y y0 (fun e=>?_) (fun e=>?_),y1,y2⟩
     ·have:=FF w.units y0 hm e
      subst this
      rw[hup]at y2;exact w.named z h y2.symm
     ·have:=FF w.units y0 Cs e
      subst this
      rw[hvp]at y2;exact w.named z h y2.symm
   ·intro z hz y hy Ct
    rcases mem z hz with rfl|rfl|⟨h,h1,h2⟩
    ·rcases mem y hy with rfl|rfl|⟨k0,k1,k2⟩
     ·exact absurd Ct huv
     ·exact zH.symm
     ·exact absurd Ct k2
    ·rcases mem y hy with rfl|rfl|⟨k0,k1,k2⟩
     ·exact zH
     ·exact absurd Ct (Gk huv)
     ·exact absurd Ct k1
    ·rcases mem y hy with rfl|rfl|⟨k0,k1,k2⟩
     ·exact w.kinds z h u hm Ct
     ·exact w.kinds z h v Cs Ct
     ·exact w.kinds z h y k0 Ct
  repeat' split at ha
  all_goals first|(cases ha;done)|(cases ha;exact key _ rfl rfl rfl)
theorem O8 {e:je}(h:ki e=0):e.names.all (fun s=>!s.isEmpty)=true∧∃f,fR e.kind=Gb f∧e.names.length=f.1∧e.values.length=f.2:=by
 unfold ki at h
 split at h
 ·cases h
 split at h
 ·cases h
 rename_i f hf
 split at h
 ·cases h
 rename_i hl
 split at h
 ·cases h
 rename_i hn
 refine⟨?_,f,hf,by by_cases hh:e.names.length=f.1<;>simp_all,by by_cases hh:e.values.length=f.2<;>simp_all⟩
 have hn:e.names.all cO=true:=by simpa using hn
 rw[Gv]at hn ⊢
 intro s hs
 have:=hn s hs
 cases s with
 |nil=>simp[cO]at this
 |cons c t=>rfl
theorem jb.wf2 {wrap:Int→Int}{h:iQ}(o:jb wrap h):∀(j:Nat) (r:qu),h.2[j]?=Gb r→jc r
 |0,r,hr=>by rw[o.first]at hr;cases hr;exact jc.empty 0
 |j+1,r,hr=>by
  have bh:=(I.1 hr).1
  have hl:=o.len
  have h1:j<h.1.length:=by omega
  obtain⟨r',k1,k2⟩:=o.next j _ _ (Ek h1) (Ek (by omega:j<h.2.length))
  rw[k1]at hr;cases hr
  obtain⟨c1,f,c2,c3,_⟩:=O8 (o.kinds _ (Gw h1)).1
  refine jdn (jb.wf2 o j _ (Ek (by omega))) c1 (fun hk=>?_) k2
  rw[hk]at c2
  have h2:fR mr=Gb (2,1):=by decide
  rw[h2]at c2
  have:f=(2,1):=(Gb.inj c2).symm
  rw[c3,this];decide
theorem jb.BE {wrap:Int→Int}{h:iQ}(o:jb wrap h):jc (Go.W.now h):=o.wf2 _ _ o.now
end Go.W
namespace Go.W
def iu (u:qz)(s:Str):Bool:=u.uses.any fun x=>decide (x.k=s)
def mI (u:qz)(ar:List Str):Bool:=ar.any (iu u)&&u.aq
def jV (r:qu)(n:Str):Option qz:=(yg r n).bind fun k=>r.units[k]?
def pM (r:qu)(ar:List Str)(u:qz):Bool:=mI u ar||(!u.partner.isEmpty&&(u.aq&&(jV r u.partner).any (fun v=>mI v ar)))
def Pl (r:qu)(ar:List Str)(n:Str):Bool:=(r.units.filter fun u=>mI u ar).any fun v=>decide (v.name=n)||decide (v.partner=n)
theorem Xp {r v}(w:jc r)(hv:v∈r.units):jV r v.name=Gb v:=by
 unfold jV yg
 cases hk:r.units.findIdx? (fun x=>decide (x.name=v.name))with
 |none=>
  have:=(dK.1 hk) v hv
  simp at this
 |some k=>
  obtain⟨x,h1,h2,_⟩:=bC hk
  simp only[Ge,h1]
  have:x.name=v.name:=by simpa using h2
  rw[FF w.units (Eh h1) hv this]
theorem ja3 {r}(w:jc r){ar u}(hu:u∈r.units):(u.aq&&Pl r ar u.name)=pM r ar u:=by
 unfold pM Pl
 cases hs:u.aq with
 |false=>simp[mI,hs]
 |true=>
  rw[Bool.true_and]
  apply Bool.eq_iff_iff.2
  simp only[List.any_eq_true,List.mem_filter,Bool.or_eq_true,Bool.and_eq_true,decide_eq_true_eq,Bool.not_eq_true',List.isEmpty_eq_false_iff]
  constructor
  ·rintro ⟨v,⟨hv,bO⟩,hn|hp⟩
   ·rw[←FF w.units hv hu hn];exact .inl bO
   ·have wE:v.partner≠[]:=by rw[hp];exact w.named u hu
    obtain⟨z,z0,z1,z2⟩:=w.fb v hv wE
    have:=FF w.units z0 hu (z1.trans hp)
    subst this
    refine .inr ⟨by rw[z2];exact w.named v hv,trivial,?_⟩
    rw[z2,Xp w hv]
    exact bO
  ·rintro (bO|⟨wE,_,ha⟩)
   ·exact⟨u,⟨hu,bO⟩,.inl rfl⟩
   ·obtain⟨v,v0,v1,v2⟩:=w.fb u hu wE
    rw[←v1,Xp w v0]at ha
    exact⟨v,⟨v0,ha⟩,.inr v2⟩
end Go.W
