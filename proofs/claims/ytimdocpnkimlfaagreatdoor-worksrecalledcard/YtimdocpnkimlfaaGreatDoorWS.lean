/- The register of chapter 10 in plain lists. -/
set_option linter.unusedVariables false
set_option linter.unusedSimpArgs false
open List renaming getElem?_eq_some_iff→I,getElem?_eq_getElem→En,mem_of_getElem?→E3,getElem?_set_ne→Ga,getElem?_set_self→Gc,mem_append→Gg,getElem?_append_left→Gh,mem_cons_of_mem→Gi,getElem?_map→Gl,mem_or_eq_of_mem_set→Gm,findIdx?_cons→Gp,getElem?_of_mem→Gq,mem_cons_self→Gr,getElem?_cons_zero→Gv,getElem?_cons_succ→Gw,mem_singleton→Gx,getElem?_append_right→Gz,getElem_mem→G6,getLast?_eq_getElem?→G7,getElem?_dropLast→G9,length_dropLast→Ha,mem_map_of_mem→Hb,set_cons_zero→Hc,set_cons_succ→Hd,length_append→If,getElem?_inj→Iy,cons_append→Jn,length_cons→Jo,all_eq_true→Jp,mem_cons→Js,ext_getElem?→La,nodup_cons→Lf,map_cons→Li,map_set→Lk
open Option renaming some→Gd,bind_some→Gs,some_get→Lg
open Int renaming le_refl→G8,le_trans→Jy
open Ne renaming symm→Ih
open Nat renaming lt_or_ge→Jq,le_refl→Jr,le_trans→Jt
namespace Go.W
abbrev Str:=List UInt8
structure br where
 k:Str
 n:Int
 deriving DecidableEq
structure jf where
 k:Str
 a:Int
 b:Int
 deriving DecidableEq
structure ja where
 name:Str
 kind:Str
 count:Int
 left:Int
 held:Bool
 deriving DecidableEq
structure jM where
 aM:List br
 aH:List jf
 deriving DecidableEq
structure nC where
 name:Str
 bU:jM
 aW:List jM
 deriving DecidableEq
structure j6 where
 name:Str
 product:Str
 version:Int
 uses:List br
 results:List jf
 partner:Str
 aj:Bool
 ak:Int
 deriving DecidableEq
structure jq where
 day:Int
 ar:List ja
 ae:List nC
 units:List j6
 deriving DecidableEq
structure eK where
 number:Int
 kind:Str
 names:List Str
 values:List Int
 text:Str
 deriving DecidableEq
def zf (r:jq)(n:Str):Option Nat:=r.ar.findIdx? fun x=>decide (x.name=n)
def zz (r:jq)(n:Str):Option Nat:=r.ae.findIdx? fun x=>decide (x.name=n)
def js (r:jq)(n:Str):Option Nat:=r.units.findIdx? fun x=>decide (x.name=n)
def k9 (r:jq)(n:Str):Option nC:=(zz r n).bind fun k=>r.ae[k]?
def pS (r:jq)(u:j6):Option Int:=(k9 r u.product).map fun p=>(p.aW.length:Int)
def Ed (l:List jM)(v:Int):Option jM:=if 1≤v then l[(v-1).toNat]? else none
def gy (r:jq)(u:j6):Option jM:=(k9 r u.product).bind fun p=>Ed p.aW u.version
def oy (r:jq)(n:Str):Option ja:=(zf r n).bind fun k=>r.ar[k]?
theorem bp {α:Type}{p:α→Bool}{l:List α}{k:Nat}(h:l.findIdx? p=Gd k):∃x,l[k]?=Gd x∧p x=true∧k<l.length∧∀j x,j<k→l[j]?=Gd x→p x=false:=by
 induction l generalizing k with
 |nil=>simp at h
 |cons y l ih=>
  rw[Gp]at h
  by_cases hp:p y=true
  ·rw[if_pos hp]at h
   cases h
   exact⟨y,rfl,hp,by simp,fun j x hj=>by omega⟩
  ·rw[if_neg hp]at h
   obtain⟨i,hi,rfl⟩:=Option.map_eq_some_iff.1 h
   obtain⟨x,h1,h2,h3,h4⟩:=ih hi
   refine⟨x,by simpa using h1,h2,by simp;omega,fun j z hj hz=>?_⟩
   cases j with
   |zero=>simp at hz;subst hz;simpa using hp
   |succ j=>exact h4 j z (by omega) (by simpa using hz)
theorem dy {α:Type}{p:α→Bool}{l:List α}:l.findIdx? p=none↔∀x∈l,p x=false:=by
 induction l with
 |nil=>simp
 |cons y l ih=>
  rw[Gp]
  by_cases hp:p y=true
  ·rw[if_pos hp];simp[hp]
  ·rw[if_neg hp]
   have et:p y=false:=by simpa using hp
   simp[ih,et]
def kf {α:Type}(same:α→Bool)(x:α)(l:List α):List α:=match l.findIdx? same with
 |some i=>l.set i x
 |none=>l++[x]
def Em {α:Type}(same:α→Bool)(x:α)(l:List α):List α:=(l.map fun y=>if same y then x else y)++(if l.any same then []else [x])
def zu {α β:Type}(key:α→β)(l:List α):Prop:=(l.map key).Nodup
theorem qwf {α β:Type}[DecidableEq β]{key:α→β}{k:β}{x:α}:∀ {l:List α},zu key l→(l.map fun y=>if decide (key y=k)then x else y)=(match l.findIdx? (fun y=>decide (key y=k))with|some i=>l.set i x|none=>l)
 | [],_=>rfl
 |y::l,h=>by
  have hn:=Lf.1 (by simpa[zu]using h:(key y::l.map key).Nodup)
  rw[Gp]
  by_cases hy:key y=k
  ·simp only[Li,hy,decide_true,if_true]
   have:l.map (fun y=>if decide (key y=k)then x else y)=l:=by
    conv=>rhs;rw[←List.map_id l]
    refine List.map_congr_left fun z hz=>?_
    have:key z≠k:=fun e=>hn.1 (by rw[hy,←e];exact Hb hz)
    simp[this]
   rw[this];rfl
  ·have ih:=qwf (k:=k) (x:=x) (l:=l) hn.2
   simp only[Li,hy,decide_false,Bool.false_eq_true,if_false]
   rw[ih]
   cases l.findIdx? (fun y=>decide (key y=k))with
   |none=>rfl
   |some i=>rfl
theorem Bn {α:Type}{p:α→Bool}{l:List α}:l.any p=(l.findIdx? p).isSome:=by
 induction l with
 |nil=>rfl
 |cons y l ih=>
  rw[Gp,List.any_cons]
  by_cases hp:p y=true
  ·rw[if_pos hp,hp];rfl
  ·rw[if_neg hp]
   have:p y=false:=by simpa using hp
   rw[this,Bool.false_or,ih]
   cases l.findIdx? p<;>rfl
theorem qz0 {α β:Type}[DecidableEq β]{key:α→β}{k:β}{x:α}{l:List α}(h:zu key l):Em (fun y=>decide (key y=k)) x l=kf (fun y=>decide (key y=k)) x l:=by
 unfold Em kf
 rw[qwf h,Bn]
 cases l.findIdx? (fun y=>decide (key y=k))with
 |none=>simp
 |some i=>simp
theorem qzr {α β:Type}[DecidableEq β]{key:α→β}{k:β}{x:α}(hx:key x=k):∀ {l:List α} {i:Nat},zu key l→l.findIdx? (fun y=>decide (key y=k))=Gd i→zu key (l.set i x):=by
 intro l i h hi
 obtain⟨y,h1,h2,h3,_⟩:=bp hi
 have:(l.set i x).map key=l.map key:=by
  rw[Lk]
  apply La
  intro j
  by_cases hj:j=i
  ·subst hj
   rw[Gc (by simpa using h3),Gl,h1]
   simp at h2;simp[hx,h2]
  ·rw[Ga (Ih hj)]
 unfold zu;rw[this];exact h
theorem Qj {α β:Type}[DecidableEq β]{key:α→β}{k:β}{x:α}{l:List α}(hx:key x=k)(h:zu key l):zu key (kf (fun y=>decide (key y=k)) x l):=by
 unfold kf
 cases hi:l.findIdx? (fun y=>decide (key y=k))with
 |some i=>exact qzr hx h hi
 |none=>
  rw[dy]at hi
  unfold zu at *
  rw[List.map_append,List.nodup_append]
  refine⟨h,by simp,?_⟩
  intro a ha b hb
  simp at hb
  subst hb
  obtain⟨z,hz,rfl⟩:=List.mem_map.1 ha
  have:=hi z hz
  rw[hx];simpa using this
theorem q4e {α β:Type}{key:α→β}{l:List α}(p:α→Bool)(h:zu key l):zu key (l.filter p):=
 List.Nodup.sublist (List.Sublist.map key List.filter_sublist) h
end Go.W
namespace Go.W
def mI:Str:=[108,111,116]
def nE:Str:=[112,114,111,100,117,99,116]
def mJ:Str:=[110,101,101,100]
def nF:Str:=[116,101,115,116]
def pO:Str:=[105,115,115,117,101]
def mK:Str:=[98,117,105,108,100]
def mL:Str:=[117,115,101]
def oT:Str:=[109,101,97,115,117,114,101]
def pP:Str:=[117,112,100,97,116,101]
def nG:Str:=[112,97,105,114]
def ou:Str:=[104,111,108,100]
def rT:Str:=[102,114,101,101]
def iO:Str:=[115,104,105,112]
def yR:Str:=[99,111,109,112,108,97,105,110]
def nH:Str:=[117,110,100,111]
def Ei (wrap:Int→Int)(r:jq)(u:j6)(kind:Str):Int:=u.uses.foldl (fun n x=>if(oy r x.k).any (fun l=>decide (l.kind=kind))then wrap (n+x.n)else n) 0
def rW (u:j6)(t:jf):Bool:=u.results.foldl (fun is x=>if decide (x.k=t.k)&&decide (x.a=u.version)then decide (t.a≤x.b)&&decide (x.b≤t.b)else is) false
def ox (d:jM)(u:j6):List Str:=(d.aH.filter fun t=>!rW u t).map (·.k)
def yV (wrap:Int→Int)(r:jq)(d:jM)(u:j6):Bool:=d.aM.all fun n=>decide (n.n≤Ei wrap r u n.k)
def Bp (r:jq)(u:j6):Bool:=u.uses.any fun x=>(oy r x.k).any (·.held)
def oz (wrap:Int→Int)(r:jq)(u:j6):Int:=
 if u.aj then 21 else if pS r u≠Gd u.version then 32 else
 match gy r u with
 |none=>20
 |some d=>if !yV wrap r d u then 20 else if !(ox d u).isEmpty then 31 else if Bp r u then 34 else 0
def cg (r:jq)(i:Nat)(x:ja):jq:={ r with ar:=r.ar.set i x }
def bN (r:jq)(i:Nat)(x:nC):jq:={ r with ae:=r.ae.set i x }
def ax (r:jq)(i:Nat)(x:j6):jq:={ r with units:=r.units.set i x }
def cX (k:Str)(x:br):Bool:=decide (x.k=k)
def eG (k:Str)(x:jf):Bool:=decide (x.k=k)
def ku (l:List br)(k:Str)(n:Int):List br:=if n=0 then l.filter (fun x=>!cX k x)else kf (cX k) ⟨k,n⟩ l
def jN (wrap:Int→Int)(l:List br)(k:Str)(n:Int):List br:=match l.findIdx? (cX k)with
 |some i=>(match l[i]? with
  |some x=>l.set i ⟨k,wrap (n+x.n)⟩
  |none=>l)
 |none=>l++[⟨k,n⟩]
def nm (e:eK)(i:Nat):Str:=(e.names[i]?).getD []
def vl (e:eK)(i:Nat):Int:=(e.values[i]?).getD 0
abbrev pT:=Except Int jq
def mP (r:jq)(e:eK):pT:=
 if e.kind=mI then
  (if(zf r (nm e 0)).isSome then .error 9 else if vl e 1<1∨10000<vl e 1 then .error 3 else if 64≤r.ar.length then .error 5 else
   .ok { r with ar:=r.ar++[⟨nm e 0,nm e 1,vl e 1,vl e 1,false⟩] })
 else if e.kind=nE then
  (if(zz r (nm e 0)).isSome then .error 9 else if 16≤r.ae.length then .error 5 else .ok { r with ae:=r.ae++[⟨nm e 0,⟨[],[]⟩,[]⟩] })
 else match k9 r (nm e 1)with
  |none=>.error 10
  |some p=>if(js r (nm e 0)).isSome then .error 9 else if p.aW.isEmpty then .error 32 else if 256≤r.units.length then .error 5 else
    .ok { r with units:=r.units++[⟨nm e 0,nm e 1,p.aW.length,[],[],[],false,0⟩] }
def kw (r:jq)(e:eK):pT:=match zz r (nm e 0)with
 |none=>.error 10
 |some i=>match r.ae[i]? with
  |none=>.error 10
  |some p=>
   if e.kind=mJ then
    (if vl e 1<0∨10000<vl e 1 then .error 3 else if 0<vl e 1∧!(p.bU.aM.any (cX (nm e 1)))∧16≤p.bU.aM.length then .error 5 else
     .ok (bN r i { p with bU:={ p.bU with aM:=ku p.bU.aM (nm e 1) (vl e 1) } }))
   else if e.kind=nF then
    (if vl e 2<vl e 1 then .error 11 else if !(p.bU.aH.any (eG (nm e 1)))∧16≤p.bU.aH.length then .error 5 else
     .ok (bN r i { p with bU:={ p.bU with aH:=kf (eG (nm e 1)) ⟨nm e 1,vl e 1,vl e 2⟩ p.bU.aH } }))
   else(if p.bU.aM.isEmpty then .error 12 else if 100≤p.aW.length then .error 5 else .ok (bN r i { p with aW:=p.aW++[p.bU] }))
def pU (r:jq)(e:eK):pT:=match zf r (nm e 0)with
 |none=>.error 10
 |some i=>match r.ar[i]? with
  |none=>.error 10
  |some x=>if e.kind=ou then(if x.held then .error 34 else .ok (cg r i { x with held:=true }))else(if !x.held then .error 20 else .ok (cg r i { x with held:=false }))
def rZ (wrap:Int→Int)(r:jq)(i:Nat)(u:j6)(e:eK):pT:=match zf r (nm e 1)with
 |none=>.error 10
 |some k=>match r.ar[k]? with
  |none=>.error 10
  |some x=>if u.aj then .error 21 else if vl e 1=0 then .error 3 else if x.held then .error 34 else
   if !((gy r u).any fun d=>d.aM.any (cX x.kind))then .error 7 else if x.left<vl e 1 then .error 4 else
    .ok (ax (cg r k { x with left:=wrap (x.left-vl e 1) }) i { u with uses:=jN wrap u.uses x.name (vl e 1) })
def sd (r:jq)(i:Nat)(u:j6)(e:eK):pT:=match js r (nm e 1)with
 |none=>.error 10
 |some k=>match r.units[k]? with
  |none=>.error 10
  |some v=>if i=k then .error 9 else if u.product≠v.product∨u.version≠v.version then .error 30 else if u.aj∨v.aj then .error 21 else
   if u.partner≠[]∨v.partner≠[]then .error 35 else .ok (ax (ax r i { u with partner:=v.name }) k { v with partner:=u.name })
def mQ (wrap:Int→Int)(r:jq)(e:eK):pT:=match js r (nm e 0)with
 |none=>.error 10
 |some i=>match r.units[i]? with
  |none=>.error 10
  |some u=>
   if e.kind=mL then rZ wrap r i u e
   else if e.kind=nG then sd r i u e
   else if e.kind=oT then
    (if u.aj then .error 21 else if !((gy r u).any fun d=>d.aH.any (eG (nm e 1)))then .error 7 else if 64≤u.results.length then .error 5 else
     .ok (ax r i { u with results:=u.results++[⟨nm e 1,u.version,vl e 1⟩] }))
   else if e.kind=pP then
    (if u.aj then .error 21 else match pS r u with
     |none=>.error 32
     |some v=>if u.version=v then .error 32 else .ok (ax r i { u with version:=v }))
   else if e.kind=iO then(if oz wrap r u≠0 then .error (oz wrap r u)else .ok (ax r i { u with aj:=true }))
   else(if !u.aj then .error 20 else .ok (ax r i { u with ak:=wrap (u.ak+1) }))
def apply (wrap:Int→Int)(r:jq)(e:eK):pT:=
 if e.kind=mI∨e.kind=nE∨e.kind=mK then mP r e
 else if e.kind=mJ∨e.kind=nF∨e.kind=pO then kw r e
 else if e.kind=ou∨e.kind=rT then pU r e
 else mQ wrap r e
def after (wrap:Int→Int)(r:jq)(e:eK):pT:=if vl e 0<r.day then .error 20 else match apply wrap r e with
 | .error x=>.error x
 | .ok r'=>.ok { r' with day:=vl e 0 }
structure WF (r:jq):Prop where
 aM:∀p∈r.ae,zu (·.k) p.bU.aM∧p.bU.aM.length≤16
 aH:∀p∈r.ae,zu (·.k) p.bU.aH∧p.bU.aH.length≤16
 eb:∀u∈r.units,(gy r u).isSome
 uses:∀u∈r.units,zu (·.k) u.uses∧∀x∈u.uses,(zf r x.k).isSome
theorem WF.empty (d:Int):WF ⟨d,[],[],[]⟩:=⟨by simp,by simp,by simp,by simp⟩
theorem findIdx?_append {α:Type}{p:α→Bool}{l m:List α}{k:Nat}(h:l.findIdx? p=Gd k):(l++m).findIdx? p=Gd k:=by
 rw[List.findIdx?_append,h];rfl
theorem gp {α:Type}{p:α→Bool}{l:List α}{i:Nat}{x y:α}(hy:l[i]?=Gd y)(J9:p x=p y):(l.set i x).findIdx? p=l.findIdx? p:=by
 induction l generalizing i with
 |nil=>rfl
 |cons z l ih=>
  cases i with
  |zero=>
   simp at hy;subst hy
   rw[Hc,Gp,Gp,J9]
  |succ i=>
   rw[Hd,Gp,Gp,ih (by simpa using hy)]
theorem qmq {r r':jq}{u:j6}(h:∀n p,k9 r n=Gd p→∃p',k9 r' n=Gd p'∧∃m,p'.aW=p.aW++m)(hp:(gy r u).isSome):(gy r' u).isSome:=by
 unfold gy at *
 cases hq:k9 r u.product with
 |none=>rw[hq]at hp;simp at hp
 |some p=>
  rw[hq]at hp
  obtain⟨p',h1,m,h2⟩:=h _ _ hq
  rw[h1]
  simp only[Gs,Ed]at hp ⊢
  split at hp
  ·rename_i hv
   rw[if_pos hv,h2]
   have bw:=(I.1 (Lg hp).symm).1
   rw[Gh bw];exact hp
  ·simp at hp
theorem q6w {r r':jq}(h:r'.ae=r.ae)(n:Str):k9 r' n=k9 r n:=by unfold k9 zz;rw[h]
theorem jbo {r r':jq}(h:r'.ae=r.ae)(u:j6):gy r' u=gy r u:=by unfold gy;rw[q6w h]
theorem CG {r r':jq}{u:j6}(hp:(gy r u).isSome)(h:r'.ae=r.ae:=by rfl):(gy r' u).isSome:=by rw[jbo h];exact hp
theorem jco {r:jq}{i:Nat}{p p':nC}(hp:r.ae[i]?=Gd p)(hn:p'.name=p.name)(hd:∃m,p'.aW=p.aW++m)(n:Str)(q:nC)(hq:k9 r n=Gd q):∃q',k9 (bN r i p') n=Gd q'∧∃m,q'.aW=q.aW++m:=by
 unfold k9 zz at *
 simp only[bN]
 rw[gp hp (by simp[hn])]
 cases hk:r.ae.findIdx? (fun x=>decide (x.name=n))with
 |none=>rw[hk]at hq;simp at hq
 |some k=>
  rw[hk]at hq
  simp only[Gs]at hq ⊢
  have bw:=(I.1 hp).1
  by_cases A1:k=i
  ·subst A1
   rw[hp]at hq;cases hq
   exact⟨p',by rw[Gc bw],hd⟩
  ·exact⟨q,by rw[Ga (Ih A1)];exact hq,[],by simp⟩
theorem zM {α:Type}{l:List α}{i:Nat}{x y:α}(h:y∈l.set i x):y∈l∨y=x:=Gm h
theorem q3f {wrap:Int→Int}{l:List br}{k:Str}{n:Int}(h:zu (·.k) l):zu (·.k) (jN wrap l k n):=by
 unfold jN
 cases hi:l.findIdx? (cX k)with
 |none=>
  have:=Qj (key:=fun x:br=>x.k) (k:=k) (x:=⟨k,n⟩) rfl h
  unfold kf at this
  rw[show l.findIdx? (fun y=>decide (y.k=k))=none from hi]at this
  exact this
 |some i=>
  obtain⟨x,h1,_⟩:=bp hi
  simp only[h1]
  exact qzr rfl h hi
theorem jan {wrap:Int→Int}{l:List br}{k:Str}{n:Int}{x:br}(h:x∈jN wrap l k n):x.k=k∨x∈l:=by
 unfold jN at h
 split at h
 ·split at h
  ·rcases zM h with h|rfl
   ·exact .inr h
   ·exact .inl rfl
  ·exact .inr h
 ·rcases Gg.1 h with h|h
  ·exact .inr h
  ·simp at h;subst h;exact .inl rfl
theorem qz9 {r:jq}{i:Nat}{x y:ja}(hx:r.ar[i]?=Gd x)(hn:y.name=x.name)(n:Str):zf (cg r i y) n=zf r n:=by
 unfold zf cg;exact gp hx (by simp[hn])
theorem WF.ax {r:jq}(w:WF r){i:Nat}{u u':j6}(hu:r.units[i]?=Gd u)(hp:(gy r u').isSome)(hk:zu (·.k) u'.uses∧∀x∈u'.uses,(zf r x.k).isSome):WF (ax r i u'):=by
 refine⟨w.aM,w.aH,?_,?_⟩
 ·intro v hv
  refine CG (r:=r) ?_
  rcases zM hv with hv|rfl
  ·exact w.eb v hv
  ·exact hp
 ·intro v hv
  rcases zM hv with hv|rfl
  ·exact w.uses v hv
  ·exact hk
theorem WF.cg {r:jq}(w:WF r){i:Nat}{x y:ja}(hx:r.ar[i]?=Gd x)(hn:y.name=x.name):WF (cg r i y):=
 ⟨w.aM,w.aH,fun u hu=>CG (w.eb u hu),fun u hu=>⟨(w.uses u hu).1,fun z hz=>by rw[qz9 hx hn];exact(w.uses u hu).2 z hz⟩⟩
theorem WF.bN {r:jq}(w:WF r){i:Nat}{p p':nC}(hp:r.ae[i]?=Gd p)(hn:p'.name=p.name)(hd:∃m,p'.aW=p.aW++m)(h1:zu (·.k) p'.bU.aM∧p'.bU.aM.length≤16)(h2:zu (·.k) p'.bU.aH∧p'.bU.aH.length≤16):WF (bN r i p'):=by
 refine⟨?_,?_,?_,?_⟩
 ·intro q hq
  rcases zM hq with hq|rfl
  ·exact w.aM q hq
  ·exact h1
 ·intro q hq
  rcases zM hq with hq|rfl
  ·exact w.aH q hq
  ·exact h2
 ·intro u hu
  exact qmq (fun n q hq=>jco hp hn hd n q hq) (w.eb u hu)
 ·exact w.uses
theorem qwj {α:Type}{p:α→Bool}{x:α}{l:List α}(h:l.length≤16)(h2:¬(!(l.any p)∧16≤l.length)):(kf p x l).length≤16:=by
 unfold kf
 cases hi:l.findIdx? p with
 |some i=>simpa using h
 |none=>
  have:l.any p=false:=by rw[Bn,hi];rfl
  simp[this]at h2
  simp;omega
theorem jae {l:List br}{k:Str}{n:Int}(h:zu (·.k) l∧l.length≤16)(h0:0≤n)(h2:¬(0<n∧!(l.any (cX k))∧16≤l.length)):zu (·.k) (ku l k n)∧(ku l k n).length≤16:=by
 unfold ku
 by_cases hn:n=0
 ·rw[if_pos hn]
  exact⟨q4e _ h.1,Jt (List.length_filter_le _ _) h.2⟩
 ·rw[if_neg hn]
  refine⟨Qj (key:=fun x:br=>x.k) rfl h.1,qwj h.2 fun hh=>h2 ⟨by omega,hh.1,hh.2⟩⟩
theorem jla {wrap:Int→Int}{r r':jq}{e:eK}(w:WF r)(h:after wrap r e=.ok r'):WF r':=by
 unfold after at h
 split at h
 ·cases h
 split at h
 ·cases h
 rename_i r1 ha
 cases h
 suffices hw:WF r1 from⟨hw.aM,hw.aH,fun u hu=>CG (hw.eb u hu),hw.uses⟩
 unfold apply at ha
 split at ha
 ·-- a new thing
  unfold mP at ha
  split at ha
  ·repeat' split at ha
   all_goals first|(cases ha;done)|skip
   cases ha
   exact⟨w.aM,w.aH,fun u hu=>CG (w.eb u hu),fun u hu=>⟨(w.uses u hu).1,fun x hx=>by
    have:=(w.uses u hu).2 x hx
    unfold zf at *
    obtain⟨k,hk⟩:=Option.isSome_iff_exists.1 this
    rw[findIdx?_append hk];rfl⟩⟩
  split at ha
  ·repeat' split at ha
   all_goals first|(cases ha;done)|skip
   cases ha
   refine⟨?_,?_,?_,w.uses⟩
   ·intro p hp
    rcases Gg.1 hp with hp|hp
    ·exact w.aM p hp
    ·simp at hp;subst hp;exact⟨by simp[zu],by simp⟩
   ·intro p hp
    rcases Gg.1 hp with hp|hp
    ·exact w.aH p hp
    ·simp at hp;subst hp;exact⟨by simp[zu],by simp⟩
   ·intro u hu
    refine qmq (fun n p hp=>⟨p,?_,[],by simp⟩) (w.eb u hu)
    unfold k9 zz at *
    cases hk:r.ae.findIdx? (fun x=>decide (x.name=n))with
    |none=>rw[hk]at hp;simp at hp
    |some k=>
     rw[hk]at hp
     rw[findIdx?_append hk]
     simp only[Gs]at hp ⊢
     rw[Gh (I.1 hp).1];exact hp
  ·split at ha
   ·cases ha
   rename_i p hp
   repeat' split at ha
   all_goals first|(cases ha;done)|skip
   rename_i bG _
   cases ha
   refine⟨w.aM,w.aH,?_,?_⟩
   ·intro u hu
    refine CG (r:=r) ?_
    rcases Gg.1 hu with hu|hu
    ·exact w.eb u hu
    ·simp at hu;subst hu
     unfold gy
     simp only[hp,Gs,Ed]
     have:0<p.aW.length:=by
      cases hd:p.aW with
      |nil=>rw[hd]at bG;simp at bG
      |cons _ _=>simp
     rw[if_pos (by omega),En (by omega)];rfl
   ·intro u hu
    rcases Gg.1 hu with hu|hu
    ·exact w.uses u hu
    ·simp at hu;subst hu;exact⟨by simp[zu],by simp⟩
 split at ha
 ·-- a product
  unfold kw at ha
  split at ha
  ·cases ha
  split at ha
  ·cases ha
  rename_i i hi p hp
  have dh:=E3 hp
  split at ha
  ·repeat' split at ha
   all_goals first|(cases ha;done)|skip
   rename_i hr h2
   cases ha
   exact w.bN hp rfl ⟨[],by simp⟩ (jae (w.aM p dh) (by omega) h2) (w.aH p dh)
  split at ha
  ·repeat' split at ha
   all_goals first|(cases ha;done)|skip
   rename_i hr h2
   cases ha
   exact w.bN hp rfl ⟨[],by simp⟩ (w.aM p dh) ⟨Qj (key:=fun x:jf=>x.k) rfl (w.aH p dh).1,qwj (w.aH p dh).2 h2⟩
  ·repeat' split at ha
   all_goals first|(cases ha;done)|skip
   cases ha
   exact w.bN hp rfl ⟨_,rfl⟩ (w.aM p dh) (w.aH p dh)
 split at ha
 ·-- a lot
  unfold pU at ha
  split at ha
  ·cases ha
  split at ha
  ·cases ha
  rename_i i hi x hx
  repeat' split at ha
  all_goals first|(cases ha;done)|(cases ha;exact w.cg hx rfl)
 ·-- a unit
  unfold mQ at ha
  split at ha
  ·cases ha
  split at ha
  ·cases ha
  rename_i i hi u hu
  have dh:=E3 hu
  have uT:=w.eb u dh
  split at ha
  ·unfold rZ at ha
   split at ha
   ·cases ha
   split at ha
   ·cases ha
   rename_i _ k hk _ x hx
   repeat' split at ha
   all_goals first|(cases ha;done)|skip
   cases ha
   refine(w.cg (y:={ x with left:=wrap (x.left-vl e 1) }) hx rfl).ax (u':={ u with uses:=jN wrap u.uses x.name (vl e 1) }) hu (CG (r:=r) uT) ⟨q3f (w.uses u dh).1,fun z hz=>?_⟩
   rw[qz9 (y:={ x with left:=wrap (x.left-vl e 1) }) hx rfl]
   rcases jan hz with hz|hz
   ·obtain⟨y,h1,h2,_⟩:=bp hk
    rw[hx]at h1;cases h1
    simp at h2
    rw[hz,h2,hk];rfl
   ·exact(w.uses u dh).2 z hz
  split at ha
  ·unfold sd at ha
   split at ha
   ·cases ha
   split at ha
   ·cases ha
   rename_i k hk v hv
   have CH:=E3 hv
   split at ha
   ·cases ha
   rename_i rN
   repeat' split at ha
   all_goals first|(cases ha;done)|skip
   cases ha
   exact(w.ax (u':={ u with partner:=v.name }) hu uT (w.uses u dh)).ax (u':={ v with partner:=u.name }) (by simp only[ax];rw[Ga rN];exact hv) (CG (r:=r) (w.eb v CH)) (w.uses v CH)
  split at ha
  ·repeat' split at ha
   all_goals first|(cases ha;done)|skip
   cases ha
   exact w.ax hu uT (w.uses u dh)
  split at ha
  ·split at ha
   ·cases ha
   split at ha
   ·cases ha
   rename_i v hv
   split at ha
   ·cases ha
   cases ha
   refine w.ax hu ?_ (w.uses u dh)
   unfold gy pS at *
   cases hq:k9 r u.product with
   |none=>rw[hq]at hv;simp at hv
   |some p=>
    rw[hq]at hv uT
    simp only[Option.map_some,Gd.injEq,Gs]at hv uT ⊢
    subst hv
    unfold Ed at uT ⊢
    split at uT
    ·have bw:=(I.1 (Lg uT).symm).1
     rw[if_pos (by omega),En (by omega)];rfl
    ·simp at uT
  split at ha
  ·split at ha
   ·cases ha
   cases ha
   exact w.ax hu uT (w.uses u dh)
  ·split at ha
   ·cases ha
   cases ha
   exact w.ax hu uT (w.uses u dh)
end Go.W
namespace Go.W
def dm:List (Str×Nat×Nat):=[(mI,2,2),(nE,1,1),(mJ,2,2),(nF,2,3),(pO,1,1),(mK,2,1),(mL,2,2),(oT,2,2),(pP,1,1),(nG,2,1),(ou,1,1),(rT,1,1),(iO,1,1),(yR,1,1),(nH,0,0)]
def yw (k:Str):Option (Nat×Nat):=(dm.find? fun x=>decide (x.1=k)).map (·.2)
def vR (c:UInt8):Bool:=(decide (65≤c.toNat)&&decide (c.toNat≤90))||(decide (97≤c.toNat)&&decide (c.toNat≤122))
def Ez (c:UInt8):Bool:=(decide (48≤c.toNat)&&decide (c.toNat≤57))||decide (c.toNat=95)
def dc (s:Str):Bool:=match s with
 | []=>false
 |c::t=>vR c&&t.all (fun c=>vR c||Ez c)&&decide (s.length≤24)
def zk (e:eK):Int:=
 if e.number<1∨1000<e.number then 3 else match yw e.kind with
 |none=>13
 |some f=>if e.names.length≠f.1∨e.values.length≠f.2 then 2 else if !(e.names.all dc)then 8 else if !(e.values.all fun n=>decide (0≤n)&&decide (n≤999999999))then 3 else if e.text≠[]then 1 else 0
abbrev ky:=List eK×List jq
def mS:jq:=⟨0,[],[],[]⟩
def now (h:ky):jq:=h.2.getLast?.getD mS
def accept (wrap:Int→Int)(h:ky)(k:Int)(e:eK):Except Int ky:=
 if e.number≠k then .error 11 else
 if e.kind=nH then(match h.1.getLast? with
  |none=>.error 12
  |some c=>if c.kind=iO then .error 19 else .ok (h.1.dropLast,h.2.dropLast))
 else match after wrap (now h) e with
  | .error x=>.error x
  | .ok r=>.ok (h.1++[e],h.2++[r])
def yp (wrap:Int→Int):Nat→ky→List eK→Except (Int×Int) ky
 |_,h,[]=>.ok h
 |i,h,e::l=>if zk e≠0 then .error ((i:Int)+1,zk e)else match accept wrap h ((i:Int)+1) e with
  | .error x=>.error ((i:Int)+1,x)
  | .ok h'=>yp wrap (i+1) h' l
def run (wrap:Int→Int)(l:List eK):Except (Int×Int) ky:=if 1000<l.length then .error (0,5)else yp wrap 0 ([],[mS]) l
theorem qma (wrap:Int→Int):∀(l m:List eK) (i:Nat) (h:ky),yp wrap i h (l++m)=match yp wrap i h l with
  | .error x=>.error x
  | .ok h'=>yp wrap (i+l.length) h' m
 | [],m,i,h=>by simp[yp]
 |e::l,m,i,h=>by
  simp only[Jn,yp]
  split
  ·rfl
  cases accept wrap h ((i:Int)+1) e with
  |error x=>rfl
  |ok h'=>simp only[];rw[qma wrap l m (i+1) h',Jo,show i+1+l.length=i+(l.length+1) by omega]
structure eH (wrap:Int→Int)(h:ky):Prop where
 len:h.2.length=h.1.length+1
 first:h.2[0]?=Gd mS
 next:∀j e r,h.1[j]?=Gd e→h.2[j]?=Gd r→∃r',h.2[j+1]?=Gd r'∧after wrap r e=.ok r'
 kinds:∀e∈h.1,zk e=0∧e.kind≠nH
theorem eH.empty {wrap:Int→Int}:eH wrap ([],[mS]):=⟨rfl,rfl,fun j e r h=>by simp at h,by simp⟩
theorem eH.now {wrap:Int→Int}{h:ky}(k:eH wrap h):h.2[h.1.length]?=Gd (Go.W.now h):=by
 unfold Go.W.now
 have hl:=k.len
 rw[G7,hl]
 have:h.1.length<h.2.length:=by omega
 simp[En this]
theorem eH.accept {wrap:Int→Int}{h h':ky}{k:Int}{e:eK}(o:eH wrap h)(hc:zk e=0)(ha:accept wrap h k e=.ok h'):eH wrap h':=by
 unfold Go.W.accept at ha
 split at ha
 ·cases ha
 split at ha
 ·split at ha
  ·cases ha
  ·rename_i c hc
   split at ha
   ·cases ha
   cases ha
   have gK:0<h.1.length:=by
    cases hh:h.1 with
    |nil=>rw[hh]at hc;simp at hc
    |cons _ _=>simp
   have hl:=o.len
   refine⟨by simp only[Ha];omega,?_,?_,?_⟩
   ·rw[G9,if_pos (by omega)];exact o.first
   ·intro j e' r h1 h2
    simp only[G9]at h1 h2 ⊢
    split at h1
    ·rename_i hj
     rw[if_pos (by omega)]at h2
     rw[if_pos (by omega)]
     exact o.next j e' r h1 h2
    ·cases h1
   ·intro e' he
    exact o.kinds e' (List.mem_of_mem_take (by rwa [List.dropLast_eq_take]at he))
 ·rename_i hnu
  split at ha
  ·cases ha
  ·rename_i r hr
   cases ha
   have hl:=o.len
   refine⟨by simp only[If,Jo,List.length_nil];omega,?_,?_,?_⟩
   ·rw[Gh (by omega)];exact o.first
   ·intro j e' q h1 h2
    by_cases hj:j<h.1.length
    ·rw[Gh hj]at h1
     rw[Gh (by omega)]at h2
     obtain⟨r',k1,k2⟩:=o.next j e' q h1 h2
     exact⟨r',by rw[Gh (by have:=(I.1 k1).1;omega)];exact k1,k2⟩
    ·have hj':j=h.1.length:=by have:=(I.1 h1).1;simp at this;omega
     subst hj'
     rw[Gz (Jr _)]at h1
     simp at h1;subst h1
     rw[Gh (by omega),o.now]at h2
     cases h2
     exact⟨r,by rw[Gz (by omega)];simp[hl],hr⟩
   ·intro e' he
    rcases Gg.1 he with he|he
    ·exact o.kinds e' he
    ·simp at he;subst he;exact⟨hc,hnu⟩
theorem qxc {wrap:Int→Int}:∀ {l:List eK} {i:Nat} {h h':ky},eH wrap h→yp wrap i h l=.ok h'→eH wrap h'
 | [],i,h,h',o,hr=>by simp only[yp]at hr;cases hr;exact o
 |e::l,i,h,h',o,hr=>by
  simp only[yp]at hr
  split at hr
  ·cases hr
  rename_i hc
  split at hr
  ·cases hr
  ·rename_i h1 ha
   exact qxc (o.accept (by simpa using hc) ha) hr
theorem jyk {wrap:Int→Int}{l:List eK}{h:ky}(hr:run wrap l=.ok h):eH wrap h:=by
 unfold run at hr
 split at hr
 ·cases hr
 ·exact qxc eH.empty hr
theorem eH.wf {wrap:Int→Int}{h:ky}(o:eH wrap h):∀(j:Nat) (r:jq),h.2[j]?=Gd r→WF r
 |0,r,hr=>by rw[o.first]at hr;cases hr;exact WF.empty 0
 |j+1,r,hr=>by
  have bw:=(I.1 hr).1
  have hl:=o.len
  have h1:j<h.1.length:=by omega
  obtain⟨r',k1,k2⟩:=o.next j _ _ (En h1) (En (by omega:j<h.2.length))
  rw[k1]at hr;cases hr
  exact jla (eH.wf o j _ (En (by omega))) k2
theorem eH.su {wrap:Int→Int}{h:ky}(o:eH wrap h):WF (Go.W.now h):=o.wf _ _ o.now
end Go.W
namespace Go.W
structure eM (r:jq):Prop where
 units:zu (·.name) r.units
 named:∀u∈r.units,u.name≠[]
 gq:∀u∈r.units,u.partner≠[]→∃v∈r.units,v.name=u.partner∧v.partner=u.name
 ar:zu (·.name) r.ar
 fG:zu (·.name) r.ae
 kinds:∀u∈r.units,∀v∈r.units,v.name=u.partner→v.product=u.product
theorem eM.empty (d:Int):eM ⟨d,[],[],[]⟩:=⟨by simp[zu],by simp,by simp,by simp[zu],by simp[zu],by simp⟩
theorem YD {α β:Type}[DecidableEq β]{key:α→β}{l:List α}{x:α}(h:zu key l)(hn:l.findIdx? (fun y=>decide (key y=key x))=none):zu key (l++[x]):=by
 have:=Qj (x:=x) rfl h
 unfold kf at this
 rw[hn]at this
 exact this
theorem q14 {α β:Type}{key:α→β}{l:List α}{i:Nat}{x y:α}(hy:l[i]?=Gd y)(hk:key x=key y):(l.set i x).map key=l.map key:=by
 rw[Lk]
 apply La
 intro j
 by_cases hj:j=i
 ·subst hj
  have bw:=(I.1 hy).1
  rw[Gc (by simpa using bw),Gl,hy,hk];rfl
 ·rw[Ga (Ih hj)]
theorem Fc {α β:Type}{key:α→β}{l:List α}{i:Nat}{x y:α}(h:zu key l)(hy:l[i]?=Gd y)(hk:key x=key y):zu key (l.set i x):=by
 unfold zu at *;rw[q14 hy hk];exact h
theorem eM.ax {r:jq}(w:eM r){i:Nat}{u u':j6}(hu:r.units[i]?=Gd u)(h1:u'.name=u.name)(h2:u'.partner=u.partner)(h3:u'.product=u.product):eM (ax r i u'):=by
 have hm:=E3 hu
 have bw:=(I.1 hu).1
 -- each unit of the new list stands for one of the old with the same name,partner and product
 have old:∀v∈(Go.W.ax r i u').units,∃v0∈r.units,v0.name=v.name∧v0.partner=v.partner∧v0.product=v.product:=by
  intro v hv
  rcases zM hv with hv|rfl
  ·exact⟨v,hv,rfl,rfl,rfl⟩
  ·exact⟨u,hm,h1.symm,h2.symm,h3.symm⟩
 have new:∀v∈r.units,∃v1∈(Go.W.ax r i u').units,v1.name=v.name∧v1.partner=v.partner:=by
  intro v hv
  obtain⟨j,hj⟩:=Gq hv
  by_cases pC:j=i
  ·subst pC
   rw[hu]at hj;cases hj
   exact⟨u',E3 (i:=j) (by simp only[Go.W.ax];rw[Gc bw]),h1,h2⟩
  ·exact⟨v,E3 (i:=j) (by simp only[Go.W.ax];rw[Ga (Ih pC)];exact hj),rfl,rfl⟩
 refine⟨Fc w.units hu h1,?_,?_,w.ar,w.fG,?_⟩
 ·intro v hv
  obtain⟨v0,k0,k1,_⟩:=old v hv
  rw[←k1];exact w.named v0 k0
 ·intro v hv hp
  obtain⟨v0,k0,k1,k2,_⟩:=old v hv
  obtain⟨z,z0,z1,z2⟩:=w.gq v0 k0 (by rw[k2];exact hp)
  obtain⟨z',y0,y1,y2⟩:=new z z0
  exact⟨z',y0,by rw[y1,z1,k2],by rw[y2,z2,k1]⟩
 ·intro v hv z hz hn
  obtain⟨v0,k0,k1,k2,k3⟩:=old v hv
  obtain⟨z0,j0,j1,j2,Ka⟩:=old z hz
  rw[←Ka,←k3]
  exact w.kinds v0 k0 z0 j0 (by rw[j1,k2];exact hn)
theorem eM.gu {r:jq}(w:eM r){ls:List ja}(h:zu (·.name) ls):eM { r with ar:=ls }:=⟨w.units,w.named,w.gq,h,w.fG,w.kinds⟩
theorem eM.gR {r:jq}(w:eM r){ps:List nC}(h:zu (·.name) ps):eM { r with ae:=ps }:=⟨w.units,w.named,w.gq,w.ar,h,w.kinds⟩
theorem BN {α β:Type}{key:α→β}{l:List α}(h:zu key l){x y:α}(hx:x∈l)(hy:y∈l)(he:key x=key y):x=y:=by
 induction l with
 |nil=>cases hx
 |cons z l ih=>
  have hn:=Lf.1 (by simpa[zu]using h:(key z::l.map key).Nodup)
  rcases Js.1 hx with rfl|fh
  ·rcases Js.1 hy with rfl|qW
   ·rfl
   ·exact absurd (by rw[he];exact Hb qW) hn.1
  ·rcases Js.1 hy with rfl|qW
   ·exact absurd (by rw[←he];exact Hb fh) hn.1
   ·exact ih hn.2 fh qW
theorem jfw {wrap:Int→Int}{r r':jq}{e:eK}(w:eM r)(hc:e.names.all (fun s=>!s.isEmpty)=true)(hb:e.kind=mK→0<e.names.length)(h:after wrap r e=.ok r'):eM r':=by
 unfold after at h
 split at h
 ·cases h
 split at h
 ·cases h
 rename_i r1 ha
 cases h
 suffices hw:eM r1 from⟨hw.units,hw.named,hw.gq,hw.ar,hw.fG,hw.kinds⟩
 unfold apply at ha
 split at ha
 ·rename_i hk3
  unfold mP at ha
  split at ha
  ·repeat' split at ha
   all_goals first|(cases ha;done)|skip
   rename_i hn _ _
   cases ha
   refine w.gu (YD w.ar ?_)
   simpa[zf]using hn
  split at ha
  ·repeat' split at ha
   all_goals first|(cases ha;done)|skip
   rename_i hn _
   cases ha
   refine w.gR (YD w.fG ?_)
   simpa[zz]using hn
  ·rename_i fZ dk
   have kJ:e.kind=mK:=by rcases hk3 with h|h|h<;>first|exact absurd h fZ|exact absurd h dk|exact h
   split at ha
   ·cases ha
   rename_i p hp
   repeat' split at ha
   all_goals first|(cases ha;done)|skip
   rename_i hn _ _
   cases ha
   have iY:r.units.findIdx? (fun x=>decide (x.name=nm e 0))=none:=by simpa[js]using hn
   have df:∀v∈r.units,v.name≠nm e 0:=fun v hv=>by
    have:=(dy.1 iY) v hv
    simpa using this
   have bG:nm e 0≠[]:=by
    have hl:=hb kJ
    unfold nm
    rw[En hl]
    have:=Jp.1 hc _ (G6 hl)
    simpa using this
   refine⟨YD w.units iY,?_,?_,w.ar,w.fG,?_⟩
   ·intro v hv
    rcases Gg.1 hv with hv|hv
    ·exact w.named v hv
    ·simp at hv;subst hv;exact bG
   ·intro v hv et
    rcases Gg.1 hv with hv|hv
    ·obtain⟨z,z0,z1⟩:=w.gq v hv et
     exact⟨z,List.mem_append_left _ z0,z1⟩
    ·simp at hv;subst hv;simp at et
   ·intro v hv z hz Fe
    rcases Gg.1 hv with hv|hv
    ·rcases Gg.1 hz with hz|hz
     ·exact w.kinds v hv z hz Fe
     ·simp at hz;subst hz
      -- the partner of an older unit is an older unit
      by_cases wW:v.partner=[]
      ·rw[wW]at Fe;exact absurd Fe bG
      ·obtain⟨y,y0,y1,_⟩:=w.gq v hv wW
       exact absurd (by rw[y1,←Fe]) (df y y0)
    ·simp at hv;subst hv
     simp only at Fe
     rcases Gg.1 hz with hz|hz
     ·exact absurd Fe (w.named z hz)
     ·simp at hz;subst hz;rfl
 split at ha
 ·unfold kw at ha
  split at ha
  ·cases ha
  split at ha
  ·cases ha
  rename_i _ i hi _ p hp
  have key:∀p':nC,p'.name=p.name→eM (bN r i p'):=fun p' hn=>w.gR (Fc w.fG hp hn)
  repeat' split at ha
  all_goals first|(cases ha;done)|(cases ha;exact key _ rfl)
 split at ha
 ·unfold pU at ha
  split at ha
  ·cases ha
  split at ha
  ·cases ha
  rename_i _ i hi _ x hx
  have key:∀x':ja,x'.name=x.name→eM (cg r i x'):=fun x' hn=>w.gu (Fc w.ar hx hn)
  repeat' split at ha
  all_goals first|(cases ha;done)|(cases ha;exact key _ rfl)
 ·unfold mQ at ha
  split at ha
  ·cases ha
  split at ha
  ·cases ha
  rename_i _ i hi _ u hu
  have hm:=E3 hu
  have key:∀u':j6,u'.name=u.name→u'.partner=u.partner→u'.product=u.product→eM (ax r i u'):=fun u' k1 k2 k3=>w.ax hu k1 k2 k3
  split at ha
  ·unfold rZ at ha
   split at ha
   ·cases ha
   split at ha
   ·cases ha
   rename_i _ k hk _ x hx
   repeat' split at ha
   all_goals first|(cases ha;done)|skip
   cases ha
   exact eM.ax (r:=cg r k { x with left:=wrap (x.left-vl e 1) }) (u':={ u with uses:=jN wrap u.uses x.name (vl e 1) }) (w.gu (Fc (x:={ x with left:=wrap (x.left-vl e 1) }) w.ar hx rfl)) hu rfl rfl rfl
  split at ha
  ·unfold sd at ha
   split at ha
   ·cases ha
   split at ha
   ·cases ha
   rename_i _ k hk _ v hv
   split at ha
   ·cases ha
   rename_i rN
   split at ha
   ·cases ha
   rename_i qQ
   split at ha
   ·cases ha
   split at ha
   ·cases ha
   rename_i hnp
   cases ha
   have CH:=E3 hv
   have hup:u.partner=[]:=by by_cases h:u.partner=[]<;>simp_all
   have hvp:v.partner=[]:=by by_cases h:v.partner=[]<;>simp_all
   have Aa:u.product=v.product:=by by_cases h:u.product=v.product<;>simp_all
   have YE:=(I.1 hu).1
   have hkv:=(I.1 hv).1
   have od:(r.units.set i { u with partner:=v.name })[k]?=Gd v:=by rw[Ga rN];exact hv
   have huv:u.name≠v.name:=fun he=>by
    have:=BN w.units hm CH he
    subst this
    -- the same unit at two places
    have qV:(r.units.map (·.name)).Nodup:=w.units
    have h1:(r.units.map (·.name))[i]?=Gd u.name:=by rw[Gl,hu];rfl
    have h2:(r.units.map (·.name))[k]?=Gd u.name:=by rw[Gl,hv];rfl
    have:=(Iy (by simpa using YE) qV).1 (h1.trans h2.symm)
    exact rN this
   -- the units of the new list: the two,and the old ones but for them
   have mem:∀z∈(ax (ax r i { u with partner:=v.name }) k { v with partner:=u.name }).units,z={ u with partner:=v.name }∨z={ v with partner:=u.name }∨(z∈r.units∧z.name≠u.name∧z.name≠v.name):=by
    intro z hz
    obtain⟨j,hj⟩:=Gq hz
    simp only[ax]at hj
    by_cases YF:j=k
    ·subst YF
     rw[Gc (by simpa using hkv)]at hj
     cases hj;exact .inr (.inl rfl)
    rw[Ga (Ih YF)]at hj
    by_cases pC:j=i
    ·subst pC
     rw[Gc YE]at hj
     cases hj;exact .inl rfl
    rw[Ga (Ih pC)]at hj
    have DF:=(I.1 hj).1
    have qV:(r.units.map (·.name)).Nodup:=w.units
    have pI:(r.units.map (·.name))[j]?=Gd z.name:=by rw[Gl,hj];rfl
    refine .inr (.inr ⟨E3 hj,fun he=>pC ?_,fun he=>YF ?_⟩)
    ·have h1:(r.units.map (·.name))[i]?=Gd u.name:=by rw[Gl,hu];rfl
     exact(Iy (by simpa using DF) qV).1 (pI.trans (by rw[he];exact h1.symm))
    ·have h1:(r.units.map (·.name))[k]?=Gd v.name:=by rw[Gl,hv];rfl
     exact(Iy (by simpa using DF) qV).1 (pI.trans (by rw[he];exact h1.symm))
   have inU:({ u with partner:=v.name }:j6)∈(ax (ax r i { u with partner:=v.name }) k { v with partner:=u.name }).units:=E3 (i:=i) (by simp only[ax];rw[Ga (Ih rN),Gc YE])
   have inV:({ v with partner:=u.name }:j6)∈(ax (ax r i { u with partner:=v.name }) k { v with partner:=u.name }).units:=E3 (i:=k) (by simp only[ax];rw[Gc (by simpa using hkv)])
   have inZ:∀z∈r.units,z.name≠u.name→z.name≠v.name→z∈(ax (ax r i { u with partner:=v.name }) k { v with partner:=u.name }).units:=by
    intro z hz h1 h2
    obtain⟨j,hj⟩:=Gq hz
    refine E3 (i:=j) ?_
    simp only[ax]
    rw[Ga (fun e=>h2 (by subst e;rw[hv]at hj;cases hj;rfl)),Ga (fun e=>h1 (by subst e;rw[hu]at hj;cases hj;rfl))]
    exact hj
   refine⟨?_,?_,?_,w.ar,w.fG,?_⟩
   ·exact Fc (Fc w.units hu rfl) od rfl
   ·intro z hz
    rcases mem z hz with rfl|rfl|⟨h,_⟩
    ·exact w.named u hm
    ·exact w.named v CH
    ·exact w.named z h
   ·intro z hz hp
    rcases mem z hz with rfl|rfl|⟨h,h1,h2⟩
    ·exact⟨_,inV,rfl,rfl⟩
    ·exact⟨_,inU,rfl,rfl⟩
    ·obtain⟨y,y0,y1,y2⟩:=w.gq z h hp
     refine⟨y,inZ y y0 (fun e=>?_) (fun e=>?_),y1,y2⟩
     ·have:=BN w.units y0 hm e
      subst this
      rw[hup]at y2;exact w.named z h y2.symm
     ·have:=BN w.units y0 CH e
      subst this
      rw[hvp]at y2;exact w.named z h y2.symm
   ·intro z hz y hy CI
    rcases mem z hz with rfl|rfl|⟨h,h1,h2⟩
    ·rcases mem y hy with rfl|rfl|⟨k0,k1,k2⟩
     ·exact absurd CI huv
     ·exact Aa.symm
     ·exact absurd CI k2
    ·rcases mem y hy with rfl|rfl|⟨k0,k1,k2⟩
     ·exact Aa
     ·exact absurd CI (Ih huv)
     ·exact absurd CI k1
    ·rcases mem y hy with rfl|rfl|⟨k0,k1,k2⟩
     ·exact w.kinds z h u hm CI
     ·exact w.kinds z h v CH CI
     ·exact w.kinds z h y k0 CI
  repeat' split at ha
  all_goals first|(cases ha;done)|(cases ha;exact key _ rfl rfl rfl)
theorem My {e:eK}(h:zk e=0):e.names.all (fun s=>!s.isEmpty)=true∧∃f,yw e.kind=Gd f∧e.names.length=f.1∧e.values.length=f.2:=by
 unfold zk at h
 split at h
 ·cases h
 split at h
 ·cases h
 rename_i f hf
 split at h
 ·cases h
 rename_i hl
 split at h
 ·cases h
 rename_i hn
 refine⟨?_,f,hf,by by_cases hh:e.names.length=f.1<;>simp_all,by by_cases hh:e.values.length=f.2<;>simp_all⟩
 have hn:e.names.all dc=true:=by simpa using hn
 rw[Jp]at hn ⊢
 intro s hs
 have:=hn s hs
 cases s with
 |nil=>simp[dc]at this
 |cons c t=>rfl
theorem eH.BK {wrap:Int→Int}{h:ky}(o:eH wrap h):∀(j:Nat) (r:jq),h.2[j]?=Gd r→eM r
 |0,r,hr=>by rw[o.first]at hr;cases hr;exact eM.empty 0
 |j+1,r,hr=>by
  have bw:=(I.1 hr).1
  have hl:=o.len
  have h1:j<h.1.length:=by omega
  obtain⟨r',k1,k2⟩:=o.next j _ _ (En h1) (En (by omega:j<h.2.length))
  rw[k1]at hr;cases hr
  obtain⟨c1,f,c2,cY,_⟩:=My (o.kinds _ (G6 h1)).1
  refine jfw (eH.BK o j _ (En (by omega))) c1 (fun hk=>?_) k2
  rw[hk]at c2
  have h2:yw mK=Gd (2,1):=by decide
  rw[h2]at c2
  have:f=(2,1):=(Gd.inj c2).symm
  rw[cY,this];decide
theorem eH.BL {wrap:Int→Int}{h:ky}(o:eH wrap h):eM (Go.W.now h):=o.BK _ _ o.now
end Go.W
namespace Go.W
def yn (u:j6)(s:Str):Bool:=u.uses.any fun x=>decide (x.k=s)
def ki (u:j6)(ar:List Str):Bool:=ar.any (yn u)&&u.aj
def yq (r:jq)(n:Str):Option j6:=(js r n).bind fun k=>r.units[k]?
def kq (r:jq)(ar:List Str)(u:j6):Bool:=ki u ar||(!u.partner.isEmpty&&(u.aj&&(yq r u.partner).any (fun v=>ki v ar)))
def MO (r:jq)(ar:List Str)(n:Str):Bool:=(r.units.filter fun u=>ki u ar).any fun v=>decide (v.name=n)||decide (v.partner=n)
theorem EE {r:jq}{v:j6}(w:eM r)(hv:v∈r.units):yq r v.name=Gd v:=by
 unfold yq js
 cases hk:r.units.findIdx? (fun x=>decide (x.name=v.name))with
 |none=>
  have:=(dy.1 hk) v hv
  simp at this
 |some k=>
  obtain⟨x,h1,h2,_⟩:=bp hk
  simp only[Gs,h1]
  have:x.name=v.name:=by simpa using h2
  rw[BN w.units (E3 h1) hv this]
theorem jck {r:jq}(w:eM r){ar:List Str}{u:j6}(hu:u∈r.units):(u.aj&&MO r ar u.name)=kq r ar u:=by
 unfold kq MO
 cases hs:u.aj with
 |false=>simp[ki,hs]
 |true=>
  rw[Bool.true_and]
  apply Bool.eq_iff_iff.2
  simp only[List.any_eq_true,List.mem_filter,Bool.or_eq_true,Bool.and_eq_true,decide_eq_true_eq,Bool.not_eq_true',List.isEmpty_eq_false_iff]
  constructor
  ·rintro ⟨v,⟨hv,b6⟩,hn|hp⟩
   ·rw[←BN w.units hv hu hn];exact .inl b6
   ·have wW:v.partner≠[]:=by rw[hp];exact w.named u hu
    obtain⟨z,z0,z1,z2⟩:=w.gq v hv wW
    have:=BN w.units z0 hu (z1.trans hp)
    subst this
    refine .inr ⟨by rw[z2];exact w.named v hv,trivial,?_⟩
    rw[z2,EE w hv]
    exact b6
  ·rintro (b6|⟨wW,_,ha⟩)
   ·exact⟨u,⟨hu,b6⟩,.inl rfl⟩
   ·obtain⟨v,v0,v1,v2⟩:=w.gq u hu wW
    rw[←v1,EE w v0]at ha
    exact⟨v,⟨v0,ha⟩,.inr v2⟩
end Go.W
namespace Go.W
def gS (n:Str):List br→Int
 | []=>0
 |x::l=>(if x.k=n then x.n else 0)+gS n l
def hZ (n:Str):List j6→Int
 | []=>0
 |u::l=>gS n u.uses+hZ n l
theorem quy (n:Str):∀l m:List br,gS n (l++m)=gS n l+gS n m
 | [],m=>by simp[gS]
 |x::l,m=>by simp only[Jn,gS,quy n l m];omega
theorem q74 (n:Str):∀ {l:List br} {i:Nat} {x y:br},l[i]?=Gd x→gS n (l.set i y)=gS n l-(if x.k=n then x.n else 0)+(if y.k=n then y.n else 0)
 | [],i,x,y,h=>by simp at h
 |z::l,0,x,y,h=>by
  simp only[Gv,Gd.injEq]at h
  subst h
  simp only[Hc,gS];omega
 |z::l,i+1,x,y,h=>by
  simp only[Gw]at h
  simp only[Hd,gS,q74 n h];omega
theorem Qk (n:Str):∀ {l:List br},(∀x∈l,1≤x.n)→0≤gS n l
 | [],_=>G8 _
 |x::l,h=>by
  have h1:=h x (Gr ..)
  have h2:=Qk n (fun y hy=>h y (Gi _ hy))
  simp only[gS];split<;>omega
theorem q79 (n:Str):∀ {l:List br} {i:Nat} {x:br},(∀x∈l,1≤x.n)→l[i]?=Gd x→x.k=n→x.n≤gS n l
 | [],i,x,_,h,_=>by simp at h
 |z::l,0,x,hp,h,hk=>by
  simp only[Gv,Gd.injEq]at h
  subst h
  have:=Qk n (fun y hy=>hp y (Gi _ hy))
  simp only[gS,if_pos hk];omega
 |z::l,i+1,x,hp,h,hk=>by
  simp only[Gw]at h
  have h1:=q79 n (fun y hy=>hp y (Gi _ hy)) h hk
  have h2:=hp z (Gr ..)
  simp only[gS];split<;>omega
theorem q2k (n:Str):∀ {l:List br},(∀x∈l,x.k≠n)→gS n l=0
 | [],_=>rfl
 |x::l,h=>by
  simp only[gS,if_neg (h x (Gr ..)),q2k n (fun y hy=>h y (Gi _ hy))];rfl
theorem qs6 (n:Str):∀l m:List j6,hZ n (l++m)=hZ n l+hZ n m
 | [],m=>by simp[hZ]
 |x::l,m=>by simp only[Jn,hZ,qs6 n l m];omega
theorem YG (n:Str):∀ {l:List j6} {i:Nat} {u v:j6},l[i]?=Gd u→hZ n (l.set i v)=hZ n l-gS n u.uses+gS n v.uses
 | [],i,u,v,h=>by simp at h
 |z::l,0,u,v,h=>by
  simp only[Gv,Gd.injEq]at h
  subst h
  simp only[Hc,hZ];omega
 |z::l,i+1,u,v,h=>by
  simp only[Gw]at h
  simp only[Hd,hZ,YG n h];omega
theorem jdz (n:Str){l:List j6}{i:Nat}{u v:j6}(h:l[i]?=Gd u)(hv:v.uses=u.uses):hZ n (l.set i v)=hZ n l:=by
 rw[YG n h,hv];omega
theorem q0e (n:Str):∀ {l:List j6},(∀u∈l,∀x∈u.uses,x.k≠n)→hZ n l=0
 | [],_=>rfl
 |u::l,h=>by
  simp only[hZ,q2k n (h u (Gr ..)),q0e n (fun y hy=>h y (Gi _ hy))];rfl
theorem YH (n:Str):∀ {l:List j6},(∀u∈l,∀x∈u.uses,1≤x.n)→0≤hZ n l
 | [],_=>G8 _
 |u::l,h=>by
  have h1:=Qk n (h u (Gr ..))
  have h2:=YH n (fun y hy=>h y (Gi _ hy))
  simp only[hZ];omega
theorem q4k (n:Str):∀ {l:List j6} {i:Nat} {u:j6},(∀u∈l,∀x∈u.uses,1≤x.n)→l[i]?=Gd u→gS n u.uses≤hZ n l
 | [],i,u,_,h=>by simp at h
 |z::l,0,u,hp,h=>by
  simp only[Gv,Gd.injEq]at h
  subst h
  have:=YH n (fun y hy=>hp y (Gi _ hy))
  simp only[hZ];omega
 |z::l,i+1,u,hp,h=>by
  simp only[Gw]at h
  have h1:=q4k n (fun y hy=>hp y (Gi _ hy)) h
  have h2:=Qk n (hp z (Gr ..))
  simp only[hZ];omega
theorem q21 {α β:Type}{key:α→β}{l:List α}(h:zu key l){i j:Nat}{a b:α}(ha:l[i]?=Gd a)(hb:l[j]?=Gd b)(qO:i≠j):key a≠key b:=by
 intro e
 have hn:(l.map key).Nodup:=h
 have h1:(l.map key)[i]?=Gd (key a):=by rw[Gl,ha];rfl
 have h2:(l.map key)[j]?=Gd (key b):=by rw[Gl,hb];rfl
 obtain⟨i1,e1⟩:=I.1 h1
 obtain⟨j1,e2⟩:=I.1 h2
 have hp:=List.pairwise_iff_getElem.1 hn
 rcases Nat.lt_or_gt_of_ne qO with hl|hl
 ·exact hp i j i1 j1 hl (e1.trans (e.trans e2.symm))
 ·exact hp j i j1 i1 hl (e2.trans (e.symm.trans e1.symm))
structure gv (j:Nat)(r:jq):Prop where
 ar:∀(k:Nat) (x:ja),r.ar[k]?=Gd x→0≤x.left∧x.count≤10000∧x.left+hZ x.name r.units=x.count
 uses:∀u∈r.units,∀x∈u.uses,1≤x.n
 told:∀u∈r.units,0≤u.ak∧u.ak≤j
theorem gv.empty (d:Int):gv 0 ⟨d,[],[],[]⟩:=⟨by simp,by simp,by simp⟩
theorem gv.mono {i j:Nat}{r:jq}(w:gv i r)(h:i≤j):gv j r:=⟨w.ar,w.uses,fun u hu=>⟨(w.told u hu).1,by have:=(w.told u hu).2;omega⟩⟩
theorem gv.same {j:Nat}{r:jq}(w:gv j r){ps:List nC}{d:Int}:gv j ⟨d,r.ar,ps,r.units⟩:=⟨w.ar,w.uses,w.told⟩
theorem gv.ax {j:Nat}{r:jq}(w:gv j r){i:Nat}{u v:j6}(hu:r.units[i]?=Gd u)(h1:v.uses=u.uses)(h2:0≤v.ak∧v.ak≤j):gv j (Go.W.ax r i v):=by
 refine⟨fun k x hx=>?_,fun y hy=>?_,fun y hy=>?_⟩
 ·have:=w.ar k x hx
  show _∧_∧x.left+hZ x.name (r.units.set i v)=_
  rw[jdz _ hu h1];exact this
 ·rcases Gm hy with h|h
  ·exact w.uses y h
  ·rw[h,h1];exact w.uses u (E3 hu)
 ·rcases Gm hy with h|h
  ·exact w.told y h
  ·rw[h];exact h2
theorem gv.cg {j:Nat}{r:jq}(w:gv j r){i:Nat}{x y:ja}(hx:r.ar[i]?=Gd x)(h:y.name=x.name∧y.left=x.left∧y.count=x.count):gv j (Go.W.cg r i y):=by
 refine⟨fun k z hz=>?_,w.uses,w.told⟩
 have hz:(r.ar.set i y)[k]?=Gd z:=hz
 by_cases hk:i=k
 ·subst hk
  rw[Gc (I.1 hx).1]at hz
  cases hz
  have:=w.ar i x hx
  rw[h.1,h.2.1,h.2.2]
  exact this
 ·rw[Ga hk]at hz
  exact w.ar k z hz
def Kb (wrap:Int→Int):Prop:=∀n:Int,0≤n→n≤1000000→wrap n=n
theorem jbm {wrap:Int→Int}(hw:Kb wrap){l:List br}{k:Str}{n:Int}(h1:1≤n)(hp:∀x∈l,1≤x.n)(hb:n+gS k l≤1000000)(m:Str):gS m (jN wrap l k n)=gS m l+(if k=m then n else 0)∧∀x∈jN wrap l k n,1≤x.n:=by
 unfold jN
 cases hi:l.findIdx? (cX k)with
 |none=>
  refine⟨by rw[quy];simp[gS],fun x hx=>?_⟩
  rcases Gg.1 hx with h|h
  ·exact hp x h
  ·rw[Gx.1 h];exact h1
 |some i=>
  obtain⟨x,hx,hk,_⟩:=bp hi
  have hk:x.k=k:=by simpa[cX]using hk
  have hle:=q79 k hp hx hk
  have Aq:=hp x (E3 hx)
  have Kc:wrap (n+x.n)=n+x.n:=hw _ (by omega) (by omega)
  simp only[hx,Kc]
  refine⟨?_,fun y hy=>?_⟩
  ·rw[q74 m hx,hk]
   by_cases e:k=m
   ·simp only[if_pos e];omega
   ·simp only[if_neg e];omega
  ·rcases Gm hy with h|h
   ·exact hp y h
   ·rw[h];show 1≤n+x.n;omega
theorem gv.use {wrap:Int→Int}(hw:Kb wrap){j:Nat}{r:jq}(w:gv j r)(w2:eM r){i k:Nat}{u:j6}{x:ja}{n:Int}(hu:r.units[i]?=Gd u)(hx:r.ar[k]?=Gd x)(h1:1≤n)(h2:n≤x.left):gv j (Go.W.ax (Go.W.cg r k { x with left:=wrap (x.left-n) }) i { u with uses:=jN wrap u.uses x.name n }):=by
 obtain⟨l0,l1,l2⟩:=w.ar k x hx
 have hum:=E3 hu
 have hg:=q4k x.name w.uses hu
 have hb:n+gS x.name u.uses≤1000000:=by omega
 have Kc:wrap (x.left-n)=x.left-n:=hw _ (by omega) (by have:=YH x.name w.uses;omega)
 have ht:=fun m=>jbm hw (k:=x.name) h1 (w.uses u hum) hb m
 refine⟨fun q z hz=>?_,fun y hy=>?_,fun y hy=>?_⟩
 ·have hz:(r.ar.set k { x with left:=wrap (x.left-n) })[q]?=Gd z:=hz
  show 0≤z.left∧z.count≤10000∧z.left+hZ z.name (r.units.set i { u with uses:=jN wrap u.uses x.name n })=z.count
  rw[YG _ hu,(ht z.name).1]
  by_cases hk:k=q
  ·subst hk
   rw[Gc (I.1 hx).1]at hz
   cases hz
   simp only[Kc,if_true]
   omega
  ·rw[Ga hk]at hz
   have bG:x.name≠z.name:=q21 (key:=fun x:ja=>x.name) w2.ar hx hz hk
   rw[if_neg bG]
   have:=w.ar q z hz
   omega
 ·rcases Gm hy with h|h
  ·exact w.uses y h
  ·rw[h];exact(ht x.name).2
 ·rcases Gm hy with h|h
  ·exact w.told y h
  ·rw[h];exact w.told u hum
theorem gv.uU {j:Nat}{r:jq}(w:gv j r){u:j6}(h1:u.uses=[])(h2:0≤u.ak∧u.ak≤j):gv j { r with units:=r.units++[u] }:=by
 refine⟨fun k x hx=>?_,fun y hy=>?_,fun y hy=>?_⟩
 ·have:=w.ar k x hx
  show 0≤x.left∧x.count≤10000∧x.left+hZ x.name (r.units++[u])=x.count
  rw[qs6]
  simp only[hZ,h1,gS]
  omega
 ·rcases Gg.1 hy with h|h
  ·exact w.uses y h
  ·rw[Gx.1 h,h1];simp
 ·rcases Gg.1 hy with h|h
  ·exact w.told y h
  ·rw[Gx.1 h];exact h2
theorem gv.xH {j:Nat}{r:jq}(w:gv j r)(w1:WF r){x:ja}(hn:(zf r x.name).isSome=false)(h1:x.left=x.count)(h2:0≤x.count∧x.count≤10000):gv j { r with ar:=r.ar++[x] }:=by
 refine⟨fun k y hy=>?_,w.uses,w.told⟩
 have hy:(r.ar++[x])[k]?=Gd y:=hy
 rw[List.getElem?_append]at hy
 split at hy
 ·exact w.ar k y hy
 ·have hz:hZ x.name r.units=0:=q0e _ fun u hu z hz e=>by
   have:=(w1.uses u hu).2 z hz
   rw[e,hn]at this;cases this
  have hm:y∈[x]:=E3 hy
  rw[Gx.1 hm]
  show 0≤x.left∧x.count≤10000∧x.left+hZ x.name r.units=x.count
  rw[hz];omega
theorem jdq {wrap:Int→Int}(hw:Kb wrap){j:Nat}(hj:j≤1000){r r':jq}{e:eK}(w1:WF r)(w2:eM r)(w:gv j r)(hv:∀i,0≤vl e i)(ha:apply wrap r e=.ok r'):gv (j+1) r':=by
 have mc:∀ {i:Nat} {u:j6},r.units[i]?=Gd u→0≤u.ak∧u.ak≤((j+1:Nat):Int):=fun h=>by
  have:=w.told _ (E3 h);omega
 have wj:=w.mono (Nat.le_succ j)
 unfold apply at ha
 split at ha
 ·unfold mP at ha
  split at ha
  ·split at ha
   ·cases ha
   rename_i hn
   split at ha
   ·cases ha
   rename_i hb
   split at ha
   ·cases ha
   cases ha
   exact wj.xH w1 (by simpa using hn) rfl ⟨hv 1,by show vl e 1≤10000;omega⟩
  split at ha
  ·repeat' split at ha
   all_goals first|(cases ha;done)|skip
   cases ha
   exact wj.same
  ·repeat' split at ha
   all_goals first|(cases ha;done)|skip
   cases ha
   exact wj.uU rfl ⟨G8 _,by show(0:Int)≤_;omega⟩
 split at ha
 ·unfold kw at ha
  repeat' split at ha
  all_goals first|(cases ha;done)|(cases ha;exact wj.same)
 split at ha
 ·unfold pU at ha
  split at ha
  ·cases ha
  split at ha
  ·cases ha
  rename_i hx
  repeat' split at ha
  all_goals first|(cases ha;done)|(cases ha;exact wj.cg hx ⟨rfl,rfl,rfl⟩)
 unfold mQ at ha
 split at ha
 ·cases ha
 split at ha
 ·cases ha
 rename_i _ i hi _ u hu
 split at ha
 ·unfold rZ at ha
  split at ha
  ·cases ha
  split at ha
  ·cases ha
  rename_i _ k hk _ x hx
  split at ha
  ·cases ha
  split at ha
  ·cases ha
  rename_i h0
  split at ha
  ·cases ha
  split at ha
  ·cases ha
  split at ha
  ·cases ha
  rename_i hle
  cases ha
  exact wj.use hw w2 hu hx (by have:=hv 1;omega) (by omega)
 split at ha
 ·unfold sd at ha
  split at ha
  ·cases ha
  split at ha
  ·cases ha
  rename_i _ k hk _ v vu
  split at ha
  ·cases ha
  rename_i rN
  repeat' split at ha
  all_goals first|(cases ha;done)|skip
  cases ha
  refine(wj.ax hu (v:={ u with partner:=v.name }) rfl (mc (u:=u) hu)).ax (u:=v) ?_ rfl (mc (u:=v) vu)
  show(r.units.set i _)[k]?=_
  rw[Ga rN];exact vu
 repeat' split at ha
 all_goals first|(cases ha;done)|skip
 ·cases ha;exact wj.ax hu rfl (mc (u:=u) hu)
 ·cases ha;exact wj.ax hu rfl (mc (u:=u) hu)
 ·cases ha;exact wj.ax hu rfl (mc (u:=u) hu)
 ·cases ha
  have:=w.told _ (E3 hu)
  have Kc:wrap (u.ak+1)=u.ak+1:=hw _ (by omega) (by omega)
  exact wj.ax hu rfl (by show 0≤wrap _∧wrap _≤_;rw[Kc];omega)
theorem jf2 {wrap:Int→Int}(hw:Kb wrap){j:Nat}(hj:j≤1000){r r':jq}{e:eK}(w1:WF r)(w2:eM r)(w:gv j r)(hv:∀i,0≤vl e i)(h:after wrap r e=.ok r'):gv (j+1) r':=by
 unfold after at h
 split at h
 ·cases h
 split at h
 ·cases h
 rename_i r1 ha
 cases h
 have:=jdq hw hj w1 w2 w hv ha
 exact⟨this.ar,this.uses,this.told⟩
theorem jdm {e:eK}(h:zk e=0)(i:Nat):0≤vl e i∧vl e i≤999999999:=by
 have hall:e.values.all (fun n=>decide (0≤n)&&decide (n≤999999999))=true:=by
  unfold zk at h
  split at h
  ·cases h
  split at h
  ·cases h
  split at h
  ·cases h
  split at h
  ·cases h
  split at h
  ·cases h
  rename_i hh
  simpa using hh
 unfold vl
 cases hi:e.values[i]? with
 |none=>exact⟨G8 _,by decide⟩
 |some v=>
  have:=Jp.1 hall v (E3 hi)
  simpa using this
theorem eH.wf3 {wrap:Int→Int}(hw:Kb wrap){h:ky}(o:eH wrap h)(hl:h.1.length≤1000):∀(j:Nat) (r:jq),h.2[j]?=Gd r→gv j r
 |0,r,hr=>by rw[o.first]at hr;cases hr;exact gv.empty 0
 |j+1,r,hr=>by
  have bw:=(I.1 hr).1
  have hll:=o.len
  have h1:j<h.1.length:=by omega
  have h2:j<h.2.length:=by omega
  obtain⟨r',k1,k2⟩:=o.next j _ _ (En h1) (En h2)
  rw[k1]at hr;cases hr
  have hj:=En h2
  exact jf2 hw (by omega) (o.wf j _ hj) (o.BK j _ hj) (eH.wf3 hw o hl j _ hj) (fun i=>(jdm (o.kinds _ (G6 h1)).1 i).1) k2
end Go.W
namespace Go.W
structure fc (x y:ja):Prop where
 name:y.name=x.name
 kind:y.kind=x.kind
 count:y.count=x.count
 left:y.left≤x.left
structure dR (x y:j6):Prop where
 name:y.name=x.name
 version:x.version≤y.version
 results:x.results.length≤y.results.length
 told:x.ak≤y.ak
structure dS (x y:nC):Prop where
 name:y.name=x.name
 aW:x.aW.length≤y.aW.length
def dv {α:Type}(R:α→α→Prop)(l m:List α):Prop:=∀(i:Nat) (x:α),l[i]?=Gd x→∃y,m[i]?=Gd y∧R x y
theorem dv.refl {α:Type}{R:α→α→Prop}(hR:∀x,R x x)(l:List α):dv R l l:=fun i x h=>⟨x,h,hR x⟩
theorem dv.trans {α:Type}{R:α→α→Prop}(hR:∀x y z,R x y→R y z→R x z){l m k:List α}(h1:dv R l m)(h2:dv R m k):dv R l k:=fun i x h=>by
 obtain⟨y,a1,a2⟩:=h1 i x h
 obtain⟨z,b1,b2⟩:=h2 i y a1
 exact⟨z,b1,hR _ _ _ a2 b2⟩
theorem dv.add {α:Type}{R:α→α→Prop}(hR:∀x,R x x)(l m:List α):dv R l (l++m):=fun i x h=>⟨x,by rw[Gh (I.1 h).1];exact h,hR x⟩
theorem dv.set {α:Type}{R:α→α→Prop}(hR:∀x,R x x){l:List α}{i:Nat}{x y:α}(hx:l[i]?=Gd x)(J9:R x y):dv R l (l.set i y):=fun k z hz=>by
 by_cases hk:i=k
 ·subst hk
  rw[hx]at hz;cases hz
  exact⟨y,Gc (I.1 hx).1,J9⟩
 ·exact⟨z,by rw[Ga hk];exact hz,hR z⟩
theorem dv.len {α:Type}{R:α→α→Prop}{l m:List α}(h:dv R l m):l.length≤m.length:=by
 rcases Jq m.length l.length with hl|hl
 ·obtain⟨y,a1,_⟩:=h m.length _ (En hl)
  have:=(I.1 a1).1
  omega
 ·exact hl
theorem fc.refl (x:ja):fc x x:=⟨rfl,rfl,rfl,G8 _⟩
theorem dR.refl (x:j6):dR x x:=⟨rfl,G8 _,Jr _,G8 _⟩
theorem dS.refl (x:nC):dS x x:=⟨rfl,Jr _⟩
theorem fc.trans (x y z:ja)(h:fc x y)(g:fc y z):fc x z:=⟨g.name.trans h.name,g.kind.trans h.kind,g.count.trans h.count,Jy g.left h.left⟩
theorem dR.trans (x y z:j6)(h:dR x y)(g:dR y z):dR x z:=⟨g.name.trans h.name,Jy h.version g.version,Jt h.results g.results,Jy h.told g.told⟩
theorem dS.trans (x y z:nC)(h:dS x y)(g:dS y z):dS x z:=⟨g.name.trans h.name,Jt h.aW g.aW⟩
structure fH (r s:jq):Prop where
 ar:dv fc r.ar s.ar
 units:dv dR r.units s.units
 fG:dv dS r.ae s.ae
theorem fH.refl (r:jq):fH r r:=⟨.refl fc.refl _,.refl dR.refl _,.refl dS.refl _⟩
theorem fH.trans {r s t:jq}(h:fH r s)(g:fH s t):fH r t:=⟨h.ar.trans fc.trans g.ar,h.units.trans dR.trans g.units,h.fG.trans dS.trans g.fG⟩
theorem fH.gu {r:jq}{l:List ja}(h:dv fc r.ar l):fH r { r with ar:=l }:=⟨h,.refl dR.refl _,.refl dS.refl _⟩
theorem fH.gR {r:jq}{l:List nC}(h:dv dS r.ae l):fH r { r with ae:=l }:=⟨.refl fc.refl _,.refl dR.refl _,h⟩
end Go.W
namespace Go.W
structure cZ (x y:j6):Prop where
 name:y.name=x.name
 aj:y.aj=x.aj
 same:x.aj=true→y.version=x.version∧y.uses=x.uses∧y.results=x.results∧y.partner=x.partner
theorem cZ.refl (x:j6):cZ x x:=⟨rfl,rfl,fun _=>⟨rfl,rfl,rfl,rfl⟩⟩
theorem cZ.trans (x y z:j6)(h:cZ x y)(g:cZ y z):cZ x z:=⟨g.name.trans h.name,g.aj.trans h.aj,fun hx=>by
 obtain⟨a,b,c,d⟩:=h.same hx
 obtain⟨a',b',c',d'⟩:=g.same (h.aj.trans hx)
 exact⟨a'.trans a,b'.trans b,c'.trans c,d'.trans d⟩⟩
structure cz (r s:jq):Prop where
 old:dv cZ r.units s.units
 new:∀(i:Nat) (y:j6),r.units.length≤i→s.units[i]?=Gd y→y.aj=false
theorem cz.same {r s:jq}(h:s.units=r.units):cz r s:=by
 refine⟨by rw[h];exact .refl cZ.refl _,fun i y hi hy=>?_⟩
 rw[h]at hy
 have:=(I.1 hy).1
 omega
theorem cz.set {r s:jq}{i:Nat}{x y:j6}(hx:r.units[i]?=Gd x)(hs:s.units=r.units.set i y)(J9:cZ x y):cz r s:=by
 refine⟨by rw[hs];exact .set cZ.refl hx J9,fun k z hi hz=>?_⟩
 rw[hs]at hz
 have:=(I.1 hz).1
 rw[List.length_set]at this
 omega
theorem cz.trans {r s t:jq}(h:cz r s)(g:cz s t):cz r t:=by
 refine⟨h.old.trans cZ.trans g.old,fun i y hi hy=>?_⟩
 rcases Jq i s.units.length with hl|hl
 ·obtain⟨z,z1,z2⟩:=g.old i _ (En hl)
  rw[hy]at z1;cases z1
  rw[z2.aj]
  exact h.new i _ hi (En hl)
 ·exact g.new i y hl hy
theorem jc7 {wrap:Int→Int}{r r':jq}{e:eK}(hk:e.kind≠iO)(ha:apply wrap r e=.ok r'):cz r r':=by
 unfold apply at ha
 split at ha
 ·unfold mP at ha
  repeat' split at ha
  all_goals first|(cases ha;done)|skip
  ·cases ha;exact .same rfl
  ·cases ha;exact .same rfl
  ·cases ha
   refine⟨.add cZ.refl _ _,fun i y hi hy=>?_⟩
   rw[Gz hi]at hy
   rw[Gx.1 (E3 hy)]
 split at ha
 ·unfold kw at ha
  repeat' split at ha
  all_goals first|(cases ha;done)|(cases ha;exact .same rfl)
 split at ha
 ·unfold pU at ha
  repeat' split at ha
  all_goals first|(cases ha;done)|(cases ha;exact .same rfl)
 unfold mQ at ha
 split at ha
 ·cases ha
 split at ha
 ·cases ha
 rename_i _ i hi _ u hu
 split at ha
 ·unfold rZ at ha
  split at ha
  ·cases ha
  split at ha
  ·cases ha
  split at ha
  ·cases ha
  rename_i hs
  repeat' split at ha
  all_goals first|(cases ha;done)|skip
  cases ha
  exact .set hu rfl ⟨rfl,rfl,fun h=>absurd h hs⟩
 split at ha
 ·unfold sd at ha
  split at ha
  ·cases ha
  split at ha
  ·cases ha
  rename_i _ k eJ _ v hv
  split at ha
  ·cases ha
  rename_i rN
  split at ha
  ·cases ha
  split at ha
  ·cases ha
  rename_i hs
  split at ha
  ·cases ha
  cases ha
  have h1:¬u.aj=true:=fun h=>hs (.inl h)
  have h2:¬v.aj=true:=fun h=>hs (.inr h)
  refine cz.trans (s:=ax r i { u with partner:=v.name }) (.set hu rfl ⟨rfl,rfl,fun h=>absurd h h1⟩) (.set (x:=v) ?_ rfl ⟨rfl,rfl,fun h=>absurd h h2⟩)
  show(r.units.set i _)[k]?=_
  rw[Ga rN];exact hv
 split at ha
 ·split at ha
  ·cases ha
  rename_i hs
  repeat' split at ha
  all_goals first|(cases ha;done)|skip
  cases ha;exact .set hu rfl ⟨rfl,rfl,fun h=>absurd h hs⟩
 split at ha
 ·split at ha
  ·cases ha
  rename_i hs
  repeat' split at ha
  all_goals first|(cases ha;done)|skip
  cases ha;exact .set hu rfl ⟨rfl,rfl,fun h=>absurd h hs⟩
 try rw[if_neg hk]at ha
 split at ha
 ·cases ha
 cases ha
 exact .set hu rfl ⟨rfl,rfl,fun _=>⟨rfl,rfl,rfl,rfl⟩⟩
theorem qx1 {wrap:Int→Int}{r r':jq}{e:eK}(hk:e.kind≠iO)(h:after wrap r e=.ok r'):cz r r':=by
 unfold after at h
 split at h
 ·cases h
 split at h
 ·cases h
 rename_i r1 ha
 cases h
 have:=jc7 hk ha
 exact⟨this.old,this.new⟩
end Go.W
namespace Go.W
theorem qzh {wrap:Int→Int}{l m:List eK}{i:Nat}{h h':ky}(hr:yp wrap i h (l++m)=.ok h'):∃q,yp wrap i h l=.ok q∧yp wrap (i+l.length) q m=.ok h':=by
 rw[qma]at hr
 cases hq:yp wrap i h l with
 |error x=>rw[hq]at hr;cases hr
 |ok q=>rw[hq]at hr;exact⟨q,rfl,hr⟩
theorem q94 {wrap:Int→Int}{l m:List eK}{h':ky}(hr:run wrap (l++m)=.ok h'):∃q,run wrap l=.ok q∧yp wrap l.length q m=.ok h':=by
 unfold run at hr ⊢
 split at hr
 ·cases hr
 rename_i hl
 rw[If]at hl
 obtain⟨q,h1,h2⟩:=qzh hr
 rw[if_neg (by omega)]
 rw[Nat.zero_add]at h2
 exact⟨q,h1,h2⟩
end Go.W
namespace Go.W
theorem q20 {wrap:Int→Int}{h h':ky}{k:Int}{e:eK}(o:eH wrap h)(ha:accept wrap h k e=.ok h'):
  (e.kind≠nH∧after wrap (now h) e=.ok (now h'))∨(e.kind=nH∧∃c,c.kind≠iO∧after wrap (now h') c=.ok (now h)):=by
 unfold accept at ha
 split at ha
 ·cases ha
 split at ha
 ·rename_i hu
  refine .inr ⟨hu,?_⟩
  split at ha
  ·cases ha
  ·rename_i c hc
   split at ha
   ·cases ha
   rename_i hs
   cases ha
   have gK:0<h.1.length:=by
    cases hh:h.1 with
    |nil=>rw[hh]at hc;simp at hc
    |cons _ _=>simp
   have hl:=o.len
   have hn:=o.now
   have dL:h.1[h.1.length-1]?=Gd c:=by rw[←G7];exact hc
   have hr:∃r,h.2[h.1.length-1]?=Gd r:=⟨_,En (by omega)⟩
   obtain⟨r,hr⟩:=hr
   obtain⟨r',k1,k2⟩:=o.next _ _ _ dL hr
   rw[show h.1.length-1+1=h.1.length by omega,hn]at k1
   cases k1
   refine⟨c,hs,?_⟩
   have:now (h.1.dropLast,h.2.dropLast)=r:=by
    unfold now
    show(h.2.dropLast.getLast?).getD mS=r
    rw[G7,Ha,G9,if_pos (by omega),show h.2.length-1-1=h.1.length-1 by omega,hr]
    rfl
   rw[this];exact k2
 ·rename_i hu
  split at ha
  ·cases ha
  ·rename_i r hr
   cases ha
   refine .inl ⟨hu,?_⟩
   rw[hr]
   congr 1
   unfold now
   simp
theorem qo8 {wrap:Int→Int}:∀ {l:List eK} {i:Nat} {h h':ky},h.1.length≤i→yp wrap i h l=.ok h'→h'.1.length≤i+l.length
 | [],i,h,h',hi,hr=>by simp only[yp]at hr;cases hr;simpa using hi
 |e::l,i,h,h',hi,hr=>by
  simp only[yp]at hr
  split at hr
  ·cases hr
  split at hr
  ·cases hr
  ·rename_i h1 ha
   have hl:h1.1.length≤i+1:=by
    unfold accept at ha
    split at ha
    ·cases ha
    split at ha
    ·split at ha
     ·cases ha
     ·split at ha
      ·cases ha
      cases ha
      show h.1.dropLast.length≤_
      rw[Ha];omega
    ·split at ha
     ·cases ha
     ·cases ha
      show(h.1++[e]).length≤_
      rw[If,List.length_singleton];omega
   have:=qo8 hl hr
   rw[Jo];omega
theorem jdt {wrap:Int→Int}{l:List eK}{h:ky}(hr:run wrap l=.ok h):h.1.length≤l.length:=by
 unfold run at hr
 split at hr
 ·cases hr
 ·have:=qo8 (Jr 0) hr
  omega
def jj5 (a u:j6):Prop:=u.version=a.version∧u.uses.length=a.uses.length∧u.results.length=a.results.length∧u.partner=a.partner
structure dp (M:Str→j6)(S:jq):Prop where
 ent:∀n,(M n).name≠[]→∃u∈S.units,u.name=n∧u.aj=true∧jj5 (M n) u
 has:∀u∈S.units,u.aj=true→(M u.name).name≠[]
theorem dp.empty {M:Str→j6}(hM:∀n,(M n).name=[]){S:jq}(h:S.units=[]):dp M S:=
 ⟨fun n hn=>absurd (hM n) hn,fun u hu=>by rw[h]at hu;cases hu⟩
theorem dp.fwd {M:Str→j6}{r s:jq}(k:cz r s)(v:dp M r):dp M s:=by
 refine⟨fun n hn=>?_,fun y hy hs=>?_⟩
 ·obtain⟨u,u0,u1,u2,u3⟩:=v.ent n hn
  obtain⟨i,hi⟩:=Gq u0
  obtain⟨y,y1,y2⟩:=k.old i u hi
  obtain⟨a,b,c,d⟩:=y2.same u2
  exact⟨y,E3 y1,y2.name.trans u1,y2.aj.trans u2,a.trans u3.1,by rw[b];exact u3.2.1,by rw[c];exact u3.2.2.1,d.trans u3.2.2.2⟩
 ·obtain⟨i,hi⟩:=Gq hy
  rcases Jq i r.units.length with hl|hl
  ·obtain⟨z,z1,z2⟩:=k.old i _ (En hl)
   rw[hi]at z1;cases z1
   rw[z2.name]
   exact v.has _ (G6 hl) (z2.aj.symm.trans hs)
  ·rw[k.new i y hl hi]at hs;cases hs
theorem dp.bwd {M:Str→j6}{r s:jq}(k:cz r s)(v:dp M s):dp M r:=by
 refine⟨fun n hn=>?_,fun x hx hs=>?_⟩
 ·obtain⟨y,y0,y1,y2,y3⟩:=v.ent n hn
  obtain⟨i,hi⟩:=Gq y0
  rcases Jq i r.units.length with hl|hl
  ·obtain⟨z,z1,z2⟩:=k.old i _ (En hl)
   rw[hi]at z1;cases z1
   have nj:=z2.aj.symm.trans y2
   obtain⟨a,b,c,d⟩:=z2.same nj
   exact⟨_,G6 hl,z2.name.symm.trans y1,nj,a.symm.trans y3.1,by rw[←b];exact y3.2.1,by rw[←c];exact y3.2.2.1,d.symm.trans y3.2.2.2⟩
  ·rw[k.new i y hl hi]at y2;cases y2
 ·obtain⟨i,hi⟩:=Gq hx
  obtain⟨y,y1,y2⟩:=k.old i x hi
  rw[←y2.name]
  exact v.has y (E3 y1) (y2.aj.trans hs)
theorem dp.step {wrap:Int→Int}{M:Str→j6}{h h':ky}{k:Int}{e:eK}(o:eH wrap h)(ha:accept wrap h k e=.ok h')(hs:e.kind≠iO)(v:dp M (now h)):dp M (now h'):=by
 rcases q20 o ha with⟨_,h1⟩|⟨_,c,c1,c2⟩
 ·exact v.fwd (qx1 hs h1)
 ·exact v.bwd (qx1 c1 c2)
end Go.W
