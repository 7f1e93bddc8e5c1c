/- The register of chapter 10 in plain lists. -/
set_option linter.unusedVariables false
set_option linter.unusedSimpArgs false
open List renaming getElem?_eq_some_iff→I,getElem?_eq_getElem→En,mem_of_getElem?→Ey,getElem?_set_ne→Gn,getElem?_set_self→Gp,getElem?_append_left→Gq,mem_append→Gs,findIdx?_cons→Gt,getElem?_map→Gv,getElem?_of_mem→Gz,mem_map_of_mem→G0,getElem?_append_right→G1,getElem?_inj→G5,getElem?_dropLast→G6,mem_cons→G7,ext_getElem?→G9,length_cons→Ha,all_eq_true→Hb,getElem_mem→Hc,nodup_cons→Hd,map_cons→Hh,map_set→Hj
open Option renaming some→Gw,bind_some→Gy,some_get→He
open Ne renaming symm→G2
namespace Go.W
abbrev Str:=List UInt8
structure bq where
 k:Str
 n:Int
 deriving DecidableEq
structure je where
 k:Str
 a:Int
 b:Int
 deriving DecidableEq
structure jd where
 name:Str
 kind:Str
 count:Int
 left:Int
 held:Bool
 deriving DecidableEq
structure jS where
 aK:List bq
 az:List je
 deriving DecidableEq
structure lj where
 name:Str
 bU:jS
 aM:List jS
 deriving DecidableEq
structure aW where
 name:Str
 product:Str
 version:Int
 uses:List bq
 results:List je
 partner:Str
 shipped:Bool
 ai:Int
 deriving DecidableEq
structure ju where
 day:Int
 lots:List jd
 ae:List lj
 units:List aW
 deriving DecidableEq
structure ek where
 number:Int
 kind:Str
 names:List Str
 values:List Int
 text:Str
 deriving DecidableEq
def zt (r:ju)(n:Str):Option Nat:=r.lots.findIdx? fun x=>decide (x.name=n)
def z6 (r:ju)(n:Str):Option Nat:=r.ae.findIdx? fun x=>decide (x.name=n)
def zp (r:ju)(n:Str):Option Nat:=r.units.findIdx? fun x=>decide (x.name=n)
def ko (r:ju)(n:Str):Option lj:=(z6 r n).bind fun k=>r.ae[k]?
def nQ (r:ju)(u:aW):Option Int:=(ko r u.product).map fun p=>(p.aM.length:Int)
def B8 (l:List jS)(v:Int):Option jS:=if 1≤v then l[(v-1).toNat]? else none
def ky (r:ju)(u:aW):Option jS:=(ko r u.product).bind fun p=>B8 p.aM u.version
def mZ (r:ju)(n:Str):Option jd:=(zt r n).bind fun k=>r.lots[k]?
theorem bg {α:Type}{p:α→Bool}{l:List α}{k:Nat}(h:l.findIdx? p=Gw k):∃x,l[k]?=Gw x∧p x=true∧k<l.length∧∀j x,j<k→l[j]?=Gw x→p x=false:=by
 induction l generalizing k with
 |nil=>simp at h
 |cons y l ih=>
  rw[Gt]at h
  by_cases hp:p y=true
  ·rw[if_pos hp]at h
   cases h
   exact⟨y,rfl,hp,by simp,fun j x hj=>by omega⟩
  ·rw[if_neg hp]at h
   obtain⟨i,hi,rfl⟩:=Option.map_eq_some_iff.1 h
   obtain⟨x,h1,h2,h3,h4⟩:=ih hi
   refine⟨x,by simpa using h1,h2,by simp;omega,fun j z hj hz=>?_⟩
   cases j with
   |zero=>simp at hz;subst hz;simpa using hp
   |succ j=>exact h4 j z (by omega) (by simpa using hz)
theorem dk {α:Type}{p:α→Bool}{l:List α}:l.findIdx? p=none↔∀x∈l,p x=false:=by
 induction l with
 |nil=>simp
 |cons y l ih=>
  rw[Gt]
  by_cases hp:p y=true
  ·rw[if_pos hp];simp[hp]
  ·rw[if_neg hp]
   have eE:p y=false:=by simpa using hp
   simp[ih,eE]
def kg {α:Type}(same:α→Bool)(x:α)(l:List α):List α:=match l.findIdx? same with
 |some i=>l.set i x
 |none=>l++[x]
def Fo {α:Type}(same:α→Bool)(x:α)(l:List α):List α:=(l.map fun y=>if same y then x else y)++(if l.any same then []else [x])
def zz {α β:Type}(key:α→β)(l:List α):Prop:=(l.map key).Nodup
theorem qwg {α β:Type}[DecidableEq β]{key:α→β}{k:β}{x:α}:∀ {l:List α},zz key l→(l.map fun y=>if decide (key y=k)then x else y)=(match l.findIdx? (fun y=>decide (key y=k))with|some i=>l.set i x|none=>l)
 | [],_=>rfl
 |y::l,h=>by
  have hn:=Hd.1 (by simpa[zz]using h:(key y::l.map key).Nodup)
  rw[Gt]
  by_cases hy:key y=k
  ·simp only[Hh,hy,decide_true,if_true]
   have:l.map (fun y=>if decide (key y=k)then x else y)=l:=by
    conv=>rhs;rw[←List.map_id l]
    refine List.map_congr_left fun z hz=>?_
    have:key z≠k:=fun e=>hn.1 (by rw[hy,←e];exact G0 hz)
    simp[this]
   rw[this];rfl
  ·have ih:=qwg (k:=k) (x:=x) (l:=l) hn.2
   simp only[Hh,hy,decide_false,Bool.false_eq_true,if_false]
   rw[ih]
   cases l.findIdx? (fun y=>decide (key y=k))with
   |none=>rfl
   |some i=>rfl
theorem Fj {α:Type}{p:α→Bool}{l:List α}:l.any p=(l.findIdx? p).isSome:=by
 induction l with
 |nil=>rfl
 |cons y l ih=>
  rw[Gt,List.any_cons]
  by_cases hp:p y=true
  ·rw[if_pos hp,hp];rfl
  ·rw[if_neg hp]
   have:p y=false:=by simpa using hp
   rw[this,Bool.false_or,ih]
   cases l.findIdx? p<;>rfl
theorem q0b {α β:Type}[DecidableEq β]{key:α→β}{k:β}{x:α}{l:List α}(h:zz key l):Fo (fun y=>decide (key y=k)) x l=kg (fun y=>decide (key y=k)) x l:=by
 unfold Fo kg
 rw[qwg h,Fj]
 cases l.findIdx? (fun y=>decide (key y=k))with
 |none=>simp
 |some i=>simp
theorem q0x {α β:Type}[DecidableEq β]{key:α→β}{k:β}{x:α}(hx:key x=k):∀ {l:List α} {i:Nat},zz key l→l.findIdx? (fun y=>decide (key y=k))=Gw i→zz key (l.set i x):=by
 intro l i h hi
 obtain⟨y,h1,h2,h3,_⟩:=bg hi
 have:(l.set i x).map key=l.map key:=by
  rw[Hj]
  apply G9
  intro j
  by_cases hj:j=i
  ·subst hj
   rw[Gp (by simpa using h3),Gv,h1]
   simp at h2;simp[hx,h2]
  ·rw[Gn (G2 hj)]
 unfold zz;rw[this];exact h
theorem Rh {α β:Type}[DecidableEq β]{key:α→β}{k:β}{x:α}{l:List α}(hx:key x=k)(h:zz key l):zz key (kg (fun y=>decide (key y=k)) x l):=by
 unfold kg
 cases hi:l.findIdx? (fun y=>decide (key y=k))with
 |some i=>exact q0x hx h hi
 |none=>
  rw[dk]at hi
  unfold zz at *
  rw[List.map_append,List.nodup_append]
  refine⟨h,by simp,?_⟩
  intro a ha b hb
  simp at hb
  subst hb
  obtain⟨z,hz,rfl⟩:=List.mem_map.1 ha
  have:=hi z hz
  rw[hx];simpa using this
theorem q3z {α β:Type}{key:α→β}{l:List α}(p:α→Bool)(h:zz key l):zz key (l.filter p):=
 List.Nodup.sublist (List.Sublist.map key List.filter_sublist) h
end Go.W
namespace Go.W
def kH:Str:=[108,111,116]
def nL:Str:=[112,114,111,100,117,99,116]
def mQ:Str:=[110,101,101,100]
def nM:Str:=[116,101,115,116]
def pW:Str:=[105,115,115,117,101]
def mR:Str:=[98,117,105,108,100]
def mS:Str:=[117,115,101]
def pg:Str:=[109,101,97,115,117,114,101]
def pX:Str:=[117,112,100,97,116,101]
def nO:Str:=[112,97,105,114]
def oB:Str:=[104,111,108,100]
def rX:Str:=[102,114,101,101]
def kw:Str:=[115,104,105,112]
def zQ:Str:=[99,111,109,112,108,97,105,110]
def mT:Str:=[117,110,100,111]
def Fi (wrap:Int→Int)(r:ju)(u:aW)(kind:Str):Int:=u.uses.foldl (fun n x=>if(mZ r x.k).any (fun l=>decide (l.kind=kind))then wrap (n+x.n)else n) 0
def iW (u:aW)(t:je):Bool:=u.results.foldl (fun is x=>if decide (x.k=t.k)&&decide (x.a=u.version)then decide (t.a≤x.b)&&decide (x.b≤t.b)else is) false
def mY (d:jS)(u:aW):List Str:=(d.az.filter fun t=>!iW u t).map (·.k)
def zR (wrap:Int→Int)(r:ju)(d:jS)(u:aW):Bool:=d.aK.all fun n=>decide (n.n≤Fi wrap r u n.k)
def vS (r:ju)(u:aW):Bool:=u.uses.any fun x=>(mZ r x.k).any (·.held)
def lE (wrap:Int→Int)(r:ju)(u:aW):Int:=
 if u.shipped then 21 else if nQ r u≠Gw u.version then 32 else
 match ky r u with
 |none=>20
 |some d=>if !zR wrap r d u then 20 else if !(mY d u).isEmpty then 31 else if vS r u then 34 else 0
def cj (r:ju)(i:Nat)(x:jd):ju:={ r with lots:=r.lots.set i x }
def bK (r:ju)(i:Nat)(x:lj):ju:={ r with ae:=r.ae.set i x }
def av (r:ju)(i:Nat)(x:aW):ju:={ r with units:=r.units.set i x }
def di (k:Str)(x:bq):Bool:=decide (x.k=k)
def eP (k:Str)(x:je):Bool:=decide (x.k=k)
def k9 (l:List bq)(k:Str)(n:Int):List bq:=if n=0 then l.filter (fun x=>!di k x)else kg (di k) ⟨k,n⟩ l
def jT (wrap:Int→Int)(l:List bq)(k:Str)(n:Int):List bq:=match l.findIdx? (di k)with
 |some i=>(match l[i]? with
  |some x=>l.set i ⟨k,wrap (n+x.n)⟩
  |none=>l)
 |none=>l++[⟨k,n⟩]
def nm (e:ek)(i:Nat):Str:=(e.names[i]?).getD []
def vl (e:ek)(i:Nat):Int:=(e.values[i]?).getD 0
abbrev qA:=Except Int ju
def l6 (r:ju)(e:ek):qA:=
 if e.kind=kH then
  (if(zt r (nm e 0)).isSome then .error 9 else if vl e 1<1∨10000<vl e 1 then .error 3 else if 64≤r.lots.length then .error 5 else
   .ok { r with lots:=r.lots++[⟨nm e 0,nm e 1,vl e 1,vl e 1,false⟩] })
 else if e.kind=nL then
  (if(z6 r (nm e 0)).isSome then .error 9 else if 16≤r.ae.length then .error 5 else .ok { r with ae:=r.ae++[⟨nm e 0,⟨[],[]⟩,[]⟩] })
 else match ko r (nm e 1)with
  |none=>.error 10
  |some p=>if(zp r (nm e 0)).isSome then .error 9 else if p.aM.isEmpty then .error 32 else if 256≤r.units.length then .error 5 else
    .ok { r with units:=r.units++[⟨nm e 0,nm e 1,p.aM.length,[],[],[],false,0⟩] }
def ku (r:ju)(e:ek):qA:=match z6 r (nm e 0)with
 |none=>.error 10
 |some i=>match r.ae[i]? with
  |none=>.error 10
  |some p=>
   if e.kind=mQ then
    (if vl e 1<0∨10000<vl e 1 then .error 3 else if 0<vl e 1∧!(p.bU.aK.any (di (nm e 1)))∧16≤p.bU.aK.length then .error 5 else
     .ok (bK r i { p with bU:={ p.bU with aK:=k9 p.bU.aK (nm e 1) (vl e 1) } }))
   else if e.kind=nM then
    (if vl e 2<vl e 1 then .error 11 else if !(p.bU.az.any (eP (nm e 1)))∧16≤p.bU.az.length then .error 5 else
     .ok (bK r i { p with bU:={ p.bU with az:=kg (eP (nm e 1)) ⟨nm e 1,vl e 1,vl e 2⟩ p.bU.az } }))
   else(if p.bU.aK.isEmpty then .error 12 else if 100≤p.aM.length then .error 5 else .ok (bK r i { p with aM:=p.aM++[p.bU] }))
def pk (r:ju)(e:ek):qA:=match zt r (nm e 0)with
 |none=>.error 10
 |some i=>match r.lots[i]? with
  |none=>.error 10
  |some x=>if e.kind=oB then(if x.held then .error 34 else .ok (cj r i { x with held:=true }))else(if !x.held then .error 20 else .ok (cj r i { x with held:=false }))
def qC (wrap:Int→Int)(r:ju)(i:Nat)(u:aW)(e:ek):qA:=match zt r (nm e 1)with
 |none=>.error 10
 |some k=>match r.lots[k]? with
  |none=>.error 10
  |some x=>if u.shipped then .error 21 else if vl e 1=0 then .error 3 else if x.held then .error 34 else
   if !((ky r u).any fun d=>d.aK.any (di x.kind))then .error 7 else if x.left<vl e 1 then .error 4 else
    .ok (av (cj r k { x with left:=wrap (x.left-vl e 1) }) i { u with uses:=jT wrap u.uses x.name (vl e 1) })
def qD (r:ju)(i:Nat)(u:aW)(e:ek):qA:=match zp r (nm e 1)with
 |none=>.error 10
 |some k=>match r.units[k]? with
  |none=>.error 10
  |some v=>if i=k then .error 9 else if u.product≠v.product∨u.version≠v.version then .error 30 else if u.shipped∨v.shipped then .error 21 else
   if u.partner≠[]∨v.partner≠[]then .error 35 else .ok (av (av r i { u with partner:=v.name }) k { v with partner:=u.name })
def lF (wrap:Int→Int)(r:ju)(e:ek):qA:=match zp r (nm e 0)with
 |none=>.error 10
 |some i=>match r.units[i]? with
  |none=>.error 10
  |some u=>
   if e.kind=mS then qC wrap r i u e
   else if e.kind=nO then qD r i u e
   else if e.kind=pg then
    (if u.shipped then .error 21 else if !((ky r u).any fun d=>d.az.any (eP (nm e 1)))then .error 7 else if 64≤u.results.length then .error 5 else
     .ok (av r i { u with results:=u.results++[⟨nm e 1,u.version,vl e 1⟩] }))
   else if e.kind=pX then
    (if u.shipped then .error 21 else match nQ r u with
     |none=>.error 32
     |some v=>if u.version=v then .error 32 else .ok (av r i { u with version:=v }))
   else if e.kind=kw then(if lE wrap r u≠0 then .error (lE wrap r u)else .ok (av r i { u with shipped:=true }))
   else(if !u.shipped then .error 20 else .ok (av r i { u with ai:=wrap (u.ai+1) }))
def apply (wrap:Int→Int)(r:ju)(e:ek):qA:=
 if e.kind=kH∨e.kind=nL∨e.kind=mR then l6 r e
 else if e.kind=mQ∨e.kind=nM∨e.kind=pW then ku r e
 else if e.kind=oB∨e.kind=rX then pk r e
 else lF wrap r e
def after (wrap:Int→Int)(r:ju)(e:ek):qA:=if vl e 0<r.day then .error 20 else match apply wrap r e with
 | .error x=>.error x
 | .ok r'=>.ok { r' with day:=vl e 0 }
structure WF (r:ju):Prop where
 aK:∀p∈r.ae,zz (·.k) p.bU.aK∧p.bU.aK.length≤16
 az:∀p∈r.ae,zz (·.k) p.bU.az∧p.bU.az.length≤16
 ep:∀u∈r.units,(ky r u).isSome
 uses:∀u∈r.units,zz (·.k) u.uses∧∀x∈u.uses,(zt r x.k).isSome
theorem WF.empty (d:Int):WF ⟨d,[],[],[]⟩:=⟨by simp,by simp,by simp,by simp⟩
theorem findIdx?_append {α:Type}{p:α→Bool}{l m:List α}{k:Nat}(h:l.findIdx? p=Gw k):(l++m).findIdx? p=Gw k:=by
 rw[List.findIdx?_append,h];rfl
theorem gF {α:Type}{p:α→Bool}{l:List α}{i:Nat}{x y:α}(hy:l[i]?=Gw y)(KP:p x=p y):(l.set i x).findIdx? p=l.findIdx? p:=by
 induction l generalizing i with
 |nil=>rfl
 |cons z l ih=>
  cases i with
  |zero=>
   simp at hy;subst hy
   rw[List.set_cons_zero,Gt,Gt,KP]
  |succ i=>
   rw[List.set_cons_succ,Gt,Gt,ih (by simpa using hy)]
theorem qmj {r r':ju}{u:aW}(h:∀n p,ko r n=Gw p→∃p',ko r' n=Gw p'∧∃m,p'.aM=p.aM++m)(hp:(ky r u).isSome):(ky r' u).isSome:=by
 unfold ky at *
 cases hq:ko r u.product with
 |none=>rw[hq]at hp;simp at hp
 |some p=>
  rw[hq]at hp
  obtain⟨p',h1,m,h2⟩:=h _ _ hq
  rw[h1]
  simp only[Gy,B8]at hp ⊢
  split at hp
  ·rename_i hv
   rw[if_pos hv,h2]
   have br:=(I.1 (He hp).symm).1
   rw[Gq br];exact hp
  ·simp at hp
theorem q66 {r r':ju}(h:r'.ae=r.ae)(n:Str):ko r' n=ko r n:=by unfold ko z6;rw[h]
theorem jdj {r r':ju}(h:r'.ae=r.ae)(u:aW):ky r' u=ky r u:=by unfold ky;rw[q66 h]
theorem Dn {r r':ju}{u:aW}(hp:(ky r u).isSome)(h:r'.ae=r.ae:=by rfl):(ky r' u).isSome:=by rw[jdj h];exact hp
theorem jcb {r:ju}{i:Nat}{p p':lj}(hp:r.ae[i]?=Gw p)(hn:p'.name=p.name)(hd:∃m,p'.aM=p.aM++m)(n:Str)(q:lj)(hq:ko r n=Gw q):∃q',ko (bK r i p') n=Gw q'∧∃m,q'.aM=q.aM++m:=by
 unfold ko z6 at *
 simp only[bK]
 rw[gF hp (by simp[hn])]
 cases hk:r.ae.findIdx? (fun x=>decide (x.name=n))with
 |none=>rw[hk]at hq;simp at hq
 |some k=>
  rw[hk]at hq
  simp only[Gy]at hq ⊢
  have br:=(I.1 hp).1
  by_cases BN:k=i
  ·subst BN
   rw[hp]at hq;cases hq
   exact⟨p',by rw[Gp br],hd⟩
  ·exact⟨q,by rw[Gn (G2 BN)];exact hq,[],by simp⟩
theorem xh {α:Type}{l:List α}{i:Nat}{x y:α}(h:y∈l.set i x):y∈l∨y=x:=List.mem_or_eq_of_mem_set h
theorem q4h {wrap:Int→Int}{l:List bq}{k:Str}{n:Int}(h:zz (·.k) l):zz (·.k) (jT wrap l k n):=by
 unfold jT
 cases hi:l.findIdx? (di k)with
 |none=>
  have:=Rh (key:=fun x:bq=>x.k) (k:=k) (x:=⟨k,n⟩) rfl h
  unfold kg at this
  rw[show l.findIdx? (fun y=>decide (y.k=k))=none from hi]at this
  exact this
 |some i=>
  obtain⟨x,h1,_⟩:=bg hi
  simp only[h1]
  exact q0x rfl h hi
theorem q98 {wrap:Int→Int}{l:List bq}{k:Str}{n:Int}{x:bq}(h:x∈jT wrap l k n):x.k=k∨x∈l:=by
 unfold jT at h
 split at h
 ·split at h
  ·rcases xh h with h|rfl
   ·exact .inr h
   ·exact .inl rfl
  ·exact .inr h
 ·rcases Gs.1 h with h|h
  ·exact .inr h
  ·simp at h;subst h;exact .inl rfl
theorem q0g {r:ju}{i:Nat}{x y:jd}(hx:r.lots[i]?=Gw x)(hn:y.name=x.name)(n:Str):zt (cj r i y) n=zt r n:=by
 unfold zt cj;exact gF hx (by simp[hn])
theorem WF.av {r:ju}(w:WF r){i:Nat}{u u':aW}(hu:r.units[i]?=Gw u)(hp:(ky r u').isSome)(hk:zz (·.k) u'.uses∧∀x∈u'.uses,(zt r x.k).isSome):WF (av r i u'):=by
 refine⟨w.aK,w.az,?_,?_⟩
 ·intro v hv
  refine Dn (r:=r) ?_
  rcases xh hv with hv|rfl
  ·exact w.ep v hv
  ·exact hp
 ·intro v hv
  rcases xh hv with hv|rfl
  ·exact w.uses v hv
  ·exact hk
theorem WF.cj {r:ju}(w:WF r){i:Nat}{x y:jd}(hx:r.lots[i]?=Gw x)(hn:y.name=x.name):WF (cj r i y):=
 ⟨w.aK,w.az,fun u hu=>Dn (w.ep u hu),fun u hu=>⟨(w.uses u hu).1,fun z hz=>by rw[q0g hx hn];exact(w.uses u hu).2 z hz⟩⟩
theorem WF.bK {r:ju}(w:WF r){i:Nat}{p p':lj}(hp:r.ae[i]?=Gw p)(hn:p'.name=p.name)(hd:∃m,p'.aM=p.aM++m)(h1:zz (·.k) p'.bU.aK∧p'.bU.aK.length≤16)(h2:zz (·.k) p'.bU.az∧p'.bU.az.length≤16):WF (bK r i p'):=by
 refine⟨?_,?_,?_,?_⟩
 ·intro q hq
  rcases xh hq with hq|rfl
  ·exact w.aK q hq
  ·exact h1
 ·intro q hq
  rcases xh hq with hq|rfl
  ·exact w.az q hq
  ·exact h2
 ·intro u hu
  exact qmj (fun n q hq=>jcb hp hn hd n q hq) (w.ep u hu)
 ·exact w.uses
theorem qvp {α:Type}{p:α→Bool}{x:α}{l:List α}(h:l.length≤16)(h2:¬(!(l.any p)∧16≤l.length)):(kg p x l).length≤16:=by
 unfold kg
 cases hi:l.findIdx? p with
 |some i=>simpa using h
 |none=>
  have:l.any p=false:=by rw[Fj,hi];rfl
  simp[this]at h2
  simp;omega
theorem jcq {l:List bq}{k:Str}{n:Int}(h:zz (·.k) l∧l.length≤16)(h0:0≤n)(h2:¬(0<n∧!(l.any (di k))∧16≤l.length)):zz (·.k) (k9 l k n)∧(k9 l k n).length≤16:=by
 unfold k9
 by_cases hn:n=0
 ·rw[if_pos hn]
  exact⟨q3z _ h.1,Nat.le_trans (List.length_filter_le _ _) h.2⟩
 ·rw[if_neg hn]
  refine⟨Rh (key:=fun x:bq=>x.k) rfl h.1,qvp h.2 fun hh=>h2 ⟨by omega,hh.1,hh.2⟩⟩
theorem jmk {wrap:Int→Int}{r r':ju}{e:ek}(w:WF r)(h:after wrap r e=.ok r'):WF r':=by
 unfold after at h
 split at h
 ·cases h
 split at h
 ·cases h
 rename_i r1 ha
 cases h
 suffices hw:WF r1 from⟨hw.aK,hw.az,fun u hu=>Dn (hw.ep u hu),hw.uses⟩
 unfold apply at ha
 split at ha
 ·-- a new thing
  unfold l6 at ha
  split at ha
  ·repeat' split at ha
   all_goals first|(cases ha;done)|skip
   cases ha
   exact⟨w.aK,w.az,fun u hu=>Dn (w.ep u hu),fun u hu=>⟨(w.uses u hu).1,fun x hx=>by
    have:=(w.uses u hu).2 x hx
    unfold zt at *
    obtain⟨k,hk⟩:=Option.isSome_iff_exists.1 this
    rw[findIdx?_append hk];rfl⟩⟩
  split at ha
  ·repeat' split at ha
   all_goals first|(cases ha;done)|skip
   cases ha
   refine⟨?_,?_,?_,w.uses⟩
   ·intro p hp
    rcases Gs.1 hp with hp|hp
    ·exact w.aK p hp
    ·simp at hp;subst hp;exact⟨by simp[zz],by simp⟩
   ·intro p hp
    rcases Gs.1 hp with hp|hp
    ·exact w.az p hp
    ·simp at hp;subst hp;exact⟨by simp[zz],by simp⟩
   ·intro u hu
    refine qmj (fun n p hp=>⟨p,?_,[],by simp⟩) (w.ep u hu)
    unfold ko z6 at *
    cases hk:r.ae.findIdx? (fun x=>decide (x.name=n))with
    |none=>rw[hk]at hp;simp at hp
    |some k=>
     rw[hk]at hp
     rw[findIdx?_append hk]
     simp only[Gy]at hp ⊢
     rw[Gq (I.1 hp).1];exact hp
  ·split at ha
   ·cases ha
   rename_i p hp
   repeat' split at ha
   all_goals first|(cases ha;done)|skip
   rename_i bB _
   cases ha
   refine⟨w.aK,w.az,?_,?_⟩
   ·intro u hu
    refine Dn (r:=r) ?_
    rcases Gs.1 hu with hu|hu
    ·exact w.ep u hu
    ·simp at hu;subst hu
     unfold ky
     simp only[hp,Gy,B8]
     have:0<p.aM.length:=by
      cases hd:p.aM with
      |nil=>rw[hd]at bB;simp at bB
      |cons _ _=>simp
     rw[if_pos (by omega),En (by omega)];rfl
   ·intro u hu
    rcases Gs.1 hu with hu|hu
    ·exact w.uses u hu
    ·simp at hu;subst hu;exact⟨by simp[zz],by simp⟩
 split at ha
 ·-- a product
  unfold ku at ha
  split at ha
  ·cases ha
  split at ha
  ·cases ha
  rename_i i hi p hp
  have cR:=Ey hp
  split at ha
  ·repeat' split at ha
   all_goals first|(cases ha;done)|skip
   rename_i hr h2
   cases ha
   exact w.bK hp rfl ⟨[],by simp⟩ (jcq (w.aK p cR) (by omega) h2) (w.az p cR)
  split at ha
  ·repeat' split at ha
   all_goals first|(cases ha;done)|skip
   rename_i hr h2
   cases ha
   exact w.bK hp rfl ⟨[],by simp⟩ (w.aK p cR) ⟨Rh (key:=fun x:je=>x.k) rfl (w.az p cR).1,qvp (w.az p cR).2 h2⟩
  ·repeat' split at ha
   all_goals first|(cases ha;done)|skip
   cases ha
   exact w.bK hp rfl ⟨_,rfl⟩ (w.aK p cR) (w.az p cR)
 split at ha
 ·-- a lot
  unfold pk at ha
  split at ha
  ·cases ha
  split at ha
  ·cases ha
  rename_i i hi x hx
  repeat' split at ha
  all_goals first|(cases ha;done)|(cases ha;exact w.cj hx rfl)
 ·-- a unit
  unfold lF at ha
  split at ha
  ·cases ha
  split at ha
  ·cases ha
  rename_i i hi u hu
  have cR:=Ey hu
  have uW:=w.ep u cR
  split at ha
  ·unfold qC at ha
   split at ha
   ·cases ha
   split at ha
   ·cases ha
   rename_i _ k hk _ x hx
   repeat' split at ha
   all_goals first|(cases ha;done)|skip
   cases ha
   refine(w.cj (y:={ x with left:=wrap (x.left-vl e 1) }) hx rfl).av (u':={ u with uses:=jT wrap u.uses x.name (vl e 1) }) hu (Dn (r:=r) uW) ⟨q4h (w.uses u cR).1,fun z hz=>?_⟩
   rw[q0g (y:={ x with left:=wrap (x.left-vl e 1) }) hx rfl]
   rcases q98 hz with hz|hz
   ·obtain⟨y,h1,h2,_⟩:=bg hk
    rw[hx]at h1;cases h1
    simp at h2
    rw[hz,h2,hk];rfl
   ·exact(w.uses u cR).2 z hz
  split at ha
  ·unfold qD at ha
   split at ha
   ·cases ha
   split at ha
   ·cases ha
   rename_i k hk v hv
   have Dp:=Ey hv
   split at ha
   ·cases ha
   rename_i rR
   repeat' split at ha
   all_goals first|(cases ha;done)|skip
   cases ha
   exact(w.av (u':={ u with partner:=v.name }) hu uW (w.uses u cR)).av (u':={ v with partner:=u.name }) (by simp only[av];rw[Gn rR];exact hv) (Dn (r:=r) (w.ep v Dp)) (w.uses v Dp)
  split at ha
  ·repeat' split at ha
   all_goals first|(cases ha;done)|skip
   cases ha
   exact w.av hu uW (w.uses u cR)
  split at ha
  ·split at ha
   ·cases ha
   split at ha
   ·cases ha
   rename_i v hv
   split at ha
   ·cases ha
   cases ha
   refine w.av hu ?_ (w.uses u cR)
   unfold ky nQ at *
   cases hq:ko r u.product with
   |none=>rw[hq]at hv;simp at hv
   |some p=>
    rw[hq]at hv uW
    simp only[Option.map_some,Gw.injEq,Gy]at hv uW ⊢
    subst hv
    unfold B8 at uW ⊢
    split at uW
    ·have br:=(I.1 (He uW).symm).1
     rw[if_pos (by omega),En (by omega)];rfl
    ·simp at uW
  split at ha
  ·split at ha
   ·cases ha
   cases ha
   exact w.av hu uW (w.uses u cR)
  ·split at ha
   ·cases ha
   cases ha
   exact w.av hu uW (w.uses u cR)
end Go.W
namespace Go.W
def dB:List (Str×Nat×Nat):=[(kH,2,2),(nL,1,1),(mQ,2,2),(nM,2,3),(pW,1,1),(mR,2,1),(mS,2,2),(pg,2,2),(pX,1,1),(nO,2,1),(oB,1,1),(rX,1,1),(kw,1,1),(zQ,1,1),(mT,0,0)]
def yt (k:Str):Option (Nat×Nat):=(dB.find? fun x=>decide (x.1=k)).map (·.2)
def vY (c:UInt8):Bool:=(decide (65≤c.toNat)&&decide (c.toNat≤90))||(decide (97≤c.toNat)&&decide (c.toNat≤122))
def FA (c:UInt8):Bool:=(decide (48≤c.toNat)&&decide (c.toNat≤57))||decide (c.toNat=95)
def cG (s:Str):Bool:=match s with
 | []=>false
 |c::t=>vY c&&t.all (fun c=>vY c||FA c)&&decide (s.length≤24)
def zf (e:ek):Int:=
 if e.number<1∨1000<e.number then 3 else match yt e.kind with
 |none=>13
 |some f=>if e.names.length≠f.1∨e.values.length≠f.2 then 2 else if !(e.names.all cG)then 8 else if !(e.values.all fun n=>decide (0≤n)&&decide (n≤999999999))then 3 else if e.text≠[]then 1 else 0
abbrev kl:=List ek×List ju
def mb:ju:=⟨0,[],[],[]⟩
def now (h:kl):ju:=h.2.getLast?.getD mb
def accept (wrap:Int→Int)(h:kl)(k:Int)(e:ek):Except Int kl:=
 if e.number≠k then .error 11 else
 if e.kind=mT then(match h.1.getLast? with
  |none=>.error 12
  |some c=>if c.kind=kw then .error 19 else .ok (h.1.dropLast,h.2.dropLast))
 else match after wrap (now h) e with
  | .error x=>.error x
  | .ok r=>.ok (h.1++[e],h.2++[r])
def yp (wrap:Int→Int):Nat→kl→List ek→Except (Int×Int) kl
 |_,h,[]=>.ok h
 |i,h,e::l=>if zf e≠0 then .error ((i:Int)+1,zf e)else match accept wrap h ((i:Int)+1) e with
  | .error x=>.error ((i:Int)+1,x)
  | .ok h'=>yp wrap (i+1) h' l
def run (wrap:Int→Int)(l:List ek):Except (Int×Int) kl:=if 1000<l.length then .error (0,5)else yp wrap 0 ([],[mb]) l
theorem ZF (wrap:Int→Int):∀(l m:List ek) (i:Nat) (h:kl),yp wrap i h (l++m)=match yp wrap i h l with
  | .error x=>.error x
  | .ok h'=>yp wrap (i+l.length) h' m
 | [],m,i,h=>by simp[yp]
 |e::l,m,i,h=>by
  simp only[List.cons_append,yp]
  split
  ·rfl
  cases accept wrap h ((i:Int)+1) e with
  |error x=>rfl
  |ok h'=>simp only[];rw[ZF wrap l m (i+1) h',Ha,show i+1+l.length=i+(l.length+1) by omega]
structure eH (wrap:Int→Int)(h:kl):Prop where
 len:h.2.length=h.1.length+1
 first:h.2[0]?=Gw mb
 next:∀j e r,h.1[j]?=Gw e→h.2[j]?=Gw r→∃r',h.2[j+1]?=Gw r'∧after wrap r e=.ok r'
 kinds:∀e∈h.1,zf e=0∧e.kind≠mT
theorem eH.empty {wrap:Int→Int}:eH wrap ([],[mb]):=⟨rfl,rfl,fun j e r h=>by simp at h,by simp⟩
theorem eH.now {wrap:Int→Int}{h:kl}(k:eH wrap h):h.2[h.1.length]?=Gw (Go.W.now h):=by
 unfold Go.W.now
 have hl:=k.len
 rw[List.getLast?_eq_getElem?,hl]
 have:h.1.length<h.2.length:=by omega
 simp[En this]
theorem eH.accept {wrap:Int→Int}{h h':kl}{k:Int}{e:ek}(o:eH wrap h)(hc:zf e=0)(ha:accept wrap h k e=.ok h'):eH wrap h':=by
 unfold Go.W.accept at ha
 split at ha
 ·cases ha
 split at ha
 ·split at ha
  ·cases ha
  ·rename_i c hc
   split at ha
   ·cases ha
   cases ha
   have gR:0<h.1.length:=by
    cases hh:h.1 with
    |nil=>rw[hh]at hc;simp at hc
    |cons _ _=>simp
   have hl:=o.len
   refine⟨by simp only[List.length_dropLast];omega,?_,?_,?_⟩
   ·rw[G6,if_pos (by omega)];exact o.first
   ·intro j e' r h1 h2
    simp only[G6]at h1 h2 ⊢
    split at h1
    ·rename_i hj
     rw[if_pos (by omega)]at h2
     rw[if_pos (by omega)]
     exact o.next j e' r h1 h2
    ·cases h1
   ·intro e' he
    exact o.kinds e' (List.mem_of_mem_take (by rwa [List.dropLast_eq_take]at he))
 ·rename_i hnu
  split at ha
  ·cases ha
  ·rename_i r hr
   cases ha
   have hl:=o.len
   refine⟨by simp only[List.length_append,Ha,List.length_nil];omega,?_,?_,?_⟩
   ·rw[Gq (by omega)];exact o.first
   ·intro j e' q h1 h2
    by_cases hj:j<h.1.length
    ·rw[Gq hj]at h1
     rw[Gq (by omega)]at h2
     obtain⟨r',k1,k2⟩:=o.next j e' q h1 h2
     exact⟨r',by rw[Gq (by have:=(I.1 k1).1;omega)];exact k1,k2⟩
    ·have hj':j=h.1.length:=by have:=(I.1 h1).1;simp at this;omega
     subst hj'
     rw[G1 (Nat.le_refl _)]at h1
     simp at h1;subst h1
     rw[Gq (by omega),o.now]at h2
     cases h2
     exact⟨r,by rw[G1 (by omega)];simp[hl],hr⟩
   ·intro e' he
    rcases Gs.1 he with he|he
    ·exact o.kinds e' he
    ·simp at he;subst he;exact⟨hc,hnu⟩
theorem qxe {wrap:Int→Int}:∀ {l:List ek} {i:Nat} {h h':kl},eH wrap h→yp wrap i h l=.ok h'→eH wrap h'
 | [],i,h,h',o,hr=>by simp only[yp]at hr;cases hr;exact o
 |e::l,i,h,h',o,hr=>by
  simp only[yp]at hr
  split at hr
  ·cases hr
  rename_i hc
  split at hr
  ·cases hr
  ·rename_i h1 ha
   exact qxe (o.accept (by simpa using hc) ha) hr
theorem js2 {wrap:Int→Int}{l:List ek}{h:kl}(hr:run wrap l=.ok h):eH wrap h:=by
 unfold run at hr
 split at hr
 ·cases hr
 ·exact qxe eH.empty hr
theorem eH.wf {wrap:Int→Int}{h:kl}(o:eH wrap h):∀(j:Nat) (r:ju),h.2[j]?=Gw r→WF r
 |0,r,hr=>by rw[o.first]at hr;cases hr;exact WF.empty 0
 |j+1,r,hr=>by
  have br:=(I.1 hr).1
  have hl:=o.len
  have h1:j<h.1.length:=by omega
  obtain⟨r',k1,k2⟩:=o.next j _ _ (En h1) (En (by omega:j<h.2.length))
  rw[k1]at hr;cases hr
  exact jmk (eH.wf o j _ (En (by omega))) k2
theorem eH.su {wrap:Int→Int}{h:kl}(o:eH wrap h):WF (Go.W.now h):=o.wf _ _ o.now
end Go.W
namespace Go.W
structure eX (r:ju):Prop where
 units:zz (·.name) r.units
 named:∀u∈r.units,u.name≠[]
 gG:∀u∈r.units,u.partner≠[]→∃v∈r.units,v.name=u.partner∧v.partner=u.name
 lots:zz (·.name) r.lots
 fQ:zz (·.name) r.ae
 kinds:∀u∈r.units,∀v∈r.units,v.name=u.partner→v.product=u.product
theorem eX.empty (d:Int):eX ⟨d,[],[],[]⟩:=⟨by simp[zz],by simp,by simp,by simp[zz],by simp[zz],by simp⟩
theorem ZG {α β:Type}[DecidableEq β]{key:α→β}{l:List α}{x:α}(h:zz key l)(hn:l.findIdx? (fun y=>decide (key y=key x))=none):zz key (l++[x]):=by
 have:=Rh (x:=x) rfl h
 unfold kg at this
 rw[hn]at this
 exact this
theorem q6d {α β:Type}{key:α→β}{l:List α}{i:Nat}{x y:α}(hy:l[i]?=Gw y)(hk:key x=key y):(l.set i x).map key=l.map key:=by
 rw[Hj]
 apply G9
 intro j
 by_cases hj:j=i
 ·subst hj
  have br:=(I.1 hy).1
  rw[Gp (by simpa using br),Gv,hy,hk];rfl
 ·rw[Gn (G2 hj)]
theorem FT {α β:Type}{key:α→β}{l:List α}{i:Nat}{x y:α}(h:zz key l)(hy:l[i]?=Gw y)(hk:key x=key y):zz key (l.set i x):=by
 unfold zz at *;rw[q6d hy hk];exact h
theorem eX.av {r:ju}(w:eX r){i:Nat}{u u':aW}(hu:r.units[i]?=Gw u)(h1:u'.name=u.name)(h2:u'.partner=u.partner)(h3:u'.product=u.product):eX (av r i u'):=by
 have hm:=Ey hu
 have br:=(I.1 hu).1
 -- each unit of the new list stands for one of the old with the same name,partner and product
 have old:∀v∈(Go.W.av r i u').units,∃v0∈r.units,v0.name=v.name∧v0.partner=v.partner∧v0.product=v.product:=by
  intro v hv
  rcases xh hv with hv|rfl
  ·exact⟨v,hv,rfl,rfl,rfl⟩
  ·exact⟨u,hm,h1.symm,h2.symm,h3.symm⟩
 have new:∀v∈r.units,∃v1∈(Go.W.av r i u').units,v1.name=v.name∧v1.partner=v.partner:=by
  intro v hv
  obtain⟨j,hj⟩:=Gz hv
  by_cases pM:j=i
  ·subst pM
   rw[hu]at hj;cases hj
   exact⟨u',Ey (i:=j) (by simp only[Go.W.av];rw[Gp br]),h1,h2⟩
  ·exact⟨v,Ey (i:=j) (by simp only[Go.W.av];rw[Gn (G2 pM)];exact hj),rfl,rfl⟩
 refine⟨FT w.units hu h1,?_,?_,w.lots,w.fQ,?_⟩
 ·intro v hv
  obtain⟨v0,k0,k1,_⟩:=old v hv
  rw[←k1];exact w.named v0 k0
 ·intro v hv hp
  obtain⟨v0,k0,k1,k2,_⟩:=old v hv
  obtain⟨z,z0,z1,z2⟩:=w.gG v0 k0 (by rw[k2];exact hp)
  obtain⟨z',y0,y1,y2⟩:=new z z0
  exact⟨z',y0,by rw[y1,z1,k2],by rw[y2,z2,k1]⟩
 ·intro v hv z hz hn
  obtain⟨v0,k0,k1,k2,k3⟩:=old v hv
  obtain⟨z0,j0,j1,j2,KQ⟩:=old z hz
  rw[←KQ,←k3]
  exact w.kinds v0 k0 z0 j0 (by rw[j1,k2];exact hn)
theorem eX.gH {r:ju}(w:eX r){ls:List jd}(h:zz (·.name) ls):eX { r with lots:=ls }:=⟨w.units,w.named,w.gG,h,w.fQ,w.kinds⟩
theorem eX.gY {r:ju}(w:eX r){ps:List lj}(h:zz (·.name) ps):eX { r with ae:=ps }:=⟨w.units,w.named,w.gG,w.lots,h,w.kinds⟩
theorem Ap {α β:Type}{key:α→β}{l:List α}(h:zz key l){x y:α}(hx:x∈l)(hy:y∈l)(he:key x=key y):x=y:=by
 induction l with
 |nil=>cases hx
 |cons z l ih=>
  have hn:=Hd.1 (by simpa[zz]using h:(key z::l.map key).Nodup)
  rcases G7.1 hx with rfl|eR
  ·rcases G7.1 hy with rfl|rh
   ·rfl
   ·exact absurd (by rw[he];exact G0 rh) hn.1
  ·rcases G7.1 hy with rfl|rh
   ·exact absurd (by rw[←he];exact G0 eR) hn.1
   ·exact ih hn.2 eR rh
theorem jft {wrap:Int→Int}{r r':ju}{e:ek}(w:eX r)(hc:e.names.all (fun s=>!s.isEmpty)=true)(hb:e.kind=mR→0<e.names.length)(h:after wrap r e=.ok r'):eX r':=by
 unfold after at h
 split at h
 ·cases h
 split at h
 ·cases h
 rename_i r1 ha
 cases h
 suffices hw:eX r1 from⟨hw.units,hw.named,hw.gG,hw.lots,hw.fQ,hw.kinds⟩
 unfold apply at ha
 split at ha
 ·rename_i hk3
  unfold l6 at ha
  split at ha
  ·repeat' split at ha
   all_goals first|(cases ha;done)|skip
   rename_i hn _ _
   cases ha
   refine w.gH (ZG w.lots ?_)
   simpa[zt]using hn
  split at ha
  ·repeat' split at ha
   all_goals first|(cases ha;done)|skip
   rename_i hn _
   cases ha
   refine w.gY (ZG w.fQ ?_)
   simpa[z6]using hn
  ·rename_i gp dz
   have kT:e.kind=mR:=by rcases hk3 with h|h|h<;>first|exact absurd h gp|exact absurd h dz|exact h
   split at ha
   ·cases ha
   rename_i p hp
   repeat' split at ha
   all_goals first|(cases ha;done)|skip
   rename_i hn _ _
   cases ha
   have jE:r.units.findIdx? (fun x=>decide (x.name=nm e 0))=none:=by simpa[zp]using hn
   have dw:∀v∈r.units,v.name≠nm e 0:=fun v hv=>by
    have:=(dk.1 jE) v hv
    simpa using this
   have bB:nm e 0≠[]:=by
    have hl:=hb kT
    unfold nm
    rw[En hl]
    have:=Hb.1 hc _ (Hc hl)
    simpa using this
   refine⟨ZG w.units jE,?_,?_,w.lots,w.fQ,?_⟩
   ·intro v hv
    rcases Gs.1 hv with hv|hv
    ·exact w.named v hv
    ·simp at hv;subst hv;exact bB
   ·intro v hv eE
    rcases Gs.1 hv with hv|hv
    ·obtain⟨z,z0,z1⟩:=w.gG v hv eE
     exact⟨z,List.mem_append_left _ z0,z1⟩
    ·simp at hv;subst hv;simp at eE
   ·intro v hv z hz FU
    rcases Gs.1 hv with hv|hv
    ·rcases Gs.1 hz with hz|hz
     ·exact w.kinds v hv z hz FU
     ·simp at hz;subst hz
      -- the partner of an older unit is an older unit
      by_cases Ac:v.partner=[]
      ·rw[Ac]at FU;exact absurd FU bB
      ·obtain⟨y,y0,y1,_⟩:=w.gG v hv Ac
       exact absurd (by rw[y1,←FU]) (dw y y0)
    ·simp at hv;subst hv
     simp only at FU
     rcases Gs.1 hz with hz|hz
     ·exact absurd FU (w.named z hz)
     ·simp at hz;subst hz;rfl
 split at ha
 ·unfold ku at ha
  split at ha
  ·cases ha
  split at ha
  ·cases ha
  rename_i _ i hi _ p hp
  have key:∀p':lj,p'.name=p.name→eX (bK r i p'):=fun p' hn=>w.gY (FT w.fQ hp hn)
  repeat' split at ha
  all_goals first|(cases ha;done)|(cases ha;exact key _ rfl)
 split at ha
 ·unfold pk at ha
  split at ha
  ·cases ha
  split at ha
  ·cases ha
  rename_i _ i hi _ x hx
  have key:∀x':jd,x'.name=x.name→eX (cj r i x'):=fun x' hn=>w.gH (FT w.lots hx hn)
  repeat' split at ha
  all_goals first|(cases ha;done)|(cases ha;exact key _ rfl)
 ·unfold lF at ha
  split at ha
  ·cases ha
  split at ha
  ·cases ha
  rename_i _ i hi _ u hu
  have hm:=Ey hu
  have key:∀u':aW,u'.name=u.name→u'.partner=u.partner→u'.product=u.product→eX (av r i u'):=fun u' k1 k2 k3=>w.av hu k1 k2 k3
  split at ha
  ·unfold qC at ha
   split at ha
   ·cases ha
   split at ha
   ·cases ha
   rename_i _ k hk _ x hx
   repeat' split at ha
   all_goals first|(cases ha;done)|skip
   cases ha
   exact eX.av (r:=cj r k { x with left:=wrap (x.left-vl e 1) }) (u':={ u with uses:=jT wrap u.uses x.name (vl e 1) }) (w.gH (FT (x:={ x with left:=wrap (x.left-vl e 1) }) w.lots hx rfl)) hu rfl rfl rfl
  split at ha
  ·unfold qD at ha
   split at ha
   ·cases ha
   split at ha
   ·cases ha
   rename_i _ k hk _ v hv
   split at ha
   ·cases ha
   rename_i rR
   split at ha
   ·cases ha
   rename_i qU
   split at ha
   ·cases ha
   split at ha
   ·cases ha
   rename_i hnp
   cases ha
   have Dp:=Ey hv
   have hup:u.partner=[]:=by by_cases h:u.partner=[]<;>simp_all
   have hvp:v.partner=[]:=by by_cases h:v.partner=[]<;>simp_all
   have AE:u.product=v.product:=by by_cases h:u.product=v.product<;>simp_all
   have ZH:=(I.1 hu).1
   have hkv:=(I.1 hv).1
   have mI:(r.units.set i { u with partner:=v.name })[k]?=Gw v:=by rw[Gn rR];exact hv
   have huv:u.name≠v.name:=fun he=>by
    have:=Ap w.units hm Dp he
    subst this
    -- the same unit at two places
    have qZ:(r.units.map (·.name)).Nodup:=w.units
    have h1:(r.units.map (·.name))[i]?=Gw u.name:=by rw[Gv,hu];rfl
    have h2:(r.units.map (·.name))[k]?=Gw u.name:=by rw[Gv,hv];rfl
    have:=(G5 (by simpa using ZH) qZ).1 (h1.trans h2.symm)
    exact rR this
   -- the units of the new list: the two,and the old ones but for them
   have mem:∀z∈(av (av r i { u with partner:=v.name }) k { v with partner:=u.name }).units,z={ u with partner:=v.name }∨z={ v with partner:=u.name }∨(z∈r.units∧z.name≠u.name∧z.name≠v.name):=by
    intro z hz
    obtain⟨j,hj⟩:=Gz hz
    simp only[av]at hj
    by_cases ZI:j=k
    ·subst ZI
     rw[Gp (by simpa using hkv)]at hj
     cases hj;exact .inr (.inl rfl)
    rw[Gn (G2 ZI)]at hj
    by_cases pM:j=i
    ·subst pM
     rw[Gp ZH]at hj
     cases hj;exact .inl rfl
    rw[Gn (G2 pM)]at hj
    have EG:=(I.1 hj).1
    have qZ:(r.units.map (·.name)).Nodup:=w.units
    have pR:(r.units.map (·.name))[j]?=Gw z.name:=by rw[Gv,hj];rfl
    refine .inr (.inr ⟨Ey hj,fun he=>pM ?_,fun he=>ZI ?_⟩)
    ·have h1:(r.units.map (·.name))[i]?=Gw u.name:=by rw[Gv,hu];rfl
     exact(G5 (by simpa using EG) qZ).1 (pR.trans (by rw[he];exact h1.symm))
    ·have h1:(r.units.map (·.name))[k]?=Gw v.name:=by rw[Gv,hv];rfl
     exact(G5 (by simpa using EG) qZ).1 (pR.trans (by rw[he];exact h1.symm))
   have inU:({ u with partner:=v.name }:aW)∈(av (av r i { u with partner:=v.name }) k { v with partner:=u.name }).units:=Ey (i:=i) (by simp only[av];rw[Gn (G2 rR),Gp ZH])
   have inV:({ v with partner:=u.name }:aW)∈(av (av r i { u with partner:=v.name }) k { v with partner:=u.name }).units:=Ey (i:=k) (by simp only[av];rw[Gp (by simpa using hkv)])
   have inZ:∀z∈r.units,z.name≠u.name→z.name≠v.name→z∈(av (av r i { u with partner:=v.name }) k { v with partner:=u.name }).units:=by
    intro z hz h1 h2
    obtain⟨j,hj⟩:=Gz hz
    refine Ey (i:=j) ?_
    simp only[av]
    rw[Gn (fun e=>h2 (by subst e;rw[hv]at hj;cases hj;rfl)),Gn (fun e=>h1 (by subst e;rw[hu]at hj;cases hj;rfl))]
    exact hj
   refine⟨?_,?_,?_,w.lots,w.fQ,?_⟩
   ·exact FT (FT w.units hu rfl) mI rfl
   ·intro z hz
    rcases mem z hz with rfl|rfl|⟨h,_⟩
    ·exact w.named u hm
    ·exact w.named v Dp
    ·exact w.named z h
   ·intro z hz hp
    rcases mem z hz with rfl|rfl|⟨h,h1,h2⟩
    ·exact⟨_,inV,rfl,rfl⟩
    ·exact⟨_,inU,rfl,rfl⟩
    ·obtain⟨y,y0,y1,y2⟩:=w.gG z h hp
     refine⟨y,inZ y y0 (fun e=>?_) (fun e=>?_),y1,y2⟩
     ·have:=Ap w.units y0 hm e
      subst this
      rw[hup]at y2;exact w.named z h y2.symm
     ·have:=Ap w.units y0 Dp e
      subst this
      rw[hvp]at y2;exact w.named z h y2.symm
   ·intro z hz y hy Dq
    rcases mem z hz with rfl|rfl|⟨h,h1,h2⟩
    ·rcases mem y hy with rfl|rfl|⟨k0,k1,k2⟩
     ·exact absurd Dq huv
     ·exact AE.symm
     ·exact absurd Dq k2
    ·rcases mem y hy with rfl|rfl|⟨k0,k1,k2⟩
     ·exact AE
     ·exact absurd Dq (G2 huv)
     ·exact absurd Dq k1
    ·rcases mem y hy with rfl|rfl|⟨k0,k1,k2⟩
     ·exact w.kinds z h u hm Dq
     ·exact w.kinds z h v Dp Dq
     ·exact w.kinds z h y k0 Dq
  repeat' split at ha
  all_goals first|(cases ha;done)|(cases ha;exact key _ rfl rfl rfl)
theorem Js {e:ek}(h:zf e=0):e.names.all (fun s=>!s.isEmpty)=true∧∃f,yt e.kind=Gw f∧e.names.length=f.1∧e.values.length=f.2:=by
 unfold zf at h
 split at h
 ·cases h
 split at h
 ·cases h
 rename_i f hf
 split at h
 ·cases h
 rename_i hl
 split at h
 ·cases h
 rename_i hn
 refine⟨?_,f,hf,by by_cases hh:e.names.length=f.1<;>simp_all,by by_cases hh:e.values.length=f.2<;>simp_all⟩
 have hn:e.names.all cG=true:=by simpa using hn
 rw[Hb]at hn ⊢
 intro s hs
 have:=hn s hs
 cases s with
 |nil=>simp[cG]at this
 |cons c t=>rfl
theorem eH.xj {wrap:Int→Int}{h:kl}(o:eH wrap h):∀(j:Nat) (r:ju),h.2[j]?=Gw r→eX r
 |0,r,hr=>by rw[o.first]at hr;cases hr;exact eX.empty 0
 |j+1,r,hr=>by
  have br:=(I.1 hr).1
  have hl:=o.len
  have h1:j<h.1.length:=by omega
  obtain⟨r',k1,k2⟩:=o.next j _ _ (En h1) (En (by omega:j<h.2.length))
  rw[k1]at hr;cases hr
  obtain⟨c1,f,c2,dj,_⟩:=Js (o.kinds _ (Hc h1)).1
  refine jft (eH.xj o j _ (En (by omega))) c1 (fun hk=>?_) k2
  rw[hk]at c2
  have h2:yt mR=Gw (2,1):=by decide
  rw[h2]at c2
  have:f=(2,1):=(Gw.inj c2).symm
  rw[dj,this];decide
theorem eH.Cy {wrap:Int→Int}{h:kl}(o:eH wrap h):eX (Go.W.now h):=o.xj _ _ o.now
end Go.W
namespace Go.W
def oK (u:aW)(s:Str):Bool:=u.uses.any fun x=>decide (x.k=s)
end Go.W
