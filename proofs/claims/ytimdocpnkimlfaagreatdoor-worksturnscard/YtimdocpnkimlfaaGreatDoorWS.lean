/- The register of chapter 10 in plain lists. -/
set_option linter.unusedVariables false
set_option linter.unusedSimpArgs false
open List renaming getElem?_eq_some_iff→I,getElem?_eq_getElem→En,mem_of_getElem?→Es,getElem?_set_ne→Ga,getElem?_set_self→Gd,mem_append→Gf,getElem?_append_left→Gi,mem_cons_of_mem→Gj,getElem?_map→Gl,mem_or_eq_of_mem_set→Gm,findIdx?_cons→Gn,getElem?_of_mem→Gp,length_append→Gs,mem_cons_self→Gt,length_singleton→Gu,getElem?_cons_zero→Gv,getElem?_cons_succ→Gx,mem_singleton→Gz,getElem?_append_right→G3,getElem_mem→G4,getLast?_eq_getElem?→G5,getElem?_dropLast→Ha,mem_map_of_mem→H9,set_cons_zero→If,set_cons_succ→Jc,getElem?_inj→Je,cons_append→Jf,all_eq_true→Jg,set_getElem_self→Jn,length_dropLast→Jo,mem_cons→Ld,ext_getElem?→Nk,length_cons→Nn,nodup_cons→Qe,map_cons→Qr,map_set→Qw,set_set→Rg
open Option renaming some→Ge,bind_some→G2,some_get→Qn
open Bool renaming false_eq_true→Gy,false→G7,true→Hb,not_true→Qt
open Int renaming le_refl→G6,le_trans→L9
open Ne renaming symm→Jd
open Nat renaming lt_or_ge→Jj,le_trans→Le,le_refl→Np
namespace Go.W
abbrev Str:=List UInt8
structure bn where
 k:Str
 n:Int
 deriving DecidableEq
structure jb where
 k:Str
 a:Int
 b:Int
 deriving DecidableEq
structure jc where
 name:Str
 kind:Str
 count:Int
 left:Int
 held:Bool
 deriving DecidableEq
structure gi where
 aB:List bn
 aA:List jb
 deriving DecidableEq
structure cY where
 name:Str
 bX:gi
 aM:List gi
 deriving DecidableEq
structure br where
 name:Str
 product:Str
 version:Int
 uses:List bn
 results:List jb
 partner:Str
 aq:Bool
 ah:Int
 deriving DecidableEq
structure bj where
 day:Int
 au:List jc
 ae:List cY
 units:List br
 deriving DecidableEq
structure dR where
 number:Int
 kind:Str
 names:List Str
 values:List Int
 text:Str
 deriving DecidableEq
def zm (r:bj)(n:Str):Option Nat:=r.au.findIdx? fun x=>decide (x.name=n)
def zr (r:bj)(n:Str):Option Nat:=r.ae.findIdx? fun x=>decide (x.name=n)
def zp (r:bj)(n:Str):Option Nat:=r.units.findIdx? fun x=>decide (x.name=n)
def k9 (r:bj)(n:Str):Option cY:=(zr r n).bind fun k=>r.ae[k]?
def pM (r:bj)(u:br):Option Int:=(k9 r u.product).map fun p=>(p.aM.length:Int)
def D1 (l:List gi)(v:Int):Option gi:=if 1≤v then l[(v-1).toNat]? else none
def iB (r:bj)(u:br):Option gi:=(k9 r u.product).bind fun p=>D1 p.aM u.version
def ot (r:bj)(n:Str):Option jc:=(zm r n).bind fun k=>r.au[k]?
theorem bQ {α:Type}{p:α→Bool}{l:List α}{k:Nat}(h:l.findIdx? p=Ge k):∃x,l[k]?=Ge x∧p x=Hb∧k<l.length∧∀j x,j<k→l[j]?=Ge x→p x=G7:=by
 induction l generalizing k with
 |nil=>simp at h
 |cons y l ih=>
  rw[Gn]at h
  by_cases hp:p y=Hb
  ·rw[if_pos hp]at h
   cases h
   exact⟨y,rfl,hp,by simp,fun j x hj=>by omega⟩
  ·rw[if_neg hp]at h
   obtain⟨i,hi,rfl⟩:=Option.map_eq_some_iff.1 h
   obtain⟨x,h1,h2,h3,h4⟩:=ih hi
   refine⟨x,by simpa using h1,h2,by simp;omega,fun j z hj hz=>?_⟩
   cases j with
   |zero=>simp at hz;subst hz;simpa using hp
   |succ j=>exact h4 j z (by omega) (by simpa using hz)
theorem fG {α:Type}{p:α→Bool}{l:List α}:l.findIdx? p=none↔∀x∈l,p x=G7:=by
 induction l with
 |nil=>simp
 |cons y l ih=>
  rw[Gn]
  by_cases hp:p y=Hb
  ·rw[if_pos hp];simp[hp]
  ·rw[if_neg hp]
   have eA:p y=G7:=by simpa using hp
   simp[ih,eA]
def ke {α:Type}(same:α→Bool)(x:α)(l:List α):List α:=match l.findIdx? same with
 |some i=>l.set i x
 |none=>l++[x]
def Ea {α:Type}(same:α→Bool)(x:α)(l:List α):List α:=(l.map fun y=>if same y then x else y)++(if l.any same then []else [x])
def zt {α β:Type}(key:α→β)(l:List α):Prop:=(l.map key).Nodup
theorem qt8 {α β:Type}[DecidableEq β]{key:α→β}{k:β}{x:α}:∀ {l:List α},zt key l→(l.map fun y=>if decide (key y=k)then x else y)=(match l.findIdx? (fun y=>decide (key y=k))with|some i=>l.set i x|none=>l)
 | [],_=>rfl
 |y::l,h=>by
  have hn:=Qe.1 (by simpa[zt]using h:(key y::l.map key).Nodup)
  rw[Gn]
  by_cases hy:key y=k
  ·simp only[Qr,hy,decide_true,if_true]
   have:l.map (fun y=>if decide (key y=k)then x else y)=l:=by
    conv=>rhs;rw[←List.map_id l]
    refine List.map_congr_left fun z hz=>?_
    have:key z≠k:=fun e=>hn.1 (by rw[hy,←e];exact H9 hz)
    simp[this]
   rw[this];rfl
  ·have ih:=qt8 (k:=k) (x:=x) (l:=l) hn.2
   simp only[Qr,hy,decide_false,Gy,if_false]
   rw[ih]
   cases l.findIdx? (fun y=>decide (key y=k))with
   |none=>rfl
   |some i=>rfl
theorem D6 {α:Type}{p:α→Bool}{l:List α}:l.any p=(l.findIdx? p).isSome:=by
 induction l with
 |nil=>rfl
 |cons y l ih=>
  rw[Gn,List.any_cons]
  by_cases hp:p y=Hb
  ·rw[if_pos hp,hp];rfl
  ·rw[if_neg hp]
   have:p y=G7:=by simpa using hp
   rw[this,Bool.false_or,ih]
   cases l.findIdx? p<;>rfl
theorem qzf {α β:Type}[DecidableEq β]{key:α→β}{k:β}{x:α}{l:List α}(h:zt key l):Ea (fun y=>decide (key y=k)) x l=ke (fun y=>decide (key y=k)) x l:=by
 unfold Ea ke
 rw[qt8 h,D6]
 cases l.findIdx? (fun y=>decide (key y=k))with
 |none=>simp
 |some i=>simp
theorem qzr {α β:Type}[DecidableEq β]{key:α→β}{k:β}{x:α}(hx:key x=k):∀ {l:List α} {i:Nat},zt key l→l.findIdx? (fun y=>decide (key y=k))=Ge i→zt key (l.set i x):=by
 intro l i h hi
 obtain⟨y,h1,h2,h3,_⟩:=bQ hi
 have:(l.set i x).map key=l.map key:=by
  rw[Qw]
  apply Nk
  intro j
  by_cases hj:j=i
  ·subst hj
   rw[Gd (by simpa using h3),Gl,h1]
   simp at h2;simp[hx,h2]
  ·rw[Ga (Jd hj)]
 unfold zt;rw[this];exact h
theorem PV {α β:Type}[DecidableEq β]{key:α→β}{k:β}{x:α}{l:List α}(hx:key x=k)(h:zt key l):zt key (ke (fun y=>decide (key y=k)) x l):=by
 unfold ke
 cases hi:l.findIdx? (fun y=>decide (key y=k))with
 |some i=>exact qzr hx h hi
 |none=>
  rw[fG]at hi
  unfold zt at *
  rw[List.map_append,List.nodup_append]
  refine⟨h,by simp,?_⟩
  intro a ha b hb
  simp at hb
  subst hb
  obtain⟨z,hz,rfl⟩:=List.mem_map.1 ha
  have:=hi z hz
  rw[hx];simpa using this
theorem q5n {α β:Type}{key:α→β}{l:List α}(p:α→Bool)(h:zt key l):zt key (l.filter p):=
 List.Nodup.sublist (List.Sublist.map key List.filter_sublist) h
end Go.W
namespace Go.W
def lA:Str:=[108,111,116]
def kl:Str:=[112,114,111,100,117,99,116]
def lB:Str:=[110,101,101,100]
def l4:Str:=[116,101,115,116]
def oo:Str:=[105,115,115,117,101]
def lC:Str:=[98,117,105,108,100]
def mM:Str:=[117,115,101]
def oR:Str:=[109,101,97,115,117,114,101]
def pJ:Str:=[117,112,100,97,116,101]
def nA:Str:=[112,97,105,114]
def yp:Str:=[104,111,108,100]
def kg:Str:=[102,114,101,101]
def yw:Str:=[115,104,105,112]
def yJ:Str:=[99,111,109,112,108,97,105,110]
def y8:Str:=[117,110,100,111]
def D5 (wrap:Int→Int)(r:bj)(u:br)(kind:Str):Int:=u.uses.foldl (fun n x=>if(ot r x.k).any (fun l=>decide (l.kind=kind))then wrap (n+x.n)else n) 0
def rK (u:br)(t:jb):Bool:=u.results.foldl (fun is x=>if decide (x.k=t.k)&&decide (x.a=u.version)then decide (t.a≤x.b)&&decide (x.b≤t.b)else is) G7
def yM (d:gi)(u:br):List Str:=(d.aA.filter fun t=>!rK u t).map (·.k)
def yO (wrap:Int→Int)(r:bj)(d:gi)(u:br):Bool:=d.aB.all fun n=>decide (n.n≤D5 wrap r u n.k)
def Bh (r:bj)(u:br):Bool:=u.uses.any fun x=>(ot r x.k).any (·.held)
def vr (wrap:Int→Int)(r:bj)(u:br):Int:=
 if u.aq then 21 else if pM r u≠Ge u.version then 32 else
 match iB r u with
 |none=>20
 |some d=>if !yO wrap r d u then 20 else if !(yM d u).isEmpty then 31 else if Bh r u then 34 else 0
def b4 (r:bj)(i:Nat)(x:jc):bj:={ r with au:=r.au.set i x }
def bR (r:bj)(i:Nat)(x:cY):bj:={ r with ae:=r.ae.set i x }
def ay (r:bj)(i:Nat)(x:br):bj:={ r with units:=r.units.set i x }
def df (k:Str)(x:bn):Bool:=decide (x.k=k)
def eK (k:Str)(x:jb):Bool:=decide (x.k=k)
def kw (l:List bn)(k:Str)(n:Int):List bn:=if n=0 then l.filter (fun x=>!df k x)else ke (df k) ⟨k,n⟩ l
def jP (wrap:Int→Int)(l:List bn)(k:Str)(n:Int):List bn:=match l.findIdx? (df k)with
 |some i=>(match l[i]? with
  |some x=>l.set i ⟨k,wrap (n+x.n)⟩
  |none=>l)
 |none=>l++[⟨k,n⟩]
def nm (e:dR)(i:Nat):Str:=(e.names[i]?).getD []
def vl (e:dR)(i:Nat):Int:=(e.values[i]?).getD 0
abbrev pN:=Except Int bj
def l7 (r:bj)(e:dR):pN:=
 if e.kind=lA then
  (if(zm r (nm e 0)).isSome then .error 9 else if vl e 1<1∨10000<vl e 1 then .error 3 else if 64≤r.au.length then .error 5 else
   .ok { r with au:=r.au++[⟨nm e 0,nm e 1,vl e 1,vl e 1,G7⟩] })
 else if e.kind=kl then
  (if(zr r (nm e 0)).isSome then .error 9 else if 16≤r.ae.length then .error 5 else .ok { r with ae:=r.ae++[⟨nm e 0,⟨[],[]⟩,[]⟩] })
 else match k9 r (nm e 1)with
  |none=>.error 10
  |some p=>if(zp r (nm e 0)).isSome then .error 9 else if p.aM.isEmpty then .error 32 else if 256≤r.units.length then .error 5 else
    .ok { r with units:=r.units++[⟨nm e 0,nm e 1,p.aM.length,[],[],[],G7,0⟩] }
def kj (r:bj)(e:dR):pN:=match zr r (nm e 0)with
 |none=>.error 10
 |some i=>match r.ae[i]? with
  |none=>.error 10
  |some p=>
   if e.kind=lB then
    (if vl e 1<0∨10000<vl e 1 then .error 3 else if 0<vl e 1∧!(p.bX.aB.any (df (nm e 1)))∧16≤p.bX.aB.length then .error 5 else
     .ok (bR r i { p with bX:={ p.bX with aB:=kw p.bX.aB (nm e 1) (vl e 1) } }))
   else if e.kind=l4 then
    (if vl e 2<vl e 1 then .error 11 else if !(p.bX.aA.any (eK (nm e 1)))∧16≤p.bX.aA.length then .error 5 else
     .ok (bR r i { p with bX:={ p.bX with aA:=ke (eK (nm e 1)) ⟨nm e 1,vl e 1,vl e 2⟩ p.bX.aA } }))
   else(if p.bX.aB.isEmpty then .error 12 else if 100≤p.aM.length then .error 5 else .ok (bR r i { p with aM:=p.aM++[p.bX] }))
def lE (r:bj)(e:dR):pN:=match zm r (nm e 0)with
 |none=>.error 10
 |some i=>match r.au[i]? with
  |none=>.error 10
  |some x=>if e.kind=yp then(if x.held then .error 34 else .ok (b4 r i { x with held:=Hb }))else(if !x.held then .error 20 else .ok (b4 r i { x with held:=G7 }))
def pO (wrap:Int→Int)(r:bj)(i:Nat)(u:br)(e:dR):pN:=match zm r (nm e 1)with
 |none=>.error 10
 |some k=>match r.au[k]? with
  |none=>.error 10
  |some x=>if u.aq then .error 21 else if vl e 1=0 then .error 3 else if x.held then .error 34 else
   if !((iB r u).any fun d=>d.aB.any (df x.kind))then .error 7 else if x.left<vl e 1 then .error 4 else
    .ok (ay (b4 r k { x with left:=wrap (x.left-vl e 1) }) i { u with uses:=jP wrap u.uses x.name (vl e 1) })
def pP (r:bj)(i:Nat)(u:br)(e:dR):pN:=match zp r (nm e 1)with
 |none=>.error 10
 |some k=>match r.units[k]? with
  |none=>.error 10
  |some v=>if i=k then .error 9 else if u.product≠v.product∨u.version≠v.version then .error 30 else if u.aq∨v.aq then .error 21 else
   if u.partner≠[]∨v.partner≠[]then .error 35 else .ok (ay (ay r i { u with partner:=v.name }) k { v with partner:=u.name })
def l8 (wrap:Int→Int)(r:bj)(e:dR):pN:=match zp r (nm e 0)with
 |none=>.error 10
 |some i=>match r.units[i]? with
  |none=>.error 10
  |some u=>
   if e.kind=mM then pO wrap r i u e
   else if e.kind=nA then pP r i u e
   else if e.kind=oR then
    (if u.aq then .error 21 else if !((iB r u).any fun d=>d.aA.any (eK (nm e 1)))then .error 7 else if 64≤u.results.length then .error 5 else
     .ok (ay r i { u with results:=u.results++[⟨nm e 1,u.version,vl e 1⟩] }))
   else if e.kind=pJ then
    (if u.aq then .error 21 else match pM r u with
     |none=>.error 32
     |some v=>if u.version=v then .error 32 else .ok (ay r i { u with version:=v }))
   else if e.kind=yw then(if vr wrap r u≠0 then .error (vr wrap r u)else .ok (ay r i { u with aq:=Hb }))
   else(if !u.aq then .error 20 else .ok (ay r i { u with ah:=wrap (u.ah+1) }))
def apply (wrap:Int→Int)(r:bj)(e:dR):pN:=
 if e.kind=lA∨e.kind=kl∨e.kind=lC then l7 r e
 else if e.kind=lB∨e.kind=l4∨e.kind=oo then kj r e
 else if e.kind=yp∨e.kind=kg then lE r e
 else l8 wrap r e
def after (wrap:Int→Int)(r:bj)(e:dR):pN:=if vl e 0<r.day then .error 20 else match apply wrap r e with
 | .error x=>.error x
 | .ok r'=>.ok { r' with day:=vl e 0 }
structure WF (r:bj):Prop where
 aB:∀p∈r.ae,zt (·.k) p.bX.aB∧p.bX.aB.length≤16
 aA:∀p∈r.ae,zt (·.k) p.bX.aA∧p.bX.aA.length≤16
 ek:∀u∈r.units,(iB r u).isSome
 uses:∀u∈r.units,zt (·.k) u.uses∧∀x∈u.uses,(zm r x.k).isSome
theorem WF.empty (d:Int):WF ⟨d,[],[],[]⟩:=⟨by simp,by simp,by simp,by simp⟩
theorem findIdx?_append {α:Type}{p:α→Bool}{l m:List α}{k:Nat}(h:l.findIdx? p=Ge k):(l++m).findIdx? p=Ge k:=by
 rw[List.findIdx?_append,h];rfl
theorem gp {α:Type}{p:α→Bool}{l:List α}{i:Nat}{x y:α}(hy:l[i]?=Ge y)(pS:p x=p y):(l.set i x).findIdx? p=l.findIdx? p:=by
 induction l generalizing i with
 |nil=>rfl
 |cons z l ih=>
  cases i with
  |zero=>
   simp at hy;subst hy
   rw[If,Gn,Gn,pS]
  |succ i=>
   rw[Jc,Gn,Gn,ih (by simpa using hy)]
theorem qmb {r r':bj}{u:br}(h:∀n p,k9 r n=Ge p→∃p',k9 r' n=Ge p'∧∃m,p'.aM=p.aM++m)(hp:(iB r u).isSome):(iB r' u).isSome:=by
 unfold iB at *
 cases hq:k9 r u.product with
 |none=>rw[hq]at hp;simp at hp
 |some p=>
  rw[hq]at hp
  obtain⟨p',h1,m,h2⟩:=h _ _ hq
  rw[h1]
  simp only[G2,D1]at hp ⊢
  split at hp
  ·rename_i hv
   rw[if_pos hv,h2]
   have bz:=(I.1 (Qn hp).symm).1
   rw[Gi bz];exact hp
  ·simp at hp
theorem q6l {r r':bj}(h:r'.ae=r.ae)(n:Str):k9 r' n=k9 r n:=by unfold k9 zr;rw[h]
theorem q8b {r r':bj}(h:r'.ae=r.ae)(u:br):iB r' u=iB r u:=by unfold iB;rw[q6l h]
theorem Cr {r r':bj}{u:br}(hp:(iB r u).isSome)(h:r'.ae=r.ae:=by rfl):(iB r' u).isSome:=by rw[q8b h];exact hp
theorem q9d {r:bj}{i:Nat}{p p':cY}(hp:r.ae[i]?=Ge p)(hn:p'.name=p.name)(hd:∃m,p'.aM=p.aM++m)(n:Str)(q:cY)(hq:k9 r n=Ge q):∃q',k9 (bR r i p') n=Ge q'∧∃m,q'.aM=q.aM++m:=by
 unfold k9 zr at *
 simp only[bR]
 rw[gp hp (by simp[hn])]
 cases hk:r.ae.findIdx? (fun x=>decide (x.name=n))with
 |none=>rw[hk]at hq;simp at hq
 |some k=>
  rw[hk]at hq
  simp only[G2]at hq ⊢
  have bz:=(I.1 hp).1
  by_cases AW:k=i
  ·subst AW
   rw[hp]at hq;cases hq
   exact⟨p',by rw[Gd bz],hd⟩
  ·exact⟨q,by rw[Ga (Jd AW)];exact hq,[],by simp⟩
theorem zF {α:Type}{l:List α}{i:Nat}{x y:α}(h:y∈l.set i x):y∈l∨y=x:=Gm h
theorem q5f {wrap:Int→Int}{l:List bn}{k:Str}{n:Int}(h:zt (·.k) l):zt (·.k) (jP wrap l k n):=by
 unfold jP
 cases hi:l.findIdx? (df k)with
 |none=>
  have:=PV (key:=fun x:bn=>x.k) (k:=k) (x:=⟨k,n⟩) rfl h
  unfold ke at this
  rw[show l.findIdx? (fun y=>decide (y.k=k))=none from hi]at this
  exact this
 |some i=>
  obtain⟨x,h1,_⟩:=bQ hi
  simp only[h1]
  exact qzr rfl h hi
theorem jan {wrap:Int→Int}{l:List bn}{k:Str}{n:Int}{x:bn}(h:x∈jP wrap l k n):x.k=k∨x∈l:=by
 unfold jP at h
 split at h
 ·split at h
  ·rcases zF h with h|rfl
   ·exact .inr h
   ·exact .inl rfl
  ·exact .inr h
 ·rcases Gf.1 h with h|h
  ·exact .inr h
  ·simp at h;subst h;exact .inl rfl
theorem PW {r:bj}{i:Nat}{x y:jc}(hx:r.au[i]?=Ge x)(hn:y.name=x.name)(n:Str):zm (b4 r i y) n=zm r n:=by
 unfold zm b4;exact gp hx (by simp[hn])
theorem WF.ay {r:bj}(w:WF r){i:Nat}{u u':br}(hu:r.units[i]?=Ge u)(hp:(iB r u').isSome)(hk:zt (·.k) u'.uses∧∀x∈u'.uses,(zm r x.k).isSome):WF (ay r i u'):=by
 refine⟨w.aB,w.aA,?_,?_⟩
 ·intro v hv
  refine Cr (r:=r) ?_
  rcases zF hv with hv|rfl
  ·exact w.ek v hv
  ·exact hp
 ·intro v hv
  rcases zF hv with hv|rfl
  ·exact w.uses v hv
  ·exact hk
theorem WF.b4 {r:bj}(w:WF r){i:Nat}{x y:jc}(hx:r.au[i]?=Ge x)(hn:y.name=x.name):WF (b4 r i y):=
 ⟨w.aB,w.aA,fun u hu=>Cr (w.ek u hu),fun u hu=>⟨(w.uses u hu).1,fun z hz=>by rw[PW hx hn];exact(w.uses u hu).2 z hz⟩⟩
theorem WF.bR {r:bj}(w:WF r){i:Nat}{p p':cY}(hp:r.ae[i]?=Ge p)(hn:p'.name=p.name)(hd:∃m,p'.aM=p.aM++m)(h1:zt (·.k) p'.bX.aB∧p'.bX.aB.length≤16)(h2:zt (·.k) p'.bX.aA∧p'.bX.aA.length≤16):WF (bR r i p'):=by
 refine⟨?_,?_,?_,?_⟩
 ·intro q hq
  rcases zF hq with hq|rfl
  ·exact w.aB q hq
  ·exact h1
 ·intro q hq
  rcases zF hq with hq|rfl
  ·exact w.aA q hq
  ·exact h2
 ·intro u hu
  exact qmb (fun n q hq=>q9d hp hn hd n q hq) (w.ek u hu)
 ·exact w.uses
theorem qwl {α:Type}{p:α→Bool}{x:α}{l:List α}(h:l.length≤16)(h2:¬(!(l.any p)∧16≤l.length)):(ke p x l).length≤16:=by
 unfold ke
 cases hi:l.findIdx? p with
 |some i=>simpa using h
 |none=>
  have:l.any p=G7:=by rw[D6,hi];rfl
  simp[this]at h2
  simp;omega
theorem q89 {l:List bn}{k:Str}{n:Int}(h:zt (·.k) l∧l.length≤16)(h0:0≤n)(h2:¬(0<n∧!(l.any (df k))∧16≤l.length)):zt (·.k) (kw l k n)∧(kw l k n).length≤16:=by
 unfold kw
 by_cases hn:n=0
 ·rw[if_pos hn]
  exact⟨q5n _ h.1,Le (List.length_filter_le _ _) h.2⟩
 ·rw[if_neg hn]
  refine⟨PV (key:=fun x:bn=>x.k) rfl h.1,qwl h.2 fun hh=>h2 ⟨by omega,hh.1,hh.2⟩⟩
theorem jid {wrap:Int→Int}{r r':bj}{e:dR}(w:WF r)(h:after wrap r e=.ok r'):WF r':=by
 unfold after at h
 split at h
 ·cases h
 split at h
 ·cases h
 rename_i r1 ha
 cases h
 suffices hw:WF r1 from⟨hw.aB,hw.aA,fun u hu=>Cr (hw.ek u hu),hw.uses⟩
 unfold apply at ha
 split at ha
 ·-- a new thing
  unfold l7 at ha
  split at ha
  ·repeat' split at ha
   all_goals first|(cases ha;done)|skip
   cases ha
   exact⟨w.aB,w.aA,fun u hu=>Cr (w.ek u hu),fun u hu=>⟨(w.uses u hu).1,fun x hx=>by
    have:=(w.uses u hu).2 x hx
    unfold zm at *
    obtain⟨k,hk⟩:=Option.isSome_iff_exists.1 this
    rw[findIdx?_append hk];rfl⟩⟩
  split at ha
  ·repeat' split at ha
   all_goals first|(cases ha;done)|skip
   cases ha
   refine⟨?_,?_,?_,w.uses⟩
   ·intro p hp
    rcases Gf.1 hp with hp|hp
    ·exact w.aB p hp
    ·simp at hp;subst hp;exact⟨by simp[zt],by simp⟩
   ·intro p hp
    rcases Gf.1 hp with hp|hp
    ·exact w.aA p hp
    ·simp at hp;subst hp;exact⟨by simp[zt],by simp⟩
   ·intro u hu
    refine qmb (fun n p hp=>⟨p,?_,[],by simp⟩) (w.ek u hu)
    unfold k9 zr at *
    cases hk:r.ae.findIdx? (fun x=>decide (x.name=n))with
    |none=>rw[hk]at hp;simp at hp
    |some k=>
     rw[hk]at hp
     rw[findIdx?_append hk]
     simp only[G2]at hp ⊢
     rw[Gi (I.1 hp).1];exact hp
  ·split at ha
   ·cases ha
   rename_i p hp
   repeat' split at ha
   all_goals first|(cases ha;done)|skip
   rename_i bL _
   cases ha
   refine⟨w.aB,w.aA,?_,?_⟩
   ·intro u hu
    refine Cr (r:=r) ?_
    rcases Gf.1 hu with hu|hu
    ·exact w.ek u hu
    ·simp at hu;subst hu
     unfold iB
     simp only[hp,G2,D1]
     have:0<p.aM.length:=by
      cases hd:p.aM with
      |nil=>rw[hd]at bL;simp at bL
      |cons _ _=>simp
     rw[if_pos (by omega),En (by omega)];rfl
   ·intro u hu
    rcases Gf.1 hu with hu|hu
    ·exact w.uses u hu
    ·simp at hu;subst hu;exact⟨by simp[zt],by simp⟩
 split at ha
 ·-- a product
  unfold kj at ha
  split at ha
  ·cases ha
  split at ha
  ·cases ha
  rename_i i hi p hp
  have du:=Es hp
  split at ha
  ·repeat' split at ha
   all_goals first|(cases ha;done)|skip
   rename_i hr h2
   cases ha
   exact w.bR hp rfl ⟨[],by simp⟩ (q89 (w.aB p du) (by omega) h2) (w.aA p du)
  split at ha
  ·repeat' split at ha
   all_goals first|(cases ha;done)|skip
   rename_i hr h2
   cases ha
   exact w.bR hp rfl ⟨[],by simp⟩ (w.aB p du) ⟨PV (key:=fun x:jb=>x.k) rfl (w.aA p du).1,qwl (w.aA p du).2 h2⟩
  ·repeat' split at ha
   all_goals first|(cases ha;done)|skip
   cases ha
   exact w.bR hp rfl ⟨_,rfl⟩ (w.aB p du) (w.aA p du)
 split at ha
 ·-- a lot
  unfold lE at ha
  split at ha
  ·cases ha
  split at ha
  ·cases ha
  rename_i i hi x hx
  repeat' split at ha
  all_goals first|(cases ha;done)|(cases ha;exact w.b4 hx rfl)
 ·-- a unit
  unfold l8 at ha
  split at ha
  ·cases ha
  split at ha
  ·cases ha
  rename_i i hi u hu
  have du:=Es hu
  have uA:=w.ek u du
  split at ha
  ·unfold pO at ha
   split at ha
   ·cases ha
   split at ha
   ·cases ha
   rename_i _ k hk _ x hx
   repeat' split at ha
   all_goals first|(cases ha;done)|skip
   cases ha
   refine(w.b4 (y:={ x with left:=wrap (x.left-vl e 1) }) hx rfl).ay (u':={ u with uses:=jP wrap u.uses x.name (vl e 1) }) hu (Cr (r:=r) uA) ⟨q5f (w.uses u du).1,fun z hz=>?_⟩
   rw[PW (y:={ x with left:=wrap (x.left-vl e 1) }) hx rfl]
   rcases jan hz with hz|hz
   ·obtain⟨y,h1,h2,_⟩:=bQ hk
    rw[hx]at h1;cases h1
    simp at h2
    rw[hz,h2,hk];rfl
   ·exact(w.uses u du).2 z hz
  split at ha
  ·unfold pP at ha
   split at ha
   ·cases ha
   split at ha
   ·cases ha
   rename_i k hk v hv
   have Cs:=Es hv
   split at ha
   ·cases ha
   rename_i rE
   repeat' split at ha
   all_goals first|(cases ha;done)|skip
   cases ha
   exact(w.ay (u':={ u with partner:=v.name }) hu uA (w.uses u du)).ay (u':={ v with partner:=u.name }) (by simp only[ay];rw[Ga rE];exact hv) (Cr (r:=r) (w.ek v Cs)) (w.uses v Cs)
  split at ha
  ·repeat' split at ha
   all_goals first|(cases ha;done)|skip
   cases ha
   exact w.ay hu uA (w.uses u du)
  split at ha
  ·split at ha
   ·cases ha
   split at ha
   ·cases ha
   rename_i v hv
   split at ha
   ·cases ha
   cases ha
   refine w.ay hu ?_ (w.uses u du)
   unfold iB pM at *
   cases hq:k9 r u.product with
   |none=>rw[hq]at hv;simp at hv
   |some p=>
    rw[hq]at hv uA
    simp only[Option.map_some,Ge.injEq,G2]at hv uA ⊢
    subst hv
    unfold D1 at uA ⊢
    split at uA
    ·have bz:=(I.1 (Qn uA).symm).1
     rw[if_pos (by omega),En (by omega)];rfl
    ·simp at uA
  split at ha
  ·split at ha
   ·cases ha
   cases ha
   exact w.ay hu uA (w.uses u du)
  ·split at ha
   ·cases ha
   cases ha
   exact w.ay hu uA (w.uses u du)
end Go.W
namespace Go.W
def cQ:List (Str×Nat×Nat):=[(lA,2,2),(kl,1,1),(lB,2,2),(l4,2,3),(oo,1,1),(lC,2,1),(mM,2,2),(oR,2,2),(pJ,1,1),(nA,2,1),(yp,1,1),(kg,1,1),(yw,1,1),(yJ,1,1),(y8,0,0)]
def ye (k:Str):Option (Nat×Nat):=(cQ.find? fun x=>decide (x.1=k)).map (·.2)
def vB (c:UInt8):Bool:=(decide (65≤c.toNat)&&decide (c.toNat≤90))||(decide (97≤c.toNat)&&decide (c.toNat≤122))
def Eo (c:UInt8):Bool:=(decide (48≤c.toNat)&&decide (c.toNat≤57))||decide (c.toNat=95)
def dm (s:Str):Bool:=match s with
 | []=>G7
 |c::t=>vB c&&t.all (fun c=>vB c||Eo c)&&decide (s.length≤24)
def jn (e:dR):Int:=
 if e.number<1∨1000<e.number then 3 else match ye e.kind with
 |none=>13
 |some f=>if e.names.length≠f.1∨e.values.length≠f.2 then 2 else if !(e.names.all dm)then 8 else if !(e.values.all fun n=>decide (0≤n)&&decide (n≤999999999))then 3 else if e.text≠[]then 1 else 0
abbrev yv:=List dR×List bj
def mc:bj:=⟨0,[],[],[]⟩
def now (h:yv):bj:=h.2.getLast?.getD mc
def accept (wrap:Int→Int)(h:yv)(k:Int)(e:dR):Except Int yv:=
 if e.number≠k then .error 11 else
 if e.kind=y8 then(match h.1.getLast? with
  |none=>.error 12
  |some c=>if c.kind=yw then .error 19 else .ok (h.1.dropLast,h.2.dropLast))
 else match after wrap (now h) e with
  | .error x=>.error x
  | .ok r=>.ok (h.1++[e],h.2++[r])
def yn (wrap:Int→Int):Nat→yv→List dR→Except (Int×Int) yv
 |_,h,[]=>.ok h
 |i,h,e::l=>if jn e≠0 then .error ((i:Int)+1,jn e)else match accept wrap h ((i:Int)+1) e with
  | .error x=>.error ((i:Int)+1,x)
  | .ok h'=>yn wrap (i+1) h' l
def run (wrap:Int→Int)(l:List dR):Except (Int×Int) yv:=if 1000<l.length then .error (0,5)else yn wrap 0 ([],[mc]) l
theorem Md (wrap:Int→Int):∀(l m:List dR) (i:Nat) (h:yv),yn wrap i h (l++m)=match yn wrap i h l with
  | .error x=>.error x
  | .ok h'=>yn wrap (i+l.length) h' m
 | [],m,i,h=>by simp[yn]
 |e::l,m,i,h=>by
  simp only[Jf,yn]
  split
  ·rfl
  cases accept wrap h ((i:Int)+1) e with
  |error x=>rfl
  |ok h'=>simp only[];rw[Md wrap l m (i+1) h',Nn,show i+1+l.length=i+(l.length+1) by omega]
structure eL (wrap:Int→Int)(h:yv):Prop where
 len:h.2.length=h.1.length+1
 first:h.2[0]?=Ge mc
 next:∀j e r,h.1[j]?=Ge e→h.2[j]?=Ge r→∃r',h.2[j+1]?=Ge r'∧after wrap r e=.ok r'
 kinds:∀e∈h.1,jn e=0∧e.kind≠y8
theorem eL.empty {wrap:Int→Int}:eL wrap ([],[mc]):=⟨rfl,rfl,fun j e r h=>by simp at h,by simp⟩
theorem eL.now {wrap:Int→Int}{h:yv}(k:eL wrap h):h.2[h.1.length]?=Ge (Go.W.now h):=by
 unfold Go.W.now
 have hl:=k.len
 rw[G5,hl]
 have:h.1.length<h.2.length:=by omega
 simp[En this]
theorem eL.accept {wrap:Int→Int}{h h':yv}{k:Int}{e:dR}(o:eL wrap h)(hc:jn e=0)(ha:accept wrap h k e=.ok h'):eL wrap h':=by
 unfold Go.W.accept at ha
 split at ha
 ·cases ha
 split at ha
 ·split at ha
  ·cases ha
  ·rename_i c hc
   split at ha
   ·cases ha
   cases ha
   have gI:0<h.1.length:=by
    cases hh:h.1 with
    |nil=>rw[hh]at hc;simp at hc
    |cons _ _=>simp
   have hl:=o.len
   refine⟨by simp only[Jo];omega,?_,?_,?_⟩
   ·rw[Ha,if_pos (by omega)];exact o.first
   ·intro j e' r h1 h2
    simp only[Ha]at h1 h2 ⊢
    split at h1
    ·rename_i hj
     rw[if_pos (by omega)]at h2
     rw[if_pos (by omega)]
     exact o.next j e' r h1 h2
    ·cases h1
   ·intro e' he
    exact o.kinds e' (List.mem_of_mem_take (by rwa [List.dropLast_eq_take]at he))
 ·rename_i hnu
  split at ha
  ·cases ha
  ·rename_i r hr
   cases ha
   have hl:=o.len
   refine⟨by simp only[Gs,Nn,List.length_nil];omega,?_,?_,?_⟩
   ·rw[Gi (by omega)];exact o.first
   ·intro j e' q h1 h2
    by_cases hj:j<h.1.length
    ·rw[Gi hj]at h1
     rw[Gi (by omega)]at h2
     obtain⟨r',k1,k2⟩:=o.next j e' q h1 h2
     exact⟨r',by rw[Gi (by have:=(I.1 k1).1;omega)];exact k1,k2⟩
    ·have hj':j=h.1.length:=by have:=(I.1 h1).1;simp at this;omega
     subst hj'
     rw[G3 (Np _)]at h1
     simp at h1;subst h1
     rw[Gi (by omega),o.now]at h2
     cases h2
     exact⟨r,by rw[G3 (by omega)];simp[hl],hr⟩
   ·intro e' he
    rcases Gf.1 he with he|he
    ·exact o.kinds e' he
    ·simp at he;subst he;exact⟨hc,hnu⟩
theorem qtp {wrap:Int→Int}:∀ {l:List dR} {i:Nat} {h h':yv},eL wrap h→yn wrap i h l=.ok h'→eL wrap h'
 | [],i,h,h',o,hr=>by simp only[yn]at hr;cases hr;exact o
 |e::l,i,h,h',o,hr=>by
  simp only[yn]at hr
  split at hr
  ·cases hr
  rename_i hc
  split at hr
  ·cases hr
  ·rename_i h1 ha
   exact qtp (o.accept (by simpa using hc) ha) hr
theorem jvu {wrap:Int→Int}{l:List dR}{h:yv}(hr:run wrap l=.ok h):eL wrap h:=by
 unfold run at hr
 split at hr
 ·cases hr
 ·exact qtp eL.empty hr
theorem eL.wf {wrap:Int→Int}{h:yv}(o:eL wrap h):∀(j:Nat) (r:bj),h.2[j]?=Ge r→WF r
 |0,r,hr=>by rw[o.first]at hr;cases hr;exact WF.empty 0
 |j+1,r,hr=>by
  have bz:=(I.1 hr).1
  have hl:=o.len
  have h1:j<h.1.length:=by omega
  obtain⟨r',k1,k2⟩:=o.next j _ _ (En h1) (En (by omega:j<h.2.length))
  rw[k1]at hr;cases hr
  exact jid (eL.wf o j _ (En (by omega))) k2
theorem eL.rQ {wrap:Int→Int}{h:yv}(o:eL wrap h):WF (Go.W.now h):=o.wf _ _ o.now
end Go.W
namespace Go.W
structure iC (r:bj):Prop where
 units:zt (·.name) r.units
 named:∀u∈r.units,u.name≠[]
 jC:∀u∈r.units,u.partner≠[]→∃v∈r.units,v.name=u.partner∧v.partner=u.name
 au:zt (·.name) r.au
 fH:zt (·.name) r.ae
 kinds:∀u∈r.units,∀v∈r.units,v.name=u.partner→v.product=u.product
theorem iC.empty (d:Int):iC ⟨d,[],[],[]⟩:=⟨by simp[zt],by simp,by simp,by simp[zt],by simp[zt],by simp⟩
theorem Yy {α β:Type}[DecidableEq β]{key:α→β}{l:List α}{x:α}(h:zt key l)(hn:l.findIdx? (fun y=>decide (key y=key x))=none):zt key (l++[x]):=by
 have:=PV (x:=x) rfl h
 unfold ke at this
 rw[hn]at this
 exact this
theorem q3j {α β:Type}{key:α→β}{l:List α}{i:Nat}{x y:α}(hy:l[i]?=Ge y)(hk:key x=key y):(l.set i x).map key=l.map key:=by
 rw[Qw]
 apply Nk
 intro j
 by_cases hj:j=i
 ·subst hj
  have bz:=(I.1 hy).1
  rw[Gd (by simpa using bz),Gl,hy,hk];rfl
 ·rw[Ga (Jd hj)]
theorem E8 {α β:Type}{key:α→β}{l:List α}{i:Nat}{x y:α}(h:zt key l)(hy:l[i]?=Ge y)(hk:key x=key y):zt key (l.set i x):=by
 unfold zt at *;rw[q3j hy hk];exact h
theorem iC.ay {r:bj}(w:iC r){i:Nat}{u u':br}(hu:r.units[i]?=Ge u)(h1:u'.name=u.name)(h2:u'.partner=u.partner)(h3:u'.product=u.product):iC (ay r i u'):=by
 have hm:=Es hu
 have bz:=(I.1 hu).1
 -- each unit of the new list stands for one of the old with the same name,partner and product
 have old:∀v∈(Go.W.ay r i u').units,∃v0∈r.units,v0.name=v.name∧v0.partner=v.partner∧v0.product=v.product:=by
  intro v hv
  rcases zF hv with hv|rfl
  ·exact⟨v,hv,rfl,rfl,rfl⟩
  ·exact⟨u,hm,h1.symm,h2.symm,h3.symm⟩
 have new:∀v∈r.units,∃v1∈(Go.W.ay r i u').units,v1.name=v.name∧v1.partner=v.partner:=by
  intro v hv
  obtain⟨j,hj⟩:=Gp hv
  by_cases pA:j=i
  ·subst pA
   rw[hu]at hj;cases hj
   exact⟨u',Es (i:=j) (by simp only[Go.W.ay];rw[Gd bz]),h1,h2⟩
  ·exact⟨v,Es (i:=j) (by simp only[Go.W.ay];rw[Ga (Jd pA)];exact hj),rfl,rfl⟩
 refine⟨E8 w.units hu h1,?_,?_,w.au,w.fH,?_⟩
 ·intro v hv
  obtain⟨v0,k0,k1,_⟩:=old v hv
  rw[←k1];exact w.named v0 k0
 ·intro v hv hp
  obtain⟨v0,k0,k1,k2,_⟩:=old v hv
  obtain⟨z,z0,z1,z2⟩:=w.jC v0 k0 (by rw[k2];exact hp)
  obtain⟨z',y0,y1,y2⟩:=new z z0
  exact⟨z',y0,by rw[y1,z1,k2],by rw[y2,z2,k1]⟩
 ·intro v hv z hz hn
  obtain⟨v0,k0,k1,k2,k3⟩:=old v hv
  obtain⟨z0,j0,j1,j2,JI⟩:=old z hz
  rw[←JI,←k3]
  exact w.kinds v0 k0 z0 j0 (by rw[j1,k2];exact hn)
theorem iC.gq {r:bj}(w:iC r){ls:List jc}(h:zt (·.name) ls):iC { r with au:=ls }:=⟨w.units,w.named,w.jC,h,w.fH,w.kinds⟩
theorem iC.gS {r:bj}(w:iC r){ps:List cY}(h:zt (·.name) ps):iC { r with ae:=ps }:=⟨w.units,w.named,w.jC,w.au,h,w.kinds⟩
theorem Yz {α β:Type}{key:α→β}{l:List α}(h:zt key l){x y:α}(hx:x∈l)(hy:y∈l)(he:key x=key y):x=y:=by
 induction l with
 |nil=>cases hx
 |cons z l ih=>
  have hn:=Qe.1 (by simpa[zt]using h:(key z::l.map key).Nodup)
  rcases Ld.1 hx with rfl|fj
  ·rcases Ld.1 hy with rfl|qP
   ·rfl
   ·exact absurd (by rw[he];exact H9 qP) hn.1
  ·rcases Ld.1 hy with rfl|qP
   ·exact absurd (by rw[←he];exact H9 fj) hn.1
   ·exact ih hn.2 fj qP
theorem jb7 {wrap:Int→Int}{r r':bj}{e:dR}(w:iC r)(hc:e.names.all (fun s=>!s.isEmpty)=Hb)(hb:e.kind=lC→0<e.names.length)(h:after wrap r e=.ok r'):iC r':=by
 unfold after at h
 split at h
 ·cases h
 split at h
 ·cases h
 rename_i r1 ha
 cases h
 suffices hw:iC r1 from⟨hw.units,hw.named,hw.jC,hw.au,hw.fH,hw.kinds⟩
 unfold apply at ha
 split at ha
 ·rename_i hk3
  unfold l7 at ha
  split at ha
  ·repeat' split at ha
   all_goals first|(cases ha;done)|skip
   rename_i hn _ _
   cases ha
   refine w.gq (Yy w.au ?_)
   simpa[zm]using hn
  split at ha
  ·repeat' split at ha
   all_goals first|(cases ha;done)|skip
   rename_i hn _
   cases ha
   refine w.gS (Yy w.fH ?_)
   simpa[zr]using hn
  ·rename_i fX dx
   have kL:e.kind=lC:=by rcases hk3 with h|h|h<;>first|exact absurd h fX|exact absurd h dx|exact h
   split at ha
   ·cases ha
   rename_i p hp
   repeat' split at ha
   all_goals first|(cases ha;done)|skip
   rename_i hn _ _
   cases ha
   have jD:r.units.findIdx? (fun x=>decide (x.name=nm e 0))=none:=by simpa[zp]using hn
   have dr:∀v∈r.units,v.name≠nm e 0:=fun v hv=>by
    have:=(fG.1 jD) v hv
    simpa using this
   have bL:nm e 0≠[]:=by
    have hl:=hb kL
    unfold nm
    rw[En hl]
    have:=Jg.1 hc _ (G4 hl)
    simpa using this
   refine⟨Yy w.units jD,?_,?_,w.au,w.fH,?_⟩
   ·intro v hv
    rcases Gf.1 hv with hv|hv
    ·exact w.named v hv
    ·simp at hv;subst hv;exact bL
   ·intro v hv eA
    rcases Gf.1 hv with hv|hv
    ·obtain⟨z,z0,z1⟩:=w.jC v hv eA
     exact⟨z,List.mem_append_left _ z0,z1⟩
    ·simp at hv;subst hv;simp at eA
   ·intro v hv z hz E9
    rcases Gf.1 hv with hv|hv
    ·rcases Gf.1 hz with hz|hz
     ·exact w.kinds v hv z hz E9
     ·simp at hz;subst hz
      -- the partner of an older unit is an older unit
      by_cases Ie:v.partner=[]
      ·rw[Ie]at E9;exact absurd E9 bL
      ·obtain⟨y,y0,y1,_⟩:=w.jC v hv Ie
       exact absurd (by rw[y1,←E9]) (dr y y0)
    ·simp at hv;subst hv
     simp only at E9
     rcases Gf.1 hz with hz|hz
     ·exact absurd E9 (w.named z hz)
     ·simp at hz;subst hz;rfl
 split at ha
 ·unfold kj at ha
  split at ha
  ·cases ha
  split at ha
  ·cases ha
  rename_i _ i hi _ p hp
  have key:∀p':cY,p'.name=p.name→iC (bR r i p'):=fun p' hn=>w.gS (E8 w.fH hp hn)
  repeat' split at ha
  all_goals first|(cases ha;done)|(cases ha;exact key _ rfl)
 split at ha
 ·unfold lE at ha
  split at ha
  ·cases ha
  split at ha
  ·cases ha
  rename_i _ i hi _ x hx
  have key:∀x':jc,x'.name=x.name→iC (b4 r i x'):=fun x' hn=>w.gq (E8 w.au hx hn)
  repeat' split at ha
  all_goals first|(cases ha;done)|(cases ha;exact key _ rfl)
 ·unfold l8 at ha
  split at ha
  ·cases ha
  split at ha
  ·cases ha
  rename_i _ i hi _ u hu
  have hm:=Es hu
  have key:∀u':br,u'.name=u.name→u'.partner=u.partner→u'.product=u.product→iC (ay r i u'):=fun u' k1 k2 k3=>w.ay hu k1 k2 k3
  split at ha
  ·unfold pO at ha
   split at ha
   ·cases ha
   split at ha
   ·cases ha
   rename_i _ k hk _ x hx
   repeat' split at ha
   all_goals first|(cases ha;done)|skip
   cases ha
   exact iC.ay (r:=b4 r k { x with left:=wrap (x.left-vl e 1) }) (u':={ u with uses:=jP wrap u.uses x.name (vl e 1) }) (w.gq (E8 (x:={ x with left:=wrap (x.left-vl e 1) }) w.au hx rfl)) hu rfl rfl rfl
  split at ha
  ·unfold pP at ha
   split at ha
   ·cases ha
   split at ha
   ·cases ha
   rename_i _ k hk _ v hv
   split at ha
   ·cases ha
   rename_i rE
   split at ha
   ·cases ha
   rename_i qJ
   split at ha
   ·cases ha
   split at ha
   ·cases ha
   rename_i hnp
   cases ha
   have Cs:=Es hv
   have hup:u.partner=[]:=by by_cases h:u.partner=[]<;>simp_all
   have hvp:v.partner=[]:=by by_cases h:v.partner=[]<;>simp_all
   have zU:u.product=v.product:=by by_cases h:u.product=v.product<;>simp_all
   have YA:=(I.1 hu).1
   have hkv:=(I.1 hv).1
   have iN:(r.units.set i { u with partner:=v.name })[k]?=Ge v:=by rw[Ga rE];exact hv
   have huv:u.name≠v.name:=fun he=>by
    have:=Yz w.units hm Cs he
    subst this
    -- the same unit at two places
    have qO:(r.units.map (·.name)).Nodup:=w.units
    have h1:(r.units.map (·.name))[i]?=Ge u.name:=by rw[Gl,hu];rfl
    have h2:(r.units.map (·.name))[k]?=Ge u.name:=by rw[Gl,hv];rfl
    have:=(Je (by simpa using YA) qO).1 (h1.trans h2.symm)
    exact rE this
   -- the units of the new list: the two,and the old ones but for them
   have mem:∀z∈(ay (ay r i { u with partner:=v.name }) k { v with partner:=u.name }).units,z={ u with partner:=v.name }∨z={ v with partner:=u.name }∨(z∈r.units∧z.name≠u.name∧z.name≠v.name):=by
    intro z hz
    obtain⟨j,hj⟩:=Gp hz
    simp only[ay]at hj
    by_cases YB:j=k
    ·subst YB
     rw[Gd (by simpa using hkv)]at hj
     cases hj;exact .inr (.inl rfl)
    rw[Ga (Jd YB)]at hj
    by_cases pA:j=i
    ·subst pA
     rw[Gd YA]at hj
     cases hj;exact .inl rfl
    rw[Ga (Jd pA)]at hj
    have Dv:=(I.1 hj).1
    have qO:(r.units.map (·.name)).Nodup:=w.units
    have pG:(r.units.map (·.name))[j]?=Ge z.name:=by rw[Gl,hj];rfl
    refine .inr (.inr ⟨Es hj,fun he=>pA ?_,fun he=>YB ?_⟩)
    ·have h1:(r.units.map (·.name))[i]?=Ge u.name:=by rw[Gl,hu];rfl
     exact(Je (by simpa using Dv) qO).1 (pG.trans (by rw[he];exact h1.symm))
    ·have h1:(r.units.map (·.name))[k]?=Ge v.name:=by rw[Gl,hv];rfl
     exact(Je (by simpa using Dv) qO).1 (pG.trans (by rw[he];exact h1.symm))
   have inU:({ u with partner:=v.name }:br)∈(ay (ay r i { u with partner:=v.name }) k { v with partner:=u.name }).units:=Es (i:=i) (by simp only[ay];rw[Ga (Jd rE),Gd YA])
   have inV:({ v with partner:=u.name }:br)∈(ay (ay r i { u with partner:=v.name }) k { v with partner:=u.name }).units:=Es (i:=k) (by simp only[ay];rw[Gd (by simpa using hkv)])
   have inZ:∀z∈r.units,z.name≠u.name→z.name≠v.name→z∈(ay (ay r i { u with partner:=v.name }) k { v with partner:=u.name }).units:=by
    intro z hz h1 h2
    obtain⟨j,hj⟩:=Gp hz
    refine Es (i:=j) ?_
    simp only[ay]
    rw[Ga (fun e=>h2 (by subst e;rw[hv]at hj;cases hj;rfl)),Ga (fun e=>h1 (by subst e;rw[hu]at hj;cases hj;rfl))]
    exact hj
   refine⟨?_,?_,?_,w.au,w.fH,?_⟩
   ·exact E8 (E8 w.units hu rfl) iN rfl
   ·intro z hz
    rcases mem z hz with rfl|rfl|⟨h,_⟩
    ·exact w.named u hm
    ·exact w.named v Cs
    ·exact w.named z h
   ·intro z hz hp
    rcases mem z hz with rfl|rfl|⟨h,h1,h2⟩
    ·exact⟨_,inV,rfl,rfl⟩
    ·exact⟨_,inU,rfl,rfl⟩
    ·obtain⟨y,y0,y1,y2⟩:=w.jC z h hp
     refine⟨y,inZ y y0 (fun e=>?_) (fun e=>?_),y1,y2⟩
     ·have:=Yz w.units y0 hm e
      subst this
      rw[hup]at y2;exact w.named z h y2.symm
     ·have:=Yz w.units y0 Cs e
      subst this
      rw[hvp]at y2;exact w.named z h y2.symm
   ·intro z hz y hy Ct
    rcases mem z hz with rfl|rfl|⟨h,h1,h2⟩
    ·rcases mem y hy with rfl|rfl|⟨k0,k1,k2⟩
     ·exact absurd Ct huv
     ·exact zU.symm
     ·exact absurd Ct k2
    ·rcases mem y hy with rfl|rfl|⟨k0,k1,k2⟩
     ·exact zU
     ·exact absurd Ct (Jd huv)
     ·exact absurd Ct k1
    ·rcases mem y hy with rfl|rfl|⟨k0,k1,k2⟩
     ·exact w.kinds z h u hm Ct
     ·exact w.kinds z h v Cs Ct
     ·exact w.kinds z h y k0 Ct
  repeat' split at ha
  all_goals first|(cases ha;done)|(cases ha;exact key _ rfl rfl rfl)
theorem Ic {e:dR}(h:jn e=0):e.names.all (fun s=>!s.isEmpty)=Hb∧∃f,ye e.kind=Ge f∧e.names.length=f.1∧e.values.length=f.2:=by
 unfold jn at h
 split at h
 ·cases h
 split at h
 ·cases h
 rename_i f hf
 split at h
 ·cases h
 rename_i hl
 split at h
 ·cases h
 rename_i hn
 refine⟨?_,f,hf,by by_cases hh:e.names.length=f.1<;>simp_all,by by_cases hh:e.values.length=f.2<;>simp_all⟩
 have hn:e.names.all dm=Hb:=by simpa using hn
 rw[Jg]at hn ⊢
 intro s hs
 have:=hn s hs
 cases s with
 |nil=>simp[dm]at this
 |cons c t=>rfl
theorem eL.Me {wrap:Int→Int}{h:yv}(o:eL wrap h):∀(j:Nat) (r:bj),h.2[j]?=Ge r→iC r
 |0,r,hr=>by rw[o.first]at hr;cases hr;exact iC.empty 0
 |j+1,r,hr=>by
  have bz:=(I.1 hr).1
  have hl:=o.len
  have h1:j<h.1.length:=by omega
  obtain⟨r',k1,k2⟩:=o.next j _ _ (En h1) (En (by omega:j<h.2.length))
  rw[k1]at hr;cases hr
  obtain⟨c1,f,c2,cH,_⟩:=Ic (o.kinds _ (G4 h1)).1
  refine jb7 (eL.Me o j _ (En (by omega))) c1 (fun hk=>?_) k2
  rw[hk]at c2
  have h2:ye lC=Ge (2,1):=by decide
  rw[h2]at c2
  have:f=(2,1):=(Ge.inj c2).symm
  rw[cH,this];decide
theorem eL.BL {wrap:Int→Int}{h:yv}(o:eL wrap h):iC (Go.W.now h):=o.Me _ _ o.now
end Go.W
namespace Go.W
theorem PX {wrap:Int→Int}{l:List dR}{h:yv}{e:dR}(hr:run wrap l=.ok h)(hn:l.length<1000):run wrap (l++[e])=if jn e≠0 then .error ((l.length:Int)+1,jn e)else match accept wrap h ((l.length:Int)+1) e with
  | .error x=>.error ((l.length:Int)+1,x)
  | .ok h'=>.ok h':=by
 unfold run at hr ⊢
 rw[if_neg (by omega)]at hr
 rw[if_neg (by rw[Gs,Gu];omega),Md,hr]
 simp only[Nat.zero_add,yn]<;>rfl
def JJ (k:Int):dR:=⟨k,y8,[],[],[]⟩
theorem jaz {k:Int}(h1:1≤k)(h2:k≤1000):jn (JJ k)=0:=by
 have h:ye y8=Ge (0,0):=by decide
 unfold jn
 simp only[JJ]
 rw[h]
 have:¬(k<1∨1000<k):=by omega
 simp[y8,this]
 try omega
theorem jdu {wrap:Int→Int}{h h':yv}{k:Int}{e:dR}(ha:accept wrap h k e=.ok h')(hu:e.kind≠y8)(j:Int):accept wrap h' j (JJ j)=if e.kind=yw then .error 19 else .ok h:=by
 unfold accept at ha
 split at ha
 ·cases ha
 try rw[if_neg hu]at ha
 split at ha
 ·cases ha
 cases ha
 unfold accept
 rw[if_neg (fun h=>h rfl),if_pos (show(JJ j).kind=y8 from rfl)]
 simp
theorem jev {wrap:Int→Int}{r r1:bj}{e f:dR}(hr:after wrap r e=.ok r1)(hn:f.names=e.names)(hv:f.values=e.values)(hk:e.kind=yp∧f.kind=kg∨e.kind=kg∧f.kind=yp):after wrap r1 f=.ok { r with day:=vl e 0 }:=by
 have il:vl f 0=vl e 0:=by unfold vl;rw[hv]
 have uL:nm f 0=nm e 0:=by unfold nm;rw[hn]
 unfold after at hr ⊢
 split at hr
 ·cases hr
 have hE:¬(e.kind=lA∨e.kind=kl∨e.kind=lC)∧¬(e.kind=lB∨e.kind=l4∨e.kind=oo)∧(e.kind=yp∨e.kind=kg):=by
  rcases hk with⟨h,_⟩|⟨h,_⟩<;>rw[h]<;>decide
 have hF:¬(f.kind=lA∨f.kind=kl∨f.kind=lC)∧¬(f.kind=lB∨f.kind=l4∨f.kind=oo)∧(f.kind=yp∨f.kind=kg):=by
  rcases hk with⟨_,h⟩|⟨_,h⟩<;>rw[h]<;>decide
 have nv:∀s,apply wrap s e=lE s e:=fun s=>by unfold apply;rw[if_neg hE.1,if_neg hE.2.1,if_pos hE.2.2]
 have haf:∀s,apply wrap s f=lE s f:=fun s=>by unfold apply;rw[if_neg hF.1,if_neg hF.2.1,if_pos hF.2.2]
 rw[nv]at hr
 unfold lE at hr
 cases hi:zm r (nm e 0)with
 |none=>rw[hi]at hr;cases hr
 |some i=>
  cases hx:r.au[i]? with
  |none=>simp only[hi,hx]at hr;cases hr
  |some x=>
   simp only[hi,hx]at hr
   have bz:=(I.1 hx).1
   rcases hk with⟨h1,h2⟩|⟨h1,h2⟩
   ·cases xy:x.held with
    |true=>simp[h1,xy]at hr
    |false=>
    simp only[h1,xy,if_true,Gy,if_false,Except.ok.injEq]at hr
    subst hr
    have ht:zm ({ b4 r i { x with held:=Hb }with day:=vl e 0 }:bj) (nm e 0)=Ge i:=by
     have:=PW (r:=r) (y:={ x with held:=Hb }) hx rfl (nm e 0)
     rw[hi]at this
     exact this
    have hy:({ b4 r i { x with held:=Hb }with day:=vl e 0 }:bj).au[i]?=Ge { x with held:=Hb }:=by
     show(r.au.set i _)[i]?=_
     rw[Gd bz]
    rw[il,if_neg (by show ¬vl e 0<vl e 0;omega),haf]
    unfold lE
    rw[uL,ht]
    simp only[hy,h2]
    rw[if_neg (by decide)]
    simp only[Qt,Gy,if_false]
    show Except.ok _=_
    congr 1
    show bj.mk _ _ _ _=bj.mk _ _ _ _
    congr 1
    show(r.au.set i _).set i _=r.au
    rw[Rg]
    rw[show({ x with held:=G7 }:jc)=x by cases x;simp only at xy;rw[xy]]
    exact(I.1 hx).2▸Jn bz
   ·cases xy:x.held with
    |false=>simp[h1,xy,show ¬kg=yp by decide]at hr
    |true=>
    simp only[h1,xy,if_neg (show ¬kg=yp by decide),Qt,Gy,if_false,Except.ok.injEq]at hr
    subst hr
    have ht:zm ({ b4 r i { x with held:=G7 }with day:=vl e 0 }:bj) (nm e 0)=Ge i:=by
     have:=PW (r:=r) (y:={ x with held:=G7 }) hx rfl (nm e 0)
     rw[hi]at this
     exact this
    have hy:({ b4 r i { x with held:=G7 }with day:=vl e 0 }:bj).au[i]?=Ge { x with held:=G7 }:=by
     show(r.au.set i _)[i]?=_
     rw[Gd bz]
    rw[il,if_neg (by show ¬vl e 0<vl e 0;omega),haf]
    unfold lE
    rw[uL,ht]
    simp only[hy,h2,if_true,Gy,if_false]
    show Except.ok _=_
    congr 1
    show bj.mk _ _ _ _=bj.mk _ _ _ _
    congr 1
    show(r.au.set i _).set i _=r.au
    rw[Rg]
    rw[show({ x with held:=Hb }:jc)=x by cases x;simp only at xy;rw[xy]]
    exact(I.1 hx).2▸Jn bz
theorem jct {wrap:Int→Int}{r:bj}{e:dR}{x:Int}(h:apply wrap r e=.error x):x≠0:=by
 unfold apply at h
 split at h
 ·unfold l7 at h
  repeat' split at h
  all_goals first|(cases h;done)|(cases h;decide)
 split at h
 ·unfold kj at h
  repeat' split at h
  all_goals first|(cases h;done)|(cases h;decide)
 split at h
 ·unfold lE at h
  repeat' split at h
  all_goals first|(cases h;done)|(cases h;decide)
 unfold l8 at h
 split at h
 ·cases h;decide
 split at h
 ·cases h;decide
 split at h
 ·unfold pO at h
  repeat' split at h
  all_goals first|(cases h;done)|(cases h;decide)
 split at h
 ·unfold pP at h
  repeat' split at h
  all_goals first|(cases h;done)|(cases h;decide)
 repeat' split at h
 all_goals first|(cases h;done)|(cases h;assumption)|(cases h;decide)
theorem jd4 {wrap:Int→Int}{r:bj}{e:dR}{x:Int}(h:after wrap r e=.error x):x≠0:=by
 unfold after at h
 split at h
 ·cases h;decide
 split at h
 ·rename_i hx;cases h;exact jct hx
 ·cases h
theorem q8x {wrap:Int→Int}{h:yv}{k:Int}{e:dR}{x:Int}(ha:accept wrap h k e=.error x):x≠0:=by
 unfold accept at ha
 split at ha
 ·cases ha;decide
 split at ha
 ·split at ha
  ·cases ha;decide
  ·split at ha
   ·cases ha;decide
   ·cases ha
 ·split at ha
  ·rename_i hx;cases ha;exact jd4 hx
  ·cases ha
theorem jck {wrap:Int→Int}{l:List dR}{e:dR}{h h':yv}(hr:run wrap l=.ok h)(hn:l.length+2≤1000)(hc:jn e=0)(ha:accept wrap h ((l.length:Int)+1) e=.ok h')(hu:e.kind≠y8):
  run wrap (l++[e]++[JJ ((l.length:Int)+2)])=if e.kind=yw then .error ((l.length:Int)+2,19)else .ok h:=by
 have h1:run wrap (l++[e])=.ok h':=by rw[PX hr (by omega),if_neg (by simp[hc]),ha]
 have hl:(((l++[e]).length:Nat):Int)+1=(l.length:Int)+2:=by rw[Gs,Gu];omega
 rw[PX h1 (by rw[Gs,Gu];omega),hl,if_neg (by rw[jaz (by omega) (by omega)];simp),jdu ha hu]
 by_cases hk:e.kind=yw
 ·rw[if_pos hk,if_pos hk]
 ·rw[if_neg hk,if_neg hk]
theorem je6 {wrap:Int→Int}{h h':yv}{k:Int}{e:dR}(ha:accept wrap h k e=.ok h')(hu:e.kind≠y8):e.number=k∧∃r,after wrap (now h) e=.ok r∧h'=(h.1++[e],h.2++[r]):=by
 unfold accept at ha
 split at ha
 ·cases ha
 rename_i hk
 try rw[if_neg hu]at ha
 split at ha
 ·cases ha
 rename_i r hx
 cases ha
 exact⟨by simpa using hk,r,hx,rfl⟩
theorem jfx {wrap:Int→Int}{l:List dR}{e f:dR}{h h':yv}(hr:run wrap l=.ok h)(hn:l.length+2≤1000)(hc:jn e=0)(ha:accept wrap h ((l.length:Int)+1) e=.ok h')(hk:e.kind=yp∧f.kind=kg∨e.kind=kg∧f.kind=yp)
  (h1:f.number=(l.length:Int)+2) (h2:f.names=e.names) (h3:f.values=e.values) (h4:f.text=[]):∃q,run wrap (l++[e]++[f])=.ok q∧now q={ now h with day:=vl e 0 }:=by
 have hu:e.kind≠y8:=by rcases hk with⟨h,_⟩|⟨h,_⟩<;>rw[h]<;>decide
 have oe:f.kind≠y8:=by rcases hk with⟨_,h⟩|⟨_,h⟩<;>rw[h]<;>decide
 obtain⟨e1,r,hx,rfl⟩:=je6 ha hu
 have dO:now (h.1++[e],h.2++[r])=r:=by unfold now;simp
 have hz:=jev hx h2 h3 hk
 have g1:run wrap (l++[e])=.ok (h.1++[e],h.2++[r]):=by rw[PX hr (by omega),if_neg (by simp[hc]),ha]
 have hl:(((l++[e]).length:Nat):Int)+1=(l.length:Int)+2:=by rw[Gs,Gu];omega
 have AG:jn f=0:=by
  unfold jn at hc ⊢
  have hfo:ye f.kind=ye e.kind:=by rcases hk with⟨a,b⟩|⟨a,b⟩<;>rw[a,b]<;>decide
  rw[hfo,h1,h2,h3,h4]
  rw[if_neg (by omega)]
  split at hc
  ·cases hc
  split at hc
  ·cases hc
  rename_i f0 hf0
  split at hc
  ·cases hc
  rename_i c1
  split at hc
  ·cases hc
  rename_i c2
  split at hc
  ·cases hc
  rename_i cH
  rw[if_neg c1,if_neg c2,if_neg cH,if_neg (fun h=>h rfl)]
 have wM:accept wrap (h.1++[e],h.2++[r]) ((l.length:Int)+2) f=.ok (h.1++[e]++[f],h.2++[r]++[{ now h with day:=vl e 0 }]):=by
  unfold accept
  rw[if_neg (by simp[h1]),if_neg oe,dO,hz]
 refine⟨_,by rw[PX g1 (by rw[Gs,Gu];omega),hl,if_neg (by simp[AG]),wM],?_⟩
 unfold now;simp
end Go.W
namespace Go.W
def gT (n:Str):List bn→Int
 | []=>0
 |x::l=>(if x.k=n then x.n else 0)+gT n l
def hZ (n:Str):List br→Int
 | []=>0
 |u::l=>gT n u.uses+hZ n l
theorem qvq (n:Str):∀l m:List bn,gT n (l++m)=gT n l+gT n m
 | [],m=>by simp[gT]
 |x::l,m=>by simp only[Jf,gT,qvq n l m];omega
theorem q72 (n:Str):∀ {l:List bn} {i:Nat} {x y:bn},l[i]?=Ge x→gT n (l.set i y)=gT n l-(if x.k=n then x.n else 0)+(if y.k=n then y.n else 0)
 | [],i,x,y,h=>by simp at h
 |z::l,0,x,y,h=>by
  simp only[Gv,Ge.injEq]at h
  subst h
  simp only[If,gT];omega
 |z::l,i+1,x,y,h=>by
  simp only[Gx]at h
  simp only[Jc,gT,q72 n h];omega
theorem PY (n:Str):∀ {l:List bn},(∀x∈l,1≤x.n)→0≤gT n l
 | [],_=>G6 _
 |x::l,h=>by
  have h1:=h x (Gt ..)
  have h2:=PY n (fun y hy=>h y (Gj _ hy))
  simp only[gT];split<;>omega
theorem q7x (n:Str):∀ {l:List bn} {i:Nat} {x:bn},(∀x∈l,1≤x.n)→l[i]?=Ge x→x.k=n→x.n≤gT n l
 | [],i,x,_,h,_=>by simp at h
 |z::l,0,x,hp,h,hk=>by
  simp only[Gv,Ge.injEq]at h
  subst h
  have:=PY n (fun y hy=>hp y (Gj _ hy))
  simp only[gT,if_pos hk];omega
 |z::l,i+1,x,hp,h,hk=>by
  simp only[Gx]at h
  have h1:=q7x n (fun y hy=>hp y (Gj _ hy)) h hk
  have h2:=hp z (Gt ..)
  simp only[gT];split<;>omega
theorem q5b (n:Str):∀ {l:List bn},(∀x∈l,x.k≠n)→gT n l=0
 | [],_=>rfl
 |x::l,h=>by
  simp only[gT,if_neg (h x (Gt ..)),q5b n (fun y hy=>h y (Gj _ hy))];rfl
theorem qr0 (n:Str):∀l m:List br,hZ n (l++m)=hZ n l+hZ n m
 | [],m=>by simp[hZ]
 |x::l,m=>by simp only[Jf,hZ,qr0 n l m];omega
theorem YC (n:Str):∀ {l:List br} {i:Nat} {u v:br},l[i]?=Ge u→hZ n (l.set i v)=hZ n l-gT n u.uses+gT n v.uses
 | [],i,u,v,h=>by simp at h
 |z::l,0,u,v,h=>by
  simp only[Gv,Ge.injEq]at h
  subst h
  simp only[If,hZ];omega
 |z::l,i+1,u,v,h=>by
  simp only[Gx]at h
  simp only[Jc,hZ,YC n h];omega
theorem jcg (n:Str){l:List br}{i:Nat}{u v:br}(h:l[i]?=Ge u)(hv:v.uses=u.uses):hZ n (l.set i v)=hZ n l:=by
 rw[YC n h,hv];omega
theorem qzm (n:Str):∀ {l:List br},(∀u∈l,∀x∈u.uses,x.k≠n)→hZ n l=0
 | [],_=>rfl
 |u::l,h=>by
  simp only[hZ,q5b n (h u (Gt ..)),qzm n (fun y hy=>h y (Gj _ hy))];rfl
theorem YD (n:Str):∀ {l:List br},(∀u∈l,∀x∈u.uses,1≤x.n)→0≤hZ n l
 | [],_=>G6 _
 |u::l,h=>by
  have h1:=PY n (h u (Gt ..))
  have h2:=YD n (fun y hy=>h y (Gj _ hy))
  simp only[hZ];omega
theorem q14 (n:Str):∀ {l:List br} {i:Nat} {u:br},(∀u∈l,∀x∈u.uses,1≤x.n)→l[i]?=Ge u→gT n u.uses≤hZ n l
 | [],i,u,_,h=>by simp at h
 |z::l,0,u,hp,h=>by
  simp only[Gv,Ge.injEq]at h
  subst h
  have:=YD n (fun y hy=>hp y (Gj _ hy))
  simp only[hZ];omega
 |z::l,i+1,u,hp,h=>by
  simp only[Gx]at h
  have h1:=q14 n (fun y hy=>hp y (Gj _ hy)) h
  have h2:=PY n (hp z (Gt ..))
  simp only[hZ];omega
theorem jjo {α β:Type}{key:α→β}{l:List α}(h:zt key l){i j:Nat}{a b:α}(ha:l[i]?=Ge a)(hb:l[j]?=Ge b)(qH:i≠j):key a≠key b:=by
 intro e
 have hn:(l.map key).Nodup:=h
 have h1:(l.map key)[i]?=Ge (key a):=by rw[Gl,ha];rfl
 have h2:(l.map key)[j]?=Ge (key b):=by rw[Gl,hb];rfl
 obtain⟨i1,e1⟩:=I.1 h1
 obtain⟨j1,e2⟩:=I.1 h2
 have hp:=List.pairwise_iff_getElem.1 hn
 rcases Nat.lt_or_gt_of_ne qH with hl|hl
 ·exact hp i j i1 j1 hl (e1.trans (e.trans e2.symm))
 ·exact hp j i j1 i1 hl (e2.trans (e.symm.trans e1.symm))
structure gv (j:Nat)(r:bj):Prop where
 au:∀(k:Nat) (x:jc),r.au[k]?=Ge x→0≤x.left∧x.count≤10000∧x.left+hZ x.name r.units=x.count
 uses:∀u∈r.units,∀x∈u.uses,1≤x.n
 told:∀u∈r.units,0≤u.ah∧u.ah≤j
theorem gv.empty (d:Int):gv 0 ⟨d,[],[],[]⟩:=⟨by simp,by simp,by simp⟩
theorem gv.mono {i j:Nat}{r:bj}(w:gv i r)(h:i≤j):gv j r:=⟨w.au,w.uses,fun u hu=>⟨(w.told u hu).1,by have:=(w.told u hu).2;omega⟩⟩
theorem gv.same {j:Nat}{r:bj}(w:gv j r){ps:List cY}{d:Int}:gv j ⟨d,r.au,ps,r.units⟩:=⟨w.au,w.uses,w.told⟩
theorem gv.ay {j:Nat}{r:bj}(w:gv j r){i:Nat}{u v:br}(hu:r.units[i]?=Ge u)(h1:v.uses=u.uses)(h2:0≤v.ah∧v.ah≤j):gv j (Go.W.ay r i v):=by
 refine⟨fun k x hx=>?_,fun y hy=>?_,fun y hy=>?_⟩
 ·have:=w.au k x hx
  show _∧_∧x.left+hZ x.name (r.units.set i v)=_
  rw[jcg _ hu h1];exact this
 ·rcases Gm hy with h|h
  ·exact w.uses y h
  ·rw[h,h1];exact w.uses u (Es hu)
 ·rcases Gm hy with h|h
  ·exact w.told y h
  ·rw[h];exact h2
theorem gv.b4 {j:Nat}{r:bj}(w:gv j r){i:Nat}{x y:jc}(hx:r.au[i]?=Ge x)(h:y.name=x.name∧y.left=x.left∧y.count=x.count):gv j (Go.W.b4 r i y):=by
 refine⟨fun k z hz=>?_,w.uses,w.told⟩
 have hz:(r.au.set i y)[k]?=Ge z:=hz
 by_cases hk:i=k
 ·subst hk
  rw[Gd (I.1 hx).1]at hz
  cases hz
  have:=w.au i x hx
  rw[h.1,h.2.1,h.2.2]
  exact this
 ·rw[Ga hk]at hz
  exact w.au k z hz
def JK (wrap:Int→Int):Prop:=∀n:Int,0≤n→n≤1000000→wrap n=n
theorem q8v {wrap:Int→Int}(hw:JK wrap){l:List bn}{k:Str}{n:Int}(h1:1≤n)(hp:∀x∈l,1≤x.n)(hb:n+gT k l≤1000000)(m:Str):gT m (jP wrap l k n)=gT m l+(if k=m then n else 0)∧∀x∈jP wrap l k n,1≤x.n:=by
 unfold jP
 cases hi:l.findIdx? (df k)with
 |none=>
  refine⟨by rw[qvq];simp[gT],fun x hx=>?_⟩
  rcases Gf.1 hx with h|h
  ·exact hp x h
  ·rw[Gz.1 h];exact h1
 |some i=>
  obtain⟨x,hx,hk,_⟩:=bQ hi
  have hk:x.k=k:=by simpa[df]using hk
  have hle:=q7x k hp hx hk
  have Ak:=hp x (Es hx)
  have JL:wrap (n+x.n)=n+x.n:=hw _ (by omega) (by omega)
  simp only[hx,JL]
  refine⟨?_,fun y hy=>?_⟩
  ·rw[q72 m hx,hk]
   by_cases e:k=m
   ·simp only[if_pos e];omega
   ·simp only[if_neg e];omega
  ·rcases Gm hy with h|h
   ·exact hp y h
   ·rw[h];show 1≤n+x.n;omega
theorem gv.use {wrap:Int→Int}(hw:JK wrap){j:Nat}{r:bj}(w:gv j r)(w2:iC r){i k:Nat}{u:br}{x:jc}{n:Int}(hu:r.units[i]?=Ge u)(hx:r.au[k]?=Ge x)(h1:1≤n)(h2:n≤x.left):gv j (Go.W.ay (Go.W.b4 r k { x with left:=wrap (x.left-n) }) i { u with uses:=jP wrap u.uses x.name n }):=by
 obtain⟨l0,l1,l2⟩:=w.au k x hx
 have hum:=Es hu
 have hg:=q14 x.name w.uses hu
 have hb:n+gT x.name u.uses≤1000000:=by omega
 have JL:wrap (x.left-n)=x.left-n:=hw _ (by omega) (by have:=YD x.name w.uses;omega)
 have ht:=fun m=>q8v hw (k:=x.name) h1 (w.uses u hum) hb m
 refine⟨fun q z hz=>?_,fun y hy=>?_,fun y hy=>?_⟩
 ·have hz:(r.au.set k { x with left:=wrap (x.left-n) })[q]?=Ge z:=hz
  show 0≤z.left∧z.count≤10000∧z.left+hZ z.name (r.units.set i { u with uses:=jP wrap u.uses x.name n })=z.count
  rw[YC _ hu,(ht z.name).1]
  by_cases hk:k=q
  ·subst hk
   rw[Gd (I.1 hx).1]at hz
   cases hz
   simp only[JL,if_true]
   omega
  ·rw[Ga hk]at hz
   have bL:x.name≠z.name:=jjo (key:=fun x:jc=>x.name) w2.au hx hz hk
   rw[if_neg bL]
   have:=w.au q z hz
   omega
 ·rcases Gm hy with h|h
  ·exact w.uses y h
  ·rw[h];exact(ht x.name).2
 ·rcases Gm hy with h|h
  ·exact w.told y h
  ·rw[h];exact w.told u hum
theorem gv.uC {j:Nat}{r:bj}(w:gv j r){u:br}(h1:u.uses=[])(h2:0≤u.ah∧u.ah≤j):gv j { r with units:=r.units++[u] }:=by
 refine⟨fun k x hx=>?_,fun y hy=>?_,fun y hy=>?_⟩
 ·have:=w.au k x hx
  show 0≤x.left∧x.count≤10000∧x.left+hZ x.name (r.units++[u])=x.count
  rw[qr0]
  simp only[hZ,h1,gT]
  omega
 ·rcases Gf.1 hy with h|h
  ·exact w.uses y h
  ·rw[Gz.1 h,h1];simp
 ·rcases Gf.1 hy with h|h
  ·exact w.told y h
  ·rw[Gz.1 h];exact h2
theorem gv.xB {j:Nat}{r:bj}(w:gv j r)(w1:WF r){x:jc}(hn:(zm r x.name).isSome=G7)(h1:x.left=x.count)(h2:0≤x.count∧x.count≤10000):gv j { r with au:=r.au++[x] }:=by
 refine⟨fun k y hy=>?_,w.uses,w.told⟩
 have hy:(r.au++[x])[k]?=Ge y:=hy
 rw[List.getElem?_append]at hy
 split at hy
 ·exact w.au k y hy
 ·have hz:hZ x.name r.units=0:=qzm _ fun u hu z hz e=>by
   have:=(w1.uses u hu).2 z hz
   rw[e,hn]at this;cases this
  have hm:y∈[x]:=Es hy
  rw[Gz.1 hm]
  show 0≤x.left∧x.count≤10000∧x.left+hZ x.name r.units=x.count
  rw[hz];omega
theorem jdb {wrap:Int→Int}(hw:JK wrap){j:Nat}(hj:j≤1000){r r':bj}{e:dR}(w1:WF r)(w2:iC r)(w:gv j r)(hv:∀i,0≤vl e i)(ha:apply wrap r e=.ok r'):gv (j+1) r':=by
 have mC:∀ {i:Nat} {u:br},r.units[i]?=Ge u→0≤u.ah∧u.ah≤((j+1:Nat):Int):=fun h=>by
  have:=w.told _ (Es h);omega
 have wj:=w.mono (Nat.le_succ j)
 unfold apply at ha
 split at ha
 ·unfold l7 at ha
  split at ha
  ·split at ha
   ·cases ha
   rename_i hn
   split at ha
   ·cases ha
   rename_i hb
   split at ha
   ·cases ha
   cases ha
   exact wj.xB w1 (by simpa using hn) rfl ⟨hv 1,by show vl e 1≤10000;omega⟩
  split at ha
  ·repeat' split at ha
   all_goals first|(cases ha;done)|skip
   cases ha
   exact wj.same
  ·repeat' split at ha
   all_goals first|(cases ha;done)|skip
   cases ha
   exact wj.uC rfl ⟨G6 _,by show(0:Int)≤_;omega⟩
 split at ha
 ·unfold kj at ha
  repeat' split at ha
  all_goals first|(cases ha;done)|(cases ha;exact wj.same)
 split at ha
 ·unfold lE at ha
  split at ha
  ·cases ha
  split at ha
  ·cases ha
  rename_i hx
  repeat' split at ha
  all_goals first|(cases ha;done)|(cases ha;exact wj.b4 hx ⟨rfl,rfl,rfl⟩)
 unfold l8 at ha
 split at ha
 ·cases ha
 split at ha
 ·cases ha
 rename_i _ i hi _ u hu
 split at ha
 ·unfold pO at ha
  split at ha
  ·cases ha
  split at ha
  ·cases ha
  rename_i _ k hk _ x hx
  split at ha
  ·cases ha
  split at ha
  ·cases ha
  rename_i h0
  split at ha
  ·cases ha
  split at ha
  ·cases ha
  split at ha
  ·cases ha
  rename_i hle
  cases ha
  exact wj.use hw w2 hu hx (by have:=hv 1;omega) (by omega)
 split at ha
 ·unfold pP at ha
  split at ha
  ·cases ha
  split at ha
  ·cases ha
  rename_i _ k hk _ v vb
  split at ha
  ·cases ha
  rename_i rE
  repeat' split at ha
  all_goals first|(cases ha;done)|skip
  cases ha
  refine(wj.ay hu (v:={ u with partner:=v.name }) rfl (mC (u:=u) hu)).ay (u:=v) ?_ rfl (mC (u:=v) vb)
  show(r.units.set i _)[k]?=_
  rw[Ga rE];exact vb
 repeat' split at ha
 all_goals first|(cases ha;done)|skip
 ·cases ha;exact wj.ay hu rfl (mC (u:=u) hu)
 ·cases ha;exact wj.ay hu rfl (mC (u:=u) hu)
 ·cases ha;exact wj.ay hu rfl (mC (u:=u) hu)
 ·cases ha
  have:=w.told _ (Es hu)
  have JL:wrap (u.ah+1)=u.ah+1:=hw _ (by omega) (by omega)
  exact wj.ay hu rfl (by show 0≤wrap _∧wrap _≤_;rw[JL];omega)
theorem jd6 {wrap:Int→Int}(hw:JK wrap){j:Nat}(hj:j≤1000){r r':bj}{e:dR}(w1:WF r)(w2:iC r)(w:gv j r)(hv:∀i,0≤vl e i)(h:after wrap r e=.ok r'):gv (j+1) r':=by
 unfold after at h
 split at h
 ·cases h
 split at h
 ·cases h
 rename_i r1 ha
 cases h
 have:=jdb hw hj w1 w2 w hv ha
 exact⟨this.au,this.uses,this.told⟩
theorem je0 {e:dR}(h:jn e=0)(i:Nat):0≤vl e i∧vl e i≤999999999:=by
 have hall:e.values.all (fun n=>decide (0≤n)&&decide (n≤999999999))=Hb:=by
  unfold jn at h
  split at h
  ·cases h
  split at h
  ·cases h
  split at h
  ·cases h
  split at h
  ·cases h
  split at h
  ·cases h
  rename_i hh
  simpa using hh
 unfold vl
 cases hi:e.values[i]? with
 |none=>exact⟨G6 _,by decide⟩
 |some v=>
  have:=Jg.1 hall v (Es hi)
  simpa using this
theorem eL.wf3 {wrap:Int→Int}(hw:JK wrap){h:yv}(o:eL wrap h)(hl:h.1.length≤1000):∀(j:Nat) (r:bj),h.2[j]?=Ge r→gv j r
 |0,r,hr=>by rw[o.first]at hr;cases hr;exact gv.empty 0
 |j+1,r,hr=>by
  have bz:=(I.1 hr).1
  have hll:=o.len
  have h1:j<h.1.length:=by omega
  have h2:j<h.2.length:=by omega
  obtain⟨r',k1,k2⟩:=o.next j _ _ (En h1) (En h2)
  rw[k1]at hr;cases hr
  have hj:=En h2
  exact jd6 hw (by omega) (o.wf j _ hj) (o.Me j _ hj) (eL.wf3 hw o hl j _ hj) (fun i=>(je0 (o.kinds _ (G4 h1)).1 i).1) k2
end Go.W
namespace Go.W
structure fg (x y:jc):Prop where
 name:y.name=x.name
 kind:y.kind=x.kind
 count:y.count=x.count
 left:y.left≤x.left
structure dX (x y:br):Prop where
 name:y.name=x.name
 version:x.version≤y.version
 results:x.results.length≤y.results.length
 told:x.ah≤y.ah
structure dY (x y:cY):Prop where
 name:y.name=x.name
 aM:x.aM.length≤y.aM.length
def dC {α:Type}(R:α→α→Prop)(l m:List α):Prop:=∀(i:Nat) (x:α),l[i]?=Ge x→∃y,m[i]?=Ge y∧R x y
theorem dC.refl {α:Type}{R:α→α→Prop}(hR:∀x,R x x)(l:List α):dC R l l:=fun i x h=>⟨x,h,hR x⟩
theorem dC.trans {α:Type}{R:α→α→Prop}(hR:∀x y z,R x y→R y z→R x z){l m k:List α}(h1:dC R l m)(h2:dC R m k):dC R l k:=fun i x h=>by
 obtain⟨y,a1,a2⟩:=h1 i x h
 obtain⟨z,b1,b2⟩:=h2 i y a1
 exact⟨z,b1,hR _ _ _ a2 b2⟩
theorem dC.add {α:Type}{R:α→α→Prop}(hR:∀x,R x x)(l m:List α):dC R l (l++m):=fun i x h=>⟨x,by rw[Gi (I.1 h).1];exact h,hR x⟩
theorem dC.set {α:Type}{R:α→α→Prop}(hR:∀x,R x x){l:List α}{i:Nat}{x y:α}(hx:l[i]?=Ge x)(pS:R x y):dC R l (l.set i y):=fun k z hz=>by
 by_cases hk:i=k
 ·subst hk
  rw[hx]at hz;cases hz
  exact⟨y,Gd (I.1 hx).1,pS⟩
 ·exact⟨z,by rw[Ga hk];exact hz,hR z⟩
theorem dC.len {α:Type}{R:α→α→Prop}{l m:List α}(h:dC R l m):l.length≤m.length:=by
 rcases Jj m.length l.length with hl|hl
 ·obtain⟨y,a1,_⟩:=h m.length _ (En hl)
  have:=(I.1 a1).1
  omega
 ·exact hl
theorem fg.refl (x:jc):fg x x:=⟨rfl,rfl,rfl,G6 _⟩
theorem dX.refl (x:br):dX x x:=⟨rfl,G6 _,Np _,G6 _⟩
theorem dY.refl (x:cY):dY x x:=⟨rfl,Np _⟩
theorem fg.trans (x y z:jc)(h:fg x y)(g:fg y z):fg x z:=⟨g.name.trans h.name,g.kind.trans h.kind,g.count.trans h.count,L9 g.left h.left⟩
theorem dX.trans (x y z:br)(h:dX x y)(g:dX y z):dX x z:=⟨g.name.trans h.name,L9 h.version g.version,Le h.results g.results,L9 h.told g.told⟩
theorem dY.trans (x y z:cY)(h:dY x y)(g:dY y z):dY x z:=⟨g.name.trans h.name,Le h.aM g.aM⟩
structure fI (r s:bj):Prop where
 au:dC fg r.au s.au
 units:dC dX r.units s.units
 fH:dC dY r.ae s.ae
theorem fI.refl (r:bj):fI r r:=⟨.refl fg.refl _,.refl dX.refl _,.refl dY.refl _⟩
theorem fI.trans {r s t:bj}(h:fI r s)(g:fI s t):fI r t:=⟨h.au.trans fg.trans g.au,h.units.trans dX.trans g.units,h.fH.trans dY.trans g.fH⟩
theorem fI.gq {r:bj}{l:List jc}(h:dC fg r.au l):fI r { r with au:=l }:=⟨h,.refl dX.refl _,.refl dY.refl _⟩
theorem fI.gS {r:bj}{l:List cY}(h:dC dY r.ae l):fI r { r with ae:=l }:=⟨.refl fg.refl _,.refl dX.refl _,h⟩
end Go.W
namespace Go.W
structure dh (x y:br):Prop where
 name:y.name=x.name
 aq:y.aq=x.aq
 same:x.aq=Hb→y.version=x.version∧y.uses=x.uses∧y.results=x.results∧y.partner=x.partner
theorem dh.refl (x:br):dh x x:=⟨rfl,rfl,fun _=>⟨rfl,rfl,rfl,rfl⟩⟩
theorem dh.trans (x y z:br)(h:dh x y)(g:dh y z):dh x z:=⟨g.name.trans h.name,g.aq.trans h.aq,fun hx=>by
 obtain⟨a,b,c,d⟩:=h.same hx
 obtain⟨a',b',c',d'⟩:=g.same (h.aq.trans hx)
 exact⟨a'.trans a,b'.trans b,c'.trans c,d'.trans d⟩⟩
structure cE (r s:bj):Prop where
 old:dC dh r.units s.units
 new:∀(i:Nat) (y:br),r.units.length≤i→s.units[i]?=Ge y→y.aq=G7
theorem cE.same {r s:bj}(h:s.units=r.units):cE r s:=by
 refine⟨by rw[h];exact .refl dh.refl _,fun i y hi hy=>?_⟩
 rw[h]at hy
 have:=(I.1 hy).1
 omega
theorem cE.set {r s:bj}{i:Nat}{x y:br}(hx:r.units[i]?=Ge x)(hs:s.units=r.units.set i y)(pS:dh x y):cE r s:=by
 refine⟨by rw[hs];exact .set dh.refl hx pS,fun k z hi hz=>?_⟩
 rw[hs]at hz
 have:=(I.1 hz).1
 rw[List.length_set]at this
 omega
theorem cE.trans {r s t:bj}(h:cE r s)(g:cE s t):cE r t:=by
 refine⟨h.old.trans dh.trans g.old,fun i y hi hy=>?_⟩
 rcases Jj i s.units.length with hl|hl
 ·obtain⟨z,z1,z2⟩:=g.old i _ (En hl)
  rw[hy]at z1;cases z1
  rw[z2.aq]
  exact h.new i _ hi (En hl)
 ·exact g.new i y hl hy
theorem ja6 {wrap:Int→Int}{r r':bj}{e:dR}(hk:e.kind≠yw)(ha:apply wrap r e=.ok r'):cE r r':=by
 unfold apply at ha
 split at ha
 ·unfold l7 at ha
  repeat' split at ha
  all_goals first|(cases ha;done)|skip
  ·cases ha;exact .same rfl
  ·cases ha;exact .same rfl
  ·cases ha
   refine⟨.add dh.refl _ _,fun i y hi hy=>?_⟩
   rw[G3 hi]at hy
   rw[Gz.1 (Es hy)]
 split at ha
 ·unfold kj at ha
  repeat' split at ha
  all_goals first|(cases ha;done)|(cases ha;exact .same rfl)
 split at ha
 ·unfold lE at ha
  repeat' split at ha
  all_goals first|(cases ha;done)|(cases ha;exact .same rfl)
 unfold l8 at ha
 split at ha
 ·cases ha
 split at ha
 ·cases ha
 rename_i _ i hi _ u hu
 split at ha
 ·unfold pO at ha
  split at ha
  ·cases ha
  split at ha
  ·cases ha
  split at ha
  ·cases ha
  rename_i hs
  repeat' split at ha
  all_goals first|(cases ha;done)|skip
  cases ha
  exact .set hu rfl ⟨rfl,rfl,fun h=>absurd h hs⟩
 split at ha
 ·unfold pP at ha
  split at ha
  ·cases ha
  split at ha
  ·cases ha
  rename_i _ k eQ _ v hv
  split at ha
  ·cases ha
  rename_i rE
  split at ha
  ·cases ha
  split at ha
  ·cases ha
  rename_i hs
  split at ha
  ·cases ha
  cases ha
  have h1:¬u.aq=Hb:=fun h=>hs (.inl h)
  have h2:¬v.aq=Hb:=fun h=>hs (.inr h)
  refine cE.trans (s:=ay r i { u with partner:=v.name }) (.set hu rfl ⟨rfl,rfl,fun h=>absurd h h1⟩) (.set (x:=v) ?_ rfl ⟨rfl,rfl,fun h=>absurd h h2⟩)
  show(r.units.set i _)[k]?=_
  rw[Ga rE];exact hv
 split at ha
 ·split at ha
  ·cases ha
  rename_i hs
  repeat' split at ha
  all_goals first|(cases ha;done)|skip
  cases ha;exact .set hu rfl ⟨rfl,rfl,fun h=>absurd h hs⟩
 split at ha
 ·split at ha
  ·cases ha
  rename_i hs
  repeat' split at ha
  all_goals first|(cases ha;done)|skip
  cases ha;exact .set hu rfl ⟨rfl,rfl,fun h=>absurd h hs⟩
 try rw[if_neg hk]at ha
 split at ha
 ·cases ha
 cases ha
 exact .set hu rfl ⟨rfl,rfl,fun _=>⟨rfl,rfl,rfl,rfl⟩⟩
theorem qun {wrap:Int→Int}{r r':bj}{e:dR}(hk:e.kind≠yw)(h:after wrap r e=.ok r'):cE r r':=by
 unfold after at h
 split at h
 ·cases h
 split at h
 ·cases h
 rename_i r1 ha
 cases h
 have:=ja6 hk ha
 exact⟨this.old,this.new⟩
end Go.W
namespace Go.W
theorem qx2 {wrap:Int→Int}{l m:List dR}{i:Nat}{h h':yv}(hr:yn wrap i h (l++m)=.ok h'):∃q,yn wrap i h l=.ok q∧yn wrap (i+l.length) q m=.ok h':=by
 rw[Md]at hr
 cases hq:yn wrap i h l with
 |error x=>rw[hq]at hr;cases hr
 |ok q=>rw[hq]at hr;exact⟨q,rfl,hr⟩
theorem jbw {wrap:Int→Int}{l m:List dR}{h':yv}(hr:run wrap (l++m)=.ok h'):∃q,run wrap l=.ok q∧yn wrap l.length q m=.ok h':=by
 unfold run at hr ⊢
 split at hr
 ·cases hr
 rename_i hl
 rw[Gs]at hl
 obtain⟨q,h1,h2⟩:=qx2 hr
 rw[if_neg (by omega)]
 rw[Nat.zero_add]at h2
 exact⟨q,h1,h2⟩
end Go.W
namespace Go.W
theorem q1y {wrap:Int→Int}{h h':yv}{k:Int}{e:dR}(o:eL wrap h)(ha:accept wrap h k e=.ok h'):
  (e.kind≠y8∧after wrap (now h) e=.ok (now h'))∨(e.kind=y8∧∃c,c.kind≠yw∧after wrap (now h') c=.ok (now h)):=by
 unfold accept at ha
 split at ha
 ·cases ha
 split at ha
 ·rename_i hu
  refine .inr ⟨hu,?_⟩
  split at ha
  ·cases ha
  ·rename_i c hc
   split at ha
   ·cases ha
   rename_i hs
   cases ha
   have gI:0<h.1.length:=by
    cases hh:h.1 with
    |nil=>rw[hh]at hc;simp at hc
    |cons _ _=>simp
   have hl:=o.len
   have hn:=o.now
   have dT:h.1[h.1.length-1]?=Ge c:=by rw[←G5];exact hc
   have hr:∃r,h.2[h.1.length-1]?=Ge r:=⟨_,En (by omega)⟩
   obtain⟨r,hr⟩:=hr
   obtain⟨r',k1,k2⟩:=o.next _ _ _ dT hr
   rw[show h.1.length-1+1=h.1.length by omega,hn]at k1
   cases k1
   refine⟨c,hs,?_⟩
   have:now (h.1.dropLast,h.2.dropLast)=r:=by
    unfold now
    show(h.2.dropLast.getLast?).getD mc=r
    rw[G5,Jo,Ha,if_pos (by omega),show h.2.length-1-1=h.1.length-1 by omega,hr]
    rfl
   rw[this];exact k2
 ·rename_i hu
  split at ha
  ·cases ha
  ·rename_i r hr
   cases ha
   refine .inl ⟨hu,?_⟩
   rw[hr]
   congr 1
   unfold now
   simp
def jhu (a u:br):Prop:=u.version=a.version∧u.uses.length=a.uses.length∧u.results.length=a.results.length∧u.partner=a.partner
structure dy (M:Str→br)(S:bj):Prop where
 ent:∀n,(M n).name≠[]→∃u∈S.units,u.name=n∧u.aq=Hb∧jhu (M n) u
 has:∀u∈S.units,u.aq=Hb→(M u.name).name≠[]
theorem dy.empty {M:Str→br}(hM:∀n,(M n).name=[]){S:bj}(h:S.units=[]):dy M S:=
 ⟨fun n hn=>absurd (hM n) hn,fun u hu=>by rw[h]at hu;cases hu⟩
theorem dy.fwd {M:Str→br}{r s:bj}(k:cE r s)(v:dy M r):dy M s:=by
 refine⟨fun n hn=>?_,fun y hy hs=>?_⟩
 ·obtain⟨u,u0,u1,u2,u3⟩:=v.ent n hn
  obtain⟨i,hi⟩:=Gp u0
  obtain⟨y,y1,y2⟩:=k.old i u hi
  obtain⟨a,b,c,d⟩:=y2.same u2
  exact⟨y,Es y1,y2.name.trans u1,y2.aq.trans u2,a.trans u3.1,by rw[b];exact u3.2.1,by rw[c];exact u3.2.2.1,d.trans u3.2.2.2⟩
 ·obtain⟨i,hi⟩:=Gp hy
  rcases Jj i r.units.length with hl|hl
  ·obtain⟨z,z1,z2⟩:=k.old i _ (En hl)
   rw[hi]at z1;cases z1
   rw[z2.name]
   exact v.has _ (G4 hl) (z2.aq.symm.trans hs)
  ·rw[k.new i y hl hi]at hs;cases hs
theorem dy.bwd {M:Str→br}{r s:bj}(k:cE r s)(v:dy M s):dy M r:=by
 refine⟨fun n hn=>?_,fun x hx hs=>?_⟩
 ·obtain⟨y,y0,y1,y2,y3⟩:=v.ent n hn
  obtain⟨i,hi⟩:=Gp y0
  rcases Jj i r.units.length with hl|hl
  ·obtain⟨z,z1,z2⟩:=k.old i _ (En hl)
   rw[hi]at z1;cases z1
   have nf:=z2.aq.symm.trans y2
   obtain⟨a,b,c,d⟩:=z2.same nf
   exact⟨_,G4 hl,z2.name.symm.trans y1,nf,a.symm.trans y3.1,by rw[←b];exact y3.2.1,by rw[←c];exact y3.2.2.1,d.symm.trans y3.2.2.2⟩
  ·rw[k.new i y hl hi]at y2;cases y2
 ·obtain⟨i,hi⟩:=Gp hx
  obtain⟨y,y1,y2⟩:=k.old i x hi
  rw[←y2.name]
  exact v.has y (Es y1) (y2.aq.trans hs)
theorem dy.step {wrap:Int→Int}{M:Str→br}{h h':yv}{k:Int}{e:dR}(o:eL wrap h)(ha:accept wrap h k e=.ok h')(hs:e.kind≠yw)(v:dy M (now h)):dy M (now h'):=by
 rcases q1y o ha with⟨_,h1⟩|⟨_,c,c1,c2⟩
 ·exact v.fwd (qun hs h1)
 ·exact v.bwd (qun c1 c2)
end Go.W
