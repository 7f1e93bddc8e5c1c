/- The register of chapter 10 in plain lists. -/
set_option linter.unusedVariables false
set_option linter.unusedSimpArgs false
open List renaming getElem?_eq_some_iff→I,getElem?_eq_getElem→Ea,mem_of_getElem?→Eb,getElem?_set_ne→Ec,getElem?_set_self→Ek,getElem?_append_left→En,mem_append→E3,findIdx?_cons→Gc,getElem?_map→Ha,getElem?_of_mem→Hy,getElem?_append_right→Hz,getElem?_inj→Ib,getElem?_dropLast→If,mem_cons→Jg,mem_map_of_mem→Jn,ext_getElem?→Jp,length_cons→Jq,all_eq_true→N1,getElem_mem→N4,map_set→N7
open Option renaming some→Hb,bind_some→Hu,some_get→N5
open Ne renaming symm→H2
namespace Go.W
abbrev Str:=List UInt8
structure fV where
 k:Str
 n:Int
 deriving DecidableEq
structure rh where
 k:Str
 a:Int
 b:Int
 deriving DecidableEq
structure iO where
 name:Str
 kind:Str
 count:Int
 left:Int
 held:Bool
 deriving DecidableEq
structure tR where
 bG:List fV
 bI:List rh
 deriving DecidableEq
structure lN where
 name:Str
 bY:tR
 cq:List tR
 deriving DecidableEq
structure j8 where
 name:Str
 product:Str
 version:Int
 uses:List fV
 results:List rh
 partner:Str
 shipped:Bool
 aQ:Int
 deriving DecidableEq
structure jo where
 day:Int
 lots:List iO
 aI:List lN
 units:List j8
 deriving DecidableEq
structure cB where
 number:Int
 kind:Str
 names:List Str
 values:List Int
 text:Str
 deriving DecidableEq
def oe (r:jo)(n:Str):Option Nat:=r.lots.findIdx? fun x=>decide (x.name=n)
def wT (r:jo)(n:Str):Option Nat:=r.aI.findIdx? fun x=>decide (x.name=n)
def J4 (r:jo)(n:Str):Option Nat:=r.units.findIdx? fun x=>decide (x.name=n)
def mU (r:jo)(n:Str):Option lN:=(wT r n).bind fun k=>r.aI[k]?
def RC (r:jo)(u:j8):Option Int:=(mU r u.product).map fun p=>(p.cq.length:Int)
def J5 (l:List tR)(v:Int):Option tR:=if 1≤v then l[(v-1).toNat]? else none
def lY (r:jo)(u:j8):Option tR:=(mU r u.product).bind fun p=>J5 p.cq u.version
def jcp (r:jo)(n:Str):Option iO:=(oe r n).bind fun k=>r.lots[k]?
theorem c7 {α:Type}{p:α→Bool}{l:List α}{k:Nat}(h:l.findIdx? p=Hb k):∃x,l[k]?=Hb x∧p x=true∧k<l.length∧∀j x,j<k→l[j]?=Hb x→p x=false:=by
 induction l generalizing k with
 |nil=>simp at h
 |cons y l ih=>
  rw[Gc]at h
  by_cases hp:p y=true
  ·rw[if_pos hp]at h
   cases h
   exact⟨y,rfl,hp,by simp,fun j x hj=>by omega⟩
  ·rw[if_neg hp]at h
   obtain⟨i,hi,rfl⟩:=Option.map_eq_some_iff.1 h
   obtain⟨x,h1,h2,h3,h4⟩:=ih hi
   refine⟨x,by simpa using h1,h2,by simp;omega,fun j z hj hz=>?_⟩
   cases j with
   |zero=>simp at hz;subst hz;simpa using hp
   |succ j=>exact h4 j z (by omega) (by simpa using hz)
theorem eS {α:Type}{p:α→Bool}{l:List α}:l.findIdx? p=none↔∀x∈l,p x=false:=by
 induction l with
 |nil=>simp
 |cons y l ih=>
  rw[Gc]
  by_cases hp:p y=true
  ·rw[if_pos hp];simp[hp]
  ·rw[if_neg hp]
   have dH:p y=false:=by simpa using hp
   simp[ih,dH]
def rp {α:Type}(same:α→Bool)(x:α)(l:List α):List α:=match l.findIdx? same with
 |some i=>l.set i x
 |none=>l++[x]
def zo {α β:Type}(key:α→β)(l:List α):Prop:=(l.map key).Nodup
theorem ZY {α:Type}{p:α→Bool}{l:List α}:l.any p=(l.findIdx? p).isSome:=by
 induction l with
 |nil=>rfl
 |cons y l ih=>
  rw[Gc,List.any_cons]
  by_cases hp:p y=true
  ·rw[if_pos hp,hp];rfl
  ·rw[if_neg hp]
   have:p y=false:=by simpa using hp
   rw[this,Bool.false_or,ih]
   cases l.findIdx? p<;>rfl
theorem qub {α β:Type}[DecidableEq β]{key:α→β}{k:β}{x:α}(hx:key x=k):∀ {l:List α} {i:Nat},zo key l→l.findIdx? (fun y=>decide (key y=k))=Hb i→zo key (l.set i x):=by
 intro l i h hi
 obtain⟨y,h1,h2,h3,_⟩:=c7 hi
 have:(l.set i x).map key=l.map key:=by
  rw[N7]
  apply Jp
  intro j
  by_cases hj:j=i
  ·subst hj
   rw[Ek (by simpa using h3),Ha,h1]
   simp at h2;simp[hx,h2]
  ·rw[Ec (H2 hj)]
 unfold zo;rw[this];exact h
theorem J6 {α β:Type}[DecidableEq β]{key:α→β}{k:β}{x:α}{l:List α}(hx:key x=k)(h:zo key l):zo key (rp (fun y=>decide (key y=k)) x l):=by
 unfold rp
 cases hi:l.findIdx? (fun y=>decide (key y=k))with
 |some i=>exact qub hx h hi
 |none=>
  rw[eS]at hi
  unfold zo at *
  rw[List.map_append,List.nodup_append]
  refine⟨h,by simp,?_⟩
  intro a ha b hb
  simp at hb
  subst hb
  obtain⟨z,hz,rfl⟩:=List.mem_map.1 ha
  have:=hi z hz
  rw[hx];simpa using this
theorem qye {α β:Type}{key:α→β}{l:List α}(p:α→Bool)(h:zo key l):zo key (l.filter p):=
 List.Nodup.sublist (List.Sublist.map key List.filter_sublist) h
end Go.W
namespace Go.W
def BE:Str:=[108,111,116]
def BF:Str:=[112,114,111,100,117,99,116]
def BG:Str:=[110,101,101,100]
def BH:Str:=[116,101,115,116]
def EI:Str:=[105,115,115,117,101]
def tU:Str:=[98,117,105,108,100]
def EJ:Str:=[117,115,101]
def EK:Str:=[109,101,97,115,117,114,101]
def EL:Str:=[117,112,100,97,116,101]
def EM:Str:=[112,97,105,114]
def BI:Str:=[104,111,108,100]
def EN:Str:=[102,114,101,101]
def BJ:Str:=[115,104,105,112]
def IJ:Str:=[99,111,109,112,108,97,105,110]
def BK:Str:=[117,110,100,111]
def jjn (wrap:Int→Int)(r:jo)(u:j8)(kind:Str):Int:=u.uses.foldl (fun n x=>if(jcp r x.k).any (fun l=>decide (l.kind=kind))then wrap (n+x.n)else n) 0
def jif (u:j8)(t:rh):Bool:=u.results.foldl (fun is x=>if decide (x.k=t.k)&&decide (x.a=u.version)then decide (t.a≤x.b)&&decide (x.b≤t.b)else is) false
def q9l (d:tR)(u:j8):List Str:=(d.bI.filter fun t=>!jif u t).map (·.k)
def q4n (wrap:Int→Int)(r:jo)(d:tR)(u:j8):Bool:=d.bG.all fun n=>decide (n.n≤jjn wrap r u n.k)
def ji6 (r:jo)(u:j8):Bool:=u.uses.any fun x=>(jcp r x.k).any (·.held)
def q6n (wrap:Int→Int)(r:jo)(u:j8):Int:=
 if u.shipped then 21 else if RC r u≠Hb u.version then 32 else
 match lY r u with
 |none=>20
 |some d=>if !q4n wrap r d u then 20 else if !(q9l d u).isEmpty then 31 else if ji6 r u then 34 else 0
def bW (r:jo)(i:Nat)(x:iO):jo:={ r with lots:=r.lots.set i x }
def bQ (r:jo)(i:Nat)(x:lN):jo:={ r with aI:=r.aI.set i x }
def aw (r:jo)(i:Nat)(x:j8):jo:={ r with units:=r.units.set i x }
def sV (k:Str)(x:fV):Bool:=decide (x.k=k)
def RD (k:Str)(x:rh):Bool:=decide (x.k=k)
def BS (l:List fV)(k:Str)(n:Int):List fV:=if n=0 then l.filter (fun x=>!sV k x)else rp (sV k) ⟨k,n⟩ l
def mL (wrap:Int→Int)(l:List fV)(k:Str)(n:Int):List fV:=match l.findIdx? (sV k)with
 |some i=>(match l[i]? with
  |some x=>l.set i ⟨k,wrap (n+x.n)⟩
  |none=>l)
 |none=>l++[⟨k,n⟩]
def nm (e:cB)(i:Nat):Str:=(e.names[i]?).getD []
def vl (e:cB)(i:Nat):Int:=(e.values[i]?).getD 0
abbrev ur:=Except Int jo
def EV (r:jo)(e:cB):ur:=
 if e.kind=BE then
  (if(oe r (nm e 0)).isSome then .error 9 else if vl e 1<1∨10000<vl e 1 then .error 3 else if 64≤r.lots.length then .error 5 else
   .ok { r with lots:=r.lots++[⟨nm e 0,nm e 1,vl e 1,vl e 1,false⟩] })
 else if e.kind=BF then
  (if(wT r (nm e 0)).isSome then .error 9 else if 16≤r.aI.length then .error 5 else .ok { r with aI:=r.aI++[⟨nm e 0,⟨[],[]⟩,[]⟩] })
 else match mU r (nm e 1)with
  |none=>.error 10
  |some p=>if(J4 r (nm e 0)).isSome then .error 9 else if p.cq.isEmpty then .error 32 else if 256≤r.units.length then .error 5 else
    .ok { r with units:=r.units++[⟨nm e 0,nm e 1,p.cq.length,[],[],[],false,0⟩] }
def EW (r:jo)(e:cB):ur:=match wT r (nm e 0)with
 |none=>.error 10
 |some i=>match r.aI[i]? with
  |none=>.error 10
  |some p=>
   if e.kind=BG then
    (if vl e 1<0∨10000<vl e 1 then .error 3 else if 0<vl e 1∧!(p.bY.bG.any (sV (nm e 1)))∧16≤p.bY.bG.length then .error 5 else
     .ok (bQ r i { p with bY:={ p.bY with bG:=BS p.bY.bG (nm e 1) (vl e 1) } }))
   else if e.kind=BH then
    (if vl e 2<vl e 1 then .error 11 else if !(p.bY.bI.any (RD (nm e 1)))∧16≤p.bY.bI.length then .error 5 else
     .ok (bQ r i { p with bY:={ p.bY with bI:=rp (RD (nm e 1)) ⟨nm e 1,vl e 1,vl e 2⟩ p.bY.bI } }))
   else(if p.bY.bG.isEmpty then .error 12 else if 100≤p.cq.length then .error 5 else .ok (bQ r i { p with cq:=p.cq++[p.bY] }))
def EX (r:jo)(e:cB):ur:=match oe r (nm e 0)with
 |none=>.error 10
 |some i=>match r.lots[i]? with
  |none=>.error 10
  |some x=>if e.kind=BI then(if x.held then .error 34 else .ok (bW r i { x with held:=true }))else(if !x.held then .error 20 else .ok (bW r i { x with held:=false }))
def EZ (wrap:Int→Int)(r:jo)(i:Nat)(u:j8)(e:cB):ur:=match oe r (nm e 1)with
 |none=>.error 10
 |some k=>match r.lots[k]? with
  |none=>.error 10
  |some x=>if u.shipped then .error 21 else if vl e 1=0 then .error 3 else if x.held then .error 34 else
   if !((lY r u).any fun d=>d.bG.any (sV x.kind))then .error 7 else if x.left<vl e 1 then .error 4 else
    .ok (aw (bW r k { x with left:=wrap (x.left-vl e 1) }) i { u with uses:=mL wrap u.uses x.name (vl e 1) })
def E0 (r:jo)(i:Nat)(u:j8)(e:cB):ur:=match J4 r (nm e 1)with
 |none=>.error 10
 |some k=>match r.units[k]? with
  |none=>.error 10
  |some v=>if i=k then .error 9 else if u.product≠v.product∨u.version≠v.version then .error 30 else if u.shipped∨v.shipped then .error 21 else
   if u.partner≠[]∨v.partner≠[]then .error 35 else .ok (aw (aw r i { u with partner:=v.name }) k { v with partner:=u.name })
def EY (wrap:Int→Int)(r:jo)(e:cB):ur:=match J4 r (nm e 0)with
 |none=>.error 10
 |some i=>match r.units[i]? with
  |none=>.error 10
  |some u=>
   if e.kind=EJ then EZ wrap r i u e
   else if e.kind=EM then E0 r i u e
   else if e.kind=EK then
    (if u.shipped then .error 21 else if !((lY r u).any fun d=>d.bI.any (RD (nm e 1)))then .error 7 else if 64≤u.results.length then .error 5 else
     .ok (aw r i { u with results:=u.results++[⟨nm e 1,u.version,vl e 1⟩] }))
   else if e.kind=EL then
    (if u.shipped then .error 21 else match RC r u with
     |none=>.error 32
     |some v=>if u.version=v then .error 32 else .ok (aw r i { u with version:=v }))
   else if e.kind=BJ then(if q6n wrap r u≠0 then .error (q6n wrap r u)else .ok (aw r i { u with shipped:=true }))
   else(if !u.shipped then .error 20 else .ok (aw r i { u with aQ:=wrap (u.aQ+1) }))
def apply (wrap:Int→Int)(r:jo)(e:cB):ur:=
 if e.kind=BE∨e.kind=BF∨e.kind=tU then EV r e
 else if e.kind=BG∨e.kind=BH∨e.kind=EI then EW r e
 else if e.kind=BI∨e.kind=EN then EX r e
 else EY wrap r e
def after (wrap:Int→Int)(r:jo)(e:cB):ur:=if vl e 0<r.day then .error 20 else match apply wrap r e with
 | .error x=>.error x
 | .ok r'=>.ok { r' with day:=vl e 0 }
structure WF (r:jo):Prop where
 bG:∀p∈r.aI,zo (·.k) p.bY.bG∧p.bY.bG.length≤16
 bI:∀p∈r.aI,zo (·.k) p.bY.bI∧p.bY.bI.length≤16
 dU:∀u∈r.units,(lY r u).isSome
 uses:∀u∈r.units,zo (·.k) u.uses∧∀x∈u.uses,(oe r x.k).isSome
theorem WF.empty (d:Int):WF ⟨d,[],[],[]⟩:=⟨by simp,by simp,by simp,by simp⟩
theorem findIdx?_append {α:Type}{p:α→Bool}{l m:List α}{k:Nat}(h:l.findIdx? p=Hb k):(l++m).findIdx? p=Hb k:=by
 rw[List.findIdx?_append,h];rfl
theorem fG {α:Type}{p:α→Bool}{l:List α}{i:Nat}{x y:α}(hy:l[i]?=Hb y)(F9:p x=p y):(l.set i x).findIdx? p=l.findIdx? p:=by
 induction l generalizing i with
 |nil=>rfl
 |cons z l ih=>
  cases i with
  |zero=>
   simp at hy;subst hy
   rw[List.set_cons_zero,Gc,Gc,F9]
  |succ i=>
   rw[List.set_cons_succ,Gc,Gc,ih (by simpa using hy)]
theorem qjs {r r':jo}{u:j8}(h:∀n p,mU r n=Hb p→∃p',mU r' n=Hb p'∧∃m,p'.cq=p.cq++m)(hp:(lY r u).isSome):(lY r' u).isSome:=by
 unfold lY at *
 cases hq:mU r u.product with
 |none=>rw[hq]at hp;simp at hp
 |some p=>
  rw[hq]at hp
  obtain⟨p',h1,m,h2⟩:=h _ _ hq
  rw[h1]
  simp only[Hu,J5]at hp ⊢
  split at hp
  ·rename_i hv
   rw[if_pos hv,h2]
   have aC:=(I.1 (N5 hp).symm).1
   rw[En aC];exact hp
  ·simp at hp
theorem q0c {r r':jo}(h:r'.aI=r.aI)(n:Str):mU r' n=mU r n:=by unfold mU wT;rw[h]
theorem q38 {r r':jo}(h:r'.aI=r.aI)(u:j8):lY r' u=lY r u:=by unfold lY;rw[q0c h]
theorem wU {r r':jo}{u:j8}(hp:(lY r u).isSome)(h:r'.aI=r.aI:=by rfl):(lY r' u).isSome:=by rw[q38 h];exact hp
theorem q4k {r:jo}{i:Nat}{p p':lN}(hp:r.aI[i]?=Hb p)(hn:p'.name=p.name)(hd:∃m,p'.cq=p.cq++m)(n:Str)(q:lN)(hq:mU r n=Hb q):∃q',mU (bQ r i p') n=Hb q'∧∃m,q'.cq=q.cq++m:=by
 unfold mU wT at *
 simp only[bQ]
 rw[fG hp (by simp[hn])]
 cases hk:r.aI.findIdx? (fun x=>decide (x.name=n))with
 |none=>rw[hk]at hq;simp at hq
 |some k=>
  rw[hk]at hq
  simp only[Hu]at hq ⊢
  have aC:=(I.1 hp).1
  by_cases vJ:k=i
  ·subst vJ
   rw[hp]at hq;cases hq
   exact⟨p',by rw[Ek aC],hd⟩
  ·exact⟨q,by rw[Ec (H2 vJ)];exact hq,[],by simp⟩
theorem tY {α:Type}{l:List α}{i:Nat}{x y:α}(h:y∈l.set i x):y∈l∨y=x:=List.mem_or_eq_of_mem_set h
theorem qzj {wrap:Int→Int}{l:List fV}{k:Str}{n:Int}(h:zo (·.k) l):zo (·.k) (mL wrap l k n):=by
 unfold mL
 cases hi:l.findIdx? (sV k)with
 |none=>
  have:=J6 (key:=fun x:fV=>x.k) (k:=k) (x:=⟨k,n⟩) rfl h
  unfold rp at this
  rw[show l.findIdx? (fun y=>decide (y.k=k))=none from hi]at this
  exact this
 |some i=>
  obtain⟨x,h1,_⟩:=c7 hi
  simp only[h1]
  exact qub rfl h hi
theorem q37 {wrap:Int→Int}{l:List fV}{k:Str}{n:Int}{x:fV}(h:x∈mL wrap l k n):x.k=k∨x∈l:=by
 unfold mL at h
 split at h
 ·split at h
  ·rcases tY h with h|rfl
   ·exact .inr h
   ·exact .inl rfl
  ·exact .inr h
 ·rcases E3.1 h with h|h
  ·exact .inr h
  ·simp at h;subst h;exact .inl rfl
theorem qt4 {r:jo}{i:Nat}{x y:iO}(hx:r.lots[i]?=Hb x)(hn:y.name=x.name)(n:Str):oe (bW r i y) n=oe r n:=by
 unfold oe bW;exact fG hx (by simp[hn])
theorem WF.aw {r:jo}(w:WF r){i:Nat}{u u':j8}(hu:r.units[i]?=Hb u)(hp:(lY r u').isSome)(hk:zo (·.k) u'.uses∧∀x∈u'.uses,(oe r x.k).isSome):WF (aw r i u'):=by
 refine⟨w.bG,w.bI,?_,?_⟩
 ·intro v hv
  refine wU (r:=r) ?_
  rcases tY hv with hv|rfl
  ·exact w.dU v hv
  ·exact hp
 ·intro v hv
  rcases tY hv with hv|rfl
  ·exact w.uses v hv
  ·exact hk
theorem WF.bW {r:jo}(w:WF r){i:Nat}{x y:iO}(hx:r.lots[i]?=Hb x)(hn:y.name=x.name):WF (bW r i y):=
 ⟨w.bG,w.bI,fun u hu=>wU (w.dU u hu),fun u hu=>⟨(w.uses u hu).1,fun z hz=>by rw[qt4 hx hn];exact(w.uses u hu).2 z hz⟩⟩
theorem WF.bQ {r:jo}(w:WF r){i:Nat}{p p':lN}(hp:r.aI[i]?=Hb p)(hn:p'.name=p.name)(hd:∃m,p'.cq=p.cq++m)(h1:zo (·.k) p'.bY.bG∧p'.bY.bG.length≤16)(h2:zo (·.k) p'.bY.bI∧p'.bY.bI.length≤16):WF (bQ r i p'):=by
 refine⟨?_,?_,?_,?_⟩
 ·intro q hq
  rcases tY hq with hq|rfl
  ·exact w.bG q hq
  ·exact h1
 ·intro q hq
  rcases tY hq with hq|rfl
  ·exact w.bI q hq
  ·exact h2
 ·intro u hu
  exact qjs (fun n q hq=>q4k hp hn hd n q hq) (w.dU u hu)
 ·exact w.uses
theorem qrw {α:Type}{p:α→Bool}{x:α}{l:List α}(h:l.length≤16)(h2:¬(!(l.any p)∧16≤l.length)):(rp p x l).length≤16:=by
 unfold rp
 cases hi:l.findIdx? p with
 |some i=>simpa using h
 |none=>
  have:l.any p=false:=by rw[ZY,hi];rfl
  simp[this]at h2
  simp;omega
theorem q3q {l:List fV}{k:Str}{n:Int}(h:zo (·.k) l∧l.length≤16)(h0:0≤n)(h2:¬(0<n∧!(l.any (sV k))∧16≤l.length)):zo (·.k) (BS l k n)∧(BS l k n).length≤16:=by
 unfold BS
 by_cases hn:n=0
 ·rw[if_pos hn]
  exact⟨qye _ h.1,Nat.le_trans (List.length_filter_le _ _) h.2⟩
 ·rw[if_neg hn]
  refine⟨J6 (key:=fun x:fV=>x.k) rfl h.1,qrw h.2 fun hh=>h2 ⟨by omega,hh.1,hh.2⟩⟩
theorem q7l {wrap:Int→Int}{r r':jo}{e:cB}(w:WF r)(h:after wrap r e=.ok r'):WF r':=by
 unfold after at h
 split at h
 ·cases h
 split at h
 ·cases h
 rename_i r1 ha
 cases h
 suffices hw:WF r1 from⟨hw.bG,hw.bI,fun u hu=>wU (hw.dU u hu),hw.uses⟩
 unfold apply at ha
 split at ha
 ·-- a new thing
  unfold EV at ha
  split at ha
  ·repeat' split at ha
   all_goals first|(cases ha;done)|skip
   cases ha
   exact⟨w.bG,w.bI,fun u hu=>wU (w.dU u hu),fun u hu=>⟨(w.uses u hu).1,fun x hx=>by
    have:=(w.uses u hu).2 x hx
    unfold oe at *
    obtain⟨k,hk⟩:=Option.isSome_iff_exists.1 this
    rw[findIdx?_append hk];rfl⟩⟩
  split at ha
  ·repeat' split at ha
   all_goals first|(cases ha;done)|skip
   cases ha
   refine⟨?_,?_,?_,w.uses⟩
   ·intro p hp
    rcases E3.1 hp with hp|hp
    ·exact w.bG p hp
    ·simp at hp;subst hp;exact⟨by simp[zo],by simp⟩
   ·intro p hp
    rcases E3.1 hp with hp|hp
    ·exact w.bI p hp
    ·simp at hp;subst hp;exact⟨by simp[zo],by simp⟩
   ·intro u hu
    refine qjs (fun n p hp=>⟨p,?_,[],by simp⟩) (w.dU u hu)
    unfold mU wT at *
    cases hk:r.aI.findIdx? (fun x=>decide (x.name=n))with
    |none=>rw[hk]at hp;simp at hp
    |some k=>
     rw[hk]at hp
     rw[findIdx?_append hk]
     simp only[Hu]at hp ⊢
     rw[En (I.1 hp).1];exact hp
  ·split at ha
   ·cases ha
   rename_i p hp
   repeat' split at ha
   all_goals first|(cases ha;done)|skip
   rename_i aS _
   cases ha
   refine⟨w.bG,w.bI,?_,?_⟩
   ·intro u hu
    refine wU (r:=r) ?_
    rcases E3.1 hu with hu|hu
    ·exact w.dU u hu
    ·simp at hu;subst hu
     unfold lY
     simp only[hp,Hu,J5]
     have:0<p.cq.length:=by
      cases hd:p.cq with
      |nil=>rw[hd]at aS;simp at aS
      |cons _ _=>simp
     rw[if_pos (by omega),Ea (by omega)];rfl
   ·intro u hu
    rcases E3.1 hu with hu|hu
    ·exact w.uses u hu
    ·simp at hu;subst hu;exact⟨by simp[zo],by simp⟩
 split at ha
 ·-- a product
  unfold EW at ha
  split at ha
  ·cases ha
  split at ha
  ·cases ha
  rename_i i hi p hp
  have cG:=Eb hp
  split at ha
  ·repeat' split at ha
   all_goals first|(cases ha;done)|skip
   rename_i hr h2
   cases ha
   exact w.bQ hp rfl ⟨[],by simp⟩ (q3q (w.bG p cG) (by omega) h2) (w.bI p cG)
  split at ha
  ·repeat' split at ha
   all_goals first|(cases ha;done)|skip
   rename_i hr h2
   cases ha
   exact w.bQ hp rfl ⟨[],by simp⟩ (w.bG p cG) ⟨J6 (key:=fun x:rh=>x.k) rfl (w.bI p cG).1,qrw (w.bI p cG).2 h2⟩
  ·repeat' split at ha
   all_goals first|(cases ha;done)|skip
   cases ha
   exact w.bQ hp rfl ⟨_,rfl⟩ (w.bG p cG) (w.bI p cG)
 split at ha
 ·-- a lot
  unfold EX at ha
  split at ha
  ·cases ha
  split at ha
  ·cases ha
  rename_i i hi x hx
  repeat' split at ha
  all_goals first|(cases ha;done)|(cases ha;exact w.bW hx rfl)
 ·-- a unit
  unfold EY at ha
  split at ha
  ·cases ha
  split at ha
  ·cases ha
  rename_i i hi u hu
  have cG:=Eb hu
  have pV:=w.dU u cG
  split at ha
  ·unfold EZ at ha
   split at ha
   ·cases ha
   split at ha
   ·cases ha
   rename_i _ k hk _ x hx
   repeat' split at ha
   all_goals first|(cases ha;done)|skip
   cases ha
   refine(w.bW (y:={ x with left:=wrap (x.left-vl e 1) }) hx rfl).aw (u':={ u with uses:=mL wrap u.uses x.name (vl e 1) }) hu (wU (r:=r) pV) ⟨qzj (w.uses u cG).1,fun z hz=>?_⟩
   rw[qt4 (y:={ x with left:=wrap (x.left-vl e 1) }) hx rfl]
   rcases q37 hz with hz|hz
   ·obtain⟨y,h1,h2,_⟩:=c7 hk
    rw[hx]at h1;cases h1
    simp at h2
    rw[hz,h2,hk];rfl
   ·exact(w.uses u cG).2 z hz
  split at ha
  ·unfold E0 at ha
   split at ha
   ·cases ha
   split at ha
   ·cases ha
   rename_i k hk v hv
   have wV:=Eb hv
   split at ha
   ·cases ha
   rename_i rZ
   repeat' split at ha
   all_goals first|(cases ha;done)|skip
   cases ha
   exact(w.aw (u':={ u with partner:=v.name }) hu pV (w.uses u cG)).aw (u':={ v with partner:=u.name }) (by simp only[aw];rw[Ec rZ];exact hv) (wU (r:=r) (w.dU v wV)) (w.uses v wV)
  split at ha
  ·repeat' split at ha
   all_goals first|(cases ha;done)|skip
   cases ha
   exact w.aw hu pV (w.uses u cG)
  split at ha
  ·split at ha
   ·cases ha
   split at ha
   ·cases ha
   rename_i v hv
   split at ha
   ·cases ha
   cases ha
   refine w.aw hu ?_ (w.uses u cG)
   unfold lY RC at *
   cases hq:mU r u.product with
   |none=>rw[hq]at hv;simp at hv
   |some p=>
    rw[hq]at hv pV
    simp only[Option.map_some,Hb.injEq,Hu]at hv pV ⊢
    subst hv
    unfold J5 at pV ⊢
    split at pV
    ·have aC:=(I.1 (N5 pV).symm).1
     rw[if_pos (by omega),Ea (by omega)];rfl
    ·simp at pV
  split at ha
  ·split at ha
   ·cases ha
   cases ha
   exact w.aw hu pV (w.uses u cG)
  ·split at ha
   ·cases ha
   cases ha
   exact w.aw hu pV (w.uses u cG)
end Go.W
namespace Go.W
def ey:List (Str×Nat×Nat):=[(BE,2,2),(BF,1,1),(BG,2,2),(BH,2,3),(EI,1,1),(tU,2,1),(EJ,2,2),(EK,2,2),(EL,1,1),(EM,2,1),(BI,1,1),(EN,1,1),(BJ,1,1),(IJ,1,1),(BK,0,0)]
def ln (k:Str):Option (Nat×Nat):=(ey.find? fun x=>decide (x.1=k)).map (·.2)
def rn (c:UInt8):Bool:=(decide (65≤c.toNat)&&decide (c.toNat≤90))||(decide (97≤c.toNat)&&decide (c.toNat≤122))
def BO (c:UInt8):Bool:=(decide (48≤c.toNat)&&decide (c.toNat≤57))||decide (c.toNat=95)
def b9 (s:Str):Bool:=match s with
 | []=>false
 |c::t=>rn c&&t.all (fun c=>rn c||BO c)&&decide (s.length≤24)
def zu (e:cB):Int:=
 if e.number<1∨1000<e.number then 3 else match ln e.kind with
 |none=>13
 |some f=>if e.names.length≠f.1∨e.values.length≠f.2 then 2 else if !(e.names.all b9)then 8 else if !(e.values.all fun n=>decide (0≤n)&&decide (n≤999999999))then 3 else if e.text≠[]then 1 else 0
abbrev iw:=List cB×List jo
def BR:jo:=⟨0,[],[],[]⟩
def now (h:iw):jo:=h.2.getLast?.getD BR
def accept (wrap:Int→Int)(h:iw)(k:Int)(e:cB):Except Int iw:=
 if e.number≠k then .error 11 else
 if e.kind=BK then(match h.1.getLast? with
  |none=>.error 12
  |some c=>if c.kind=BJ then .error 19 else .ok (h.1.dropLast,h.2.dropLast))
 else match after wrap (now h) e with
  | .error x=>.error x
  | .ok r=>.ok (h.1++[e],h.2++[r])
def kj (wrap:Int→Int):Nat→iw→List cB→Except (Int×Int) iw
 |_,h,[]=>.ok h
 |i,h,e::l=>if zu e≠0 then .error ((i:Int)+1,zu e)else match accept wrap h ((i:Int)+1) e with
  | .error x=>.error ((i:Int)+1,x)
  | .ok h'=>kj wrap (i+1) h' l
def run (wrap:Int→Int)(l:List cB):Except (Int×Int) iw:=if 1000<l.length then .error (0,5)else kj wrap 0 ([],[BR]) l
theorem qj8 (wrap:Int→Int):∀(l m:List cB) (i:Nat) (h:iw),kj wrap i h (l++m)=match kj wrap i h l with
  | .error x=>.error x
  | .ok h'=>kj wrap (i+l.length) h' m
 | [],m,i,h=>by simp[kj]
 |e::l,m,i,h=>by
  simp only[List.cons_append,kj]
  split
  ·rfl
  cases accept wrap h ((i:Int)+1) e with
  |error x=>rfl
  |ok h'=>simp only[];rw[qj8 wrap l m (i+1) h',Jq,show i+1+l.length=i+(l.length+1) by omega]
structure gm (wrap:Int→Int)(h:iw):Prop where
 len:h.2.length=h.1.length+1
 first:h.2[0]?=Hb BR
 next:∀j e r,h.1[j]?=Hb e→h.2[j]?=Hb r→∃r',h.2[j+1]?=Hb r'∧after wrap r e=.ok r'
 kinds:∀e∈h.1,zu e=0∧e.kind≠BK
theorem gm.empty {wrap:Int→Int}:gm wrap ([],[BR]):=⟨rfl,rfl,fun j e r h=>by simp at h,by simp⟩
theorem gm.now {wrap:Int→Int}{h:iw}(k:gm wrap h):h.2[h.1.length]?=Hb (Go.W.now h):=by
 unfold Go.W.now
 have hl:=k.len
 rw[List.getLast?_eq_getElem?,hl]
 have:h.1.length<h.2.length:=by omega
 simp[Ea this]
theorem gm.accept {wrap:Int→Int}{h h':iw}{k:Int}{e:cB}(o:gm wrap h)(hc:zu e=0)(ha:accept wrap h k e=.ok h'):gm wrap h':=by
 unfold Go.W.accept at ha
 split at ha
 ·cases ha
 split at ha
 ·split at ha
  ·cases ha
  ·rename_i c hc
   split at ha
   ·cases ha
   cases ha
   have oM:0<h.1.length:=by
    cases hh:h.1 with
    |nil=>rw[hh]at hc;simp at hc
    |cons _ _=>simp
   have hl:=o.len
   refine⟨by simp only[List.length_dropLast];omega,?_,?_,?_⟩
   ·rw[If,if_pos (by omega)];exact o.first
   ·intro j e' r h1 h2
    simp only[If]at h1 h2 ⊢
    split at h1
    ·rename_i hj
     rw[if_pos (by omega)]at h2
     rw[if_pos (by omega)]
     exact o.next j e' r h1 h2
    ·cases h1
   ·intro e' he
    exact o.kinds e' (List.mem_of_mem_take (by rwa [List.dropLast_eq_take]at he))
 ·rename_i hnu
  split at ha
  ·cases ha
  ·rename_i r hr
   cases ha
   have hl:=o.len
   refine⟨by simp only[List.length_append,Jq,List.length_nil];omega,?_,?_,?_⟩
   ·rw[En (by omega)];exact o.first
   ·intro j e' q h1 h2
    by_cases hj:j<h.1.length
    ·rw[En hj]at h1
     rw[En (by omega)]at h2
     obtain⟨r',k1,k2⟩:=o.next j e' q h1 h2
     exact⟨r',by rw[En (by have:=(I.1 k1).1;omega)];exact k1,k2⟩
    ·have hj':j=h.1.length:=by have:=(I.1 h1).1;simp at this;omega
     subst hj'
     rw[Hz (Nat.le_refl _)]at h1
     simp at h1;subst h1
     rw[En (by omega),o.now]at h2
     cases h2
     exact⟨r,by rw[Hz (by omega)];simp[hl],hr⟩
   ·intro e' he
    rcases E3.1 he with he|he
    ·exact o.kinds e' he
    ·simp at he;subst he;exact⟨hc,hnu⟩
theorem qps {wrap:Int→Int}:∀ {l:List cB} {i:Nat} {h h':iw},gm wrap h→kj wrap i h l=.ok h'→gm wrap h'
 | [],i,h,h',o,hr=>by simp only[kj]at hr;cases hr;exact o
 |e::l,i,h,h',o,hr=>by
  simp only[kj]at hr
  split at hr
  ·cases hr
  rename_i hc
  split at hr
  ·cases hr
  ·rename_i h1 ha
   exact qps (o.accept (by simpa using hc) ha) hr
theorem jkr {wrap:Int→Int}{l:List cB}{h:iw}(hr:run wrap l=.ok h):gm wrap h:=by
 unfold run at hr
 split at hr
 ·cases hr
 ·exact qps gm.empty hr
theorem gm.wf {wrap:Int→Int}{h:iw}(o:gm wrap h):∀(j:Nat) (r:jo),h.2[j]?=Hb r→WF r
 |0,r,hr=>by rw[o.first]at hr;cases hr;exact WF.empty 0
 |j+1,r,hr=>by
  have aC:=(I.1 hr).1
  have hl:=o.len
  have h1:j<h.1.length:=by omega
  obtain⟨r',k1,k2⟩:=o.next j _ _ (Ea h1) (Ea (by omega:j<h.2.length))
  rw[k1]at hr;cases hr
  exact q7l (gm.wf o j _ (Ea (by omega))) k2
theorem gm.E2 {wrap:Int→Int}{h:iw}(o:gm wrap h):WF (Go.W.now h):=o.wf _ _ o.now
end Go.W
namespace Go.W
structure gD (r:jo):Prop where
 units:zo (·.name) r.units
 named:∀u∈r.units,u.name≠[]
 hZ:∀u∈r.units,u.partner≠[]→∃v∈r.units,v.name=u.partner∧v.partner=u.name
 lots:zo (·.name) r.lots
 eT:zo (·.name) r.aI
 kinds:∀u∈r.units,∀v∈r.units,v.name=u.partner→v.product=u.product
theorem gD.empty (d:Int):gD ⟨d,[],[],[]⟩:=⟨by simp[zo],by simp,by simp,by simp[zo],by simp[zo],by simp⟩
theorem RE {α β:Type}[DecidableEq β]{key:α→β}{l:List α}{x:α}(h:zo key l)(hn:l.findIdx? (fun y=>decide (key y=key x))=none):zo key (l++[x]):=by
 have:=J6 (x:=x) rfl h
 unfold rp at this
 rw[hn]at this
 exact this
theorem qxo {α β:Type}{key:α→β}{l:List α}{i:Nat}{x y:α}(hy:l[i]?=Hb y)(hk:key x=key y):(l.set i x).map key=l.map key:=by
 rw[N7]
 apply Jp
 intro j
 by_cases hj:j=i
 ·subst hj
  have aC:=(I.1 hy).1
  rw[Ek (by simpa using aC),Ha,hy,hk];rfl
 ·rw[Ec (H2 hj)]
theorem Cm {α β:Type}{key:α→β}{l:List α}{i:Nat}{x y:α}(h:zo key l)(hy:l[i]?=Hb y)(hk:key x=key y):zo key (l.set i x):=by
 unfold zo at *;rw[qxo hy hk];exact h
theorem gD.aw {r:jo}(w:gD r){i:Nat}{u u':j8}(hu:r.units[i]?=Hb u)(h1:u'.name=u.name)(h2:u'.partner=u.partner)(h3:u'.product=u.product):gD (aw r i u'):=by
 have hm:=Eb hu
 have aC:=(I.1 hu).1
 -- each unit of the new list stands for one of the old with the same name,partner and product
 have old:∀v∈(Go.W.aw r i u').units,∃v0∈r.units,v0.name=v.name∧v0.partner=v.partner∧v0.product=v.product:=by
  intro v hv
  rcases tY hv with hv|rfl
  ·exact⟨v,hv,rfl,rfl,rfl⟩
  ·exact⟨u,hm,h1.symm,h2.symm,h3.symm⟩
 have new:∀v∈r.units,∃v1∈(Go.W.aw r i u').units,v1.name=v.name∧v1.partner=v.partner:=by
  intro v hv
  obtain⟨j,hj⟩:=Hy hv
  by_cases nJ:j=i
  ·subst nJ
   rw[hu]at hj;cases hj
   exact⟨u',Eb (i:=j) (by simp only[Go.W.aw];rw[Ek aC]),h1,h2⟩
  ·exact⟨v,Eb (i:=j) (by simp only[Go.W.aw];rw[Ec (H2 nJ)];exact hj),rfl,rfl⟩
 refine⟨Cm w.units hu h1,?_,?_,w.lots,w.eT,?_⟩
 ·intro v hv
  obtain⟨v0,k0,k1,_⟩:=old v hv
  rw[←k1];exact w.named v0 k0
 ·intro v hv hp
  obtain⟨v0,k0,k1,k2,_⟩:=old v hv
  obtain⟨z,z0,z1,z2⟩:=w.hZ v0 k0 (by rw[k2];exact hp)
  obtain⟨z',y0,y1,y2⟩:=new z z0
  exact⟨z',y0,by rw[y1,z1,k2],by rw[y2,z2,k1]⟩
 ·intro v hv z hz hn
  obtain⟨v0,k0,k1,k2,k3⟩:=old v hv
  obtain⟨z0,j0,j1,j2,Ga⟩:=old z hz
  rw[←Ga,←k3]
  exact w.kinds v0 k0 z0 j0 (by rw[j1,k2];exact hn)
theorem gD.fH {r:jo}(w:gD r){ls:List iO}(h:zo (·.name) ls):gD { r with lots:=ls }:=⟨w.units,w.named,w.hZ,h,w.eT,w.kinds⟩
theorem gD.ga {r:jo}(w:gD r){ps:List lN}(h:zo (·.name) ps):gD { r with aI:=ps }:=⟨w.units,w.named,w.hZ,w.lots,h,w.kinds⟩
theorem RF {α β:Type}{key:α→β}{l:List α}(h:zo key l){x y:α}(hx:x∈l)(hy:y∈l)(he:key x=key y):x=y:=by
 induction l with
 |nil=>cases hx
 |cons z l ih=>
  have hn:=List.nodup_cons.1 (by simpa[zo]using h:(key z::l.map key).Nodup)
  rcases Jg.1 hx with rfl|ew
  ·rcases Jg.1 hy with rfl|oG
   ·rfl
   ·exact absurd (by rw[he];exact Jn oG) hn.1
  ·rcases Jg.1 hy with rfl|oG
   ·exact absurd (by rw[←he];exact Jn ew) hn.1
   ·exact ih hn.2 ew oG
theorem q5j {wrap:Int→Int}{r r':jo}{e:cB}(w:gD r)(hc:e.names.all (fun s=>!s.isEmpty)=true)(hb:e.kind=tU→0<e.names.length)(h:after wrap r e=.ok r'):gD r':=by
 unfold after at h
 split at h
 ·cases h
 split at h
 ·cases h
 rename_i r1 ha
 cases h
 suffices hw:gD r1 from⟨hw.units,hw.named,hw.hZ,hw.lots,hw.eT,hw.kinds⟩
 unfold apply at ha
 split at ha
 ·rename_i Zb
  unfold EV at ha
  split at ha
  ·repeat' split at ha
   all_goals first|(cases ha;done)|skip
   rename_i hn _ _
   cases ha
   refine w.fH (RE w.lots ?_)
   simpa[oe]using hn
  split at ha
  ·repeat' split at ha
   all_goals first|(cases ha;done)|skip
   rename_i hn _
   cases ha
   refine w.ga (RE w.eT ?_)
   simpa[wT]using hn
  ·rename_i fp cS
   have iZ:e.kind=tU:=by rcases Zb with h|h|h<;>first|exact absurd h fp|exact absurd h cS|exact h
   split at ha
   ·cases ha
   rename_i p hp
   repeat' split at ha
   all_goals first|(cases ha;done)|skip
   rename_i hn _ _
   cases ha
   have qO:r.units.findIdx? (fun x=>decide (x.name=nm e 0))=none:=by simpa[J4]using hn
   have cL:∀v∈r.units,v.name≠nm e 0:=fun v hv=>by
    have:=(eS.1 qO) v hv
    simpa using this
   have aS:nm e 0≠[]:=by
    have hl:=hb iZ
    unfold nm
    rw[Ea hl]
    have:=N1.1 hc _ (N4 hl)
    simpa using this
   refine⟨RE w.units qO,?_,?_,w.lots,w.eT,?_⟩
   ·intro v hv
    rcases E3.1 hv with hv|hv
    ·exact w.named v hv
    ·simp at hv;subst hv;exact aS
   ·intro v hv dH
    rcases E3.1 hv with hv|hv
    ·obtain⟨z,z0,z1⟩:=w.hZ v hv dH
     exact⟨z,List.mem_append_left _ z0,z1⟩
    ·simp at hv;subst hv;simp at dH
   ·intro v hv z hz Cn
    rcases E3.1 hv with hv|hv
    ·rcases E3.1 hz with hz|hz
     ·exact w.kinds v hv z hz Cn
     ·simp at hz;subst hz
      -- the partner of an older unit is an older unit
      by_cases hpe:v.partner=[]
      ·rw[hpe]at Cn;exact absurd Cn aS
      ·obtain⟨y,y0,y1,_⟩:=w.hZ v hv hpe
       exact absurd (by rw[y1,←Cn]) (cL y y0)
    ·simp at hv;subst hv
     simp only at Cn
     rcases E3.1 hz with hz|hz
     ·exact absurd Cn (w.named z hz)
     ·simp at hz;subst hz;rfl
 split at ha
 ·unfold EW at ha
  split at ha
  ·cases ha
  split at ha
  ·cases ha
  rename_i _ i hi _ p hp
  have key:∀p':lN,p'.name=p.name→gD (bQ r i p'):=fun p' hn=>w.ga (Cm w.eT hp hn)
  repeat' split at ha
  all_goals first|(cases ha;done)|(cases ha;exact key _ rfl)
 split at ha
 ·unfold EX at ha
  split at ha
  ·cases ha
  split at ha
  ·cases ha
  rename_i _ i hi _ x hx
  have key:∀x':iO,x'.name=x.name→gD (bW r i x'):=fun x' hn=>w.fH (Cm w.lots hx hn)
  repeat' split at ha
  all_goals first|(cases ha;done)|(cases ha;exact key _ rfl)
 ·unfold EY at ha
  split at ha
  ·cases ha
  split at ha
  ·cases ha
  rename_i _ i hi _ u hu
  have hm:=Eb hu
  have key:∀u':j8,u'.name=u.name→u'.partner=u.partner→u'.product=u.product→gD (aw r i u'):=fun u' k1 k2 k3=>w.aw hu k1 k2 k3
  split at ha
  ·unfold EZ at ha
   split at ha
   ·cases ha
   split at ha
   ·cases ha
   rename_i _ k hk _ x hx
   repeat' split at ha
   all_goals first|(cases ha;done)|skip
   cases ha
   exact gD.aw (r:=bW r k { x with left:=wrap (x.left-vl e 1) }) (u':={ u with uses:=mL wrap u.uses x.name (vl e 1) }) (w.fH (Cm (x:={ x with left:=wrap (x.left-vl e 1) }) w.lots hx rfl)) hu rfl rfl rfl
  split at ha
  ·unfold E0 at ha
   split at ha
   ·cases ha
   split at ha
   ·cases ha
   rename_i _ k hk _ v hv
   split at ha
   ·cases ha
   rename_i rZ
   split at ha
   ·cases ha
   rename_i oz
   split at ha
   ·cases ha
   split at ha
   ·cases ha
   rename_i hnp
   cases ha
   have wV:=Eb hv
   have hup:u.partner=[]:=by by_cases h:u.partner=[]<;>simp_all
   have hvp:v.partner=[]:=by by_cases h:v.partner=[]<;>simp_all
   have uv:u.product=v.product:=by by_cases h:u.product=v.product<;>simp_all
   have RG:=(I.1 hu).1
   have hkv:=(I.1 hv).1
   have mb:(r.units.set i { u with partner:=v.name })[k]?=Hb v:=by rw[Ec rZ];exact hv
   have huv:u.name≠v.name:=fun he=>by
    have:=RF w.units hm wV he
    subst this
    -- the same unit at two places
    have oF:(r.units.map (·.name)).Nodup:=w.units
    have h1:(r.units.map (·.name))[i]?=Hb u.name:=by rw[Ha,hu];rfl
    have h2:(r.units.map (·.name))[k]?=Hb u.name:=by rw[Ha,hv];rfl
    have:=(Ib (by simpa using RG) oF).1 (h1.trans h2.symm)
    exact rZ this
   -- the units of the new list: the two,and the old ones but for them
   have mem:∀z∈(aw (aw r i { u with partner:=v.name }) k { v with partner:=u.name }).units,z={ u with partner:=v.name }∨z={ v with partner:=u.name }∨(z∈r.units∧z.name≠u.name∧z.name≠v.name):=by
    intro z hz
    obtain⟨j,hj⟩:=Hy hz
    simp only[aw]at hj
    by_cases RH:j=k
    ·subst RH
     rw[Ek (by simpa using hkv)]at hj
     cases hj;exact .inr (.inl rfl)
    rw[Ec (H2 RH)]at hj
    by_cases nJ:j=i
    ·subst nJ
     rw[Ek RG]at hj
     cases hj;exact .inl rfl
    rw[Ec (H2 nJ)]at hj
    have Ba:=(I.1 hj).1
    have oF:(r.units.map (·.name)).Nodup:=w.units
    have sk:(r.units.map (·.name))[j]?=Hb z.name:=by rw[Ha,hj];rfl
    refine .inr (.inr ⟨Eb hj,fun he=>nJ ?_,fun he=>RH ?_⟩)
    ·have h1:(r.units.map (·.name))[i]?=Hb u.name:=by rw[Ha,hu];rfl
     exact(Ib (by simpa using Ba) oF).1 (sk.trans (by rw[he];exact h1.symm))
    ·have h1:(r.units.map (·.name))[k]?=Hb v.name:=by rw[Ha,hv];rfl
     exact(Ib (by simpa using Ba) oF).1 (sk.trans (by rw[he];exact h1.symm))
   have inU:({ u with partner:=v.name }:j8)∈(aw (aw r i { u with partner:=v.name }) k { v with partner:=u.name }).units:=Eb (i:=i) (by simp only[aw];rw[Ec (H2 rZ),Ek RG])
   have inV:({ v with partner:=u.name }:j8)∈(aw (aw r i { u with partner:=v.name }) k { v with partner:=u.name }).units:=Eb (i:=k) (by simp only[aw];rw[Ek (by simpa using hkv)])
   have inZ:∀z∈r.units,z.name≠u.name→z.name≠v.name→z∈(aw (aw r i { u with partner:=v.name }) k { v with partner:=u.name }).units:=by
    intro z hz h1 h2
    obtain⟨j,hj⟩:=Hy hz
    refine Eb (i:=j) ?_
    simp only[aw]
    rw[Ec (fun e=>h2 (by subst e;rw[hv]at hj;cases hj;rfl)),Ec (fun e=>h1 (by subst e;rw[hu]at hj;cases hj;rfl))]
    exact hj
   refine⟨?_,?_,?_,w.lots,w.eT,?_⟩
   ·exact Cm (Cm w.units hu rfl) mb rfl
   ·intro z hz
    rcases mem z hz with rfl|rfl|⟨h,_⟩
    ·exact w.named u hm
    ·exact w.named v wV
    ·exact w.named z h
   ·intro z hz hp
    rcases mem z hz with rfl|rfl|⟨h,h1,h2⟩
    ·exact⟨_,inV,rfl,rfl⟩
    ·exact⟨_,inU,rfl,rfl⟩
    ·obtain⟨y,y0,y1,y2⟩:=w.hZ z h hp
     refine⟨y,inZ y y0 (fun e=>?_) (fun e=>?_),y1,y2⟩
     ·have:=RF w.units y0 hm e
      subst this
      rw[hup]at y2;exact w.named z h y2.symm
     ·have:=RF w.units y0 wV e
      subst this
      rw[hvp]at y2;exact w.named z h y2.symm
   ·intro z hz y hy wW
    rcases mem z hz with rfl|rfl|⟨h,h1,h2⟩
    ·rcases mem y hy with rfl|rfl|⟨k0,k1,k2⟩
     ·exact absurd wW huv
     ·exact uv.symm
     ·exact absurd wW k2
    ·rcases mem y hy with rfl|rfl|⟨k0,k1,k2⟩
     ·exact uv
     ·exact absurd wW (H2 huv)
     ·exact absurd wW k1
    ·rcases mem y hy with rfl|rfl|⟨k0,k1,k2⟩
     ·exact w.kinds z h u hm wW
     ·exact w.kinds z h v wV wW
     ·exact w.kinds z h y k0 wW
  repeat' split at ha
  all_goals first|(cases ha;done)|(cases ha;exact key _ rfl rfl rfl)
theorem qwf {e:cB}(h:zu e=0):e.names.all (fun s=>!s.isEmpty)=true∧∃f,ln e.kind=Hb f∧e.names.length=f.1∧e.values.length=f.2:=by
 unfold zu at h
 split at h
 ·cases h
 split at h
 ·cases h
 rename_i f hf
 split at h
 ·cases h
 rename_i hl
 split at h
 ·cases h
 rename_i hn
 refine⟨?_,f,hf,by by_cases hh:e.names.length=f.1<;>simp_all,by by_cases hh:e.values.length=f.2<;>simp_all⟩
 have hn:e.names.all b9=true:=by simpa using hn
 rw[N1]at hn ⊢
 intro s hs
 have:=hn s hs
 cases s with
 |nil=>simp[b9]at this
 |cons c t=>rfl
theorem gm.IL {wrap:Int→Int}{h:iw}(o:gm wrap h):∀(j:Nat) (r:jo),h.2[j]?=Hb r→gD r
 |0,r,hr=>by rw[o.first]at hr;cases hr;exact gD.empty 0
 |j+1,r,hr=>by
  have aC:=(I.1 hr).1
  have hl:=o.len
  have h1:j<h.1.length:=by omega
  obtain⟨r',k1,k2⟩:=o.next j _ _ (Ea h1) (Ea (by omega:j<h.2.length))
  rw[k1]at hr;cases hr
  obtain⟨c1,f,c2,fE,_⟩:=qwf (o.kinds _ (N4 h1)).1
  refine q5j (gm.IL o j _ (Ea (by omega))) c1 (fun hk=>?_) k2
  rw[hk]at c2
  have h2:ln tU=Hb (2,1):=by decide
  rw[h2]at c2
  have:f=(2,1):=(Hb.inj c2).symm
  rw[fE,this];decide
theorem gm.wk {wrap:Int→Int}{h:iw}(o:gm wrap h):gD (Go.W.now h):=o.IL _ _ o.now
end Go.W
