/- The register of chapter 10 in plain lists. -/
set_option linter.unusedVariables false
set_option linter.unusedSimpArgs false
namespace Go.W
abbrev Str:=List UInt8
structure qm where
 k:Str
 n:Int
 deriving DecidableEq
structure qk where
 k:Str
 a:Int
 b:Int
 deriving DecidableEq
structure qj where
 name:Str
 kind:Str
 count:Int
 left:Int
 held:Bool
 deriving DecidableEq
structure jf where
 needs:List qm
 tests:List qk
 deriving DecidableEq
structure jd where
 name:Str
 draft:jf
 docs:List jf
 deriving DecidableEq
structure qz where
 name:Str
 product:Str
 version:Int
 uses:List qm
 results:List qk
 partner:Str
 shipped:Bool
 complaints:Int
 deriving DecidableEq
structure qv where
 day:Int
 lots:List qj
 products:List jd
 units:List qz
 deriving DecidableEq
structure jg where
 number:Int
 kind:Str
 names:List Str
 values:List Int
 text:Str
 deriving DecidableEq
def kx (r:qv)(n:Str):Option Nat:=r.lots.findIdx? fun x=>decide (x.name=n)
def ky (r:qv)(n:Str):Option Nat:=r.products.findIdx? fun x=>decide (x.name=n)
def km (r:qv)(n:Str):Option Nat:=r.units.findIdx? fun x=>decide (x.name=n)
def qc0 (r:qv)(n:Str):Option jd:=(ky r n).bind fun k=>r.products[k]?
def qfu (r:qv)(u:qz):Option Int:=(qc0 r u.product).map fun p=>(p.docs.length:Int)
def q9k (l:List jf)(v:Int):Option jf:=if 1≤v then l[(v-1).toNat]? else none
def qct (r:qv)(u:qz):Option jf:=(qc0 r u.product).bind fun p=>q9k p.docs u.version
def qfd (r:qv)(n:Str):Option qj:=(kx r n).bind fun k=>r.lots[k]?
theorem findIdx?_get {α:Type}{p:α→Bool}{l:List α}{k:Nat}(h:l.findIdx? p=some k):∃x,l[k]?=some x∧p x=true∧k<l.length∧∀j x,j<k→l[j]?=some x→p x=false:=by
 induction l generalizing k with
 |nil=>simp at h
 |cons y l ih=>
  rw[List.findIdx?_cons]at h
  by_cases hp:p y=true
  ·rw[if_pos hp]at h
   cases h
   exact⟨y,rfl,hp,by simp,fun j x hj=>by omega⟩
  ·rw[if_neg hp]at h
   obtain⟨i,hi,rfl⟩:=Option.map_eq_some_iff.1 h
   obtain⟨x,h1,h2,h3,h4⟩:=ih hi
   refine⟨x,by simpa using h1,h2,by simp;omega,fun j z hj hz=>?_⟩
   cases j with
   |zero=>simp at hz;subst hz;simpa using hp
   |succ j=>exact h4 j z (by omega) (by simpa using hz)
theorem findIdx?_none {α:Type}{p:α→Bool}{l:List α}:l.findIdx? p=none↔∀x∈l,p x=false:=by
 induction l with
 |nil=>simp
 |cons y l ih=>
  rw[List.findIdx?_cons]
  by_cases hp:p y=true
  ·rw[if_pos hp];simp[hp]
  ·rw[if_neg hp]
   have hp':p y=false:=by simpa using hp
   simp[ih,hp']
def qbs {α:Type}(same:α→Bool)(x:α)(l:List α):List α:=match l.findIdx? same with
 |some i=>l.set i x
 |none=>l++[x]
def qx1 {α:Type}(same:α→Bool)(x:α)(l:List α):List α:=(l.map fun y=>if same y then x else y)++(if l.any same then []else [x])
def qb5 {α β:Type}(key:α→β)(l:List α):Prop:=(l.map key).Nodup
end Go.W
namespace Go.W
def qd8:Str:=[108,111,116]
def qbd:Str:=[112,114,111,100,117,99,116]
def qc2:Str:=[110,101,101,100]
def qc9:Str:=[116,101,115,116]
def qdh:Str:=[105,115,115,117,101]
def qc7:Str:=[98,117,105,108,100]
def qd7:Str:=[117,115,101]
def qbz:Str:=[109,101,97,115,117,114,101]
def qcw:Str:=[117,112,100,97,116,101]
def qda:Str:=[112,97,105,114]
def qdw:Str:=[104,111,108,100]
def qfg:Str:=[102,114,101,101]
def qb6:Str:=[115,104,105,112]
def qdk:Str:=[99,111,109,112,108,97,105,110]
def qek:Str:=[117,110,100,111]
def qnc (wrap:Int→Int)(r:qv)(u:qz)(kind:Str):Int:=u.uses.foldl (fun n x=>if(qfd r x.k).any (fun l=>decide (l.kind=kind))then wrap (n+x.n)else n) 0
def qfw (u:qz)(t:qk):Bool:=u.results.foldl (fun is x=>if decide (x.k=t.k)&&decide (x.a=u.version)then decide (t.a≤x.b)&&decide (x.b≤t.b)else is) false
def qft (d:jf)(u:qz):List Str:=(d.tests.filter fun t=>!qfw u t).map (·.k)
def qdm (wrap:Int→Int)(r:qv)(d:jf)(u:qz):Bool:=d.needs.all fun n=>decide (n.n≤qnc wrap r u n.k)
def qlk (r:qv)(u:qz):Bool:=u.uses.any fun x=>(qfd r x.k).any (·.held)
def qgn (wrap:Int→Int)(r:qv)(u:qz):Int:=
 if u.shipped then 21 else if qfu r u≠some u.version then 32 else
 match qct r u with
 |none=>20
 |some d=>if !qdm wrap r d u then 20 else if !(qft d u).isEmpty then 31 else if qlk r u then 34 else 0
def setLot (r:qv)(i:Nat)(x:qj):qv:={ r with lots:=r.lots.set i x }
def setProd (r:qv)(i:Nat)(x:jd):qv:={ r with products:=r.products.set i x }
def setUnit (r:qv)(i:Nat)(x:qz):qv:={ r with units:=r.units.set i x }
def isK (k:Str)(x:qm):Bool:=decide (x.k=k)
def isT (k:Str)(x:qk):Bool:=decide (x.k=k)
def qbn (l:List qm)(k:Str)(n:Int):List qm:=if n=0 then l.filter (fun x=>!isK k x)else qbs (isK k) ⟨k,n⟩ l
def qgg (wrap:Int→Int)(l:List qm)(k:Str)(n:Int):List qm:=match l.findIdx? (isK k)with
 |some i=>(match l[i]? with
  |some x=>l.set i ⟨k,wrap (n+x.n)⟩
  |none=>l)
 |none=>l++[⟨k,n⟩]
def nm (e:jg)(i:Nat):Str:=(e.names[i]?).getD []
def vl (e:jg)(i:Nat):Int:=(e.values[i]?).getD 0
abbrev Res:=Except Int qv
def qgr (r:qv)(e:jg):Res:=
 if e.kind=qd8 then
  (if(kx r (nm e 0)).isSome then .error 9 else if vl e 1<1∨10000<vl e 1 then .error 3 else if 64≤r.lots.length then .error 5 else
   .ok { r with lots:=r.lots++[⟨nm e 0,nm e 1,vl e 1,vl e 1,false⟩] })
 else if e.kind=qbd then
  (if(ky r (nm e 0)).isSome then .error 9 else if 16≤r.products.length then .error 5 else .ok { r with products:=r.products++[⟨nm e 0,⟨[],[]⟩,[]⟩] })
 else match qc0 r (nm e 1)with
  |none=>.error 10
  |some p=>if(km r (nm e 0)).isSome then .error 9 else if p.docs.isEmpty then .error 32 else if 256≤r.units.length then .error 5 else
    .ok { r with units:=r.units++[⟨nm e 0,nm e 1,p.docs.length,[],[],[],false,0⟩] }
def qb8 (r:qv)(e:jg):Res:=match ky r (nm e 0)with
 |none=>.error 10
 |some i=>match r.products[i]? with
  |none=>.error 10
  |some p=>
   if e.kind=qc2 then
    (if vl e 1<0∨10000<vl e 1 then .error 3 else if 0<vl e 1∧!(p.draft.needs.any (isK (nm e 1)))∧16≤p.draft.needs.length then .error 5 else
     .ok (setProd r i { p with draft:={ p.draft with needs:=qbn p.draft.needs (nm e 1) (vl e 1) } }))
   else if e.kind=qc9 then
    (if vl e 2<vl e 1 then .error 11 else if !(p.draft.tests.any (isT (nm e 1)))∧16≤p.draft.tests.length then .error 5 else
     .ok (setProd r i { p with draft:={ p.draft with tests:=qbs (isT (nm e 1)) ⟨nm e 1,vl e 1,vl e 2⟩ p.draft.tests } }))
   else(if p.draft.needs.isEmpty then .error 12 else if 100≤p.docs.length then .error 5 else .ok (setProd r i { p with docs:=p.docs++[p.draft] }))
def qln (r:qv)(e:jg):Res:=match kx r (nm e 0)with
 |none=>.error 10
 |some i=>match r.lots[i]? with
  |none=>.error 10
  |some x=>if e.kind=qdw then(if x.held then .error 34 else .ok (setLot r i { x with held:=true }))else(if !x.held then .error 20 else .ok (setLot r i { x with held:=false }))
def qpk (wrap:Int→Int)(r:qv)(i:Nat)(u:qz)(e:jg):Res:=match kx r (nm e 1)with
 |none=>.error 10
 |some k=>match r.lots[k]? with
  |none=>.error 10
  |some x=>if u.shipped then .error 21 else if vl e 1=0 then .error 3 else if x.held then .error 34 else
   if !((qct r u).any fun d=>d.needs.any (isK x.kind))then .error 7 else if x.left<vl e 1 then .error 4 else
    .ok (setUnit (setLot r k { x with left:=wrap (x.left-vl e 1) }) i { u with uses:=qgg wrap u.uses x.name (vl e 1) })
def qkv (r:qv)(i:Nat)(u:qz)(e:jg):Res:=match km r (nm e 1)with
 |none=>.error 10
 |some k=>match r.units[k]? with
  |none=>.error 10
  |some v=>if i=k then .error 9 else if u.product≠v.product∨u.version≠v.version then .error 30 else if u.shipped∨v.shipped then .error 21 else
   if u.partner≠[]∨v.partner≠[]then .error 35 else .ok (setUnit (setUnit r i { u with partner:=v.name }) k { v with partner:=u.name })
def qe2 (wrap:Int→Int)(r:qv)(e:jg):Res:=match km r (nm e 0)with
 |none=>.error 10
 |some i=>match r.units[i]? with
  |none=>.error 10
  |some u=>
   if e.kind=qd7 then qpk wrap r i u e
   else if e.kind=qda then qkv r i u e
   else if e.kind=qbz then
    (if u.shipped then .error 21 else if !((qct r u).any fun d=>d.tests.any (isT (nm e 1)))then .error 7 else if 64≤u.results.length then .error 5 else
     .ok (setUnit r i { u with results:=u.results++[⟨nm e 1,u.version,vl e 1⟩] }))
   else if e.kind=qcw then
    (if u.shipped then .error 21 else match qfu r u with
     |none=>.error 32
     |some v=>if u.version=v then .error 32 else .ok (setUnit r i { u with version:=v }))
   else if e.kind=qb6 then(if qgn wrap r u≠0 then .error (qgn wrap r u)else .ok (setUnit r i { u with shipped:=true }))
   else(if !u.shipped then .error 20 else .ok (setUnit r i { u with complaints:=wrap (u.complaints+1) }))
def z8 (wrap:Int→Int)(r:qv)(e:jg):Res:=
 if e.kind=qd8∨e.kind=qbd∨e.kind=qc7 then qgr r e
 else if e.kind=qc2∨e.kind=qc9∨e.kind=qdh then qb8 r e
 else if e.kind=qdw∨e.kind=qfg then qln r e
 else qe2 wrap r e
def after (wrap:Int→Int)(r:qv)(e:jg):Res:=if vl e 0<r.day then .error 20 else match z8 wrap r e with
 | .error x=>.error x
 | .ok r'=>.ok { r' with day:=vl e 0 }
structure WF (r:qv):Prop where
 needs:∀p∈r.products,qb5 (·.k) p.draft.needs∧p.draft.needs.length≤16
 tests:∀p∈r.products,qb5 (·.k) p.draft.tests∧p.draft.tests.length≤16
 papers:∀u∈r.units,(qct r u).isSome
 uses:∀u∈r.units,qb5 (·.k) u.uses∧∀x∈u.uses,(kx r x.k).isSome
theorem WF.empty (d:Int):WF ⟨d,[],[],[]⟩:=⟨by simp,by simp,by simp,by simp⟩
theorem findIdx?_append {α:Type}{p:α→Bool}{l m:List α}{k:Nat}(h:l.findIdx? p=some k):(l++m).findIdx? p=some k:=by
 rw[List.findIdx?_append,h];rfl
theorem findIdx?_set {α:Type}{p:α→Bool}{l:List α}{i:Nat}{x y:α}(hy:l[i]?=some y)(hxy:p x=p y):(l.set i x).findIdx? p=l.findIdx? p:=by
 induction l generalizing i with
 |nil=>rfl
 |cons z l ih=>
  cases i with
  |zero=>
   simp at hy;subst hy
   rw[List.set_cons_zero,List.findIdx?_cons,List.findIdx?_cons,hxy]
  |succ i=>
   rw[List.set_cons_succ,List.findIdx?_cons,List.findIdx?_cons,ih (by simpa using hy)]
theorem q5s {r r':qv}(h:r'.products=r.products)(n:Str):qc0 r' n=qc0 r n:=by unfold qc0 ky;rw[h]
theorem q7j {r r':qv}(h:r'.products=r.products)(u:qz):qct r' u=qct r u:=by unfold qct;rw[q5s h]
theorem qvz {r r':qv}{u:qz}(hp:(qct r u).isSome)(h:r'.products=r.products:=by rfl):(qct r' u).isSome:=by rw[q7j h];exact hp
theorem qev {α:Type}{l:List α}{i:Nat}{x y:α}(h:y∈l.set i x):y∈l∨y=x:=List.mem_or_eq_of_mem_set h
theorem jbo {r:qv}{i:Nat}{x y:qj}(hx:r.lots[i]?=some x)(hn:y.name=x.name)(n:Str):kx (setLot r i y) n=kx r n:=by
 unfold kx setLot;exact findIdx?_set hx (by simp[hn])
theorem WF.setUnit {r:qv}(w:WF r){i:Nat}{u u':qz}(hu:r.units[i]?=some u)(hp:(qct r u').isSome)(hk:qb5 (·.k) u'.uses∧∀x∈u'.uses,(kx r x.k).isSome):WF (setUnit r i u'):=by
 refine⟨w.needs,w.tests,?_,?_⟩
 ·intro v hv
  refine qvz (r:=r) ?_
  rcases qev hv with hv|rfl
  ·exact w.papers v hv
  ·exact hp
 ·intro v hv
  rcases qev hv with hv|rfl
  ·exact w.uses v hv
  ·exact hk
theorem WF.setLot {r:qv}(w:WF r){i:Nat}{x y:qj}(hx:r.lots[i]?=some x)(hn:y.name=x.name):WF (setLot r i y):=
 ⟨w.needs,w.tests,fun u hu=>qvz (w.papers u hu),fun u hu=>⟨(w.uses u hu).1,fun z hz=>by rw[jbo hx hn];exact(w.uses u hu).2 z hz⟩⟩
theorem WF.setProd {r:qv}(w:WF r){i:Nat}{p p':jd}(hp:r.products[i]?=some p)(hn:p'.name=p.name)(hd:∃m,p'.docs=p.docs++m)(h1:qb5 (·.k) p'.draft.needs∧p'.draft.needs.length≤16)(h2:qb5 (·.k) p'.draft.tests∧p'.draft.tests.length≤16):WF (setProd r i p'):=by
 refine⟨?_,?_,?_,?_⟩
 ·intro q hq
  rcases qev hq with hq|rfl
  ·exact w.needs q hq
  ·exact h1
 ·intro q hq
  rcases qev hq with hq|rfl
  ·exact w.tests q hq
  ·exact h2
 ·intro u hu
  exact paper_products (fun n q hq=>prodOf_set hp hn hd n q hq) (w.papers u hu)
 ·exact w.uses
end Go.W
namespace Go.W
def k_forms:List (Str×Nat×Nat):=[(qd8,2,2),(qbd,1,1),(qc2,2,2),(qc9,2,3),(qdh,1,1),(qc7,2,1),(qd7,2,2),(qbz,2,2),(qcw,1,1),(qda,2,1),(qdw,1,1),(qfg,1,1),(qb6,1,1),(qdk,1,1),(qek,0,0)]
def qax (k:Str):Option (Nat×Nat):=(k_forms.find? fun x=>decide (x.1=k)).map (·.2)
def qd1 (c:UInt8):Bool:=(decide (65≤c.toNat)&&decide (c.toNat≤90))||(decide (97≤c.toNat)&&decide (c.toNat≤122))
def qj7 (c:UInt8):Bool:=(decide (48≤c.toNat)&&decide (c.toNat≤57))||decide (c.toNat=95)
def isName (s:Str):Bool:=match s with
 | []=>false
 |c::t=>qd1 c&&t.all (fun c=>qd1 c||qj7 c)&&decide (s.length≤24)
def yx (e:jg):Int:=
 if e.number<1∨1000<e.number then 3 else match qax e.kind with
 |none=>13
 |some f=>if e.names.length≠f.1∨e.values.length≠f.2 then 2 else if !(e.names.all isName)then 8 else if !(e.values.all fun n=>decide (0≤n)&&decide (n≤999999999))then 3 else if e.text≠[]then 1 else 0
abbrev qb7:=List jg×List qv
def qbe:qv:=⟨0,[],[],[]⟩
def now (h:qb7):qv:=h.2.getLast?.getD qbe
def accept (wrap:Int→Int)(h:qb7)(k:Int)(e:jg):Except Int qb7:=
 if e.number≠k then .error 11 else
 if e.kind=qek then(match h.1.getLast? with
  |none=>.error 12
  |some c=>if c.kind=qb6 then .error 19 else .ok (h.1.dropLast,h.2.dropLast))
 else match after wrap (now h) e with
  | .error x=>.error x
  | .ok r=>.ok (h.1++[e],h.2++[r])
def qdj (wrap:Int→Int):Nat→qb7→List jg→Except (Int×Int) qb7
 |_,h,[]=>.ok h
 |i,h,e::l=>if yx e≠0 then .error ((i:Int)+1,yx e)else match accept wrap h ((i:Int)+1) e with
  | .error x=>.error ((i:Int)+1,x)
  | .ok h'=>qdj wrap (i+1) h' l
def run (wrap:Int→Int)(l:List jg):Except (Int×Int) qb7:=if 1000<l.length then .error (0,5)else qdj wrap 0 ([],[qbe]) l
structure je (wrap:Int→Int)(h:qb7):Prop where
 len:h.2.length=h.1.length+1
 first:h.2[0]?=some qbe
 next:∀j e r,h.1[j]?=some e→h.2[j]?=some r→∃r',h.2[j+1]?=some r'∧after wrap r e=.ok r'
 kinds:∀e∈h.1,yx e=0∧e.kind≠qek
theorem je.empty {wrap:Int→Int}:je wrap ([],[qbe]):=⟨rfl,rfl,fun j e r h=>by simp at h,by simp⟩
theorem je.now {wrap:Int→Int}{h:qb7}(k:je wrap h):h.2[h.1.length]?=some (Go.W.now h):=by
 unfold Go.W.now
 have hl:=k.len
 rw[List.getLast?_eq_getElem?,hl]
 have:h.1.length<h.2.length:=by omega
 simp[List.getElem?_eq_getElem this]
theorem je.accept {wrap:Int→Int}{h h':qb7}{k:Int}{e:jg}(o:je wrap h)(hc:yx e=0)(ha:accept wrap h k e=.ok h'):je wrap h':=by
 unfold Go.W.accept at ha
 split at ha
 ·cases ha
 split at ha
 ·split at ha
  ·cases ha
  ·rename_i c hc
   split at ha
   ·cases ha
   cases ha
   have hpos:0<h.1.length:=by
    cases hh:h.1 with
    |nil=>rw[hh]at hc;simp at hc
    |cons _ _=>simp
   have hl:=o.len
   refine⟨by simp only[List.length_dropLast];omega,?_,?_,?_⟩
   ·rw[List.getElem?_dropLast,if_pos (by omega)];exact o.first
   ·intro j e' r h1 h2
    simp only[List.getElem?_dropLast]at h1 h2 ⊢
    split at h1
    ·rename_i hj
     rw[if_pos (by omega)]at h2
     rw[if_pos (by omega)]
     exact o.next j e' r h1 h2
    ·cases h1
   ·intro e' he
    exact o.kinds e' (List.mem_of_mem_take (by rwa [List.dropLast_eq_take]at he))
 ·rename_i hnu
  split at ha
  ·cases ha
  ·rename_i r hr
   cases ha
   have hl:=o.len
   refine⟨by simp only[List.length_append,List.length_cons,List.length_nil];omega,?_,?_,?_⟩
   ·rw[List.getElem?_append_left (by omega)];exact o.first
   ·intro j e' q h1 h2
    by_cases hj:j<h.1.length
    ·rw[List.getElem?_append_left hj]at h1
     rw[List.getElem?_append_left (by omega)]at h2
     obtain⟨r',k1,k2⟩:=o.next j e' q h1 h2
     exact⟨r',by rw[List.getElem?_append_left (by have:=(List.getElem?_eq_some_iff.1 k1).1;omega)];exact k1,k2⟩
    ·have hj':j=h.1.length:=by have:=(List.getElem?_eq_some_iff.1 h1).1;simp at this;omega
     subst hj'
     rw[List.getElem?_append_right (Nat.le_refl _)]at h1
     simp at h1;subst h1
     rw[List.getElem?_append_left (by omega),o.now]at h2
     cases h2
     exact⟨r,by rw[List.getElem?_append_right (by omega)];simp[hl],hr⟩
   ·intro e' he
    rcases List.mem_append.1 he with he|he
    ·exact o.kinds e' he
    ·simp at he;subst he;exact⟨hc,hnu⟩
theorem je.wf {wrap:Int→Int}{h:qb7}(o:je wrap h):∀(j:Nat) (r:qv),h.2[j]?=some r→WF r
 |0,r,hr=>by rw[o.first]at hr;cases hr;exact WF.empty 0
 |j+1,r,hr=>by
  have hlt:=(List.getElem?_eq_some_iff.1 hr).1
  have hl:=o.len
  have h1:j<h.1.length:=by omega
  obtain⟨r',k1,k2⟩:=o.next j _ _ (List.getElem?_eq_getElem h1) (List.getElem?_eq_getElem (by omega:j<h.2.length))
  rw[k1]at hr;cases hr
  exact after_wf (je.wf o j _ (List.getElem?_eq_getElem (by omega))) k2
theorem je.wfNow {wrap:Int→Int}{h:qb7}(o:je wrap h):WF (Go.W.now h):=o.wf _ _ o.now
end Go.W
namespace Go.W
structure jt (r:qv):Prop where
 units:qb5 (·.name) r.units
 named:∀u∈r.units,u.name≠[]
 mates:∀u∈r.units,u.partner≠[]→∃v∈r.units,v.name=u.partner∧v.partner=u.name
 lots:qb5 (·.name) r.lots
 prods:qb5 (·.name) r.products
 kinds:∀u∈r.units,∀v∈r.units,v.name=u.partner→v.product=u.product
theorem jt.empty (d:Int):jt ⟨d,[],[],[]⟩:=⟨by simp[qb5],by simp,by simp,by simp[qb5],by simp[qb5],by simp⟩
theorem q7x {α β:Type}{key:α→β}{l:List α}{i:Nat}{x y:α}(h:qb5 key l)(hy:l[i]?=some y)(hk:key x=key y):qb5 key (l.set i x):=by
 unfold qb5 at *;rw[set_map_same hy hk];exact h
theorem jt.setUnit {r:qv}(w:jt r){i:Nat}{u u':qz}(hu:r.units[i]?=some u)(h1:u'.name=u.name)(h2:u'.partner=u.partner)(h3:u'.product=u.product):jt (setUnit r i u'):=by
 have hm:=List.mem_of_getElem? hu
 have hlt:=(List.getElem?_eq_some_iff.1 hu).1
 -- each unit of the new list stands for one of the old with the same name,partner and product
 have old:∀v∈(Go.W.setUnit r i u').units,∃v0∈r.units,v0.name=v.name∧v0.partner=v.partner∧v0.product=v.product:=by
  intro v hv
  rcases qev hv with hv|rfl
  ·exact⟨v,hv,rfl,rfl,rfl⟩
  ·exact⟨u,hm,h1.symm,h2.symm,h3.symm⟩
 have new:∀v∈r.units,∃v1∈(Go.W.setUnit r i u').units,v1.name=v.name∧v1.partner=v.partner:=by
  intro v hv
  obtain⟨j,hj⟩:=List.getElem?_of_mem hv
  by_cases hji:j=i
  ·subst hji
   rw[hu]at hj;cases hj
   exact⟨u',List.mem_of_getElem? (i:=j) (by simp only[Go.W.setUnit];rw[List.getElem?_set_self hlt]),h1,h2⟩
  ·exact⟨v,List.mem_of_getElem? (i:=j) (by simp only[Go.W.setUnit];rw[List.getElem?_set_ne (Ne.symm hji)];exact hj),rfl,rfl⟩
 refine⟨q7x w.units hu h1,?_,?_,w.lots,w.prods,?_⟩
 ·intro v hv
  obtain⟨v0,k0,k1,_⟩:=old v hv
  rw[←k1];exact w.named v0 k0
 ·intro v hv hp
  obtain⟨v0,k0,k1,k2,_⟩:=old v hv
  obtain⟨z,z0,z1,z2⟩:=w.mates v0 k0 (by rw[k2];exact hp)
  obtain⟨z',y0,y1,y2⟩:=new z z0
  exact⟨z',y0,by rw[y1,z1,k2],by rw[y2,z2,k1]⟩
 ·intro v hv z hz hn
  obtain⟨v0,k0,k1,k2,k3⟩:=old v hv
  obtain⟨z0,j0,j1,j2,j3⟩:=old z hz
  rw[←j3,←k3]
  exact w.kinds v0 k0 z0 j0 (by rw[j1,k2];exact hn)
end Go.W
