/- The register of chapter 10 in plain lists. -/
set_option linter.all false
noncomputable section
open List renaming getElem?_eq_some_iff->En,getElem?_append_left->Ga,getElem?_eq_getElem->Gb,findIdx?_cons->Gd,mem_append->Ha,getElem?_set_ne->Hq,mem_of_getElem?->H2,length_append->If,getElem?_append_right->Ig,length_cons->Ii,getElem?_set_self->Ij,getElem?_dropLast->Ik,length_singleton->Io,length_dropLast->Ip,map_cons->Iu
open Option renaming some->Hb,bind_some->Hc,some_get->Ir
namespace Go.W
abbrev Str:=List UInt8
structure bG where
 k:Str
 n:Int
 deriving DecidableEq
structure jh where
 k:Str
 a:Int
 b:Int
 deriving DecidableEq
structure jk where
 name:Str
 kind:Str
 count:Int
 left:Int
 held:Bool
 deriving DecidableEq
structure kL where
 bh:List bG
 aS:List jh
 deriving DecidableEq
structure xr where
 name:Str
 b6:kL
 bm:List kL
 deriving DecidableEq
structure lx where
 name:Str
 product:Str
 version:Int
 uses:List bG
 results:List jh
 partner:Str
 ax:Bool
 au:Int
 deriving DecidableEq
structure z8 where
 day:Int
 ay:List jk
 ah:List xr
 units:List lx
 deriving DecidableEq
structure cQ where
 number:Int
 kind:Str
 names:List Str
 values:List Int
 text:Str
 deriving DecidableEq
def zx (r:z8)(n:Str):Option Nat:=r.ay.findIdx? fun x=>decide (x.name=n)
def zo (r:z8)(n:Str):Option Nat:=r.ah.findIdx? fun x=>decide (x.name=n)
def zk (r:z8)(n:Str):Option Nat:=r.units.findIdx? fun x=>decide (x.name=n)
def ky (r:z8)(n:Str):Option xr:=(zo r n).bind fun k=>r.ah[k]?
def sj (r:z8)(u:lx):Option Int:=(ky r u.product).map fun p=>(p.bm.length:Int)
def BO (l:List kL)(v:Int):Option kL:=if 1<=v then l[(v-1).toNat]? else none
def gV (r:z8)(u:lx):Option kL:=(ky r u.product).bind fun p=>BO p.bm u.version
def pQ (r:z8)(n:Str):Option jk:=(zx r n).bind fun k=>r.ay[k]?
theorem bZ {α:Type}{p:α->Bool}{l:List α}{k:Nat}(h:l.findIdx? p=Hb k):∃x,l[k]?=Hb x/\p x=true/\k<l.length/\∀j x,j<k->l[j]?=Hb x->p x=false:=by
 induction l generalizing k with
 |nil=>simp at h
 |cons y l ih=>
  rw[Gd]at h;by_cases hp:p y=true
  .rw[if_pos hp]at h;cases h;exact⟨y,rfl,hp,by simp,fun j x hj=>by omega⟩
  .rw[if_neg hp]at h;obtain⟨i,hi,rfl⟩:=Option.map_eq_some_iff.1 h;obtain⟨x,Y,I,h3,h4⟩:=ih hi;refine⟨x,by simpa using Y,I,by simp;omega,fun j z hj hz=>?_⟩
   cases j with
   |zero=>simp at hz;subst hz;simpa using hp|succ j=>exact h4 j z (by omega) (by simpa using hz)
theorem kY {α:Type}{p:α->Bool}{l:List α}:l.findIdx? p=none↔∀x∈l,p x=false:=by
 induction l with
 |nil=>simp
 |cons y l ih=>
  rw[Gd];by_cases hp:p y=true
  .rw[if_pos hp];simp[hp]
  .rw[if_neg hp]
   have eV:p y=false:=by simpa using hp
   simp[ih,eV]
def kc {α:Type}(same:α->Bool)(x:α)(l:List α):List α:=match l.findIdx? same with
 |some i=>l.set i x|none=>l++[x]
def Gy {α:Type}(same:α->Bool)(x:α)(l:List α):List α:=(l.map fun y=>if same y then x else y)++(if l.any same then []else [x])
def kj {α β:Type}(key:α->β)(l:List α):Prop:=(l.map key).Nodup
theorem q1q {α β:Type}[DecidableEq β]{key:α->β}{k:β}{x:α}:∀ {l:List α},kj key l->(l.map fun y=>if decide (key y=k)then x else y)=(match l.findIdx? (fun y=>decide (key y=k))with|some i=>l.set i x|none=>l)
 | [],_=>rfl
 |y::l,h=>by
  have hn:=List.nodup_cons.1 (by simpa[kj]using h:(key y::l.map key).Nodup);rw[Gd];by_cases hy:key y=k
  .simp only[Iu,hy,decide_true,if_true]
   have:l.map (fun y=>if decide (key y=k)then x else y)=l:=by
    conv=>rhs;rw[<-List.map_id l]
    refine List.map_congr_left fun z hz=>?_;have:key z≠k:=fun e=>hn.1 (by rw[hy,<-e];exact List.mem_map_of_mem hz);simp[this]
   rw[this];rfl
  .have ih:=q1q (k:=k) (x:=x) (l:=l) hn.2;simp only[Iu,hy,decide_false,Bool.false_eq_true,if_false];rw[ih]
   cases l.findIdx? (fun y=>decide (key y=k))with
   |none=>rfl|some i=>rfl
theorem Gu {α:Type}{p:α->Bool}{l:List α}:l.any p=(l.findIdx? p).isSome:=by
 induction l with
 |nil=>rfl
 |cons y l ih=>
  rw[Gd,List.any_cons];by_cases hp:p y=true
  .rw[if_pos hp,hp];rfl
  .rw[if_neg hp]
   have:p y=false:=by simpa using hp
   rw[this,Bool.false_or,ih];cases l.findIdx? p<;>rfl
theorem q5g {α β:Type}[DecidableEq β]{key:α->β}{k:β}{x:α}{l:List α}(h:kj key l):Gy (fun y=>decide (key y=k)) x l=kc (fun y=>decide (key y=k)) x l:=by
 unfold Gy kc;rw[q1q h,Gu]
 cases l.findIdx? (fun y=>decide (key y=k))with
 |none=>simp|some i=>simp
theorem q4u {α β:Type}[DecidableEq β]{key:α->β}{k:β}{x:α}(M:key x=k):∀ {l:List α} {i:Nat},kj key l->l.findIdx? (fun y=>decide (key y=k))=Hb i->kj key (l.set i x):=by
 intro l i h hi;obtain⟨y,Y,I,h3,_⟩:=bZ hi
 have:(l.set i x).map key=l.map key:=by
  rw[List.map_set];apply List.ext_getElem?;intro j;by_cases hj:j=i
  .subst hj;rw[Ij (by simpa using h3),List.getElem?_map,Y];simp at I;simp[M,I]
  .rw[Hq (Ne.symm hj)]
 unfold kj;rw[this];exact h
theorem qso {α β:Type}[DecidableEq β]{key:α->β}{k:β}{x:α}{l:List α}(M:key x=k)(h:kj key l):kj key (kc (fun y=>decide (key y=k)) x l):=by
 unfold kc
 cases hi:l.findIdx? (fun y=>decide (key y=k))with
 |some i=>exact q4u M h hi
 |none=>
  rw[kY]at hi;unfold kj at *;rw[List.map_append,List.nodup_append];refine⟨h,by simp,?_⟩;intro a ha b hb;simp at hb;subst hb;obtain⟨z,hz,rfl⟩:=List.mem_map.1 ha;have:=hi z hz;rw[M];simpa using this
theorem q7r {α β:Type}{key:α->β}{l:List α}(p:α->Bool)(h:kj key l):kj key (l.filter p):=
 List.Nodup.sublist (List.Sublist.map key List.filter_sublist) h
end Go.W
namespace Go.W
def oc:Str:=[108,111,116]
def oP:Str:=[112,114,111,100,117,99,116]
def od:Str:=[110,101,101,100]
def lW:Str:=[116,101,115,116]
def sg:Str:=[105,115,115,117,101]
def qS:Str:=[98,117,105,108,100]
def oe:Str:=[117,115,101]
def qT:Str:=[109,101,97,115,117,114,101]
def si:Str:=[117,112,100,97,116,101]
def oQ:Str:=[112,97,105,114]
def pP:Str:=[104,111,108,100]
def tK:Str:=[102,114,101,101]
def lX:Str:=[115,104,105,112]
def zO:Str:=[99,111,109,112,108,97,105,110]
def oR:Str:=[117,110,100,111]
def Gt (wrap:Int->Int)(r:z8)(u:lx)(kind:Str):Int:=u.uses.foldl (fun n x=>if(pQ r x.k).any (fun l=>decide (l.kind=kind))then wrap (n+x.n)else n) 0
def tN (u:lx)(t:jh):Bool:=u.results.foldl (fun is x=>if decide (x.k=t.k)&&decide (x.a=u.version)then decide (t.a<=x.b)&&decide (x.b<=t.b)else is) false
def sk (d:kL)(u:lx):List Str:=(d.aS.filter fun t=>!tN u t).map (·.k)
def zQ (wrap:Int->Int)(r:z8)(d:kL)(u:lx):Bool:=d.bh.all fun n=>decide (n.n<=Gt wrap r u n.k)
def BW (r:z8)(u:lx):Bool:=u.uses.any fun x=>(pQ r x.k).any (·.held)
def vP (wrap:Int->Int)(r:z8)(u:lx):Int:=
 if u.ax then 21 else if sj r u≠Hb u.version then 32 else
 match gV r u with
 |none=>20
 |some d=>if !zQ wrap r d u then 20 else if !(sk d u).isEmpty then 31 else if BW r u then 34 else 0
def cA (r:z8)(i:Nat)(x:jk):z8:={ r with ay:=r.ay.set i x }
def bM (r:z8)(i:Nat)(x:xr):z8:={ r with ah:=r.ah.set i x }
def aJ (r:z8)(i:Nat)(x:lx):z8:={ r with units:=r.units.set i x }
def dq (k:Str)(x:bG):Bool:=decide (x.k=k)
def eR (k:Str)(x:jh):Bool:=decide (x.k=k)
def kM (l:List bG)(k:Str)(n:Int):List bG:=if n=0 then l.filter (fun x=>!dq k x)else kc (dq k) ⟨k,n⟩ l
def oS (wrap:Int->Int)(l:List bG)(k:Str)(n:Int):List bG:=match l.findIdx? (dq k)with
 |some i=>(match l[i]? with
  |some x=>l.set i ⟨k,wrap (n+x.n)⟩
  |none=>l)
 |none=>l++[⟨k,n⟩]
def nm (e:cQ)(i:Nat):Str:=(e.names[i]?).getD []
def vl (e:cQ)(i:Nat):Int:=(e.values[i]?).getD 0
abbrev sn:=Except Int z8
def pS (r:z8)(e:cQ):sn:=
 if e.kind=oc then
  (if(zx r (nm e 0)).isSome then .error 9 else if vl e 1<1\/10000<vl e 1 then .error 3 else if 64<=r.ay.length then .error 5 else
   .ok { r with ay:=r.ay++[⟨nm e 0,nm e 1,vl e 1,vl e 1,false⟩] })
 else if e.kind=oP then
  (if(zo r (nm e 0)).isSome then .error 9 else if 16<=r.ah.length then .error 5 else .ok { r with ah:=r.ah++[⟨nm e 0,⟨[],[]⟩,[]⟩] })
 else match ky r (nm e 1)with
  |none=>.error 10
  |some p=>if(zk r (nm e 0)).isSome then .error 9 else if p.bm.isEmpty then .error 32 else if 256<=r.units.length then .error 5 else
    .ok { r with units:=r.units++[⟨nm e 0,nm e 1,p.bm.length,[],[],[],false,0⟩] }
def pT (r:z8)(e:cQ):sn:=match zo r (nm e 0)with
 |none=>.error 10
 |some i=>match r.ah[i]? with
  |none=>.error 10
  |some p=>
   if e.kind=od then
    (if vl e 1<0\/10000<vl e 1 then .error 3 else if 0<vl e 1/\!(p.b6.bh.any (dq (nm e 1)))/\16<=p.b6.bh.length then .error 5 else
     .ok (bM r i { p with b6:={ p.b6 with bh:=kM p.b6.bh (nm e 1) (vl e 1) } }))
   else if e.kind=lW then
    (if vl e 2<vl e 1 then .error 11 else if !(p.b6.aS.any (eR (nm e 1)))/\16<=p.b6.aS.length then .error 5 else
     .ok (bM r i { p with b6:={ p.b6 with aS:=kc (eR (nm e 1)) ⟨nm e 1,vl e 1,vl e 2⟩ p.b6.aS } }))
   else(if p.b6.bh.isEmpty then .error 12 else if 100<=p.bm.length then .error 5 else .ok (bM r i { p with bm:=p.bm++[p.b6] }))
def vR (r:z8)(e:cQ):sn:=match zx r (nm e 0)with
 |none=>.error 10
 |some i=>match r.ay[i]? with
  |none=>.error 10
  |some x=>if e.kind=pP then(if x.held then .error 34 else .ok (cA r i { x with held:=true }))else(if !x.held then .error 20 else .ok (cA r i { x with held:=false }))
def xE (wrap:Int->Int)(r:z8)(i:Nat)(u:lx)(e:cQ):sn:=match zx r (nm e 1)with
 |none=>.error 10
 |some k=>match r.ay[k]? with
  |none=>.error 10
  |some x=>if u.ax then .error 21 else if vl e 1=0 then .error 3 else if x.held then .error 34 else
   if !((gV r u).any fun d=>d.bh.any (dq x.kind))then .error 7 else if x.left<vl e 1 then .error 4 else
    .ok (aJ (cA r k { x with left:=wrap (x.left-vl e 1) }) i { u with uses:=oS wrap u.uses x.name (vl e 1) })
def xF (r:z8)(i:Nat)(u:lx)(e:cQ):sn:=match zk r (nm e 1)with
 |none=>.error 10
 |some k=>match r.units[k]? with
  |none=>.error 10
  |some v=>if i=k then .error 9 else if u.product≠v.product\/u.version≠v.version then .error 30 else if u.ax\/v.ax then .error 21 else
   if u.partner≠[]\/v.partner≠[]then .error 35 else .ok (aJ (aJ r i { u with partner:=v.name }) k { v with partner:=u.name })
def pU (wrap:Int->Int)(r:z8)(e:cQ):sn:=match zk r (nm e 0)with
 |none=>.error 10
 |some i=>match r.units[i]? with
  |none=>.error 10
  |some u=>
   if e.kind=oe then xE wrap r i u e
   else if e.kind=oQ then xF r i u e
   else if e.kind=qT then
    (if u.ax then .error 21 else if !((gV r u).any fun d=>d.aS.any (eR (nm e 1)))then .error 7 else if 64<=u.results.length then .error 5 else
     .ok (aJ r i { u with results:=u.results++[⟨nm e 1,u.version,vl e 1⟩] }))
   else if e.kind=si then
    (if u.ax then .error 21 else match sj r u with
     |none=>.error 32
     |some v=>if u.version=v then .error 32 else .ok (aJ r i { u with version:=v }))
   else if e.kind=lX then(if vP wrap r u≠0 then .error (vP wrap r u)else .ok (aJ r i { u with ax:=true }))
   else(if !u.ax then .error 20 else .ok (aJ r i { u with au:=wrap (u.au+1) }))
def apply (wrap:Int->Int)(r:z8)(e:cQ):sn:=
 if e.kind=oc\/e.kind=oP\/e.kind=qS then pS r e
 else if e.kind=od\/e.kind=lW\/e.kind=sg then pT r e
 else if e.kind=pP\/e.kind=tK then vR r e
 else pU wrap r e
def after (wrap:Int->Int)(r:z8)(e:cQ):sn:=if vl e 0<r.day then .error 20 else match apply wrap r e with
 | .error x=>.error x| .ok r'=>.ok { r' with day:=vl e 0 }
structure WF (r:z8):Prop where
 bh:∀p∈r.ah,kj (·.k) p.b6.bh/\p.b6.bh.length<=16
 aS:∀p∈r.ah,kj (·.k) p.b6.aS/\p.b6.aS.length<=16
 ew:∀u∈r.units,(gV r u).isSome
 uses:∀u∈r.units,kj (·.k) u.uses/\∀x∈u.uses,(zx r x.k).isSome
theorem WF.empty (d:Int):WF ⟨d,[],[],[]⟩:=⟨by simp,by simp,by simp,by simp⟩
theorem findIdx?_append {α:Type}{p:α->Bool}{l m:List α}{k:Nat}(h:l.findIdx? p=Hb k):(l++m).findIdx? p=Hb k:=by
 rw[List.findIdx?_append,h];rfl
theorem gU {α:Type}{p:α->Bool}{l:List α}{i:Nat}{x y:α}(hy:l[i]?=Hb y)(hxy:p x=p y):(l.set i x).findIdx? p=l.findIdx? p:=by
 induction l generalizing i with
 |nil=>rfl
 |cons z l ih=>
  cases i with
  |zero=>
   simp at hy;subst hy;rw[List.set_cons_zero,Gd,Gd,hxy]
  |succ i=>
   rw[List.set_cons_succ,Gd,Gd,ih (by simpa using hy)]
theorem qoy {r r':z8}{u:lx}(h:∀n p,ky r n=Hb p->∃p',ky r' n=Hb p'/\∃m,p'.bm=p.bm++m)(hp:(gV r u).isSome):(gV r' u).isSome:=by
 unfold gV at *
 cases hq:ky r u.product with
 |none=>rw[hq]at hp;simp at hp
 |some p=>
  rw[hq]at hp;obtain⟨p',Y,m,I⟩:=h _ _ hq;rw[Y];simp only[Hc,BO]at hp ⊢;split at hp
  .rename_i hv;rw[if_pos hv,I];have aW:=(En.1 (Ir hp).symm).1;rw[Ga aW];exact hp
  .simp at hp
theorem jbp {r r':z8}(h:r'.ah=r.ah)(n:Str):ky r' n=ky r n:=by unfold ky zo;rw[h]
theorem jga {r r':z8}(h:r'.ah=r.ah)(u:lx):gV r' u=gV r u:=by unfold gV;rw[jbp h]
theorem Fz {r r':z8}{u:lx}(hp:(gV r u).isSome)(h:r'.ah=r.ah:=by rfl):(gV r' u).isSome:=by rw[jga h];exact hp
theorem jg2 {r:z8}{i:Nat}{p p':xr}(hp:r.ah[i]?=Hb p)(hn:p'.name=p.name)(hd:∃m,p'.bm=p.bm++m)(n:Str)(q:xr)(hq:ky r n=Hb q):∃q',ky (bM r i p') n=Hb q'/\∃m,q'.bm=q.bm++m:=by
 unfold ky zo at *;simp only[bM];rw[gU hp (by simp[hn])]
 cases hk:r.ah.findIdx? (fun x=>decide (x.name=n))with
 |none=>rw[hk]at hq;simp at hq
 |some k=>
  rw[hk]at hq;simp only[Hc]at hq ⊢;have aW:=(En.1 hp).1;by_cases Bw:k=i
  .subst Bw;rw[hp]at hq;cases hq;exact⟨p',by rw[Ij aW],hd⟩
  .exact⟨q,by rw[Hq (Ne.symm Bw)];exact hq,[],by simp⟩
theorem tS {α:Type}{l:List α}{i:Nat}{x y:α}(h:y∈l.set i x):y∈l\/y=x:=List.mem_or_eq_of_mem_set h
theorem jav {wrap:Int->Int}{l:List bG}{k:Str}{n:Int}(h:kj (·.k) l):kj (·.k) (oS wrap l k n):=by
 unfold oS
 cases hi:l.findIdx? (dq k)with
 |none=>
  have:=qso (key:=fun x:bG=>x.k) (k:=k) (x:=⟨k,n⟩) rfl h;unfold kc at this;rw[show l.findIdx? (fun y=>decide (y.k=k))=none from hi]at this;exact this
 |some i=>
  obtain⟨x,Y,_⟩:=bZ hi;simp only[Y];exact q4u rfl h hi
theorem q10 {wrap:Int->Int}{l:List bG}{k:Str}{n:Int}{x:bG}(h:x∈oS wrap l k n):x.k=k\/x∈l:=by
 unfold oS at h;split at h
 .split at h
  .rcases tS h with h|rfl
   .exact .inr h
   .exact .inl rfl
  .exact .inr h
 .rcases Ha.1 h with h|h
  .exact .inr h
  .simp at h;subst h;exact .inl rfl
theorem q44 {r:z8}{i:Nat}{x y:jk}(M:r.ay[i]?=Hb x)(hn:y.name=x.name)(n:Str):zx (cA r i y) n=zx r n:=by
 unfold zx cA;exact gU M (by simp[hn])
theorem WF.aJ {r:z8}(w:WF r){i:Nat}{u u':lx}(hu:r.units[i]?=Hb u)(hp:(gV r u').isSome)(hk:kj (·.k) u'.uses/\∀x∈u'.uses,(zx r x.k).isSome):WF (aJ r i u'):=by
 refine⟨w.bh,w.aS,?_,?_⟩
 .intro v hv;refine Fz (r:=r) ?_;rcases tS hv with hv|rfl
  .exact w.ew v hv
  .exact hp
 .intro v hv;rcases tS hv with hv|rfl
  .exact w.uses v hv
  .exact hk
theorem WF.cA {r:z8}(w:WF r){i:Nat}{x y:jk}(M:r.ay[i]?=Hb x)(hn:y.name=x.name):WF (cA r i y):=
 ⟨w.bh,w.aS,fun u hu=>Fz (w.ew u hu),fun u hu=>⟨(w.uses u hu).1,fun z hz=>by rw[q44 M hn];exact(w.uses u hu).2 z hz⟩⟩
theorem WF.bM {r:z8}(w:WF r){i:Nat}{p p':xr}(hp:r.ah[i]?=Hb p)(hn:p'.name=p.name)(hd:∃m,p'.bm=p.bm++m)(Y:kj (·.k) p'.b6.bh/\p'.b6.bh.length<=16)(I:kj (·.k) p'.b6.aS/\p'.b6.aS.length<=16):WF (bM r i p'):=by
 refine⟨?_,?_,?_,?_⟩
 .intro q hq;rcases tS hq with hq|rfl
  .exact w.bh q hq
  .exact Y
 .intro q hq;rcases tS hq with hq|rfl
  .exact w.aS q hq
  .exact I
 .intro u hu;exact qoy (fun n q hq=>jg2 hp hn hd n q hq) (w.ew u hu)
 .exact w.uses
theorem q1t {α:Type}{p:α->Bool}{x:α}{l:List α}(h:l.length<=16)(I:¬(!(l.any p)/\16<=l.length)):(kc p x l).length<=16:=by
 unfold kc
 cases hi:l.findIdx? p with
 |some i=>simpa using h
 |none=>
  have:l.any p=false:=by rw[Gu,hi];rfl
  simp[this]at I;simp;omega
theorem jfx {l:List bG}{k:Str}{n:Int}(h:kj (·.k) l/\l.length<=16)(h0:0<=n)(I:¬(0<n/\!(l.any (dq k))/\16<=l.length)):kj (·.k) (kM l k n)/\(kM l k n).length<=16:=by
 unfold kM;by_cases hn:n=0
 .rw[if_pos hn];exact⟨q7r _ h.1,Nat.le_trans (List.length_filter_le _ _) h.2⟩
 .rw[if_neg hn];refine⟨qso (key:=fun x:bG=>x.k) rfl h.1,q1t h.2 fun hh=>I ⟨by omega,hh.1,hh.2⟩⟩
theorem jms {wrap:Int->Int}{r r':z8}{e:cQ}(w:WF r)(h:after wrap r e=.ok r'):WF r':=by
 unfold after at h;split at h
 .cases h
 split at h
 .cases h
 rename_i r1 ha;cases h
 suffices hw:WF r1 from⟨hw.bh,hw.aS,fun u hu=>Fz (hw.ew u hu),hw.uses⟩
 unfold apply at ha;split at ha
 ·-- a new thing
  unfold pS at ha;split at ha
  .repeat' split at ha
   all_goals first|(cases ha;done)|skip
   cases ha
   exact⟨w.bh,w.aS,fun u hu=>Fz (w.ew u hu),fun u hu=>⟨(w.uses u hu).1,fun x M=>by
    have:=(w.uses u hu).2 x M;unfold zx at *;obtain⟨k,hk⟩:=Option.isSome_iff_exists.1 this
    rw[findIdx?_append hk];rfl⟩⟩
  split at ha
  .repeat' split at ha
   all_goals first|(cases ha;done)|skip
   cases ha;refine⟨?_,?_,?_,w.uses⟩
   .intro p hp;rcases Ha.1 hp with hp|hp
    .exact w.bh p hp
    .simp at hp;subst hp;exact⟨by simp[kj],by simp⟩
   .intro p hp;rcases Ha.1 hp with hp|hp
    .exact w.aS p hp
    .simp at hp;subst hp;exact⟨by simp[kj],by simp⟩
   .intro u hu;refine qoy (fun n p hp=>⟨p,?_,[],by simp⟩) (w.ew u hu);unfold ky zo at *
    cases hk:r.ah.findIdx? (fun x=>decide (x.name=n))with
    |none=>rw[hk]at hp;simp at hp
    |some k=>
     rw[hk]at hp;rw[findIdx?_append hk];simp only[Hc]at hp ⊢;rw[Ga (En.1 hp).1];exact hp
  .split at ha
   .cases ha
   rename_i p hp
   repeat' split at ha
   all_goals first|(cases ha;done)|skip
   rename_i bN _;cases ha;refine⟨w.bh,w.aS,?_,?_⟩
   .intro u hu;refine Fz (r:=r) ?_;rcases Ha.1 hu with hu|hu
    .exact w.ew u hu
    .simp at hu;subst hu;unfold gV;simp only[hp,Hc,BO]
     have:0<p.bm.length:=by
      cases hd:p.bm with
      |nil=>rw[hd]at bN;simp at bN|cons _ _=>simp
     rw[if_pos (by omega),Gb (by omega)];rfl
   .intro u hu;rcases Ha.1 hu with hu|hu
    .exact w.uses u hu
    .simp at hu;subst hu;exact⟨by simp[kj],by simp⟩
 split at ha
 ·-- a product
  unfold pT at ha;split at ha
  .cases ha
  split at ha
  .cases ha
  rename_i i hi p hp;have du:=H2 hp;split at ha
  .repeat' split at ha
   all_goals first|(cases ha;done)|skip
   rename_i Q I;cases ha;exact w.bM hp rfl ⟨[],by simp⟩ (jfx (w.bh p du) (by omega) I) (w.aS p du)
  split at ha
  .repeat' split at ha
   all_goals first|(cases ha;done)|skip
   rename_i Q I;cases ha;exact w.bM hp rfl ⟨[],by simp⟩ (w.bh p du) ⟨qso (key:=fun x:jh=>x.k) rfl (w.aS p du).1,q1t (w.aS p du).2 I⟩
  .repeat' split at ha
   all_goals first|(cases ha;done)|skip
   cases ha;exact w.bM hp rfl ⟨_,rfl⟩ (w.bh p du) (w.aS p du)
 split at ha
 ·-- a lot
  unfold vR at ha;split at ha
  .cases ha
  split at ha
  .cases ha
  rename_i i hi x M
  repeat' split at ha
  all_goals first|(cases ha;done)|(cases ha;exact w.cA M rfl)
 ·-- a unit
  unfold pU at ha;split at ha
  .cases ha
  split at ha
  .cases ha
  rename_i i hi u hu;have du:=H2 hu;have u0:=w.ew u du;split at ha
  .unfold xE at ha;split at ha
   .cases ha
   split at ha
   .cases ha
   rename_i _ k hk _ x M
   repeat' split at ha
   all_goals first|(cases ha;done)|skip
   cases ha;refine(w.cA (y:={ x with left:=wrap (x.left-vl e 1) }) M rfl).aJ (u':={ u with uses:=oS wrap u.uses x.name (vl e 1) }) hu (Fz (r:=r) u0) ⟨jav (w.uses u du).1,fun z hz=>?_⟩;rw[q44 (y:={ x with left:=wrap (x.left-vl e 1) }) M rfl];rcases q10 hz with hz|hz
   .obtain⟨y,Y,I,_⟩:=bZ hk;rw[M]at Y;cases Y;simp at I;rw[hz,I,hk];rfl
   .exact(w.uses u du).2 z hz
  split at ha
  .unfold xF at ha;split at ha
   .cases ha
   split at ha
   .cases ha
   rename_i k hk v hv;have hmv:=H2 hv;split at ha
   .cases ha
   rename_i VD
   repeat' split at ha
   all_goals first|(cases ha;done)|skip
   cases ha;exact(w.aJ (u':={ u with partner:=v.name }) hu u0 (w.uses u du)).aJ (u':={ v with partner:=u.name }) (by simp only[aJ];rw[Hq VD];exact hv) (Fz (r:=r) (w.ew v hmv)) (w.uses v hmv)
  split at ha
  .repeat' split at ha
   all_goals first|(cases ha;done)|skip
   cases ha;exact w.aJ hu u0 (w.uses u du)
  split at ha
  .split at ha
   .cases ha
   split at ha
   .cases ha
   rename_i v hv;split at ha
   .cases ha
   cases ha;refine w.aJ hu ?_ (w.uses u du);unfold gV sj at *
   cases hq:ky r u.product with
   |none=>rw[hq]at hv;simp at hv
   |some p=>
    rw[hq]at hv u0;simp only[Option.map_some,Hb.injEq,Hc]at hv u0 ⊢;subst hv;unfold BO at u0 ⊢;split at u0
    .have aW:=(En.1 (Ir u0).symm).1;rw[if_pos (by omega),Gb (by omega)];rfl
    .simp at u0
  split at ha
  .split at ha
   .cases ha
   cases ha;exact w.aJ hu u0 (w.uses u du)
  .split at ha
   .cases ha
   cases ha;exact w.aJ hu u0 (w.uses u du)
end Go.W
namespace Go.W
def cC:List (Str×Nat×Nat):=[(oc,2,2),(oP,1,1),(od,2,2),(lW,2,3),(sg,1,1),(qS,2,1),(oe,2,2),(qT,2,2),(si,1,1),(oQ,2,1),(pP,1,1),(tK,1,1),(lX,1,1),(zO,1,1),(oR,0,0)]
def z7 (k:Str):Option (Nat×Nat):=(cC.find? fun x=>decide (x.1=k)).map (·.2)
def vX (c:UInt8):Bool:=(decide (65<=c.toNat)&&decide (c.toNat<=90))||(decide (97<=c.toNat)&&decide (c.toNat<=122))
def GI (c:UInt8):Bool:=(decide (48<=c.toNat)&&decide (c.toNat<=57))||decide (c.toNat=95)
def cu (s:Str):Bool:=match s with
 | []=>false|c::t=>vX c&&t.all (fun c=>vX c||GI c)&&decide (s.length<=24)
def jj (e:cQ):Int:=
 if e.number<1\/1000<e.number then 3 else match z7 e.kind with
 |none=>13
 |some f=>if e.names.length≠f.1\/e.values.length≠f.2 then 2 else if !(e.names.all cu)then 8 else if !(e.values.all fun n=>decide (0<=n)&&decide (n<=999999999))then 3 else if e.text≠[]then 1 else 0
abbrev y6:=List cQ×List z8
def mO:z8:=⟨0,[],[],[]⟩
def now (h:y6):z8:=h.2.getLast?.getD mO
def accept (wrap:Int->Int)(h:y6)(k:Int)(e:cQ):Except Int y6:=
 if e.number≠k then .error 11 else
 if e.kind=oR then(match h.1.getLast? with
  |none=>.error 12
  |some c=>if c.kind=lX then .error 19 else .ok (h.1.dropLast,h.2.dropLast))
 else match after wrap (now h) e with
  | .error x=>.error x| .ok r=>.ok (h.1++[e],h.2++[r])
def ya (wrap:Int->Int):Nat->y6->List cQ->Except (Int×Int) y6
 |_,h,[]=>.ok h
 |i,h,e::l=>if jj e≠0 then .error ((i:Int)+1,jj e)else match accept wrap h ((i:Int)+1) e with
  | .error x=>.error ((i:Int)+1,x)| .ok h'=>ya wrap (i+1) h' l
def run (wrap:Int->Int)(l:List cQ):Except (Int×Int) y6:=if 1000<l.length then .error (0,5)else ya wrap 0 ([],[mO]) l
theorem XF (wrap:Int->Int):∀(l m:List cQ) (i:Nat) (h:y6),ya wrap i h (l++m)=match ya wrap i h l with
  | .error x=>.error x| .ok h'=>ya wrap (i+l.length) h' m
 | [],m,i,h=>by simp[ya]
 |e::l,m,i,h=>by
  simp only[List.cons_append,ya];split
  .rfl
  cases accept wrap h ((i:Int)+1) e with
  |error x=>rfl|ok h'=>simp only[];rw[XF wrap l m (i+1) h',Ii,show i+1+l.length=i+(l.length+1) by omega]
structure iW (wrap:Int->Int)(h:y6):Prop where
 len:h.2.length=h.1.length+1
 first:h.2[0]?=Hb mO
 next:∀j e r,h.1[j]?=Hb e->h.2[j]?=Hb r->∃r',h.2[j+1]?=Hb r'/\after wrap r e=.ok r'
 kinds:∀e∈h.1,jj e=0/\e.kind≠oR
theorem iW.empty {wrap:Int->Int}:iW wrap ([],[mO]):=⟨rfl,rfl,fun j e r h=>by simp at h,by simp⟩
theorem iW.now {wrap:Int->Int}{h:y6}(k:iW wrap h):h.2[h.1.length]?=Hb (Go.W.now h):=by
 unfold Go.W.now;have hl:=k.len;rw[List.getLast?_eq_getElem?,hl]
 have:h.1.length<h.2.length:=by omega
 simp[Gb this]
theorem iW.accept {wrap:Int->Int}{h h':y6}{k:Int}{e:cQ}(o:iW wrap h)(hc:jj e=0)(ha:accept wrap h k e=.ok h'):iW wrap h':=by
 unfold Go.W.accept at ha;split at ha
 .cases ha
 split at ha
 .split at ha
  .cases ha
  .rename_i c hc;split at ha
   .cases ha
   cases ha
   have iO:0<h.1.length:=by
    cases hh:h.1 with
    |nil=>rw[hh]at hc;simp at hc|cons _ _=>simp
   have hl:=o.len;refine⟨by simp only[Ip];omega,?_,?_,?_⟩
   .rw[Ik,if_pos (by omega)];exact o.first
   .intro j e' r Y I;simp only[Ik]at Y I ⊢;split at Y
    .rename_i hj;rw[if_pos (by omega)]at I;rw[if_pos (by omega)];exact o.next j e' r Y I
    .cases Y
   .intro e' he;exact o.kinds e' (List.mem_of_mem_take (by rwa [List.dropLast_eq_take]at he))
 .rename_i hnu;split at ha
  .cases ha
  .rename_i r Q;cases ha;have hl:=o.len;refine⟨by simp only[If,Ii,List.length_nil];omega,?_,?_,?_⟩
   .rw[Ga (by omega)];exact o.first
   .intro j e' q Y I;by_cases hj:j<h.1.length
    .rw[Ga hj]at Y;rw[Ga (by omega)]at I;obtain⟨r',k1,k2⟩:=o.next j e' q Y I;exact⟨r',by rw[Ga (by have:=(En.1 k1).1;omega)];exact k1,k2⟩
    .have hj':j=h.1.length:=by have:=(En.1 Y).1;simp at this;omega
     subst hj';rw[Ig (Nat.le_refl _)]at Y;simp at Y;subst Y;rw[Ga (by omega),o.now]at I;cases I;exact⟨r,by rw[Ig (by omega)];simp[hl],Q⟩
   .intro e' he;rcases Ha.1 he with he|he
    .exact o.kinds e' he
    .simp at he;subst he;exact⟨hc,hnu⟩
theorem iW.wf {wrap:Int->Int}{h:y6}(o:iW wrap h):∀(j:Nat) (r:z8),h.2[j]?=Hb r->WF r
 |0,r,Q=>by rw[o.first]at Q;cases Q;exact WF.empty 0
 |j+1,r,Q=>by
  have aW:=(En.1 Q).1;have hl:=o.len
  have Y:j<h.1.length:=by omega
  obtain⟨r',k1,k2⟩:=o.next j _ _ (Gb Y) (Gb (by omega:j<h.2.length));rw[k1]at Q;cases Q;exact jms (iW.wf o j _ (Gb (by omega))) k2
theorem iW.tU {wrap:Int->Int}{h:y6}(o:iW wrap h):WF (Go.W.now h):=o.wf _ _ o.now
end Go.W
namespace Go.W
theorem Xi {e:cQ}(h:jj e=0):e.names.all (fun s=>!s.isEmpty)=true/\∃f,z7 e.kind=Hb f/\e.names.length=f.1/\e.values.length=f.2:=by
 unfold jj at h;split at h
 .cases h
 split at h
 .cases h
 rename_i f hf;split at h
 .cases h
 rename_i hl;split at h
 .cases h
 rename_i hn;refine⟨?_,f,hf,by by_cases hh:e.names.length=f.1<;>simp_all,by by_cases hh:e.values.length=f.2<;>simp_all⟩
 have hn:e.names.all cu=true:=by simpa using hn
 rw[List.all_eq_true]at hn ⊢;intro s G;have:=hn s G
 cases s with
 |nil=>simp[cu]at this|cons c t=>rfl
end Go.W
namespace Go.W
def qA (u:lx)(s:Str):Bool:=u.uses.any fun x=>decide (x.k=s)
end Go.W
namespace Go.W
theorem q7z {wrap:Int->Int}{l:List cQ}{h:y6}{e:cQ}(Q:run wrap l=.ok h)(hn:l.length<1000):run wrap (l++[e])=if jj e≠0 then .error ((l.length:Int)+1,jj e)else match accept wrap h ((l.length:Int)+1) e with
  | .error x=>.error ((l.length:Int)+1,x)
  | .ok h'=>.ok h':=by
 unfold run at Q ⊢;rw[if_neg (by omega)]at Q;rw[if_neg (by rw[If,Io];omega),XF,Q];simp only[Nat.zero_add,ya]<;>rfl
end Go.W
namespace Go.W
theorem qr7 {wrap:Int->Int}:∀ {l:List cQ} {i:Nat} {h h':y6},h.1.length<=i->ya wrap i h l=.ok h'->h'.1.length<=i+l.length
 | [],i,h,h',hi,Q=>by simp only[ya]at Q;cases Q;simpa using hi
 |e::l,i,h,h',hi,Q=>by
  simp only[ya]at Q;split at Q
  .cases Q
  split at Q
  .cases Q
  .rename_i Y ha
   have hl:Y.1.length<=i+1:=by
    unfold accept at ha;split at ha
    .cases ha
    split at ha
    .split at ha
     .cases ha
     .split at ha
      .cases ha
      cases ha;show h.1.dropLast.length<=_;rw[Ip];omega
    .split at ha
     .cases ha
     .cases ha;show(h.1++[e]).length<=_;rw[If,Io];omega
   have:=qr7 hl Q;rw[Ii];omega
theorem jkj {wrap:Int->Int}{l:List cQ}{h:y6}(Q:run wrap l=.ok h):h.1.length<=l.length:=by
 unfold run at Q;split at Q
 .cases Q
 .have:=qr7 (Nat.le_refl 0) Q;omega
end Go.W
end
