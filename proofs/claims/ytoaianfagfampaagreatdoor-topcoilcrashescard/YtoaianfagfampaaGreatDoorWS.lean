/- The register of chapter 10 in plain lists. -/
set_option linter.all false
noncomputable section
open List renaming getElem?_eq_some_iff->Eb,getElem?_append_left->Eg,getElem?_eq_getElem->Eh,findIdx?_cons->En,mem_append->Ep,getElem?_set_ne->E8,mem_of_getElem?->E9,length_append->G0,getElem?_append_right->G1,length_cons->G4,getElem?_set_self->G5,getElem?_dropLast->G7,length_singleton->G8,length_dropLast->Ha,map_cons->Hc
open Option renaming some->E3,bind_some->E4,some_get->Hb
namespace Go.W
abbrev Str:=List UInt8
structure bD where
 k:Str
 n:Int
 deriving DecidableEq
structure jh where
 k:Str
 a:Int
 b:Int
 deriving DecidableEq
structure ji where
 name:Str
 kind:Str
 count:Int
 left:Int
 held:Bool
 deriving DecidableEq
structure jH where
 aX:List bD
 aO:List jh
 deriving DecidableEq
structure wh where
 name:Str
 bW:jH
 bg:List jH
 deriving DecidableEq
structure cH where
 name:Str
 product:Str
 version:Int
 uses:List bD
 results:List jh
 partner:Str
 ax:Bool
 au:Int
 deriving DecidableEq
structure bX where
 day:Int
 ay:List ji
 ah:List wh
 units:List cH
 deriving DecidableEq
structure cf where
 number:Int
 kind:Str
 names:List Str
 values:List Int
 text:Str
 deriving DecidableEq
def zx (r:bX)(n:Str):Option Nat:=r.ay.findIdx? fun x=>decide (x.name=n)
def zr (r:bX)(n:Str):Option Nat:=r.ah.findIdx? fun x=>decide (x.name=n)
def zk (r:bX)(n:Str):Option Nat:=r.units.findIdx? fun x=>decide (x.name=n)
def kx (r:bX)(n:Str):Option wh:=(zr r n).bind fun k=>r.ah[k]?
def qS (r:bX)(u:cH):Option Int:=(kx r u.product).map fun p=>(p.bg.length:Int)
def Bd (l:List jH)(v:Int):Option jH:=if 1<=v then l[(v-1).toNat]? else none
def gp (r:bX)(u:cH):Option jH:=(kx r u.product).bind fun p=>Bd p.bg u.version
def oU (r:bX)(n:Str):Option ji:=(zx r n).bind fun k=>r.ay[k]?
theorem bV {α:Type}{p:α->Bool}{l:List α}{k:Nat}(h:l.findIdx? p=E3 k):∃x,l[k]?=E3 x/\p x=true/\k<l.length/\∀j x,j<k->l[j]?=E3 x->p x=false:=by
 induction l generalizing k with
 |nil=>simp at h
 |cons y l ih=>
  rw[En]at h;by_cases hp:p y=true
  .rw[if_pos hp]at h;cases h;exact⟨y,rfl,hp,by simp,fun j x hj=>by omega⟩
  .rw[if_neg hp]at h;obtain⟨i,hi,rfl⟩:=Option.map_eq_some_iff.1 h;obtain⟨x,Y,I,h3,h4⟩:=ih hi;refine⟨x,by simpa using Y,I,by simp;omega,fun j z hj hz=>?_⟩
   cases j with
   |zero=>simp at hz;subst hz;simpa using hp|succ j=>exact h4 j z (by omega) (by simpa using hz)
theorem jS {α:Type}{p:α->Bool}{l:List α}:l.findIdx? p=none↔∀x∈l,p x=false:=by
 induction l with
 |nil=>simp
 |cons y l ih=>
  rw[En];by_cases hp:p y=true
  .rw[if_pos hp];simp[hp]
  .rw[if_neg hp]
   have eQ:p y=false:=by simpa using hp
   simp[ih,eQ]
def y6 {α:Type}(same:α->Bool)(x:α)(l:List α):List α:=match l.findIdx? same with
 |some i=>l.set i x|none=>l++[x]
def Fx {α:Type}(same:α->Bool)(x:α)(l:List α):List α:=(l.map fun y=>if same y then x else y)++(if l.any same then []else [x])
def kl {α β:Type}(key:α->β)(l:List α):Prop:=(l.map key).Nodup
theorem qya {α β:Type}[DecidableEq β]{key:α->β}{k:β}{x:α}:∀ {l:List α},kl key l->(l.map fun y=>if decide (key y=k)then x else y)=(match l.findIdx? (fun y=>decide (key y=k))with|some i=>l.set i x|none=>l)
 | [],_=>rfl
 |y::l,h=>by
  have hn:=List.nodup_cons.1 (by simpa[kl]using h:(key y::l.map key).Nodup);rw[En];by_cases hy:key y=k
  .simp only[Hc,hy,decide_true,if_true]
   have:l.map (fun y=>if decide (key y=k)then x else y)=l:=by
    conv=>rhs;rw[<-List.map_id l]
    refine List.map_congr_left fun z hz=>?_;have:key z≠k:=fun e=>hn.1 (by rw[hy,<-e];exact List.mem_map_of_mem hz);simp[this]
   rw[this];rfl
  .have ih:=qya (k:=k) (x:=x) (l:=l) hn.2;simp only[Hc,hy,decide_false,Bool.false_eq_true,if_false];rw[ih]
   cases l.findIdx? (fun y=>decide (key y=k))with
   |none=>rfl|some i=>rfl
theorem Ft {α:Type}{p:α->Bool}{l:List α}:l.any p=(l.findIdx? p).isSome:=by
 induction l with
 |nil=>rfl
 |cons y l ih=>
  rw[En,List.any_cons];by_cases hp:p y=true
  .rw[if_pos hp,hp];rfl
  .rw[if_neg hp]
   have:p y=false:=by simpa using hp
   rw[this,Bool.false_or,ih];cases l.findIdx? p<;>rfl
theorem q23 {α β:Type}[DecidableEq β]{key:α->β}{k:β}{x:α}{l:List α}(h:kl key l):Fx (fun y=>decide (key y=k)) x l=y6 (fun y=>decide (key y=k)) x l:=by
 unfold Fx y6;rw[qya h,Ft]
 cases l.findIdx? (fun y=>decide (key y=k))with
 |none=>simp|some i=>simp
theorem q2u {α β:Type}[DecidableEq β]{key:α->β}{k:β}{x:α}(M:key x=k):∀ {l:List α} {i:Nat},kl key l->l.findIdx? (fun y=>decide (key y=k))=E3 i->kl key (l.set i x):=by
 intro l i h hi;obtain⟨y,Y,I,h3,_⟩:=bV hi
 have:(l.set i x).map key=l.map key:=by
  rw[List.map_set];apply List.ext_getElem?;intro j;by_cases hj:j=i
  .subst hj;rw[G5 (by simpa using h3),List.getElem?_map,Y];simp at I;simp[M,I]
  .rw[E8 (Ne.symm hj)]
 unfold kl;rw[this];exact h
theorem XK {α β:Type}[DecidableEq β]{key:α->β}{k:β}{x:α}{l:List α}(M:key x=k)(h:kl key l):kl key (y6 (fun y=>decide (key y=k)) x l):=by
 unfold y6
 cases hi:l.findIdx? (fun y=>decide (key y=k))with
 |some i=>exact q2u M h hi
 |none=>
  rw[jS]at hi;unfold kl at *;rw[List.map_append,List.nodup_append];refine⟨h,by simp,?_⟩;intro a ha b hb;simp at hb;subst hb;obtain⟨z,hz,rfl⟩:=List.mem_map.1 ha;have:=hi z hz;rw[M];simpa using this
theorem q7s {α β:Type}{key:α->β}{l:List α}(p:α->Bool)(h:kl key l):kl key (l.filter p):=
 List.Nodup.sublist (List.Sublist.map key List.filter_sublist) h
end Go.W
namespace Go.W
def nw:Str:=[108,111,116]
def nZ:Str:=[112,114,111,100,117,99,116]
def nx:Str:=[110,101,101,100]
def lu:Str:=[116,101,115,116]
def qQ:Str:=[105,115,115,117,101]
def pC:Str:=[98,117,105,108,100]
def ny:Str:=[117,115,101]
def pD:Str:=[109,101,97,115,117,114,101]
def qR:Str:=[117,112,100,97,116,101]
def n9:Str:=[112,97,105,114]
def oT:Str:=[104,111,108,100]
def sP:Str:=[102,114,101,101]
def iJ:Str:=[115,104,105,112]
def xZ:Str:=[99,111,109,112,108,97,105,110]
def jI:Str:=[117,110,100,111]
def Fs (wrap:Int->Int)(r:bX)(u:cH)(kind:Str):Int:=u.uses.foldl (fun n x=>if(oU r x.k).any (fun l=>decide (l.kind=kind))then wrap (n+x.n)else n) 0
def sS (u:cH)(t:jh):Bool:=u.results.foldl (fun is x=>if decide (x.k=t.k)&&decide (x.a=u.version)then decide (t.a<=x.b)&&decide (x.b<=t.b)else is) false
def qT (d:jH)(u:cH):List Str:=(d.aO.filter fun t=>!sS u t).map (·.k)
def x6 (wrap:Int->Int)(r:bX)(d:jH)(u:cH):Bool:=d.aX.all fun n=>decide (n.n<=Fs wrap r u n.k)
def Bk (r:bX)(u:cH):Bool:=u.uses.any fun x=>(oU r x.k).any (·.held)
def uy (wrap:Int->Int)(r:bX)(u:cH):Int:=
 if u.ax then 21 else if qS r u≠E3 u.version then 32 else
 match gp r u with
 |none=>20
 |some d=>if !x6 wrap r d u then 20 else if !(qT d u).isEmpty then 31 else if Bk r u then 34 else 0
def cx (r:bX)(i:Nat)(x:ji):bX:={ r with ay:=r.ay.set i x }
def bH (r:bX)(i:Nat)(x:wh):bX:={ r with ah:=r.ah.set i x }
def aH (r:bX)(i:Nat)(x:cH):bX:={ r with units:=r.units.set i x }
def dh (k:Str)(x:bD):Bool:=decide (x.k=k)
def eL (k:Str)(x:jh):Bool:=decide (x.k=k)
def jJ (l:List bD)(k:Str)(n:Int):List bD:=if n=0 then l.filter (fun x=>!dh k x)else y6 (dh k) ⟨k,n⟩ l
def oc (wrap:Int->Int)(l:List bD)(k:Str)(n:Int):List bD:=match l.findIdx? (dh k)with
 |some i=>(match l[i]? with
  |some x=>l.set i ⟨k,wrap (n+x.n)⟩
  |none=>l)
 |none=>l++[⟨k,n⟩]
def nm (e:cf)(i:Nat):Str:=(e.names[i]?).getD []
def vl (e:cf)(i:Nat):Int:=(e.values[i]?).getD 0
abbrev gR:=Except Int bX
def oe (r:bX)(e:cf):gR:=
 if e.kind=nw then
  (if(zx r (nm e 0)).isSome then .error 9 else if vl e 1<1\/10000<vl e 1 then .error 3 else if 64<=r.ay.length then .error 5 else
   .ok { r with ay:=r.ay++[⟨nm e 0,nm e 1,vl e 1,vl e 1,false⟩] })
 else if e.kind=nZ then
  (if(zr r (nm e 0)).isSome then .error 9 else if 16<=r.ah.length then .error 5 else .ok { r with ah:=r.ah++[⟨nm e 0,⟨[],[]⟩,[]⟩] })
 else match kx r (nm e 1)with
  |none=>.error 10
  |some p=>if(zk r (nm e 0)).isSome then .error 9 else if p.bg.isEmpty then .error 32 else if 256<=r.units.length then .error 5 else
    .ok { r with units:=r.units++[⟨nm e 0,nm e 1,p.bg.length,[],[],[],false,0⟩] }
def og (r:bX)(e:cf):gR:=match zr r (nm e 0)with
 |none=>.error 10
 |some i=>match r.ah[i]? with
  |none=>.error 10
  |some p=>
   if e.kind=nx then
    (if vl e 1<0\/10000<vl e 1 then .error 3 else if 0<vl e 1/\!(p.bW.aX.any (dh (nm e 1)))/\16<=p.bW.aX.length then .error 5 else
     .ok (bH r i { p with bW:={ p.bW with aX:=jJ p.bW.aX (nm e 1) (vl e 1) } }))
   else if e.kind=lu then
    (if vl e 2<vl e 1 then .error 11 else if !(p.bW.aO.any (eL (nm e 1)))/\16<=p.bW.aO.length then .error 5 else
     .ok (bH r i { p with bW:={ p.bW with aO:=y6 (eL (nm e 1)) ⟨nm e 1,vl e 1,vl e 2⟩ p.bW.aO } }))
   else(if p.bW.aX.isEmpty then .error 12 else if 100<=p.bg.length then .error 5 else .ok (bH r i { p with bg:=p.bg++[p.bW] }))
def sT (r:bX)(e:cf):gR:=match zx r (nm e 0)with
 |none=>.error 10
 |some i=>match r.ay[i]? with
  |none=>.error 10
  |some x=>if e.kind=oT then(if x.held then .error 34 else .ok (cx r i { x with held:=true }))else(if !x.held then .error 20 else .ok (cx r i { x with held:=false }))
def uD (wrap:Int->Int)(r:bX)(i:Nat)(u:cH)(e:cf):gR:=match zx r (nm e 1)with
 |none=>.error 10
 |some k=>match r.ay[k]? with
  |none=>.error 10
  |some x=>if u.ax then .error 21 else if vl e 1=0 then .error 3 else if x.held then .error 34 else
   if !((gp r u).any fun d=>d.aX.any (dh x.kind))then .error 7 else if x.left<vl e 1 then .error 4 else
    .ok (aH (cx r k { x with left:=wrap (x.left-vl e 1) }) i { u with uses:=oc wrap u.uses x.name (vl e 1) })
def uH (r:bX)(i:Nat)(u:cH)(e:cf):gR:=match zk r (nm e 1)with
 |none=>.error 10
 |some k=>match r.units[k]? with
  |none=>.error 10
  |some v=>if i=k then .error 9 else if u.product≠v.product\/u.version≠v.version then .error 30 else if u.ax\/v.ax then .error 21 else
   if u.partner≠[]\/v.partner≠[]then .error 35 else .ok (aH (aH r i { u with partner:=v.name }) k { v with partner:=u.name })
def oh (wrap:Int->Int)(r:bX)(e:cf):gR:=match zk r (nm e 0)with
 |none=>.error 10
 |some i=>match r.units[i]? with
  |none=>.error 10
  |some u=>
   if e.kind=ny then uD wrap r i u e
   else if e.kind=n9 then uH r i u e
   else if e.kind=pD then
    (if u.ax then .error 21 else if !((gp r u).any fun d=>d.aO.any (eL (nm e 1)))then .error 7 else if 64<=u.results.length then .error 5 else
     .ok (aH r i { u with results:=u.results++[⟨nm e 1,u.version,vl e 1⟩] }))
   else if e.kind=qR then
    (if u.ax then .error 21 else match qS r u with
     |none=>.error 32
     |some v=>if u.version=v then .error 32 else .ok (aH r i { u with version:=v }))
   else if e.kind=iJ then(if uy wrap r u≠0 then .error (uy wrap r u)else .ok (aH r i { u with ax:=true }))
   else(if !u.ax then .error 20 else .ok (aH r i { u with au:=wrap (u.au+1) }))
def apply (wrap:Int->Int)(r:bX)(e:cf):gR:=
 if e.kind=nw\/e.kind=nZ\/e.kind=pC then oe r e
 else if e.kind=nx\/e.kind=lu\/e.kind=qQ then og r e
 else if e.kind=oT\/e.kind=sP then sT r e
 else oh wrap r e
def after (wrap:Int->Int)(r:bX)(e:cf):gR:=if vl e 0<r.day then .error 20 else match apply wrap r e with
 | .error x=>.error x| .ok r'=>.ok { r' with day:=vl e 0 }
structure WF (r:bX):Prop where
 aX:∀p∈r.ah,kl (·.k) p.bW.aX/\p.bW.aX.length<=16
 aO:∀p∈r.ah,kl (·.k) p.bW.aO/\p.bW.aO.length<=16
 ej:∀u∈r.units,(gp r u).isSome
 uses:∀u∈r.units,kl (·.k) u.uses/\∀x∈u.uses,(zx r x.k).isSome
theorem WF.empty (d:Int):WF ⟨d,[],[],[]⟩:=⟨by simp,by simp,by simp,by simp⟩
theorem findIdx?_append {α:Type}{p:α->Bool}{l m:List α}{k:Nat}(h:l.findIdx? p=E3 k):(l++m).findIdx? p=E3 k:=by
 rw[List.findIdx?_append,h];rfl
theorem gw {α:Type}{p:α->Bool}{l:List α}{i:Nat}{x y:α}(hy:l[i]?=E3 y)(zS:p x=p y):(l.set i x).findIdx? p=l.findIdx? p:=by
 induction l generalizing i with
 |nil=>rfl
 |cons z l ih=>
  cases i with
  |zero=>
   simp at hy;subst hy;rw[List.set_cons_zero,En,En,zS]
  |succ i=>
   rw[List.set_cons_succ,En,En,ih (by simpa using hy)]
theorem qo2 {r r':bX}{u:cH}(h:∀n p,kx r n=E3 p->∃p',kx r' n=E3 p'/\∃m,p'.bg=p.bg++m)(hp:(gp r u).isSome):(gp r' u).isSome:=by
 unfold gp at *
 cases hq:kx r u.product with
 |none=>rw[hq]at hp;simp at hp
 |some p=>
  rw[hq]at hp;obtain⟨p',Y,m,I⟩:=h _ _ hq;rw[Y];simp only[E4,Bd]at hp ⊢;split at hp
  .rename_i hv;rw[if_pos hv,I];have bh:=(Eb.1 (Hb hp).symm).1;rw[Eg bh];exact hp
  .simp at hp
theorem q9b {r r':bX}(h:r'.ah=r.ah)(n:Str):kx r' n=kx r n:=by unfold kx zr;rw[h]
theorem jdh {r r':bX}(h:r'.ah=r.ah)(u:cH):gp r' u=gp r u:=by unfold gp;rw[q9b h]
theorem EA {r r':bX}{u:cH}(hp:(gp r u).isSome)(h:r'.ah=r.ah:=by rfl):(gp r' u).isSome:=by rw[jdh h];exact hp
theorem jdt {r:bX}{i:Nat}{p p':wh}(hp:r.ah[i]?=E3 p)(hn:p'.name=p.name)(hd:∃m,p'.bg=p.bg++m)(n:Str)(q:wh)(hq:kx r n=E3 q):∃q',kx (bH r i p') n=E3 q'/\∃m,q'.bg=q.bg++m:=by
 unfold kx zr at *;simp only[bH];rw[gw hp (by simp[hn])]
 cases hk:r.ah.findIdx? (fun x=>decide (x.name=n))with
 |none=>rw[hk]at hq;simp at hq
 |some k=>
  rw[hk]at hq;simp only[E4]at hq ⊢;have bh:=(Eb.1 hp).1;by_cases AX:k=i
  .subst AX;rw[hp]at hq;cases hq;exact⟨p',by rw[G5 bh],hd⟩
  .exact⟨q,by rw[E8 (Ne.symm AX)];exact hq,[],by simp⟩
theorem sW {α:Type}{l:List α}{i:Nat}{x y:α}(h:y∈l.set i x):y∈l\/y=x:=List.mem_or_eq_of_mem_set h
theorem q6t {wrap:Int->Int}{l:List bD}{k:Str}{n:Int}(h:kl (·.k) l):kl (·.k) (oc wrap l k n):=by
 unfold oc
 cases hi:l.findIdx? (dh k)with
 |none=>
  have:=XK (key:=fun x:bD=>x.k) (k:=k) (x:=⟨k,n⟩) rfl h;unfold y6 at this;rw[show l.findIdx? (fun y=>decide (y.k=k))=none from hi]at this;exact this
 |some i=>
  obtain⟨x,Y,_⟩:=bV hi;simp only[Y];exact q2u rfl h hi
theorem qzs {wrap:Int->Int}{l:List bD}{k:Str}{n:Int}{x:bD}(h:x∈oc wrap l k n):x.k=k\/x∈l:=by
 unfold oc at h;split at h
 .split at h
  .rcases sW h with h|rfl
   .exact .inr h
   .exact .inl rfl
  .exact .inr h
 .rcases Ep.1 h with h|h
  .exact .inr h
  .simp at h;subst h;exact .inl rfl
theorem q28 {r:bX}{i:Nat}{x y:ji}(M:r.ay[i]?=E3 x)(hn:y.name=x.name)(n:Str):zx (cx r i y) n=zx r n:=by
 unfold zx cx;exact gw M (by simp[hn])
theorem WF.aH {r:bX}(w:WF r){i:Nat}{u u':cH}(hu:r.units[i]?=E3 u)(hp:(gp r u').isSome)(hk:kl (·.k) u'.uses/\∀x∈u'.uses,(zx r x.k).isSome):WF (aH r i u'):=by
 refine⟨w.aX,w.aO,?_,?_⟩
 .intro v hv;refine EA (r:=r) ?_;rcases sW hv with hv|rfl
  .exact w.ej v hv
  .exact hp
 .intro v hv;rcases sW hv with hv|rfl
  .exact w.uses v hv
  .exact hk
theorem WF.cx {r:bX}(w:WF r){i:Nat}{x y:ji}(M:r.ay[i]?=E3 x)(hn:y.name=x.name):WF (cx r i y):=
 ⟨w.aX,w.aO,fun u hu=>EA (w.ej u hu),fun u hu=>⟨(w.uses u hu).1,fun z hz=>by rw[q28 M hn];exact(w.uses u hu).2 z hz⟩⟩
theorem WF.bH {r:bX}(w:WF r){i:Nat}{p p':wh}(hp:r.ah[i]?=E3 p)(hn:p'.name=p.name)(hd:∃m,p'.bg=p.bg++m)(Y:kl (·.k) p'.bW.aX/\p'.bW.aX.length<=16)(I:kl (·.k) p'.bW.aO/\p'.bW.aO.length<=16):WF (bH r i p'):=by
 refine⟨?_,?_,?_,?_⟩
 .intro q hq;rcases sW hq with hq|rfl
  .exact w.aX q hq
  .exact Y
 .intro q hq;rcases sW hq with hq|rfl
  .exact w.aO q hq
  .exact I
 .intro u hu;exact qo2 (fun n q hq=>jdt hp hn hd n q hq) (w.ej u hu)
 .exact w.uses
theorem qy9 {α:Type}{p:α->Bool}{x:α}{l:List α}(h:l.length<=16)(I:¬(!(l.any p)/\16<=l.length)):(y6 p x l).length<=16:=by
 unfold y6
 cases hi:l.findIdx? p with
 |some i=>simpa using h
 |none=>
  have:l.any p=false:=by rw[Ft,hi];rfl
  simp[this]at I;simp;omega
theorem jc0 {l:List bD}{k:Str}{n:Int}(h:kl (·.k) l/\l.length<=16)(h0:0<=n)(I:¬(0<n/\!(l.any (dh k))/\16<=l.length)):kl (·.k) (jJ l k n)/\(jJ l k n).length<=16:=by
 unfold jJ;by_cases hn:n=0
 .rw[if_pos hn];exact⟨q7s _ h.1,Nat.le_trans (List.length_filter_le _ _) h.2⟩
 .rw[if_neg hn];refine⟨XK (key:=fun x:bD=>x.k) rfl h.1,qy9 h.2 fun hh=>I ⟨by omega,hh.1,hh.2⟩⟩
theorem jlf {wrap:Int->Int}{r r':bX}{e:cf}(w:WF r)(h:after wrap r e=.ok r'):WF r':=by
 unfold after at h;split at h
 .cases h
 split at h
 .cases h
 rename_i r1 ha;cases h
 suffices hw:WF r1 from⟨hw.aX,hw.aO,fun u hu=>EA (hw.ej u hu),hw.uses⟩
 unfold apply at ha;split at ha
 ·-- a new thing
  unfold oe at ha;split at ha
  .repeat' split at ha
   all_goals first|(cases ha;done)|skip
   cases ha
   exact⟨w.aX,w.aO,fun u hu=>EA (w.ej u hu),fun u hu=>⟨(w.uses u hu).1,fun x M=>by
    have:=(w.uses u hu).2 x M;unfold zx at *;obtain⟨k,hk⟩:=Option.isSome_iff_exists.1 this
    rw[findIdx?_append hk];rfl⟩⟩
  split at ha
  .repeat' split at ha
   all_goals first|(cases ha;done)|skip
   cases ha;refine⟨?_,?_,?_,w.uses⟩
   .intro p hp;rcases Ep.1 hp with hp|hp
    .exact w.aX p hp
    .simp at hp;subst hp;exact⟨by simp[kl],by simp⟩
   .intro p hp;rcases Ep.1 hp with hp|hp
    .exact w.aO p hp
    .simp at hp;subst hp;exact⟨by simp[kl],by simp⟩
   .intro u hu;refine qo2 (fun n p hp=>⟨p,?_,[],by simp⟩) (w.ej u hu);unfold kx zr at *
    cases hk:r.ah.findIdx? (fun x=>decide (x.name=n))with
    |none=>rw[hk]at hp;simp at hp
    |some k=>
     rw[hk]at hp;rw[findIdx?_append hk];simp only[E4]at hp ⊢;rw[Eg (Eb.1 hp).1];exact hp
  .split at ha
   .cases ha
   rename_i p hp
   repeat' split at ha
   all_goals first|(cases ha;done)|skip
   rename_i bI _;cases ha;refine⟨w.aX,w.aO,?_,?_⟩
   .intro u hu;refine EA (r:=r) ?_;rcases Ep.1 hu with hu|hu
    .exact w.ej u hu
    .simp at hu;subst hu;unfold gp;simp only[hp,E4,Bd]
     have:0<p.bg.length:=by
      cases hd:p.bg with
      |nil=>rw[hd]at bI;simp at bI|cons _ _=>simp
     rw[if_pos (by omega),Eh (by omega)];rfl
   .intro u hu;rcases Ep.1 hu with hu|hu
    .exact w.uses u hu
    .simp at hu;subst hu;exact⟨by simp[kl],by simp⟩
 split at ha
 ·-- a product
  unfold og at ha;split at ha
  .cases ha
  split at ha
  .cases ha
  rename_i i hi p hp;have dk:=E9 hp;split at ha
  .repeat' split at ha
   all_goals first|(cases ha;done)|skip
   rename_i Q I;cases ha;exact w.bH hp rfl ⟨[],by simp⟩ (jc0 (w.aX p dk) (by omega) I) (w.aO p dk)
  split at ha
  .repeat' split at ha
   all_goals first|(cases ha;done)|skip
   rename_i Q I;cases ha;exact w.bH hp rfl ⟨[],by simp⟩ (w.aX p dk) ⟨XK (key:=fun x:jh=>x.k) rfl (w.aO p dk).1,qy9 (w.aO p dk).2 I⟩
  .repeat' split at ha
   all_goals first|(cases ha;done)|skip
   cases ha;exact w.bH hp rfl ⟨_,rfl⟩ (w.aX p dk) (w.aO p dk)
 split at ha
 ·-- a lot
  unfold sT at ha;split at ha
  .cases ha
  split at ha
  .cases ha
  rename_i i hi x M
  repeat' split at ha
  all_goals first|(cases ha;done)|(cases ha;exact w.cx M rfl)
 ·-- a unit
  unfold oh at ha;split at ha
  .cases ha
  split at ha
  .cases ha
  rename_i i hi u hu;have dk:=E9 hu;have tP:=w.ej u dk;split at ha
  .unfold uD at ha;split at ha
   .cases ha
   split at ha
   .cases ha
   rename_i _ k hk _ x M
   repeat' split at ha
   all_goals first|(cases ha;done)|skip
   cases ha;refine(w.cx (y:={ x with left:=wrap (x.left-vl e 1) }) M rfl).aH (u':={ u with uses:=oc wrap u.uses x.name (vl e 1) }) hu (EA (r:=r) tP) ⟨q6t (w.uses u dk).1,fun z hz=>?_⟩;rw[q28 (y:={ x with left:=wrap (x.left-vl e 1) }) M rfl];rcases qzs hz with hz|hz
   .obtain⟨y,Y,I,_⟩:=bV hk;rw[M]at Y;cases Y;simp at I;rw[hz,I,hk];rfl
   .exact(w.uses u dk).2 z hz
  split at ha
  .unfold uH at ha;split at ha
   .cases ha
   split at ha
   .cases ha
   rename_i k hk v hv;have hmv:=E9 hv;split at ha
   .cases ha
   rename_i SG
   repeat' split at ha
   all_goals first|(cases ha;done)|skip
   cases ha;exact(w.aH (u':={ u with partner:=v.name }) hu tP (w.uses u dk)).aH (u':={ v with partner:=u.name }) (by simp only[aH];rw[E8 SG];exact hv) (EA (r:=r) (w.ej v hmv)) (w.uses v hmv)
  split at ha
  .repeat' split at ha
   all_goals first|(cases ha;done)|skip
   cases ha;exact w.aH hu tP (w.uses u dk)
  split at ha
  .split at ha
   .cases ha
   split at ha
   .cases ha
   rename_i v hv;split at ha
   .cases ha
   cases ha;refine w.aH hu ?_ (w.uses u dk);unfold gp qS at *
   cases hq:kx r u.product with
   |none=>rw[hq]at hv;simp at hv
   |some p=>
    rw[hq]at hv tP;simp only[Option.map_some,E3.injEq,E4]at hv tP ⊢;subst hv;unfold Bd at tP ⊢;split at tP
    .have bh:=(Eb.1 (Hb tP).symm).1;rw[if_pos (by omega),Eh (by omega)];rfl
    .simp at tP
  split at ha
  .split at ha
   .cases ha
   cases ha;exact w.aH hu tP (w.uses u dk)
  .split at ha
   .cases ha
   cases ha;exact w.aH hu tP (w.uses u dk)
end Go.W
namespace Go.W
def cz:List (Str×Nat×Nat):=[(nw,2,2),(nZ,1,1),(nx,2,2),(lu,2,3),(qQ,1,1),(pC,2,1),(ny,2,2),(pD,2,2),(qR,1,1),(n9,2,1),(oT,1,1),(sP,1,1),(iJ,1,1),(xZ,1,1),(jI,0,0)]
def z6 (k:Str):Option (Nat×Nat):=(cz.find? fun x=>decide (x.1=k)).map (·.2)
def qV (c:UInt8):Bool:=(decide (65<=c.toNat)&&decide (c.toNat<=90))||(decide (97<=c.toNat)&&decide (c.toNat<=122))
def yO (c:UInt8):Bool:=(decide (48<=c.toNat)&&decide (c.toNat<=57))||decide (c.toNat=95)
def b6 (s:Str):Bool:=match s with
 | []=>false|c::t=>qV c&&t.all (fun c=>qV c||yO c)&&decide (s.length<=24)
def jb (e:cf):Int:=
 if e.number<1\/1000<e.number then 3 else match z6 e.kind with
 |none=>13
 |some f=>if e.names.length≠f.1\/e.values.length≠f.2 then 2 else if !(e.names.all b6)then 8 else if !(e.values.all fun n=>decide (0<=n)&&decide (n<=999999999))then 3 else if e.text≠[]then 1 else 0
abbrev zz:=List cf×List bX
def ku:bX:=⟨0,[],[],[]⟩
def now (h:zz):bX:=h.2.getLast?.getD ku
def accept (wrap:Int->Int)(h:zz)(k:Int)(e:cf):Except Int zz:=
 if e.number≠k then .error 11 else
 if e.kind=jI then(match h.1.getLast? with
  |none=>.error 12
  |some c=>if c.kind=iJ then .error 19 else .ok (h.1.dropLast,h.2.dropLast))
 else match after wrap (now h) e with
  | .error x=>.error x| .ok r=>.ok (h.1++[e],h.2++[r])
def zy (wrap:Int->Int):Nat->zz->List cf->Except (Int×Int) zz
 |_,h,[]=>.ok h
 |i,h,e::l=>if jb e≠0 then .error ((i:Int)+1,jb e)else match accept wrap h ((i:Int)+1) e with
  | .error x=>.error ((i:Int)+1,x)| .ok h'=>zy wrap (i+1) h' l
def run (wrap:Int->Int)(l:List cf):Except (Int×Int) zz:=if 1000<l.length then .error (0,5)else zy wrap 0 ([],[ku]) l
theorem Oy (wrap:Int->Int):∀(l m:List cf) (i:Nat) (h:zz),zy wrap i h (l++m)=match zy wrap i h l with
  | .error x=>.error x| .ok h'=>zy wrap (i+l.length) h' m
 | [],m,i,h=>by simp[zy]
 |e::l,m,i,h=>by
  simp only[List.cons_append,zy];split
  .rfl
  cases accept wrap h ((i:Int)+1) e with
  |error x=>rfl|ok h'=>simp only[];rw[Oy wrap l m (i+1) h',G4,show i+1+l.length=i+(l.length+1) by omega]
structure ic (wrap:Int->Int)(h:zz):Prop where
 len:h.2.length=h.1.length+1
 first:h.2[0]?=E3 ku
 next:∀j e r,h.1[j]?=E3 e->h.2[j]?=E3 r->∃r',h.2[j+1]?=E3 r'/\after wrap r e=.ok r'
 kinds:∀e∈h.1,jb e=0/\e.kind≠jI
theorem ic.empty {wrap:Int->Int}:ic wrap ([],[ku]):=⟨rfl,rfl,fun j e r h=>by simp at h,by simp⟩
theorem ic.now {wrap:Int->Int}{h:zz}(k:ic wrap h):h.2[h.1.length]?=E3 (Go.W.now h):=by
 unfold Go.W.now;have hl:=k.len;rw[List.getLast?_eq_getElem?,hl]
 have:h.1.length<h.2.length:=by omega
 simp[Eh this]
theorem ic.accept {wrap:Int->Int}{h h':zz}{k:Int}{e:cf}(o:ic wrap h)(hc:jb e=0)(ha:accept wrap h k e=.ok h'):ic wrap h':=by
 unfold Go.W.accept at ha;split at ha
 .cases ha
 split at ha
 .split at ha
  .cases ha
  .rename_i c hc;split at ha
   .cases ha
   cases ha
   have gO:0<h.1.length:=by
    cases hh:h.1 with
    |nil=>rw[hh]at hc;simp at hc|cons _ _=>simp
   have hl:=o.len;refine⟨by simp only[Ha];omega,?_,?_,?_⟩
   .rw[G7,if_pos (by omega)];exact o.first
   .intro j e' r Y I;simp only[G7]at Y I ⊢;split at Y
    .rename_i hj;rw[if_pos (by omega)]at I;rw[if_pos (by omega)];exact o.next j e' r Y I
    .cases Y
   .intro e' he;exact o.kinds e' (List.mem_of_mem_take (by rwa [List.dropLast_eq_take]at he))
 .rename_i hnu;split at ha
  .cases ha
  .rename_i r Q;cases ha;have hl:=o.len;refine⟨by simp only[G0,G4,List.length_nil];omega,?_,?_,?_⟩
   .rw[Eg (by omega)];exact o.first
   .intro j e' q Y I;by_cases hj:j<h.1.length
    .rw[Eg hj]at Y;rw[Eg (by omega)]at I;obtain⟨r',k1,k2⟩:=o.next j e' q Y I;exact⟨r',by rw[Eg (by have:=(Eb.1 k1).1;omega)];exact k1,k2⟩
    .have hj':j=h.1.length:=by have:=(Eb.1 Y).1;simp at this;omega
     subst hj';rw[G1 (Nat.le_refl _)]at Y;simp at Y;subst Y;rw[Eg (by omega),o.now]at I;cases I;exact⟨r,by rw[G1 (by omega)];simp[hl],Q⟩
   .intro e' he;rcases Ep.1 he with he|he
    .exact o.kinds e' he
    .simp at he;subst he;exact⟨hc,hnu⟩
theorem ic.wf {wrap:Int->Int}{h:zz}(o:ic wrap h):∀(j:Nat) (r:bX),h.2[j]?=E3 r->WF r
 |0,r,Q=>by rw[o.first]at Q;cases Q;exact WF.empty 0
 |j+1,r,Q=>by
  have bh:=(Eb.1 Q).1;have hl:=o.len
  have Y:j<h.1.length:=by omega
  obtain⟨r',k1,k2⟩:=o.next j _ _ (Eh Y) (Eh (by omega:j<h.2.length));rw[k1]at Q;cases Q;exact jlf (ic.wf o j _ (Eh (by omega))) k2
theorem ic.sY {wrap:Int->Int}{h:zz}(o:ic wrap h):WF (Go.W.now h):=o.wf _ _ o.now
end Go.W
namespace Go.W
theorem Us {e:cf}(h:jb e=0):e.names.all (fun s=>!s.isEmpty)=true/\∃f,z6 e.kind=E3 f/\e.names.length=f.1/\e.values.length=f.2:=by
 unfold jb at h;split at h
 .cases h
 split at h
 .cases h
 rename_i f hf;split at h
 .cases h
 rename_i hl;split at h
 .cases h
 rename_i hn;refine⟨?_,f,hf,by by_cases hh:e.names.length=f.1<;>simp_all,by by_cases hh:e.values.length=f.2<;>simp_all⟩
 have hn:e.names.all b6=true:=by simpa using hn
 rw[List.all_eq_true]at hn ⊢;intro s G;have:=hn s G
 cases s with
 |nil=>simp[b6]at this|cons c t=>rfl
end Go.W
namespace Go.W
def u9 (u:cH)(s:Str):Bool:=u.uses.any fun x=>decide (x.k=s)
end Go.W
namespace Go.W
theorem q5t {wrap:Int->Int}{l:List cf}{h:zz}{e:cf}(Q:run wrap l=.ok h)(hn:l.length<1000):run wrap (l++[e])=if jb e≠0 then .error ((l.length:Int)+1,jb e)else match accept wrap h ((l.length:Int)+1) e with
  | .error x=>.error ((l.length:Int)+1,x)
  | .ok h'=>.ok h':=by
 unfold run at Q ⊢;rw[if_neg (by omega)]at Q;rw[if_neg (by rw[G0,G8];omega),Oy,Q];simp only[Nat.zero_add,zy]<;>rfl
def jmz (k:Int):cf:=⟨k,jI,[],[],[]⟩
theorem jbr {k:Int}(Y:1<=k)(I:k<=1000):jb (jmz k)=0:=by
 have h:z6 jI=E3 (0,0):=by decide
 unfold jb;simp only[jmz];rw[h]
 have:¬(k<1\/1000<k):=by omega
 simp[jI,this]
 try omega
theorem jfy {wrap:Int->Int}{r:bX}{e:cf}{x:Int}(h:apply wrap r e=.error x):x≠0:=by
 unfold apply at h;split at h
 .unfold oe at h
  repeat' split at h
  all_goals first|(cases h;done)|(cases h;decide)
 split at h
 .unfold og at h
  repeat' split at h
  all_goals first|(cases h;done)|(cases h;decide)
 split at h
 .unfold sT at h
  repeat' split at h
  all_goals first|(cases h;done)|(cases h;decide)
 unfold oh at h;split at h
 .cases h;decide
 split at h
 .cases h;decide
 split at h
 .unfold uD at h
  repeat' split at h
  all_goals first|(cases h;done)|(cases h;decide)
 split at h
 .unfold uH at h
  repeat' split at h
  all_goals first|(cases h;done)|(cases h;decide)
 repeat' split at h
 all_goals first|(cases h;done)|(cases h;assumption)|(cases h;decide)
theorem jgf {wrap:Int->Int}{r:bX}{e:cf}{x:Int}(h:after wrap r e=.error x):x≠0:=by
 unfold after at h;split at h
 .cases h;decide
 split at h
 .rename_i M;cases h;exact jfy M
 .cases h
theorem jea {wrap:Int->Int}{h:zz}{k:Int}{e:cf}{x:Int}(ha:accept wrap h k e=.error x):x≠0:=by
 unfold accept at ha;split at ha
 .cases ha;decide
 split at ha
 .split at ha
  .cases ha;decide
  .split at ha
   .cases ha;decide
   .cases ha
 .split at ha
  .rename_i M;cases ha;exact jgf M
  .cases ha
end Go.W
namespace Go.W
theorem qra {wrap:Int->Int}:∀ {l:List cf} {i:Nat} {h h':zz},h.1.length<=i->zy wrap i h l=.ok h'->h'.1.length<=i+l.length
 | [],i,h,h',hi,Q=>by simp only[zy]at Q;cases Q;simpa using hi
 |e::l,i,h,h',hi,Q=>by
  simp only[zy]at Q;split at Q
  .cases Q
  split at Q
  .cases Q
  .rename_i Y ha
   have hl:Y.1.length<=i+1:=by
    unfold accept at ha;split at ha
    .cases ha
    split at ha
    .split at ha
     .cases ha
     .split at ha
      .cases ha
      cases ha;show h.1.dropLast.length<=_;rw[Ha];omega
    .split at ha
     .cases ha
     .cases ha;show(h.1++[e]).length<=_;rw[G0,G8];omega
   have:=qra hl Q;rw[G4];omega
theorem jhv {wrap:Int->Int}{l:List cf}{h:zz}(Q:run wrap l=.ok h):h.1.length<=l.length:=by
 unfold run at Q;split at Q
 .cases Q
 .have:=qra (Nat.le_refl 0) Q;omega
end Go.W
end
