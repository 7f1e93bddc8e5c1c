/- The register of chapter 10 in plain lists. -/
set_option linter.unusedVariables false
set_option linter.unusedSimpArgs false
noncomputable section
open List renaming getElem?_eq_some_iff->En,getElem?_append_left->E6,getElem?_eq_getElem->Ha,findIdx?_cons->Hb,mem_append->Hc,getElem?_set_ne->H4,mem_of_getElem?->H8,length_append->H9,getElem?_append_right->Ia,length_cons->Ib,getElem?_set_self->Ic,getElem?_dropLast->If,length_singleton->Ig,length_dropLast->Ij,map_cons->Il
open Option renaming some->H2,bind_some->H3,some_get->Ik
namespace Go.W
abbrev Str:=List UInt8
structure bD where
 k:Str
 n:Int
 deriving DecidableEq
structure jg where
 k:Str
 a:Int
 b:Int
 deriving DecidableEq
structure ji where
 name:Str
 kind:Str
 count:Int
 left:Int
 held:Bool
 deriving DecidableEq
structure kD where
 bd:List bD
 aS:List jg
 deriving DecidableEq
structure wP where
 name:Str
 bW:kD
 bm:List kD
 deriving DecidableEq
structure lj where
 name:Str
 product:Str
 version:Int
 uses:List bD
 results:List jg
 partner:Str
 ax:Bool
 au:Int
 deriving DecidableEq
structure yc where
 day:Int
 az:List ji
 ah:List wP
 units:List lj
 deriving DecidableEq
structure cf where
 number:Int
 kind:Str
 names:List Str
 values:List Int
 text:Str
 deriving DecidableEq
def z7 (r:yc)(n:Str):Option Nat:=r.az.findIdx? fun x=>decide (x.name=n)
def z4 (r:yc)(n:Str):Option Nat:=r.ah.findIdx? fun x=>decide (x.name=n)
def zq (r:yc)(n:Str):Option Nat:=r.units.findIdx? fun x=>decide (x.name=n)
def iC (r:yc)(n:Str):Option wP:=(z4 r n).bind fun k=>r.ah[k]?
def rI (r:yc)(u:lj):Option Int:=(iC r u.product).map fun p=>(p.bm.length:Int)
def BD (l:List kD)(v:Int):Option kD:=if 1<=v then l[(v-1).toNat]? else none
def gD (r:yc)(u:lj):Option kD:=(iC r u.product).bind fun p=>BD p.bm u.version
def pj (r:yc)(n:Str):Option ji:=(z7 r n).bind fun k=>r.az[k]?
theorem bV {α:Type}{p:α->Bool}{l:List α}{k:Nat}(h:l.findIdx? p=H2 k):∃x,l[k]?=H2 x/\p x=true/\k<l.length/\∀j x,j<k->l[j]?=H2 x->p x=false:=by
 induction l generalizing k with
 |nil=>simp at h
 |cons y l ih=>
  rw[Hb]at h;by_cases hp:p y=true
  .rw[if_pos hp]at h;cases h;exact⟨y,rfl,hp,by simp,fun j x hj=>by omega⟩
  .rw[if_neg hp]at h;obtain⟨i,hi,rfl⟩:=Option.map_eq_some_iff.1 h;obtain⟨x,Y,I,h3,h4⟩:=ih hi;refine⟨x,by simpa using Y,I,by simp;omega,fun j z hj hz=>?_⟩
   cases j with
   |zero=>simp at hz;subst hz;simpa using hp|succ j=>exact h4 j z (by omega) (by simpa using hz)
theorem kL {α:Type}{p:α->Bool}{l:List α}:l.findIdx? p=none↔∀x∈l,p x=false:=by
 induction l with
 |nil=>simp
 |cons y l ih=>
  rw[Hb];by_cases hp:p y=true
  .rw[if_pos hp];simp[hp]
  .rw[if_neg hp]
   have eP:p y=false:=by simpa using hp
   simp[ih,eP]
def ki {α:Type}(same:α->Bool)(x:α)(l:List α):List α:=match l.findIdx? same with
 |some i=>l.set i x|none=>l++[x]
def Gf {α:Type}(same:α->Bool)(x:α)(l:List α):List α:=(l.map fun y=>if same y then x else y)++(if l.any same then []else [x])
def ku {α β:Type}(key:α->β)(l:List α):Prop:=(l.map key).Nodup
theorem qzm {α β:Type}[DecidableEq β]{key:α->β}{k:β}{x:α}:∀ {l:List α},ku key l->(l.map fun y=>if decide (key y=k)then x else y)=(match l.findIdx? (fun y=>decide (key y=k))with|some i=>l.set i x|none=>l)
 | [],_=>rfl
 |y::l,h=>by
  have hn:=List.nodup_cons.1 (by simpa[ku]using h:(key y::l.map key).Nodup);rw[Hb];by_cases hy:key y=k
  .simp only[Il,hy,decide_true,if_true]
   have:l.map (fun y=>if decide (key y=k)then x else y)=l:=by
    conv=>rhs;rw[<-List.map_id l]
    refine List.map_congr_left fun z hz=>?_;have:key z≠k:=fun e=>hn.1 (by rw[hy,<-e];exact List.mem_map_of_mem hz);simp[this]
   rw[this];rfl
  .have ih:=qzm (k:=k) (x:=x) (l:=l) hn.2;simp only[Il,hy,decide_false,Bool.false_eq_true,if_false];rw[ih]
   cases l.findIdx? (fun y=>decide (key y=k))with
   |none=>rfl|some i=>rfl
theorem Gb {α:Type}{p:α->Bool}{l:List α}:l.any p=(l.findIdx? p).isSome:=by
 induction l with
 |nil=>rfl
 |cons y l ih=>
  rw[Hb,List.any_cons];by_cases hp:p y=true
  .rw[if_pos hp,hp];rfl
  .rw[if_neg hp]
   have:p y=false:=by simpa using hp
   rw[this,Bool.false_or,ih];cases l.findIdx? p<;>rfl
theorem q33 {α β:Type}[DecidableEq β]{key:α->β}{k:β}{x:α}{l:List α}(h:ku key l):Gf (fun y=>decide (key y=k)) x l=ki (fun y=>decide (key y=k)) x l:=by
 unfold Gf ki;rw[qzm h,Gb]
 cases l.findIdx? (fun y=>decide (key y=k))with
 |none=>simp|some i=>simp
theorem q4m {α β:Type}[DecidableEq β]{key:α->β}{k:β}{x:α}(M:key x=k):∀ {l:List α} {i:Nat},ku key l->l.findIdx? (fun y=>decide (key y=k))=H2 i->ku key (l.set i x):=by
 intro l i h hi;obtain⟨y,Y,I,h3,_⟩:=bV hi
 have:(l.set i x).map key=l.map key:=by
  rw[List.map_set];apply List.ext_getElem?;intro j;by_cases hj:j=i
  .subst hj;rw[Ic (by simpa using h3),List.getElem?_map,Y];simp at I;simp[M,I]
  .rw[H4 (Ne.symm hj)]
 unfold ku;rw[this];exact h
theorem qsq {α β:Type}[DecidableEq β]{key:α->β}{k:β}{x:α}{l:List α}(M:key x=k)(h:ku key l):ku key (ki (fun y=>decide (key y=k)) x l):=by
 unfold ki
 cases hi:l.findIdx? (fun y=>decide (key y=k))with
 |some i=>exact q4m M h hi
 |none=>
  rw[kL]at hi;unfold ku at *;rw[List.map_append,List.nodup_append];refine⟨h,by simp,?_⟩;intro a ha b hb;simp at hb;subst hb;obtain⟨z,hz,rfl⟩:=List.mem_map.1 ha;have:=hi z hz;rw[M];simpa using this
theorem q7m {α β:Type}{key:α->β}{l:List α}(p:α->Bool)(h:ku key l):ku key (l.filter p):=
 List.Nodup.sublist (List.Sublist.map key List.filter_sublist) h
end Go.W
namespace Go.W
def nG:Str:=[108,111,116]
def oe:Str:=[112,114,111,100,117,99,116]
def nH:Str:=[110,101,101,100]
def lO:Str:=[116,101,115,116]
def rG:Str:=[105,115,115,117,101]
def pV:Str:=[98,117,105,108,100]
def nI:Str:=[117,115,101]
def pW:Str:=[109,101,97,115,117,114,101]
def rH:Str:=[117,112,100,97,116,101]
def og:Str:=[112,97,105,114]
def pi:Str:=[104,111,108,100]
def tm:Str:=[102,114,101,101]
def lP:Str:=[115,104,105,112]
def yK:Str:=[99,111,109,112,108,97,105,110]
def oh:Str:=[117,110,100,111]
def Ga (wrap:Int->Int)(r:yc)(u:lj)(kind:Str):Int:=u.uses.foldl (fun n x=>if(pj r x.k).any (fun l=>decide (l.kind=kind))then wrap (n+x.n)else n) 0
def tr (u:lj)(t:jg):Bool:=u.results.foldl (fun is x=>if decide (x.k=t.k)&&decide (x.a=u.version)then decide (t.a<=x.b)&&decide (x.b<=t.b)else is) false
def rJ (d:kD)(u:lj):List Str:=(d.aS.filter fun t=>!tr u t).map (·.k)
def yM (wrap:Int->Int)(r:yc)(d:kD)(u:lj):Bool:=d.bd.all fun n=>decide (n.n<=Ga wrap r u n.k)
def BK (r:yc)(u:lj):Bool:=u.uses.any fun x=>(pj r x.k).any (·.held)
def vp (wrap:Int->Int)(r:yc)(u:lj):Int:=
 if u.ax then 21 else if rI r u≠H2 u.version then 32 else
 match gD r u with
 |none=>20
 |some d=>if !yM wrap r d u then 20 else if !(rJ d u).isEmpty then 31 else if BK r u then 34 else 0
def cy (r:yc)(i:Nat)(x:ji):yc:={ r with az:=r.az.set i x }
def bI (r:yc)(i:Nat)(x:wP):yc:={ r with ah:=r.ah.set i x }
def aH (r:yc)(i:Nat)(x:lj):yc:={ r with units:=r.units.set i x }
def di (k:Str)(x:bD):Bool:=decide (x.k=k)
def eL (k:Str)(x:jg):Bool:=decide (x.k=k)
def kE (l:List bD)(k:Str)(n:Int):List bD:=if n=0 then l.filter (fun x=>!di k x)else ki (di k) ⟨k,n⟩ l
def oi (wrap:Int->Int)(l:List bD)(k:Str)(n:Int):List bD:=match l.findIdx? (di k)with
 |some i=>(match l[i]? with
  |some x=>l.set i ⟨k,wrap (n+x.n)⟩
  |none=>l)
 |none=>l++[⟨k,n⟩]
def nm (e:cf)(i:Nat):Str:=(e.names[i]?).getD []
def vl (e:cf)(i:Nat):Int:=(e.values[i]?).getD 0
abbrev rK:=Except Int yc
def pn (r:yc)(e:cf):rK:=
 if e.kind=nG then
  (if(z7 r (nm e 0)).isSome then .error 9 else if vl e 1<1\/10000<vl e 1 then .error 3 else if 64<=r.az.length then .error 5 else
   .ok { r with az:=r.az++[⟨nm e 0,nm e 1,vl e 1,vl e 1,false⟩] })
 else if e.kind=oe then
  (if(z4 r (nm e 0)).isSome then .error 9 else if 16<=r.ah.length then .error 5 else .ok { r with ah:=r.ah++[⟨nm e 0,⟨[],[]⟩,[]⟩] })
 else match iC r (nm e 1)with
  |none=>.error 10
  |some p=>if(zq r (nm e 0)).isSome then .error 9 else if p.bm.isEmpty then .error 32 else if 256<=r.units.length then .error 5 else
    .ok { r with units:=r.units++[⟨nm e 0,nm e 1,p.bm.length,[],[],[],false,0⟩] }
def po (r:yc)(e:cf):rK:=match z4 r (nm e 0)with
 |none=>.error 10
 |some i=>match r.ah[i]? with
  |none=>.error 10
  |some p=>
   if e.kind=nH then
    (if vl e 1<0\/10000<vl e 1 then .error 3 else if 0<vl e 1/\!(p.bW.bd.any (di (nm e 1)))/\16<=p.bW.bd.length then .error 5 else
     .ok (bI r i { p with bW:={ p.bW with bd:=kE p.bW.bd (nm e 1) (vl e 1) } }))
   else if e.kind=lO then
    (if vl e 2<vl e 1 then .error 11 else if !(p.bW.aS.any (eL (nm e 1)))/\16<=p.bW.aS.length then .error 5 else
     .ok (bI r i { p with bW:={ p.bW with aS:=ki (eL (nm e 1)) ⟨nm e 1,vl e 1,vl e 2⟩ p.bW.aS } }))
   else(if p.bW.bd.isEmpty then .error 12 else if 100<=p.bm.length then .error 5 else .ok (bI r i { p with bm:=p.bm++[p.bW] }))
def vr (r:yc)(e:cf):rK:=match z7 r (nm e 0)with
 |none=>.error 10
 |some i=>match r.az[i]? with
  |none=>.error 10
  |some x=>if e.kind=pi then(if x.held then .error 34 else .ok (cy r i { x with held:=true }))else(if !x.held then .error 20 else .ok (cy r i { x with held:=false }))
def wY (wrap:Int->Int)(r:yc)(i:Nat)(u:lj)(e:cf):rK:=match z7 r (nm e 1)with
 |none=>.error 10
 |some k=>match r.az[k]? with
  |none=>.error 10
  |some x=>if u.ax then .error 21 else if vl e 1=0 then .error 3 else if x.held then .error 34 else
   if !((gD r u).any fun d=>d.bd.any (di x.kind))then .error 7 else if x.left<vl e 1 then .error 4 else
    .ok (aH (cy r k { x with left:=wrap (x.left-vl e 1) }) i { u with uses:=oi wrap u.uses x.name (vl e 1) })
def wZ (r:yc)(i:Nat)(u:lj)(e:cf):rK:=match zq r (nm e 1)with
 |none=>.error 10
 |some k=>match r.units[k]? with
  |none=>.error 10
  |some v=>if i=k then .error 9 else if u.product≠v.product\/u.version≠v.version then .error 30 else if u.ax\/v.ax then .error 21 else
   if u.partner≠[]\/v.partner≠[]then .error 35 else .ok (aH (aH r i { u with partner:=v.name }) k { v with partner:=u.name })
def pq (wrap:Int->Int)(r:yc)(e:cf):rK:=match zq r (nm e 0)with
 |none=>.error 10
 |some i=>match r.units[i]? with
  |none=>.error 10
  |some u=>
   if e.kind=nI then wY wrap r i u e
   else if e.kind=og then wZ r i u e
   else if e.kind=pW then
    (if u.ax then .error 21 else if !((gD r u).any fun d=>d.aS.any (eL (nm e 1)))then .error 7 else if 64<=u.results.length then .error 5 else
     .ok (aH r i { u with results:=u.results++[⟨nm e 1,u.version,vl e 1⟩] }))
   else if e.kind=rH then
    (if u.ax then .error 21 else match rI r u with
     |none=>.error 32
     |some v=>if u.version=v then .error 32 else .ok (aH r i { u with version:=v }))
   else if e.kind=lP then(if vp wrap r u≠0 then .error (vp wrap r u)else .ok (aH r i { u with ax:=true }))
   else(if !u.ax then .error 20 else .ok (aH r i { u with au:=wrap (u.au+1) }))
def apply (wrap:Int->Int)(r:yc)(e:cf):rK:=
 if e.kind=nG\/e.kind=oe\/e.kind=pV then pn r e
 else if e.kind=nH\/e.kind=lO\/e.kind=rG then po r e
 else if e.kind=pi\/e.kind=tm then vr r e
 else pq wrap r e
def after (wrap:Int->Int)(r:yc)(e:cf):rK:=if vl e 0<r.day then .error 20 else match apply wrap r e with
 | .error x=>.error x| .ok r'=>.ok { r' with day:=vl e 0 }
structure WF (r:yc):Prop where
 bd:∀p∈r.ah,ku (·.k) p.bW.bd/\p.bW.bd.length<=16
 aS:∀p∈r.ah,ku (·.k) p.bW.aS/\p.bW.aS.length<=16
 en:∀u∈r.units,(gD r u).isSome
 uses:∀u∈r.units,ku (·.k) u.uses/\∀x∈u.uses,(z7 r x.k).isSome
theorem WF.empty (d:Int):WF ⟨d,[],[],[]⟩:=⟨by simp,by simp,by simp,by simp⟩
theorem findIdx?_append {α:Type}{p:α->Bool}{l m:List α}{k:Nat}(h:l.findIdx? p=H2 k):(l++m).findIdx? p=H2 k:=by
 rw[List.findIdx?_append,h];rfl
theorem gB {α:Type}{p:α->Bool}{l:List α}{i:Nat}{x y:α}(hy:l[i]?=H2 y)(hxy:p x=p y):(l.set i x).findIdx? p=l.findIdx? p:=by
 induction l generalizing i with
 |nil=>rfl
 |cons z l ih=>
  cases i with
  |zero=>
   simp at hy;subst hy;rw[List.set_cons_zero,Hb,Hb,hxy]
  |succ i=>
   rw[List.set_cons_succ,Hb,Hb,ih (by simpa using hy)]
theorem qo3 {r r':yc}{u:lj}(h:∀n p,iC r n=H2 p->∃p',iC r' n=H2 p'/\∃m,p'.bm=p.bm++m)(hp:(gD r u).isSome):(gD r' u).isSome:=by
 unfold gD at *
 cases hq:iC r u.product with
 |none=>rw[hq]at hp;simp at hp
 |some p=>
  rw[hq]at hp;obtain⟨p',Y,m,I⟩:=h _ _ hq;rw[Y];simp only[H3,BD]at hp ⊢;split at hp
  .rename_i hv;rw[if_pos hv,I];have bg:=(En.1 (Ik hp).symm).1;rw[E6 bg];exact hp
  .simp at hp
theorem jaz {r r':yc}(h:r'.ah=r.ah)(n:Str):iC r' n=iC r n:=by unfold iC z4;rw[h]
theorem jdn {r r':yc}(h:r'.ah=r.ah)(u:lj):gD r' u=gD r u:=by unfold gD;rw[jaz h]
theorem Fj {r r':yc}{u:lj}(hp:(gD r u).isSome)(h:r'.ah=r.ah:=by rfl):(gD r' u).isSome:=by rw[jdn h];exact hp
theorem jc6 {r:yc}{i:Nat}{p p':wP}(hp:r.ah[i]?=H2 p)(hn:p'.name=p.name)(hd:∃m,p'.bm=p.bm++m)(n:Str)(q:wP)(hq:iC r n=H2 q):∃q',iC (bI r i p') n=H2 q'/\∃m,q'.bm=q.bm++m:=by
 unfold iC z4 at *;simp only[bI];rw[gB hp (by simp[hn])]
 cases hk:r.ah.findIdx? (fun x=>decide (x.name=n))with
 |none=>rw[hk]at hq;simp at hq
 |some k=>
  rw[hk]at hq;simp only[H3]at hq ⊢;have bg:=(En.1 hp).1;by_cases Bn:k=i
  .subst Bn;rw[hp]at hq;cases hq;exact⟨p',by rw[Ic bg],hd⟩
  .exact⟨q,by rw[H4 (Ne.symm Bn)];exact hq,[],by simp⟩
theorem tw {α:Type}{l:List α}{i:Nat}{x y:α}(h:y∈l.set i x):y∈l\/y=x:=List.mem_or_eq_of_mem_set h
theorem q8c {wrap:Int->Int}{l:List bD}{k:Str}{n:Int}(h:ku (·.k) l):ku (·.k) (oi wrap l k n):=by
 unfold oi
 cases hi:l.findIdx? (di k)with
 |none=>
  have:=qsq (key:=fun x:bD=>x.k) (k:=k) (x:=⟨k,n⟩) rfl h;unfold ki at this;rw[show l.findIdx? (fun y=>decide (y.k=k))=none from hi]at this;exact this
 |some i=>
  obtain⟨x,Y,_⟩:=bV hi;simp only[Y];exact q4m rfl h hi
theorem q0m {wrap:Int->Int}{l:List bD}{k:Str}{n:Int}{x:bD}(h:x∈oi wrap l k n):x.k=k\/x∈l:=by
 unfold oi at h;split at h
 .split at h
  .rcases tw h with h|rfl
   .exact .inr h
   .exact .inl rfl
  .exact .inr h
 .rcases Hc.1 h with h|h
  .exact .inr h
  .simp at h;subst h;exact .inl rfl
theorem q32 {r:yc}{i:Nat}{x y:ji}(M:r.az[i]?=H2 x)(hn:y.name=x.name)(n:Str):z7 (cy r i y) n=z7 r n:=by
 unfold z7 cy;exact gB M (by simp[hn])
theorem WF.aH {r:yc}(w:WF r){i:Nat}{u u':lj}(hu:r.units[i]?=H2 u)(hp:(gD r u').isSome)(hk:ku (·.k) u'.uses/\∀x∈u'.uses,(z7 r x.k).isSome):WF (aH r i u'):=by
 refine⟨w.bd,w.aS,?_,?_⟩
 .intro v hv;refine Fj (r:=r) ?_;rcases tw hv with hv|rfl
  .exact w.en v hv
  .exact hp
 .intro v hv;rcases tw hv with hv|rfl
  .exact w.uses v hv
  .exact hk
theorem WF.cy {r:yc}(w:WF r){i:Nat}{x y:ji}(M:r.az[i]?=H2 x)(hn:y.name=x.name):WF (cy r i y):=
 ⟨w.bd,w.aS,fun u hu=>Fj (w.en u hu),fun u hu=>⟨(w.uses u hu).1,fun z hz=>by rw[q32 M hn];exact(w.uses u hu).2 z hz⟩⟩
theorem WF.bI {r:yc}(w:WF r){i:Nat}{p p':wP}(hp:r.ah[i]?=H2 p)(hn:p'.name=p.name)(hd:∃m,p'.bm=p.bm++m)(Y:ku (·.k) p'.bW.bd/\p'.bW.bd.length<=16)(I:ku (·.k) p'.bW.aS/\p'.bW.aS.length<=16):WF (bI r i p'):=by
 refine⟨?_,?_,?_,?_⟩
 .intro q hq;rcases tw hq with hq|rfl
  .exact w.bd q hq
  .exact Y
 .intro q hq;rcases tw hq with hq|rfl
  .exact w.aS q hq
  .exact I
 .intro u hu;exact qo3 (fun n q hq=>jc6 hp hn hd n q hq) (w.en u hu)
 .exact w.uses
theorem q1d {α:Type}{p:α->Bool}{x:α}{l:List α}(h:l.length<=16)(I:¬(!(l.any p)/\16<=l.length)):(ki p x l).length<=16:=by
 unfold ki
 cases hi:l.findIdx? p with
 |some i=>simpa using h
 |none=>
  have:l.any p=false:=by rw[Gb,hi];rfl
  simp[this]at I;simp;omega
theorem jdm {l:List bD}{k:Str}{n:Int}(h:ku (·.k) l/\l.length<=16)(h0:0<=n)(I:¬(0<n/\!(l.any (di k))/\16<=l.length)):ku (·.k) (kE l k n)/\(kE l k n).length<=16:=by
 unfold kE;by_cases hn:n=0
 .rw[if_pos hn];exact⟨q7m _ h.1,Nat.le_trans (List.length_filter_le _ _) h.2⟩
 .rw[if_neg hn];refine⟨qsq (key:=fun x:bD=>x.k) rfl h.1,q1d h.2 fun hh=>I ⟨by omega,hh.1,hh.2⟩⟩
theorem jlh {wrap:Int->Int}{r r':yc}{e:cf}(w:WF r)(h:after wrap r e=.ok r'):WF r':=by
 unfold after at h;split at h
 .cases h
 split at h
 .cases h
 rename_i r1 ha;cases h
 suffices hw:WF r1 from⟨hw.bd,hw.aS,fun u hu=>Fj (hw.en u hu),hw.uses⟩
 unfold apply at ha;split at ha
 ·-- a new thing
  unfold pn at ha;split at ha
  .repeat' split at ha
   all_goals first|(cases ha;done)|skip
   cases ha
   exact⟨w.bd,w.aS,fun u hu=>Fj (w.en u hu),fun u hu=>⟨(w.uses u hu).1,fun x M=>by
    have:=(w.uses u hu).2 x M;unfold z7 at *;obtain⟨k,hk⟩:=Option.isSome_iff_exists.1 this
    rw[findIdx?_append hk];rfl⟩⟩
  split at ha
  .repeat' split at ha
   all_goals first|(cases ha;done)|skip
   cases ha;refine⟨?_,?_,?_,w.uses⟩
   .intro p hp;rcases Hc.1 hp with hp|hp
    .exact w.bd p hp
    .simp at hp;subst hp;exact⟨by simp[ku],by simp⟩
   .intro p hp;rcases Hc.1 hp with hp|hp
    .exact w.aS p hp
    .simp at hp;subst hp;exact⟨by simp[ku],by simp⟩
   .intro u hu;refine qo3 (fun n p hp=>⟨p,?_,[],by simp⟩) (w.en u hu);unfold iC z4 at *
    cases hk:r.ah.findIdx? (fun x=>decide (x.name=n))with
    |none=>rw[hk]at hp;simp at hp
    |some k=>
     rw[hk]at hp;rw[findIdx?_append hk];simp only[H3]at hp ⊢;rw[E6 (En.1 hp).1];exact hp
  .split at ha
   .cases ha
   rename_i p hp
   repeat' split at ha
   all_goals first|(cases ha;done)|skip
   rename_i bG _;cases ha;refine⟨w.bd,w.aS,?_,?_⟩
   .intro u hu;refine Fj (r:=r) ?_;rcases Hc.1 hu with hu|hu
    .exact w.en u hu
    .simp at hu;subst hu;unfold gD;simp only[hp,H3,BD]
     have:0<p.bm.length:=by
      cases hd:p.bm with
      |nil=>rw[hd]at bG;simp at bG|cons _ _=>simp
     rw[if_pos (by omega),Ha (by omega)];rfl
   .intro u hu;rcases Hc.1 hu with hu|hu
    .exact w.uses u hu
    .simp at hu;subst hu;exact⟨by simp[ku],by simp⟩
 split at ha
 ·-- a product
  unfold po at ha;split at ha
  .cases ha
  split at ha
  .cases ha
  rename_i i hi p hp;have dl:=H8 hp;split at ha
  .repeat' split at ha
   all_goals first|(cases ha;done)|skip
   rename_i Q I;cases ha;exact w.bI hp rfl ⟨[],by simp⟩ (jdm (w.bd p dl) (by omega) I) (w.aS p dl)
  split at ha
  .repeat' split at ha
   all_goals first|(cases ha;done)|skip
   rename_i Q I;cases ha;exact w.bI hp rfl ⟨[],by simp⟩ (w.bd p dl) ⟨qsq (key:=fun x:jg=>x.k) rfl (w.aS p dl).1,q1d (w.aS p dl).2 I⟩
  .repeat' split at ha
   all_goals first|(cases ha;done)|skip
   cases ha;exact w.bI hp rfl ⟨_,rfl⟩ (w.bd p dl) (w.aS p dl)
 split at ha
 ·-- a lot
  unfold vr at ha;split at ha
  .cases ha
  split at ha
  .cases ha
  rename_i i hi x M
  repeat' split at ha
  all_goals first|(cases ha;done)|(cases ha;exact w.cy M rfl)
 ·-- a unit
  unfold pq at ha;split at ha
  .cases ha
  split at ha
  .cases ha
  rename_i i hi u hu;have dl:=H8 hu;have uh:=w.en u dl;split at ha
  .unfold wY at ha;split at ha
   .cases ha
   split at ha
   .cases ha
   rename_i _ k hk _ x M
   repeat' split at ha
   all_goals first|(cases ha;done)|skip
   cases ha;refine(w.cy (y:={ x with left:=wrap (x.left-vl e 1) }) M rfl).aH (u':={ u with uses:=oi wrap u.uses x.name (vl e 1) }) hu (Fj (r:=r) uh) ⟨q8c (w.uses u dl).1,fun z hz=>?_⟩;rw[q32 (y:={ x with left:=wrap (x.left-vl e 1) }) M rfl];rcases q0m hz with hz|hz
   .obtain⟨y,Y,I,_⟩:=bV hk;rw[M]at Y;cases Y;simp at I;rw[hz,I,hk];rfl
   .exact(w.uses u dl).2 z hz
  split at ha
  .unfold wZ at ha;split at ha
   .cases ha
   split at ha
   .cases ha
   rename_i k hk v hv;have hmv:=H8 hv;split at ha
   .cases ha
   rename_i UE
   repeat' split at ha
   all_goals first|(cases ha;done)|skip
   cases ha;exact(w.aH (u':={ u with partner:=v.name }) hu uh (w.uses u dl)).aH (u':={ v with partner:=u.name }) (by simp only[aH];rw[H4 UE];exact hv) (Fj (r:=r) (w.en v hmv)) (w.uses v hmv)
  split at ha
  .repeat' split at ha
   all_goals first|(cases ha;done)|skip
   cases ha;exact w.aH hu uh (w.uses u dl)
  split at ha
  .split at ha
   .cases ha
   split at ha
   .cases ha
   rename_i v hv;split at ha
   .cases ha
   cases ha;refine w.aH hu ?_ (w.uses u dl);unfold gD rI at *
   cases hq:iC r u.product with
   |none=>rw[hq]at hv;simp at hv
   |some p=>
    rw[hq]at hv uh;simp only[Option.map_some,H2.injEq,H3]at hv uh ⊢;subst hv;unfold BD at uh ⊢;split at uh
    .have bg:=(En.1 (Ik uh).symm).1;rw[if_pos (by omega),Ha (by omega)];rfl
    .simp at uh
  split at ha
  .split at ha
   .cases ha
   cases ha;exact w.aH hu uh (w.uses u dl)
  .split at ha
   .cases ha
   cases ha;exact w.aH hu uh (w.uses u dl)
end Go.W
namespace Go.W
def cA:List (Str×Nat×Nat):=[(nG,2,2),(oe,1,1),(nH,2,2),(lO,2,3),(rG,1,1),(pV,2,1),(nI,2,2),(pW,2,2),(rH,1,1),(og,2,1),(pi,1,1),(tm,1,1),(lP,1,1),(yK,1,1),(oh,0,0)]
def ye (k:Str):Option (Nat×Nat):=(cA.find? fun x=>decide (x.1=k)).map (·.2)
def rM (c:UInt8):Bool:=(decide (65<=c.toNat)&&decide (c.toNat<=90))||(decide (97<=c.toNat)&&decide (c.toNat<=122))
def zF (c:UInt8):Bool:=(decide (48<=c.toNat)&&decide (c.toNat<=57))||decide (c.toNat=95)
def cj (s:Str):Bool:=match s with
 | []=>false|c::t=>rM c&&t.all (fun c=>rM c||zF c)&&decide (s.length<=24)
def qz (e:cf):Int:=
 if e.number<1\/1000<e.number then 3 else match ye e.kind with
 |none=>13
 |some f=>if e.names.length≠f.1\/e.values.length≠f.2 then 2 else if !(e.names.all cj)then 8 else if !(e.values.all fun n=>decide (0<=n)&&decide (n<=999999999))then 3 else if e.text≠[]then 1 else 0
abbrev yj:=List cf×List yc
def mE:yc:=⟨0,[],[],[]⟩
def now (h:yj):yc:=h.2.getLast?.getD mE
def accept (wrap:Int->Int)(h:yj)(k:Int)(e:cf):Except Int yj:=
 if e.number≠k then .error 11 else
 if e.kind=oh then(match h.1.getLast? with
  |none=>.error 12
  |some c=>if c.kind=lP then .error 19 else .ok (h.1.dropLast,h.2.dropLast))
 else match after wrap (now h) e with
  | .error x=>.error x| .ok r=>.ok (h.1++[e],h.2++[r])
def ya (wrap:Int->Int):Nat->yj->List cf->Except (Int×Int) yj
 |_,h,[]=>.ok h
 |i,h,e::l=>if qz e≠0 then .error ((i:Int)+1,qz e)else match accept wrap h ((i:Int)+1) e with
  | .error x=>.error ((i:Int)+1,x)| .ok h'=>ya wrap (i+1) h' l
def run (wrap:Int->Int)(l:List cf):Except (Int×Int) yj:=if 1000<l.length then .error (0,5)else ya wrap 0 ([],[mE]) l
theorem Qe (wrap:Int->Int):∀(l m:List cf) (i:Nat) (h:yj),ya wrap i h (l++m)=match ya wrap i h l with
  | .error x=>.error x| .ok h'=>ya wrap (i+l.length) h' m
 | [],m,i,h=>by simp[ya]
 |e::l,m,i,h=>by
  simp only[List.cons_append,ya];split
  .rfl
  cases accept wrap h ((i:Int)+1) e with
  |error x=>rfl|ok h'=>simp only[];rw[Qe wrap l m (i+1) h',Ib,show i+1+l.length=i+(l.length+1) by omega]
structure iD (wrap:Int->Int)(h:yj):Prop where
 len:h.2.length=h.1.length+1
 first:h.2[0]?=H2 mE
 next:∀j e r,h.1[j]?=H2 e->h.2[j]?=H2 r->∃r',h.2[j+1]?=H2 r'/\after wrap r e=.ok r'
 kinds:∀e∈h.1,qz e=0/\e.kind≠oh
theorem iD.empty {wrap:Int->Int}:iD wrap ([],[mE]):=⟨rfl,rfl,fun j e r h=>by simp at h,by simp⟩
theorem iD.now {wrap:Int->Int}{h:yj}(k:iD wrap h):h.2[h.1.length]?=H2 (Go.W.now h):=by
 unfold Go.W.now;have hl:=k.len;rw[List.getLast?_eq_getElem?,hl]
 have:h.1.length<h.2.length:=by omega
 simp[Ha this]
theorem iD.accept {wrap:Int->Int}{h h':yj}{k:Int}{e:cf}(o:iD wrap h)(hc:qz e=0)(ha:accept wrap h k e=.ok h'):iD wrap h':=by
 unfold Go.W.accept at ha;split at ha
 .cases ha
 split at ha
 .split at ha
  .cases ha
  .rename_i c hc;split at ha
   .cases ha
   cases ha
   have iw:0<h.1.length:=by
    cases hh:h.1 with
    |nil=>rw[hh]at hc;simp at hc|cons _ _=>simp
   have hl:=o.len;refine⟨by simp only[Ij];omega,?_,?_,?_⟩
   .rw[If,if_pos (by omega)];exact o.first
   .intro j e' r Y I;simp only[If]at Y I ⊢;split at Y
    .rename_i hj;rw[if_pos (by omega)]at I;rw[if_pos (by omega)];exact o.next j e' r Y I
    .cases Y
   .intro e' he;exact o.kinds e' (List.mem_of_mem_take (by rwa [List.dropLast_eq_take]at he))
 .rename_i hnu;split at ha
  .cases ha
  .rename_i r Q;cases ha;have hl:=o.len;refine⟨by simp only[H9,Ib,List.length_nil];omega,?_,?_,?_⟩
   .rw[E6 (by omega)];exact o.first
   .intro j e' q Y I;by_cases hj:j<h.1.length
    .rw[E6 hj]at Y;rw[E6 (by omega)]at I;obtain⟨r',k1,k2⟩:=o.next j e' q Y I;exact⟨r',by rw[E6 (by have:=(En.1 k1).1;omega)];exact k1,k2⟩
    .have hj':j=h.1.length:=by have:=(En.1 Y).1;simp at this;omega
     subst hj';rw[Ia (Nat.le_refl _)]at Y;simp at Y;subst Y;rw[E6 (by omega),o.now]at I;cases I;exact⟨r,by rw[Ia (by omega)];simp[hl],Q⟩
   .intro e' he;rcases Hc.1 he with he|he
    .exact o.kinds e' he
    .simp at he;subst he;exact⟨hc,hnu⟩
theorem iD.wf {wrap:Int->Int}{h:yj}(o:iD wrap h):∀(j:Nat) (r:yc),h.2[j]?=H2 r->WF r
 |0,r,Q=>by rw[o.first]at Q;cases Q;exact WF.empty 0
 |j+1,r,Q=>by
  have bg:=(En.1 Q).1;have hl:=o.len
  have Y:j<h.1.length:=by omega
  obtain⟨r',k1,k2⟩:=o.next j _ _ (Ha Y) (Ha (by omega:j<h.2.length));rw[k1]at Q;cases Q;exact jlh (iD.wf o j _ (Ha (by omega))) k2
theorem iD.tC {wrap:Int->Int}{h:yj}(o:iD wrap h):WF (Go.W.now h):=o.wf _ _ o.now
end Go.W
namespace Go.W
theorem Wg {e:cf}(h:qz e=0):e.names.all (fun s=>!s.isEmpty)=true/\∃f,ye e.kind=H2 f/\e.names.length=f.1/\e.values.length=f.2:=by
 unfold qz at h;split at h
 .cases h
 split at h
 .cases h
 rename_i f hf;split at h
 .cases h
 rename_i hl;split at h
 .cases h
 rename_i hn;refine⟨?_,f,hf,by by_cases hh:e.names.length=f.1<;>simp_all,by by_cases hh:e.values.length=f.2<;>simp_all⟩
 have hn:e.names.all cj=true:=by simpa using hn
 rw[List.all_eq_true]at hn ⊢;intro s G;have:=hn s G
 cases s with
 |nil=>simp[cj]at this|cons c t=>rfl
end Go.W
namespace Go.W
def vC (u:lj)(s:Str):Bool:=u.uses.any fun x=>decide (x.k=s)
end Go.W
namespace Go.W
theorem q9d {wrap:Int->Int}{l:List cf}{h:yj}{e:cf}(Q:run wrap l=.ok h)(hn:l.length<1000):run wrap (l++[e])=if qz e≠0 then .error ((l.length:Int)+1,qz e)else match accept wrap h ((l.length:Int)+1) e with
  | .error x=>.error ((l.length:Int)+1,x)
  | .ok h'=>.ok h':=by
 unfold run at Q ⊢;rw[if_neg (by omega)]at Q;rw[if_neg (by rw[H9,Ig];omega),Qe,Q];simp only[Nat.zero_add,ya]<;>rfl
end Go.W
namespace Go.W
theorem qrv {wrap:Int->Int}:∀ {l:List cf} {i:Nat} {h h':yj},h.1.length<=i->ya wrap i h l=.ok h'->h'.1.length<=i+l.length
 | [],i,h,h',hi,Q=>by simp only[ya]at Q;cases Q;simpa using hi
 |e::l,i,h,h',hi,Q=>by
  simp only[ya]at Q;split at Q
  .cases Q
  split at Q
  .cases Q
  .rename_i Y ha
   have hl:Y.1.length<=i+1:=by
    unfold accept at ha;split at ha
    .cases ha
    split at ha
    .split at ha
     .cases ha
     .split at ha
      .cases ha
      cases ha;show h.1.dropLast.length<=_;rw[Ij];omega
    .split at ha
     .cases ha
     .cases ha;show(h.1++[e]).length<=_;rw[H9,Ig];omega
   have:=qrv hl Q;rw[Ib];omega
theorem jjp {wrap:Int->Int}{l:List cf}{h:yj}(Q:run wrap l=.ok h):h.1.length<=l.length:=by
 unfold run at Q;split at Q
 .cases Q
 .have:=qrv (Nat.le_refl 0) Q;omega
end Go.W
end
