/- What a register's lots and units add up to, and what never shrinks. -/
import Derived.Test.YtimdocpnkimlfaaGreatDoorWS
set_option linter.unusedVariables false
set_option linter.unusedSimpArgs false
open List renaming getElem?_eq_some_iff→I,mem_cons_of_mem→Ea,mem_of_getElem?→Eb,mem_or_eq_of_mem_set→Ec,mem_cons_self→Ek,getElem?_eq_getElem→En,getElem?_cons_zero→E3,getElem?_cons_succ→Ga,getElem?_set_ne→Hb,mem_singleton→Hy,getElem?_set_self→Hz,mem_append→H2,set_cons_zero→Ib,set_cons_succ→If,getElem?_map→Jn,cons_append→Jp
open Option renaming some→Ha
open Int renaming le_refl→Hu,le_trans→Jg
namespace Go.W
def gb (n:Str):List fV→Int
 | []=>0
 |x::l=>(if x.k=n then x.n else 0)+gb n l
def kq (n:Str):List j8→Int
 | []=>0
 |u::l=>gb n u.uses+kq n l
theorem qq2 (n:Str):∀l m:List fV,gb n (l++m)=gb n l+gb n m
 | [],m=>by simp[gb]
 |x::l,m=>by simp only[Jp,gb,qq2 n l m];omega
theorem q1m (n:Str):∀ {l:List fV} {i:Nat} {x y:fV},l[i]?=Ha x→gb n (l.set i y)=gb n l-(if x.k=n then x.n else 0)+(if y.k=n then y.n else 0)
 | [],i,x,y,h=>by simp at h
 |z::l,0,x,y,h=>by
  simp only[E3,Ha.injEq]at h
  subst h
  simp only[Ib,gb];omega
 |z::l,i+1,x,y,h=>by
  simp only[Ga]at h
  simp only[If,gb,q1m n h];omega
theorem J7 (n:Str):∀ {l:List fV},(∀x∈l,1≤x.n)→0≤gb n l
 | [],_=>Hu _
 |x::l,h=>by
  have h1:=h x (Ek ..)
  have h2:=J7 n (fun y hy=>h y (Ea _ hy))
  simp only[gb];split<;>omega
theorem q1g (n:Str):∀ {l:List fV} {i:Nat} {x:fV},(∀x∈l,1≤x.n)→l[i]?=Ha x→x.k=n→x.n≤gb n l
 | [],i,x,_,h,_=>by simp at h
 |z::l,0,x,hp,h,hk=>by
  simp only[E3,Ha.injEq]at h
  subst h
  have:=J7 n (fun y hy=>hp y (Ea _ hy))
  simp only[gb,if_pos hk];omega
 |z::l,i+1,x,hp,h,hk=>by
  simp only[Ga]at h
  have h1:=q1g n (fun y hy=>hp y (Ea _ hy)) h hk
  have h2:=hp z (Ek ..)
  simp only[gb];split<;>omega
theorem qyg (n:Str):∀ {l:List fV},(∀x∈l,x.k≠n)→gb n l=0
 | [],_=>rfl
 |x::l,h=>by
  simp only[gb,if_neg (h x (Ek ..)),qyg n (fun y hy=>h y (Ea _ hy))];rfl
theorem qoj (n:Str):∀l m:List j8,kq n (l++m)=kq n l+kq n m
 | [],m=>by simp[kq]
 |x::l,m=>by simp only[Jp,kq,qoj n l m];omega
theorem RI (n:Str):∀ {l:List j8} {i:Nat} {u v:j8},l[i]?=Ha u→kq n (l.set i v)=kq n l-gb n u.uses+gb n v.uses
 | [],i,u,v,h=>by simp at h
 |z::l,0,u,v,h=>by
  simp only[E3,Ha.injEq]at h
  subst h
  simp only[Ib,kq];omega
 |z::l,i+1,u,v,h=>by
  simp only[Ga]at h
  simp only[If,kq,RI n h];omega
theorem q6y (n:Str){l:List j8}{i:Nat}{u v:j8}(h:l[i]?=Ha u)(hv:v.uses=u.uses):kq n (l.set i v)=kq n l:=by
 rw[RI n h,hv];omega
theorem quc (n:Str):∀ {l:List j8},(∀u∈l,∀x∈u.uses,x.k≠n)→kq n l=0
 | [],_=>rfl
 |u::l,h=>by
  simp only[kq,qyg n (h u (Ek ..)),quc n (fun y hy=>h y (Ea _ hy))];rfl
theorem RJ (n:Str):∀ {l:List j8},(∀u∈l,∀x∈u.uses,1≤x.n)→0≤kq n l
 | [],_=>Hu _
 |u::l,h=>by
  have h1:=J7 n (h u (Ek ..))
  have h2:=RJ n (fun y hy=>h y (Ea _ hy))
  simp only[kq];omega
theorem qv8 (n:Str):∀ {l:List j8} {i:Nat} {u:j8},(∀u∈l,∀x∈u.uses,1≤x.n)→l[i]?=Ha u→gb n u.uses≤kq n l
 | [],i,u,_,h=>by simp at h
 |z::l,0,u,hp,h=>by
  simp only[E3,Ha.injEq]at h
  subst h
  have:=RJ n (fun y hy=>hp y (Ea _ hy))
  simp only[kq];omega
 |z::l,i+1,u,hp,h=>by
  simp only[Ga]at h
  have h1:=qv8 n (fun y hy=>hp y (Ea _ hy)) h
  have h2:=J7 n (hp z (Ek ..))
  simp only[kq];omega
theorem jb4 {α β:Type}{key:α→β}{l:List α}(h:zo key l){i j:Nat}{a b:α}(ha:l[i]?=Ha a)(hb:l[j]?=Ha b)(ox:i≠j):key a≠key b:=by
 intro e
 have hn:(l.map key).Nodup:=h
 have h1:(l.map key)[i]?=Ha (key a):=by rw[Jn,ha];rfl
 have h2:(l.map key)[j]?=Ha (key b):=by rw[Jn,hb];rfl
 obtain⟨i1,e1⟩:=I.1 h1
 obtain⟨j1,e2⟩:=I.1 h2
 have hp:=List.pairwise_iff_getElem.1 hn
 rcases Nat.lt_or_gt_of_ne ox with hl|hl
 ·exact hp i j i1 j1 hl (e1.trans (e.trans e2.symm))
 ·exact hp j i j1 i1 hl (e2.trans (e.symm.trans e1.symm))
structure fI (j:Nat)(r:jo):Prop where
 lots:∀(k:Nat) (x:iO),r.lots[k]?=Ha x→0≤x.left∧x.count≤10000∧x.left+kq x.name r.units=x.count
 uses:∀u∈r.units,∀x∈u.uses,1≤x.n
 told:∀u∈r.units,0≤u.aQ∧u.aQ≤j
theorem fI.empty (d:Int):fI 0 ⟨d,[],[],[]⟩:=⟨by simp,by simp,by simp⟩
theorem fI.mono {i j:Nat}{r:jo}(w:fI i r)(h:i≤j):fI j r:=⟨w.lots,w.uses,fun u hu=>⟨(w.told u hu).1,by have:=(w.told u hu).2;omega⟩⟩
theorem fI.same {j:Nat}{r:jo}(w:fI j r){ps:List lN}{d:Int}:fI j ⟨d,r.lots,ps,r.units⟩:=⟨w.lots,w.uses,w.told⟩
theorem fI.aw {j:Nat}{r:jo}(w:fI j r){i:Nat}{u v:j8}(hu:r.units[i]?=Ha u)(h1:v.uses=u.uses)(h2:0≤v.aQ∧v.aQ≤j):fI j (Go.W.aw r i v):=by
 refine⟨fun k x hx=>?_,fun y hy=>?_,fun y hy=>?_⟩
 ·have:=w.lots k x hx
  show _∧_∧x.left+kq x.name (r.units.set i v)=_
  rw[q6y _ hu h1];exact this
 ·rcases Ec hy with h|h
  ·exact w.uses y h
  ·rw[h,h1];exact w.uses u (Eb hu)
 ·rcases Ec hy with h|h
  ·exact w.told y h
  ·rw[h];exact h2
theorem fI.bW {j:Nat}{r:jo}(w:fI j r){i:Nat}{x y:iO}(hx:r.lots[i]?=Ha x)(h:y.name=x.name∧y.left=x.left∧y.count=x.count):fI j (Go.W.bW r i y):=by
 refine⟨fun k z hz=>?_,w.uses,w.told⟩
 have hz:(r.lots.set i y)[k]?=Ha z:=hz
 by_cases hk:i=k
 ·subst hk
  rw[Hz (I.1 hx).1]at hz
  cases hz
  have:=w.lots i x hx
  rw[h.1,h.2.1,h.2.2]
  exact this
 ·rw[Hb hk]at hz
  exact w.lots k z hz
def Gb (wrap:Int→Int):Prop:=∀n:Int,0≤n→n≤1000000→wrap n=n
theorem q23 {wrap:Int→Int}(hw:Gb wrap){l:List fV}{k:Str}{n:Int}(h1:1≤n)(hp:∀x∈l,1≤x.n)(hb:n+gb k l≤1000000)(m:Str):gb m (mL wrap l k n)=gb m l+(if k=m then n else 0)∧∀x∈mL wrap l k n,1≤x.n:=by
 unfold mL
 cases hi:l.findIdx? (sV k)with
 |none=>
  refine⟨by rw[qq2];simp[gb],fun x hx=>?_⟩
  rcases H2.1 hx with h|h
  ·exact hp x h
  ·rw[Hy.1 h];exact h1
 |some i=>
  obtain⟨x,hx,hk,_⟩:=c7 hi
  have hk:x.k=k:=by simpa[sV]using hk
  have hle:=q1g k hp hx hk
  have uY:=hp x (Eb hx)
  have Gc:wrap (n+x.n)=n+x.n:=hw _ (by omega) (by omega)
  simp only[hx,Gc]
  refine⟨?_,fun y hy=>?_⟩
  ·rw[q1m m hx,hk]
   by_cases e:k=m
   ·simp only[if_pos e];omega
   ·simp only[if_neg e];omega
  ·rcases Ec hy with h|h
   ·exact hp y h
   ·rw[h];show 1≤n+x.n;omega
theorem fI.use {wrap:Int→Int}(hw:Gb wrap){j:Nat}{r:jo}(w:fI j r)(w2:gD r){i k:Nat}{u:j8}{x:iO}{n:Int}(hu:r.units[i]?=Ha u)(hx:r.lots[k]?=Ha x)(h1:1≤n)(h2:n≤x.left):fI j (Go.W.aw (Go.W.bW r k { x with left:=wrap (x.left-n) }) i { u with uses:=mL wrap u.uses x.name n }):=by
 obtain⟨l0,l1,l2⟩:=w.lots k x hx
 have hum:=Eb hu
 have hg:=qv8 x.name w.uses hu
 have hb:n+gb x.name u.uses≤1000000:=by omega
 have Gc:wrap (x.left-n)=x.left-n:=hw _ (by omega) (by have:=RJ x.name w.uses;omega)
 have ht:=fun m=>q23 hw (k:=x.name) h1 (w.uses u hum) hb m
 refine⟨fun q z hz=>?_,fun y hy=>?_,fun y hy=>?_⟩
 ·have hz:(r.lots.set k { x with left:=wrap (x.left-n) })[q]?=Ha z:=hz
  show 0≤z.left∧z.count≤10000∧z.left+kq z.name (r.units.set i { u with uses:=mL wrap u.uses x.name n })=z.count
  rw[RI _ hu,(ht z.name).1]
  by_cases hk:k=q
  ·subst hk
   rw[Hz (I.1 hx).1]at hz
   cases hz
   simp only[Gc,if_true]
   omega
  ·rw[Hb hk]at hz
   have aS:x.name≠z.name:=jb4 (key:=fun x:iO=>x.name) w2.lots hx hz hk
   rw[if_neg aS]
   have:=w.lots q z hz
   omega
 ·rcases Ec hy with h|h
  ·exact w.uses y h
  ·rw[h];exact(ht x.name).2
 ·rcases Ec hy with h|h
  ·exact w.told y h
  ·rw[h];exact w.told u hum
theorem fI.pW {j:Nat}{r:jo}(w:fI j r){u:j8}(h1:u.uses=[])(h2:0≤u.aQ∧u.aQ≤j):fI j { r with units:=r.units++[u] }:=by
 refine⟨fun k x hx=>?_,fun y hy=>?_,fun y hy=>?_⟩
 ·have:=w.lots k x hx
  show 0≤x.left∧x.count≤10000∧x.left+kq x.name (r.units++[u])=x.count
  rw[qoj]
  simp only[kq,h1,gb]
  omega
 ·rcases H2.1 hy with h|h
  ·exact w.uses y h
  ·rw[Hy.1 h,h1];simp
 ·rcases H2.1 hy with h|h
  ·exact w.told y h
  ·rw[Hy.1 h];exact h2
theorem fI.sW {j:Nat}{r:jo}(w:fI j r)(w1:WF r){x:iO}(hn:(oe r x.name).isSome=false)(h1:x.left=x.count)(h2:0≤x.count∧x.count≤10000):fI j { r with lots:=r.lots++[x] }:=by
 refine⟨fun k y hy=>?_,w.uses,w.told⟩
 have hy:(r.lots++[x])[k]?=Ha y:=hy
 rw[List.getElem?_append]at hy
 split at hy
 ·exact w.lots k y hy
 ·have hz:kq x.name r.units=0:=quc _ fun u hu z hz e=>by
   have:=(w1.uses u hu).2 z hz
   rw[e,hn]at this;cases this
  have hm:y∈[x]:=Eb hy
  rw[Hy.1 hm]
  show 0≤x.left∧x.count≤10000∧x.left+kq x.name r.units=x.count
  rw[hz];omega
theorem q7g {wrap:Int→Int}(hw:Gb wrap){j:Nat}(hj:j≤1000){r r':jo}{e:cB}(w1:WF r)(w2:gD r)(w:fI j r)(hv:∀i,0≤vl e i)(ha:apply wrap r e=.ok r'):fI (j+1) r':=by
 have kX:∀ {i:Nat} {u:j8},r.units[i]?=Ha u→0≤u.aQ∧u.aQ≤((j+1:Nat):Int):=fun h=>by
  have:=w.told _ (Eb h);omega
 have wj:=w.mono (Nat.le_succ j)
 unfold apply at ha
 split at ha
 ·unfold EV at ha
  split at ha
  ·split at ha
   ·cases ha
   rename_i hn
   split at ha
   ·cases ha
   rename_i hb
   split at ha
   ·cases ha
   cases ha
   exact wj.sW w1 (by simpa using hn) rfl ⟨hv 1,by show vl e 1≤10000;omega⟩
  split at ha
  ·repeat' split at ha
   all_goals first|(cases ha;done)|skip
   cases ha
   exact wj.same
  ·repeat' split at ha
   all_goals first|(cases ha;done)|skip
   cases ha
   exact wj.pW rfl ⟨Hu _,by show(0:Int)≤_;omega⟩
 split at ha
 ·unfold EW at ha
  repeat' split at ha
  all_goals first|(cases ha;done)|(cases ha;exact wj.same)
 split at ha
 ·unfold EX at ha
  split at ha
  ·cases ha
  split at ha
  ·cases ha
  rename_i hx
  repeat' split at ha
  all_goals first|(cases ha;done)|(cases ha;exact wj.bW hx ⟨rfl,rfl,rfl⟩)
 unfold EY at ha
 split at ha
 ·cases ha
 split at ha
 ·cases ha
 rename_i _ i hi _ u hu
 split at ha
 ·unfold EZ at ha
  split at ha
  ·cases ha
  split at ha
  ·cases ha
  rename_i _ k hk _ x hx
  split at ha
  ·cases ha
  split at ha
  ·cases ha
  rename_i h0
  split at ha
  ·cases ha
  split at ha
  ·cases ha
  split at ha
  ·cases ha
  rename_i hle
  cases ha
  exact wj.use hw w2 hu hx (by have:=hv 1;omega) (by omega)
 split at ha
 ·unfold E0 at ha
  split at ha
  ·cases ha
  split at ha
  ·cases ha
  rename_i _ k hk _ v qS
  split at ha
  ·cases ha
  rename_i rZ
  repeat' split at ha
  all_goals first|(cases ha;done)|skip
  cases ha
  refine(wj.aw hu (v:={ u with partner:=v.name }) rfl (kX (u:=u) hu)).aw (u:=v) ?_ rfl (kX (u:=v) qS)
  show(r.units.set i _)[k]?=_
  rw[Hb rZ];exact qS
 repeat' split at ha
 all_goals first|(cases ha;done)|skip
 ·cases ha;exact wj.aw hu rfl (kX (u:=u) hu)
 ·cases ha;exact wj.aw hu rfl (kX (u:=u) hu)
 ·cases ha;exact wj.aw hu rfl (kX (u:=u) hu)
 ·cases ha
  have:=w.told _ (Eb hu)
  have Gc:wrap (u.aQ+1)=u.aQ+1:=hw _ (by omega) (by omega)
  exact wj.aw hu rfl (by show 0≤wrap _∧wrap _≤_;rw[Gc];omega)
theorem q5n {wrap:Int→Int}(hw:Gb wrap){j:Nat}(hj:j≤1000){r r':jo}{e:cB}(w1:WF r)(w2:gD r)(w:fI j r)(hv:∀i,0≤vl e i)(h:after wrap r e=.ok r'):fI (j+1) r':=by
 unfold after at h
 split at h
 ·cases h
 split at h
 ·cases h
 rename_i r1 ha
 cases h
 have:=q7g hw hj w1 w2 w hv ha
 exact⟨this.lots,this.uses,this.told⟩
theorem q5l {e:cB}(h:zu e=0)(i:Nat):0≤vl e i∧vl e i≤999999999:=by
 have hall:e.values.all (fun n=>decide (0≤n)&&decide (n≤999999999))=true:=by
  unfold zu at h
  split at h
  ·cases h
  split at h
  ·cases h
  split at h
  ·cases h
  split at h
  ·cases h
  split at h
  ·cases h
  rename_i hh
  simpa using hh
 unfold vl
 cases hi:e.values[i]? with
 |none=>exact⟨Hu _,by decide⟩
 |some v=>
  have:=List.all_eq_true.1 hall v (Eb hi)
  simpa using this
theorem gm.wf3 {wrap:Int→Int}(hw:Gb wrap){h:iw}(o:gm wrap h)(hl:h.1.length≤1000):∀(j:Nat) (r:jo),h.2[j]?=Ha r→fI j r
 |0,r,hr=>by rw[o.first]at hr;cases hr;exact fI.empty 0
 |j+1,r,hr=>by
  have aC:=(I.1 hr).1
  have hll:=o.len
  have h1:j<h.1.length:=by omega
  have h2:j<h.2.length:=by omega
  obtain⟨r',k1,k2⟩:=o.next j _ _ (En h1) (En h2)
  rw[k1]at hr;cases hr
  have hj:=En h2
  exact q5n hw (by omega) (o.wf j _ hj) (o.IL j _ hj) (gm.wf3 hw o hl j _ hj) (fun i=>(q5l (o.kinds _ (List.getElem_mem h1)).1 i).1) k2
end Go.W
namespace Go.W
structure et (x y:iO):Prop where
 name:y.name=x.name
 kind:y.kind=x.kind
 count:y.count=x.count
 left:y.left≤x.left
structure df (x y:j8):Prop where
 name:y.name=x.name
 version:x.version≤y.version
 results:x.results.length≤y.results.length
 told:x.aQ≤y.aQ
structure dh (x y:lN):Prop where
 name:y.name=x.name
 cq:x.cq.length≤y.cq.length
def cQ {α:Type}(R:α→α→Prop)(l m:List α):Prop:=∀(i:Nat) (x:α),l[i]?=Ha x→∃y,m[i]?=Ha y∧R x y
theorem cQ.refl {α:Type}{R:α→α→Prop}(hR:∀x,R x x)(l:List α):cQ R l l:=fun i x h=>⟨x,h,hR x⟩
theorem cQ.trans {α:Type}{R:α→α→Prop}(hR:∀x y z,R x y→R y z→R x z){l m k:List α}(h1:cQ R l m)(h2:cQ R m k):cQ R l k:=fun i x h=>by
 obtain⟨y,a1,a2⟩:=h1 i x h
 obtain⟨z,b1,b2⟩:=h2 i y a1
 exact⟨z,b1,hR _ _ _ a2 b2⟩
theorem cQ.add {α:Type}{R:α→α→Prop}(hR:∀x,R x x)(l m:List α):cQ R l (l++m):=fun i x h=>⟨x,by rw[List.getElem?_append_left (I.1 h).1];exact h,hR x⟩
theorem cQ.set {α:Type}{R:α→α→Prop}(hR:∀x,R x x){l:List α}{i:Nat}{x y:α}(hx:l[i]?=Ha x)(F9:R x y):cQ R l (l.set i y):=fun k z hz=>by
 by_cases hk:i=k
 ·subst hk
  rw[hx]at hz;cases hz
  exact⟨y,Hz (I.1 hx).1,F9⟩
 ·exact⟨z,by rw[Hb hk];exact hz,hR z⟩
theorem cQ.len {α:Type}{R:α→α→Prop}{l m:List α}(h:cQ R l m):l.length≤m.length:=by
 rcases Nat.lt_or_ge m.length l.length with hl|hl
 ·obtain⟨y,a1,_⟩:=h m.length _ (En hl)
  have:=(I.1 a1).1
  omega
 ·exact hl
theorem et.refl (x:iO):et x x:=⟨rfl,rfl,rfl,Hu _⟩
theorem df.refl (x:j8):df x x:=⟨rfl,Hu _,Nat.le_refl _,Hu _⟩
theorem dh.refl (x:lN):dh x x:=⟨rfl,Nat.le_refl _⟩
theorem et.trans (x y z:iO)(h:et x y)(g:et y z):et x z:=⟨g.name.trans h.name,g.kind.trans h.kind,g.count.trans h.count,Jg g.left h.left⟩
theorem df.trans (x y z:j8)(h:df x y)(g:df y z):df x z:=⟨g.name.trans h.name,Jg h.version g.version,Nat.le_trans h.results g.results,Jg h.told g.told⟩
theorem dh.trans (x y z:lN)(h:dh x y)(g:dh y z):dh x z:=⟨g.name.trans h.name,Nat.le_trans h.cq g.cq⟩
structure eU (r s:jo):Prop where
 lots:cQ et r.lots s.lots
 units:cQ df r.units s.units
 eT:cQ dh r.aI s.aI
theorem eU.refl (r:jo):eU r r:=⟨.refl et.refl _,.refl df.refl _,.refl dh.refl _⟩
theorem eU.trans {r s t:jo}(h:eU r s)(g:eU s t):eU r t:=⟨h.lots.trans et.trans g.lots,h.units.trans df.trans g.units,h.eT.trans dh.trans g.eT⟩
theorem eU.fH {r:jo}{l:List iO}(h:cQ et r.lots l):eU r { r with lots:=l }:=⟨h,.refl df.refl _,.refl dh.refl _⟩
theorem eU.ga {r:jo}{l:List lN}(h:cQ dh r.aI l):eU r { r with aI:=l }:=⟨.refl et.refl _,.refl df.refl _,h⟩
end Go.W
