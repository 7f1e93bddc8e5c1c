/- What a register's lots and units add up to, and what never shrinks. -/
import Derived.Test.YtimdocpnkimlfaaGreatDoorWS
set_option linter.unusedVariables false
set_option linter.unusedSimpArgs false
open List renaming getElem?_eq_some_iff→I,mem_cons_of_mem→En,mem_of_getElem?→Ey,mem_or_eq_of_mem_set→Gn,mem_cons_self→Gp,getElem?_eq_getElem→Gq,getElem?_cons_zero→Gs,getElem?_cons_succ→Gt,getElem?_set_ne→Gw,mem_singleton→Gz,getElem?_set_self→G0,mem_append→G1,set_cons_zero→G2,set_cons_succ→G5,getElem?_map→G7,cons_append→G9
open Option renaming some→Gv
open Int renaming le_refl→Gy,le_trans→G6
namespace Go.W
def fD (n:Str):List bq→Int
 | []=>0
 |x::l=>(if x.k=n then x.n else 0)+fD n l
def eT (n:Str):List aW→Int
 | []=>0
 |u::l=>fD n u.uses+eT n l
theorem qw0 (n:Str):∀l m:List bq,fD n (l++m)=fD n l+fD n m
 | [],m=>by simp[fD]
 |x::l,m=>by simp only[G9,fD,qw0 n l m];omega
theorem q8t (n:Str):∀ {l:List bq} {i:Nat} {x y:bq},l[i]?=Gv x→fD n (l.set i y)=fD n l-(if x.k=n then x.n else 0)+(if y.k=n then y.n else 0)
 | [],i,x,y,h=>by simp at h
 |z::l,0,x,y,h=>by
  simp only[Gs,Gv.injEq]at h
  subst h
  simp only[G2,fD];omega
 |z::l,i+1,x,y,h=>by
  simp only[Gt]at h
  simp only[G5,fD,q8t n h];omega
theorem FH (n:Str):∀ {l:List bq},(∀x∈l,1≤x.n)→0≤fD n l
 | [],_=>Gy _
 |x::l,h=>by
  have h1:=h x (Gp ..)
  have h2:=FH n (fun y hy=>h y (En _ hy))
  simp only[fD];split<;>omega
theorem q83 (n:Str):∀ {l:List bq} {i:Nat} {x:bq},(∀x∈l,1≤x.n)→l[i]?=Gv x→x.k=n→x.n≤fD n l
 | [],i,x,_,h,_=>by simp at h
 |z::l,0,x,hp,h,hk=>by
  simp only[Gs,Gv.injEq]at h
  subst h
  have:=FH n (fun y hy=>hp y (En _ hy))
  simp only[fD,if_pos hk];omega
 |z::l,i+1,x,hp,h,hk=>by
  simp only[Gt]at h
  have h1:=q83 n (fun y hy=>hp y (En _ hy)) h hk
  have h2:=hp z (Gp ..)
  simp only[fD];split<;>omega
theorem q3j (n:Str):∀ {l:List bq},(∀x∈l,x.k≠n)→fD n l=0
 | [],_=>rfl
 |x::l,h=>by
  simp only[fD,if_neg (h x (Gp ..)),q3j n (fun y hy=>h y (En _ hy))];rfl
theorem qs9 (n:Str):∀l m:List aW,eT n (l++m)=eT n l+eT n m
 | [],m=>by simp[eT]
 |x::l,m=>by simp only[G9,eT,qs9 n l m];omega
theorem ZJ (n:Str):∀ {l:List aW} {i:Nat} {u v:aW},l[i]?=Gv u→eT n (l.set i v)=eT n l-fD n u.uses+fD n v.uses
 | [],i,u,v,h=>by simp at h
 |z::l,0,u,v,h=>by
  simp only[Gs,Gv.injEq]at h
  subst h
  simp only[G2,eT];omega
 |z::l,i+1,u,v,h=>by
  simp only[Gt]at h
  simp only[G5,eT,ZJ n h];omega
theorem jge (n:Str){l:List aW}{i:Nat}{u v:aW}(h:l[i]?=Gv u)(hv:v.uses=u.uses):eT n (l.set i v)=eT n l:=by
 rw[ZJ n h,hv];omega
theorem Yp (n:Str):∀ {l:List aW},(∀u∈l,∀x∈u.uses,x.k≠n)→eT n l=0
 | [],_=>rfl
 |u::l,h=>by
  simp only[eT,q3j n (h u (Gp ..)),Yp n (fun y hy=>h y (En _ hy))];rfl
theorem JJ (n:Str):∀ {l:List aW},(∀u∈l,∀x∈u.uses,1≤x.n)→0≤eT n l
 | [],_=>Gy _
 |u::l,h=>by
  have h1:=FH n (h u (Gp ..))
  have h2:=JJ n (fun y hy=>h y (En _ hy))
  simp only[eT];omega
theorem q34 (n:Str):∀ {l:List aW} {i:Nat} {u:aW},(∀u∈l,∀x∈u.uses,1≤x.n)→l[i]?=Gv u→fD n u.uses≤eT n l
 | [],i,u,_,h=>by simp at h
 |z::l,0,u,hp,h=>by
  simp only[Gs,Gv.injEq]at h
  subst h
  have:=JJ n (fun y hy=>hp y (En _ hy))
  simp only[eT];omega
 |z::l,i+1,u,hp,h=>by
  simp only[Gt]at h
  have h1:=q34 n (fun y hy=>hp y (En _ hy)) h
  have h2:=FH n (hp z (Gp ..))
  simp only[eT];omega
theorem NP {α β:Type}{key:α→β}{l:List α}(h:zz key l){i j:Nat}{a b:α}(ha:l[i]?=Gv a)(hb:l[j]?=Gv b)(lL:i≠j):key a≠key b:=by
 intro e
 have hn:(l.map key).Nodup:=h
 have h1:(l.map key)[i]?=Gv (key a):=by rw[G7,ha];rfl
 have h2:(l.map key)[j]?=Gv (key b):=by rw[G7,hb];rfl
 obtain⟨i1,e1⟩:=I.1 h1
 obtain⟨j1,e2⟩:=I.1 h2
 have hp:=List.pairwise_iff_getElem.1 hn
 rcases Nat.lt_or_gt_of_ne lL with hl|hl
 ·exact hp i j i1 j1 hl (e1.trans (e.trans e2.symm))
 ·exact hp j i j1 i1 hl (e2.trans (e.symm.trans e1.symm))
structure fY (j:Nat)(r:ju):Prop where
 lots:∀(k:Nat) (x:jd),r.lots[k]?=Gv x→0≤x.left∧x.count≤10000∧x.left+eT x.name r.units=x.count
 uses:∀u∈r.units,∀x∈u.uses,1≤x.n
 told:∀u∈r.units,0≤u.ai∧u.ai≤j
theorem fY.empty (d:Int):fY 0 ⟨d,[],[],[]⟩:=⟨by simp,by simp,by simp⟩
theorem fY.mono {i j:Nat}{r:ju}(w:fY i r)(h:i≤j):fY j r:=⟨w.lots,w.uses,fun u hu=>⟨(w.told u hu).1,by have:=(w.told u hu).2;omega⟩⟩
theorem fY.same {j:Nat}{r:ju}(w:fY j r){ps:List lj}{d:Int}:fY j ⟨d,r.lots,ps,r.units⟩:=⟨w.lots,w.uses,w.told⟩
theorem fY.av {j:Nat}{r:ju}(w:fY j r){i:Nat}{u v:aW}(hu:r.units[i]?=Gv u)(h1:v.uses=u.uses)(h2:0≤v.ai∧v.ai≤j):fY j (Go.W.av r i v):=by
 refine⟨fun k x hx=>?_,fun y hy=>?_,fun y hy=>?_⟩
 ·have:=w.lots k x hx
  show _∧_∧x.left+eT x.name (r.units.set i v)=_
  rw[jge _ hu h1];exact this
 ·rcases Gn hy with h|h
  ·exact w.uses y h
  ·rw[h,h1];exact w.uses u (Ey hu)
 ·rcases Gn hy with h|h
  ·exact w.told y h
  ·rw[h];exact h2
theorem fY.cj {j:Nat}{r:ju}(w:fY j r){i:Nat}{x y:jd}(hx:r.lots[i]?=Gv x)(h:y.name=x.name∧y.left=x.left∧y.count=x.count):fY j (Go.W.cj r i y):=by
 refine⟨fun k z hz=>?_,w.uses,w.told⟩
 have hz:(r.lots.set i y)[k]?=Gv z:=hz
 by_cases hk:i=k
 ·subst hk
  rw[G0 (I.1 hx).1]at hz
  cases hz
  have:=w.lots i x hx
  rw[h.1,h.2.1,h.2.2]
  exact this
 ·rw[Gw hk]at hz
  exact w.lots k z hz
def FG (wrap:Int→Int):Prop:=∀n:Int,0≤n→n≤1000000→wrap n=n
theorem q9v {wrap:Int→Int}(hw:FG wrap){l:List bq}{k:Str}{n:Int}(h1:1≤n)(hp:∀x∈l,1≤x.n)(hb:n+fD k l≤1000000)(m:Str):fD m (jT wrap l k n)=fD m l+(if k=m then n else 0)∧∀x∈jT wrap l k n,1≤x.n:=by
 unfold jT
 cases hi:l.findIdx? (di k)with
 |none=>
  refine⟨by rw[qw0];simp[fD],fun x hx=>?_⟩
  rcases G1.1 hx with h|h
  ·exact hp x h
  ·rw[Gz.1 h];exact h1
 |some i=>
  obtain⟨x,hx,hk,_⟩:=bg hi
  have hk:x.k=k:=by simpa[di]using hk
  have hle:=q83 k hp hx hk
  have Bg:=hp x (Ey hx)
  have KR:wrap (n+x.n)=n+x.n:=hw _ (by omega) (by omega)
  simp only[hx,KR]
  refine⟨?_,fun y hy=>?_⟩
  ·rw[q8t m hx,hk]
   by_cases e:k=m
   ·simp only[if_pos e];omega
   ·simp only[if_neg e];omega
  ·rcases Gn hy with h|h
   ·exact hp y h
   ·rw[h];show 1≤n+x.n;omega
theorem fY.use {wrap:Int→Int}(hw:FG wrap){j:Nat}{r:ju}(w:fY j r)(w2:eX r){i k:Nat}{u:aW}{x:jd}{n:Int}(hu:r.units[i]?=Gv u)(hx:r.lots[k]?=Gv x)(h1:1≤n)(h2:n≤x.left):fY j (Go.W.av (Go.W.cj r k { x with left:=wrap (x.left-n) }) i { u with uses:=jT wrap u.uses x.name n }):=by
 obtain⟨l0,l1,l2⟩:=w.lots k x hx
 have hum:=Ey hu
 have hg:=q34 x.name w.uses hu
 have hb:n+fD x.name u.uses≤1000000:=by omega
 have KR:wrap (x.left-n)=x.left-n:=hw _ (by omega) (by have:=JJ x.name w.uses;omega)
 have ht:=fun m=>q9v hw (k:=x.name) h1 (w.uses u hum) hb m
 refine⟨fun q z hz=>?_,fun y hy=>?_,fun y hy=>?_⟩
 ·have hz:(r.lots.set k { x with left:=wrap (x.left-n) })[q]?=Gv z:=hz
  show 0≤z.left∧z.count≤10000∧z.left+eT z.name (r.units.set i { u with uses:=jT wrap u.uses x.name n })=z.count
  rw[ZJ _ hu,(ht z.name).1]
  by_cases hk:k=q
  ·subst hk
   rw[G0 (I.1 hx).1]at hz
   cases hz
   simp only[KR,if_true]
   omega
  ·rw[Gw hk]at hz
   have bB:x.name≠z.name:=NP (key:=fun x:jd=>x.name) w2.lots hx hz hk
   rw[if_neg bB]
   have:=w.lots q z hz
   omega
 ·rcases Gn hy with h|h
  ·exact w.uses y h
  ·rw[h];exact(ht x.name).2
 ·rcases Gn hy with h|h
  ·exact w.told y h
  ·rw[h];exact w.told u hum
theorem fY.uX {j:Nat}{r:ju}(w:fY j r){u:aW}(h1:u.uses=[])(h2:0≤u.ai∧u.ai≤j):fY j { r with units:=r.units++[u] }:=by
 refine⟨fun k x hx=>?_,fun y hy=>?_,fun y hy=>?_⟩
 ·have:=w.lots k x hx
  show 0≤x.left∧x.count≤10000∧x.left+eT x.name (r.units++[u])=x.count
  rw[qs9]
  simp only[eT,h1,fD]
  omega
 ·rcases G1.1 hy with h|h
  ·exact w.uses y h
  ·rw[Gz.1 h,h1];simp
 ·rcases G1.1 hy with h|h
  ·exact w.told y h
  ·rw[Gz.1 h];exact h2
theorem fY.yC {j:Nat}{r:ju}(w:fY j r)(w1:WF r){x:jd}(hn:(zt r x.name).isSome=false)(h1:x.left=x.count)(h2:0≤x.count∧x.count≤10000):fY j { r with lots:=r.lots++[x] }:=by
 refine⟨fun k y hy=>?_,w.uses,w.told⟩
 have hy:(r.lots++[x])[k]?=Gv y:=hy
 rw[List.getElem?_append]at hy
 split at hy
 ·exact w.lots k y hy
 ·have hz:eT x.name r.units=0:=Yp _ fun u hu z hz e=>by
   have:=(w1.uses u hu).2 z hz
   rw[e,hn]at this;cases this
  have hm:y∈[x]:=Ey hy
  rw[Gz.1 hm]
  show 0≤x.left∧x.count≤10000∧x.left+eT x.name r.units=x.count
  rw[hz];omega
theorem jeo {wrap:Int→Int}(hw:FG wrap){j:Nat}(hj:j≤1000){r r':ju}{e:ek}(w1:WF r)(w2:eX r)(w:fY j r)(hv:∀i,0≤vl e i)(ha:apply wrap r e=.ok r'):fY (j+1) r':=by
 have mC:∀ {i:Nat} {u:aW},r.units[i]?=Gv u→0≤u.ai∧u.ai≤((j+1:Nat):Int):=fun h=>by
  have:=w.told _ (Ey h);omega
 have wj:=w.mono (Nat.le_succ j)
 unfold apply at ha
 split at ha
 ·unfold l6 at ha
  split at ha
  ·split at ha
   ·cases ha
   rename_i hn
   split at ha
   ·cases ha
   rename_i hb
   split at ha
   ·cases ha
   cases ha
   exact wj.yC w1 (by simpa using hn) rfl ⟨hv 1,by show vl e 1≤10000;omega⟩
  split at ha
  ·repeat' split at ha
   all_goals first|(cases ha;done)|skip
   cases ha
   exact wj.same
  ·repeat' split at ha
   all_goals first|(cases ha;done)|skip
   cases ha
   exact wj.uX rfl ⟨Gy _,by show(0:Int)≤_;omega⟩
 split at ha
 ·unfold ku at ha
  repeat' split at ha
  all_goals first|(cases ha;done)|(cases ha;exact wj.same)
 split at ha
 ·unfold pk at ha
  split at ha
  ·cases ha
  split at ha
  ·cases ha
  rename_i hx
  repeat' split at ha
  all_goals first|(cases ha;done)|(cases ha;exact wj.cj hx ⟨rfl,rfl,rfl⟩)
 unfold lF at ha
 split at ha
 ·cases ha
 split at ha
 ·cases ha
 rename_i _ i hi _ u hu
 split at ha
 ·unfold qC at ha
  split at ha
  ·cases ha
  split at ha
  ·cases ha
  rename_i _ k hk _ x hx
  split at ha
  ·cases ha
  split at ha
  ·cases ha
  rename_i h0
  split at ha
  ·cases ha
  split at ha
  ·cases ha
  split at ha
  ·cases ha
  rename_i hle
  cases ha
  exact wj.use hw w2 hu hx (by have:=hv 1;omega) (by omega)
 split at ha
 ·unfold qD at ha
  split at ha
  ·cases ha
  split at ha
  ·cases ha
  rename_i _ k hk _ v vE
  split at ha
  ·cases ha
  rename_i rR
  repeat' split at ha
  all_goals first|(cases ha;done)|skip
  cases ha
  refine(wj.av hu (v:={ u with partner:=v.name }) rfl (mC (u:=u) hu)).av (u:=v) ?_ rfl (mC (u:=v) vE)
  show(r.units.set i _)[k]?=_
  rw[Gw rR];exact vE
 repeat' split at ha
 all_goals first|(cases ha;done)|skip
 ·cases ha;exact wj.av hu rfl (mC (u:=u) hu)
 ·cases ha;exact wj.av hu rfl (mC (u:=u) hu)
 ·cases ha;exact wj.av hu rfl (mC (u:=u) hu)
 ·cases ha
  have:=w.told _ (Ey hu)
  have KR:wrap (u.ai+1)=u.ai+1:=hw _ (by omega) (by omega)
  exact wj.av hu rfl (by show 0≤wrap _∧wrap _≤_;rw[KR];omega)
theorem jg5 {wrap:Int→Int}(hw:FG wrap){j:Nat}(hj:j≤1000){r r':ju}{e:ek}(w1:WF r)(w2:eX r)(w:fY j r)(hv:∀i,0≤vl e i)(h:after wrap r e=.ok r'):fY (j+1) r':=by
 unfold after at h
 split at h
 ·cases h
 split at h
 ·cases h
 rename_i r1 ha
 cases h
 have:=jeo hw hj w1 w2 w hv ha
 exact⟨this.lots,this.uses,this.told⟩
theorem jfn {e:ek}(h:zf e=0)(i:Nat):0≤vl e i∧vl e i≤999999999:=by
 have hall:e.values.all (fun n=>decide (0≤n)&&decide (n≤999999999))=true:=by
  unfold zf at h
  split at h
  ·cases h
  split at h
  ·cases h
  split at h
  ·cases h
  split at h
  ·cases h
  split at h
  ·cases h
  rename_i hh
  simpa using hh
 unfold vl
 cases hi:e.values[i]? with
 |none=>exact⟨Gy _,by decide⟩
 |some v=>
  have:=List.all_eq_true.1 hall v (Ey hi)
  simpa using this
theorem eH.wf3 {wrap:Int→Int}(hw:FG wrap){h:kl}(o:eH wrap h)(hl:h.1.length≤1000):∀(j:Nat) (r:ju),h.2[j]?=Gv r→fY j r
 |0,r,hr=>by rw[o.first]at hr;cases hr;exact fY.empty 0
 |j+1,r,hr=>by
  have br:=(I.1 hr).1
  have hll:=o.len
  have h1:j<h.1.length:=by omega
  have h2:j<h.2.length:=by omega
  obtain⟨r',k1,k2⟩:=o.next j _ _ (Gq h1) (Gq h2)
  rw[k1]at hr;cases hr
  have hj:=Gq h2
  exact jg5 hw (by omega) (o.wf j _ hj) (o.xj j _ hj) (eH.wf3 hw o hl j _ hj) (fun i=>(jfn (o.kinds _ (List.getElem_mem h1)).1 i).1) k2
end Go.W
namespace Go.W
structure ft (x y:jd):Prop where
 name:y.name=x.name
 kind:y.kind=x.kind
 count:y.count=x.count
 left:y.left≤x.left
structure ea (x y:aW):Prop where
 name:y.name=x.name
 version:x.version≤y.version
 results:x.results.length≤y.results.length
 told:x.ai≤y.ai
structure eb (x y:lj):Prop where
 name:y.name=x.name
 aM:x.aM.length≤y.aM.length
def dH {α:Type}(R:α→α→Prop)(l m:List α):Prop:=∀(i:Nat) (x:α),l[i]?=Gv x→∃y,m[i]?=Gv y∧R x y
theorem dH.refl {α:Type}{R:α→α→Prop}(hR:∀x,R x x)(l:List α):dH R l l:=fun i x h=>⟨x,h,hR x⟩
theorem dH.trans {α:Type}{R:α→α→Prop}(hR:∀x y z,R x y→R y z→R x z){l m k:List α}(h1:dH R l m)(h2:dH R m k):dH R l k:=fun i x h=>by
 obtain⟨y,a1,a2⟩:=h1 i x h
 obtain⟨z,b1,b2⟩:=h2 i y a1
 exact⟨z,b1,hR _ _ _ a2 b2⟩
theorem dH.add {α:Type}{R:α→α→Prop}(hR:∀x,R x x)(l m:List α):dH R l (l++m):=fun i x h=>⟨x,by rw[List.getElem?_append_left (I.1 h).1];exact h,hR x⟩
theorem dH.set {α:Type}{R:α→α→Prop}(hR:∀x,R x x){l:List α}{i:Nat}{x y:α}(hx:l[i]?=Gv x)(KP:R x y):dH R l (l.set i y):=fun k z hz=>by
 by_cases hk:i=k
 ·subst hk
  rw[hx]at hz;cases hz
  exact⟨y,G0 (I.1 hx).1,KP⟩
 ·exact⟨z,by rw[Gw hk];exact hz,hR z⟩
theorem dH.len {α:Type}{R:α→α→Prop}{l m:List α}(h:dH R l m):l.length≤m.length:=by
 rcases Nat.lt_or_ge m.length l.length with hl|hl
 ·obtain⟨y,a1,_⟩:=h m.length _ (Gq hl)
  have:=(I.1 a1).1
  omega
 ·exact hl
theorem ft.refl (x:jd):ft x x:=⟨rfl,rfl,rfl,Gy _⟩
theorem ea.refl (x:aW):ea x x:=⟨rfl,Gy _,Nat.le_refl _,Gy _⟩
theorem eb.refl (x:lj):eb x x:=⟨rfl,Nat.le_refl _⟩
theorem ft.trans (x y z:jd)(h:ft x y)(g:ft y z):ft x z:=⟨g.name.trans h.name,g.kind.trans h.kind,g.count.trans h.count,G6 g.left h.left⟩
theorem ea.trans (x y z:aW)(h:ea x y)(g:ea y z):ea x z:=⟨g.name.trans h.name,G6 h.version g.version,Nat.le_trans h.results g.results,G6 h.told g.told⟩
theorem eb.trans (x y z:lj)(h:eb x y)(g:eb y z):eb x z:=⟨g.name.trans h.name,Nat.le_trans h.aM g.aM⟩
structure fR (r s:ju):Prop where
 lots:dH ft r.lots s.lots
 units:dH ea r.units s.units
 fQ:dH eb r.ae s.ae
theorem fR.refl (r:ju):fR r r:=⟨.refl ft.refl _,.refl ea.refl _,.refl eb.refl _⟩
theorem fR.trans {r s t:ju}(h:fR r s)(g:fR s t):fR r t:=⟨h.lots.trans ft.trans g.lots,h.units.trans ea.trans g.units,h.fQ.trans eb.trans g.fQ⟩
theorem fR.gH {r:ju}{l:List jd}(h:dH ft r.lots l):fR r { r with lots:=l }:=⟨h,.refl ea.refl _,.refl eb.refl _⟩
theorem fR.gY {r:ju}{l:List lj}(h:dH eb r.ae l):fR r { r with ae:=l }:=⟨.refl ft.refl _,.refl ea.refl _,h⟩
end Go.W
