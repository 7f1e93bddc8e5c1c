/- Chapter 10, plain. -/
import Derived.Test.YtfopaakmgogpiaaGreatDoorCA
import Derived.Test.YtfopaakmgogpiaaGreatDoorG0
import Derived.Test.YtfopaakmgogpiaaGreatDoorW3
import Derived.Test.YtfopaakmgogpiaaGreatDoorW6
import Derived.Test.YtfopaakmgogpiaaGreatDoorWS
import Derived.Test.YtfopaakmgogpiaaGreatDoorW15
set_option linter.unusedVariables false
set_option linter.unusedSimpArgs false
set_option maxRecDepth 100000
namespace Go.Z
open Go Go.Abs Go.W
def ixI:Option Nat→Int
 |some k=>(k:Int)
 |none=>-1
theorem jgg {α:Type}(l:List α)(p:α→Bool)(f:Int→Option (Int⊕(Int⊕Int)))(hend:f (l.length:Int)=some (.inr (.inr (l.length:Int))))
  (hstep:∀(i:Nat) x,l[i]?=some x→i<l.length→f (i:Int)=some (if p x then .inr (.inl (i:Int))else .inl ((i+1:Nat):Int))):
  ∃d,itO f 0=some d∧(match d with | .inl k=>k | .inr _=>-1)=ixI (l.findIdx? p):=by
 have:=qsb l.length (fun i=>(i:Int)) f (fun d=>match d with | .inl k=>k | .inr _=>(-1:Int)) (fun i=>ixI (((l.drop i).findIdx? p).map (· + i))) ⟨_,hend,by rw[List.drop_eq_nil_of_le (Nat.le_refl _)];rfl⟩ (fun i hi=>by
  obtain⟨x,hx⟩:∃x,l[i]?=some x:=⟨_,List.getElem?_eq_getElem hi⟩
  have h1:=hstep i x hx hi
  simp only[qcp hx,List.findIdx?_cons]
  cases hp:p x with
  |true=>
   rw[hp,if_pos rfl]at h1
   exact .inr ⟨_,h1,by simp[ixI]⟩
  |false=>
   rw[hp]at h1
   refine .inl ⟨by simpa using h1,?_⟩
   simp only[Bool.false_eq_true,if_false,Option.map_map]
   congr 1
   congr 1
   funext n
   simp only[Function.comp];omega)
 obtain⟨d,h1,h2⟩:=this
 refine⟨d,h1,?_⟩
 rw[h2]
 simp
abbrev SM:Nat:=1073741824
theorem qce {α:Type}{l:List α}{p:α→Bool}{f:Int→Option (Int⊕(Int⊕Int))}(hl:l.length≤SM)
  (hf:∀i:Int,f i=cond (decide (i<(l.length:Int))) (jw (zo l i) fun x=>cond (p x) (some (.inr (.inl i))) (some (.inl (j6 .i64 (i+1))))) (some (.inr (.inr i)))):
  (jw (itO f 0) fun d=>match d with | .inl k=>some k | .inr _=>some (-1))=some (ixI (l.findIdx? p)):=by
 obtain⟨d,h1,h2⟩:=jgg l p f (by rw[hf,ku];rfl) (fun i x hx hi=>by
  rw[hf,qal hi]
  simp only[cT,jw,z6 hx]
  cases p x with
  |true=>rfl
  |false=>simp only[cond_false];rw[qaj (by unfold SM at hl;omega)];rfl)
 rw[h1]
 simp only[jw]
 rw[←h2]
 cases d<;>rfl
variable {r:qc}{n:List UInt8}
theorem qqf (hl:(r.lots.getD []).length≤SM):f28 r n=some (ixI (kx r.er n)):=by
 unfold f28 kx
 exact qce (p:=fun x=>decide (x.name=n)) hl fun i=>rfl
theorem qn7 (hl:(r.lots.getD []).length≤SM):f72 r n=some (ixI (kx r.er n)):=by
 have:qxu ((r.lots.getD []).length:Int) r n=some (ixI (kx r.er n)):=by
  unfold qxu kx
  refine qce (p:=fun x=>decide (x.name=n)) hl fun i=>?_
  unfold qob f131
  congr 1
  cases zo (r.lots.getD []) i<;>rfl
 unfold f72;rw[this];rfl
theorem qfl:r.er.products=(r.products.getD []).map qi.er:=rfl
theorem qgw:r.er.units=(r.units.getD []).map qf.er:=rfl
theorem qlm:ky r.er n=(r.products.getD []).findIdx? fun x=>decide (x.name=n):=by
 unfold ky;rw[qfl,List.findIdx?_map];rfl
theorem qrf:km r.er n=(r.units.getD []).findIdx? fun x=>decide (x.name=n):=by
 unfold km;rw[qgw,List.findIdx?_map];rfl
theorem qj3 (hl:(r.products.getD []).length≤SM):f144 r n=some (ixI (ky r.er n)):=by
 rw[qlm];unfold f144
 exact qce (p:=fun x=>decide (x.name=n)) hl fun i=>rfl
theorem qe6 (hl:(r.products.getD []).length≤SM):f165 r n=some (ixI (ky r.er n)):=by
 have:qxd ((r.products.getD []).length:Int) r n=some (ixI (ky r.er n)):=by
  rw[qlm];unfold qxd
  refine qce (p:=fun x=>decide (x.name=n)) hl fun i=>?_
  unfold qnx f233
  congr 1
  cases zo (r.products.getD []) i<;>rfl
 unfold f165;rw[this];rfl
theorem qwu (hl:(r.units.getD []).length≤SM):f27 r n=some (ixI (km r.er n)):=by
 rw[qrf];unfold f27
 exact qce (p:=fun x=>decide (x.name=n)) hl fun i=>rfl
theorem qi6 (hl:(r.units.getD []).length≤SM):f93 r n=some (ixI (km r.er n)):=by
 have:qxa ((r.units.getD []).length:Int) r n=some (ixI (km r.er n)):=by
  rw[qrf];unfold qxa
  refine qce (p:=fun x=>decide (x.name=n)) hl fun i=>?_
  unfold qnt f148
  congr 1
  cases zo (r.units.getD []) i<;>rfl
 unfold f93;rw[this];rfl
end Go.Z
namespace Go.Z
open Go Go.Abs Go.W
theorem qz7 {i:Nat}(h:i<9223372036854775807):j6 .i64 (((i+1:Nat):Int)-1)=(i:Int):=by
 have:=qaj (i:=i) h
 rw[show(((i+1:Nat):Int)-1)=(i:Int) by omega]
 cases i with
 |zero=>rfl
 |succ j=>
  have:=qaj (i:=j) (by omega)
  rw[show((j+1:Nat):Int)=(j:Int)+1 by omega,this];omega
variable {r:qc}{n:List UInt8}
theorem qua {sp:jd}(h:qc0 r.er n=some sp):∃k p,ky r.er n=some k∧(r.products.getD [])[k]?=some p∧p.er=sp∧p.name=n:=by
 unfold qc0 at h
 cases hk:ky r.er n with
 |none=>rw[hk]at h;cases h
 |some k=>
  rw[hk]at h
  simp only[Option.bind_some,qfl,List.getElem?_map]at h
  cases hp:(r.products.getD [])[k]? with
  |none=>rw[hp]at h;cases h
  |some p=>
   rw[hp]at h
   rw[qlm]at hk
   obtain⟨x,h1,h2,_⟩:=findIdx?_get hk
   rw[hp]at h1;cases h1
   exact⟨k,p,rfl,hp,by simpa using h,of_decide_eq_true h2⟩
theorem jpy {u:qf}{d:jf}(hP:(r.products.getD []).length≤SM)(hB:∀p∈r.products.getD [],(p.docs.getD []).length≤SM)(hd:qct r.er u.er=some d):∃D,f134 r u=some D∧f78 r u=some D∧D.er=d:=by
 unfold qct at hd
 cases hp:qc0 r.er u.er.product with
 |none=>rw[hp]at hd;cases hd
 |some sp=>
  rw[hp]at hd
  obtain⟨k,p,h1,h2,rfl,_⟩:=qua hp
  simp only[Option.bind_some,q9k]at hd
  have hB:=hB p (List.mem_of_getElem? h2)
  split at hd
  ·rename_i hv
   obtain⟨i,hi⟩:∃i:Nat,u.version=((i+1:Nat):Int):=⟨(u.version-1).toNat,by have:1≤u.version:=hv;omega⟩
   have he:(u.er.version-1).toNat=i:=by show(u.version-1).toNat=i;omega
   rw[he]at hd
   have hd2:((p.docs.getD []).map qr.er)[i]?=some d:=hd
   rw[List.getElem?_map]at hd2
   cases hD:(p.docs.getD [])[i]? with
   |none=>rw[hD]at hd2;cases hd2
   |some D=>
    rw[hD]at hd2
    have hlt:=(List.getElem?_eq_some_iff.1 hD).1
    have hw:j6 .i64 (u.version-1)=(i:Int):=by rw[hi];exact qz7 (by unfold SM at hB;omega)
    refine⟨D,?_,?_,by simpa using hd2⟩
    ·unfold f134
     rw[qe6 hP,show ky r.er u.product=some k from h1]
     simp only[jw,ixI,z6 h2,hw,z6 hD]
    ·unfold f78
     rw[qj3 hP,show ky r.er u.product=some k from h1]
     simp only[jw,ixI,z6 h2,hw,z6 hD]
  ·cases hd
theorem qlp {u:qf}{v:Int}(hP:(r.products.getD []).length≤SM)(hd:qfu r.er u.er=some v):f140 r u=some v∧f80 r u=some v:=by
 unfold qfu at hd
 cases hp:qc0 r.er u.er.product with
 |none=>rw[hp]at hd;cases hd
 |some sp=>
  rw[hp]at hd
  obtain⟨k,p,h1,h2,rfl,_⟩:=qua hp
  have hv:v=((p.docs.getD []).length:Int):=by
   simp only[Option.map_some,Option.some.injEq]at hd
   rw[←hd]
   show((((p.docs.getD []).map qr.er).length:Nat):Int)=_
   rw[List.length_map]
  subst hv
  refine⟨?_,?_⟩
  ·unfold f140 f182
   rw[qe6 hP,show ky r.er u.product=some k from h1]
   simp only[jw,ixI,z6 h2]
  ·unfold f80
   rw[qj3 hP,show ky r.er u.product=some k from h1]
   simp only[jw,ixI,z6 h2]
theorem qpb {α γ ε:Type}(g:γ→α→γ):∀(l:List α) (i:Nat) (c:γ),qzj (fun _ c x=>(.inl (g c x):γ⊕ε)) i c l=.inl (l.foldl g c)
 | [],i,c=>rfl
 |x::l,i,c=>by simp only[qzj,List.foldl_cons];exact qpb g l (i+1) (g c x)
theorem qn0 {α γ σ δ:Type}(l:List α)(f:σ→Option (σ⊕δ))(mk:Nat→γ→σ)(g:γ→α→γ)(En:γ→δ)(c:γ)(hend:∀c,f (mk l.length c)=some (.inr (En c)))
  (hstep:∀i c x,l[i]?=some x→i<l.length→f (mk i c)=some (.inl (mk (i+1) (g c x)))):itO f (mk 0 c)=some (En (l.foldl g c)):=by
 have:=q3l (ε:=Empty) l f mk (fun _ c x=>.inl (g c x)) En (fun e=>nomatch e) (fun _ _=>True) c (fun c _=>hend c) (fun i c x hx hi _=>⟨trivial,hstep i c x hx hi⟩) trivial
 rw[this,qpb]
theorem jql {u:qf}{t:qk}(hl:(u.results.getD []).length≤SM):f79 u t=some (qfw u.er t):=by
 unfold f79
 have:=qn0 (u.results.getD []) (qot u t) (fun i (c:Bool)=>(c,(i:Int))) (fun is x=>if decide (x.k=t.k)&&decide (x.a=u.version)then decide (t.a≤x.b)&&decide (x.b≤t.b)else is) (fun c=>(c,((u.results.getD []).length:Int))) false (fun c=>by unfold qot;simp only[ku];rfl)
  (fun i c x hx hi=>by
   unfold qot
   simp only[qal hi,cT,jw,z6 hx]
   rw[qaj (by unfold SM at hl;omega)]
   by_cases h1:x.k=t.k<;>by_cases h2:x.a=u.version<;>by_cases h3:t.a≤x.b<;>simp[h1,h2,h3])
 rw[show((false,(0:Int)):Bool×Int)=(false,((0:Nat):Int))from rfl,this]
 rfl
theorem jmn {u:qf}{t:qk}(hl:(u.results.getD []).length≤SM)(hv:u.version≠-1):f136 u t=some (qfw u.er t):=by
 unfold f136
 have:=qn0 (u.results.getD []) (qk2 u t) (fun i (c:qk)=>((i:Int),c.k,c.a,c.b)) (fun c x=>if decide (x.k=t.k)&&decide (x.a=u.version)then x else c) (fun c=>(((u.results.getD []).length:Int),c.k,c.a,c.b)) ⟨[],-1,0⟩ (fun c=>by unfold qk2;simp only[ku];rfl)
  (fun i c x hx hi=>by
   unfold qk2
   simp only[qal hi,cT,jw,z6 hx]
   rw[qaj (by unfold SM at hl;omega)]
   by_cases h1:x.k=t.k<;>by_cases h2:x.a=u.version<;>simp[h1,h2])
 rw[show(((0:Int),([]:List UInt8),(-1:Int),(0:Int)):Int×List UInt8×Int×Int)=(((0:Nat):Int),[],-1,0)from rfl]
 simp only[]at this
 rw[this]
 simp only[jw]
 have key:∀(l:List qk) (c:qk) (b:Bool),(c=⟨[],-1,0⟩∧b=false∨c.a=u.version∧b=(decide (t.a≤c.b)&&decide (c.b≤t.b))) →
   (let c':=l.foldl (fun c x=>if decide (x.k=t.k)&&decide (x.a=u.version)then x else c) c
    let b':=l.foldl (fun is x=>if decide (x.k=t.k)&&decide (x.a=u.version)then decide (t.a≤x.b)&&decide (x.b≤t.b)else is) b
    c'=⟨[],-1,0⟩∧b'=false∨c'.a=u.version∧b'=(decide (t.a≤c'.b)&&decide (c'.b≤t.b))):=by
  intro l
  induction l with
  |nil=>intro c b h;exact h
  |cons x l ih=>
   intro c b h
   simp only[List.foldl_cons]
   z8 ih
   by_cases h1:x.k=t.k<;>by_cases h2:x.a=u.version
   ·simp only[h1,h2,decide_true,Bool.and_self,if_true]
    right;trivial
   all_goals simpa only[h1,h2,decide_true,decide_false,Bool.and_false,Bool.false_and,Bool.and_self,Bool.false_eq_true,if_false]using h
 have k:=key (u.results.getD []) ⟨[],-1,0⟩ false (.inl ⟨rfl,rfl⟩)
 simp only at k
 show _=some ((u.results.getD []).foldl (fun is x=>if decide (x.k=t.k)&&decide (x.a=u.version)then decide (t.a≤x.b)&&decide (x.b≤t.b)else is) false)
 rcases k with⟨h1,h2⟩|⟨h1,h2⟩
 ·rw[h2,h1];rfl
 ·rw[h2]
  generalize (u.results.getD []).foldl (fun c x=>if decide (x.k=t.k)&&decide (x.a=u.version)then x else c) ⟨[],-1,0⟩=c at h1
  have:decide (c.a=-1)=false:=dF (by rw[h1];exact hv)
  simp only[this,Bool.and_false,Bool.false_and,cond_false]
  by_cases h3:t.a≤c.b<;>simp[h3]
end Go.Z
namespace Go.Z
open Go Go.Abs Go.W
theorem qpq {α β:Type}(p:α→Bool)(g:α→β):∀l:List α,(l.flatMap fun x=>if p x then [g x]else [])=(l.filter p).map g
 | []=>rfl
 |x::l=>by
  rw[List.flatMap_cons,qpq p g l,List.filter_cons]
  cases p x<;>rfl
theorem qza {α β:Type}{l:List α}{p:α→Bool}{g:α→β}{f:Option (List β)×Int×Bool→Option ((Option (List β)×Int×Bool)⊕(Option (List β)×Bool×Int))}(hl:l.length≤SM)
  (hend:∀o w,f (o,(l.length:Int),w)=some (.inr (o,w,(l.length:Int))))
  (hf:∀(i:Nat) x o w,l[i]?=some x→f (o,(i:Int),w)=cond (p x) (cond w (jw (apO o [g x]) fun v=>some (.inl (v,((i+1:Nat):Int),true))) (cond o.isNone (jw (apO o [g x]) fun v=>some (.inl (v,((i+1:Nat):Int),true))) none)) (some (.inl (o,((i+1:Nat):Int),w)))):
  itO f (none,0,false)=some (yr ((l.filter p).map g),qb9 ((l.filter p).map g),(l.length:Int)):=by
 have:=jfj l (fun i=>(i:Int)) f (fun x=>if p x then [g x]else []) [] (fun i a=>a.length≤i) (Nat.le_refl _) (fun a=>hend _ _) (fun i x a hx hi ha=>by
  cases hp:p x with
  |true=>
   refine⟨by simp;omega,?_⟩
   rw[hf i x _ _ hx,hp]
   simp only[cT,if_true]
   rw[qfj]
   exact qet (x:=g x) (k:=fun v=>some (Sum.inl (v,((i+1:Nat):Int),true))) (by unfold SM at hl;omega)
  |false=>
   refine⟨by simp;omega,?_⟩
   rw[hf i x _ _ hx,hp]
   simp)
 rw[qpq,List.nil_append]at this
 exact this
theorem qzb {α:Type}{l:List α}{p:α→Bool}{q:α→Option Bool}{f:Option (List α)×Int×Bool→Option ((Option (List α)×Int×Bool)⊕(Option (List α)×Bool×Int))}(hl:l.length≤SM)(hq:∀x∈l,q x=some (p x))
  (hf:∀s,f s=cond (decide (s.2.1<(l.length:Int))) (jw (zo l s.2.1) fun x=>jw (q x) fun b=>cond b (cond s.2.2 (jw (apO s.1 [x]) fun v=>some (.inl (v,j6 .i64 (s.2.1+1),true))) (cond s.1.isNone (jw (apO s.1 [x]) fun v=>some (.inl (v,j6 .i64 (s.2.1+1),true))) none)) (some (.inl (s.1,j6 .i64 (s.2.1+1),s.2.2)))) (some (.inr (s.1,s.2.2,s.2.1)))):
  itO f (none,0,false)=some (yr (l.filter p),qb9 (l.filter p),(l.length:Int)):=by
 have:=qza (l:=l) (p:=p) (g:=fun x=>x) (f:=f) hl (fun o w=>by rw[hf];simp only[ku,cond_false]) (fun i x o w hx=>by
  have hi:=(List.getElem?_eq_some_iff.1 hx).1
  rw[hf]
  simp only[qal hi,cT,jw,z6 hx,hq x (List.mem_of_getElem? hx)]
  rw[qaj (by unfold SM at hl;omega)])
 simpa using this
theorem qrb {α β:Type}{l:List α}{g:α→β}{q:α→Option β}{f:Option (List β)×Int×Bool→Option ((Option (List β)×Int×Bool)⊕(Option (List β)×Bool×Int))}(hl:l.length≤SM)(hq:∀x∈l,q x=some (g x))
  (hf:∀s,f s=cond (decide (s.2.1<(l.length:Int))) (jw (zo l s.2.1) fun x=>jw (q x) fun b=>cond s.2.2 (jw (apO s.1 [b]) fun v=>some (.inl (v,j6 .i64 (s.2.1+1),true))) (cond s.1.isNone (jw (apO s.1 [b]) fun v=>some (.inl (v,j6 .i64 (s.2.1+1),true))) none)) (some (.inr (s.1,s.2.2,s.2.1)))):
  itO f (none,0,false)=some (yr (l.map g),qb9 (l.map g),(l.length:Int)):=by
 have:=qza (l:=l) (p:=fun _=>true) (g:=g) (f:=f) hl (fun o w=>by rw[hf];simp only[ku,cond_false]) (fun i x o w hx=>by
  have hi:=(List.getElem?_eq_some_iff.1 hx).1
  rw[hf]
  simp only[qal hi,cT,jw,z6 hx,hq x (List.mem_of_getElem? hx)]
  rw[qaj (by unfold SM at hl;omega)])
 rw[List.filter_eq_self.2 (fun _ _=>rfl)]at this
 exact this
variable {r:qc}{u:qf}{D:qr}
theorem q9o {α:Type}{l:List α}{p:α→Bool}(hl:l.length≤SM):(l.filter p).length≤SM:=Nat.le_trans (List.length_filter_le _ _) hl
theorem jt9 (hd:f134 r u=some D)(hr:(u.results.getD []).length≤SM)(ht:(D.tests.getD []).length≤SM)(hv:u.version≠-1):∃w,f74 r u=some (yr (qft D.er u.er),w):=by
 unfold f74
 rw[hd]
 simp only[jw]
 have h1:f133 D.tests u=some (yr ((D.tests.getD []).filter fun t=>!qfw u.er t),qb9 ((D.tests.getD []).filter fun t=>!qfw u.er t)):=by
  unfold f133
  rw[qzb (f:=qsh D.tests u) (l:=D.tests.getD []) (p:=fun t=>!qfw u.er t) (q:=fun t=>f135 t u) ht (fun x _=>by unfold f135;rw[jmn hr hv];rfl) (fun s=>rfl)]
  rfl
 rw[h1]
 simp only[]
 have h2:f137 (yr ((D.tests.getD []).filter fun t=>!qfw u.er t))=some (yr (qft D.er u.er),qb9 (qft D.er u.er)):=by
  unfold f137
  rw[qrb (f:=qrd (yr ((D.tests.getD []).filter fun t=>!qfw u.er t))) (l:=((yr ((D.tests.getD []).filter fun t=>!qfw u.er t)).getD [])) (g:=fun t:qk=>t.k) (q:=f138) (by rw[ko];exact q9o ht) (fun x _=>rfl) (fun s=>rfl),ko]
  rfl
 rw[h2]
 exact⟨_,rfl⟩
theorem jnx (hd:f78 r u=some D)(hr:(u.results.getD []).length≤SM)(ht:(D.tests.getD []).length≤SM):∃w,f30 r u=some (yr (qft D.er u.er),w):=by
 unfold f30
 rw[hd]
 simp only[jw]
 have:=qza (l:=D.tests.getD []) (p:=fun t=>!qfw u.er t) (g:=fun t:qk=>t.k) (f:=qo6 u D) ht (fun o w=>by unfold qo6;simp only[ku,cond_false]) (fun i x o w hx=>by
  have hi:=(List.getElem?_eq_some_iff.1 hx).1
  unfold qo6
  simp only[qal hi,cT,jw,z6 hx,jql hr]
  rw[qaj (by unfold SM at ht;omega)]
  cases qfw u.er x<;>rfl)
 rw[this]
 exact⟨_,rfl⟩
theorem qy9 {n:List UInt8}{x:qj}(h:qfd r.er n=some x):∃k:Nat,kx r.er n=some k∧(r.lots.getD [])[k]?=some x:=by
 unfold qfd at h
 cases hk:kx r.er n with
 |none=>rw[hk]at h;cases h
 |some k=>rw[hk]at h;exact⟨k,rfl,h⟩
theorem qhv {n:List UInt8}(h:(kx r.er n).isSome=true):∃x,qfd r.er n=some x:=by
 unfold qfd
 cases hk:kx r.er n with
 |none=>rw[hk]at h;cases h
 |some k=>
  obtain⟨x,h1,_⟩:=findIdx?_get hk
  exact⟨x,h1⟩
def qs4 (r:qv)(kind:Str)(n:Int)(x:qm):Int:=if(qfd r x.k).any (fun l=>decide (l.kind=kind))then j6 .i64 (n+x.n)else n
theorem jk9 {kind:List UInt8}(hL:(r.lots.getD []).length≤SM)(hu:(u.uses.getD []).length≤SM)(hw:∀x∈u.uses.getD [],(kx r.er x.k).isSome=true):f145 r u kind=some (qnc (j6 .i64) r.er u.er kind):=by
 unfold f145
 have:=qn0 (u.uses.getD []) (qkt r u kind) (fun i (c:Int)=>(c,(i:Int))) (qs4 r.er kind) (fun c=>(c,((u.uses.getD []).length:Int))) 0 (fun c=>by unfold qkt;simp only[ku];rfl)
  (fun i c x hx hi=>by
   obtain⟨y,hy⟩:=qhv (hw x (List.mem_of_getElem? hx))
   obtain⟨k,h1,h2⟩:=qy9 hy
   unfold qkt qs4
   simp only[qal hi,cT,jw,z6 hx,qqf hL,h1,ixI,z6 h2,hy,Option.any_some]
   rw[qaj (by unfold SM at hu;omega)]
   by_cases h3:y.kind=kind<;>simp[h3])
 rw[show(((0:Int),(0:Int)):Int×Int)=((0:Int),((0:Nat):Int))from rfl,this]
 rfl
theorem q6a {σ:Type}{step:σ→qj→Int→Option σ}{g:σ→qm→σ}(I:Nat→σ→Prop)(hL:(r.lots.getD []).length≤SM)(hu:(u.uses.getD []).length≤SM)
  (hg:∀i x c,(u.uses.getD [])[i]?=some x→I i c→I (i+1) (g c x)∧∃y,qfd r.er x.k=some y∧step c y x.n=some (g c x)) (c:σ) (hI:I 0 c):itO (qh5 r u step) (0,c)=some (((u.uses.getD []).length:Int),(u.uses.getD []).foldl g c):=by
 have:=q3l (ε:=Empty) (u.uses.getD []) (qh5 r u step) (fun i (c:σ)=>((i:Int),c)) (fun _ c x=>.inl (g c x)) (fun c=>(((u.uses.getD []).length:Int),c)) (fun e=>nomatch e) I c (fun c _=>by unfold qh5;simp only[ku];rfl)
  (fun i c x hx hi hI=>by
   obtain⟨hI',y,h1,h2⟩:=hg i x c hx hI
   obtain⟨k,h3,h4⟩:=qy9 h1
   refine⟨hI',?_⟩
   unfold qh5
   simp only[qal hi,cT,jw,z6 hx,qn7 hL,h3,ixI,z6 h4,h2]
   rw[qaj (by unfold SM at hu;omega)]) hI
 rw[show((0:Int),c)=(((0:Nat):Int),c)from rfl,this,qpb]
end Go.Z
