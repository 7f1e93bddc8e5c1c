/- Chapter 10, plain. -/
import Derived.Test.YtfopaakmgogpiaaGreatDoorCA
import Derived.Test.YtfopaakmgogpiaaGreatDoorG0
import Derived.Test.YtfopaakmgogpiaaGreatDoorW3
import Derived.Test.YtfopaakmgogpiaaGreatDoorW6
import Derived.Test.YtfopaakmgogpiaaGreatDoorWS
import Derived.Test.YtfopaakmgogpiaaGreatDoorW15
set_option linter.unusedVariables false
set_option linter.unusedSimpArgs false
set_option maxRecDepth 100000
open Option renaming some→Ef,bind_some→E9
open List renaming getElem?_eq_some_iff→E0,mem_of_getElem?→E1,findIdx?_map→E6,getElem?_map→E7,foldl_cons→Gb
open Bool renaming false→E3,false_eq_true→E4,true→Ga,and_false→Gc,false_and→Gd,and_self→Ge
namespace Go.Z
open Go Go.Abs Go.W
def ec:Option Nat→Int
 |some k=>(k:Int)
 |none=>-1
theorem jhm {α:Type}(l:List α)(p:α→Bool)(f:Int→Option (Int⊕(Int⊕Int)))(cN:f (l.length:Int)=Ef (.inr (.inr (l.length:Int))))
  (b9:∀(i:Nat) x,l[i]?=Ef x→i<l.length→f (i:Int)=Ef (if p x then .inr (.inl (i:Int))else .inl ((i+1:Nat):Int))):
  ∃d,bf f 0=Ef d∧(match d with | .inl k=>k | .inr _=>-1)=ec (l.findIdx? p):=by
 have:=GJ l.length (fun i=>(i:Int)) f (fun d=>match d with | .inl k=>k | .inr _=>(-1:Int)) (fun i=>ec (((l.drop i).findIdx? p).map (· + i))) ⟨_,cN,by rw[List.drop_eq_nil_of_le (Nat.le_refl _)];rfl⟩ (fun i hi=>by
  obtain⟨x,hx⟩:∃x,l[i]?=Ef x:=⟨_,List.getElem?_eq_getElem hi⟩
  have h1:=b9 i x hx hi
  simp only[qN hx,List.findIdx?_cons]
  cases hp:p x with
  |true=>
   rw[hp,if_pos rfl]at h1
   exact .inr ⟨_,h1,by simp[ec]⟩
  |false=>
   rw[hp]at h1
   refine .inl ⟨by simpa using h1,?_⟩
   simp only[E4,if_false,Option.map_map]
   congr 1
   congr 1
   funext n
   simp only[Function.comp];omega)
 obtain⟨d,h1,h2⟩:=this
 refine⟨d,h1,?_⟩
 rw[h2]
 simp
abbrev SM:Nat:=1073741824
theorem mV {α:Type}{l:List α}{p:α→Bool}{f:Int→Option (Int⊕(Int⊕Int))}(hl:l.length≤SM)
  (hf:∀i:Int,f i=cond (decide (i<(l.length:Int))) (jw (zo l i) fun x=>cond (p x) (Ef (.inr (.inl i))) (Ef (.inl (j6 .i64 (i+1))))) (Ef (.inr (.inr i)))):
  (jw (bf f 0) fun d=>match d with | .inl k=>Ef k | .inr _=>Ef (-1))=Ef (ec (l.findIdx? p)):=by
 obtain⟨d,h1,h2⟩:=jhm l p f (by rw[hf,kw];rfl) (fun i x hx hi=>by
  rw[hf,fA hi]
  simp only[cT,jw,z6 hx]
  cases p x with
  |true=>rfl
  |false=>simp only[cond_false];rw[il (by unfold SM at hl;omega)];rfl)
 rw[h1]
 simp only[jw]
 rw[←h2]
 cases d<;>rfl
variable {r:qc}{n:List UInt8}
theorem GK (hl:(r.au.getD []).length≤SM):f28 r n=Ef (ec (ku r.er n)):=by
 unfold f28 ku
 exact mV (p:=fun x=>decide (x.name=n)) hl fun i=>rfl
theorem DU (hl:(r.au.getD []).length≤SM):f72 r n=Ef (ec (ku r.er n)):=by
 have:GL ((r.au.getD []).length:Int) r n=Ef (ec (ku r.er n)):=by
  unfold GL ku
  refine mV (p:=fun x=>decide (x.name=n)) hl fun i=>?_
  unfold GM f131
  congr 1
  cases zo (r.au.getD []) i<;>rfl
 unfold f72;rw[this];rfl
theorem xB:r.er.ae=(r.ae.getD []).map qi.er:=rfl
theorem Av:r.er.units=(r.units.getD []).map qf.er:=rfl
theorem Nn:kq r.er n=(r.ae.getD []).findIdx? fun x=>decide (x.name=n):=by
 unfold kq;rw[xB,E6];rfl
theorem U5:kl r.er n=(r.units.getD []).findIdx? fun x=>decide (x.name=n):=by
 unfold kl;rw[Av,E6];rfl
theorem DV (hl:(r.ae.getD []).length≤SM):f144 r n=Ef (ec (kq r.er n)):=by
 rw[Nn];unfold f144
 exact mV (p:=fun x=>decide (x.name=n)) hl fun i=>rfl
theorem uI (hl:(r.ae.getD []).length≤SM):f165 r n=Ef (ec (kq r.er n)):=by
 have:GN ((r.ae.getD []).length:Int) r n=Ef (ec (kq r.er n)):=by
  rw[Nn];unfold GN
  refine mV (p:=fun x=>decide (x.name=n)) hl fun i=>?_
  unfold GO f233
  congr 1
  cases zo (r.ae.getD []) i<;>rfl
 unfold f165;rw[this];rfl
theorem Np (hl:(r.units.getD []).length≤SM):f27 r n=Ef (ec (kl r.er n)):=by
 rw[U5];unfold f27
 exact mV (p:=fun x=>decide (x.name=n)) hl fun i=>rfl
theorem xC (hl:(r.units.getD []).length≤SM):f93 r n=Ef (ec (kl r.er n)):=by
 have:GQ ((r.units.getD []).length:Int) r n=Ef (ec (kl r.er n)):=by
  rw[U5];unfold GQ
  refine mV (p:=fun x=>decide (x.name=n)) hl fun i=>?_
  unfold GR f148
  congr 1
  cases zo (r.units.getD []) i<;>rfl
 unfold f93;rw[this];rfl
end Go.Z
namespace Go.Z
open Go Go.Abs Go.W
theorem qz6 {i:Nat}(h:i<9223372036854775807):j6 .i64 (((i+1:Nat):Int)-1)=(i:Int):=by
 have:=il (i:=i) h
 rw[show(((i+1:Nat):Int)-1)=(i:Int) by omega]
 cases i with
 |zero=>rfl
 |succ j=>
  have:=il (i:=j) (by omega)
  rw[show((j+1:Nat):Int)=(j:Int)+1 by omega,this];omega
variable {r:qc}{n:List UInt8}
theorem U6 {sp:jd}(h:hM r.er n=Ef sp):∃k p,kq r.er n=Ef k∧(r.ae.getD [])[k]?=Ef p∧p.er=sp∧p.name=n:=by
 unfold hM at h
 cases hk:kq r.er n with
 |none=>rw[hk]at h;cases h
 |some k=>
  rw[hk]at h
  simp only[E9,xB,E7]at h
  cases hp:(r.ae.getD [])[k]? with
  |none=>rw[hp]at h;cases h
  |some p=>
   rw[hp]at h
   rw[Nn]at hk
   obtain⟨x,h1,h2,_⟩:=bI hk
   rw[hp]at h1;cases h1
   exact⟨k,p,rfl,hp,by simpa using h,of_decide_eq_true h2⟩
theorem jr6 {u:qf}{d:jg}(hP:(r.ae.getD []).length≤SM)(hB:∀p∈r.ae.getD [],(p.aH.getD []).length≤SM)(hd:gU r.er u.er=Ef d):∃D,f134 r u=Ef D∧f78 r u=Ef D∧D.er=d:=by
 unfold gU at hd
 cases hp:hM r.er u.er.product with
 |none=>rw[hp]at hd;cases hd
 |some sp=>
  rw[hp]at hd
  obtain⟨k,p,h1,h2,rfl,_⟩:=U6 hp
  simp only[E9,DW]at hd
  have hB:=hB p (E1 h2)
  split at hd
  ·rename_i hv
   obtain⟨i,hi⟩:∃i:Nat,u.version=((i+1:Nat):Int):=⟨(u.version-1).toNat,by have:1≤u.version:=hv;omega⟩
   have he:(u.er.version-1).toNat=i:=by show(u.version-1).toNat=i;omega
   rw[he]at hd
   have ox:((p.aH.getD []).map qr.er)[i]?=Ef d:=hd
   rw[E7]at ox
   cases hD:(p.aH.getD [])[i]? with
   |none=>rw[hD]at ox;cases ox
   |some D=>
    rw[hD]at ox
    have aY:=(E0.1 hD).1
    have hw:j6 .i64 (u.version-1)=(i:Int):=by rw[hi];exact qz6 (by unfold SM at hB;omega)
    refine⟨D,?_,?_,by simpa using ox⟩
    ·unfold f134
     rw[uI hP,show kq r.er u.product=Ef k from h1]
     simp only[jw,ec,z6 h2,hw,z6 hD]
    ·unfold f78
     rw[DV hP,show kq r.er u.product=Ef k from h1]
     simp only[jw,ec,z6 h2,hw,z6 hD]
  ·cases hd
theorem Nq {u:qf}{v:Int}(hP:(r.ae.getD []).length≤SM)(hd:pv r.er u.er=Ef v):f140 r u=Ef v∧f80 r u=Ef v:=by
 unfold pv at hd
 cases hp:hM r.er u.er.product with
 |none=>rw[hp]at hd;cases hd
 |some sp=>
  rw[hp]at hd
  obtain⟨k,p,h1,h2,rfl,_⟩:=U6 hp
  have hv:v=((p.aH.getD []).length:Int):=by
   simp only[Option.map_some,Ef.injEq]at hd
   rw[←hd]
   show((((p.aH.getD []).map qr.er).length:Nat):Int)=_
   rw[List.length_map]
  subst hv
  refine⟨?_,?_⟩
  ·unfold f140 f182
   rw[uI hP,show kq r.er u.product=Ef k from h1]
   simp only[jw,ec,z6 h2]
  ·unfold f80
   rw[DV hP,show kq r.er u.product=Ef k from h1]
   simp only[jw,ec,z6 h2]
theorem U7 {α γ ε:Type}(g:γ→α→γ):∀(l:List α) (i:Nat) (c:γ),DP (fun _ c x=>(.inl (g c x):γ⊕ε)) i c l=.inl (l.foldl g c)
 | [],i,c=>rfl
 |x::l,i,c=>by simp only[DP,Gb];exact U7 g l (i+1) (g c x)
theorem GU {α γ σ δ:Type}(l:List α)(f:σ→Option (σ⊕δ))(mk:Nat→γ→σ)(g:γ→α→γ)(En:γ→δ)(c:γ)(cN:∀c,f (mk l.length c)=Ef (.inr (En c)))
  (b9:∀i c x,l[i]?=Ef x→i<l.length→f (mk i c)=Ef (.inl (mk (i+1) (g c x)))):bf f (mk 0 c)=Ef (En (l.foldl g c)):=by
 have:=q2k (ε:=Empty) l f mk (fun _ c x=>.inl (g c x)) En (fun e=>nomatch e) (fun _ _=>True) c (fun c _=>cN c) (fun i c x hx hi _=>⟨trivial,b9 i c x hx hi⟩) trivial
 rw[this,U7]
theorem joy {u:qf}{t:qj}(hl:(u.results.getD []).length≤SM):f79 u t=Ef (qP u.er t):=by
 unfold f79
 have:=GU (u.results.getD []) (Aw u t) (fun i (c:Bool)=>(c,(i:Int))) (fun is x=>if decide (x.k=t.k)&&decide (x.a=u.version)then decide (t.a≤x.b)&&decide (x.b≤t.b)else is) (fun c=>(c,((u.results.getD []).length:Int))) E3 (fun c=>by unfold Aw;simp only[kw];rfl)
  (fun i c x hx hi=>by
   unfold Aw
   simp only[fA hi,cT,jw,z6 hx]
   rw[il (by unfold SM at hl;omega)]
   by_cases h1:x.k=t.k<;>by_cases h2:x.a=u.version<;>by_cases h3:t.a≤x.b<;>simp[h1,h2,h3])
 rw[show((E3,(0:Int)):Bool×Int)=(E3,((0:Nat):Int))from rfl,this]
 rfl
theorem jl9 {u:qf}{t:qj}(hl:(u.results.getD []).length≤SM)(hv:u.version≠-1):f136 u t=Ef (qP u.er t):=by
 unfold f136
 have:=GU (u.results.getD []) (Ax u t) (fun i (c:qj)=>((i:Int),c.k,c.a,c.b)) (fun c x=>if decide (x.k=t.k)&&decide (x.a=u.version)then x else c) (fun c=>(((u.results.getD []).length:Int),c.k,c.a,c.b)) ⟨[],-1,0⟩ (fun c=>by unfold Ax;simp only[kw];rfl)
  (fun i c x hx hi=>by
   unfold Ax
   simp only[fA hi,cT,jw,z6 hx]
   rw[il (by unfold SM at hl;omega)]
   by_cases h1:x.k=t.k<;>by_cases h2:x.a=u.version<;>simp[h1,h2])
 rw[show(((0:Int),([]:List UInt8),(-1:Int),(0:Int)):Int×List UInt8×Int×Int)=(((0:Nat):Int),[],-1,0)from rfl]
 simp only[]at this
 rw[this]
 simp only[jw]
 have key:∀(l:List qj) (c:qj) (b:Bool),(c=⟨[],-1,0⟩∧b=E3∨c.a=u.version∧b=(decide (t.a≤c.b)&&decide (c.b≤t.b))) →
   (let c':=l.foldl (fun c x=>if decide (x.k=t.k)&&decide (x.a=u.version)then x else c) c
    let b':=l.foldl (fun is x=>if decide (x.k=t.k)&&decide (x.a=u.version)then decide (t.a≤x.b)&&decide (x.b≤t.b)else is) b
    c'=⟨[],-1,0⟩∧b'=E3∨c'.a=u.version∧b'=(decide (t.a≤c'.b)&&decide (c'.b≤t.b))):=by
  intro l
  induction l with
  |nil=>intro c b h;exact h
  |cons x l ih=>
   intro c b h
   simp only[Gb]
   apply ih
   by_cases h1:x.k=t.k<;>by_cases h2:x.a=u.version
   ·simp only[h1,h2,decide_true,Ge,if_true]
    right;trivial
   all_goals simpa only[h1,h2,decide_true,decide_false,Gc,Gd,Ge,E4,if_false]using h
 have k:=key (u.results.getD []) ⟨[],-1,0⟩ E3 (.inl ⟨rfl,rfl⟩)
 simp only at k
 show _=Ef ((u.results.getD []).foldl (fun is x=>if decide (x.k=t.k)&&decide (x.a=u.version)then decide (t.a≤x.b)&&decide (x.b≤t.b)else is) E3)
 rcases k with⟨h1,h2⟩|⟨h1,h2⟩
 ·rw[h2,h1];rfl
 ·rw[h2]
  generalize (u.results.getD []).foldl (fun c x=>if decide (x.k=t.k)&&decide (x.a=u.version)then x else c) ⟨[],-1,0⟩=c at h1
  have:decide (c.a=-1)=E3:=dF (by rw[h1];exact hv)
  simp only[this,Gc,Gd,cond_false]
  by_cases h3:t.a≤c.b<;>simp[h3]
end Go.Z
namespace Go.Z
open Go Go.Abs Go.W
theorem U8 {α β:Type}(p:α→Bool)(g:α→β):∀l:List α,(l.flatMap fun x=>if p x then [g x]else [])=(l.filter p).map g
 | []=>rfl
 |x::l=>by
  rw[List.flatMap_cons,U8 p g l,List.filter_cons]
  cases p x<;>rfl
theorem U9 {α β:Type}{l:List α}{p:α→Bool}{g:α→β}{f:Option (List β)×Int×Bool→Option ((Option (List β)×Int×Bool)⊕(Option (List β)×Bool×Int))}(hl:l.length≤SM)
  (cN:∀o w,f (o,(l.length:Int),w)=Ef (.inr (o,w,(l.length:Int))))
  (hf:∀(i:Nat) x o w,l[i]?=Ef x→f (o,(i:Int),w)=cond (p x) (cond w (jw (bh o [g x]) fun v=>Ef (.inl (v,((i+1:Nat):Int),Ga))) (cond o.isNone (jw (bh o [g x]) fun v=>Ef (.inl (v,((i+1:Nat):Int),Ga))) none)) (Ef (.inl (o,((i+1:Nat):Int),w)))):
  bf f (none,0,E3)=Ef (yq ((l.filter p).map g),fR ((l.filter p).map g),(l.length:Int)):=by
 have:=jdk l (fun i=>(i:Int)) f (fun x=>if p x then [g x]else []) [] (fun i a=>a.length≤i) (Nat.le_refl _) (fun a=>cN _ _) (fun i x a hx hi ha=>by
  cases hp:p x with
  |true=>
   refine⟨by simp;omega,?_⟩
   rw[hf i x _ _ hx,hp]
   simp only[cT,if_true]
   rw[Ay]
   exact vI (x:=g x) (k:=fun v=>Ef (Sum.inl (v,((i+1:Nat):Int),Ga))) (by unfold SM at hl;omega)
  |false=>
   refine⟨by simp;omega,?_⟩
   rw[hf i x _ _ hx,hp]
   simp)
 rw[U8,List.nil_append]at this
 exact this
theorem Va {α:Type}{l:List α}{p:α→Bool}{q:α→Option Bool}{f:Option (List α)×Int×Bool→Option ((Option (List α)×Int×Bool)⊕(Option (List α)×Bool×Int))}(hl:l.length≤SM)(hq:∀x∈l,q x=Ef (p x))
  (hf:∀s,f s=cond (decide (s.2.1<(l.length:Int))) (jw (zo l s.2.1) fun x=>jw (q x) fun b=>cond b (cond s.2.2 (jw (bh s.1 [x]) fun v=>Ef (.inl (v,j6 .i64 (s.2.1+1),Ga))) (cond s.1.isNone (jw (bh s.1 [x]) fun v=>Ef (.inl (v,j6 .i64 (s.2.1+1),Ga))) none)) (Ef (.inl (s.1,j6 .i64 (s.2.1+1),s.2.2)))) (Ef (.inr (s.1,s.2.2,s.2.1)))):
  bf f (none,0,E3)=Ef (yq (l.filter p),fR (l.filter p),(l.length:Int)):=by
 have:=U9 (l:=l) (p:=p) (g:=fun x=>x) (f:=f) hl (fun o w=>by rw[hf];simp only[kw,cond_false]) (fun i x o w hx=>by
  have hi:=(E0.1 hx).1
  rw[hf]
  simp only[fA hi,cT,jw,z6 hx,hq x (E1 hx)]
  rw[il (by unfold SM at hl;omega)])
 simpa using this
theorem Vb {α β:Type}{l:List α}{g:α→β}{q:α→Option β}{f:Option (List β)×Int×Bool→Option ((Option (List β)×Int×Bool)⊕(Option (List β)×Bool×Int))}(hl:l.length≤SM)(hq:∀x∈l,q x=Ef (g x))
  (hf:∀s,f s=cond (decide (s.2.1<(l.length:Int))) (jw (zo l s.2.1) fun x=>jw (q x) fun b=>cond s.2.2 (jw (bh s.1 [b]) fun v=>Ef (.inl (v,j6 .i64 (s.2.1+1),Ga))) (cond s.1.isNone (jw (bh s.1 [b]) fun v=>Ef (.inl (v,j6 .i64 (s.2.1+1),Ga))) none)) (Ef (.inr (s.1,s.2.2,s.2.1)))):
  bf f (none,0,E3)=Ef (yq (l.map g),fR (l.map g),(l.length:Int)):=by
 have:=U9 (l:=l) (p:=fun _=>Ga) (g:=g) (f:=f) hl (fun o w=>by rw[hf];simp only[kw,cond_false]) (fun i x o w hx=>by
  have hi:=(E0.1 hx).1
  rw[hf]
  simp only[fA hi,cT,jw,z6 hx,hq x (E1 hx)]
  rw[il (by unfold SM at hl;omega)])
 rw[List.filter_eq_self.2 (fun _ _=>rfl)]at this
 exact this
variable {r:qc}{u:qf}{D:qr}
theorem q9j {α:Type}{l:List α}{p:α→Bool}(hl:l.length≤SM):(l.filter p).length≤SM:=Nat.le_trans (List.length_filter_le _ _) hl
theorem jrn (hd:f134 r u=Ef D)(hr:(u.results.getD []).length≤SM)(ht:(D.aw.getD []).length≤SM)(hv:u.version≠-1):∃w,f74 r u=Ef (yq (xD D.er u.er),w):=by
 unfold f74
 rw[hd]
 simp only[jw]
 have h1:f133 D.aw u=Ef (yq ((D.aw.getD []).filter fun t=>!qP u.er t),fR ((D.aw.getD []).filter fun t=>!qP u.er t)):=by
  unfold f133
  rw[Va (f:=GV D.aw u) (l:=D.aw.getD []) (p:=fun t=>!qP u.er t) (q:=fun t=>f135 t u) ht (fun x _=>by unfold f135;rw[jl9 hr hv];rfl) (fun s=>rfl)]
  rfl
 rw[h1]
 simp only[]
 have h2:f137 (yq ((D.aw.getD []).filter fun t=>!qP u.er t))=Ef (yq (xD D.er u.er),fR (xD D.er u.er)):=by
  unfold f137
  rw[Vb (f:=GX (yq ((D.aw.getD []).filter fun t=>!qP u.er t))) (l:=((yq ((D.aw.getD []).filter fun t=>!qP u.er t)).getD [])) (g:=fun t:qj=>t.k) (q:=f138) (by rw[kn];exact q9j ht) (fun x _=>rfl) (fun s=>rfl),kn]
  rfl
 rw[h2]
 exact⟨_,rfl⟩
theorem jtb (hd:f78 r u=Ef D)(hr:(u.results.getD []).length≤SM)(ht:(D.aw.getD []).length≤SM):∃w,f30 r u=Ef (yq (xD D.er u.er),w):=by
 unfold f30
 rw[hd]
 simp only[jw]
 have:=U9 (l:=D.aw.getD []) (p:=fun t=>!qP u.er t) (g:=fun t:qj=>t.k) (f:=Az u D) ht (fun o w=>by unfold Az;simp only[kw,cond_false]) (fun i x o w hx=>by
  have hi:=(E0.1 hx).1
  unfold Az
  simp only[fA hi,cT,jw,z6 hx,joy hr]
  rw[il (by unfold SM at ht;omega)]
  cases qP u.er x<;>rfl)
 rw[this]
 exact⟨_,rfl⟩
theorem Vc {n:List UInt8}{x:qk}(h:nO r.er n=Ef x):∃k:Nat,ku r.er n=Ef k∧(r.au.getD [])[k]?=Ef x:=by
 unfold nO at h
 cases hk:ku r.er n with
 |none=>rw[hk]at h;cases h
 |some k=>rw[hk]at h;exact⟨k,rfl,h⟩
theorem GY {n:List UInt8}(h:(ku r.er n).isSome=Ga):∃x,nO r.er n=Ef x:=by
 unfold nO
 cases hk:ku r.er n with
 |none=>rw[hk]at h;cases h
 |some k=>
  obtain⟨x,h1,_⟩:=bI hk
  exact⟨x,h1⟩
def Nr (r:qu)(kind:Str)(n:Int)(x:qm):Int:=if(nO r x.k).any (fun l=>decide (l.kind=kind))then j6 .i64 (n+x.n)else n
theorem jle {kind:List UInt8}(hL:(r.au.getD []).length≤SM)(hu:(u.uses.getD []).length≤SM)(hw:∀x∈u.uses.getD [],(ku r.er x.k).isSome=Ga):f145 r u kind=Ef (DX (j6 .i64) r.er u.er kind):=by
 unfold f145
 have:=GU (u.uses.getD []) (AA r u kind) (fun i (c:Int)=>(c,(i:Int))) (Nr r.er kind) (fun c=>(c,((u.uses.getD []).length:Int))) 0 (fun c=>by unfold AA;simp only[kw];rfl)
  (fun i c x hx hi=>by
   obtain⟨y,hy⟩:=GY (hw x (E1 hx))
   obtain⟨k,h1,h2⟩:=Vc hy
   unfold AA Nr
   simp only[fA hi,cT,jw,z6 hx,GK hL,h1,ec,z6 h2,hy,Option.any_some]
   rw[il (by unfold SM at hu;omega)]
   by_cases h3:y.kind=kind<;>simp[h3])
 rw[show(((0:Int),(0:Int)):Int×Int)=((0:Int),((0:Nat):Int))from rfl,this]
 rfl
theorem q6x {σ:Type}{step:σ→qk→Int→Option σ}{g:σ→qm→σ}(I:Nat→σ→Prop)(hL:(r.au.getD []).length≤SM)(hu:(u.uses.getD []).length≤SM)
  (hg:∀i x c,(u.uses.getD [])[i]?=Ef x→I i c→I (i+1) (g c x)∧∃y,nO r.er x.k=Ef y∧step c y x.n=Ef (g c x)) (c:σ) (hI:I 0 c):bf (oy r u step) (0,c)=Ef (((u.uses.getD []).length:Int),(u.uses.getD []).foldl g c):=by
 have:=q2k (ε:=Empty) (u.uses.getD []) (oy r u step) (fun i (c:σ)=>((i:Int),c)) (fun _ c x=>.inl (g c x)) (fun c=>(((u.uses.getD []).length:Int),c)) (fun e=>nomatch e) I c (fun c _=>by unfold oy;simp only[kw];rfl)
  (fun i c x hx hi hI=>by
   obtain⟨hI',y,h1,h2⟩:=hg i x c hx hI
   obtain⟨k,h3,h4⟩:=Vc h1
   refine⟨hI',?_⟩
   unfold oy
   simp only[fA hi,cT,jw,z6 hx,DU hL,h3,ec,z6 h4,h2]
   rw[il (by unfold SM at hu;omega)]) hI
 rw[show((0:Int),c)=(((0:Nat):Int),c)from rfl,this,U7]
end Go.Z
