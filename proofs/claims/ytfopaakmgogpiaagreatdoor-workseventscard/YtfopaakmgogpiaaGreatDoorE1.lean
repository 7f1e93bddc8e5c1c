/- Chapter 10, plain. -/
import Derived.Test.YtfopaakmgogpiaaGreatDoorCA
import Derived.Test.YtfopaakmgogpiaaGreatDoorG0
import Derived.Test.YtfopaakmgogpiaaGreatDoorW3
import Derived.Test.YtfopaakmgogpiaaGreatDoorW6
import Derived.Test.YtfopaakmgogpiaaGreatDoorWS
import Derived.Test.YtfopaakmgogpiaaGreatDoorW15
set_option linter.unusedVariables false
set_option linter.unusedSimpArgs false
set_option maxRecDepth 100000
namespace Go.Z
open Go Go.Abs Go.W
def ixI:Option Nat→Int
 |some k=>(k:Int)
 |none=>-1
theorem jdg {α:Type}(l:List α)(p:α→Bool)(f:Int→Option (Int⊕(Int⊕Int)))(hend:f (l.length:Int)=some (.inr (.inr (l.length:Int))))
  (hstep:∀(i:Nat) x,l[i]?=some x→i<l.length→f (i:Int)=some (if p x then .inr (.inl (i:Int))else .inl ((i+1:Nat):Int))):
  ∃d,itO f 0=some d∧(match d with | .inl k=>k | .inr _=>-1)=ixI (l.findIdx? p):=by
 have:=qsk l.length (fun i=>(i:Int)) f (fun d=>match d with | .inl k=>k | .inr _=>(-1:Int)) (fun i=>ixI (((l.drop i).findIdx? p).map (· + i))) ⟨_,hend,by rw[List.drop_eq_nil_of_le (Nat.le_refl _)];rfl⟩ (fun i hi=>by
  obtain⟨x,hx⟩:∃x,l[i]?=some x:=⟨_,List.getElem?_eq_getElem hi⟩
  have h1:=hstep i x hx hi
  simp only[qda hx,List.findIdx?_cons]
  cases hp:p x with
  |true=>
   rw[hp,if_pos rfl]at h1
   exact .inr ⟨_,h1,by simp[ixI]⟩
  |false=>
   rw[hp]at h1
   refine .inl ⟨by simpa using h1,?_⟩
   simp only[Bool.false_eq_true,if_false,Option.map_map]
   congr 1
   congr 1
   funext n
   simp only[Function.comp];omega)
 obtain⟨d,h1,h2⟩:=this
 refine⟨d,h1,?_⟩
 rw[h2]
 simp
abbrev SM:Nat:=1073741824
theorem qcw {α:Type}{l:List α}{p:α→Bool}{f:Int→Option (Int⊕(Int⊕Int))}(hl:l.length≤SM)
  (hf:∀i:Int,f i=cond (decide (i<(l.length:Int))) (jy (zz l i) fun x=>cond (p x) (some (.inr (.inl i))) (some (.inl (j8 .i64 (i+1))))) (some (.inr (.inr i)))):
  (jy (itO f 0) fun d=>match d with | .inl k=>some k | .inr _=>some (-1))=some (ixI (l.findIdx? p)):=by
 obtain⟨d,h1,h2⟩:=jdg l p f (by rw[hf,qag];rfl) (fun i x hx hi=>by
  rw[hf,qaz hi]
  simp only[cT,jy,ye hx]
  cases p x with
  |true=>rfl
  |false=>simp only[cF];rw[qax (by unfold SM at hl;omega)];rfl)
 rw[h1]
 simp only[jy]
 rw[←h2]
 cases d<;>rfl
variable {r:qc}{n:List UInt8}
theorem qrx (hl:(r.lots.getD []).length≤SM):f28 r n=some (ixI (qaj r.er n)):=by
 unfold f28 qaj
 exact qcw (p:=fun x=>decide (x.name=n)) hl fun i=>rfl
theorem qo3 (hl:(r.lots.getD []).length≤SM):f72 r n=some (ixI (qaj r.er n)):=by
 have:qyf ((r.lots.getD []).length:Int) r n=some (ixI (qaj r.er n)):=by
  unfold qyf qaj
  refine qcw (p:=fun x=>decide (x.name=n)) hl fun i=>?_
  unfold qox f131
  congr 1
  cases zz (r.lots.getD []) i<;>rfl
 unfold f72;rw[this];rfl
theorem qgu:r.er.products=(r.products.getD []).map qk.er:=rfl
theorem qh2:r.er.units=(r.units.getD []).map qe.er:=rfl
theorem qnv:qak r.er n=(r.products.getD []).findIdx? fun x=>decide (x.name=n):=by
 unfold qak;rw[qgu,List.findIdx?_map];rfl
theorem qsj:qab r.er n=(r.units.getD []).findIdx? fun x=>decide (x.name=n):=by
 unfold qab;rw[qh2,List.findIdx?_map];rfl
theorem ql1 (hl:(r.products.getD []).length≤SM):f144 r n=some (ixI (qak r.er n)):=by
 rw[qnv];unfold f144
 exact qcw (p:=fun x=>decide (x.name=n)) hl fun i=>rfl
theorem qf4 (hl:(r.products.getD []).length≤SM):f165 r n=some (ixI (qak r.er n)):=by
 have:qw2 ((r.products.getD []).length:Int) r n=some (ixI (qak r.er n)):=by
  rw[qnv];unfold qw2
  refine qcw (p:=fun x=>decide (x.name=n)) hl fun i=>?_
  unfold qoq f233
  congr 1
  cases zz (r.products.getD []) i<;>rfl
 unfold f165;rw[this];rfl
theorem qyo (hl:(r.units.getD []).length≤SM):f27 r n=some (ixI (qab r.er n)):=by
 rw[qsj];unfold f27
 exact qcw (p:=fun x=>decide (x.name=n)) hl fun i=>rfl
theorem qkv (hl:(r.units.getD []).length≤SM):f93 r n=some (ixI (qab r.er n)):=by
 have:qx0 ((r.units.getD []).length:Int) r n=some (ixI (qab r.er n)):=by
  rw[qsj];unfold qx0
  refine qcw (p:=fun x=>decide (x.name=n)) hl fun i=>?_
  unfold qpz f148
  congr 1
  cases zz (r.units.getD []) i<;>rfl
 unfold f93;rw[this];rfl
end Go.Z
namespace Go.Z
open Go Go.Abs Go.W
theorem qz7 {i:Nat}(h:i<9223372036854775807):j8 .i64 (((i+1:Nat):Int)-1)=(i:Int):=by
 have:=qax (i:=i) h
 rw[show(((i+1:Nat):Int)-1)=(i:Int) by omega]
 cases i with
 |zero=>rfl
 |succ j=>
  have:=qax (i:=j) (by omega)
  rw[show((j+1:Nat):Int)=(j:Int)+1 by omega,this];omega
variable {r:qc}{n:List UInt8}
theorem qvm {sp:jd}(h:qdm r.er n=some sp):∃k p,qak r.er n=some k∧(r.products.getD [])[k]?=some p∧p.er=sp∧p.name=n:=by
 unfold qdm at h
 cases hk:qak r.er n with
 |none=>rw[hk]at h;cases h
 |some k=>
  rw[hk]at h
  simp only[Option.bind_some,qgu,List.getElem?_map]at h
  cases hp:(r.products.getD [])[k]? with
  |none=>rw[hp]at h;cases h
  |some p=>
   rw[hp]at h
   rw[qnv]at hk
   obtain⟨x,h1,h2,_⟩:=findIdx?_get hk
   rw[hp]at h1;cases h1
   exact⟨k,p,rfl,hp,by simpa using h,of_decide_eq_true h2⟩
theorem jl4 {u:qe}{d:jf}(hP:(r.products.getD []).length≤SM)(hB:∀p∈r.products.getD [],(p.docs.getD []).length≤SM)(hd:qdh r.er u.er=some d):∃D,f134 r u=some D∧f78 r u=some D∧D.er=d:=by
 unfold qdh at hd
 cases hp:qdm r.er u.er.product with
 |none=>rw[hp]at hd;cases hd
 |some sp=>
  rw[hp]at hd
  obtain⟨k,p,h1,h2,rfl,_⟩:=qvm hp
  simp only[Option.bind_some,q81]at hd
  have hB:=hB p (List.mem_of_getElem? h2)
  split at hd
  ·rename_i hv
   obtain⟨i,hi⟩:∃i:Nat,u.version=((i+1:Nat):Int):=⟨(u.version-1).toNat,by have:1≤u.version:=hv;omega⟩
   have he:(u.er.version-1).toNat=i:=by show(u.version-1).toNat=i;omega
   rw[he]at hd
   have hd2:((p.docs.getD []).map qq.er)[i]?=some d:=hd
   rw[List.getElem?_map]at hd2
   cases hD:(p.docs.getD [])[i]? with
   |none=>rw[hD]at hd2;cases hd2
   |some D=>
    rw[hD]at hd2
    have hlt:=(List.getElem?_eq_some_iff.1 hD).1
    have hw:j8 .i64 (u.version-1)=(i:Int):=by rw[hi];exact qz7 (by unfold SM at hB;omega)
    refine⟨D,?_,?_,by simpa using hd2⟩
    ·unfold f134
     rw[qf4 hP,show qak r.er u.product=some k from h1]
     simp only[jy,ixI,ye h2,hw,ye hD]
    ·unfold f78
     rw[ql1 hP,show qak r.er u.product=some k from h1]
     simp only[jy,ixI,ye h2,hw,ye hD]
  ·cases hd
theorem qnk {u:qe}{v:Int}(hP:(r.products.getD []).length≤SM)(hd:qgq r.er u.er=some v):f140 r u=some v∧f80 r u=some v:=by
 unfold qgq at hd
 cases hp:qdm r.er u.er.product with
 |none=>rw[hp]at hd;cases hd
 |some sp=>
  rw[hp]at hd
  obtain⟨k,p,h1,h2,rfl,_⟩:=qvm hp
  have hv:v=((p.docs.getD []).length:Int):=by
   simp only[Option.map_some,Option.some.injEq]at hd
   rw[←hd]
   show((((p.docs.getD []).map qq.er).length:Nat):Int)=_
   rw[List.length_map]
  subst hv
  refine⟨?_,?_⟩
  ·unfold f140 f182
   rw[qf4 hP,show qak r.er u.product=some k from h1]
   simp only[jy,ixI,ye h2]
  ·unfold f80
   rw[ql1 hP,show qak r.er u.product=some k from h1]
   simp only[jy,ixI,ye h2]
theorem qq0 {α γ ε:Type}(g:γ→α→γ):∀(l:List α) (i:Nat) (c:γ),qyr (fun _ c x=>(.inl (g c x):γ⊕ε)) i c l=.inl (l.foldl g c)
 | [],i,c=>rfl
 |x::l,i,c=>by simp only[qyr,List.foldl_cons];exact qq0 g l (i+1) (g c x)
theorem qp2 {α γ σ δ:Type}(l:List α)(f:σ→Option (σ⊕δ))(mk:Nat→γ→σ)(g:γ→α→γ)(En:γ→δ)(c:γ)(hend:∀c,f (mk l.length c)=some (.inr (En c)))
  (hstep:∀i c x,l[i]?=some x→i<l.length→f (mk i c)=some (.inl (mk (i+1) (g c x)))):itO f (mk 0 c)=some (En (l.foldl g c)):=by
 have:=q2c (ε:=Empty) l f mk (fun _ c x=>.inl (g c x)) En (fun e=>nomatch e) (fun _ _=>True) c (fun c _=>hend c) (fun i c x hx hi _=>⟨trivial,hstep i c x hx hi⟩) trivial
 rw[this,qq0]
theorem jnb {u:qe}{t:qi}(hl:(u.results.getD []).length≤SM):f79 u t=some (qg0 u.er t):=by
 unfold f79
 have:=qp2 (u.results.getD []) (qqu u t) (fun i (c:Bool)=>(c,(i:Int))) (fun is x=>if decide (x.k=t.k)&&decide (x.a=u.version)then decide (t.a≤x.b)&&decide (x.b≤t.b)else is) (fun c=>(c,((u.results.getD []).length:Int))) false (fun c=>by unfold qqu;simp only[qag];rfl)
  (fun i c x hx hi=>by
   unfold qqu
   simp only[qaz hi,cT,jy,ye hx]
   rw[qax (by unfold SM at hl;omega)]
   by_cases h1:x.k=t.k<;>by_cases h2:x.a=u.version<;>by_cases h3:t.a≤x.b<;>simp[h1,h2,h3])
 rw[show((false,(0:Int)):Bool×Int)=(false,((0:Nat):Int))from rfl,this]
 rfl
theorem jiw {u:qe}{t:qi}(hl:(u.results.getD []).length≤SM)(hv:u.version≠-1):f136 u t=some (qg0 u.er t):=by
 unfold f136
 have:=qp2 (u.results.getD []) (qms u t) (fun i (c:qi)=>((i:Int),c.k,c.a,c.b)) (fun c x=>if decide (x.k=t.k)&&decide (x.a=u.version)then x else c) (fun c=>(((u.results.getD []).length:Int),c.k,c.a,c.b)) ⟨[],-1,0⟩ (fun c=>by unfold qms;simp only[qag];rfl)
  (fun i c x hx hi=>by
   unfold qms
   simp only[qaz hi,cT,jy,ye hx]
   rw[qax (by unfold SM at hl;omega)]
   by_cases h1:x.k=t.k<;>by_cases h2:x.a=u.version<;>simp[h1,h2])
 rw[show(((0:Int),([]:List UInt8),(-1:Int),(0:Int)):Int×List UInt8×Int×Int)=(((0:Nat):Int),[],-1,0)from rfl]
 simp only[]at this
 rw[this]
 simp only[jy]
 have key:∀(l:List qi) (c:qi) (b:Bool),(c=⟨[],-1,0⟩∧b=false∨c.a=u.version∧b=(decide (t.a≤c.b)&&decide (c.b≤t.b))) →
   (let c':=l.foldl (fun c x=>if decide (x.k=t.k)&&decide (x.a=u.version)then x else c) c
    let b':=l.foldl (fun is x=>if decide (x.k=t.k)&&decide (x.a=u.version)then decide (t.a≤x.b)&&decide (x.b≤t.b)else is) b
    c'=⟨[],-1,0⟩∧b'=false∨c'.a=u.version∧b'=(decide (t.a≤c'.b)&&decide (c'.b≤t.b))):=by
  intro l
  induction l with
  |nil=>intro c b h;exact h
  |cons x l ih=>
   intro c b h
   simp only[List.foldl_cons]
   yf ih
   by_cases h1:x.k=t.k<;>by_cases h2:x.a=u.version
   ·simp only[h1,h2,decide_true,Bool.and_self,if_true]
    right;trivial
   all_goals simpa only[h1,h2,decide_true,decide_false,Bool.and_false,Bool.false_and,Bool.and_self,Bool.false_eq_true,if_false]using h
 have k:=key (u.results.getD []) ⟨[],-1,0⟩ false (.inl ⟨rfl,rfl⟩)
 simp only at k
 show _=some ((u.results.getD []).foldl (fun is x=>if decide (x.k=t.k)&&decide (x.a=u.version)then decide (t.a≤x.b)&&decide (x.b≤t.b)else is) false)
 rcases k with⟨h1,h2⟩|⟨h1,h2⟩
 ·rw[h2,h1];rfl
 ·rw[h2]
  generalize (u.results.getD []).foldl (fun c x=>if decide (x.k=t.k)&&decide (x.a=u.version)then x else c) ⟨[],-1,0⟩=c at h1
  have:decide (c.a=-1)=false:=dF (by rw[h1];exact hv)
  simp only[this,Bool.and_false,Bool.false_and,cF]
  by_cases h3:t.a≤c.b<;>simp[h3]
end Go.Z
namespace Go.Z
open Go Go.Abs Go.W
theorem qra {α β:Type}(p:α→Bool)(g:α→β):∀l:List α,(l.flatMap fun x=>if p x then [g x]else [])=(l.filter p).map g
 | []=>rfl
 |x::l=>by
  rw[List.flatMap_cons,qra p g l,List.filter_cons]
  cases p x<;>rfl
theorem qy0 {α β:Type}{l:List α}{p:α→Bool}{g:α→β}{f:Option (List β)×Int×Bool→Option ((Option (List β)×Int×Bool)⊕(Option (List β)×Bool×Int))}(hl:l.length≤SM)
  (hend:∀o w,f (o,(l.length:Int),w)=some (.inr (o,w,(l.length:Int))))
  (hf:∀(i:Nat) x o w,l[i]?=some x→f (o,(i:Int),w)=cond (p x) (cond w (jy (apO o [g x]) fun v=>some (.inl (v,((i+1:Nat):Int),true))) (cond o.isNone (jy (apO o [g x]) fun v=>some (.inl (v,((i+1:Nat):Int),true))) none)) (some (.inl (o,((i+1:Nat):Int),w)))):
  itO f (none,0,false)=some (y7 ((l.filter p).map g),qct ((l.filter p).map g),(l.length:Int)):=by
 have:=jfc l (fun i=>(i:Int)) f (fun x=>if p x then [g x]else []) [] (fun i a=>a.length≤i) (Nat.le_refl _) (fun a=>hend _ _) (fun i x a hx hi ha=>by
  cases hp:p x with
  |true=>
   refine⟨by simp;omega,?_⟩
   rw[hf i x _ _ hx,hp]
   simp only[cT,if_true]
   rw[qgv]
   exact qfu (x:=g x) (k:=fun v=>some (Sum.inl (v,((i+1:Nat):Int),true))) (by unfold SM at hl;omega)
  |false=>
   refine⟨by simp;omega,?_⟩
   rw[hf i x _ _ hx,hp]
   simp)
 rw[qra,List.nil_append]at this
 exact this
theorem qzs {α:Type}{l:List α}{p:α→Bool}{q:α→Option Bool}{f:Option (List α)×Int×Bool→Option ((Option (List α)×Int×Bool)⊕(Option (List α)×Bool×Int))}(hl:l.length≤SM)(hq:∀x∈l,q x=some (p x))
  (hf:∀s,f s=cond (decide (s.2.1<(l.length:Int))) (jy (zz l s.2.1) fun x=>jy (q x) fun b=>cond b (cond s.2.2 (jy (apO s.1 [x]) fun v=>some (.inl (v,j8 .i64 (s.2.1+1),true))) (cond s.1.isNone (jy (apO s.1 [x]) fun v=>some (.inl (v,j8 .i64 (s.2.1+1),true))) none)) (some (.inl (s.1,j8 .i64 (s.2.1+1),s.2.2)))) (some (.inr (s.1,s.2.2,s.2.1)))):
  itO f (none,0,false)=some (y7 (l.filter p),qct (l.filter p),(l.length:Int)):=by
 have:=qy0 (l:=l) (p:=p) (g:=fun x=>x) (f:=f) hl (fun o w=>by rw[hf];simp only[qag,cF]) (fun i x o w hx=>by
  have hi:=(List.getElem?_eq_some_iff.1 hx).1
  rw[hf]
  simp only[qaz hi,cT,jy,ye hx,hq x (List.mem_of_getElem? hx)]
  rw[qax (by unfold SM at hl;omega)])
 simpa using this
theorem qsq {α β:Type}{l:List α}{g:α→β}{q:α→Option β}{f:Option (List β)×Int×Bool→Option ((Option (List β)×Int×Bool)⊕(Option (List β)×Bool×Int))}(hl:l.length≤SM)(hq:∀x∈l,q x=some (g x))
  (hf:∀s,f s=cond (decide (s.2.1<(l.length:Int))) (jy (zz l s.2.1) fun x=>jy (q x) fun b=>cond s.2.2 (jy (apO s.1 [b]) fun v=>some (.inl (v,j8 .i64 (s.2.1+1),true))) (cond s.1.isNone (jy (apO s.1 [b]) fun v=>some (.inl (v,j8 .i64 (s.2.1+1),true))) none)) (some (.inr (s.1,s.2.2,s.2.1)))):
  itO f (none,0,false)=some (y7 (l.map g),qct (l.map g),(l.length:Int)):=by
 have:=qy0 (l:=l) (p:=fun _=>true) (g:=g) (f:=f) hl (fun o w=>by rw[hf];simp only[qag,cF]) (fun i x o w hx=>by
  have hi:=(List.getElem?_eq_some_iff.1 hx).1
  rw[hf]
  simp only[qaz hi,cT,jy,ye hx,hq x (List.mem_of_getElem? hx)]
  rw[qax (by unfold SM at hl;omega)])
 rw[List.filter_eq_self.2 (fun _ _=>rfl)]at this
 exact this
variable {r:qc}{u:qe}{D:qq}
theorem q7s {α:Type}{l:List α}{p:α→Bool}(hl:l.length≤SM):(l.filter p).length≤SM:=Nat.le_trans (List.length_filter_le _ _) hl
theorem jnu (hd:f134 r u=some D)(hr:(u.results.getD []).length≤SM)(ht:(D.tests.getD []).length≤SM)(hv:u.version≠-1):∃w,f74 r u=some (y7 (qgm D.er u.er),w):=by
 unfold f74
 rw[hd]
 simp only[jy]
 have h1:f133 D.tests u=some (y7 ((D.tests.getD []).filter fun t=>!qg0 u.er t),qct ((D.tests.getD []).filter fun t=>!qg0 u.er t)):=by
  unfold f133
  rw[qzs (f:=qr9 D.tests u) (l:=D.tests.getD []) (p:=fun t=>!qg0 u.er t) (q:=fun t=>f135 t u) ht (fun x _=>by unfold f135;rw[jiw hr hv];rfl) (fun s=>rfl)]
  rfl
 rw[h1]
 simp only[]
 have h2:f137 (y7 ((D.tests.getD []).filter fun t=>!qg0 u.er t))=some (y7 (qgm D.er u.er),qct (qgm D.er u.er)):=by
  unfold f137
  rw[qsq (f:=qso (y7 ((D.tests.getD []).filter fun t=>!qg0 u.er t))) (l:=((y7 ((D.tests.getD []).filter fun t=>!qg0 u.er t)).getD [])) (g:=fun t:qi=>t.k) (q:=f138) (by rw[qae];exact q7s ht) (fun x _=>rfl) (fun s=>rfl),qae]
  rfl
 rw[h2]
 exact⟨_,rfl⟩
theorem jl0 (hd:f78 r u=some D)(hr:(u.results.getD []).length≤SM)(ht:(D.tests.getD []).length≤SM):∃w,f30 r u=some (y7 (qgm D.er u.er),w):=by
 unfold f30
 rw[hd]
 simp only[jy]
 have:=qy0 (l:=D.tests.getD []) (p:=fun t=>!qg0 u.er t) (g:=fun t:qi=>t.k) (f:=qrc u D) ht (fun o w=>by unfold qrc;simp only[qag,cF]) (fun i x o w hx=>by
  have hi:=(List.getElem?_eq_some_iff.1 hx).1
  unfold qrc
  simp only[qaz hi,cT,jy,ye hx,jnb hr]
  rw[qax (by unfold SM at ht;omega)]
  cases qg0 u.er x<;>rfl)
 rw[this]
 exact⟨_,rfl⟩
theorem qzx {n:List UInt8}{x:qj}(h:qgc r.er n=some x):∃k:Nat,qaj r.er n=some k∧(r.lots.getD [])[k]?=some x:=by
 unfold qgc at h
 cases hk:qaj r.er n with
 |none=>rw[hk]at h;cases h
 |some k=>rw[hk]at h;exact⟨k,rfl,h⟩
theorem qi3 {n:List UInt8}(h:(qaj r.er n).isSome=true):∃x,qgc r.er n=some x:=by
 unfold qgc
 cases hk:qaj r.er n with
 |none=>rw[hk]at h;cases h
 |some k=>
  obtain⟨x,h1,_⟩:=findIdx?_get hk
  exact⟨x,h1⟩
def qug (r:qv)(kind:Str)(n:Int)(x:qm):Int:=if(qgc r x.k).any (fun l=>decide (l.kind=kind))then j8 .i64 (n+x.n)else n
theorem jhz {kind:List UInt8}(hL:(r.lots.getD []).length≤SM)(hu:(u.uses.getD []).length≤SM)(hw:∀x∈u.uses.getD [],(qaj r.er x.k).isSome=true):f145 r u kind=some (qpv (j8 .i64) r.er u.er kind):=by
 unfold f145
 have:=qp2 (u.uses.getD []) (qmr r u kind) (fun i (c:Int)=>(c,(i:Int))) (qug r.er kind) (fun c=>(c,((u.uses.getD []).length:Int))) 0 (fun c=>by unfold qmr;simp only[qag];rfl)
  (fun i c x hx hi=>by
   obtain⟨y,hy⟩:=qi3 (hw x (List.mem_of_getElem? hx))
   obtain⟨k,h1,h2⟩:=qzx hy
   unfold qmr qug
   simp only[qaz hi,cT,jy,ye hx,qrx hL,h1,ixI,ye h2,hy,Option.any_some]
   rw[qax (by unfold SM at hu;omega)]
   by_cases h3:y.kind=kind<;>simp[h3])
 rw[show(((0:Int),(0:Int)):Int×Int)=((0:Int),((0:Nat):Int))from rfl,this]
 rfl
theorem q5w {σ:Type}{step:σ→qj→Int→Option σ}{g:σ→qm→σ}(I:Nat→σ→Prop)(hL:(r.lots.getD []).length≤SM)(hu:(u.uses.getD []).length≤SM)
  (hg:∀i x c,(u.uses.getD [])[i]?=some x→I i c→I (i+1) (g c x)∧∃y,qgc r.er x.k=some y∧step c y x.n=some (g c x)) (c:σ) (hI:I 0 c):itO (qjv r u step) (0,c)=some (((u.uses.getD []).length:Int),(u.uses.getD []).foldl g c):=by
 have:=q2c (ε:=Empty) (u.uses.getD []) (qjv r u step) (fun i (c:σ)=>((i:Int),c)) (fun _ c x=>.inl (g c x)) (fun c=>(((u.uses.getD []).length:Int),c)) (fun e=>nomatch e) I c (fun c _=>by unfold qjv;simp only[qag];rfl)
  (fun i c x hx hi hI=>by
   obtain⟨hI',y,h1,h2⟩:=hg i x c hx hI
   obtain⟨k,h3,h4⟩:=qzx h1
   refine⟨hI',?_⟩
   unfold qjv
   simp only[qaz hi,cT,jy,ye hx,qo3 hL,h3,ixI,ye h4,h2]
   rw[qax (by unfold SM at hu;omega)]) hI
 rw[show((0:Int),c)=(((0:Nat):Int),c)from rfl,this,qq0]
end Go.Z
