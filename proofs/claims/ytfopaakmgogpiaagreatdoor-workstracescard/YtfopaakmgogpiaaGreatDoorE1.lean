/- Chapter 10, plain. -/
import Derived.Test.YtfopaakmgogpiaaGreatDoorW15
import Derived.Test.YtfopaakmgogpiaaGreatDoorV3
set_option linter.unusedVariables false
set_option linter.unusedSimpArgs false
set_option maxRecDepth 100000
open Option renaming some→Eh,getD_some→Gb,any_some→Gi,none→Hv,bind_some→Mu
open Bool renaming false_eq_true→El,true→E5,false→E7,or_false→If,or_true→I7,and_false→Od,false_and→Oe,and_self→Og,not_true→Oi
open List renaming getElem?_eq_some_iff→Eo,mem_of_getElem?→Ev,getElem?_eq_getElem→Ga,drop_eq_nil_of_le→Gc,foldl_cons→Gh,flatMap_cons→Gl,any_cons→Gm,map_cons→Gn,nil_append→Ha,drop_zero→Hb,mem_cons_of_mem→Ht,findIdx?_cons→Ip,mem_cons_self→Iu,length_append→I6,findIdx?_map→I8,getElem?_map→I9,append_assoc→Ml,filter_cons→Mv,length_cons→My,length_map→M2,nodup_cons→Nr,all_cons→Oh
open Nat renaming le_refl→E6,lt_of_le_of_lt→Gk,le_of_lt→Gp,succ_le_succ→M1
open Sum renaming inl→Gx
namespace Go.Z
open Go Go.Abs Go.W
def dC:Option Nat→Int
 |some k=>(k:Int)
 |none=>-1
theorem jf0 {α:Type}(l:List α)(p:α→Bool)(f:Int→Option (Int⊕(Int⊕Int)))(cN:f (l.length:Int)=Eh (.inr (.inr (l.length:Int))))
  (b9:∀(i:Nat) x,l[i]?=Eh x→i<l.length→f (i:Int)=Eh (if p x then .inr (.inl (i:Int))else .inl ((i+1:Nat):Int))):
  ∃d,bj f 0=Eh d∧(match d with | .inl k=>k | .inr _=>-1)=dC (l.findIdx? p):=by
 have:=GX l.length (fun i=>(i:Int)) f (fun d=>match d with | .inl k=>k | .inr _=>(-1:Int)) (fun i=>dC (((l.drop i).findIdx? p).map (· + i))) ⟨_,cN,by rw[Gc (E6 _)];rfl⟩ (fun i hi=>by
  obtain⟨x,hx⟩:∃x,l[i]?=Eh x:=⟨_,Ga hi⟩
  have h1:=b9 i x hx hi
  simp only[uP hx,Ip]
  cases hp:p x with
  |true=>
   rw[hp,if_pos rfl]at h1
   exact .inr ⟨_,h1,by simp[dC]⟩
  |false=>
   rw[hp]at h1
   refine .inl ⟨by simpa using h1,?_⟩
   simp only[El,if_false,Option.map_map]
   congr 1
   congr 1
   funext n
   simp only[Function.comp];omega)
 obtain⟨d,h1,h2⟩:=this
 refine⟨d,h1,?_⟩
 rw[h2]
 simp
abbrev SM:Nat:=1073741824
theorem l5 {α:Type}{l:List α}{p:α→Bool}{f:Int→Option (Int⊕(Int⊕Int))}(hl:l.length≤SM)
  (hf:∀i:Int,f i=cond (decide (i<(l.length:Int))) (jx (zq l i) fun x=>cond (p x) (Eh (.inr (.inl i))) (Eh (.inl (j9 .i64 (i+1))))) (Eh (.inr (.inr i)))):
  (jx (bj f 0) fun d=>match d with | .inl k=>Eh k | .inr _=>Eh (-1))=Eh (dC (l.findIdx? p)):=by
 obtain⟨d,h1,h2⟩:=jf0 l p f (by rw[hf,fU];rfl) (fun i x hx hi=>by
  rw[hf,gH hi]
  simp only[cT,jx,yb hx]
  cases p x with
  |true=>rfl
  |false=>simp only[cond_false];rw[gj (by unfold SM at hl;omega)];rfl)
 rw[h1]
 simp only[jx]
 rw[←h2]
 cases d<;>rfl
variable {r:qc}{n:List UInt8}
theorem D0 (hl:(r.aq.getD []).length≤SM):f28 r n=Eh (dC (y9 r.er n)):=by
 unfold f28 y9
 exact l5 (p:=fun x=>decide (x.name=n)) hl fun i=>rfl
theorem xN (hl:(r.aq.getD []).length≤SM):f72 r n=Eh (dC (y9 r.er n)):=by
 have:GY ((r.aq.getD []).length:Int) r n=Eh (dC (y9 r.er n)):=by
  unfold GY y9
  refine l5 (p:=fun x=>decide (x.name=n)) hl fun i=>?_
  unfold GZ f131
  congr 1
  cases zq (r.aq.getD []) i<;>rfl
 unfold f72;rw[this];rfl
theorem xO:r.er.ae=(r.ae.getD []).map qn.er:=rfl
theorem xP:r.er.units=(r.units.getD []).map qe.er:=rfl
theorem Nx:ku r.er n=(r.ae.getD []).findIdx? fun x=>decide (x.name=n):=by
 unfold ku;rw[xO,I8];rfl
theorem U3:kh r.er n=(r.units.getD []).findIdx? fun x=>decide (x.name=n):=by
 unfold kh;rw[xP,I8];rfl
theorem D1 (hl:(r.ae.getD []).length≤SM):f144 r n=Eh (dC (ku r.er n)):=by
 rw[Nx];unfold f144
 exact l5 (p:=fun x=>decide (x.name=n)) hl fun i=>rfl
theorem uQ (hl:(r.ae.getD []).length≤SM):f165 r n=Eh (dC (ku r.er n)):=by
 have:G0 ((r.ae.getD []).length:Int) r n=Eh (dC (ku r.er n)):=by
  rw[Nx];unfold G0
  refine l5 (p:=fun x=>decide (x.name=n)) hl fun i=>?_
  unfold G1 f233
  congr 1
  cases zq (r.ae.getD []) i<;>rfl
 unfold f165;rw[this];rfl
theorem G2 (hl:(r.units.getD []).length≤SM):f27 r n=Eh (dC (kh r.er n)):=by
 rw[U3];unfold f27
 exact l5 (p:=fun x=>decide (x.name=n)) hl fun i=>rfl
theorem vT (hl:(r.units.getD []).length≤SM):f93 r n=Eh (dC (kh r.er n)):=by
 have:G3 ((r.units.getD []).length:Int) r n=Eh (dC (kh r.er n)):=by
  rw[U3];unfold G3
  refine l5 (p:=fun x=>decide (x.name=n)) hl fun i=>?_
  unfold G4 f148
  congr 1
  cases zq (r.units.getD []) i<;>rfl
 unfold f93;rw[this];rfl
end Go.Z
namespace Go.Z
open Go Go.Abs Go.W
theorem qzy {i:Nat}(h:i<9223372036854775807):j9 .i64 (((i+1:Nat):Int)-1)=(i:Int):=by
 have:=gj (i:=i) h
 rw[show(((i+1:Nat):Int)-1)=(i:Int) by omega]
 cases i with
 |zero=>rfl
 |succ j=>
  have:=gj (i:=j) (by omega)
  rw[show((j+1:Nat):Int)=(j:Int)+1 by omega,this];omega
variable {r:qc}{n:List UInt8}
theorem U4 {sp:jh}(h:ia r.er n=Eh sp):∃k p,ku r.er n=Eh k∧(r.ae.getD [])[k]?=Eh p∧p.er=sp∧p.name=n:=by
 unfold ia at h
 cases hk:ku r.er n with
 |none=>rw[hk]at h;cases h
 |some k=>
  rw[hk]at h
  simp only[Mu,xO,I9]at h
  cases hp:(r.ae.getD [])[k]? with
  |none=>rw[hp]at h;cases h
  |some p=>
   rw[hp]at h
   rw[Nx]at hk
   obtain⟨x,h1,h2,_⟩:=bG hk
   rw[hp]at h1;cases h1
   exact⟨k,p,rfl,hp,by simpa using h,of_decide_eq_true h2⟩
theorem jq8 {u:qe}{d:jj}(hP:(r.ae.getD []).length≤SM)(hB:∀p∈r.ae.getD [],(p.aO.getD []).length≤SM)(hd:gX r.er u.er=Eh d):∃D,f134 r u=Eh D∧f78 r u=Eh D∧D.er=d:=by
 unfold gX at hd
 cases hp:ia r.er u.er.product with
 |none=>rw[hp]at hd;cases hd
 |some sp=>
  rw[hp]at hd
  obtain⟨k,p,h1,h2,rfl,_⟩:=U4 hp
  simp only[Mu,D2]at hd
  have hB:=hB p (Ev h2)
  split at hd
  ·rename_i hv
   obtain⟨i,hi⟩:∃i:Nat,u.version=((i+1:Nat):Int):=⟨(u.version-1).toNat,by have:1≤u.version:=hv;omega⟩
   have he:(u.er.version-1).toNat=i:=by show(u.version-1).toNat=i;omega
   rw[he]at hd
   have oq:((p.aO.getD []).map qt.er)[i]?=Eh d:=hd
   rw[I9]at oq
   cases hD:(p.aO.getD [])[i]? with
   |none=>rw[hD]at oq;cases oq
   |some D=>
    rw[hD]at oq
    have aY:=(Eo.1 hD).1
    have hw:j9 .i64 (u.version-1)=(i:Int):=by rw[hi];exact qzy (by unfold SM at hB;omega)
    refine⟨D,?_,?_,by simpa using oq⟩
    ·unfold f134
     rw[uQ hP,show ku r.er u.product=Eh k from h1]
     simp only[jx,dC,yb h2,hw,yb hD]
    ·unfold f78
     rw[D1 hP,show ku r.er u.product=Eh k from h1]
     simp only[jx,dC,yb h2,hw,yb hD]
  ·cases hd
theorem Ny {u:qe}{v:Int}(hP:(r.ae.getD []).length≤SM)(hd:pn r.er u.er=Eh v):f140 r u=Eh v∧f80 r u=Eh v:=by
 unfold pn at hd
 cases hp:ia r.er u.er.product with
 |none=>rw[hp]at hd;cases hd
 |some sp=>
  rw[hp]at hd
  obtain⟨k,p,h1,h2,rfl,_⟩:=U4 hp
  have hv:v=((p.aO.getD []).length:Int):=by
   simp only[Option.map_some,Eh.injEq]at hd
   rw[←hd]
   show((((p.aO.getD []).map qt.er).length:Nat):Int)=_
   rw[M2]
  subst hv
  refine⟨?_,?_⟩
  ·unfold f140 f182
   rw[uQ hP,show ku r.er u.product=Eh k from h1]
   simp only[jx,dC,yb h2]
  ·unfold f80
   rw[D1 hP,show ku r.er u.product=Eh k from h1]
   simp only[jx,dC,yb h2]
theorem U5 {α γ ε:Type}(g:γ→α→γ):∀(l:List α) (i:Nat) (c:γ),DT (fun _ c x=>(.inl (g c x):γ⊕ε)) i c l=.inl (l.foldl g c)
 | [],i,c=>rfl
 |x::l,i,c=>by simp only[DT,Gh];exact U5 g l (i+1) (g c x)
theorem D3 {α γ σ δ:Type}(l:List α)(f:σ→Option (σ⊕δ))(mk:Nat→γ→σ)(g:γ→α→γ)(En:γ→δ)(c:γ)(cN:∀c,f (mk l.length c)=Eh (.inr (En c)))
  (b9:∀i c x,l[i]?=Eh x→i<l.length→f (mk i c)=Eh (.inl (mk (i+1) (g c x)))):bj f (mk 0 c)=Eh (En (l.foldl g c)):=by
 have:=q26 (ε:=Empty) l f mk (fun _ c x=>.inl (g c x)) En (fun e=>nomatch e) (fun _ _=>True) c (fun c _=>cN c) (fun i c x hx hi _=>⟨trivial,b9 i c x hx hi⟩) trivial
 rw[this,U5]
theorem joj {u:qe}{t:qi}(hl:(u.results.getD []).length≤SM):f79 u t=Eh (qS u.er t):=by
 unfold f79
 have:=D3 (u.results.getD []) (AG u t) (fun i (c:Bool)=>(c,(i:Int))) (fun is x=>if decide (x.k=t.k)&&decide (x.a=u.version)then decide (t.a≤x.b)&&decide (x.b≤t.b)else is) (fun c=>(c,((u.results.getD []).length:Int))) E7 (fun c=>by unfold AG;simp only[fU];rfl)
  (fun i c x hx hi=>by
   unfold AG
   simp only[gH hi,cT,jx,yb hx]
   rw[gj (by unfold SM at hl;omega)]
   by_cases h1:x.k=t.k<;>by_cases h2:x.a=u.version<;>by_cases h3:t.a≤x.b<;>simp[h1,h2,h3])
 rw[show((E7,(0:Int)):Bool×Int)=(E7,((0:Nat):Int))from rfl,this]
 rfl
theorem jkb {u:qe}{t:qi}(hl:(u.results.getD []).length≤SM)(hv:u.version≠-1):f136 u t=Eh (qS u.er t):=by
 unfold f136
 have:=D3 (u.results.getD []) (AH u t) (fun i (c:qi)=>((i:Int),c.k,c.a,c.b)) (fun c x=>if decide (x.k=t.k)&&decide (x.a=u.version)then x else c) (fun c=>(((u.results.getD []).length:Int),c.k,c.a,c.b)) ⟨[],-1,0⟩ (fun c=>by unfold AH;simp only[fU];rfl)
  (fun i c x hx hi=>by
   unfold AH
   simp only[gH hi,cT,jx,yb hx]
   rw[gj (by unfold SM at hl;omega)]
   by_cases h1:x.k=t.k<;>by_cases h2:x.a=u.version<;>simp[h1,h2])
 rw[show(((0:Int),([]:List UInt8),(-1:Int),(0:Int)):Int×List UInt8×Int×Int)=(((0:Nat):Int),[],-1,0)from rfl]
 simp only[]at this
 rw[this]
 simp only[jx]
 have key:∀(l:List qi) (c:qi) (b:Bool),(c=⟨[],-1,0⟩∧b=E7∨c.a=u.version∧b=(decide (t.a≤c.b)&&decide (c.b≤t.b))) →
   (let c':=l.foldl (fun c x=>if decide (x.k=t.k)&&decide (x.a=u.version)then x else c) c
    let b':=l.foldl (fun is x=>if decide (x.k=t.k)&&decide (x.a=u.version)then decide (t.a≤x.b)&&decide (x.b≤t.b)else is) b
    c'=⟨[],-1,0⟩∧b'=E7∨c'.a=u.version∧b'=(decide (t.a≤c'.b)&&decide (c'.b≤t.b))):=by
  intro l
  induction l with
  |nil=>intro c b h;exact h
  |cons x l ih=>
   intro c b h
   simp only[Gh]
   apply ih
   by_cases h1:x.k=t.k<;>by_cases h2:x.a=u.version
   ·simp only[h1,h2,decide_true,Og,if_true]
    right;trivial
   all_goals simpa only[h1,h2,decide_true,decide_false,Od,Oe,Og,El,if_false]using h
 have k:=key (u.results.getD []) ⟨[],-1,0⟩ E7 (.inl ⟨rfl,rfl⟩)
 simp only at k
 show _=Eh ((u.results.getD []).foldl (fun is x=>if decide (x.k=t.k)&&decide (x.a=u.version)then decide (t.a≤x.b)&&decide (x.b≤t.b)else is) E7)
 rcases k with⟨h1,h2⟩|⟨h1,h2⟩
 ·rw[h2,h1];rfl
 ·rw[h2]
  generalize (u.results.getD []).foldl (fun c x=>if decide (x.k=t.k)&&decide (x.a=u.version)then x else c) ⟨[],-1,0⟩=c at h1
  have:decide (c.a=-1)=E7:=dF (by rw[h1];exact hv)
  simp only[this,Od,Oe,cond_false]
  by_cases h3:t.a≤c.b<;>simp[h3]
end Go.Z
namespace Go.Z
open Go Go.Abs Go.W
theorem U6 {α β:Type}(p:α→Bool)(g:α→β):∀l:List α,(l.flatMap fun x=>if p x then [g x]else [])=(l.filter p).map g
 | []=>rfl
 |x::l=>by
  rw[Gl,U6 p g l,Mv]
  cases p x<;>rfl
theorem G5 {α β:Type}{l:List α}{p:α→Bool}{g:α→β}{f:Option (List β)×Int×Bool→Option ((Option (List β)×Int×Bool)⊕(Option (List β)×Bool×Int))}(hl:l.length≤SM)
  (cN:∀o w,f (o,(l.length:Int),w)=Eh (.inr (o,w,(l.length:Int))))
  (hf:∀(i:Nat) x o w,l[i]?=Eh x→f (o,(i:Int),w)=cond (p x) (cond w (jx (bp o [g x]) fun v=>Eh (.inl (v,((i+1:Nat):Int),E5))) (cond o.isNone (jx (bp o [g x]) fun v=>Eh (.inl (v,((i+1:Nat):Int),E5))) Hv)) (Eh (.inl (o,((i+1:Nat):Int),w)))):
  bj f (Hv,0,E7)=Eh (yg ((l.filter p).map g),gG ((l.filter p).map g),(l.length:Int)):=by
 have:=jhh l (fun i=>(i:Int)) f (fun x=>if p x then [g x]else []) [] (fun i a=>a.length≤i) (E6 _) (fun a=>cN _ _) (fun i x a hx hi ha=>by
  cases hp:p x with
  |true=>
   refine⟨by simp;omega,?_⟩
   rw[hf i x _ _ hx,hp]
   simp only[cT,if_true]
   rw[AJ]
   exact xK (x:=g x) (k:=fun v=>Eh (Gx (v,((i+1:Nat):Int),E5))) (by unfold SM at hl;omega)
  |false=>
   refine⟨by simp;omega,?_⟩
   rw[hf i x _ _ hx,hp]
   simp)
 rw[U6,Ha]at this
 exact this
theorem Nz {α:Type}{l:List α}{p:α→Bool}{q:α→Option Bool}{f:Option (List α)×Int×Bool→Option ((Option (List α)×Int×Bool)⊕(Option (List α)×Bool×Int))}(hl:l.length≤SM)(hq:∀x∈l,q x=Eh (p x))
  (hf:∀s,f s=cond (decide (s.2.1<(l.length:Int))) (jx (zq l s.2.1) fun x=>jx (q x) fun b=>cond b (cond s.2.2 (jx (bp s.1 [x]) fun v=>Eh (.inl (v,j9 .i64 (s.2.1+1),E5))) (cond s.1.isNone (jx (bp s.1 [x]) fun v=>Eh (.inl (v,j9 .i64 (s.2.1+1),E5))) Hv)) (Eh (.inl (s.1,j9 .i64 (s.2.1+1),s.2.2)))) (Eh (.inr (s.1,s.2.2,s.2.1)))):
  bj f (Hv,0,E7)=Eh (yg (l.filter p),gG (l.filter p),(l.length:Int)):=by
 have:=G5 (l:=l) (p:=p) (g:=fun x=>x) (f:=f) hl (fun o w=>by rw[hf];simp only[fU,cond_false]) (fun i x o w hx=>by
  have hi:=(Eo.1 hx).1
  rw[hf]
  simp only[gH hi,cT,jx,yb hx,hq x (Ev hx)]
  rw[gj (by unfold SM at hl;omega)])
 simpa using this
theorem G6 {α β:Type}{l:List α}{g:α→β}{q:α→Option β}{f:Option (List β)×Int×Bool→Option ((Option (List β)×Int×Bool)⊕(Option (List β)×Bool×Int))}(hl:l.length≤SM)(hq:∀x∈l,q x=Eh (g x))
  (hf:∀s,f s=cond (decide (s.2.1<(l.length:Int))) (jx (zq l s.2.1) fun x=>jx (q x) fun b=>cond s.2.2 (jx (bp s.1 [b]) fun v=>Eh (.inl (v,j9 .i64 (s.2.1+1),E5))) (cond s.1.isNone (jx (bp s.1 [b]) fun v=>Eh (.inl (v,j9 .i64 (s.2.1+1),E5))) Hv)) (Eh (.inr (s.1,s.2.2,s.2.1)))):
  bj f (Hv,0,E7)=Eh (yg (l.map g),gG (l.map g),(l.length:Int)):=by
 have:=G5 (l:=l) (p:=fun _=>E5) (g:=g) (f:=f) hl (fun o w=>by rw[hf];simp only[fU,cond_false]) (fun i x o w hx=>by
  have hi:=(Eo.1 hx).1
  rw[hf]
  simp only[gH hi,cT,jx,yb hx,hq x (Ev hx)]
  rw[gj (by unfold SM at hl;omega)])
 rw[List.filter_eq_self.2 (fun _ _=>rfl)]at this
 exact this
variable {r:qc}{u:qe}{D:qt}
theorem qws {α:Type}{l:List α}{p:α→Bool}(hl:l.length≤SM):(l.filter p).length≤SM:=Nat.le_trans (List.length_filter_le _ _) hl
theorem jb8 (hd:f134 r u=Eh D)(hr:(u.results.getD []).length≤SM)(ht:(D.aB.getD []).length≤SM)(hv:u.version≠-1):∃w,f74 r u=Eh (yg (qT D.er u.er),w):=by
 unfold f74
 rw[hd]
 simp only[jx]
 have h1:f133 D.aB u=Eh (yg ((D.aB.getD []).filter fun t=>!qS u.er t),gG ((D.aB.getD []).filter fun t=>!qS u.er t)):=by
  unfold f133
  rw[Nz (f:=G7 D.aB u) (l:=D.aB.getD []) (p:=fun t=>!qS u.er t) (q:=fun t=>f135 t u) ht (fun x _=>by unfold f135;rw[jkb hr hv];rfl) (fun s=>rfl)]
  rfl
 rw[h1]
 simp only[]
 have h2:f137 (yg ((D.aB.getD []).filter fun t=>!qS u.er t))=Eh (yg (qT D.er u.er),gG (qT D.er u.er)):=by
  unfold f137
  rw[G6 (f:=G8 (yg ((D.aB.getD []).filter fun t=>!qS u.er t))) (l:=((yg ((D.aB.getD []).filter fun t=>!qS u.er t)).getD [])) (g:=fun t:qi=>t.k) (q:=f138) (by rw[yq];exact qws ht) (fun x _=>rfl) (fun s=>rfl),yq]
  rfl
 rw[h2]
 exact⟨_,rfl⟩
theorem jb7 (hd:f78 r u=Eh D)(hr:(u.results.getD []).length≤SM)(ht:(D.aB.getD []).length≤SM):∃w,f30 r u=Eh (yg (qT D.er u.er),w):=by
 unfold f30
 rw[hd]
 simp only[jx]
 have:=G5 (l:=D.aB.getD []) (p:=fun t=>!qS u.er t) (g:=fun t:qi=>t.k) (f:=AK u D) ht (fun o w=>by unfold AK;simp only[fU,cond_false]) (fun i x o w hx=>by
  have hi:=(Eo.1 hx).1
  unfold AK
  simp only[gH hi,cT,jx,yb hx,joj hr]
  rw[gj (by unfold SM at ht;omega)]
  cases qS u.er x<;>rfl)
 rw[this]
 exact⟨_,rfl⟩
theorem U7 {n:List UInt8}{x:qj}(h:nH r.er n=Eh x):∃k:Nat,y9 r.er n=Eh k∧(r.aq.getD [])[k]?=Eh x:=by
 unfold nH at h
 cases hk:y9 r.er n with
 |none=>rw[hk]at h;cases h
 |some k=>rw[hk]at h;exact⟨k,rfl,h⟩
theorem G9 {n:List UInt8}(h:(y9 r.er n).isSome=E5):∃x,nH r.er n=Eh x:=by
 unfold nH
 cases hk:y9 r.er n with
 |none=>rw[hk]at h;cases h
 |some k=>
  obtain⟨x,h1,_⟩:=bG hk
  exact⟨x,h1⟩
def NA (r:qu)(kind:Str)(n:Int)(x:qk):Int:=if(nH r x.k).any (fun l=>decide (l.kind=kind))then j9 .i64 (n+x.n)else n
theorem jmm {kind:List UInt8}(hL:(r.aq.getD []).length≤SM)(hu:(u.uses.getD []).length≤SM)(hw:∀x∈u.uses.getD [],(y9 r.er x.k).isSome=E5):f145 r u kind=Eh (D4 (j9 .i64) r.er u.er kind):=by
 unfold f145
 have:=D3 (u.uses.getD []) (AL r u kind) (fun i (c:Int)=>(c,(i:Int))) (NA r.er kind) (fun c=>(c,((u.uses.getD []).length:Int))) 0 (fun c=>by unfold AL;simp only[fU];rfl)
  (fun i c x hx hi=>by
   obtain⟨y,hy⟩:=G9 (hw x (Ev hx))
   obtain⟨k,h1,h2⟩:=U7 hy
   unfold AL NA
   simp only[gH hi,cT,jx,yb hx,D0 hL,h1,dC,yb h2,hy,Gi]
   rw[gj (by unfold SM at hu;omega)]
   by_cases h3:y.kind=kind<;>simp[h3])
 rw[show(((0:Int),(0:Int)):Int×Int)=((0:Int),((0:Nat):Int))from rfl,this]
 rfl
theorem q5q {σ:Type}{step:σ→qj→Int→Option σ}{g:σ→qk→σ}(I:Nat→σ→Prop)(hL:(r.aq.getD []).length≤SM)(hu:(u.uses.getD []).length≤SM)
  (hg:∀i x c,(u.uses.getD [])[i]?=Eh x→I i c→I (i+1) (g c x)∧∃y,nH r.er x.k=Eh y∧step c y x.n=Eh (g c x)) (c:σ) (hI:I 0 c):bj (ot r u step) (0,c)=Eh (((u.uses.getD []).length:Int),(u.uses.getD []).foldl g c):=by
 have:=q26 (ε:=Empty) (u.uses.getD []) (ot r u step) (fun i (c:σ)=>((i:Int),c)) (fun _ c x=>.inl (g c x)) (fun c=>(((u.uses.getD []).length:Int),c)) (fun e=>nomatch e) I c (fun c _=>by unfold ot;simp only[fU];rfl)
  (fun i c x hx hi hI=>by
   obtain⟨hI',y,h1,h2⟩:=hg i x c hx hI
   obtain⟨k,h3,h4⟩:=U7 h1
   refine⟨hI',?_⟩
   unfold ot
   simp only[gH hi,cT,jx,yb hx,xN hL,h3,dC,yb h4,h2]
   rw[gj (by unfold SM at hu;omega)]) hI
 rw[show((0:Int),c)=(((0:Nat):Int),c)from rfl,this,U5]
end Go.Z
namespace Go.Z
open Go Go.Abs Go.W
variable {r:qc}{u:qe}{D:qt}
theorem q25 {k:List UInt8}{v:Int}:∀l:List (List UInt8×Int),(kI l k v).length≤l.length+1
 | []=>E6 _
 |p::l=>by
  unfold kI
  split
  ·simp
  ·simp only[My];exact M1 (q25 l)
theorem q6u {α γ:Type}{l:List α}{i:Nat}{x:α}(hx:l[i]?=Eh x)(g:γ→α→γ)(c:γ):(l.take (i+1)).foldl g c=g ((l.take i).foldl g c) x:=by
 rw[List.take_add_one,hx,List.foldl_append];rfl
theorem jl7 (hL:(r.aq.getD []).length≤SM)(hu:(u.uses.getD []).length≤SM)(hw:∀x∈u.uses.getD [],(y9 r.er x.k).isSome=E5):∃M,bj (ot r u vU) (0,[])=Eh (((u.uses.getD []).length:Int),M)∧∀kind,l4 M kind=D4 (j9 .i64) r.er u.er kind:=by
 let g:List (List UInt8×Int)→qk→List (List UInt8×Int):=fun c x=>match nH r.er x.k with
  |some y=>kI c y.kind (j9 .i64 (l4 c y.kind+x.n))
  |none=>c
 let I:Nat→List (List UInt8×Int)→Prop:=fun i M=>M.length≤i∧∀kind,l4 M kind=((u.uses.getD []).take i).foldl (NA r.er kind) 0
 have hg:∀i x c,(u.uses.getD [])[i]?=Eh x→I i c→I (i+1) (g c x)∧∃y,nH r.er x.k=Eh y∧vU c y x.n=Eh (g c x):=by
  intro i x c hx hI
  obtain⟨y,hy⟩:=G9 (hw x (Ev hx))
  have hi:=(Eo.1 hx).1
  have SL:g c x=kI c y.kind (j9 .i64 (l4 c y.kind+x.n)):=by simp only[g,hy]
  rw[SL]
  refine⟨⟨Nat.le_trans (q25 _) (M1 hI.1),fun kind=>?_⟩,y,hy,?_⟩
  ·rw[q6u hx,jhi,←hI.2 kind]
   unfold NA
   rw[hy]
   simp only[Gi]
   by_cases hk:kind=y.kind
   ·subst hk;simp
   ·have cV:¬y.kind=kind:=fun h=>hk h.symm
    simp[hk,cV]
  ·unfold vU Nw
   rw[if_pos (by have:=hI.1;unfold SM at hu;omega)]
 have:=q5q (step:=vU) (g:=g) I hL hu hg [] ⟨E6 _,fun kind=>rfl⟩
 have hI:∀(k i:Nat) (c:List (List UInt8×Int)),i+k=(u.uses.getD []).length→I i c→I (u.uses.getD []).length (((u.uses.getD []).drop i).foldl g c):=by
  intro k
  induction k with
  |zero=>
   intro i c hi hc
   have:i=(u.uses.getD []).length:=by omega
   subst this
   rw[Gc (E6 _)];exact hc
  |succ k ih=>
   intro i c hi hc
   obtain⟨x,hx⟩:∃x,(u.uses.getD [])[i]?=Eh x:=⟨_,Ga (by omega)⟩
   rw[uP hx,Gh]
   exact ih (i+1) _ (by omega) (hg i x c hx hc).1
 have h2:=hI _ 0 [] (Nat.zero_add _) ⟨E6 _,fun kind=>rfl⟩
 rw[Hb]at h2
 refine⟨_,this,fun kind=>?_⟩
 rw[h2.2 kind,List.take_length]
 rfl
theorem uR (o:Option Nat):decide (0≤dC o)=o.isSome:=by
 cases o with
 |none=>rfl
 |some k=>exact dT (by show(0:Int)≤(k:Int);omega)
theorem bY {α:Type}{p:α→Bool}{l:List α}:(l.findIdx? p).isSome=l.any p:=by rw[D5]
theorem jdo {l:Option (List qk)}{M:List (List UInt8×Int)}(hl:(l.getD []).length≤SM):Hc l M=Eh ((l.getD []).any fun n=>decide (l4 M n.k<n.n)):=by
 have:Hd l M=Eh (dC ((l.getD []).findIdx? fun n=>decide (l4 M n.k<n.n))):=by
  unfold Hd
  exact l5 (p:=fun n=>decide (l4 M n.k<n.n)) hl fun i=>rfl
 unfold Hc
 rw[this]
 simp only[jx,uR,bY]
theorem jk4 (hL:(r.aq.getD []).length≤SM)(hu:(u.uses.getD []).length≤SM)(hw:∀x∈u.uses.getD [],(y9 r.er x.k).isSome=E5)(hd:f134 r u=Eh D)(hn:(D.aF.getD []).length≤SM):f141 r u=Eh (xQ (j9 .i64) r.er D.er u.er):=by
 obtain⟨M,h1,h2⟩:=jl7 hL hu hw
 unfold f141
 rw[h1,hd]
 simp only[jx,jdo hn,Eh.injEq]
 unfold xQ
 rw[show D.er.aF=D.aF.getD []from rfl]
 induction D.aF.getD []with
 |nil=>rfl
 |cons n l ih=>
  rw[Gm,Oh,Bool.not_or,ih,h2]
  congr 1
  by_cases h:D4 (j9 .i64) r.er u.er n.k<n.n
  ·rw[dT h,dF (by omega)];rfl
  ·rw[dF h,dT (by omega)];rfl
theorem joa (hL:(r.aq.getD []).length≤SM)(hu:(u.uses.getD []).length≤SM)(hw:∀x∈u.uses.getD [],(y9 r.er x.k).isSome=E5)(hd:f78 r u=Eh D)(hn:(D.aF.getD []).length≤SM):f81 r u=Eh (xQ (j9 .i64) r.er D.er u.er):=by
 unfold f81
 rw[hd]
 simp only[jx]
 obtain⟨d,h1,h2⟩:=Nt (D.aF.getD []) (AO r u D) (fun n=>decide (n.n≤D4 (j9 .i64) r.er u.er n.k)) (fun d=>match d with | .inl _=>E7 | .inr _=>E5) ⟨.inr ((D.aF.getD []).length:Int),by unfold AO;simp only[fU];rfl,rfl⟩ (fun i x hx hi=>by
  unfold AO
  simp only[gH hi,cT,jx,yb hx,jmm hL hu hw]
  rw[gj (by unfold SM at hn;omega)]
  by_cases h:D4 (j9 .i64) r.er u.er x.k<x.n
  ·exact .inr ⟨dF (by omega),.inl (),by rw[dT h];rfl,rfl⟩
  ·exact .inl ⟨dT (by omega),by rw[dF h];rfl⟩)
 rw[h1]
 unfold xQ
 rw[show D.er.aF=D.aF.getD []from rfl,←h2]
 cases d<;>rfl
def D6 (r:qu)(us:List qk):List qj:=us.map fun x=>(nH r x.k).getD ⟨[],[],0,0,E7⟩
theorem jgd (hL:(r.aq.getD []).length≤SM)(hu:(u.uses.getD []).length≤SM)(hw:∀x∈u.uses.getD [],(y9 r.er x.k).isSome=E5):bj (ot r u xR) (0,Hv)=Eh (((u.uses.getD []).length:Int),yg (D6 r.er (u.uses.getD []))):=by
 let gx:qk→qj:=fun x=>(nH r.er x.k).getD ⟨[],[],0,0,E7⟩
 let g:Option (List qj)→qk→Option (List qj):=fun c x=>yg (c.getD []++[gx x])
 have:=q5q (step:=xR) (g:=g) (fun i c=>∃a:List qj,c=yg a∧a.length=i) hL hu (fun i x c hx hI=>by
  obtain⟨a,rfl,ha⟩:=hI
  have hi:=(Eo.1 hx).1
  obtain⟨y,hy⟩:=G9 (hw x (Ev hx))
  have hgx:gx x=y:=by simp only[gx,hy,Gb]
  refine⟨⟨a++[y],by simp only[g,hgx,yq],by simp[ha]⟩,y,hy,?_⟩
  unfold xR
  rw[qxv (by unfold SM at hu;omega)]
  simp only[g,hgx,yq]) Hv ⟨[],rfl,rfl⟩
 rw[this]
 congr 2
 have key:∀(l:List qk) (a:List qj),l.foldl g (yg a)=yg (a++l.map gx):=by
  intro l
  induction l with
  |nil=>intro a;simp
  |cons x l ih=>
   intro a
   rw[Gh,show g (yg a) x=yg (a++[gx x]) by simp only[g,yq],ih,Gn,Ml];rfl
 have:=key (u.uses.getD []) []
 rw[Ha]at this
 exact this
theorem q4u (hw:∀x∈u.uses.getD [],(y9 r.er x.k).isSome=E5):AP r.er u.er=!((D6 r.er (u.uses.getD [])).filter (·.held)).isEmpty:=by
 unfold AP D6
 rw[show u.er.uses=u.uses.getD []from rfl]
 revert hw
 generalize u.uses.getD []=us
 intro hw
 induction us with
 |nil=>rfl
 |cons x l ih=>
  obtain⟨y,hy⟩:=G9 (hw x (Iu ..))
  rw[Gm,ih (fun x hx=>hw x (Ht _ hx)),Gn,Mv,hy]
  simp only[Gi,Gb]
  cases y.held<;>rfl
theorem iN {b:Bool}{e:Int}:f53 b e=Eh (if b then e else 0):=by unfold f53;cases b<;>rfl
theorem jk7 {l:List qj}(hl:l.length≤SM):f142 (yg l)=Eh (yg (l.filter (·.held)),gG (l.filter (·.held))):=by
 unfold f142
 rw[Nz (f:=He (yg l)) (l:=(yg l).getD []) (p:=fun x:qj=>x.held) (q:=fun x=>f143 x) (by rw[yq];exact hl) (fun x _=>rfl) (fun s=>rfl),yq]
 rfl
def eN:List Int→Int
 | []=>0
 |e::l=>if e=0 then eN l else e
theorem iw {l:List Int}(hl:l.length≤SM):f51 (Eh l)=Eh (eN l):=by
 unfold f51
 have:=GX l.length (fun i=>(i:Int)) (vV (Eh l)) (fun d=>match d with | .inl k=>k | .inr _=>(0:Int)) (fun i=>eN (l.drop i)) ⟨.inr (l.length:Int),by unfold vV;simp only[Gb,fU];rfl,by rw[Gc (E6 _)];rfl⟩ (fun i hi=>by
  obtain⟨x,hx⟩:∃x,l[i]?=Eh x:=⟨_,Ga hi⟩
  unfold vV
  simp only[Gb,gH hi,cT,jx,yb hx,uP hx,eN]
  by_cases h0:x=0
  ·simp only[h0,decide_true,cT,if_true]
   rw[gj (by unfold SM at hl;omega)]
   left;constructor<;>first|rfl|trivial
  ·simp only[h0,decide_false,cond_false,if_false]
   exact .inr ⟨_,rfl,rfl⟩)
 obtain⟨d,h1,h2⟩:=this
 rw[show((0:Int))=((0:Nat):Int)from rfl,h1]
 rw[Hb]at h2
 simp only[jx]
 rw[←h2]
 cases d<;>rfl
theorem qu6 {α:Type}{l:List α}:decide (0<(((yg l).getD []).length:Int))=!l.isEmpty:=by
 rw[yq]
 cases l with
 |nil=>rfl
 |cons x l=>simp
theorem qzv {w:Int→Int}{r:qu}{u:qz}{d:jj}{v:Int}(hd:gX r u=Eh d)(hv:pn r u=Eh v):qU w r u=if u.ar then 21 else if u.version≠v then 32 else if !xQ w r d u then 20 else if !(qT d u).isEmpty then 31 else if AP r u then 34 else 0:=by
 unfold qU
 rw[hd,hv]
 cases u.ar
 ·by_cases h:u.version=v
  ·simp[h]
  ·simp[h,Ne.symm h]
 ·rfl
theorem jap {v:Int}(hP:(r.ae.getD []).length≤SM)(iJ:pn r.er u.er=Eh v)(hL:(r.aq.getD []).length≤SM)(hu:(u.uses.getD []).length≤SM)(hw:∀x∈u.uses.getD [],(y9 r.er x.k).isSome=E5)(hd:f134 r u=Eh D)(hp:gX r.er u.er=Eh D.er)(hn:(D.aF.getD []).length≤SM)(hr:(u.results.getD []).length≤SM)(ht:(D.aB.getD []).length≤SM)(hv:u.version≠-1):f75 r u=Eh (qU (j9 .i64) r.er u.er):=by
 obtain⟨w,hm⟩:=jb8 hd hr ht hv
 have hll:(D6 r.er (u.uses.getD [])).length≤SM:=by unfold D6;rw[M2];exact hu
 unfold f75
 rw[jgd hL hu hw]
 simp only[jx,iN,(Ny hP iJ).1,jk4 hL hu hw hd hn,hm,jk7 hll,qu6]
 rw[iw (by simp[SM]),qzv hp iJ,q4u hw]
 congr 1
 show eN _=if u.ar then 21 else if u.version≠v then 32 else _
 cases u.ar<;>by_cases h1:u.version=v<;>cases xQ (j9 .i64) r.er D.er u.er<;>cases (qT D.er u.er).isEmpty<;>cases ((D6 r.er (u.uses.getD [])).filter (·.held)).isEmpty<;>simp[eN,h1]
theorem jeq (hL:(r.aq.getD []).length≤SM)(hu:(u.uses.getD []).length≤SM)(hw:∀x∈u.uses.getD [],(y9 r.er x.k).isSome=E5):(jx (bj (xS r u) 0) fun d=>match d with | .inl _=>Eh (34:Int) | .inr _=>Eh 0)=Eh (if AP r.er u.er then 34 else 0):=by
 obtain⟨d,h1,h2⟩:=Nt (u.uses.getD []) (xS r u) (fun x=>!(nH r.er x.k).any (·.held)) (fun d=>match d with | .inl _=>E7 | .inr _=>E5) ⟨.inr ((u.uses.getD []).length:Int),by unfold xS;simp only[fU];rfl,rfl⟩ (fun i x hx hi=>by
  obtain⟨y,hy⟩:=G9 (hw x (Ev hx))
  obtain⟨k,h3,h4⟩:=U7 hy
  unfold xS
  simp only[gH hi,cT,jx,yb hx,D0 hL,h3,dC,yb h4,hy,Gi]
  rw[gj (by unfold SM at hu;omega)]
  cases y.held with
  |true=>exact .inr ⟨rfl,.inl (),rfl,rfl⟩
  |false=>exact .inl ⟨rfl,rfl⟩)
 rw[h1]
 have h3:AP r.er u.er=!((u.uses.getD []).all fun x=>!(nH r.er x.k).any (·.held)):=by
  unfold AP
  rw[show u.er.uses=u.uses.getD []from rfl]
  induction u.uses.getD []with
  |nil=>rfl
  |cons x l ih=>rw[Gm,Oh,ih,Bool.not_and,Bool.not_not]
 rw[h3,←h2]
 cases d<;>rfl
theorem q97 {v:Int}(hP:(r.ae.getD []).length≤SM)(iJ:pn r.er u.er=Eh v)(hL:(r.aq.getD []).length≤SM)(hu:(u.uses.getD []).length≤SM)(hw:∀x∈u.uses.getD [],(y9 r.er x.k).isSome=E5)(hd:f78 r u=Eh D)(hp:gX r.er u.er=Eh D.er)(hn:(D.aF.getD []).length≤SM)(hr:(u.results.getD []).length≤SM)(ht:(D.aB.getD []).length≤SM):f31 r u=Eh (qU (j9 .i64) r.er u.er):=by
 rw[qzv hp iJ]
 unfold f31
 cases hs:u.ar with
 |true=>rw[show u.er.ar=E5 from hs];rfl
 |false=>
  have oS:(⟨u.name,u.product,u.version,u.uses,u.results,u.partner,E7,u.aj⟩:qe)=u:=by cases u;simp only at hs;rw[hs]
  rw[show u.er.ar=E7 from hs,oS]
  obtain⟨w,hm⟩:=jb7 (r:=r) (u:=u) hd hr ht
  simp only[cond_false,jx,(Ny hP iJ).2,joa hL hu hw hd hn,hm,qu6,El,if_false]
  have hh:=jeq hL hu hw
  simp only[jx]at hh
  by_cases h1:u.version=v
  ·rw[dT h1,if_neg (show ¬u.er.version≠v from fun h=>h h1)]
   simp only[cT]
   cases xQ (j9 .i64) r.er D.er u.er
   ·rfl
   ·simp only[cT,Oi,El,if_false]
    cases (qT D.er u.er).isEmpty
    ·rfl
    ·simp only[Oi,cond_false,El,if_false]
     exact hh
  ·rw[dF h1,if_pos (show u.er.version≠v from h1)]
   rfl
end Go.Z
namespace Go.Z
open Go Go.Abs Go.W
theorem D7 {α:Type}{o:Option (List α)}{ys:List α}(h:(o.getD []).length+ys.length≤SM)(hy:ys≠[]):bp o ys=Eh (Eh (o.getD []++ys)):=by
 unfold bp D8
 rw[if_pos h]
 cases o<;>cases ys<;>first|exact absurd rfl hy|rfl
theorem AQ {α:Type}{ys:List α}(h:ys.length≤SM):bp (Eh []) ys=Eh (Eh ys):=by
 unfold bp D8
 rw[if_pos (by simpa using h)]
 cases ys<;>rfl
theorem xT {α:Type}{o:Option (List α)}{x:α}(h:(o.getD []).length<SM):(jx (cond o.isNone (Eh (Hv,E7)) (jx (bp (Eh []) (o.getD [])) fun v=>Eh (v,E5))) fun v1=>cond v1.2 (jx (bp v1.1 [x]) fun v4=>Eh v4) (cond v1.1.isNone (jx (bp v1.1 [x]) fun v7=>Eh v7) Hv))=Eh (Eh (o.getD []++[x])):=by
 cases o with
 |none=>rfl
 |some l=>
  have h':l.length<SM:=h
  simp only[Option.isNone_some,cond_false,Gb]
  rw[AQ (by omega)]
  simp only[jx,cT]
  rw[D7 (o:=Eh l) (by simp only[Gb,List.length_singleton];omega) (by simp)]
  rfl
theorem jkd {o:Option (List qj)}{x:qj}(h:(o.getD []).length<SM):f164 o x=Eh (Eh (o.getD []++[x])):=xT h
theorem jmb {o:Option (List qn)}{x:qn}(h:(o.getD []).length<SM):f166 o x=Eh (Eh (o.getD []++[x])):=xT h
theorem jl1 {o:Option (List qe)}{x:qe}(h:(o.getD []).length<SM):f183 o x=Eh (Eh (o.getD []++[x])):=xT h
theorem jm0 {o:Option (List qt)}{x:qt}(h:(o.getD []).length<SM):f180 o x=Eh (Eh (o.getD []++[x])):=xT h
theorem jlk {o:Option (List qk)}{x:qk}(h:(o.getD []).length<SM):f239 o x=Eh (Eh (o.getD []++[x])):=xT h
theorem jku {o:Option (List qi)}{x:qi}(h:(o.getD []).length<SM):f243 o x=Eh (Eh (o.getD []++[x])):=xT h
theorem jmr {o:Option (List qk)}{x:qk}(h:(o.getD []).length<SM):f250 o x=Eh (Eh (o.getD []++[x])):=xT h
theorem jkh {o:Option (List qi)}{x:qi}(h:(o.getD []).length<SM):f194 o x=Eh (Eh (o.getD []++[x])):=xT h
theorem nI {α:Type}{o:Option (List α)}{i:Nat}{x y:α}{g:α→Option α}(hl:(o.getD []).length≤SM)(hx:(o.getD [])[i]?=Eh x)(hg:g x=Eh y):fO o (i:Int) g=Eh (Eh ((o.getD []).set i y)):=by
 unfold fO
 rw[if_pos ⟨hl,by omega⟩,Int.toNat_natCast,hx]
 simp only[hg]
theorem U8 {α:Type}{o:Option (List α)}{i:Nat}{x:α}(hl:(o.getD []).length≤SM)(hx:i<(o.getD []).length):AR o (i:Int) x=Eh (Eh ((o.getD []).set i x)):=by
 unfold AR
 rw[if_pos ⟨hl,by omega,by omega⟩,Int.toNat_natCast]
theorem U9 {α:Type}{o:Option (List α)}{x:α}{p:α→Bool}{g:α→Option α}(hl:(o.getD []).length<SM)(hg:∀y,g y=Eh x):
  ∃v w,(cond (decide (0≤dC ((o.getD []).findIdx? p))) (jx (fO o (dC ((o.getD []).findIdx? p)) g) fun v4=>Eh (v4,E7)) (jx (Eh (Eh (o.getD []++[x]))) fun v6=>Eh (v6,E5)))=Eh (v,w)∧v.getD []=eR p x (o.getD []):=by
 unfold eR
 cases h:(o.getD []).findIdx? p with
 |none=>exact⟨_,_,rfl,rfl⟩
 |some k=>
  obtain⟨y,h1,_⟩:=bG h
  rw[show decide (0≤dC (Eh k))=E5 from uR (Eh k)]
  simp only[cT,dC]
  rw[nI (Gp hl) h1 (hg y)]
  exact⟨_,_,rfl,rfl⟩
theorem jl6 {o:Option (List qk)}{x:qk}{k:List UInt8}(hl:(o.getD []).length<SM):∃v w,f173 o x k=Eh (v,w)∧v.getD []=eR (cO k) x (o.getD []):=by
 unfold f173
 have:Hf o k=Eh (dC ((o.getD []).findIdx? (cO k))):=by unfold Hf;exact l5 (p:=cO k) (Gp hl) fun i=>rfl
 rw[this]
 simp only[jx]
 rw[jlk hl]
 exact U9 (p:=cO k) (g:=fun _=>Eh x) hl fun _=>rfl
theorem jkq {o:Option (List qi)}{x s:qi}(hl:(o.getD []).length<SM):∃v w,f177 o x s=Eh (v,w)∧v.getD []=eR (eg s.k) x (o.getD []):=by
 unfold f177
 have:xU o s=Eh (dC ((o.getD []).findIdx? (eg s.k))):=by unfold xU;exact l5 (p:=eg s.k) (Gp hl) fun i=>rfl
 rw[this]
 simp only[jx]
 rw[jku hl]
 exact U9 (p:=eg s.k) (g:=fun _=>Eh x) hl fun _=>rfl
theorem jk5 {o:Option (List qk)}{x:qk}{t:qj}(hl:(o.getD []).length<SM):∃v w,f191 o x t=Eh (v,w)∧v.getD []=eR (cO t.name) x (o.getD []):=by
 unfold f191
 have:f188 o t=Eh (dC ((o.getD []).findIdx? (cO t.name))):=by unfold f188;exact l5 (p:=cO t.name) (Gp hl) fun i=>rfl
 rw[this]
 simp only[jx]
 rw[jmr hl]
 exact U9 (p:=cO t.name) (g:=fun _=>Eh x) hl fun _=>rfl
theorem jlx {o:Option (List qk)}{t:qj}(hl:(o.getD []).length≤SM):f188 o t=Eh (dC ((o.getD []).findIdx? (cO t.name))):=by
 unfold f188;exact l5 (p:=cO t.name) hl fun i=>rfl
theorem jm3 {o:Option (List qk)}{k:List UInt8}(hl:(o.getD []).length≤SM):f171 o k=Eh (yg ((o.getD []).filter fun x=>!cO k x),gG ((o.getD []).filter fun x=>!cO k x)):=by
 unfold f171
 rw[Nz (f:=Hg o k) (l:=o.getD []) (p:=fun x=>!cO k x) (q:=fun x=>f172 x k) hl (fun x _=>rfl) (fun s=>rfl)]
 rfl
theorem jhd {o:Option (List qk)}{k:List UInt8}(hl:(o.getD []).length≤SM):Hh o k=Eh ((o.getD []).any (cO k)):=by
 have:Hj o k=Eh (dC ((o.getD []).findIdx? (cO k))):=by unfold Hj;exact l5 (p:=cO k) hl fun i=>rfl
 unfold Hh;rw[this];simp only[jx,uR,bY]
theorem jf2 {o:Option (List qk)}{t:qj}(hl:(o.getD []).length≤SM):Hk o t=Eh ((o.getD []).any (cO t.kind)):=by
 have:Hl o t=Eh (dC ((o.getD []).findIdx? (cO t.kind))):=by unfold Hl;exact l5 (p:=cO t.kind) hl fun i=>rfl
 unfold Hk;rw[this];simp only[jx,uR,bY]
theorem je3 {o:Option (List qi)}{s:qi}(hl:(o.getD []).length≤SM):Hm o s=Eh ((o.getD []).any (eg s.k)):=by
 have:xU o s=Eh (dC ((o.getD []).findIdx? (eg s.k))):=by unfold xU;exact l5 (p:=eg s.k) hl fun i=>rfl
 unfold Hm;rw[this];simp only[jx,uR,bY]
theorem jfc {o:Option (List qi)}{e:ql}{n:List UInt8}(hn:zq (e.names.getD []) 1=Eh n)(hl:(o.getD []).length≤SM):Hn o e=Eh ((o.getD []).any (eg n)):=by
 have:Ho o e=Eh (dC ((o.getD []).findIdx? (eg n))):=by
  unfold Ho
  refine l5 (p:=eg n) hl fun i=>?_
  unfold Hp f192
  rw[hn]
  rfl
 unfold Hn;rw[this];simp only[jx,uR,bY]
theorem Va {α β:Type}{l:List α}{h:α→List β}{q:α→Bool}{f:Option (List β)×Bool×Int×Bool→Option ((Option (List β)×Bool×Int×Bool)⊕(Option (List β)×Bool×Bool×Int))}(hh:∀x,(h x).length≤1)
  (cN:∀o b w,f (o,b,(l.length:Int),w)=Eh (.inr (o,w,b,(l.length:Int))))
  (hf:∀(i:Nat) x (a:List β) b,l[i]?=Eh x→i<l.length→a.length≤i→f (yg a,b,(i:Int),gG a)=Eh (.inl (yg (a++h x),b||q x,((i+1:Nat):Int),gG (a++h x)))):
  bj f (Hv,E7,0,E7)=Eh (yg (l.flatMap h),gG (l.flatMap h),l.any q,(l.length:Int)):=by
 have key:∀(k i:Nat),i+k=l.length→∀a b,a.length≤i→bj f (yg a,b,(i:Int),gG a)=Eh (yg (a++(l.drop i).flatMap h),gG (a++(l.drop i).flatMap h),b||(l.drop i).any q,(l.length:Int)):=by
  intro k
  induction k with
  |zero=>
   intro i hi a b _
   have:i=l.length:=by omega
   subst this
   rw[Gc (E6 _),List.flatMap_nil,List.append_nil,jO (cN _ _ _)]
   simp
  |succ k ih=>
   intro i hi a b ha
   obtain⟨x,hx⟩:∃x,l[i]?=Eh x:=⟨_,Ga (by omega)⟩
   rw[pi (hf i x a b hx (by omega) ha),ih (i+1) (by omega) _ _ (by rw[I6];have:=hh x;omega),uP hx,Gl,Ml,Gm,Bool.or_assoc]
 have:=key l.length 0 (by omega) [] E7 (E6 _)
 rw[Hb,Ha,Bool.false_or]at this
 exact this
theorem Vb {α:Type}{a:List α}{x:α}(h:a.length<SM):cond (gG a) (jx (bp (yg a) [x]) fun v=>Eh (v,E5)) (cond (yg a).isNone (jx (bp (yg a) [x]) fun v=>Eh (v,E5)) Hv)=Eh (yg (a++[x]),E5):=xK (k:=fun v=>Eh (v,E5)) h
theorem lm {α β:Type}{h:α→List β}(hh:∀x,(h x).length≤1):∀l:List α,(l.flatMap h).length≤l.length
 | []=>E6 _
 |x::l=>by rw[Gl,I6,My];have:=hh x;have:=lm hh l;omega
theorem jlb {o:Option (List qk)}{x:qk}(hl:(o.getD []).length<SM)(hk:kx (·.k) (o.getD []))(h0:0≤x.n):∃v w,f203 o x=Eh (v,w)∧v.getD []=iZ (o.getD []) x.k x.n:=by
 let h:qk→List qk:=fun y=>if cO x.k y then(if 0<x.n then [x]else [])else [y]
 have hh:∀y,(h y).length≤1:=by intro y;simp only[h];split<;>(try split)<;>simp
 have L:=Va (l:=o.getD []) (h:=h) (q:=cO x.k) (f:=AU o x) hh (fun o b w=>by unfold AU;simp only[fU];rfl) (fun i y a b hy hi ha=>by
  unfold AU
  simp only[gH hi,cT,jx,yb hy]
  rw[gj (by unfold SM at hl;omega)]
  simp only[h,cO]
  by_cases h1:y.k=x.k
  ·by_cases h2:0<x.n
   ·simp only[h1,h2,decide_true,cT,if_true,I7]
    rw[AJ]
    exact xK (x:=x) (k:=fun v=>Eh (Gx (v,E5,((i+1:Nat):Int),E5))) (by unfold SM at hl;omega)
   ·simp[h1,h2]
  ·simp only[h1,decide_false,cond_false,El,if_false,If]
   rw[AJ]
   exact xK (x:=y) (k:=fun v=>Eh (Gx (v,b,((i+1:Nat):Int),E5))) (by unfold SM at hl;omega))
 unfold f203
 rw[L]
 simp only[jx]
 have hlen:((o.getD []).flatMap h).length<SM:=Gk (lm hh _) hl
 by_cases hn:x.n=0
 ·have hp:decide (0<x.n)=E7:=by rw[hn];rfl
  have hf:(o.getD []).flatMap h=(o.getD []).filter fun y=>!cO x.k y:=by
   rw[show h=fun y=>if(!cO x.k y)then [id y]else [] by funext y;simp only[h,hn];cases cO x.k y<;>rfl,U6,List.map_id]
  unfold iZ
  rw[if_pos hn,hp,←hf]
  cases (o.getD []).any (cO x.k)<;>exact⟨_,_,rfl,yq _⟩
 ·have hp:decide (0<x.n)=E5:=dT (by omega)
  have hf:(o.getD []).flatMap h=(o.getD []).map fun y=>if cO x.k y then x else y:=by
   rw[←Nu]
   congr 1
   funext y
   have:0<x.n:=by omega
   simp only[h,this,if_true]
   cases cO x.k y<;>rfl
  have ul:=qzo (key:=fun y:qk=>y.k) (k:=x.k) (x:=x) hk
  unfold iZ
  rw[if_neg hn,hp,show(⟨x.k,x.n⟩:qk)=x from rfl,show eR (cO x.k) x (o.getD [])=D9 (cO x.k) x (o.getD [])from ul.symm]
  unfold D9
  rw[←hf]
  cases ha:(o.getD []).any (cO x.k)with
  |true=>exact⟨_,_,rfl,by rw[yq];simp⟩
  |false=>
   simp only[cond_false,cT,El,if_false]
   have:=Vb (x:=x) hlen
   simp only[jx]at this
   rw[this]
   exact⟨_,_,rfl,yq _⟩
theorem jkk {o:Option (List qi)}{x:qi}(hl:(o.getD []).length<SM)(hk:kx (·.k) (o.getD [])):∃v w,f204 o x=Eh (v,w)∧v.getD []=eR (eg x.k) x (o.getD []):=by
 let h:qi→List qi:=fun y=>if eg x.k y then [x]else [y]
 have hh:∀y,(h y).length≤1:=by intro y;simp only[h];split<;>simp
 have L:=Va (l:=o.getD []) (h:=h) (q:=eg x.k) (f:=AV o x) hh (fun o b w=>by unfold AV;simp only[fU];rfl) (fun i y a b hy hi ha=>by
  unfold AV
  simp only[gH hi,cT,jx,yb hy]
  rw[gj (by unfold SM at hl;omega)]
  simp only[h,eg]
  by_cases h1:y.k=x.k
  ·simp only[h1,decide_true,cT,if_true,I7]
   rw[AJ]
   exact xK (x:=x) (k:=fun v=>Eh (Gx (v,E5,((i+1:Nat):Int),E5))) (by unfold SM at hl;omega)
  ·simp only[h1,decide_false,cond_false,El,if_false,If]
   rw[AJ]
   exact xK (x:=y) (k:=fun v=>Eh (Gx (v,b,((i+1:Nat):Int),E5))) (by unfold SM at hl;omega))
 unfold f204
 rw[L]
 simp only[jx]
 have hlen:((o.getD []).flatMap h).length<SM:=Gk (lm hh _) hl
 have hf:(o.getD []).flatMap h=(o.getD []).map fun y=>if eg x.k y then x else y:=by
  rw[←Nu]
  congr 1
  funext y
  simp only[h]
  cases eg x.k y<;>rfl
 have ul:=qzo (key:=fun y:qi=>y.k) (k:=x.k) (x:=x) hk
 rw[show eR (eg x.k) x (o.getD [])=D9 (eg x.k) x (o.getD [])from ul.symm]
 unfold D9
 rw[←hf]
 cases ha:(o.getD []).any (eg x.k)with
 |true=>exact⟨_,_,rfl,by rw[yq];simp⟩
 |false=>
  simp only[cond_false,El,if_false]
  have:=Vb (x:=x) hlen
  simp only[jx]at this
  rw[this]
  exact⟨_,_,rfl,yq _⟩
theorem qzk {α:Type}{f:α→α}:∀ {l:List α},(∀x∈l,f x=x)→l.map f=l
 | [],_=>rfl
 |x::l,h=>by rw[Gn,h x (Iu ..),qzk fun y hy=>h y (Ht _ hy)]
theorem q5s {k:List UInt8}{F:qk→qk}:∀ {l:List qk},kx (·.k) l→(l.map fun y=>if cO k y then F y else y)=(match l.findIdx? (cO k)with
  |some i=>(match l[i]? with
   |some x=>l.set i (F x)
   |none=>l)
  |none=>l)
 | [],_=>rfl
 |y::l,h=>by
  have h':kx (·.k) l:=(Nr.1 h).2
  have hn:¬y.k∈l.map (·.k):=(Nr.1 h).1
  rw[Gn,Ip]
  cases hy:cO k y with
  |true=>
   have hk:y.k=k:=of_decide_eq_true hy
   simp only[if_true]
   rw[qzk fun x hx=>by
    have:cO k x=E7:=dF fun hxk=>hn (by rw[hk,←hxk];exact List.mem_map_of_mem hx)
    rw[this];rfl]
   rfl
  |false=>
   simp only[El,if_false]
   rw[q5s h']
   cases hi:l.findIdx? (cO k)with
   |none=>rfl
   |some i=>
    obtain⟨x,h1,_⟩:=bG hi
    simp[h1]
theorem jln {o:Option (List qk)}{k:List UInt8}{n:Int}(hl:(o.getD []).length<SM)(hk:kx (·.k) (o.getD [])):∃v w,f252 o k n=Eh (v,w)∧v.getD []=l6 (j9 .i64) (o.getD []) k n:=by
 let h:qk→List qk:=fun y=>if cO k y then [⟨y.k,j9 .i64 (y.n+n)⟩]else [y]
 have hh:∀y,(h y).length≤1:=by intro y;simp only[h];split<;>simp
 have L:=Va (l:=o.getD []) (h:=h) (q:=cO k) (f:=AW o k n) hh (fun o b w=>by unfold AW;simp only[fU];rfl) (fun i y a b hy hi ha=>by
  unfold AW
  simp only[gH hi,cT,jx,yb hy]
  rw[gj (by unfold SM at hl;omega)]
  simp only[h,cO]
  by_cases h1:y.k=k
  ·simp only[h1,decide_true,cT,if_true,I7]
   rw[AJ]
   exact xK (x:=(⟨k,j9 .i64 (y.n+n)⟩:qk)) (k:=fun v=>Eh (Gx (v,E5,((i+1:Nat):Int),E5))) (by unfold SM at hl;omega)
  ·simp only[h1,decide_false,cond_false,El,if_false,If]
   rw[AJ]
   exact xK (x:=y) (k:=fun v=>Eh (Gx (v,b,((i+1:Nat):Int),E5))) (by unfold SM at hl;omega))
 unfold f252
 rw[L]
 simp only[jx]
 have hlen:((o.getD []).flatMap h).length<SM:=Gk (lm hh _) hl
 have hf:(o.getD []).flatMap h=(o.getD []).map fun y=>if cO k y then(⟨k,j9 .i64 (n+y.n)⟩:qk)else y:=by
  rw[←Nu]
  congr 1
  funext y
  simp only[h]
  cases hy:cO k y with
  |false=>rfl
  |true=>rw[show y.k=k from of_decide_eq_true hy,Int.add_comm];rfl
 rw[q5s hk]at hf
 unfold l6
 cases hi:(o.getD []).findIdx? (cO k)with
 |some i=>
  obtain⟨x,h1,_⟩:=bG hi
  have ha:(o.getD []).any (cO k)=E5:=by rw[D5,hi];rfl
  rw[hi]at hf
  simp only[h1]at hf ⊢
  rw[ha,hf]
  exact⟨_,_,rfl,yq _⟩
 |none=>
  have ha:(o.getD []).any (cO k)=E7:=by rw[D5,hi];rfl
  rw[hi]at hf
  simp only at hf ⊢
  rw[ha]
  have:=Vb (x:=(⟨k,n⟩:qk)) hlen
  simp only[jx]at this
  simp only[cond_false]
  rw[this,hf]
  exact⟨_,_,rfl,yq _⟩
end Go.Z
