/- Chapter 10, plain. -/
import Derived.Test.YtfopaakmgogpiaaGreatDoorW15
import Derived.Test.YtfopaakmgogpiaaGreatDoorV3
set_option maxRecDepth 100000
open Option renaming some→E1,getD_some→Gn,any_some→G2,none→Mw,bind_some→R6
open Bool renaming false_eq_true→E2,true→E6,false→Gl,or_false→Mx,or_true→N1,and_false→Sp,false_and→Ss,and_self→St,not_true→Sy
open List renaming getElem?_eq_some_iff→E3,mem_of_getElem?→E4,getElem?_eq_getElem→Gm,drop_eq_nil_of_le→Gp,foldl_cons→Gq,flatMap_cons→Hb,any_cons→Hd,map_cons→H7,nil_append→Mm,drop_zero→Mn,mem_cons_of_mem→Mr,findIdx?_cons→Mz,mem_cons_self→Nh,length_append→N0,findIdx?_map→N2,getElem?_map→N3,append_assoc→N4,filter_cons→Sb,length_cons→Sd,length_map→Sk,nodup_cons→Sn,all_cons→Sx
open Nat renaming le_refl→Gk,lt_of_le_of_lt→Ha,le_of_lt→If,succ_le_succ→Sg
open Sum renaming inl→Md
namespace Go.Z
open Go Go.Abs Go.W
def dY:Option Nat→Int
 |some k=>(k:Int)
 |none=>-1
theorem jf1 {α:Type}(l:List α)(p:α→Bool)(f:Int→Option (Int⊕(Int⊕Int)))(cM:f (l.length:Int)=E1 (.inr (.inr (l.length:Int))))
  (bU:∀(i:Nat) x,l[i]?=E1 x→i<l.length→f (i:Int)=E1 (if p x then .inr (.inl (i:Int))else .inl ((i+1:Nat):Int))):
  ∃d,bf f 0=E1 d∧(match d with | .inl k=>k | .inr _=>-1)=dY (l.findIdx? p):=by
 have:=Gs l.length (fun i=>(i:Int)) f (fun d=>match d with | .inl k=>k | .inr _=>(-1:Int)) (fun i=>dY (((l.drop i).findIdx? p).map (· + i))) ⟨_,cM,by rw[Gp (Gk _)];rfl⟩ (fun i hi=>by
  obtain⟨x,hx⟩:∃x,l[i]?=E1 x:=⟨_,Gm hi⟩
  have h1:=bU i x hx hi
  simp only[oW hx,Mz]
  cases hp:p x with
  |true=>
   rw[hp,if_pos rfl]at h1
   exact .inr ⟨_,h1,by simp[dY]⟩
  |false=>
   rw[hp]at h1
   refine .inl ⟨by simpa using h1,?_⟩
   simp only[E2,if_false,Option.map_map]
   congr 1
   congr 1
   funext n
   simp only[Function.comp];omega)
 obtain⟨d,h1,h2⟩:=this
 refine⟨d,h1,?_⟩
 rw[h2]
 simp
abbrev SM:Nat:=1073741824
theorem mQ {α:Type}{l:List α}{p:α→Bool}{f:Int→Option (Int⊕(Int⊕Int))}(hl:l.length≤SM)
  (hf:∀i:Int,f i=cond (decide (i<(l.length:Int))) (jx (zp l i) fun x=>cond (p x) (E1 (.inr (.inl i))) (E1 (.inl (j9 .i64 (i+1))))) (E1 (.inr (.inr i)))):
  (jx (bf f 0) fun d=>match d with | .inl k=>E1 k | .inr _=>E1 (-1))=E1 (dY (l.findIdx? p)):=by
 obtain⟨d,h1,h2⟩:=jf1 l p f (by rw[hf,kr];rfl) (fun i x hx hi=>by
  rw[hf,eV hi]
  simp only[cT,jx,z7 hx]
  cases p x with
  |true=>rfl
  |false=>simp only[cond_false];rw[il (by unfold SM at hl;omega)];rfl)
 rw[h1]
 simp only[jx]
 rw[←h2]
 cases d<;>rfl
variable {r:qc}{n:List UInt8}
theorem Gt (hl:(r.au.getD []).length≤SM):f28 r n=E1 (dY (ku r.er n)):=by
 unfold f28 ku
 exact mQ (p:=fun x=>decide (x.name=n)) hl fun i=>rfl
theorem DF (hl:(r.au.getD []).length≤SM):f72 r n=E1 (dY (ku r.er n)):=by
 have:Gu ((r.au.getD []).length:Int) r n=E1 (dY (ku r.er n)):=by
  unfold Gu ku
  refine mQ (p:=fun x=>decide (x.name=n)) hl fun i=>?_
  unfold Gv f131
  congr 1
  cases zp (r.au.getD []) i<;>rfl
 unfold f72;rw[this];rfl
theorem xj:r.er.ae=(r.ae.getD []).map qi.er:=rfl
theorem Ae:r.er.units=(r.units.getD []).map qe.er:=rfl
theorem Nq:kq r.er n=(r.ae.getD []).findIdx? fun x=>decide (x.name=n):=by
 unfold kq;rw[xj,N2];rfl
theorem U4:km r.er n=(r.units.getD []).findIdx? fun x=>decide (x.name=n):=by
 unfold km;rw[Ae,N2];rfl
theorem DG (hl:(r.ae.getD []).length≤SM):f144 r n=E1 (dY (kq r.er n)):=by
 rw[Nq];unfold f144
 exact mQ (p:=fun x=>decide (x.name=n)) hl fun i=>rfl
theorem uC (hl:(r.ae.getD []).length≤SM):f165 r n=E1 (dY (kq r.er n)):=by
 have:Gw ((r.ae.getD []).length:Int) r n=E1 (dY (kq r.er n)):=by
  rw[Nq];unfold Gw
  refine mQ (p:=fun x=>decide (x.name=n)) hl fun i=>?_
  unfold Gx f233
  congr 1
  cases zp (r.ae.getD []) i<;>rfl
 unfold f165;rw[this];rfl
theorem Nr (hl:(r.units.getD []).length≤SM):f27 r n=E1 (dY (km r.er n)):=by
 rw[U4];unfold f27
 exact mQ (p:=fun x=>decide (x.name=n)) hl fun i=>rfl
theorem xk (hl:(r.units.getD []).length≤SM):f93 r n=E1 (dY (km r.er n)):=by
 have:Gy ((r.units.getD []).length:Int) r n=E1 (dY (km r.er n)):=by
  rw[U4];unfold Gy
  refine mQ (p:=fun x=>decide (x.name=n)) hl fun i=>?_
  unfold Gz f148
  congr 1
  cases zp (r.units.getD []) i<;>rfl
 unfold f93;rw[this];rfl
end Go.Z
namespace Go.Z
open Go Go.Abs Go.W
theorem q0i {i:Nat}(h:i<9223372036854775807):j9 .i64 (((i+1:Nat):Int)-1)=(i:Int):=by
 have:=il (i:=i) h
 rw[show(((i+1:Nat):Int)-1)=(i:Int) by omega]
 cases i with
 |zero=>rfl
 |succ j=>
  have:=il (i:=j) (by omega)
  rw[show((j+1:Nat):Int)=(j:Int)+1 by omega,this];omega
variable {r:qc}{n:List UInt8}
theorem U5 {sp:jf}(h:hH r.er n=E1 sp):∃k p,kq r.er n=E1 k∧(r.ae.getD [])[k]?=E1 p∧p.er=sp∧p.name=n:=by
 unfold hH at h
 cases hk:kq r.er n with
 |none=>rw[hk]at h;cases h
 |some k=>
  rw[hk]at h
  simp only[R6,xj,N3]at h
  cases hp:(r.ae.getD [])[k]? with
  |none=>rw[hp]at h;cases h
  |some p=>
   rw[hp]at h
   rw[Nq]at hk
   obtain⟨x,h1,h2,_⟩:=bG hk
   rw[hp]at h1;cases h1
   exact⟨k,p,rfl,hp,by simpa using h,of_decide_eq_true h2⟩
theorem jtd {u:qe}{d:jg}(hP:(r.ae.getD []).length≤SM)(hB:∀p∈r.ae.getD [],(p.aH.getD []).length≤SM)(hd:gR r.er u.er=E1 d):∃D,f134 r u=E1 D∧f78 r u=E1 D∧D.er=d:=by
 unfold gR at hd
 cases hp:hH r.er u.er.product with
 |none=>rw[hp]at hd;cases hd
 |some sp=>
  rw[hp]at hd
  obtain⟨k,p,h1,h2,rfl,_⟩:=U5 hp
  simp only[R6,DH]at hd
  have hB:=hB p (E4 h2)
  split at hd
  ·rename_i hv
   obtain⟨i,hi⟩:∃i:Nat,u.version=((i+1:Nat):Int):=⟨(u.version-1).toNat,by have:1≤u.version:=hv;omega⟩
   have he:(u.er.version-1).toNat=i:=by show(u.version-1).toNat=i;omega
   rw[he]at hd
   have oe:((p.aH.getD []).map qr.er)[i]?=E1 d:=hd
   rw[N3]at oe
   cases hD:(p.aH.getD [])[i]? with
   |none=>rw[hD]at oe;cases oe
   |some D=>
    rw[hD]at oe
    have aX:=(E3.1 hD).1
    have hw:j9 .i64 (u.version-1)=(i:Int):=by rw[hi];exact q0i (by unfold SM at hB;omega)
    refine⟨D,?_,?_,by simpa using oe⟩
    ·unfold f134
     rw[uC hP,show kq r.er u.product=E1 k from h1]
     simp only[jx,dY,z7 h2,hw,z7 hD]
    ·unfold f78
     rw[DG hP,show kq r.er u.product=E1 k from h1]
     simp only[jx,dY,z7 h2,hw,z7 hD]
  ·cases hd
theorem Ns {u:qe}{v:Int}(hP:(r.ae.getD []).length≤SM)(hd:oZ r.er u.er=E1 v):f140 r u=E1 v∧f80 r u=E1 v:=by
 unfold oZ at hd
 cases hp:hH r.er u.er.product with
 |none=>rw[hp]at hd;cases hd
 |some sp=>
  rw[hp]at hd
  obtain⟨k,p,h1,h2,rfl,_⟩:=U5 hp
  have hv:v=((p.aH.getD []).length:Int):=by
   simp only[Option.map_some,E1.injEq]at hd
   rw[←hd]
   show((((p.aH.getD []).map qr.er).length:Nat):Int)=_
   rw[Sk]
  subst hv
  refine⟨?_,?_⟩
  ·unfold f140 f182
   rw[uC hP,show kq r.er u.product=E1 k from h1]
   simp only[jx,dY,z7 h2]
  ·unfold f80
   rw[DG hP,show kq r.er u.product=E1 k from h1]
   simp only[jx,dY,z7 h2]
theorem U6 {α γ ε:Type}(g:γ→α→γ):∀(l:List α) (i:Nat) (c:γ),Dz (fun _ c x=>(.inl (g c x):γ⊕ε)) i c l=.inl (l.foldl g c)
 | [],i,c=>rfl
 |x::l,i,c=>by simp only[Dz,Gq];exact U6 g l (i+1) (g c x)
theorem GD {α γ σ δ:Type}(l:List α)(f:σ→Option (σ⊕δ))(mk:Nat→γ→σ)(g:γ→α→γ)(En:γ→δ)(c:γ)(cM:∀c,f (mk l.length c)=E1 (.inr (En c)))
  (bU:∀i c x,l[i]?=E1 x→i<l.length→f (mk i c)=E1 (.inl (mk (i+1) (g c x)))):bf f (mk 0 c)=E1 (En (l.foldl g c)):=by
 have:=q2n (ε:=Empty) l f mk (fun _ c x=>.inl (g c x)) En (fun e=>nomatch e) (fun _ _=>True) c (fun c _=>cM c) (fun i c x hx hi _=>⟨trivial,bU i c x hx hi⟩) trivial
 rw[this,U6]
theorem jp5 {u:qe}{t:qk}(hl:(u.results.getD []).length≤SM):f79 u t=E1 (qI u.er t):=by
 unfold f79
 have:=GD (u.results.getD []) (Af u t) (fun i (c:Bool)=>(c,(i:Int))) (fun is x=>if decide (x.k=t.k)&&decide (x.a=u.version)then decide (t.a≤x.b)&&decide (x.b≤t.b)else is) (fun c=>(c,((u.results.getD []).length:Int))) Gl (fun c=>by unfold Af;simp only[kr];rfl)
  (fun i c x hx hi=>by
   unfold Af
   simp only[eV hi,cT,jx,z7 hx]
   rw[il (by unfold SM at hl;omega)]
   by_cases h1:x.k=t.k<;>by_cases h2:x.a=u.version<;>by_cases h3:t.a≤x.b<;>simp[h1,h2,h3])
 rw[show((Gl,(0:Int)):Bool×Int)=(Gl,((0:Nat):Int))from rfl,this]
 rfl
theorem jmn {u:qe}{t:qk}(hl:(u.results.getD []).length≤SM)(hv:u.version≠-1):f136 u t=E1 (qI u.er t):=by
 unfold f136
 have:=GD (u.results.getD []) (Ag u t) (fun i (c:qk)=>((i:Int),c.k,c.a,c.b)) (fun c x=>if decide (x.k=t.k)&&decide (x.a=u.version)then x else c) (fun c=>(((u.results.getD []).length:Int),c.k,c.a,c.b)) ⟨[],-1,0⟩ (fun c=>by unfold Ag;simp only[kr];rfl)
  (fun i c x hx hi=>by
   unfold Ag
   simp only[eV hi,cT,jx,z7 hx]
   rw[il (by unfold SM at hl;omega)]
   by_cases h1:x.k=t.k<;>by_cases h2:x.a=u.version<;>simp[h1,h2])
 rw[show(((0:Int),([]:List UInt8),(-1:Int),(0:Int)):Int×List UInt8×Int×Int)=(((0:Nat):Int),[],-1,0)from rfl]
 simp only[]at this
 rw[this]
 simp only[jx]
 have key:∀(l:List qk) (c:qk) (b:Bool),(c=⟨[],-1,0⟩∧b=Gl∨c.a=u.version∧b=(decide (t.a≤c.b)&&decide (c.b≤t.b))) →
   (let c':=l.foldl (fun c x=>if decide (x.k=t.k)&&decide (x.a=u.version)then x else c) c
    let b':=l.foldl (fun is x=>if decide (x.k=t.k)&&decide (x.a=u.version)then decide (t.a≤x.b)&&decide (x.b≤t.b)else is) b
    c'=⟨[],-1,0⟩∧b'=Gl∨c'.a=u.version∧b'=(decide (t.a≤c'.b)&&decide (c'.b≤t.b))):=by
  intro l
  induction l with
  |nil=>intro c b h;exact h
  |cons x l ih=>
   intro c b h
   simp only[Gq]
   apply ih
   by_cases h1:x.k=t.k<;>by_cases h2:x.a=u.version
   ·simp only[h1,h2,decide_true,St,if_true]
    right;trivial
   all_goals simpa only[h1,h2,decide_true,decide_false,Sp,Ss,St,E2,if_false]using h
 have k:=key (u.results.getD []) ⟨[],-1,0⟩ Gl (.inl ⟨rfl,rfl⟩)
 simp only at k
 show _=E1 ((u.results.getD []).foldl (fun is x=>if decide (x.k=t.k)&&decide (x.a=u.version)then decide (t.a≤x.b)&&decide (x.b≤t.b)else is) Gl)
 rcases k with⟨h1,h2⟩|⟨h1,h2⟩
 ·rw[h2,h1];rfl
 ·rw[h2]
  generalize (u.results.getD []).foldl (fun c x=>if decide (x.k=t.k)&&decide (x.a=u.version)then x else c) ⟨[],-1,0⟩=c at h1
  have:decide (c.a=-1)=Gl:=dF (by rw[h1];exact hv)
  simp only[this,Sp,Ss,cond_false]
  by_cases h3:t.a≤c.b<;>simp[h3]
end Go.Z
namespace Go.Z
open Go Go.Abs Go.W
theorem U7 {α β:Type}(p:α→Bool)(g:α→β):∀l:List α,(l.flatMap fun x=>if p x then [g x]else [])=(l.filter p).map g
 | []=>rfl
 |x::l=>by
  rw[Hb,U7 p g l,Sb]
  cases p x<;>rfl
theorem U8 {α β:Type}{l:List α}{p:α→Bool}{g:α→β}{f:Option (List β)×Int×Bool→Option ((Option (List β)×Int×Bool)⊕(Option (List β)×Bool×Int))}(hl:l.length≤SM)
  (cM:∀o w,f (o,(l.length:Int),w)=E1 (.inr (o,w,(l.length:Int))))
  (hf:∀(i:Nat) x o w,l[i]?=E1 x→f (o,(i:Int),w)=cond (p x) (cond w (jx (bg o [g x]) fun v=>E1 (.inl (v,((i+1:Nat):Int),E6))) (cond o.isNone (jx (bg o [g x]) fun v=>E1 (.inl (v,((i+1:Nat):Int),E6))) Mw)) (E1 (.inl (o,((i+1:Nat):Int),w)))):
  bf f (Mw,0,Gl)=E1 (yp ((l.filter p).map g),fK ((l.filter p).map g),(l.length:Int)):=by
 have:=jgm l (fun i=>(i:Int)) f (fun x=>if p x then [g x]else []) [] (fun i a=>a.length≤i) (Gk _) (fun a=>cM _ _) (fun i x a hx hi ha=>by
  cases hp:p x with
  |true=>
   refine⟨by simp;omega,?_⟩
   rw[hf i x _ _ hx,hp]
   simp only[cT,if_true]
   rw[Ah]
   exact vw (x:=g x) (k:=fun v=>E1 (Md (v,((i+1:Nat):Int),E6))) (by unfold SM at hl;omega)
  |false=>
   refine⟨by simp;omega,?_⟩
   rw[hf i x _ _ hx,hp]
   simp)
 rw[U7,Mm]at this
 exact this
theorem Nt {α:Type}{l:List α}{p:α→Bool}{q:α→Option Bool}{f:Option (List α)×Int×Bool→Option ((Option (List α)×Int×Bool)⊕(Option (List α)×Bool×Int))}(hl:l.length≤SM)(hq:∀x∈l,q x=E1 (p x))
  (hf:∀s,f s=cond (decide (s.2.1<(l.length:Int))) (jx (zp l s.2.1) fun x=>jx (q x) fun b=>cond b (cond s.2.2 (jx (bg s.1 [x]) fun v=>E1 (.inl (v,j9 .i64 (s.2.1+1),E6))) (cond s.1.isNone (jx (bg s.1 [x]) fun v=>E1 (.inl (v,j9 .i64 (s.2.1+1),E6))) Mw)) (E1 (.inl (s.1,j9 .i64 (s.2.1+1),s.2.2)))) (E1 (.inr (s.1,s.2.2,s.2.1)))):
  bf f (Mw,0,Gl)=E1 (yp (l.filter p),fK (l.filter p),(l.length:Int)):=by
 have:=U8 (l:=l) (p:=p) (g:=fun x=>x) (f:=f) hl (fun o w=>by rw[hf];simp only[kr,cond_false]) (fun i x o w hx=>by
  have hi:=(E3.1 hx).1
  rw[hf]
  simp only[eV hi,cT,jx,z7 hx,hq x (E4 hx)]
  rw[il (by unfold SM at hl;omega)])
 simpa using this
theorem U9 {α β:Type}{l:List α}{g:α→β}{q:α→Option β}{f:Option (List β)×Int×Bool→Option ((Option (List β)×Int×Bool)⊕(Option (List β)×Bool×Int))}(hl:l.length≤SM)(hq:∀x∈l,q x=E1 (g x))
  (hf:∀s,f s=cond (decide (s.2.1<(l.length:Int))) (jx (zp l s.2.1) fun x=>jx (q x) fun b=>cond s.2.2 (jx (bg s.1 [b]) fun v=>E1 (.inl (v,j9 .i64 (s.2.1+1),E6))) (cond s.1.isNone (jx (bg s.1 [b]) fun v=>E1 (.inl (v,j9 .i64 (s.2.1+1),E6))) Mw)) (E1 (.inr (s.1,s.2.2,s.2.1)))):
  bf f (Mw,0,Gl)=E1 (yp (l.map g),fK (l.map g),(l.length:Int)):=by
 have:=U8 (l:=l) (p:=fun _=>E6) (g:=g) (f:=f) hl (fun o w=>by rw[hf];simp only[kr,cond_false]) (fun i x o w hx=>by
  have hi:=(E3.1 hx).1
  rw[hf]
  simp only[eV hi,cT,jx,z7 hx,hq x (E4 hx)]
  rw[il (by unfold SM at hl;omega)])
 rw[List.filter_eq_self.2 (fun _ _=>rfl)]at this
 exact this
variable {r:qc}{u:qe}{D:qr}
theorem jar {α:Type}{l:List α}{p:α→Bool}(hl:l.length≤SM):(l.filter p).length≤SM:=Nat.le_trans (List.length_filter_le _ _) hl
theorem juw (hd:f134 r u=E1 D)(hr:(u.results.getD []).length≤SM)(ht:(D.aw.getD []).length≤SM)(hv:u.version≠-1):∃w,f74 r u=E1 (yp (xl D.er u.er),w):=by
 unfold f74
 rw[hd]
 simp only[jx]
 have h1:f133 D.aw u=E1 (yp ((D.aw.getD []).filter fun t=>!qI u.er t),fK ((D.aw.getD []).filter fun t=>!qI u.er t)):=by
  unfold f133
  rw[Nt (f:=GF D.aw u) (l:=D.aw.getD []) (p:=fun t=>!qI u.er t) (q:=fun t=>f135 t u) ht (fun x _=>by unfold f135;rw[jmn hr hv];rfl) (fun s=>rfl)]
  rfl
 rw[h1]
 simp only[]
 have h2:f137 (yp ((D.aw.getD []).filter fun t=>!qI u.er t))=E1 (yp (xl D.er u.er),fK (xl D.er u.er)):=by
  unfold f137
  rw[U9 (f:=GG (yp ((D.aw.getD []).filter fun t=>!qI u.er t))) (l:=((yp ((D.aw.getD []).filter fun t=>!qI u.er t)).getD [])) (g:=fun t:qk=>t.k) (q:=f138) (by rw[kj];exact jar ht) (fun x _=>rfl) (fun s=>rfl),kj]
  rfl
 rw[h2]
 exact⟨_,rfl⟩
theorem js8 (hd:f78 r u=E1 D)(hr:(u.results.getD []).length≤SM)(ht:(D.aw.getD []).length≤SM):∃w,f30 r u=E1 (yp (xl D.er u.er),w):=by
 unfold f30
 rw[hd]
 simp only[jx]
 have:=U8 (l:=D.aw.getD []) (p:=fun t=>!qI u.er t) (g:=fun t:qk=>t.k) (f:=Ai u D) ht (fun o w=>by unfold Ai;simp only[kr,cond_false]) (fun i x o w hx=>by
  have hi:=(E3.1 hx).1
  unfold Ai
  simp only[eV hi,cT,jx,z7 hx,jp5 hr]
  rw[il (by unfold SM at ht;omega)]
  cases qI u.er x<;>rfl)
 rw[this]
 exact⟨_,rfl⟩
theorem Va {n:List UInt8}{x:qj}(h:nF r.er n=E1 x):∃k:Nat,ku r.er n=E1 k∧(r.au.getD [])[k]?=E1 x:=by
 unfold nF at h
 cases hk:ku r.er n with
 |none=>rw[hk]at h;cases h
 |some k=>rw[hk]at h;exact⟨k,rfl,h⟩
theorem GH {n:List UInt8}(h:(ku r.er n).isSome=E6):∃x,nF r.er n=E1 x:=by
 unfold nF
 cases hk:ku r.er n with
 |none=>rw[hk]at h;cases h
 |some k=>
  obtain⟨x,h1,_⟩:=bG hk
  exact⟨x,h1⟩
def Nu (r:qu)(kind:Str)(n:Int)(x:ql):Int:=if(nF r x.k).any (fun l=>decide (l.kind=kind))then j9 .i64 (n+x.n)else n
theorem jl5 {kind:List UInt8}(hL:(r.au.getD []).length≤SM)(hu:(u.uses.getD []).length≤SM)(hw:∀x∈u.uses.getD [],(ku r.er x.k).isSome=E6):f145 r u kind=E1 (DI (j9 .i64) r.er u.er kind):=by
 unfold f145
 have:=GD (u.uses.getD []) (Aj r u kind) (fun i (c:Int)=>(c,(i:Int))) (Nu r.er kind) (fun c=>(c,((u.uses.getD []).length:Int))) 0 (fun c=>by unfold Aj;simp only[kr];rfl)
  (fun i c x hx hi=>by
   obtain⟨y,hy⟩:=GH (hw x (E4 hx))
   obtain⟨k,h1,h2⟩:=Va hy
   unfold Aj Nu
   simp only[eV hi,cT,jx,z7 hx,Gt hL,h1,dY,z7 h2,hy,G2]
   rw[il (by unfold SM at hu;omega)]
   by_cases h3:y.kind=kind<;>simp[h3])
 rw[show(((0:Int),(0:Int)):Int×Int)=((0:Int),((0:Nat):Int))from rfl,this]
 rfl
theorem q6n {σ:Type}{step:σ→qj→Int→Option σ}{g:σ→ql→σ}(I:Nat→σ→Prop)(hL:(r.au.getD []).length≤SM)(hu:(u.uses.getD []).length≤SM)
  (hg:∀i x c,(u.uses.getD [])[i]?=E1 x→I i c→I (i+1) (g c x)∧∃y,nF r.er x.k=E1 y∧step c y x.n=E1 (g c x)) (c:σ) (hI:I 0 c):bf (og r u step) (0,c)=E1 (((u.uses.getD []).length:Int),(u.uses.getD []).foldl g c):=by
 have:=q2n (ε:=Empty) (u.uses.getD []) (og r u step) (fun i (c:σ)=>((i:Int),c)) (fun _ c x=>.inl (g c x)) (fun c=>(((u.uses.getD []).length:Int),c)) (fun e=>nomatch e) I c (fun c _=>by unfold og;simp only[kr];rfl)
  (fun i c x hx hi hI=>by
   obtain⟨hI',y,h1,h2⟩:=hg i x c hx hI
   obtain⟨k,h3,h4⟩:=Va h1
   refine⟨hI',?_⟩
   unfold og
   simp only[eV hi,cT,jx,z7 hx,DF hL,h3,dY,z7 h4,h2]
   rw[il (by unfold SM at hu;omega)]) hI
 rw[show((0:Int),c)=(((0:Nat):Int),c)from rfl,this,U6]
end Go.Z
namespace Go.Z
open Go Go.Abs Go.W
variable {r:qc}{u:qe}{D:qr}
theorem q2t {k:List UInt8}{v:Int}:∀l:List (List UInt8×Int),(jX l k v).length≤l.length+1
 | []=>Gk _
 |p::l=>by
  unfold jX
  split
  ·simp
  ·simp only[Sd];exact Sg (q2t l)
theorem q95 {α γ:Type}{l:List α}{i:Nat}{x:α}(hx:l[i]?=E1 x)(g:γ→α→γ)(c:γ):(l.take (i+1)).foldl g c=g ((l.take i).foldl g c) x:=by
 rw[List.take_add_one,hx,List.foldl_append];rfl
theorem jng (hL:(r.au.getD []).length≤SM)(hu:(u.uses.getD []).length≤SM)(hw:∀x∈u.uses.getD [],(ku r.er x.k).isSome=E6):∃M,bf (og r u vz) (0,[])=E1 (((u.uses.getD []).length:Int),M)∧∀kind,lY M kind=DI (j9 .i64) r.er u.er kind:=by
 let g:List (List UInt8×Int)→ql→List (List UInt8×Int):=fun c x=>match nF r.er x.k with
  |some y=>jX c y.kind (j9 .i64 (lY c y.kind+x.n))
  |none=>c
 let I:Nat→List (List UInt8×Int)→Prop:=fun i M=>M.length≤i∧∀kind,lY M kind=((u.uses.getD []).take i).foldl (Nu r.er kind) 0
 have hg:∀i x c,(u.uses.getD [])[i]?=E1 x→I i c→I (i+1) (g c x)∧∃y,nF r.er x.k=E1 y∧vz c y x.n=E1 (g c x):=by
  intro i x c hx hI
  obtain⟨y,hy⟩:=GH (hw x (E4 hx))
  have hi:=(E3.1 hx).1
  have SH:g c x=jX c y.kind (j9 .i64 (lY c y.kind+x.n)):=by simp only[g,hy]
  rw[SH]
  refine⟨⟨Nat.le_trans (q2t _) (Sg hI.1),fun kind=>?_⟩,y,hy,?_⟩
  ·rw[q95 hx,jet,←hI.2 kind]
   unfold Nu
   rw[hy]
   simp only[G2]
   by_cases hk:kind=y.kind
   ·subst hk;simp
   ·have cV:¬y.kind=kind:=fun h=>hk h.symm
    simp[hk,cV]
  ·unfold vz Np
   rw[if_pos (by have:=hI.1;unfold SM at hu;omega)]
 have:=q6n (step:=vz) (g:=g) I hL hu hg [] ⟨Gk _,fun kind=>rfl⟩
 have hI:∀(k i:Nat) (c:List (List UInt8×Int)),i+k=(u.uses.getD []).length→I i c→I (u.uses.getD []).length (((u.uses.getD []).drop i).foldl g c):=by
  intro k
  induction k with
  |zero=>
   intro i c hi hc
   have:i=(u.uses.getD []).length:=by omega
   subst this
   rw[Gp (Gk _)];exact hc
  |succ k ih=>
   intro i c hi hc
   obtain⟨x,hx⟩:∃x,(u.uses.getD [])[i]?=E1 x:=⟨_,Gm (by omega)⟩
   rw[oW hx,Gq]
   exact ih (i+1) _ (by omega) (hg i x c hx hc).1
 have h2:=hI _ 0 [] (Nat.zero_add _) ⟨Gk _,fun kind=>rfl⟩
 rw[Mn]at h2
 refine⟨_,this,fun kind=>?_⟩
 rw[h2.2 kind,List.take_length]
 rfl
theorem xm (o:Option Nat):decide (0≤dY o)=o.isSome:=by
 cases o with
 |none=>rfl
 |some k=>exact dT (by show(0:Int)≤(k:Int);omega)
theorem cj {α:Type}{p:α→Bool}{l:List α}:(l.findIdx? p).isSome=l.any p:=by rw[DJ]
theorem jgs {l:Option (List ql)}{M:List (List UInt8×Int)}(hl:(l.getD []).length≤SM):GI l M=E1 ((l.getD []).any fun n=>decide (lY M n.k<n.n)):=by
 have:GJ l M=E1 (dY ((l.getD []).findIdx? fun n=>decide (lY M n.k<n.n))):=by
  unfold GJ
  exact mQ (p:=fun n=>decide (lY M n.k<n.n)) hl fun i=>rfl
 unfold GI
 rw[this]
 simp only[jx,xm,cj]
theorem jl0 (hL:(r.au.getD []).length≤SM)(hu:(u.uses.getD []).length≤SM)(hw:∀x∈u.uses.getD [],(ku r.er x.k).isSome=E6)(hd:f134 r u=E1 D)(hn:(D.ax.getD []).length≤SM):f141 r u=E1 (xn (j9 .i64) r.er D.er u.er):=by
 obtain⟨M,h1,h2⟩:=jng hL hu hw
 unfold f141
 rw[h1,hd]
 simp only[jx,jgs hn,E1.injEq]
 unfold xn
 rw[show D.er.ax=D.ax.getD []from rfl]
 induction D.ax.getD []with
 |nil=>rfl
 |cons n l ih=>
  rw[Hd,Sx,Bool.not_or,ih,h2]
  congr 1
  by_cases h:DI (j9 .i64) r.er u.er n.k<n.n
  ·rw[dT h,dF (by omega)];rfl
  ·rw[dF h,dT (by omega)];rfl
theorem jsa (hL:(r.au.getD []).length≤SM)(hu:(u.uses.getD []).length≤SM)(hw:∀x∈u.uses.getD [],(ku r.er x.k).isSome=E6)(hd:f78 r u=E1 D)(hn:(D.ax.getD []).length≤SM):f81 r u=E1 (xn (j9 .i64) r.er D.er u.er):=by
 unfold f81
 rw[hd]
 simp only[jx]
 obtain⟨d,h1,h2⟩:=U0 (D.ax.getD []) (Ak r u D) (fun n=>decide (n.n≤DI (j9 .i64) r.er u.er n.k)) (fun d=>match d with | .inl _=>Gl | .inr _=>E6) ⟨.inr ((D.ax.getD []).length:Int),by unfold Ak;simp only[kr];rfl,rfl⟩ (fun i x hx hi=>by
  unfold Ak
  simp only[eV hi,cT,jx,z7 hx,jl5 hL hu hw]
  rw[il (by unfold SM at hn;omega)]
  by_cases h:DI (j9 .i64) r.er u.er x.k<x.n
  ·exact .inr ⟨dF (by omega),.inl (),by rw[dT h];rfl,rfl⟩
  ·exact .inl ⟨dT (by omega),by rw[dF h];rfl⟩)
 rw[h1]
 unfold xn
 rw[show D.er.ax=D.ax.getD []from rfl,←h2]
 cases d<;>rfl
def DK (r:qu)(us:List ql):List qj:=us.map fun x=>(nF r x.k).getD ⟨[],[],0,0,Gl⟩
theorem jgw (hL:(r.au.getD []).length≤SM)(hu:(u.uses.getD []).length≤SM)(hw:∀x∈u.uses.getD [],(ku r.er x.k).isSome=E6):bf (og r u xp) (0,Mw)=E1 (((u.uses.getD []).length:Int),yp (DK r.er (u.uses.getD []))):=by
 let gx:ql→qj:=fun x=>(nF r.er x.k).getD ⟨[],[],0,0,Gl⟩
 let g:Option (List qj)→ql→Option (List qj):=fun c x=>yp (c.getD []++[gx x])
 have:=q6n (step:=xp) (g:=g) (fun i c=>∃a:List qj,c=yp a∧a.length=i) hL hu (fun i x c hx hI=>by
  obtain⟨a,rfl,ha⟩:=hI
  have hi:=(E3.1 hx).1
  obtain⟨y,hy⟩:=GH (hw x (E4 hx))
  have hgx:gx x=y:=by simp only[gx,hy,Gn]
  refine⟨⟨a++[y],by simp only[g,hgx,kj],by simp[ha]⟩,y,hy,?_⟩
  unfold xp
  rw[qv7 (by unfold SM at hu;omega)]
  simp only[g,hgx,kj]) Mw ⟨[],rfl,rfl⟩
 rw[this]
 congr 2
 have key:∀(l:List ql) (a:List qj),l.foldl g (yp a)=yp (a++l.map gx):=by
  intro l
  induction l with
  |nil=>intro a;simp
  |cons x l ih=>
   intro a
   rw[Gq,show g (yp a) x=yp (a++[gx x]) by simp only[g,kj],ih,H7,N4];rfl
 have:=key (u.uses.getD []) []
 rw[Mm]at this
 exact this
theorem q5w (hw:∀x∈u.uses.getD [],(ku r.er x.k).isSome=E6):Al r.er u.er=!((DK r.er (u.uses.getD [])).filter (·.held)).isEmpty:=by
 unfold Al DK
 rw[show u.er.uses=u.uses.getD []from rfl]
 revert hw
 generalize u.uses.getD []=us
 intro hw
 induction us with
 |nil=>rfl
 |cons x l ih=>
  obtain⟨y,hy⟩:=GH (hw x (Nh ..))
  rw[Hd,ih (fun x hx=>hw x (Mr _ hx)),H7,Sb,hy]
  simp only[G2,Gn]
  cases y.held<;>rfl
theorem lA {b:Bool}{e:Int}:f53 b e=E1 (if b then e else 0):=by unfold f53;cases b<;>rfl
theorem jmb {l:List qj}(hl:l.length≤SM):f142 (yp l)=E1 (yp (l.filter (·.held)),fK (l.filter (·.held))):=by
 unfold f142
 rw[Nt (f:=GK (yp l)) (l:=(yp l).getD []) (p:=fun x:qj=>x.held) (q:=fun x=>f143 x) (by rw[kj];exact hl) (fun x _=>rfl) (fun s=>rfl),kj]
 rfl
def fP:List Int→Int
 | []=>0
 |e::l=>if e=0 then fP l else e
theorem iq {l:List Int}(hl:l.length≤SM):f51 (E1 l)=E1 (fP l):=by
 unfold f51
 have:=Gs l.length (fun i=>(i:Int)) (Am (E1 l)) (fun d=>match d with | .inl k=>k | .inr _=>(0:Int)) (fun i=>fP (l.drop i)) ⟨.inr (l.length:Int),by unfold Am;simp only[Gn,kr];rfl,by rw[Gp (Gk _)];rfl⟩ (fun i hi=>by
  obtain⟨x,hx⟩:∃x,l[i]?=E1 x:=⟨_,Gm hi⟩
  unfold Am
  simp only[Gn,eV hi,cT,jx,z7 hx,oW hx,fP]
  by_cases h0:x=0
  ·simp only[h0,decide_true,cT,if_true]
   rw[il (by unfold SM at hl;omega)]
   left;constructor<;>first|rfl|trivial
  ·simp only[h0,decide_false,cond_false,if_false]
   exact .inr ⟨_,rfl,rfl⟩)
 obtain⟨d,h1,h2⟩:=this
 rw[show((0:Int))=((0:Nat):Int)from rfl,h1]
 rw[Mn]at h2
 simp only[jx]
 rw[←h2]
 cases d<;>rfl
theorem qvm {α:Type}{l:List α}:decide (0<(((yp l).getD []).length:Int))=!l.isEmpty:=by
 rw[kj]
 cases l with
 |nil=>rfl
 |cons x l=>simp
theorem q0d {w:Int→Int}{r:qu}{u:qy}{d:jg}{v:Int}(hd:gR r u=E1 d)(hv:oZ r u=E1 v):uD w r u=if u.ar then 21 else if u.version≠v then 32 else if !xn w r d u then 20 else if !(xl d u).isEmpty then 31 else if Al r u then 34 else 0:=by
 unfold uD
 rw[hd,hv]
 cases u.ar
 ·by_cases h:u.version=v
  ·simp[h]
  ·simp[h,Ne.symm h]
 ·rfl
theorem jtn {v:Int}(hP:(r.ae.getD []).length≤SM)(fF:oZ r.er u.er=E1 v)(hL:(r.au.getD []).length≤SM)(hu:(u.uses.getD []).length≤SM)(hw:∀x∈u.uses.getD [],(ku r.er x.k).isSome=E6)(hd:f134 r u=E1 D)(hp:gR r.er u.er=E1 D.er)(hn:(D.ax.getD []).length≤SM)(hr:(u.results.getD []).length≤SM)(ht:(D.aw.getD []).length≤SM)(hv:u.version≠-1):f75 r u=E1 (uD (j9 .i64) r.er u.er):=by
 obtain⟨w,hm⟩:=juw hd hr ht hv
 have hll:(DK r.er (u.uses.getD [])).length≤SM:=by unfold DK;rw[Sk];exact hu
 unfold f75
 rw[jgw hL hu hw]
 simp only[jx,lA,(Ns hP fF).1,jl0 hL hu hw hd hn,hm,jmb hll,qvm]
 rw[iq (by simp[SM]),q0d hp fF,q5w hw]
 congr 1
 show fP _=if u.ar then 21 else if u.version≠v then 32 else _
 cases u.ar<;>by_cases h1:u.version=v<;>cases xn (j9 .i64) r.er D.er u.er<;>cases (xl D.er u.er).isEmpty<;>cases ((DK r.er (u.uses.getD [])).filter (·.held)).isEmpty<;>simp[fP,h1]
theorem jej (hL:(r.au.getD []).length≤SM)(hu:(u.uses.getD []).length≤SM)(hw:∀x∈u.uses.getD [],(ku r.er x.k).isSome=E6):(jx (bf (xq r u) 0) fun d=>match d with | .inl _=>E1 (34:Int) | .inr _=>E1 0)=E1 (if Al r.er u.er then 34 else 0):=by
 obtain⟨d,h1,h2⟩:=U0 (u.uses.getD []) (xq r u) (fun x=>!(nF r.er x.k).any (·.held)) (fun d=>match d with | .inl _=>Gl | .inr _=>E6) ⟨.inr ((u.uses.getD []).length:Int),by unfold xq;simp only[kr];rfl,rfl⟩ (fun i x hx hi=>by
  obtain⟨y,hy⟩:=GH (hw x (E4 hx))
  obtain⟨k,h3,h4⟩:=Va hy
  unfold xq
  simp only[eV hi,cT,jx,z7 hx,Gt hL,h3,dY,z7 h4,hy,G2]
  rw[il (by unfold SM at hu;omega)]
  cases y.held with
  |true=>exact .inr ⟨rfl,.inl (),rfl,rfl⟩
  |false=>exact .inl ⟨rfl,rfl⟩)
 rw[h1]
 have h3:Al r.er u.er=!((u.uses.getD []).all fun x=>!(nF r.er x.k).any (·.held)):=by
  unfold Al
  rw[show u.er.uses=u.uses.getD []from rfl]
  induction u.uses.getD []with
  |nil=>rfl
  |cons x l ih=>rw[Hd,Sx,ih,Bool.not_and,Bool.not_not]
 rw[h3,←h2]
 cases d<;>rfl
theorem jq2 {v:Int}(hP:(r.ae.getD []).length≤SM)(fF:oZ r.er u.er=E1 v)(hL:(r.au.getD []).length≤SM)(hu:(u.uses.getD []).length≤SM)(hw:∀x∈u.uses.getD [],(ku r.er x.k).isSome=E6)(hd:f78 r u=E1 D)(hp:gR r.er u.er=E1 D.er)(hn:(D.ax.getD []).length≤SM)(hr:(u.results.getD []).length≤SM)(ht:(D.aw.getD []).length≤SM):f31 r u=E1 (uD (j9 .i64) r.er u.er):=by
 rw[q0d hp fF]
 unfold f31
 cases hs:u.ar with
 |true=>rw[show u.er.ar=E6 from hs];rfl
 |false=>
  have oM:(⟨u.name,u.product,u.version,u.uses,u.results,u.partner,Gl,u.ai⟩:qe)=u:=by cases u;simp only at hs;rw[hs]
  rw[show u.er.ar=Gl from hs,oM]
  obtain⟨w,hm⟩:=js8 (r:=r) (u:=u) hd hr ht
  simp only[cond_false,jx,(Ns hP fF).2,jsa hL hu hw hd hn,hm,qvm,E2,if_false]
  have hh:=jej hL hu hw
  simp only[jx]at hh
  by_cases h1:u.version=v
  ·rw[dT h1,if_neg (show ¬u.er.version≠v from fun h=>h h1)]
   simp only[cT]
   cases xn (j9 .i64) r.er D.er u.er
   ·rfl
   ·simp only[cT,Sy,E2,if_false]
    cases (xl D.er u.er).isEmpty
    ·rfl
    ·simp only[Sy,cond_false,E2,if_false]
     exact hh
  ·rw[dF h1,if_pos (show u.er.version≠v from h1)]
   rfl
end Go.Z
namespace Go.Z
open Go Go.Abs Go.W
theorem DL {α:Type}{o:Option (List α)}{ys:List α}(h:(o.getD []).length+ys.length≤SM)(hy:ys≠[]):bg o ys=E1 (E1 (o.getD []++ys)):=by
 unfold bg DM
 rw[if_pos h]
 cases o<;>cases ys<;>first|exact absurd rfl hy|rfl
theorem Ao {α:Type}{ys:List α}(h:ys.length≤SM):bg (E1 []) ys=E1 (E1 ys):=by
 unfold bg DM
 rw[if_pos (by simpa using h)]
 cases ys<;>rfl
theorem xr {α:Type}{o:Option (List α)}{x:α}(h:(o.getD []).length<SM):(jx (cond o.isNone (E1 (Mw,Gl)) (jx (bg (E1 []) (o.getD [])) fun v=>E1 (v,E6))) fun v1=>cond v1.2 (jx (bg v1.1 [x]) fun v4=>E1 v4) (cond v1.1.isNone (jx (bg v1.1 [x]) fun v7=>E1 v7) Mw))=E1 (E1 (o.getD []++[x])):=by
 cases o with
 |none=>rfl
 |some l=>
  have h':l.length<SM:=h
  simp only[Option.isNone_some,cond_false,Gn]
  rw[Ao (by omega)]
  simp only[jx,cT]
  rw[DL (o:=E1 l) (by simp only[Gn,List.length_singleton];omega) (by simp)]
  rfl
theorem jl8 {o:Option (List qj)}{x:qj}(h:(o.getD []).length<SM):f164 o x=E1 (E1 (o.getD []++[x])):=xr h
theorem jlm {o:Option (List qi)}{x:qi}(h:(o.getD []).length<SM):f166 o x=E1 (E1 (o.getD []++[x])):=xr h
theorem jm8 {o:Option (List qe)}{x:qe}(h:(o.getD []).length<SM):f183 o x=E1 (E1 (o.getD []++[x])):=xr h
theorem jlb {o:Option (List qr)}{x:qr}(h:(o.getD []).length<SM):f180 o x=E1 (E1 (o.getD []++[x])):=xr h
theorem jmw {o:Option (List ql)}{x:ql}(h:(o.getD []).length<SM):f239 o x=E1 (E1 (o.getD []++[x])):=xr h
theorem jk4 {o:Option (List qk)}{x:qk}(h:(o.getD []).length<SM):f243 o x=E1 (E1 (o.getD []++[x])):=xr h
theorem jlt {o:Option (List ql)}{x:ql}(h:(o.getD []).length<SM):f250 o x=E1 (E1 (o.getD []++[x])):=xr h
theorem jmf {o:Option (List qk)}{x:qk}(h:(o.getD []).length<SM):f194 o x=E1 (E1 (o.getD []++[x])):=xr h
theorem nG {α:Type}{o:Option (List α)}{i:Nat}{x y:α}{g:α→Option α}(hl:(o.getD []).length≤SM)(hx:(o.getD [])[i]?=E1 x)(hg:g x=E1 y):fL o (i:Int) g=E1 (E1 ((o.getD []).set i y)):=by
 unfold fL
 rw[if_pos ⟨hl,by omega⟩,Int.toNat_natCast,hx]
 simp only[hg]
theorem Vb {α:Type}{o:Option (List α)}{i:Nat}{x:α}(hl:(o.getD []).length≤SM)(hx:i<(o.getD []).length):Ap o (i:Int) x=E1 (E1 ((o.getD []).set i x)):=by
 unfold Ap
 rw[if_pos ⟨hl,by omega,by omega⟩,Int.toNat_natCast]
theorem Vc {α:Type}{o:Option (List α)}{x:α}{p:α→Bool}{g:α→Option α}(hl:(o.getD []).length<SM)(hg:∀y,g y=E1 x):
  ∃v w,(cond (decide (0≤dY ((o.getD []).findIdx? p))) (jx (fL o (dY ((o.getD []).findIdx? p)) g) fun v4=>E1 (v4,Gl)) (jx (E1 (E1 (o.getD []++[x]))) fun v6=>E1 (v6,E6)))=E1 (v,w)∧v.getD []=eW p x (o.getD []):=by
 unfold eW
 cases h:(o.getD []).findIdx? p with
 |none=>exact⟨_,_,rfl,rfl⟩
 |some k=>
  obtain⟨y,h1,_⟩:=bG h
  rw[show decide (0≤dY (E1 k))=E6 from xm (E1 k)]
  simp only[cT,dY]
  rw[nG (If hl) h1 (hg y)]
  exact⟨_,_,rfl,rfl⟩
theorem jlz {o:Option (List ql)}{x:ql}{k:List UInt8}(hl:(o.getD []).length<SM):∃v w,f173 o x k=E1 (v,w)∧v.getD []=eW (cN k) x (o.getD []):=by
 unfold f173
 have:GL o k=E1 (dY ((o.getD []).findIdx? (cN k))):=by unfold GL;exact mQ (p:=cN k) (If hl) fun i=>rfl
 rw[this]
 simp only[jx]
 rw[jmw hl]
 exact Vc (p:=cN k) (g:=fun _=>E1 x) hl fun _=>rfl
theorem jnj {o:Option (List qk)}{x s:qk}(hl:(o.getD []).length<SM):∃v w,f177 o x s=E1 (v,w)∧v.getD []=eW (dZ s.k) x (o.getD []):=by
 unfold f177
 have:xt o s=E1 (dY ((o.getD []).findIdx? (dZ s.k))):=by unfold xt;exact mQ (p:=dZ s.k) (If hl) fun i=>rfl
 rw[this]
 simp only[jx]
 rw[jk4 hl]
 exact Vc (p:=dZ s.k) (g:=fun _=>E1 x) hl fun _=>rfl
theorem jku {o:Option (List ql)}{x:ql}{t:qj}(hl:(o.getD []).length<SM):∃v w,f191 o x t=E1 (v,w)∧v.getD []=eW (cN t.name) x (o.getD []):=by
 unfold f191
 have:f188 o t=E1 (dY ((o.getD []).findIdx? (cN t.name))):=by unfold f188;exact mQ (p:=cN t.name) (If hl) fun i=>rfl
 rw[this]
 simp only[jx]
 rw[jlt hl]
 exact Vc (p:=cN t.name) (g:=fun _=>E1 x) hl fun _=>rfl
theorem jmx {o:Option (List ql)}{t:qj}(hl:(o.getD []).length≤SM):f188 o t=E1 (dY ((o.getD []).findIdx? (cN t.name))):=by
 unfold f188;exact mQ (p:=cN t.name) hl fun i=>rfl
theorem jk0 {o:Option (List ql)}{k:List UInt8}(hl:(o.getD []).length≤SM):f171 o k=E1 (yp ((o.getD []).filter fun x=>!cN k x),fK ((o.getD []).filter fun x=>!cN k x)):=by
 unfold f171
 rw[Nt (f:=GM o k) (l:=o.getD []) (p:=fun x=>!cN k x) (q:=fun x=>f172 x k) hl (fun x _=>rfl) (fun s=>rfl)]
 rfl
theorem jf3 {o:Option (List ql)}{k:List UInt8}(hl:(o.getD []).length≤SM):GN o k=E1 ((o.getD []).any (cN k)):=by
 have:GO o k=E1 (dY ((o.getD []).findIdx? (cN k))):=by unfold GO;exact mQ (p:=cN k) hl fun i=>rfl
 unfold GN;rw[this];simp only[jx,xm,cj]
theorem jgc {o:Option (List ql)}{t:qj}(hl:(o.getD []).length≤SM):GQ o t=E1 ((o.getD []).any (cN t.kind)):=by
 have:GR o t=E1 (dY ((o.getD []).findIdx? (cN t.kind))):=by unfold GR;exact mQ (p:=cN t.kind) hl fun i=>rfl
 unfold GQ;rw[this];simp only[jx,xm,cj]
theorem jey {o:Option (List qk)}{s:qk}(hl:(o.getD []).length≤SM):GU o s=E1 ((o.getD []).any (dZ s.k)):=by
 have:xt o s=E1 (dY ((o.getD []).findIdx? (dZ s.k))):=by unfold xt;exact mQ (p:=dZ s.k) hl fun i=>rfl
 unfold GU;rw[this];simp only[jx,xm,cj]
theorem jh5 {o:Option (List qk)}{e:qm}{n:List UInt8}(hn:zp (e.names.getD []) 1=E1 n)(hl:(o.getD []).length≤SM):GV o e=E1 ((o.getD []).any (dZ n)):=by
 have:GX o e=E1 (dY ((o.getD []).findIdx? (dZ n))):=by
  unfold GX
  refine mQ (p:=dZ n) hl fun i=>?_
  unfold GY f192
  rw[hn]
  rfl
 unfold GV;rw[this];simp only[jx,xm,cj]
theorem Vd {α β:Type}{l:List α}{h:α→List β}{q:α→Bool}{f:Option (List β)×Bool×Int×Bool→Option ((Option (List β)×Bool×Int×Bool)⊕(Option (List β)×Bool×Bool×Int))}(hh:∀x,(h x).length≤1)
  (cM:∀o b w,f (o,b,(l.length:Int),w)=E1 (.inr (o,w,b,(l.length:Int))))
  (hf:∀(i:Nat) x (a:List β) b,l[i]?=E1 x→i<l.length→a.length≤i→f (yp a,b,(i:Int),fK a)=E1 (.inl (yp (a++h x),b||q x,((i+1:Nat):Int),fK (a++h x)))):
  bf f (Mw,Gl,0,Gl)=E1 (yp (l.flatMap h),fK (l.flatMap h),l.any q,(l.length:Int)):=by
 have key:∀(k i:Nat),i+k=l.length→∀a b,a.length≤i→bf f (yp a,b,(i:Int),fK a)=E1 (yp (a++(l.drop i).flatMap h),fK (a++(l.drop i).flatMap h),b||(l.drop i).any q,(l.length:Int)):=by
  intro k
  induction k with
  |zero=>
   intro i hi a b _
   have:i=l.length:=by omega
   subst this
   rw[Gp (Gk _),List.flatMap_nil,List.append_nil,iF (cM _ _ _)]
   simp
  |succ k ih=>
   intro i hi a b ha
   obtain⟨x,hx⟩:∃x,l[i]?=E1 x:=⟨_,Gm (by omega)⟩
   rw[mL (hf i x a b hx (by omega) ha),ih (i+1) (by omega) _ _ (by rw[N0];have:=hh x;omega),oW hx,Hb,N4,Hd,Bool.or_assoc]
 have:=key l.length 0 (by omega) [] Gl (Gk _)
 rw[Mn,Mm,Bool.false_or]at this
 exact this
theorem Ve {α:Type}{a:List α}{x:α}(h:a.length<SM):cond (fK a) (jx (bg (yp a) [x]) fun v=>E1 (v,E6)) (cond (yp a).isNone (jx (bg (yp a) [x]) fun v=>E1 (v,E6)) Mw)=E1 (yp (a++[x]),E6):=vw (k:=fun v=>E1 (v,E6)) h
theorem lb {α β:Type}{h:α→List β}(hh:∀x,(h x).length≤1):∀l:List α,(l.flatMap h).length≤l.length
 | []=>Gk _
 |x::l=>by rw[Hb,N0,Sd];have:=hh x;have:=lb hh l;omega
theorem jlp {o:Option (List ql)}{x:ql}(hl:(o.getD []).length<SM)(hk:dP (·.k) (o.getD []))(h0:0≤x.n):∃v w,f203 o x=E1 (v,w)∧v.getD []=iP (o.getD []) x.k x.n:=by
 let h:ql→List ql:=fun y=>if cN x.k y then(if 0<x.n then [x]else [])else [y]
 have hh:∀y,(h y).length≤1:=by intro y;simp only[h];split<;>(try split)<;>simp
 have L:=Vd (l:=o.getD []) (h:=h) (q:=cN x.k) (f:=Aq o x) hh (fun o b w=>by unfold Aq;simp only[kr];rfl) (fun i y a b hy hi ha=>by
  unfold Aq
  simp only[eV hi,cT,jx,z7 hy]
  rw[il (by unfold SM at hl;omega)]
  simp only[h,cN]
  by_cases h1:y.k=x.k
  ·by_cases h2:0<x.n
   ·simp only[h1,h2,decide_true,cT,if_true,N1]
    rw[Ah]
    exact vw (x:=x) (k:=fun v=>E1 (Md (v,E6,((i+1:Nat):Int),E6))) (by unfold SM at hl;omega)
   ·simp[h1,h2]
  ·simp only[h1,decide_false,cond_false,E2,if_false,Mx]
   rw[Ah]
   exact vw (x:=y) (k:=fun v=>E1 (Md (v,b,((i+1:Nat):Int),E6))) (by unfold SM at hl;omega))
 unfold f203
 rw[L]
 simp only[jx]
 have hlen:((o.getD []).flatMap h).length<SM:=Ha (lb hh _) hl
 by_cases hn:x.n=0
 ·have hp:decide (0<x.n)=Gl:=by rw[hn];rfl
  have hf:(o.getD []).flatMap h=(o.getD []).filter fun y=>!cN x.k y:=by
   rw[show h=fun y=>if(!cN x.k y)then [id y]else [] by funext y;simp only[h,hn];cases cN x.k y<;>rfl,U7,List.map_id]
  unfold iP
  rw[if_pos hn,hp,←hf]
  cases (o.getD []).any (cN x.k)<;>exact⟨_,_,rfl,kj _⟩
 ·have hp:decide (0<x.n)=E6:=dT (by omega)
  have hf:(o.getD []).flatMap h=(o.getD []).map fun y=>if cN x.k y then x else y:=by
   rw[←Nk]
   congr 1
   funext y
   have:0<x.n:=by omega
   simp only[h,this,if_true]
   cases cN x.k y<;>rfl
  have tX:=q0q (key:=fun y:ql=>y.k) (k:=x.k) (x:=x) hk
  unfold iP
  rw[if_neg hn,hp,show(⟨x.k,x.n⟩:ql)=x from rfl,show eW (cN x.k) x (o.getD [])=DN (cN x.k) x (o.getD [])from tX.symm]
  unfold DN
  rw[←hf]
  cases ha:(o.getD []).any (cN x.k)with
  |true=>exact⟨_,_,rfl,by rw[kj];simp⟩
  |false=>
   simp only[cond_false,cT,E2,if_false]
   have:=Ve (x:=x) hlen
   simp only[jx]at this
   rw[this]
   exact⟨_,_,rfl,kj _⟩
theorem jmi {o:Option (List qk)}{x:qk}(hl:(o.getD []).length<SM)(hk:dP (·.k) (o.getD [])):∃v w,f204 o x=E1 (v,w)∧v.getD []=eW (dZ x.k) x (o.getD []):=by
 let h:qk→List qk:=fun y=>if dZ x.k y then [x]else [y]
 have hh:∀y,(h y).length≤1:=by intro y;simp only[h];split<;>simp
 have L:=Vd (l:=o.getD []) (h:=h) (q:=dZ x.k) (f:=Ar o x) hh (fun o b w=>by unfold Ar;simp only[kr];rfl) (fun i y a b hy hi ha=>by
  unfold Ar
  simp only[eV hi,cT,jx,z7 hy]
  rw[il (by unfold SM at hl;omega)]
  simp only[h,dZ]
  by_cases h1:y.k=x.k
  ·simp only[h1,decide_true,cT,if_true,N1]
   rw[Ah]
   exact vw (x:=x) (k:=fun v=>E1 (Md (v,E6,((i+1:Nat):Int),E6))) (by unfold SM at hl;omega)
  ·simp only[h1,decide_false,cond_false,E2,if_false,Mx]
   rw[Ah]
   exact vw (x:=y) (k:=fun v=>E1 (Md (v,b,((i+1:Nat):Int),E6))) (by unfold SM at hl;omega))
 unfold f204
 rw[L]
 simp only[jx]
 have hlen:((o.getD []).flatMap h).length<SM:=Ha (lb hh _) hl
 have hf:(o.getD []).flatMap h=(o.getD []).map fun y=>if dZ x.k y then x else y:=by
  rw[←Nk]
  congr 1
  funext y
  simp only[h]
  cases dZ x.k y<;>rfl
 have tX:=q0q (key:=fun y:qk=>y.k) (k:=x.k) (x:=x) hk
 rw[show eW (dZ x.k) x (o.getD [])=DN (dZ x.k) x (o.getD [])from tX.symm]
 unfold DN
 rw[←hf]
 cases ha:(o.getD []).any (dZ x.k)with
 |true=>exact⟨_,_,rfl,by rw[kj];simp⟩
 |false=>
  simp only[cond_false,E2,if_false]
  have:=Ve (x:=x) hlen
  simp only[jx]at this
  rw[this]
  exact⟨_,_,rfl,kj _⟩
theorem q0k {α:Type}{f:α→α}:∀ {l:List α},(∀x∈l,f x=x)→l.map f=l
 | [],_=>rfl
 |x::l,h=>by rw[H7,h x (Nh ..),q0k fun y hy=>h y (Mr _ hy)]
theorem q6i {k:List UInt8}{F:ql→ql}:∀ {l:List ql},dP (·.k) l→(l.map fun y=>if cN k y then F y else y)=(match l.findIdx? (cN k)with
  |some i=>(match l[i]? with
   |some x=>l.set i (F x)
   |none=>l)
  |none=>l)
 | [],_=>rfl
 |y::l,h=>by
  have h':dP (·.k) l:=(Sn.1 h).2
  have hn:¬y.k∈l.map (·.k):=(Sn.1 h).1
  rw[H7,Mz]
  cases hy:cN k y with
  |true=>
   have hk:y.k=k:=of_decide_eq_true hy
   simp only[if_true]
   rw[q0k fun x hx=>by
    have:cN k x=Gl:=dF fun hxk=>hn (by rw[hk,←hxk];exact List.mem_map_of_mem hx)
    rw[this];rfl]
   rfl
  |false=>
   simp only[E2,if_false]
   rw[q6i h']
   cases hi:l.findIdx? (cN k)with
   |none=>rfl
   |some i=>
    obtain⟨x,h1,_⟩:=bG hi
    simp[h1]
theorem jnd {o:Option (List ql)}{k:List UInt8}{n:Int}(hl:(o.getD []).length<SM)(hk:dP (·.k) (o.getD [])):∃v w,f252 o k n=E1 (v,w)∧v.getD []=mR (j9 .i64) (o.getD []) k n:=by
 let h:ql→List ql:=fun y=>if cN k y then [⟨y.k,j9 .i64 (y.n+n)⟩]else [y]
 have hh:∀y,(h y).length≤1:=by intro y;simp only[h];split<;>simp
 have L:=Vd (l:=o.getD []) (h:=h) (q:=cN k) (f:=As o k n) hh (fun o b w=>by unfold As;simp only[kr];rfl) (fun i y a b hy hi ha=>by
  unfold As
  simp only[eV hi,cT,jx,z7 hy]
  rw[il (by unfold SM at hl;omega)]
  simp only[h,cN]
  by_cases h1:y.k=k
  ·simp only[h1,decide_true,cT,if_true,N1]
   rw[Ah]
   exact vw (x:=(⟨k,j9 .i64 (y.n+n)⟩:ql)) (k:=fun v=>E1 (Md (v,E6,((i+1:Nat):Int),E6))) (by unfold SM at hl;omega)
  ·simp only[h1,decide_false,cond_false,E2,if_false,Mx]
   rw[Ah]
   exact vw (x:=y) (k:=fun v=>E1 (Md (v,b,((i+1:Nat):Int),E6))) (by unfold SM at hl;omega))
 unfold f252
 rw[L]
 simp only[jx]
 have hlen:((o.getD []).flatMap h).length<SM:=Ha (lb hh _) hl
 have hf:(o.getD []).flatMap h=(o.getD []).map fun y=>if cN k y then(⟨k,j9 .i64 (n+y.n)⟩:ql)else y:=by
  rw[←Nk]
  congr 1
  funext y
  simp only[h]
  cases hy:cN k y with
  |false=>rfl
  |true=>rw[show y.k=k from of_decide_eq_true hy,Int.add_comm];rfl
 rw[q6i hk]at hf
 unfold mR
 cases hi:(o.getD []).findIdx? (cN k)with
 |some i=>
  obtain⟨x,h1,_⟩:=bG hi
  have ha:(o.getD []).any (cN k)=E6:=by rw[DJ,hi];rfl
  rw[hi]at hf
  simp only[h1]at hf ⊢
  rw[ha,hf]
  exact⟨_,_,rfl,kj _⟩
 |none=>
  have ha:(o.getD []).any (cN k)=Gl:=by rw[DJ,hi];rfl
  rw[hi]at hf
  simp only at hf ⊢
  rw[ha]
  have:=Ve (x:=(⟨k,n⟩:ql)) hlen
  simp only[jx]at this
  simp only[cond_false]
  rw[this,hf]
  exact⟨_,_,rfl,kj _⟩
end Go.Z
