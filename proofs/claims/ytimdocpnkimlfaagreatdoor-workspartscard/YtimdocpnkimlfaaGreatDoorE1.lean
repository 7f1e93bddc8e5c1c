/- Chapter 10, plain. -/
import Derived.Test.YtimdocpnkimlfaaGreatDoorW15
set_option linter.unusedVariables false
set_option linter.unusedSimpArgs false
set_option maxRecDepth 100000
open Option renaming some→Ey,getD_some→Gy,any_some→G1,none→He,bind_some→Hv
open Bool renaming false_eq_true→Gn,true→Gs,false→Gv,or_false→Hh,or_true→Hp,and_false→Ic,false_and→Ie,and_self→If,not_true→Ih
open List renaming getElem?_eq_some_iff→Gp,mem_of_getElem?→Gq,getElem?_eq_getElem→Gw,drop_eq_nil_of_le→Gz,foldl_cons→G0,flatMap_cons→G5,any_cons→G6,map_cons→G7,nil_append→Hb,drop_zero→Hc,mem_cons_of_mem→Hd,findIdx?_cons→Hj,mem_cons_self→Hl,length_append→Hm,findIdx?_map→Hq,getElem?_map→Hr,append_assoc→Hu,filter_cons→Hx,length_cons→Hy,length_map→Ia,nodup_cons→Ib,all_cons→Ig
open Nat renaming le_refl→Gt,lt_of_le_of_lt→G2,le_of_lt→G9,succ_le_succ→Hz
open Sum renaming inl→Ha
namespace Go.Z
open Go Go.Abs Go.W
def eG:Option Nat→Int
 |some k=>(k:Int)
 |none=>-1
theorem jne {α:Type}(l:List α)(p:α→Bool)(f:Int→Option (Int⊕(Int⊕Int)))(dD:f (l.length:Int)=Ey (.inr (.inr (l.length:Int))))
  (cK:∀(i:Nat) x,l[i]?=Ey x→i<l.length→f (i:Int)=Ey (if p x then .inr (.inl (i:Int))else .inl ((i+1:Nat):Int))):
  ∃d,bm f 0=Ey d∧(match d with | .inl k=>k | .inr _=>-1)=eG (l.findIdx? p):=by
 have:=Ii l.length (fun i=>(i:Int)) f (fun d=>match d with | .inl k=>k | .inr _=>(-1:Int)) (fun i=>eG (((l.drop i).findIdx? p).map (· + i))) ⟨_,dD,by rw[Gz (Gt _)];rfl⟩ (fun i hi=>by
  obtain⟨x,hx⟩:∃x,l[i]?=Ey x:=⟨_,Gw hi⟩
  have h1:=cK i x hx hi
  simp only[rW hx,Hj]
  cases hp:p x with
  |true=>
   rw[hp,if_pos rfl]at h1
   exact .inr ⟨_,h1,by simp[eG]⟩
  |false=>
   rw[hp]at h1
   refine .inl ⟨by simpa using h1,?_⟩
   simp only[Gn,if_false,Option.map_map]
   congr 1
   congr 1
   funext n
   simp only[Function.comp];omega)
 obtain⟨d,h1,h2⟩:=this
 refine⟨d,h1,?_⟩
 rw[h2]
 simp
abbrev SM:Nat:=1073741824
theorem mW {α:Type}{l:List α}{p:α→Bool}{f:Int→Option (Int⊕(Int⊕Int))}(hl:l.length≤SM)
  (hf:∀i:Int,f i=cond (decide (i<(l.length:Int))) (qa (qr l i) fun x=>cond (p x) (Ey (.inr (.inl i))) (Ey (.inl (qe .i64 (i+1))))) (Ey (.inr (.inr i)))):
  (qa (bm f 0) fun d=>match d with | .inl k=>Ey k | .inr _=>Ey (-1))=Ey (eG (l.findIdx? p)):=by
 obtain⟨d,h1,h2⟩:=jne l p f (by rw[hf,zr];rfl) (fun i x hx hi=>by
  rw[hf,ye hi]
  simp only[cond_true,qa,jb hx]
  cases p x with
  |true=>rfl
  |false=>simp only[cond_false];rw[yh (by unfold SM at hl;omega)];rfl)
 rw[h1]
 simp only[qa]
 rw[←h2]
 cases d<;>rfl
variable {r:aj}{n:List UInt8}
theorem Ik (hl:(r.lots.getD []).length≤SM):wW r n=Ey (eG (zt r.er n)):=by
 unfold wW zt
 exact mW (p:=fun x=>decide (x.name=n)) hl fun i=>rfl
theorem B6 (hl:(r.lots.getD []).length≤SM):f64 r n=Ey (eG (zt r.er n)):=by
 have:Il ((r.lots.getD []).length:Int) r n=Ey (eG (zt r.er n)):=by
  unfold Il zt
  refine mW (p:=fun x=>decide (x.name=n)) hl fun i=>?_
  unfold Io Nf
  congr 1
  cases qr (r.lots.getD []) i<;>rfl
 unfold f64;rw[this];rfl
theorem rZ:r.er.ae=(r.ae.getD []).map aS.er:=rfl
theorem mX:r.er.units=(r.units.getD []).map ay.er:=rfl
theorem Ng:z6 r.er n=(r.ae.getD []).findIdx? fun x=>decide (x.name=n):=by
 unfold z6;rw[rZ,Hq];rfl
theorem XE:zp r.er n=(r.units.getD []).findIdx? fun x=>decide (x.name=n):=by
 unfold zp;rw[mX,Hq];rfl
theorem E9 (hl:(r.ae.getD []).length≤SM):wX r n=Ey (eG (z6 r.er n)):=by
 rw[Ng];unfold wX
 exact mW (p:=fun x=>decide (x.name=n)) hl fun i=>rfl
theorem vR (hl:(r.ae.getD []).length≤SM):oC r n=Ey (eG (z6 r.er n)):=by
 have:Ip ((r.ae.getD []).length:Int) r n=Ey (eG (z6 r.er n)):=by
  rw[Ng];unfold Ip
  refine mW (p:=fun x=>decide (x.name=n)) hl fun i=>?_
  unfold Iq f206
  congr 1
  cases qr (r.ae.getD []) i<;>rfl
 unfold oC;rw[this];rfl
theorem Nh (hl:(r.units.getD []).length≤SM):B7 r n=Ey (eG (zp r.er n)):=by
 rw[XE];unfold B7
 exact mW (p:=fun x=>decide (x.name=n)) hl fun i=>rfl
theorem wY (hl:(r.units.getD []).length≤SM):f76 r n=Ey (eG (zp r.er n)):=by
 have:Ir ((r.units.getD []).length:Int) r n=Ey (eG (zp r.er n)):=by
  rw[XE];unfold Ir
  refine mW (p:=fun x=>decide (x.name=n)) hl fun i=>?_
  unfold Iu Ni
  congr 1
  cases qr (r.units.getD []) i<;>rfl
 unfold f76;rw[this];rfl
end Go.Z
namespace Go.Z
open Go Go.Abs Go.W
theorem q0p {i}(h:i<9223372036854775807):qe .i64 (((i+1:Nat):Int)-1)=(i:Int):=by
 have:=yh (i:=i) h
 rw[show(((i+1:Nat):Int)-1)=(i:Int) by omega]
 cases i with
 |zero=>rfl
 |succ j=>
  have:=yh (i:=j) (by omega)
  rw[show((j+1:Nat):Int)=(j:Int)+1 by omega,this];omega
variable {r:aj}{n:List UInt8}
theorem XF {sp}(h:ko r.er n=Ey sp):∃k p,z6 r.er n=Ey k∧(r.ae.getD [])[k]?=Ey p∧p.er=sp∧p.name=n:=by
 unfold ko at h
 cases hk:z6 r.er n with
 |none=>rw[hk]at h;cases h
 |some k=>
  rw[hk]at h
  simp only[Hv,rZ,Hr]at h
  cases hp:(r.ae.getD [])[k]? with
  |none=>rw[hp]at h;cases h
  |some p=>
   rw[hp]at h
   rw[Ng]at hk
   obtain⟨x,h1,h2,_⟩:=bg hk
   rw[hp]at h1;cases h1
   exact⟨k,p,rfl,hp,by simpa using h,of_decide_eq_true h2⟩
theorem ju0 {u d}(hP:(r.ae.getD []).length≤SM)(hB:∀p∈r.ae.getD [],(p.aM.getD []).length≤SM)(hd:ky r.er u.er=Ey d):∃D,pY r u=Ey D∧pZ r u=Ey D∧D.er=d:=by
 unfold ky at hd
 cases hp:ko r.er u.er.product with
 |none=>rw[hp]at hd;cases hd
 |some sp=>
  rw[hp]at hd
  obtain⟨k,p,h1,h2,rfl,_⟩:=XF hp
  simp only[Hv,B8]at hd
  have hB:=hB p (Gq h2)
  split at hd
  ·rename_i hv
   obtain⟨i,hi⟩:∃i:Nat,u.version=((i+1:Nat):Int):=⟨(u.version-1).toNat,by have:1≤u.version:=hv;omega⟩
   have he:(u.er.version-1).toNat=i:=by show(u.version-1).toNat=i;omega
   rw[he]at hd
   have pi:((p.aM.getD []).map bL.er)[i]?=Ey d:=hd
   rw[Hr]at pi
   cases hD:(p.aM.getD [])[i]? with
   |none=>rw[hD]at pi;cases pi
   |some D=>
    rw[hD]at pi
    have br:=(Gp.1 hD).1
    have hw:qe .i64 (u.version-1)=(i:Int):=by rw[hi];exact q0p (by unfold SM at hB;omega)
    refine⟨D,?_,?_,by simpa using pi⟩
    ·unfold pY
     rw[vR hP,show z6 r.er u.product=Ey k from h1]
     simp only[qa,eG,jb h2,hw,jb hD]
    ·unfold pZ
     rw[E9 hP,show z6 r.er u.product=Ey k from h1]
     simp only[qa,eG,jb h2,hw,jb hD]
  ·cases hd
theorem Nj {u v}(hP:(r.ae.getD []).length≤SM)(hd:nQ r.er u.er=Ey v):Fc r u=Ey v∧Fe r u=Ey v:=by
 unfold nQ at hd
 cases hp:ko r.er u.er.product with
 |none=>rw[hp]at hd;cases hd
 |some sp=>
  rw[hp]at hd
  obtain⟨k,p,h1,h2,rfl,_⟩:=XF hp
  have hv:v=((p.aM.getD []).length:Int):=by
   simp only[Option.map_some,Ey.injEq]at hd
   rw[←hd]
   show((((p.aM.getD []).map bL.er).length:Nat):Int)=_
   rw[Ia]
  subst hv
  refine⟨?_,?_⟩
  ·unfold Fc Ff
   rw[vR hP,show z6 r.er u.product=Ey k from h1]
   simp only[qa,eG,jb h2]
  ·unfold Fe
   rw[E9 hP,show z6 r.er u.product=Ey k from h1]
   simp only[qa,eG,jb h2]
theorem XG {α γ ε:Type}(g:γ→α→γ):∀(l:List α) (i:Nat) (c:γ),E3 (fun _ c x=>(.inl (g c x):γ⊕ε)) i c l=.inl (l.foldl g c)
 | [],i,c=>rfl
 |x::l,i,c=>by simp only[E3,G0];exact XG g l (i+1) (g c x)
theorem Fg {α γ σ δ:Type}(l:List α)(f:σ→Option (σ⊕δ))(mk:Nat→γ→σ)(g:γ→α→γ)(En:γ→δ)(c:γ)(dD:∀c,f (mk l.length c)=Ey (.inr (En c)))
  (cK:∀i c x,l[i]?=Ey x→i<l.length→f (mk i c)=Ey (.inl (mk (i+1) (g c x)))):bm f (mk 0 c)=Ey (En (l.foldl g c)):=by
 have:=q63 (ε:=Empty) l f mk (fun _ c x=>.inl (g c x)) En (fun e=>nomatch e) (fun _ _=>True) c (fun c _=>dD c) (fun i c x hx hi _=>⟨trivial,cK i c x hx hi⟩) trivial
 rw[this,XG]
theorem jqh {u t}(hl:(u.results.getD []).length≤SM):Iw u t=Ey (iW u.er t):=by
 unfold Iw
 have:=Fg (u.results.getD []) (B9 u t) (fun i (c:Bool)=>(c,(i:Int))) (fun is x=>if decide (x.k=t.k)&&decide (x.a=u.version)then decide (t.a≤x.b)&&decide (x.b≤t.b)else is) (fun c=>(c,((u.results.getD []).length:Int))) Gv (fun c=>by unfold B9;simp only[zr];rfl)
  (fun i c x hx hi=>by
   unfold B9
   simp only[ye hi,cond_true,qa,jb hx]
   rw[yh (by unfold SM at hl;omega)]
   by_cases h1:x.k=t.k<;>by_cases h2:x.a=u.version<;>by_cases h3:t.a≤x.b<;>simp[h1,h2,h3])
 rw[show((Gv,(0:Int)):Bool×Int)=(Gv,((0:Nat):Int))from rfl,this]
 rfl
theorem jr0 {u t}(hl:(u.results.getD []).length≤SM)(hv:u.version≠-1):Ix u t=Ey (iW u.er t):=by
 unfold Ix
 have:=Fg (u.results.getD []) (Cb u t) (fun i (c:je)=>((i:Int),c.k,c.a,c.b)) (fun c x=>if decide (x.k=t.k)&&decide (x.a=u.version)then x else c) (fun c=>(((u.results.getD []).length:Int),c.k,c.a,c.b)) ⟨[],-1,0⟩ (fun c=>by unfold Cb;simp only[zr];rfl)
  (fun i c x hx hi=>by
   unfold Cb
   simp only[ye hi,cond_true,qa,jb hx]
   rw[yh (by unfold SM at hl;omega)]
   by_cases h1:x.k=t.k<;>by_cases h2:x.a=u.version<;>simp[h1,h2])
 rw[show(((0:Int),([]:List UInt8),(-1:Int),(0:Int)):Int×List UInt8×Int×Int)=(((0:Nat):Int),[],-1,0)from rfl]
 simp only[]at this
 rw[this]
 simp only[qa]
 have key:∀(l:List je) (c:je) (b:Bool),(c=⟨[],-1,0⟩∧b=Gv∨c.a=u.version∧b=(decide (t.a≤c.b)&&decide (c.b≤t.b))) →
   (let c':=l.foldl (fun c x=>if decide (x.k=t.k)&&decide (x.a=u.version)then x else c) c
    let b':=l.foldl (fun is x=>if decide (x.k=t.k)&&decide (x.a=u.version)then decide (t.a≤x.b)&&decide (x.b≤t.b)else is) b
    c'=⟨[],-1,0⟩∧b'=Gv∨c'.a=u.version∧b'=(decide (t.a≤c'.b)&&decide (c'.b≤t.b))):=by
  intro l
  induction l with
  |nil=>intro c b h;exact h
  |cons x l ih=>
   intro c b h
   simp only[G0]
   apply ih
   by_cases h1:x.k=t.k<;>by_cases h2:x.a=u.version
   ·simp only[h1,h2,decide_true,If,if_true]
    right;trivial
   all_goals simpa only[h1,h2,decide_true,decide_false,Ic,Ie,If,Gn,if_false]using h
 have k:=key (u.results.getD []) ⟨[],-1,0⟩ Gv (.inl ⟨rfl,rfl⟩)
 simp only at k
 show _=Ey ((u.results.getD []).foldl (fun is x=>if decide (x.k=t.k)&&decide (x.a=u.version)then decide (t.a≤x.b)&&decide (x.b≤t.b)else is) Gv)
 rcases k with⟨h1,h2⟩|⟨h1,h2⟩
 ·rw[h2,h1];rfl
 ·rw[h2]
  generalize (u.results.getD []).foldl (fun c x=>if decide (x.k=t.k)&&decide (x.a=u.version)then x else c) ⟨[],-1,0⟩=c at h1
  have:decide (c.a=-1)=Gv:=decide_eq_false (by rw[h1];exact hv)
  simp only[this,Ic,Ie,cond_false]
  by_cases h3:t.a≤c.b<;>simp[h3]
end Go.Z
namespace Go.Z
open Go Go.Abs Go.W
theorem XH {α β:Type}(p:α→Bool)(g:α→β):∀l:List α,(l.flatMap fun x=>if p x then [g x]else [])=(l.filter p).map g
 | []=>rfl
 |x::l=>by
  rw[G5,XH p g l,Hx]
  cases p x<;>rfl
theorem XI {α β:Type}{l:List α}{p:α→Bool}{g:α→β}{f}(hl:l.length≤SM)
  (dD:∀o w,f (o,(l.length:Int),w)=Ey (.inr (o,w,(l.length:Int))))
  (hf:∀(i:Nat) x o w,l[i]?=Ey x→f (o,(i:Int),w)=cond (p x) (cond w (qa (bH o [g x]) fun v=>Ey (.inl (v,((i+1:Nat):Int),Gs))) (cond o.isNone (qa (bH o [g x]) fun v=>Ey (.inl (v,((i+1:Nat):Int),Gs))) He)) (Ey (.inl (o,((i+1:Nat):Int),w)))):
  bm f (He,0,Gv)=Ey (jl ((l.filter p).map g),ic ((l.filter p).map g),(l.length:Int)):=by
 have:=jhr l (fun i=>(i:Int)) f (fun x=>if p x then [g x]else []) [] (fun i a=>a.length≤i) (Gt _) (fun a=>dD _ _) (fun i x a hx hi ha=>by
  cases hp:p x with
  |true=>
   refine⟨by simp;omega,?_⟩
   rw[hf i x _ _ hx,hp]
   simp only[cond_true,if_true]
   rw[Cc]
   exact zP (x:=g x) (k:=fun v=>Ey (Ha (v,((i+1:Nat):Int),Gs))) (by unfold SM at hl;omega)
  |false=>
   refine⟨by simp;omega,?_⟩
   rw[hf i x _ _ hx,hp]
   simp)
 rw[XH,Hb]at this
 exact this
theorem Nk {α:Type}{l:List α}{p:α→Bool}{q:α→Option Bool}{f}(hl:l.length≤SM)(hq:∀x∈l,q x=Ey (p x))
  (hf:∀s,f s=cond (decide (s.2.1<(l.length:Int))) (qa (qr l s.2.1) fun x=>qa (q x) fun b=>cond b (cond s.2.2 (qa (bH s.1 [x]) fun v=>Ey (.inl (v,qe .i64 (s.2.1+1),Gs))) (cond s.1.isNone (qa (bH s.1 [x]) fun v=>Ey (.inl (v,qe .i64 (s.2.1+1),Gs))) He)) (Ey (.inl (s.1,qe .i64 (s.2.1+1),s.2.2)))) (Ey (.inr (s.1,s.2.2,s.2.1)))):
  bm f (He,0,Gv)=Ey (jl (l.filter p),ic (l.filter p),(l.length:Int)):=by
 have:=XI (l:=l) (p:=p) (g:=fun x=>x) (f:=f) hl (fun o w=>by rw[hf];simp only[zr,cond_false]) (fun i x o w hx=>by
  have hi:=(Gp.1 hx).1
  rw[hf]
  simp only[ye hi,cond_true,qa,jb hx,hq x (Gq hx)]
  rw[yh (by unfold SM at hl;omega)])
 simpa using this
theorem Iy {α β:Type}{l:List α}{g:α→β}{q:α→Option β}{f}(hl:l.length≤SM)(hq:∀x∈l,q x=Ey (g x))
  (hf:∀s,f s=cond (decide (s.2.1<(l.length:Int))) (qa (qr l s.2.1) fun x=>qa (q x) fun b=>cond s.2.2 (qa (bH s.1 [b]) fun v=>Ey (.inl (v,qe .i64 (s.2.1+1),Gs))) (cond s.1.isNone (qa (bH s.1 [b]) fun v=>Ey (.inl (v,qe .i64 (s.2.1+1),Gs))) He)) (Ey (.inr (s.1,s.2.2,s.2.1)))):
  bm f (He,0,Gv)=Ey (jl (l.map g),ic (l.map g),(l.length:Int)):=by
 have:=XI (l:=l) (p:=fun _=>Gs) (g:=g) (f:=f) hl (fun o w=>by rw[hf];simp only[zr,cond_false]) (fun i x o w hx=>by
  have hi:=(Gp.1 hx).1
  rw[hf]
  simp only[ye hi,cond_true,qa,jb hx,hq x (Gq hx)]
  rw[yh (by unfold SM at hl;omega)])
 rw[List.filter_eq_self.2 (fun _ _=>rfl)]at this
 exact this
variable {r:aj}{u:ay}{D:bL}
theorem qv8 {α:Type}{l:List α}{p}(hl:l.length≤SM):(l.filter p).length≤SM:=Nat.le_trans (List.length_filter_le _ _) hl
theorem jfg (hd:pY r u=Ey D)(hr:(u.results.getD []).length≤SM)(ht:(D.az.getD []).length≤SM)(hv:u.version≠-1):∃w,f78 r u=Ey (jl (mY D.er u.er),w):=by
 unfold f78
 rw[hd]
 simp only[qa]
 have h1:Iz D.az u=Ey (jl ((D.az.getD []).filter fun t=>!iW u.er t),ic ((D.az.getD []).filter fun t=>!iW u.er t)):=by
  unfold Iz
  rw[Nk (f:=IA D.az u) (l:=D.az.getD []) (p:=fun t=>!iW u.er t) (q:=fun t=>IB t u) ht (fun x _=>by unfold IB;rw[jr0 hr hv];rfl) (fun s=>rfl)]
  rfl
 rw[h1]
 simp only[]
 have h2:f129 (jl ((D.az.getD []).filter fun t=>!iW u.er t))=Ey (jl (mY D.er u.er),ic (mY D.er u.er)):=by
  unfold f129
  rw[Iy (f:=IC (jl ((D.az.getD []).filter fun t=>!iW u.er t))) (l:=((jl ((D.az.getD []).filter fun t=>!iW u.er t)).getD [])) (g:=fun t:je=>t.k) (q:=Nn) (by rw[j8];exact qv8 ht) (fun x _=>rfl) (fun s=>rfl),j8]
  rfl
 rw[h2]
 exact⟨_,rfl⟩
theorem q9k (hd:pZ r u=Ey D)(hr:(u.results.getD []).length≤SM)(ht:(D.az.getD []).length≤SM):∃w,Fh r u=Ey (jl (mY D.er u.er),w):=by
 unfold Fh
 rw[hd]
 simp only[qa]
 have:=XI (l:=D.az.getD []) (p:=fun t=>!iW u.er t) (g:=fun t:je=>t.k) (f:=Cd u D) ht (fun o w=>by unfold Cd;simp only[zr,cond_false]) (fun i x o w hx=>by
  have hi:=(Gp.1 hx).1
  unfold Cd
  simp only[ye hi,cond_true,qa,jb hx,jqh hr]
  rw[yh (by unfold SM at ht;omega)]
  cases iW u.er x<;>rfl)
 rw[this]
 exact⟨_,rfl⟩
theorem XJ {n x}(h:mZ r.er n=Ey x):∃k:Nat,zt r.er n=Ey k∧(r.lots.getD [])[k]?=Ey x:=by
 unfold mZ at h
 cases hk:zt r.er n with
 |none=>rw[hk]at h;cases h
 |some k=>rw[hk]at h;exact⟨k,rfl,h⟩
theorem IE {n}(h:(zt r.er n).isSome=Gs):∃x,mZ r.er n=Ey x:=by
 unfold mZ
 cases hk:zt r.er n with
 |none=>rw[hk]at h;cases h
 |some k=>
  obtain⟨x,h1,_⟩:=bg hk
  exact⟨x,h1⟩
def Np (r:ju)(kind:Str)(n:Int)(x:bq):Int:=if(mZ r x.k).any (fun l=>decide (l.kind=kind))then qe .i64 (n+x.n)else n
theorem jsa {kind}(hL:(r.lots.getD []).length≤SM)(hu:(u.uses.getD []).length≤SM)(hw:∀x∈u.uses.getD [],(zt r.er x.k).isSome=Gs):IF r u kind=Ey (Fi (qe .i64) r.er u.er kind):=by
 unfold IF
 have:=Fg (u.uses.getD []) (Ce r u kind) (fun i (c:Int)=>(c,(i:Int))) (Np r.er kind) (fun c=>(c,((u.uses.getD []).length:Int))) 0 (fun c=>by unfold Ce;simp only[zr];rfl)
  (fun i c x hx hi=>by
   obtain⟨y,hy⟩:=IE (hw x (Gq hx))
   obtain⟨k,h1,h2⟩:=XJ hy
   unfold Ce Np
   simp only[ye hi,cond_true,qa,jb hx,Ik hL,h1,eG,jb h2,hy,G1]
   rw[yh (by unfold SM at hu;omega)]
   by_cases h3:y.kind=kind<;>simp[h3])
 rw[show(((0:Int),(0:Int)):Int×Int)=((0:Int),((0:Nat):Int))from rfl,this]
 rfl
theorem q9b {σ:Type}{step g}(I:Nat→σ→Prop)(hL:(r.lots.getD []).length≤SM)(hu:(u.uses.getD []).length≤SM)
  (hg:∀i x c,(u.uses.getD [])[i]?=Ey x→I i c→I (i+1) (g c x)∧∃y,mZ r.er x.k=Ey y∧step c y x.n=Ey (g c x)) (c:σ) (hI:I 0 c):bm (pj r u step) (0,c)=Ey (((u.uses.getD []).length:Int),(u.uses.getD []).foldl g c):=by
 have:=q63 (ε:=Empty) (u.uses.getD []) (pj r u step) (fun i (c:σ)=>((i:Int),c)) (fun _ c x=>.inl (g c x)) (fun c=>(((u.uses.getD []).length:Int),c)) (fun e=>nomatch e) I c (fun c _=>by unfold pj;simp only[zr];rfl)
  (fun i c x hx hi hI=>by
   obtain⟨hI',y,h1,h2⟩:=hg i x c hx hI
   obtain⟨k,h3,h4⟩:=XJ h1
   refine⟨hI',?_⟩
   unfold pj
   simp only[ye hi,cond_true,qa,jb hx,B6 hL,h3,eG,jb h4,h2]
   rw[yh (by unfold SM at hu;omega)]) hI
 rw[show((0:Int),c)=(((0:Nat):Int),c)from rfl,this,XG]
end Go.Z
namespace Go.Z
open Go Go.Abs Go.W
variable {r:aj}{u:ay}{D:bL}
theorem q6t {k v}:∀l:List (List UInt8×Int),(ll l k v).length≤l.length+1
 | []=>Gt _
 |p::l=>by
  unfold ll
  split
  ·simp
  ·simp only[Hy];exact Hz (q6t l)
theorem IG {α γ:Type}{l:List α}{i x}(hx:l[i]?=Ey x)(g:γ→α→γ)(c:γ):(l.take (i+1)).foldl g c=g ((l.take i).foldl g c) x:=by
 rw[List.take_add_one,hx,List.foldl_append];rfl
theorem jpd (hL:(r.lots.getD []).length≤SM)(hu:(u.uses.getD []).length≤SM)(hw:∀x∈u.uses.getD [],(zt r.er x.k).isSome=Gs):∃M,bm (pj r u wZ) (0,[])=Ey (((u.uses.getD []).length:Int),M)∧∀kind,mU M kind=Fi (qe .i64) r.er u.er kind:=by
 let g:List (List UInt8×Int)→bq→List (List UInt8×Int):=fun c x=>match mZ r.er x.k with
  |some y=>ll c y.kind (qe .i64 (mU c y.kind+x.n))
  |none=>c
 let I:Nat→List (List UInt8×Int)→Prop:=fun i M=>M.length≤i∧∀kind,mU M kind=((u.uses.getD []).take i).foldl (Np r.er kind) 0
 have hg:∀i x c,(u.uses.getD [])[i]?=Ey x→I i c→I (i+1) (g c x)∧∃y,mZ r.er x.k=Ey y∧wZ c y x.n=Ey (g c x):=by
  intro i x c hx hI
  obtain⟨y,hy⟩:=IE (hw x (Gq hx))
  have hi:=(Gp.1 hx).1
  have Vo:g c x=ll c y.kind (qe .i64 (mU c y.kind+x.n)):=by simp only[g,hy]
  rw[Vo]
  refine⟨⟨Nat.le_trans (q6t _) (Hz hI.1),fun kind=>?_⟩,y,hy,?_⟩
  ·rw[IG hx,jmr,←hI.2 kind]
   unfold Np
   rw[hy]
   simp only[G1]
   by_cases hk:kind=y.kind
   ·subst hk;simp
   ·have dz:¬y.kind=kind:=fun h=>hk h.symm
    simp[hk,dz]
  ·unfold wZ Nc
   rw[if_pos (by have:=hI.1;unfold SM at hu;omega)]
 have:=q9b (step:=wZ) (g:=g) I hL hu hg [] ⟨Gt _,fun kind=>rfl⟩
 have hI:∀(k i:Nat) (c:List (List UInt8×Int)),i+k=(u.uses.getD []).length→I i c→I (u.uses.getD []).length (((u.uses.getD []).drop i).foldl g c):=by
  intro k
  induction k with
  |zero=>
   intro i c hi hc
   have:i=(u.uses.getD []).length:=by omega
   subst this
   rw[Gz (Gt _)];exact hc
  |succ k ih=>
   intro i c hi hc
   obtain⟨x,hx⟩:∃x,(u.uses.getD [])[i]?=Ey x:=⟨_,Gw (by omega)⟩
   rw[rW hx,G0]
   exact ih (i+1) _ (by omega) (hg i x c hx hc).1
 have h2:=hI _ 0 [] (Nat.zero_add _) ⟨Gt _,fun kind=>rfl⟩
 rw[Hc]at h2
 refine⟨_,this,fun kind=>?_⟩
 rw[h2.2 kind,List.take_length]
 rfl
theorem xa (o:Option Nat):decide (0≤eG o)=o.isSome:=by
 cases o with
 |none=>rfl
 |some k=>exact decide_eq_true (by show(0:Int)≤(k:Int);omega)
theorem cA {α:Type}{p:α→Bool}{l:List α}:(l.findIdx? p).isSome=l.any p:=by rw[Fj]
theorem jnw {l:Option (List bq)}{M:List (List UInt8×Int)}(hl:(l.getD []).length≤SM):IH l M=Ey ((l.getD []).any fun n=>decide (mU M n.k<n.n)):=by
 have:II l M=Ey (eG ((l.getD []).findIdx? fun n=>decide (mU M n.k<n.n))):=by
  unfold II
  exact mW (p:=fun n=>decide (mU M n.k<n.n)) hl fun i=>rfl
 unfold IH
 rw[this]
 simp only[qa,xa,cA]
theorem jrg (hL:(r.lots.getD []).length≤SM)(hu:(u.uses.getD []).length≤SM)(hw:∀x∈u.uses.getD [],(zt r.er x.k).isSome=Gs)(hd:pY r u=Ey D)(hn:(D.aK.getD []).length≤SM):IJ r u=Ey (zR (qe .i64) r.er D.er u.er):=by
 obtain⟨M,h1,h2⟩:=jpd hL hu hw
 unfold IJ
 rw[h1,hd]
 simp only[qa,jnw hn,Ey.injEq]
 unfold zR
 rw[show D.er.aK=D.aK.getD []from rfl]
 induction D.aK.getD []with
 |nil=>rfl
 |cons n l ih=>
  rw[G6,Ig,Bool.not_or,ih,h2]
  congr 1
  by_cases h:Fi (qe .i64) r.er u.er n.k<n.n
  ·rw[decide_eq_true h,decide_eq_false (by omega)];rfl
  ·rw[decide_eq_false h,decide_eq_true (by omega)];rfl
theorem jpz (hL:(r.lots.getD []).length≤SM)(hu:(u.uses.getD []).length≤SM)(hw:∀x∈u.uses.getD [],(zt r.er x.k).isSome=Gs)(hd:pZ r u=Ey D)(hn:(D.aK.getD []).length≤SM):IK r u=Ey (zR (qe .i64) r.er D.er u.er):=by
 unfold IK
 rw[hd]
 simp only[qa]
 obtain⟨d,h1,h2⟩:=Xw (D.aK.getD []) (Cf r u D) (fun n=>decide (n.n≤Fi (qe .i64) r.er u.er n.k)) (fun d=>match d with | .inl _=>Gv | .inr _=>Gs) ⟨.inr ((D.aK.getD []).length:Int),by unfold Cf;simp only[zr];rfl,rfl⟩ (fun i x hx hi=>by
  unfold Cf
  simp only[ye hi,cond_true,qa,jb hx,jsa hL hu hw]
  rw[yh (by unfold SM at hn;omega)]
  by_cases h:Fi (qe .i64) r.er u.er x.k<x.n
  ·exact .inr ⟨decide_eq_false (by omega),.inl (),by rw[decide_eq_true h];rfl,rfl⟩
  ·exact .inl ⟨decide_eq_true (by omega),by rw[decide_eq_false h];rfl⟩)
 rw[h1]
 unfold zR
 rw[show D.er.aK=D.aK.getD []from rfl,←h2]
 cases d<;>rfl
def Fk (r:ju)(us:List bq):List jd:=us.map fun x=>(mZ r x.k).getD ⟨[],[],0,0,Gv⟩
theorem jh0 (hL:(r.lots.getD []).length≤SM)(hu:(u.uses.getD []).length≤SM)(hw:∀x∈u.uses.getD [],(zt r.er x.k).isSome=Gs):bm (pj r u zS) (0,He)=Ey (((u.uses.getD []).length:Int),jl (Fk r.er (u.uses.getD []))):=by
 let gx:bq→jd:=fun x=>(mZ r.er x.k).getD ⟨[],[],0,0,Gv⟩
 let g:Option (List jd)→bq→Option (List jd):=fun c x=>jl (c.getD []++[gx x])
 have:=q9b (step:=zS) (g:=g) (fun i c=>∃a:List jd,c=jl a∧a.length=i) hL hu (fun i x c hx hI=>by
  obtain⟨a,rfl,ha⟩:=hI
  have hi:=(Gp.1 hx).1
  obtain⟨y,hy⟩:=IE (hw x (Gq hx))
  have hgx:gx x=y:=by simp only[gx,hy,Gy]
  refine⟨⟨a++[y],by simp only[g,hgx,j8],by simp[ha]⟩,y,hy,?_⟩
  unfold zS
  rw[qwi (by unfold SM at hu;omega)]
  simp only[g,hgx,j8]) He ⟨[],rfl,rfl⟩
 rw[this]
 congr 2
 have key:∀(l:List bq) (a:List jd),l.foldl g (jl a)=jl (a++l.map gx):=by
  intro l
  induction l with
  |nil=>intro a;simp
  |cons x l ih=>
   intro a
   rw[G0,show g (jl a) x=jl (a++[gx x]) by simp only[g,j8],ih,G7,Hu];rfl
 have:=key (u.uses.getD []) []
 rw[Hb]at this
 exact this
theorem q7a (hw:∀x∈u.uses.getD [],(zt r.er x.k).isSome=Gs):vS r.er u.er=!((Fk r.er (u.uses.getD [])).filter (·.held)).isEmpty:=by
 unfold vS Fk
 rw[show u.er.uses=u.uses.getD []from rfl]
 revert hw
 generalize u.uses.getD []=us
 intro hw
 induction us with
 |nil=>rfl
 |cons x l ih=>
  obtain⟨y,hy⟩:=IE (hw x (Hl ..))
  rw[G6,ih (fun x hx=>hw x (Hd _ hx)),G7,Hx,hy]
  simp only[G1,Gy]
  cases y.held<;>rfl
theorem kI {b e}:f48 b e=Ey (if b then e else 0):=by unfold f48;cases b<;>rfl
theorem jrx {l}(hl:l.length≤SM):IL (jl l)=Ey (jl (l.filter (·.held)),ic (l.filter (·.held))):=by
 unfold IL
 rw[Nk (f:=IP (jl l)) (l:=(jl l).getD []) (p:=fun x:jd=>x.held) (q:=fun x=>Nq x) (by rw[j8];exact hl) (fun x _=>rfl) (fun s=>rfl),j8]
 rfl
def ie:List Int→Int
 | []=>0
 |e::l=>if e=0 then ie l else e
theorem jH {l}(hl:l.length≤SM):f46 (Ey l)=Ey (ie l):=by
 unfold f46
 have:=Ii l.length (fun i=>(i:Int)) (Cg (Ey l)) (fun d=>match d with | .inl k=>k | .inr _=>(0:Int)) (fun i=>ie (l.drop i)) ⟨.inr (l.length:Int),by unfold Cg;simp only[Gy,zr];rfl,by rw[Gz (Gt _)];rfl⟩ (fun i hi=>by
  obtain⟨x,hx⟩:∃x,l[i]?=Ey x:=⟨_,Gw hi⟩
  unfold Cg
  simp only[Gy,ye hi,cond_true,qa,jb hx,rW hx,ie]
  by_cases h0:x=0
  ·simp only[h0,decide_true,cond_true,if_true]
   rw[yh (by unfold SM at hl;omega)]
   left;constructor<;>first|rfl|trivial
  ·simp only[h0,decide_false,cond_false,if_false]
   exact .inr ⟨_,rfl,rfl⟩)
 obtain⟨d,h1,h2⟩:=this
 rw[show((0:Int))=((0:Nat):Int)from rfl,h1]
 rw[Hc]at h2
 simp only[qa]
 rw[←h2]
 cases d<;>rfl
theorem qyd {α:Type}{l:List α}:decide (0<(((jl l).getD []).length:Int))=!l.isEmpty:=by
 rw[j8]
 cases l with
 |nil=>rfl
 |cons x l=>simp
theorem q0d {w r u d v}(hd:ky r u=Ey d)(hv:nQ r u=Ey v):lE w r u=if u.shipped then 21 else if u.version≠v then 32 else if !zR w r d u then 20 else if !(mY d u).isEmpty then 31 else if vS r u then 34 else 0:=by
 unfold lE
 rw[hd,hv]
 cases u.shipped
 ·by_cases h:u.version=v
  ·simp[h]
  ·simp[h,Ne.symm h]
 ·rfl
theorem jha {v:Int}(hP:(r.ae.getD []).length≤SM)(jD:nQ r.er u.er=Ey v)(hL:(r.lots.getD []).length≤SM)(hu:(u.uses.getD []).length≤SM)(hw:∀x∈u.uses.getD [],(zt r.er x.k).isSome=Gs)(hd:pY r u=Ey D)(hp:ky r.er u.er=Ey D.er)(hn:(D.aK.getD []).length≤SM)(hr:(u.results.getD []).length≤SM)(ht:(D.az.getD []).length≤SM)(hv:u.version≠-1):f79 r u=Ey (lE (qe .i64) r.er u.er):=by
 obtain⟨w,hm⟩:=jfg hd hr ht hv
 have hll:(Fk r.er (u.uses.getD [])).length≤SM:=by unfold Fk;rw[Ia];exact hu
 unfold f79
 rw[jh0 hL hu hw]
 simp only[qa,kI,(Nj hP jD).1,jrg hL hu hw hd hn,hm,jrx hll,qyd]
 rw[jH (by simp[SM]),q0d hp jD,q7a hw]
 congr 1
 show ie _=if u.shipped then 21 else if u.version≠v then 32 else _
 cases u.shipped<;>by_cases h1:u.version=v<;>cases zR (qe .i64) r.er D.er u.er<;>cases (mY D.er u.er).isEmpty<;>cases ((Fk r.er (u.uses.getD [])).filter (·.held)).isEmpty<;>simp[ie,h1]
theorem jjd (hL:(r.lots.getD []).length≤SM)(hu:(u.uses.getD []).length≤SM)(hw:∀x∈u.uses.getD [],(zt r.er x.k).isSome=Gs):(qa (bm (zT r u) 0) fun d=>match d with | .inl _=>Ey (34:Int) | .inr _=>Ey 0)=Ey (if vS r.er u.er then 34 else 0):=by
 obtain⟨d,h1,h2⟩:=Xw (u.uses.getD []) (zT r u) (fun x=>!(mZ r.er x.k).any (·.held)) (fun d=>match d with | .inl _=>Gv | .inr _=>Gs) ⟨.inr ((u.uses.getD []).length:Int),by unfold zT;simp only[zr];rfl,rfl⟩ (fun i x hx hi=>by
  obtain⟨y,hy⟩:=IE (hw x (Gq hx))
  obtain⟨k,h3,h4⟩:=XJ hy
  unfold zT
  simp only[ye hi,cond_true,qa,jb hx,Ik hL,h3,eG,jb h4,hy,G1]
  rw[yh (by unfold SM at hu;omega)]
  cases y.held with
  |true=>exact .inr ⟨rfl,.inl (),rfl,rfl⟩
  |false=>exact .inl ⟨rfl,rfl⟩)
 rw[h1]
 have h3:vS r.er u.er=!((u.uses.getD []).all fun x=>!(mZ r.er x.k).any (·.held)):=by
  unfold vS
  rw[show u.er.uses=u.uses.getD []from rfl]
  induction u.uses.getD []with
  |nil=>rfl
  |cons x l ih=>rw[G6,Ig,ih,Bool.not_and,Bool.not_not]
 rw[h3,←h2]
 cases d<;>rfl
theorem q8z {v:Int}(hP:(r.ae.getD []).length≤SM)(jD:nQ r.er u.er=Ey v)(hL:(r.lots.getD []).length≤SM)(hu:(u.uses.getD []).length≤SM)(hw:∀x∈u.uses.getD [],(zt r.er x.k).isSome=Gs)(hd:pZ r u=Ey D)(hp:ky r.er u.er=Ey D.er)(hn:(D.aK.getD []).length≤SM)(hr:(u.results.getD []).length≤SM)(ht:(D.az.getD []).length≤SM):f266 r u=Ey (lE (qe .i64) r.er u.er):=by
 rw[q0d hp jD]
 unfold f266
 cases hs:u.shipped with
 |true=>rw[show u.er.shipped=Gs from hs];rfl
 |false=>
  have lS:(⟨u.name,u.product,u.version,u.uses,u.results,u.partner,Gv,u.ai⟩:ay)=u:=by cases u;simp only at hs;rw[hs]
  rw[show u.er.shipped=Gv from hs,lS]
  obtain⟨w,hm⟩:=q9k (r:=r) (u:=u) hd hr ht
  simp only[cond_false,qa,(Nj hP jD).2,jpz hL hu hw hd hn,hm,qyd,Gn,if_false]
  have hh:=jjd hL hu hw
  simp only[qa]at hh
  by_cases h1:u.version=v
  ·rw[decide_eq_true h1,if_neg (show ¬u.er.version≠v from fun h=>h h1)]
   simp only[cond_true]
   cases zR (qe .i64) r.er D.er u.er
   ·rfl
   ·simp only[cond_true,Ih,Gn,if_false]
    cases (mY D.er u.er).isEmpty
    ·rfl
    ·simp only[Ih,cond_false,Gn,if_false]
     exact hh
  ·rw[decide_eq_false h1,if_pos (show u.er.version≠v from h1)]
   rfl
end Go.Z
namespace Go.Z
open Go Go.Abs Go.W
theorem Fl {α:Type}{o:Option (List α)}{ys}(h:(o.getD []).length+ys.length≤SM)(hy:ys≠[]):bH o ys=Ey (Ey (o.getD []++ys)):=by
 unfold bH Fm
 rw[if_pos h]
 cases o<;>cases ys<;>first|exact absurd rfl hy|rfl
theorem Ch {α:Type}{ys:List α}(h:ys.length≤SM):bH (Ey []) ys=Ey (Ey ys):=by
 unfold bH Fm
 rw[if_pos (by simpa using h)]
 cases ys<;>rfl
theorem zU {α:Type}{o:Option (List α)}{x}(h:(o.getD []).length<SM):(qa (cond o.isNone (Ey (He,Gv)) (qa (bH (Ey []) (o.getD [])) fun v=>Ey (v,Gs))) fun v1=>cond v1.2 (qa (bH v1.1 [x]) fun v4=>Ey v4) (cond v1.1.isNone (qa (bH v1.1 [x]) fun v7=>Ey v7) He))=Ey (Ey (o.getD []++[x])):=by
 cases o with
 |none=>rfl
 |some l=>
  have h':l.length<SM:=h
  simp only[Option.isNone_some,cond_false,Gy]
  rw[Ch (by omega)]
  simp only[qa,cond_true]
  rw[Fl (o:=Ey l) (by simp only[Gy,List.length_singleton];omega) (by simp)]
  rfl
theorem jra {o:Option (List jd)}{x:jd}(h:(o.getD []).length<SM):Nr o x=Ey (Ey (o.getD []++[x])):=zU h
theorem jrj {o:Option (List aS)}{x:aS}(h:(o.getD []).length<SM):Ns o x=Ey (Ey (o.getD []++[x])):=zU h
theorem jrv {o:Option (List ay)}{x:ay}(h:(o.getD []).length<SM):f225 o x=Ey (Ey (o.getD []++[x])):=zU h
theorem jr6 {o:Option (List bL)}{x:bL}(h:(o.getD []).length<SM):Nt o x=Ey (Ey (o.getD []++[x])):=zU h
theorem jq1 {o:Option (List bq)}{x:bq}(h:(o.getD []).length<SM):Nu o x=Ey (Ey (o.getD []++[x])):=zU h
theorem jpm {o:Option (List je)}{x:je}(h:(o.getD []).length<SM):f277 o x=Ey (Ey (o.getD []++[x])):=zU h
theorem jqo {o:Option (List bq)}{x:bq}(h:(o.getD []).length<SM):f284 o x=Ey (Ey (o.getD []++[x])):=zU h
theorem jq6 {o:Option (List je)}{x:je}(h:(o.getD []).length<SM):Nv o x=Ey (Ey (o.getD []++[x])):=zU h
theorem oD {α:Type}{o:Option (List α)}{i:Nat}{x y:α}{g}(hl:(o.getD []).length≤SM)(hx:(o.getD [])[i]?=Ey x)(hg:g x=Ey y):gD o (i:Int) g=Ey (Ey ((o.getD []).set i y)):=by
 unfold gD
 rw[if_pos ⟨hl,by omega⟩,Int.toNat_natCast,hx]
 simp only[hg]
theorem XK {α:Type}{o:Option (List α)}{i x}(hl:(o.getD []).length≤SM)(hx:i<(o.getD []).length):Ci o (i:Int) x=Ey (Ey ((o.getD []).set i x)):=by
 unfold Ci
 rw[if_pos ⟨hl,by omega,by omega⟩,Int.toNat_natCast]
theorem XL {α:Type}{o:Option (List α)}{x:α}{p:α→Bool}{g}(hl:(o.getD []).length<SM)(hg:∀y,g y=Ey x):
  ∃v w,(cond (decide (0≤eG ((o.getD []).findIdx? p))) (qa (gD o (eG ((o.getD []).findIdx? p)) g) fun v4=>Ey (v4,Gv)) (qa (Ey (Ey (o.getD []++[x]))) fun v6=>Ey (v6,Gs)))=Ey (v,w)∧v.getD []=kg p x (o.getD []):=by
 unfold kg
 cases h:(o.getD []).findIdx? p with
 |none=>exact⟨_,_,rfl,rfl⟩
 |some k=>
  obtain⟨y,h1,_⟩:=bg h
  rw[show decide (0≤eG (Ey k))=Gs from xa (Ey k)]
  simp only[cond_true,eG]
  rw[oD (G9 hl) h1 (hg y)]
  exact⟨_,_,rfl,rfl⟩
theorem jqm {o:Option (List bq)}{x:bq}{k}(hl:(o.getD []).length<SM):∃v w,IQ o x k=Ey (v,w)∧v.getD []=kg (di k) x (o.getD []):=by
 unfold IQ
 have:IU o k=Ey (eG ((o.getD []).findIdx? (di k))):=by unfold IU;exact mW (p:=di k) (G9 hl) fun i=>rfl
 rw[this]
 simp only[qa]
 rw[jq1 hl]
 exact XL (p:=di k) (g:=fun _=>Ey x) hl fun _=>rfl
theorem jqf {o:Option (List je)}{x s:je}(hl:(o.getD []).length<SM):∃v w,IV o x s=Ey (v,w)∧v.getD []=kg (eP s.k) x (o.getD []):=by
 unfold IV
 have:zV o s=Ey (eG ((o.getD []).findIdx? (eP s.k))):=by unfold zV;exact mW (p:=eP s.k) (G9 hl) fun i=>rfl
 rw[this]
 simp only[qa]
 rw[jpm hl]
 exact XL (p:=eP s.k) (g:=fun _=>Ey x) hl fun _=>rfl
theorem jpg {o:Option (List bq)}{x:bq}{t}(hl:(o.getD []).length<SM):∃v w,IW o x t=Ey (v,w)∧v.getD []=kg (di t.name) x (o.getD []):=by
 unfold IW
 have:zW o t=Ey (eG ((o.getD []).findIdx? (di t.name))):=by unfold zW;exact mW (p:=di t.name) (G9 hl) fun i=>rfl
 rw[this]
 simp only[qa]
 rw[jqo hl]
 exact XL (p:=di t.name) (g:=fun _=>Ey x) hl fun _=>rfl
theorem jsd {o t}(hl:(o.getD []).length≤SM):zW o t=Ey (eG ((o.getD []).findIdx? (di t.name))):=by
 unfold zW;exact mW (p:=di t.name) hl fun i=>rfl
theorem jp2 {o k}(hl:(o.getD []).length≤SM):IX o k=Ey (jl ((o.getD []).filter fun x=>!di k x),ic ((o.getD []).filter fun x=>!di k x)):=by
 unfold IX
 rw[Nk (f:=IY o k) (l:=o.getD []) (p:=fun x=>!di k x) (q:=fun x=>Nw x k) hl (fun x _=>rfl) (fun s=>rfl)]
 rfl
theorem jke {o k}(hl:(o.getD []).length≤SM):IZ o k=Ey ((o.getD []).any (di k)):=by
 have:I0 o k=Ey (eG ((o.getD []).findIdx? (di k))):=by unfold I0;exact mW (p:=di k) hl fun i=>rfl
 unfold IZ;rw[this];simp only[qa,xa,cA]
theorem jnk {o t}(hl:(o.getD []).length≤SM):I1 o t=Ey ((o.getD []).any (di t.kind)):=by
 have:I2 o t=Ey (eG ((o.getD []).findIdx? (di t.kind))):=by unfold I2;exact mW (p:=di t.kind) hl fun i=>rfl
 unfold I1;rw[this];simp only[qa,xa,cA]
theorem jmt {o s}(hl:(o.getD []).length≤SM):I3 o s=Ey ((o.getD []).any (eP s.k)):=by
 have:zV o s=Ey (eG ((o.getD []).findIdx? (eP s.k))):=by unfold zV;exact mW (p:=eP s.k) hl fun i=>rfl
 unfold I3;rw[this];simp only[qa,xa,cA]
theorem jnx {o e n}(hn:qr (e.names.getD []) 1=Ey n)(hl:(o.getD []).length≤SM):I4 o e=Ey ((o.getD []).any (eP n)):=by
 have:I5 o e=Ey (eG ((o.getD []).findIdx? (eP n))):=by
  unfold I5
  refine mW (p:=eP n) hl fun i=>?_
  unfold I8 Nx
  rw[hn]
  rfl
 unfold I4;rw[this];simp only[qa,xa,cA]
theorem XM {α β:Type}{l:List α}{h q f}(hh:∀x,(h x).length≤1)
  (dD:∀o b w,f (o,b,(l.length:Int),w)=Ey (.inr (o,w,b,(l.length:Int))))
  (hf:∀(i:Nat) x (a:List β) b,l[i]?=Ey x→i<l.length→a.length≤i→f (jl a,b,(i:Int),ic a)=Ey (.inl (jl (a++h x),b||q x,((i+1:Nat):Int),ic (a++h x)))):
  bm f (He,Gv,0,Gv)=Ey (jl (l.flatMap h),ic (l.flatMap h),l.any q,(l.length:Int)):=by
 have key:∀(k i:Nat),i+k=l.length→∀a b,a.length≤i→bm f (jl a,b,(i:Int),ic a)=Ey (jl (a++(l.drop i).flatMap h),ic (a++(l.drop i).flatMap h),b||(l.drop i).any q,(l.length:Int)):=by
  intro k
  induction k with
  |zero=>
   intro i hi a b _
   have:i=l.length:=by omega
   subst this
   rw[Gz (Gt _),List.flatMap_nil,List.append_nil,ki (dD _ _ _)]
   simp
  |succ k ih=>
   intro i hi a b ha
   obtain⟨x,hx⟩:∃x,l[i]?=Ey x:=⟨_,Gw (by omega)⟩
   rw[oA (hf i x a b hx (by omega) ha),ih (i+1) (by omega) _ _ (by rw[Hm];have:=hh x;omega),rW hx,G5,Hu,G6,Bool.or_assoc]
 have:=key l.length 0 (by omega) [] Gv (Gt _)
 rw[Hc,Hb,Bool.false_or]at this
 exact this
theorem XO {α:Type}{a:List α}{x}(h:a.length<SM):cond (ic a) (qa (bH (jl a) [x]) fun v=>Ey (v,Gs)) (cond (jl a).isNone (qa (bH (jl a) [x]) fun v=>Ey (v,Gs)) He)=Ey (jl (a++[x]),Gs):=zP (k:=fun v=>Ey (v,Gs)) h
theorem yn {α β:Type}{h:α→List β}(hh:∀x,(h x).length≤1):∀l:List α,(l.flatMap h).length≤l.length
 | []=>Gt _
 |x::l=>by rw[G5,Hm,Hy];have:=hh x;have:=yn hh l;omega
theorem jq2 {o x}(hl:(o.getD []).length<SM)(hk:zz (·.k) (o.getD []))(h0:0≤x.n):∃v w,I9 o x=Ey (v,w)∧v.getD []=k9 (o.getD []) x.k x.n:=by
 let h:bq→List bq:=fun y=>if di x.k y then(if 0<x.n then [x]else [])else [y]
 have hh:∀y,(h y).length≤1:=by intro y;simp only[h];split<;>(try split)<;>simp
 have L:=XM (l:=o.getD []) (h:=h) (q:=di x.k) (f:=Cj o x) hh (fun o b w=>by unfold Cj;simp only[zr];rfl) (fun i y a b hy hi ha=>by
  unfold Cj
  simp only[ye hi,cond_true,qa,jb hy]
  rw[yh (by unfold SM at hl;omega)]
  simp only[h,di]
  by_cases h1:y.k=x.k
  ·by_cases h2:0<x.n
   ·simp only[h1,h2,decide_true,cond_true,if_true,Hp]
    rw[Cc]
    exact zP (x:=x) (k:=fun v=>Ey (Ha (v,Gs,((i+1:Nat):Int),Gs))) (by unfold SM at hl;omega)
   ·simp[h1,h2]
  ·simp only[h1,decide_false,cond_false,Gn,if_false,Hh]
   rw[Cc]
   exact zP (x:=y) (k:=fun v=>Ey (Ha (v,b,((i+1:Nat):Int),Gs))) (by unfold SM at hl;omega))
 unfold I9
 rw[L]
 simp only[qa]
 have hlen:((o.getD []).flatMap h).length<SM:=G2 (yn hh _) hl
 by_cases hn:x.n=0
 ·have hp:decide (0<x.n)=Gv:=by rw[hn];rfl
  have hf:(o.getD []).flatMap h=(o.getD []).filter fun y=>!di x.k y:=by
   rw[show h=fun y=>if(!di x.k y)then [id y]else [] by funext y;simp only[h,hn];cases di x.k y<;>rfl,XH,List.map_id]
  unfold k9
  rw[if_pos hn,hp,←hf]
  cases (o.getD []).any (di x.k)<;>exact⟨_,_,rfl,j8 _⟩
 ·have hp:decide (0<x.n)=Gs:=decide_eq_true (by omega)
  have hf:(o.getD []).flatMap h=(o.getD []).map fun y=>if di x.k y then x else y:=by
   rw[←Na]
   congr 1
   funext y
   have:0<x.n:=by omega
   simp only[h,this,if_true]
   cases di x.k y<;>rfl
  have vn:=q0b (key:=fun y:bq=>y.k) (k:=x.k) (x:=x) hk
  unfold k9
  rw[if_neg hn,hp,show(⟨x.k,x.n⟩:bq)=x from rfl,show kg (di x.k) x (o.getD [])=Fo (di x.k) x (o.getD [])from vn.symm]
  unfold Fo
  rw[←hf]
  cases ha:(o.getD []).any (di x.k)with
  |true=>exact⟨_,_,rfl,by rw[j8];simp⟩
  |false=>
   simp only[cond_false,cond_true,Gn,if_false]
   have:=XO (x:=x) hlen
   simp only[qa]at this
   rw[this]
   exact⟨_,_,rfl,j8 _⟩
theorem jpq {o x}(hl:(o.getD []).length<SM)(hk:zz (·.k) (o.getD [])):∃v w,f260 o x=Ey (v,w)∧v.getD []=kg (eP x.k) x (o.getD []):=by
 let h:je→List je:=fun y=>if eP x.k y then [x]else [y]
 have hh:∀y,(h y).length≤1:=by intro y;simp only[h];split<;>simp
 have L:=XM (l:=o.getD []) (h:=h) (q:=eP x.k) (f:=Ck o x) hh (fun o b w=>by unfold Ck;simp only[zr];rfl) (fun i y a b hy hi ha=>by
  unfold Ck
  simp only[ye hi,cond_true,qa,jb hy]
  rw[yh (by unfold SM at hl;omega)]
  simp only[h,eP]
  by_cases h1:y.k=x.k
  ·simp only[h1,decide_true,cond_true,if_true,Hp]
   rw[Cc]
   exact zP (x:=x) (k:=fun v=>Ey (Ha (v,Gs,((i+1:Nat):Int),Gs))) (by unfold SM at hl;omega)
  ·simp only[h1,decide_false,cond_false,Gn,if_false,Hh]
   rw[Cc]
   exact zP (x:=y) (k:=fun v=>Ey (Ha (v,b,((i+1:Nat):Int),Gs))) (by unfold SM at hl;omega))
 unfold f260
 rw[L]
 simp only[qa]
 have hlen:((o.getD []).flatMap h).length<SM:=G2 (yn hh _) hl
 have hf:(o.getD []).flatMap h=(o.getD []).map fun y=>if eP x.k y then x else y:=by
  rw[←Na]
  congr 1
  funext y
  simp only[h]
  cases eP x.k y<;>rfl
 have vn:=q0b (key:=fun y:je=>y.k) (k:=x.k) (x:=x) hk
 rw[show kg (eP x.k) x (o.getD [])=Fo (eP x.k) x (o.getD [])from vn.symm]
 unfold Fo
 rw[←hf]
 cases ha:(o.getD []).any (eP x.k)with
 |true=>exact⟨_,_,rfl,by rw[j8];simp⟩
 |false=>
  simp only[cond_false,Gn,if_false]
  have:=XO (x:=x) hlen
  simp only[qa]at this
  rw[this]
  exact⟨_,_,rfl,j8 _⟩
theorem q0o {α:Type}{f}:∀ {l:List α},(∀x∈l,f x=x)→l.map f=l
 | [],_=>rfl
 |x::l,h=>by rw[G7,h x (Hl ..),q0o fun y hy=>h y (Hd _ hy)]
theorem q9m {k:List UInt8}{F:bq→bq}:∀ {l:List bq},zz (·.k) l→(l.map fun y=>if di k y then F y else y)=(match l.findIdx? (di k)with
  |some i=>(match l[i]? with
   |some x=>l.set i (F x)
   |none=>l)
  |none=>l)
 | [],_=>rfl
 |y::l,h=>by
  have h':zz (·.k) l:=(Ib.1 h).2
  have hn:¬y.k∈l.map (·.k):=(Ib.1 h).1
  rw[G7,Hj]
  cases hy:di k y with
  |true=>
   have hk:y.k=k:=of_decide_eq_true hy
   simp only[if_true]
   rw[q0o fun x hx=>by
    have:di k x=Gv:=decide_eq_false fun hxk=>hn (by rw[hk,←hxk];exact List.mem_map_of_mem hx)
    rw[this];rfl]
   rfl
  |false=>
   simp only[Gn,if_false]
   rw[q9m h']
   cases hi:l.findIdx? (di k)with
   |none=>rfl
   |some i=>
    obtain⟨x,h1,_⟩:=bg hi
    simp[h1]
theorem jqd {o k n}(hl:(o.getD []).length<SM)(hk:zz (·.k) (o.getD [])):∃v w,Ja o k n=Ey (v,w)∧v.getD []=jT (qe .i64) (o.getD []) k n:=by
 let h:bq→List bq:=fun y=>if di k y then [⟨y.k,qe .i64 (y.n+n)⟩]else [y]
 have hh:∀y,(h y).length≤1:=by intro y;simp only[h];split<;>simp
 have L:=XM (l:=o.getD []) (h:=h) (q:=di k) (f:=Cl o k n) hh (fun o b w=>by unfold Cl;simp only[zr];rfl) (fun i y a b hy hi ha=>by
  unfold Cl
  simp only[ye hi,cond_true,qa,jb hy]
  rw[yh (by unfold SM at hl;omega)]
  simp only[h,di]
  by_cases h1:y.k=k
  ·simp only[h1,decide_true,cond_true,if_true,Hp]
   rw[Cc]
   exact zP (x:=(⟨k,qe .i64 (y.n+n)⟩:bq)) (k:=fun v=>Ey (Ha (v,Gs,((i+1:Nat):Int),Gs))) (by unfold SM at hl;omega)
  ·simp only[h1,decide_false,cond_false,Gn,if_false,Hh]
   rw[Cc]
   exact zP (x:=y) (k:=fun v=>Ey (Ha (v,b,((i+1:Nat):Int),Gs))) (by unfold SM at hl;omega))
 unfold Ja
 rw[L]
 simp only[qa]
 have hlen:((o.getD []).flatMap h).length<SM:=G2 (yn hh _) hl
 have hf:(o.getD []).flatMap h=(o.getD []).map fun y=>if di k y then(⟨k,qe .i64 (n+y.n)⟩:bq)else y:=by
  rw[←Na]
  congr 1
  funext y
  simp only[h]
  cases hy:di k y with
  |false=>rfl
  |true=>rw[show y.k=k from of_decide_eq_true hy,Int.add_comm];rfl
 rw[q9m hk]at hf
 unfold jT
 cases hi:(o.getD []).findIdx? (di k)with
 |some i=>
  obtain⟨x,h1,_⟩:=bg hi
  have ha:(o.getD []).any (di k)=Gs:=by rw[Fj,hi];rfl
  rw[hi]at hf
  simp only[h1]at hf ⊢
  rw[ha,hf]
  exact⟨_,_,rfl,j8 _⟩
 |none=>
  have ha:(o.getD []).any (di k)=Gv:=by rw[Fj,hi];rfl
  rw[hi]at hf
  simp only at hf ⊢
  rw[ha]
  have:=XO (x:=(⟨k,n⟩:bq)) hlen
  simp only[qa]at this
  simp only[cond_false]
  rw[this,hf]
  exact⟨_,_,rfl,j8 _⟩
end Go.Z
