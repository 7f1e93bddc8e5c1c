/- Chapter 10, plain. -/
import Derived.Test.YtimdocpnkimlfaaGreatDoorW12
set_option linter.unusedVariables false
set_option linter.unusedSimpArgs false
set_option maxRecDepth 100000
open Option renaming some→Es,getD_some→Gd,any_some→Gu,isSome_iff_exists→Gz,none→G3,bind_some→If,isNone_some→Nk
open Bool renaming false_eq_true→E9,true→Ge,false→Gf,true_and→Gj,and_true→Gl,not_true→Gy,not_false→Jn,or_false→Ld,or_true→Np,and_eq_true→Qw,and_false→Rh,false_and→Rm,and_self→Rn
open List renaming mem_of_getElem?→Ga,getElem?_eq_some_iff→Gi,map_cons→Gn,getElem?_eq_getElem→Gp,drop_eq_nil_of_le→Gs,length_map→Gt,getElem?_map→Gv,length_cons→Gx,length_singleton→G2,foldl_cons→G4,mem_map_of_mem→G6,flatMap_cons→Ha,any_cons→Ie,map_nil→Jc,map_set→Jd,nil_append→Je,map_append→Jf,length_nil→Jg,drop_zero→Jj,mem_cons_of_mem→Jo,findIdx?_cons→Le,mem_cons_self→L9,length_append→Nn,findIdx?_map→Qe,append_assoc→Qn,filter_cons→Qr,nodup_cons→Rg,all_cons→Rp
open Nat renaming le_refl→Gm,le_of_lt→G5,lt_of_le_of_lt→G7,succ_le_succ→Qt
open Sum renaming inl→Hb
namespace Go.Z
open Go Go.Abs Go.W
def eJ:Option Nat→Int
 |some k=>(k:Int)
 |none=>-1
theorem jkq {α:Type}(l:List α)(p:α→Bool)(f:Int→Option (Int⊕(Int⊕Int)))(cL:f (l.length:Int)=Es (.inr (.inr (l.length:Int))))
  (cB:∀(i:Nat) x,l[i]?=Es x→i<l.length→f (i:Int)=Es (if p x then .inr (.inl (i:Int))else .inl ((i+1:Nat):Int))):
  ∃d,bB f 0=Es d∧(match d with | .inl k=>k | .inr _=>-1)=eJ (l.findIdx? p):=by
 have:=G9 l.length (fun i=>(i:Int)) f (fun d=>match d with | .inl k=>k | .inr _=>(-1:Int)) (fun i=>eJ (((l.drop i).findIdx? p).map (· + i))) ⟨_,cL,by rw[Gs (Gm _)];rfl⟩ (fun i hi=>by
  obtain⟨x,hx⟩:∃x,l[i]?=Es x:=⟨_,Gp hi⟩
  have h1:=cB i x hx hi
  simp only[rJ hx,Le]
  cases hp:p x with
  |true=>
   rw[hp,if_pos rfl]at h1
   exact .inr ⟨_,h1,by simp[eJ]⟩
  |false=>
   rw[hp]at h1
   refine .inl ⟨by simpa using h1,?_⟩
   simp only[E9,if_false,Option.map_map]
   congr 1
   congr 1
   funext n
   simp only[Function.comp];omega)
 obtain⟨d,h1,h2⟩:=this
 refine⟨d,h1,?_⟩
 rw[h2]
 simp
abbrev SM:Nat:=1073741824
theorem nC {α:Type}{l:List α}{p:α→Bool}{f:Int→Option (Int⊕(Int⊕Int))}(hl:l.length≤SM)
  (hf:∀i:Int,f i=cond (decide (i<(l.length:Int))) (qa (qq l i) fun x=>cond (p x) (Es (.inr (.inl i))) (Es (.inl (qe .i64 (i+1))))) (Es (.inr (.inr i)))):
  (qa (bB f 0) fun d=>match d with | .inl k=>Es k | .inr _=>Es (-1))=Es (eJ (l.findIdx? p)):=by
 obtain⟨d,h1,h2⟩:=jkq l p f (by rw[hf,z6];rfl) (fun i x hx hi=>by
  rw[hf,yo hi]
  simp only[cond_true,qa,ja hx]
  cases p x with
  |true=>rfl
  |false=>simp only[cond_false];rw[yg (by unfold SM at hl;omega)];rfl)
 rw[h1]
 simp only[qa]
 rw[←h2]
 cases d<;>rfl
variable {r:ar}{n:List UInt8}
theorem Hc (hl:(r.au.getD []).length≤SM):wC r n=Es (eJ (zm r.er n)):=by
 unfold wC zm
 exact nC (p:=fun x=>decide (x.name=n)) hl fun i=>rfl
theorem DZ (hl:(r.au.getD []).length≤SM):f64 r n=Es (eJ (zm r.er n)):=by
 have:Hd ((r.au.getD []).length:Int) r n=Es (eJ (zm r.er n)):=by
  unfold Hd zm
  refine nC (p:=fun x=>decide (x.name=n)) hl fun i=>?_
  unfold He LK
  congr 1
  cases qq (r.au.getD []) i<;>rfl
 unfold f64;rw[this];rfl
theorem yK:r.er.ae=(r.ae.getD []).map aC.er:=rfl
theorem A8:r.er.units=(r.units.getD []).map bh.er:=rfl
theorem LL:zr r.er n=(r.ae.getD []).findIdx? fun x=>decide (x.name=n):=by
 unfold zr;rw[yK,Qe];rfl
theorem Ti:zp r.er n=(r.units.getD []).findIdx? fun x=>decide (x.name=n):=by
 unfold zp;rw[A8,Qe];rfl
theorem D0 (hl:(r.ae.getD []).length≤SM):wD r n=Es (eJ (zr r.er n)):=by
 rw[LL];unfold wD
 exact nC (p:=fun x=>decide (x.name=n)) hl fun i=>rfl
theorem vq (hl:(r.ae.getD []).length≤SM):oq r n=Es (eJ (zr r.er n)):=by
 have:Hf ((r.ae.getD []).length:Int) r n=Es (eJ (zr r.er n)):=by
  rw[LL];unfold Hf
  refine nC (p:=fun x=>decide (x.name=n)) hl fun i=>?_
  unfold Hg f206
  congr 1
  cases qq (r.ae.getD []) i<;>rfl
 unfold oq;rw[this];rfl
theorem LM (hl:(r.units.getD []).length≤SM):Ba r n=Es (eJ (zp r.er n)):=by
 rw[Ti];unfold Ba
 exact nC (p:=fun x=>decide (x.name=n)) hl fun i=>rfl
theorem yL (hl:(r.units.getD []).length≤SM):f76 r n=Es (eJ (zp r.er n)):=by
 have:Hh ((r.units.getD []).length:Int) r n=Es (eJ (zp r.er n)):=by
  rw[Ti];unfold Hh
  refine nC (p:=fun x=>decide (x.name=n)) hl fun i=>?_
  unfold Hj LN
  congr 1
  cases qq (r.units.getD []) i<;>rfl
 unfold f76;rw[this];rfl
end Go.Z
namespace Go.Z
open Go Go.Abs Go.W
theorem qz3 {i}(h:i<9223372036854775807):qe .i64 (((i+1:Nat):Int)-1)=(i:Int):=by
 have:=yg (i:=i) h
 rw[show(((i+1:Nat):Int)-1)=(i:Int) by omega]
 cases i with
 |zero=>rfl
 |succ j=>
  have:=yg (i:=j) (by omega)
  rw[show((j+1:Nat):Int)=(j:Int)+1 by omega,this];omega
variable {r:ar}{n:List UInt8}
theorem Tj {sp}(h:k9 r.er n=Es sp):∃k p,zr r.er n=Es k∧(r.ae.getD [])[k]?=Es p∧p.er=sp∧p.name=n:=by
 unfold k9 at h
 cases hk:zr r.er n with
 |none=>rw[hk]at h;cases h
 |some k=>
  rw[hk]at h
  simp only[If,yK,Gv]at h
  cases hp:(r.ae.getD [])[k]? with
  |none=>rw[hp]at h;cases h
  |some p=>
   rw[hp]at h
   rw[LL]at hk
   obtain⟨x,h1,h2,_⟩:=bQ hk
   rw[hp]at h1;cases h1
   exact⟨k,p,rfl,hp,by simpa using h,of_decide_eq_true h2⟩
theorem juq {u d}(hP:(r.ae.getD []).length≤SM)(hB:∀p∈r.ae.getD [],(p.aM.getD []).length≤SM)(hd:iB r.er u.er=Es d):∃D,pK r u=Es D∧pL r u=Es D∧D.er=d:=by
 unfold iB at hd
 cases hp:k9 r.er u.er.product with
 |none=>rw[hp]at hd;cases hd
 |some sp=>
  rw[hp]at hd
  obtain⟨k,p,h1,h2,rfl,_⟩:=Tj hp
  simp only[If,D1]at hd
  have hB:=hB p (Ga h2)
  split at hd
  ·rename_i hv
   obtain⟨i,hi⟩:∃i:Nat,u.version=((i+1:Nat):Int):=⟨(u.version-1).toNat,by have:1≤u.version:=hv;omega⟩
   have he:(u.er.version-1).toNat=i:=by show(u.version-1).toNat=i;omega
   rw[he]at hd
   have oT:((p.aM.getD []).map aY.er)[i]?=Es d:=hd
   rw[Gv]at oT
   cases hD:(p.aM.getD [])[i]? with
   |none=>rw[hD]at oT;cases oT
   |some D=>
    rw[hD]at oT
    have bz:=(Gi.1 hD).1
    have hw:qe .i64 (u.version-1)=(i:Int):=by rw[hi];exact qz3 (by unfold SM at hB;omega)
    refine⟨D,?_,?_,by simpa using oT⟩
    ·unfold pK
     rw[vq hP,show zr r.er u.product=Es k from h1]
     simp only[qa,eJ,ja h2,hw,ja hD]
    ·unfold pL
     rw[D0 hP,show zr r.er u.product=Es k from h1]
     simp only[qa,eJ,ja h2,hw,ja hD]
  ·cases hd
theorem LO {u v}(hP:(r.ae.getD []).length≤SM)(hd:pM r.er u.er=Es v):D2 r u=Es v∧D3 r u=Es v:=by
 unfold pM at hd
 cases hp:k9 r.er u.er.product with
 |none=>rw[hp]at hd;cases hd
 |some sp=>
  rw[hp]at hd
  obtain⟨k,p,h1,h2,rfl,_⟩:=Tj hp
  have hv:v=((p.aM.getD []).length:Int):=by
   simp only[Option.map_some,Es.injEq]at hd
   rw[←hd]
   show((((p.aM.getD []).map aY.er).length:Nat):Int)=_
   rw[Gt]
  subst hv
  refine⟨?_,?_⟩
  ·unfold D2 D4
   rw[vq hP,show zr r.er u.product=Es k from h1]
   simp only[qa,eJ,ja h2]
  ·unfold D3
   rw[D0 hP,show zr r.er u.product=Es k from h1]
   simp only[qa,eJ,ja h2]
theorem Tk {α γ ε:Type}(g:γ→α→γ):∀(l:List α) (i:Nat) (c:γ),DU (fun _ c x=>(.inl (g c x):γ⊕ε)) i c l=.inl (l.foldl g c)
 | [],i,c=>rfl
 |x::l,i,c=>by simp only[DU,G4];exact Tk g l (i+1) (g c x)
theorem Hk {α γ σ δ:Type}(l:List α)(f:σ→Option (σ⊕δ))(mk:Nat→γ→σ)(g:γ→α→γ)(En:γ→δ)(c:γ)(cL:∀c,f (mk l.length c)=Es (.inr (En c)))
  (cB:∀i c x,l[i]?=Es x→i<l.length→f (mk i c)=Es (.inl (mk (i+1) (g c x)))):bB f (mk 0 c)=Es (En (l.foldl g c)):=by
 have:=q4u (ε:=Empty) l f mk (fun _ c x=>.inl (g c x)) En (fun e=>nomatch e) (fun _ _=>True) c (fun c _=>cL c) (fun i c x hx hi _=>⟨trivial,cB i c x hx hi⟩) trivial
 rw[this,Tk]
theorem jm2 {u t}(hl:(u.results.getD []).length≤SM):Hl u t=Es (rK u.er t):=by
 unfold Hl
 have:=Hk (u.results.getD []) (Bb u t) (fun i (c:Bool)=>(c,(i:Int))) (fun is x=>if decide (x.k=t.k)&&decide (x.a=u.version)then decide (t.a≤x.b)&&decide (x.b≤t.b)else is) (fun c=>(c,((u.results.getD []).length:Int))) Gf (fun c=>by unfold Bb;simp only[z6];rfl)
  (fun i c x hx hi=>by
   unfold Bb
   simp only[yo hi,cond_true,qa,ja hx]
   rw[yg (by unfold SM at hl;omega)]
   by_cases h1:x.k=t.k<;>by_cases h2:x.a=u.version<;>by_cases h3:t.a≤x.b<;>simp[h1,h2,h3])
 rw[show((Gf,(0:Int)):Bool×Int)=(Gf,((0:Nat):Int))from rfl,this]
 rfl
theorem jn7 {u t}(hl:(u.results.getD []).length≤SM)(hv:u.version≠-1):Hm u t=Es (rK u.er t):=by
 unfold Hm
 have:=Hk (u.results.getD []) (Bc u t) (fun i (c:jb)=>((i:Int),c.k,c.a,c.b)) (fun c x=>if decide (x.k=t.k)&&decide (x.a=u.version)then x else c) (fun c=>(((u.results.getD []).length:Int),c.k,c.a,c.b)) ⟨[],-1,0⟩ (fun c=>by unfold Bc;simp only[z6];rfl)
  (fun i c x hx hi=>by
   unfold Bc
   simp only[yo hi,cond_true,qa,ja hx]
   rw[yg (by unfold SM at hl;omega)]
   by_cases h1:x.k=t.k<;>by_cases h2:x.a=u.version<;>simp[h1,h2])
 rw[show(((0:Int),([]:List UInt8),(-1:Int),(0:Int)):Int×List UInt8×Int×Int)=(((0:Nat):Int),[],-1,0)from rfl]
 simp only[]at this
 rw[this]
 simp only[qa]
 have key:∀(l:List jb) (c:jb) (b:Bool),(c=⟨[],-1,0⟩∧b=Gf∨c.a=u.version∧b=(decide (t.a≤c.b)&&decide (c.b≤t.b))) →
   (let c':=l.foldl (fun c x=>if decide (x.k=t.k)&&decide (x.a=u.version)then x else c) c
    let b':=l.foldl (fun is x=>if decide (x.k=t.k)&&decide (x.a=u.version)then decide (t.a≤x.b)&&decide (x.b≤t.b)else is) b
    c'=⟨[],-1,0⟩∧b'=Gf∨c'.a=u.version∧b'=(decide (t.a≤c'.b)&&decide (c'.b≤t.b))):=by
  intro l
  induction l with
  |nil=>intro c b h;exact h
  |cons x l ih=>
   intro c b h
   simp only[G4]
   apply ih
   by_cases h1:x.k=t.k<;>by_cases h2:x.a=u.version
   ·simp only[h1,h2,decide_true,Rn,if_true]
    right;trivial
   all_goals simpa only[h1,h2,decide_true,decide_false,Rh,Rm,Rn,E9,if_false]using h
 have k:=key (u.results.getD []) ⟨[],-1,0⟩ Gf (.inl ⟨rfl,rfl⟩)
 simp only at k
 show _=Es ((u.results.getD []).foldl (fun is x=>if decide (x.k=t.k)&&decide (x.a=u.version)then decide (t.a≤x.b)&&decide (x.b≤t.b)else is) Gf)
 rcases k with⟨h1,h2⟩|⟨h1,h2⟩
 ·rw[h2,h1];rfl
 ·rw[h2]
  generalize (u.results.getD []).foldl (fun c x=>if decide (x.k=t.k)&&decide (x.a=u.version)then x else c) ⟨[],-1,0⟩=c at h1
  have:decide (c.a=-1)=Gf:=decide_eq_false (by rw[h1];exact hv)
  simp only[this,Rh,Rm,cond_false]
  by_cases h3:t.a≤c.b<;>simp[h3]
end Go.Z
namespace Go.Z
open Go Go.Abs Go.W
theorem Tl {α β:Type}(p:α→Bool)(g:α→β):∀l:List α,(l.flatMap fun x=>if p x then [g x]else [])=(l.filter p).map g
 | []=>rfl
 |x::l=>by
  rw[Ha,Tl p g l,Qr]
  cases p x<;>rfl
theorem Tm {α β:Type}{l:List α}{p:α→Bool}{g:α→β}{f}(hl:l.length≤SM)
  (cL:∀o w,f (o,(l.length:Int),w)=Es (.inr (o,w,(l.length:Int))))
  (hf:∀(i:Nat) x o w,l[i]?=Es x→f (o,(i:Int),w)=cond (p x) (cond w (qa (bq o [g x]) fun v=>Es (.inl (v,((i+1:Nat):Int),Ge))) (cond o.isNone (qa (bq o [g x]) fun v=>Es (.inl (v,((i+1:Nat):Int),Ge))) G3)) (Es (.inl (o,((i+1:Nat):Int),w)))):
  bB f (G3,0,Gf)=Es (jx ((l.filter p).map g),gw ((l.filter p).map g),(l.length:Int)):=by
 have:=jkp l (fun i=>(i:Int)) f (fun x=>if p x then [g x]else []) [] (fun i a=>a.length≤i) (Gm _) (fun a=>cL _ _) (fun i x a hx hi ha=>by
  cases hp:p x with
  |true=>
   refine⟨by simp;omega,?_⟩
   rw[hf i x _ _ hx,hp]
   simp only[cond_true,if_true]
   rw[Bd]
   exact wA (x:=g x) (k:=fun v=>Es (Hb (v,((i+1:Nat):Int),Ge))) (by unfold SM at hl;omega)
  |false=>
   refine⟨by simp;omega,?_⟩
   rw[hf i x _ _ hx,hp]
   simp)
 rw[Tl,Je]at this
 exact this
theorem Tn {α:Type}{l:List α}{p:α→Bool}{q:α→Option Bool}{f}(hl:l.length≤SM)(hq:∀x∈l,q x=Es (p x))
  (hf:∀s,f s=cond (decide (s.2.1<(l.length:Int))) (qa (qq l s.2.1) fun x=>qa (q x) fun b=>cond b (cond s.2.2 (qa (bq s.1 [x]) fun v=>Es (.inl (v,qe .i64 (s.2.1+1),Ge))) (cond s.1.isNone (qa (bq s.1 [x]) fun v=>Es (.inl (v,qe .i64 (s.2.1+1),Ge))) G3)) (Es (.inl (s.1,qe .i64 (s.2.1+1),s.2.2)))) (Es (.inr (s.1,s.2.2,s.2.1)))):
  bB f (G3,0,Gf)=Es (jx (l.filter p),gw (l.filter p),(l.length:Int)):=by
 have:=Tm (l:=l) (p:=p) (g:=fun x=>x) (f:=f) hl (fun o w=>by rw[hf];simp only[z6,cond_false]) (fun i x o w hx=>by
  have hi:=(Gi.1 hx).1
  rw[hf]
  simp only[yo hi,cond_true,qa,ja hx,hq x (Ga hx)]
  rw[yg (by unfold SM at hl;omega)])
 simpa using this
theorem Tp {α β:Type}{l:List α}{g:α→β}{q:α→Option β}{f}(hl:l.length≤SM)(hq:∀x∈l,q x=Es (g x))
  (hf:∀s,f s=cond (decide (s.2.1<(l.length:Int))) (qa (qq l s.2.1) fun x=>qa (q x) fun b=>cond s.2.2 (qa (bq s.1 [b]) fun v=>Es (.inl (v,qe .i64 (s.2.1+1),Ge))) (cond s.1.isNone (qa (bq s.1 [b]) fun v=>Es (.inl (v,qe .i64 (s.2.1+1),Ge))) G3)) (Es (.inr (s.1,s.2.2,s.2.1)))):
  bB f (G3,0,Gf)=Es (jx (l.map g),gw (l.map g),(l.length:Int)):=by
 have:=Tm (l:=l) (p:=fun _=>Ge) (g:=g) (f:=f) hl (fun o w=>by rw[hf];simp only[z6,cond_false]) (fun i x o w hx=>by
  have hi:=(Gi.1 hx).1
  rw[hf]
  simp only[yo hi,cond_true,qa,ja hx,hq x (Ga hx)]
  rw[yg (by unfold SM at hl;omega)])
 rw[List.filter_eq_self.2 (fun _ _=>rfl)]at this
 exact this
variable {r:ar}{u:bh}{D:aY}
theorem jaw {α:Type}{l:List α}{p}(hl:l.length≤SM):(l.filter p).length≤SM:=Nat.le_trans (List.length_filter_le _ _) hl
theorem jxf (hd:pK r u=Es D)(hr:(u.results.getD []).length≤SM)(ht:(D.aA.getD []).length≤SM)(hv:u.version≠-1):∃w,f78 r u=Es (jx (yM D.er u.er),w):=by
 unfold f78
 rw[hd]
 simp only[qa]
 have h1:Hn D.aA u=Es (jx ((D.aA.getD []).filter fun t=>!rK u.er t),gw ((D.aA.getD []).filter fun t=>!rK u.er t)):=by
  unfold Hn
  rw[Tn (f:=Ho D.aA u) (l:=D.aA.getD []) (p:=fun t=>!rK u.er t) (q:=fun t=>Hp t u) ht (fun x _=>by unfold Hp;rw[jn7 hr hv];rfl) (fun s=>rfl)]
  rfl
 rw[h1]
 simp only[]
 have h2:f129 (jx ((D.aA.getD []).filter fun t=>!rK u.er t))=Es (jx (yM D.er u.er),gw (yM D.er u.er)):=by
  unfold f129
  rw[Tp (f:=Hq (jx ((D.aA.getD []).filter fun t=>!rK u.er t))) (l:=((jx ((D.aA.getD []).filter fun t=>!rK u.er t)).getD [])) (g:=fun t:jb=>t.k) (q:=LP) (by rw[zw];exact jaw ht) (fun x _=>rfl) (fun s=>rfl),zw]
  rfl
 rw[h2]
 exact⟨_,rfl⟩
theorem jns (hd:pL r u=Es D)(hr:(u.results.getD []).length≤SM)(ht:(D.aA.getD []).length≤SM):∃w,Hr r u=Es (jx (yM D.er u.er),w):=by
 unfold Hr
 rw[hd]
 simp only[qa]
 have:=Tm (l:=D.aA.getD []) (p:=fun t=>!rK u.er t) (g:=fun t:jb=>t.k) (f:=Be u D) ht (fun o w=>by unfold Be;simp only[z6,cond_false]) (fun i x o w hx=>by
  have hi:=(Gi.1 hx).1
  unfold Be
  simp only[yo hi,cond_true,qa,ja hx,jm2 hr]
  rw[yg (by unfold SM at ht;omega)]
  cases rK u.er x<;>rfl)
 rw[this]
 exact⟨_,rfl⟩
theorem Tq {n x}(h:ot r.er n=Es x):∃k:Nat,zm r.er n=Es k∧(r.au.getD [])[k]?=Es x:=by
 unfold ot at h
 cases hk:zm r.er n with
 |none=>rw[hk]at h;cases h
 |some k=>rw[hk]at h;exact⟨k,rfl,h⟩
theorem Hs {n}(h:(zm r.er n).isSome=Ge):∃x,ot r.er n=Es x:=by
 unfold ot
 cases hk:zm r.er n with
 |none=>rw[hk]at h;cases h
 |some k=>
  obtain⟨x,h1,_⟩:=bQ hk
  exact⟨x,h1⟩
def LQ (r:bj)(kind:Str)(n:Int)(x:bn):Int:=if(ot r x.k).any (fun l=>decide (l.kind=kind))then qe .i64 (n+x.n)else n
theorem jno {kind}(hL:(r.au.getD []).length≤SM)(hu:(u.uses.getD []).length≤SM)(hw:∀x∈u.uses.getD [],(zm r.er x.k).isSome=Ge):Ht r u kind=Es (D5 (qe .i64) r.er u.er kind):=by
 unfold Ht
 have:=Hk (u.uses.getD []) (Bf r u kind) (fun i (c:Int)=>(c,(i:Int))) (LQ r.er kind) (fun c=>(c,((u.uses.getD []).length:Int))) 0 (fun c=>by unfold Bf;simp only[z6];rfl)
  (fun i c x hx hi=>by
   obtain⟨y,hy⟩:=Hs (hw x (Ga hx))
   obtain⟨k,h1,h2⟩:=Tq hy
   unfold Bf LQ
   simp only[yo hi,cond_true,qa,ja hx,Hc hL,h1,eJ,ja h2,hy,Gu]
   rw[yg (by unfold SM at hu;omega)]
   by_cases h3:y.kind=kind<;>simp[h3])
 rw[show(((0:Int),(0:Int)):Int×Int)=((0:Int),((0:Nat):Int))from rfl,this]
 rfl
theorem q7v {σ:Type}{step g}(I:Nat→σ→Prop)(hL:(r.au.getD []).length≤SM)(hu:(u.uses.getD []).length≤SM)
  (hg:∀i x c,(u.uses.getD [])[i]?=Es x→I i c→I (i+1) (g c x)∧∃y,ot r.er x.k=Es y∧step c y x.n=Es (g c x)) (c:σ) (hI:I 0 c):bB (oU r u step) (0,c)=Es (((u.uses.getD []).length:Int),(u.uses.getD []).foldl g c):=by
 have:=q4u (ε:=Empty) (u.uses.getD []) (oU r u step) (fun i (c:σ)=>((i:Int),c)) (fun _ c x=>.inl (g c x)) (fun c=>(((u.uses.getD []).length:Int),c)) (fun e=>nomatch e) I c (fun c _=>by unfold oU;simp only[z6];rfl)
  (fun i c x hx hi hI=>by
   obtain⟨hI',y,h1,h2⟩:=hg i x c hx hI
   obtain⟨k,h3,h4⟩:=Tq h1
   refine⟨hI',?_⟩
   unfold oU
   simp only[yo hi,cond_true,qa,ja hx,DZ hL,h3,eJ,ja h4,h2]
   rw[yg (by unfold SM at hu;omega)]) hI
 rw[show((0:Int),c)=(((0:Nat):Int),c)from rfl,this,Tk]
end Go.Z
namespace Go.Z
open Go Go.Abs Go.W
variable {r:ar}{u:bh}{D:aY}
theorem q5m {k v}:∀l:List (List UInt8×Int),(lb l k v).length≤l.length+1
 | []=>Gm _
 |p::l=>by
  unfold lb
  split
  ·simp
  ·simp only[Gx];exact Qt (q5m l)
theorem jbk {α γ:Type}{l:List α}{i x}(hx:l[i]?=Es x)(g:γ→α→γ)(c:γ):(l.take (i+1)).foldl g c=g ((l.take i).foldl g c) x:=by
 rw[List.take_add_one,hx,List.foldl_append];rfl
theorem jpw (hL:(r.au.getD []).length≤SM)(hu:(u.uses.getD []).length≤SM)(hw:∀x∈u.uses.getD [],(zm r.er x.k).isSome=Ge):∃M,bB (oU r u wE) (0,[])=Es (((u.uses.getD []).length:Int),M)∧∀kind,mN M kind=D5 (qe .i64) r.er u.er kind:=by
 let g:List (List UInt8×Int)→bn→List (List UInt8×Int):=fun c x=>match ot r.er x.k with
  |some y=>lb c y.kind (qe .i64 (mN c y.kind+x.n))
  |none=>c
 let I:Nat→List (List UInt8×Int)→Prop:=fun i M=>M.length≤i∧∀kind,mN M kind=((u.uses.getD []).take i).foldl (LQ r.er kind) 0
 have hg:∀i x c,(u.uses.getD [])[i]?=Es x→I i c→I (i+1) (g c x)∧∃y,ot r.er x.k=Es y∧wE c y x.n=Es (g c x):=by
  intro i x c hx hI
  obtain⟨y,hy⟩:=Hs (hw x (Ga hx))
  have hi:=(Gi.1 hx).1
  have QS:g c x=lb c y.kind (qe .i64 (mN c y.kind+x.n)):=by simp only[g,hy]
  rw[QS]
  refine⟨⟨Nat.le_trans (q5m _) (Qt hI.1),fun kind=>?_⟩,y,hy,?_⟩
  ·rw[jbk hx,jkf,←hI.2 kind]
   unfold LQ
   rw[hy]
   simp only[Gu]
   by_cases hk:kind=y.kind
   ·subst hk;simp
   ·have dx:¬y.kind=kind:=fun h=>hk h.symm
    simp[hk,dx]
  ·unfold wE LJ
   rw[if_pos (by have:=hI.1;unfold SM at hu;omega)]
 have:=q7v (step:=wE) (g:=g) I hL hu hg [] ⟨Gm _,fun kind=>rfl⟩
 have hI:∀(k i:Nat) (c:List (List UInt8×Int)),i+k=(u.uses.getD []).length→I i c→I (u.uses.getD []).length (((u.uses.getD []).drop i).foldl g c):=by
  intro k
  induction k with
  |zero=>
   intro i c hi hc
   have:i=(u.uses.getD []).length:=by omega
   subst this
   rw[Gs (Gm _)];exact hc
  |succ k ih=>
   intro i c hi hc
   obtain⟨x,hx⟩:∃x,(u.uses.getD [])[i]?=Es x:=⟨_,Gp (by omega)⟩
   rw[rJ hx,G4]
   exact ih (i+1) _ (by omega) (hg i x c hx hc).1
 have h2:=hI _ 0 [] (Nat.zero_add _) ⟨Gm _,fun kind=>rfl⟩
 rw[Jj]at h2
 refine⟨_,this,fun kind=>?_⟩
 rw[h2.2 kind,List.take_length]
 rfl
theorem yN (o:Option Nat):decide (0≤eJ o)=o.isSome:=by
 cases o with
 |none=>rfl
 |some k=>exact decide_eq_true (by show(0:Int)≤(k:Int);omega)
theorem cM {α:Type}{p:α→Bool}{l:List α}:(l.findIdx? p).isSome=l.any p:=by rw[D6]
theorem jj4 {l:Option (List bn)}{M:List (List UInt8×Int)}(hl:(l.getD []).length≤SM):Hu l M=Es ((l.getD []).any fun n=>decide (mN M n.k<n.n)):=by
 have:Hv l M=Es (eJ ((l.getD []).findIdx? fun n=>decide (mN M n.k<n.n))):=by
  unfold Hv
  exact nC (p:=fun n=>decide (mN M n.k<n.n)) hl fun i=>rfl
 unfold Hu
 rw[this]
 simp only[qa,yN,cM]
theorem jnw (hL:(r.au.getD []).length≤SM)(hu:(u.uses.getD []).length≤SM)(hw:∀x∈u.uses.getD [],(zm r.er x.k).isSome=Ge)(hd:pK r u=Es D)(hn:(D.aB.getD []).length≤SM):Hw r u=Es (yO (qe .i64) r.er D.er u.er):=by
 obtain⟨M,h1,h2⟩:=jpw hL hu hw
 unfold Hw
 rw[h1,hd]
 simp only[qa,jj4 hn,Es.injEq]
 unfold yO
 rw[show D.er.aB=D.aB.getD []from rfl]
 induction D.aB.getD []with
 |nil=>rfl
 |cons n l ih=>
  rw[Ie,Rp,Bool.not_or,ih,h2]
  congr 1
  by_cases h:D5 (qe .i64) r.er u.er n.k<n.n
  ·rw[decide_eq_true h,decide_eq_false (by omega)];rfl
  ·rw[decide_eq_false h,decide_eq_true (by omega)];rfl
theorem jor (hL:(r.au.getD []).length≤SM)(hu:(u.uses.getD []).length≤SM)(hw:∀x∈u.uses.getD [],(zm r.er x.k).isSome=Ge)(hd:pL r u=Es D)(hn:(D.aB.getD []).length≤SM):Hx r u=Es (yO (qe .i64) r.er D.er u.er):=by
 unfold Hx
 rw[hd]
 simp only[qa]
 obtain⟨d,h1,h2⟩:=Td (D.aB.getD []) (Bg r u D) (fun n=>decide (n.n≤D5 (qe .i64) r.er u.er n.k)) (fun d=>match d with | .inl _=>Gf | .inr _=>Ge) ⟨.inr ((D.aB.getD []).length:Int),by unfold Bg;simp only[z6];rfl,rfl⟩ (fun i x hx hi=>by
  unfold Bg
  simp only[yo hi,cond_true,qa,ja hx,jno hL hu hw]
  rw[yg (by unfold SM at hn;omega)]
  by_cases h:D5 (qe .i64) r.er u.er x.k<x.n
  ·exact .inr ⟨decide_eq_false (by omega),.inl (),by rw[decide_eq_true h];rfl,rfl⟩
  ·exact .inl ⟨decide_eq_true (by omega),by rw[decide_eq_false h];rfl⟩)
 rw[h1]
 unfold yO
 rw[show D.er.aB=D.aB.getD []from rfl,←h2]
 cases d<;>rfl
def D7 (r:bj)(us:List bn):List jc:=us.map fun x=>(ot r x.k).getD ⟨[],[],0,0,Gf⟩
theorem jha (hL:(r.au.getD []).length≤SM)(hu:(u.uses.getD []).length≤SM)(hw:∀x∈u.uses.getD [],(zm r.er x.k).isSome=Ge):bB (oU r u yP) (0,G3)=Es (((u.uses.getD []).length:Int),jx (D7 r.er (u.uses.getD []))):=by
 let gx:bn→jc:=fun x=>(ot r.er x.k).getD ⟨[],[],0,0,Gf⟩
 let g:Option (List jc)→bn→Option (List jc):=fun c x=>jx (c.getD []++[gx x])
 have:=q7v (step:=yP) (g:=g) (fun i c=>∃a:List jc,c=jx a∧a.length=i) hL hu (fun i x c hx hI=>by
  obtain⟨a,rfl,ha⟩:=hI
  have hi:=(Gi.1 hx).1
  obtain⟨y,hy⟩:=Hs (hw x (Ga hx))
  have hgx:gx x=y:=by simp only[gx,hy,Gd]
  refine⟨⟨a++[y],by simp only[g,hgx,zw],by simp[ha]⟩,y,hy,?_⟩
  unfold yP
  rw[qxk (by unfold SM at hu;omega)]
  simp only[g,hgx,zw]) G3 ⟨[],rfl,rfl⟩
 rw[this]
 congr 2
 have key:∀(l:List bn) (a:List jc),l.foldl g (jx a)=jx (a++l.map gx):=by
  intro l
  induction l with
  |nil=>intro a;simp
  |cons x l ih=>
   intro a
   rw[G4,show g (jx a) x=jx (a++[gx x]) by simp only[g,zw],ih,Gn,Qn];rfl
 have:=key (u.uses.getD []) []
 rw[Je]at this
 exact this
theorem q60 (hw:∀x∈u.uses.getD [],(zm r.er x.k).isSome=Ge):Bh r.er u.er=!((D7 r.er (u.uses.getD [])).filter (·.held)).isEmpty:=by
 unfold Bh D7
 rw[show u.er.uses=u.uses.getD []from rfl]
 revert hw
 generalize u.uses.getD []=us
 intro hw
 induction us with
 |nil=>rfl
 |cons x l ih=>
  obtain⟨y,hy⟩:=Hs (hw x (L9 ..))
  rw[Ie,ih (fun x hx=>hw x (Jo _ hx)),Gn,Qr,hy]
  simp only[Gu,Gd]
  cases y.held<;>rfl
theorem lD {b e}:f48 b e=Es (if b then e else 0):=by unfold f48;cases b<;>rfl
theorem jpq {l}(hl:l.length≤SM):Hy (jx l)=Es (jx (l.filter (·.held)),gw (l.filter (·.held))):=by
 unfold Hy
 rw[Tn (f:=Hz (jx l)) (l:=(jx l).getD []) (p:=fun x:jc=>x.held) (q:=fun x=>LR x) (by rw[zw];exact hl) (fun x _=>rfl) (fun s=>rfl),zw]
 rfl
def fF:List Int→Int
 | []=>0
 |e::l=>if e=0 then fF l else e
theorem jG {l}(hl:l.length≤SM):f46 (Es l)=Es (fF l):=by
 unfold f46
 have:=G9 l.length (fun i=>(i:Int)) (Bi (Es l)) (fun d=>match d with | .inl k=>k | .inr _=>(0:Int)) (fun i=>fF (l.drop i)) ⟨.inr (l.length:Int),by unfold Bi;simp only[Gd,z6];rfl,by rw[Gs (Gm _)];rfl⟩ (fun i hi=>by
  obtain⟨x,hx⟩:∃x,l[i]?=Es x:=⟨_,Gp hi⟩
  unfold Bi
  simp only[Gd,yo hi,cond_true,qa,ja hx,rJ hx,fF]
  by_cases h0:x=0
  ·simp only[h0,decide_true,cond_true,if_true]
   rw[yg (by unfold SM at hl;omega)]
   left;constructor<;>first|rfl|trivial
  ·simp only[h0,decide_false,cond_false,if_false]
   exact .inr ⟨_,rfl,rfl⟩)
 obtain⟨d,h1,h2⟩:=this
 rw[show((0:Int))=((0:Nat):Int)from rfl,h1]
 rw[Jj]at h2
 simp only[qa]
 rw[←h2]
 cases d<;>rfl
theorem qtl {α:Type}{l:List α}:decide (0<(((jx l).getD []).length:Int))=!l.isEmpty:=by
 rw[zw]
 cases l with
 |nil=>rfl
 |cons x l=>simp
theorem qzu {w r u d v}(hd:iB r u=Es d)(hv:pM r u=Es v):vr w r u=if u.aq then 21 else if u.version≠v then 32 else if !yO w r d u then 20 else if !(yM d u).isEmpty then 31 else if Bh r u then 34 else 0:=by
 unfold vr
 rw[hd,hv]
 cases u.aq
 ·by_cases h:u.version=v
  ·simp[h]
  ·simp[h,Ne.symm h]
 ·rfl
theorem ju7 {v:Int}(hP:(r.ae.getD []).length≤SM)(il:pM r.er u.er=Es v)(hL:(r.au.getD []).length≤SM)(hu:(u.uses.getD []).length≤SM)(hw:∀x∈u.uses.getD [],(zm r.er x.k).isSome=Ge)(hd:pK r u=Es D)(hp:iB r.er u.er=Es D.er)(hn:(D.aB.getD []).length≤SM)(hr:(u.results.getD []).length≤SM)(ht:(D.aA.getD []).length≤SM)(hv:u.version≠-1):f79 r u=Es (vr (qe .i64) r.er u.er):=by
 obtain⟨w,hm⟩:=jxf hd hr ht hv
 have hll:(D7 r.er (u.uses.getD [])).length≤SM:=by unfold D7;rw[Gt];exact hu
 unfold f79
 rw[jha hL hu hw]
 simp only[qa,lD,(LO hP il).1,jnw hL hu hw hd hn,hm,jpq hll,qtl]
 rw[jG (by simp[SM]),qzu hp il,q60 hw]
 congr 1
 show fF _=if u.aq then 21 else if u.version≠v then 32 else _
 cases u.aq<;>by_cases h1:u.version=v<;>cases yO (qe .i64) r.er D.er u.er<;>cases (yM D.er u.er).isEmpty<;>cases ((D7 r.er (u.uses.getD [])).filter (·.held)).isEmpty<;>simp[fF,h1]
theorem jgq (hL:(r.au.getD []).length≤SM)(hu:(u.uses.getD []).length≤SM)(hw:∀x∈u.uses.getD [],(zm r.er x.k).isSome=Ge):(qa (bB (yQ r u) 0) fun d=>match d with | .inl _=>Es (34:Int) | .inr _=>Es 0)=Es (if Bh r.er u.er then 34 else 0):=by
 obtain⟨d,h1,h2⟩:=Td (u.uses.getD []) (yQ r u) (fun x=>!(ot r.er x.k).any (·.held)) (fun d=>match d with | .inl _=>Gf | .inr _=>Ge) ⟨.inr ((u.uses.getD []).length:Int),by unfold yQ;simp only[z6];rfl,rfl⟩ (fun i x hx hi=>by
  obtain⟨y,hy⟩:=Hs (hw x (Ga hx))
  obtain⟨k,h3,h4⟩:=Tq hy
  unfold yQ
  simp only[yo hi,cond_true,qa,ja hx,Hc hL,h3,eJ,ja h4,hy,Gu]
  rw[yg (by unfold SM at hu;omega)]
  cases y.held with
  |true=>exact .inr ⟨rfl,.inl (),rfl,rfl⟩
  |false=>exact .inl ⟨rfl,rfl⟩)
 rw[h1]
 have h3:Bh r.er u.er=!((u.uses.getD []).all fun x=>!(ot r.er x.k).any (·.held)):=by
  unfold Bh
  rw[show u.er.uses=u.uses.getD []from rfl]
  induction u.uses.getD []with
  |nil=>rfl
  |cons x l ih=>rw[Ie,Rp,ih,Bool.not_and,Bool.not_not]
 rw[h3,←h2]
 cases d<;>rfl
theorem jpl {v:Int}(hP:(r.ae.getD []).length≤SM)(il:pM r.er u.er=Es v)(hL:(r.au.getD []).length≤SM)(hu:(u.uses.getD []).length≤SM)(hw:∀x∈u.uses.getD [],(zm r.er x.k).isSome=Ge)(hd:pL r u=Es D)(hp:iB r.er u.er=Es D.er)(hn:(D.aB.getD []).length≤SM)(hr:(u.results.getD []).length≤SM)(ht:(D.aA.getD []).length≤SM):f266 r u=Es (vr (qe .i64) r.er u.er):=by
 rw[qzu hp il]
 unfold f266
 cases hs:u.aq with
 |true=>rw[show u.er.aq=Ge from hs];rfl
 |false=>
  have oe:(⟨u.name,u.product,u.version,u.uses,u.results,u.partner,Gf,u.ah⟩:bh)=u:=by cases u;simp only at hs;rw[hs]
  rw[show u.er.aq=Gf from hs,oe]
  obtain⟨w,hm⟩:=jns (r:=r) (u:=u) hd hr ht
  simp only[cond_false,qa,(LO hP il).2,jor hL hu hw hd hn,hm,qtl,E9,if_false]
  have hh:=jgq hL hu hw
  simp only[qa]at hh
  by_cases h1:u.version=v
  ·rw[decide_eq_true h1,if_neg (show ¬u.er.version≠v from fun h=>h h1)]
   simp only[cond_true]
   cases yO (qe .i64) r.er D.er u.er
   ·rfl
   ·simp only[cond_true,Gy,E9,if_false]
    cases (yM D.er u.er).isEmpty
    ·rfl
    ·simp only[Gy,cond_false,E9,if_false]
     exact hh
  ·rw[decide_eq_false h1,if_pos (show u.er.version≠v from h1)]
   rfl
end Go.Z
namespace Go.Z
open Go Go.Abs Go.W
theorem D8 {α:Type}{o:Option (List α)}{ys}(h:(o.getD []).length+ys.length≤SM)(hy:ys≠[]):bq o ys=Es (Es (o.getD []++ys)):=by
 unfold bq D9
 rw[if_pos h]
 cases o<;>cases ys<;>first|exact absurd rfl hy|rfl
theorem Bj {α:Type}{ys:List α}(h:ys.length≤SM):bq (Es []) ys=Es (Es ys):=by
 unfold bq D9
 rw[if_pos (by simpa using h)]
 cases ys<;>rfl
theorem yR {α:Type}{o:Option (List α)}{x}(h:(o.getD []).length<SM):(qa (cond o.isNone (Es (G3,Gf)) (qa (bq (Es []) (o.getD [])) fun v=>Es (v,Ge))) fun v1=>cond v1.2 (qa (bq v1.1 [x]) fun v4=>Es v4) (cond v1.1.isNone (qa (bq v1.1 [x]) fun v7=>Es v7) G3))=Es (Es (o.getD []++[x])):=by
 cases o with
 |none=>rfl
 |some l=>
  have h':l.length<SM:=h
  simp only[Nk,cond_false,Gd]
  rw[Bj (by omega)]
  simp only[qa,cond_true]
  rw[D8 (o:=Es l) (by simp only[Gd,G2];omega) (by simp)]
  rfl
theorem joj {o:Option (List jc)}{x:jc}(h:(o.getD []).length<SM):LS o x=Es (Es (o.getD []++[x])):=yR h
theorem jnk {o:Option (List aC)}{x:aC}(h:(o.getD []).length<SM):LU o x=Es (Es (o.getD []++[x])):=yR h
theorem jn8 {o:Option (List bh)}{x:bh}(h:(o.getD []).length<SM):f225 o x=Es (Es (o.getD []++[x])):=yR h
theorem jnb {o:Option (List aY)}{x:aY}(h:(o.getD []).length<SM):LV o x=Es (Es (o.getD []++[x])):=yR h
theorem jon {o:Option (List bn)}{x:bn}(h:(o.getD []).length<SM):LW o x=Es (Es (o.getD []++[x])):=yR h
theorem joc {o:Option (List jb)}{x:jb}(h:(o.getD []).length<SM):f277 o x=Es (Es (o.getD []++[x])):=yR h
theorem jmv {o:Option (List bn)}{x:bn}(h:(o.getD []).length<SM):f284 o x=Es (Es (o.getD []++[x])):=yR h
theorem jo7 {o:Option (List jb)}{x:jb}(h:(o.getD []).length<SM):LX o x=Es (Es (o.getD []++[x])):=yR h
theorem ou {α:Type}{o:Option (List α)}{i:Nat}{x y:α}{g}(hl:(o.getD []).length≤SM)(hx:(o.getD [])[i]?=Es x)(hg:g x=Es y):gj o (i:Int) g=Es (Es ((o.getD []).set i y)):=by
 unfold gj
 rw[if_pos ⟨hl,by omega⟩,Int.toNat_natCast,hx]
 simp only[hg]
theorem Ts {α:Type}{o:Option (List α)}{i x}(hl:(o.getD []).length≤SM)(hx:i<(o.getD []).length):Bk o (i:Int) x=Es (Es ((o.getD []).set i x)):=by
 unfold Bk
 rw[if_pos ⟨hl,by omega,by omega⟩,Int.toNat_natCast]
theorem Tt {α:Type}{o:Option (List α)}{x:α}{p:α→Bool}{g}(hl:(o.getD []).length<SM)(hg:∀y,g y=Es x):
  ∃v w,(cond (decide (0≤eJ ((o.getD []).findIdx? p))) (qa (gj o (eJ ((o.getD []).findIdx? p)) g) fun v4=>Es (v4,Gf)) (qa (Es (Es (o.getD []++[x]))) fun v6=>Es (v6,Ge)))=Es (v,w)∧v.getD []=ke p x (o.getD []):=by
 unfold ke
 cases h:(o.getD []).findIdx? p with
 |none=>exact⟨_,_,rfl,rfl⟩
 |some k=>
  obtain⟨y,h1,_⟩:=bQ h
  rw[show decide (0≤eJ (Es k))=Ge from yN (Es k)]
  simp only[cond_true,eJ]
  rw[ou (G5 hl) h1 (hg y)]
  exact⟨_,_,rfl,rfl⟩
theorem jnm {o:Option (List bn)}{x:bn}{k}(hl:(o.getD []).length<SM):∃v w,HA o x k=Es (v,w)∧v.getD []=ke (df k) x (o.getD []):=by
 unfold HA
 have:HC o k=Es (eJ ((o.getD []).findIdx? (df k))):=by unfold HC;exact nC (p:=df k) (G5 hl) fun i=>rfl
 rw[this]
 simp only[qa]
 rw[jon hl]
 exact Tt (p:=df k) (g:=fun _=>Es x) hl fun _=>rfl
theorem jpc {o:Option (List jb)}{x s:jb}(hl:(o.getD []).length<SM):∃v w,HD o x s=Es (v,w)∧v.getD []=ke (eK s.k) x (o.getD []):=by
 unfold HD
 have:yS o s=Es (eJ ((o.getD []).findIdx? (eK s.k))):=by unfold yS;exact nC (p:=eK s.k) (G5 hl) fun i=>rfl
 rw[this]
 simp only[qa]
 rw[joc hl]
 exact Tt (p:=eK s.k) (g:=fun _=>Es x) hl fun _=>rfl
theorem jnq {o:Option (List bn)}{x:bn}{t}(hl:(o.getD []).length<SM):∃v w,HE o x t=Es (v,w)∧v.getD []=ke (df t.name) x (o.getD []):=by
 unfold HE
 have:yT o t=Es (eJ ((o.getD []).findIdx? (df t.name))):=by unfold yT;exact nC (p:=df t.name) (G5 hl) fun i=>rfl
 rw[this]
 simp only[qa]
 rw[jmv hl]
 exact Tt (p:=df t.name) (g:=fun _=>Es x) hl fun _=>rfl
theorem jm5 {o t}(hl:(o.getD []).length≤SM):yT o t=Es (eJ ((o.getD []).findIdx? (df t.name))):=by
 unfold yT;exact nC (p:=df t.name) hl fun i=>rfl
theorem jmu {o k}(hl:(o.getD []).length≤SM):HF o k=Es (jx ((o.getD []).filter fun x=>!df k x),gw ((o.getD []).filter fun x=>!df k x)):=by
 unfold HF
 rw[Tn (f:=HG o k) (l:=o.getD []) (p:=fun x=>!df k x) (q:=fun x=>LY x k) hl (fun x _=>rfl) (fun s=>rfl)]
 rfl
theorem jhw {o k}(hl:(o.getD []).length≤SM):HI o k=Es ((o.getD []).any (df k)):=by
 have:HJ o k=Es (eJ ((o.getD []).findIdx? (df k))):=by unfold HJ;exact nC (p:=df k) hl fun i=>rfl
 unfold HI;rw[this];simp only[qa,yN,cM]
theorem jj9 {o t}(hl:(o.getD []).length≤SM):HK o t=Es ((o.getD []).any (df t.kind)):=by
 have:HL o t=Es (eJ ((o.getD []).findIdx? (df t.kind))):=by unfold HL;exact nC (p:=df t.kind) hl fun i=>rfl
 unfold HK;rw[this];simp only[qa,yN,cM]
theorem jjl {o s}(hl:(o.getD []).length≤SM):HM o s=Es ((o.getD []).any (eK s.k)):=by
 have:yS o s=Es (eJ ((o.getD []).findIdx? (eK s.k))):=by unfold yS;exact nC (p:=eK s.k) hl fun i=>rfl
 unfold HM;rw[this];simp only[qa,yN,cM]
theorem jju {o e n}(hn:qq (e.names.getD []) 1=Es n)(hl:(o.getD []).length≤SM):HN o e=Es ((o.getD []).any (eK n)):=by
 have:HO o e=Es (eJ ((o.getD []).findIdx? (eK n))):=by
  unfold HO
  refine nC (p:=eK n) hl fun i=>?_
  unfold HP LZ
  rw[hn]
  rfl
 unfold HN;rw[this];simp only[qa,yN,cM]
theorem Tv {α β:Type}{l:List α}{h q f}(hh:∀x,(h x).length≤1)
  (cL:∀o b w,f (o,b,(l.length:Int),w)=Es (.inr (o,w,b,(l.length:Int))))
  (hf:∀(i:Nat) x (a:List β) b,l[i]?=Es x→i<l.length→a.length≤i→f (jx a,b,(i:Int),gw a)=Es (.inl (jx (a++h x),b||q x,((i+1:Nat):Int),gw (a++h x)))):
  bB f (G3,Gf,0,Gf)=Es (jx (l.flatMap h),gw (l.flatMap h),l.any q,(l.length:Int)):=by
 have key:∀(k i:Nat),i+k=l.length→∀a b,a.length≤i→bB f (jx a,b,(i:Int),gw a)=Es (jx (a++(l.drop i).flatMap h),gw (a++(l.drop i).flatMap h),b||(l.drop i).any q,(l.length:Int)):=by
  intro k
  induction k with
  |zero=>
   intro i hi a b _
   have:i=l.length:=by omega
   subst this
   rw[Gs (Gm _),List.flatMap_nil,List.append_nil,ku (cL _ _ _)]
   simp
  |succ k ih=>
   intro i hi a b ha
   obtain⟨x,hx⟩:∃x,l[i]?=Es x:=⟨_,Gp (by omega)⟩
   rw[oQ (hf i x a b hx (by omega) ha),ih (i+1) (by omega) _ _ (by rw[Nn];have:=hh x;omega),rJ hx,Ha,Qn,Ie,Bool.or_assoc]
 have:=key l.length 0 (by omega) [] Gf (Gm _)
 rw[Jj,Je,Bool.false_or]at this
 exact this
theorem Tw {α:Type}{a:List α}{x}(h:a.length<SM):cond (gw a) (qa (bq (jx a) [x]) fun v=>Es (v,Ge)) (cond (jx a).isNone (qa (bq (jx a) [x]) fun v=>Es (v,Ge)) G3)=Es (jx (a++[x]),Ge):=wA (k:=fun v=>Es (v,Ge)) h
theorem yj {α β:Type}{h:α→List β}(hh:∀x,(h x).length≤1):∀l:List α,(l.flatMap h).length≤l.length
 | []=>Gm _
 |x::l=>by rw[Ha,Nn,Gx];have:=hh x;have:=yj hh l;omega
theorem jmw {o x}(hl:(o.getD []).length<SM)(hk:zt (·.k) (o.getD []))(h0:0≤x.n):∃v w,HQ o x=Es (v,w)∧v.getD []=kw (o.getD []) x.k x.n:=by
 let h:bn→List bn:=fun y=>if df x.k y then(if 0<x.n then [x]else [])else [y]
 have hh:∀y,(h y).length≤1:=by intro y;simp only[h];split<;>(try split)<;>simp
 have L:=Tv (l:=o.getD []) (h:=h) (q:=df x.k) (f:=Bl o x) hh (fun o b w=>by unfold Bl;simp only[z6];rfl) (fun i y a b hy hi ha=>by
  unfold Bl
  simp only[yo hi,cond_true,qa,ja hy]
  rw[yg (by unfold SM at hl;omega)]
  simp only[h,df]
  by_cases h1:y.k=x.k
  ·by_cases h2:0<x.n
   ·simp only[h1,h2,decide_true,cond_true,if_true,Np]
    rw[Bd]
    exact wA (x:=x) (k:=fun v=>Es (Hb (v,Ge,((i+1:Nat):Int),Ge))) (by unfold SM at hl;omega)
   ·simp[h1,h2]
  ·simp only[h1,decide_false,cond_false,E9,if_false,Ld]
   rw[Bd]
   exact wA (x:=y) (k:=fun v=>Es (Hb (v,b,((i+1:Nat):Int),Ge))) (by unfold SM at hl;omega))
 unfold HQ
 rw[L]
 simp only[qa]
 have hlen:((o.getD []).flatMap h).length<SM:=G7 (yj hh _) hl
 by_cases hn:x.n=0
 ·have hp:decide (0<x.n)=Gf:=by rw[hn];rfl
  have hf:(o.getD []).flatMap h=(o.getD []).filter fun y=>!df x.k y:=by
   rw[show h=fun y=>if(!df x.k y)then [id y]else [] by funext y;simp only[h,hn];cases df x.k y<;>rfl,Tl,List.map_id]
  unfold kw
  rw[if_pos hn,hp,←hf]
  cases (o.getD []).any (df x.k)<;>exact⟨_,_,rfl,zw _⟩
 ·have hp:decide (0<x.n)=Ge:=decide_eq_true (by omega)
  have hf:(o.getD []).flatMap h=(o.getD []).map fun y=>if df x.k y then x else y:=by
   rw[←LH]
   congr 1
   funext y
   have:0<x.n:=by omega
   simp only[h,this,if_true]
   cases df x.k y<;>rfl
  have uM:=qzf (key:=fun y:bn=>y.k) (k:=x.k) (x:=x) hk
  unfold kw
  rw[if_neg hn,hp,show(⟨x.k,x.n⟩:bn)=x from rfl,show ke (df x.k) x (o.getD [])=Ea (df x.k) x (o.getD [])from uM.symm]
  unfold Ea
  rw[←hf]
  cases ha:(o.getD []).any (df x.k)with
  |true=>exact⟨_,_,rfl,by rw[zw];simp⟩
  |false=>
   simp only[cond_false,cond_true,E9,if_false]
   have:=Tw (x:=x) hlen
   simp only[qa]at this
   rw[this]
   exact⟨_,_,rfl,zw _⟩
theorem jo6 {o x}(hl:(o.getD []).length<SM)(hk:zt (·.k) (o.getD [])):∃v w,f260 o x=Es (v,w)∧v.getD []=ke (eK x.k) x (o.getD []):=by
 let h:jb→List jb:=fun y=>if eK x.k y then [x]else [y]
 have hh:∀y,(h y).length≤1:=by intro y;simp only[h];split<;>simp
 have L:=Tv (l:=o.getD []) (h:=h) (q:=eK x.k) (f:=Bm o x) hh (fun o b w=>by unfold Bm;simp only[z6];rfl) (fun i y a b hy hi ha=>by
  unfold Bm
  simp only[yo hi,cond_true,qa,ja hy]
  rw[yg (by unfold SM at hl;omega)]
  simp only[h,eK]
  by_cases h1:y.k=x.k
  ·simp only[h1,decide_true,cond_true,if_true,Np]
   rw[Bd]
   exact wA (x:=x) (k:=fun v=>Es (Hb (v,Ge,((i+1:Nat):Int),Ge))) (by unfold SM at hl;omega)
  ·simp only[h1,decide_false,cond_false,E9,if_false,Ld]
   rw[Bd]
   exact wA (x:=y) (k:=fun v=>Es (Hb (v,b,((i+1:Nat):Int),Ge))) (by unfold SM at hl;omega))
 unfold f260
 rw[L]
 simp only[qa]
 have hlen:((o.getD []).flatMap h).length<SM:=G7 (yj hh _) hl
 have hf:(o.getD []).flatMap h=(o.getD []).map fun y=>if eK x.k y then x else y:=by
  rw[←LH]
  congr 1
  funext y
  simp only[h]
  cases eK x.k y<;>rfl
 have uM:=qzf (key:=fun y:jb=>y.k) (k:=x.k) (x:=x) hk
 rw[show ke (eK x.k) x (o.getD [])=Ea (eK x.k) x (o.getD [])from uM.symm]
 unfold Ea
 rw[←hf]
 cases ha:(o.getD []).any (eK x.k)with
 |true=>exact⟨_,_,rfl,by rw[zw];simp⟩
 |false=>
  simp only[cond_false,E9,if_false]
  have:=Tw (x:=x) hlen
  simp only[qa]at this
  rw[this]
  exact⟨_,_,rfl,zw _⟩
theorem qz2 {α:Type}{f}:∀ {l:List α},(∀x∈l,f x=x)→l.map f=l
 | [],_=>rfl
 |x::l,h=>by rw[Gn,h x (L9 ..),qz2 fun y hy=>h y (Jo _ hy)]
theorem q7q {k:List UInt8}{F:bn→bn}:∀ {l:List bn},zt (·.k) l→(l.map fun y=>if df k y then F y else y)=(match l.findIdx? (df k)with
  |some i=>(match l[i]? with
   |some x=>l.set i (F x)
   |none=>l)
  |none=>l)
 | [],_=>rfl
 |y::l,h=>by
  have h':zt (·.k) l:=(Rg.1 h).2
  have hn:¬y.k∈l.map (·.k):=(Rg.1 h).1
  rw[Gn,Le]
  cases hy:df k y with
  |true=>
   have hk:y.k=k:=of_decide_eq_true hy
   simp only[if_true]
   rw[qz2 fun x hx=>by
    have:df k x=Gf:=decide_eq_false fun hxk=>hn (by rw[hk,←hxk];exact G6 hx)
    rw[this];rfl]
   rfl
  |false=>
   simp only[E9,if_false]
   rw[q7q h']
   cases hi:l.findIdx? (df k)with
   |none=>rfl
   |some i=>
    obtain⟨x,h1,_⟩:=bQ hi
    simp[h1]
theorem jm8 {o k n}(hl:(o.getD []).length<SM)(hk:zt (·.k) (o.getD [])):∃v w,HR o k n=Es (v,w)∧v.getD []=jP (qe .i64) (o.getD []) k n:=by
 let h:bn→List bn:=fun y=>if df k y then [⟨y.k,qe .i64 (y.n+n)⟩]else [y]
 have hh:∀y,(h y).length≤1:=by intro y;simp only[h];split<;>simp
 have L:=Tv (l:=o.getD []) (h:=h) (q:=df k) (f:=Bn o k n) hh (fun o b w=>by unfold Bn;simp only[z6];rfl) (fun i y a b hy hi ha=>by
  unfold Bn
  simp only[yo hi,cond_true,qa,ja hy]
  rw[yg (by unfold SM at hl;omega)]
  simp only[h,df]
  by_cases h1:y.k=k
  ·simp only[h1,decide_true,cond_true,if_true,Np]
   rw[Bd]
   exact wA (x:=(⟨k,qe .i64 (y.n+n)⟩:bn)) (k:=fun v=>Es (Hb (v,Ge,((i+1:Nat):Int),Ge))) (by unfold SM at hl;omega)
  ·simp only[h1,decide_false,cond_false,E9,if_false,Ld]
   rw[Bd]
   exact wA (x:=y) (k:=fun v=>Es (Hb (v,b,((i+1:Nat):Int),Ge))) (by unfold SM at hl;omega))
 unfold HR
 rw[L]
 simp only[qa]
 have hlen:((o.getD []).flatMap h).length<SM:=G7 (yj hh _) hl
 have hf:(o.getD []).flatMap h=(o.getD []).map fun y=>if df k y then(⟨k,qe .i64 (n+y.n)⟩:bn)else y:=by
  rw[←LH]
  congr 1
  funext y
  simp only[h]
  cases hy:df k y with
  |false=>rfl
  |true=>rw[show y.k=k from of_decide_eq_true hy,Int.add_comm];rfl
 rw[q7q hk]at hf
 unfold jP
 cases hi:(o.getD []).findIdx? (df k)with
 |some i=>
  obtain⟨x,h1,_⟩:=bQ hi
  have ha:(o.getD []).any (df k)=Ge:=by rw[D6,hi];rfl
  rw[hi]at hf
  simp only[h1]at hf ⊢
  rw[ha,hf]
  exact⟨_,_,rfl,zw _⟩
 |none=>
  have ha:(o.getD []).any (df k)=Gf:=by rw[D6,hi];rfl
  rw[hi]at hf
  simp only at hf ⊢
  rw[ha]
  have:=Tw (x:=(⟨k,n⟩:bn)) hlen
  simp only[qa]at this
  simp only[cond_false]
  rw[this,hf]
  exact⟨_,_,rfl,zw _⟩
end Go.Z
namespace Go.Z
open Go Go.Abs Go.W
abbrev BB:Nat:=1000000
structure GB (r:ar):Prop where
 L:(r.au.getD []).length≤BB
 P:(r.ae.getD []).length≤BB
 U:(r.units.getD []).length≤BB
 D:∀p∈r.ae.getD [],(p.aM.getD []).length≤BB∧(p.dn.getD []).length≤BB∧(p.dt.getD []).length≤BB∧∀d∈p.aM.getD [],(d.aB.getD []).length≤BB∧(d.aA.getD []).length≤BB
 N:∀u∈r.units.getD [],(u.uses.getD []).length≤BB∧(u.results.getD []).length≤BB
theorem jk {n}(h:n≤BB):n≤SM:=by unfold BB at h;unfold SM;omega
theorem mO {n}(h:n≤BB):n<SM:=by unfold BB at h;unfold SM;omega
def nD (x:Option (Int×ar))(y:pN):Prop:=∃c r',x=Es (c,r')∧match y with
 | .error k=>c=k∧k≠0
 | .ok s=>c=0∧r'.er=s
variable {r:ar}{e:GEv}
theorem L0 {a lo hi}:f60 a lo hi=Es (if a<lo∨hi<a then 3 else 0):=by
 unfold f60
 by_cases h1:a<lo
 ·simp[h1,lD,qa]
 ·by_cases h2:hi<a<;>simp[h1,h2,lD,qa]
theorem y6 {k}:eJ (Es k)=(k:Int):=rfl
theorem wF {o}:decide (0≤eJ o)=o.isSome:=yN o
theorem HS {n k}(h:zm r.er n=Es k):∃x,(r.au.getD [])[k]?=Es x∧x.name=n:=by
 obtain⟨x,h1,h2,_⟩:=bQ h
 exact⟨x,h1,of_decide_eq_true h2⟩
theorem Eb {n k}(h:zr r.er n=Es k):∃p,(r.ae.getD [])[k]?=Es p∧p.name=n∧r.er.ae[k]?=Es p.er:=by
 rw[LL]at h
 obtain⟨x,h1,h2,_⟩:=bQ h
 exact⟨x,h1,of_decide_eq_true h2,by rw[yK,Gv,h1];rfl⟩
theorem rL {n k}(h:zp r.er n=Es k):∃u,(r.units.getD [])[k]?=Es u∧u.name=n∧r.er.units[k]?=Es u.er:=by
 rw[Ti]at h
 obtain⟨x,h1,h2,_⟩:=bQ h
 exact⟨x,h1,of_decide_eq_true h2,by rw[A8,Gv,h1];rfl⟩
theorem gM {α:Type}{l:List α}{a t}(h:l=a::t):qq l 0=Es a:=by subst h;rfl
theorem gN {α:Type}{l:List α}{a b t}(h:l=a::b::t):qq l 1=Es b:=by subst h;rfl
theorem jw7 {α:Type}{l:List α}{a b c t}(h:l=a::b::c::t):qq l 2=Es c:=by subst h;rfl
theorem fc {a t}(h:e.names.getD []=a::t):nm e.er 0=a:=by unfold nm;rw[show e.er.names=e.names.getD []from rfl,h];rfl
theorem l6 {a b t}(h:e.names.getD []=a::b::t):nm e.er 1=b:=by unfold nm;rw[show e.er.names=e.names.getD []from rfl,h];rfl
theorem Tx {a t}(h:e.values.getD []=a::t):vl e.er 0=a:=by unfold vl;rw[show e.er.values=e.values.getD []from rfl,h];rfl
theorem vt {a b t}(h:e.values.getD []=a::b::t):vl e.er 1=b:=by unfold vl;rw[show e.er.values=e.values.getD []from rfl,h];rfl
theorem vl2 {a b c t}(h:e.values.getD []=a::b::c::t):vl e.er 2=c:=by unfold vl;rw[show e.er.values=e.values.getD []from rfl,h];rfl
theorem wG:r.er.au=r.au.getD []:=rfl
theorem ar.eta (r:ar):(⟨r.day,r.au,r.ae,r.units⟩:ar)=r:=rfl
theorem a105 (b:GB r){n0 n1:List UInt8}{v0 v1:Int}(hk:e.kind=lA)(hn:e.names.getD []=[n0,n1])(hv:e.values.getD []=[v0,v1]):
  nD (fp 168 r e) (apply (qe .i64) r.er e.er):=by
 have hR:apply (qe .i64) r.er e.er=l7 r.er e.er:=by unfold apply;rw[if_pos (.inl hk)]
 rw[hR]
 unfold l7
 rw[if_pos (show e.er.kind=lA from hk),fc hn,l6 hn,vt hv,wG]
 have hA:fp 168 r e=qa (HT e r.day r.au r.ae r.units) fun v=>Es (v.1,{ r with au:=v.2.1 }):=rfl
 rw[hA]
 unfold HT
 simp only[ar.eta,gM hn,gN hn,gN hv,qa,DZ (jk b.L),lD,L0,wF]
 rw[jG (by simp[SM])]
 simp only[joj (mO b.L)]
 cases (zm r.er n0).isSome with
 |true=>exact⟨_,_,rfl,rfl,by decide⟩
 |false=>
  by_cases h1:v1<1∨10000<v1
  ·simp only[E9,if_false,h1,if_true,fF]
   exact⟨_,_,rfl,rfl,by decide⟩
  ·by_cases h2:64≤(r.au.getD []).length
   ·have oN:decide (64≤((r.au.getD []).length:Int))=Ge:=decide_eq_true (by omega)
    simp only[E9,if_false,h1,h2,oN,if_true,fF]
    exact⟨_,_,rfl,rfl,by decide⟩
   ·have oN:decide (64≤((r.au.getD []).length:Int))=Gf:=decide_eq_false (by omega)
    simp only[E9,if_false,h1,h2,oN,if_true,fF]
    exact⟨_,_,rfl,rfl,rfl⟩
theorem qw6 {o p}(h:o=Es (r.ae.getD []++[p])):({ r with ae:=o }:ar).er={ r.er with ae:=r.er.ae++[p.er] }:=by
 subst h
 simp only[ar.er,Gd,Jf,Gn,Jc]
theorem qw4 {o p}(h:o=Es (r.units.getD []++[p])):({ r with units:=o }:ar).er={ r.er with units:=r.er.units++[p.er] }:=by
 subst h
 simp only[ar.er,Gd,Jf,Gn,Jc]
theorem Ec {o p k}(h:o=Es ((r.ae.getD []).set k p)):({ r with ae:=o }:ar).er=bR r.er k p.er:=by
 subst h
 simp only[ar.er,bR,Gd,Jd]
theorem yU {o p k}(h:o=Es ((r.units.getD []).set k p)):({ r with units:=o }:ar).er=ay r.er k p.er:=by
 subst h
 simp only[ar.er,ay,Gd,Jd]
theorem L2 {o p k}(h:o=Es ((r.au.getD []).set k p)):({ r with au:=o }:ar).er=b4 r.er k p:=by
 subst h
 simp only[ar.er,b4,Gd]
theorem zbp (b:GB r){n0:List UInt8}{v0:Int}(hk:e.kind=kl)(hn:e.names.getD []=[n0])(hv:e.values.getD []=[v0]):
  nD (fp 169 r e) (apply (qe .i64) r.er e.er):=by
 have hR:apply (qe .i64) r.er e.er=l7 r.er e.er:=by unfold apply;rw[if_pos (.inr (.inl hk))]
 rw[hR]
 unfold l7
 rw[if_neg (show ¬e.er.kind=lA from fun h=>by rw[show e.er.kind=e.kind from rfl,hk]at h;exact absurd h (by decide)),if_pos (show e.er.kind=kl from hk),fc hn]
 have hA:fp 169 r e=qa (f169 e r.day r.au r.ae r.units) fun v=>Es (v.1,{ r with ae:=v.2.1 }):=rfl
 rw[hA]
 unfold f169
 simp only[ar.eta,gM hn,qa,vq (jk b.P),lD,wF]
 rw[jG (by simp[SM])]
 simp only[jnk (mO b.P)]
 have hl:r.er.ae.length=(r.ae.getD []).length:=by rw[yK,Gt]
 rw[hl]
 cases (zr r.er n0).isSome with
 |true=>exact⟨_,_,rfl,rfl,by decide⟩
 |false=>
  by_cases h2:16≤(r.ae.getD []).length
  ·have oN:decide (16≤((r.ae.getD []).length:Int))=Ge:=decide_eq_true (by omega)
   simp only[E9,if_false,h2,oN,if_true,fF]
   exact⟨_,_,rfl,rfl,by decide⟩
  ·have oN:decide (16≤((r.ae.getD []).length:Int))=Gf:=decide_eq_false (by omega)
   simp only[E9,if_false,h2,oN,if_true,fF]
   exact⟨_,_,rfl,rfl,qw6 rfl⟩
theorem zdj (b:GB r){n0 n1:List UInt8}{v0:Int}{k}(hk:e.kind=lC)(hn:e.names.getD []=[n0,n1])(hv:e.values.getD []=[v0])(hp:zr r.er n1=Es k):
  nD (fp 173 r e) (apply (qe .i64) r.er e.er):=by
 have hR:apply (qe .i64) r.er e.er=l7 r.er e.er:=by unfold apply;rw[if_pos (.inr (.inr hk))]
 rw[hR]
 obtain⟨p,h1,_,h3⟩:=Eb hp
 have hpo:k9 r.er n1=Es p.er:=by unfold k9;rw[hp];exact h3
 unfold l7
 rw[if_neg (show ¬e.er.kind=lA from fun h=>by rw[show e.er.kind=e.kind from rfl,hk]at h;exact absurd h (by decide)),if_neg (show ¬e.er.kind=kl from fun h=>by rw[show e.er.kind=e.kind from rfl,hk]at h;exact absurd h (by decide)),fc hn,l6 hn,hpo]
 have hA:fp 173 r e=qa (HU e r.day r.au r.ae r.units) fun v=>Es (v.1,{ r with units:=v.2.1 }):=rfl
 rw[hA]
 unfold HU D4
 simp only[ar.eta,gM hn,gN hn,qa,vq (jk b.P),yL (jk b.U),lD,wF,hp,y6,ja h1]
 rw[jG (by simp[SM])]
 simp only[jn8 (mO b.U)]
 have hl:r.er.units.length=(r.units.getD []).length:=by rw[A8,Gt]
 have hd:p.er.aM.isEmpty=decide (((p.aM.getD []).length:Int)=0):=by
  show((p.aM.getD []).map aY.er).isEmpty=_
  cases p.aM.getD []with
  |nil=>rfl
  |cons x l=>simp;omega
 have oT:p.er.aM.length=(p.aM.getD []).length:=by show((p.aM.getD []).map aY.er).length=_;rw[Gt]
 simp only[hl,hd,oT]
 cases (zp r.er n0).isSome with
 |true=>exact⟨_,_,rfl,rfl,by decide⟩
 |false=>
  cases hz:decide (((p.aM.getD []).length:Int)=0)with
  |true=>exact⟨_,_,rfl,rfl,by decide⟩
  |false=>
   by_cases h2:256≤(r.units.getD []).length
   ·have oN:decide (256≤((r.units.getD []).length:Int))=Ge:=decide_eq_true (by omega)
    simp only[E9,if_false,h2,oN,if_true,fF]
    exact⟨_,_,rfl,rfl,by decide⟩
   ·have oN:decide (256≤((r.units.getD []).length:Int))=Gf:=decide_eq_false (by omega)
    simp only[E9,if_false,h2,oN,if_true,fF]
    exact⟨_,_,rfl,rfl,qw4 rfl⟩
theorem jok {p c n}(hl:(p.dn.getD []).length<SM):∃v,HW c n n p=Es { p with dn:=v }∧v.getD []=kw (p.dn.getD []) n c:=by
 unfold HW kw
 by_cases h:c=0
 ·simp only[h,decide_true,cond_true,if_true,jmu (G5 hl),qa]
  exact⟨_,rfl,zw _⟩
 ·obtain⟨v,w,h1,h2⟩:=jnm (x:=⟨n,c⟩) (k:=n) hl
  simp only[h,decide_false,cond_false,if_false,h1,qa]
  exact⟨_,rfl,h2⟩
theorem jk4 (b:GB r){n0 n1 c k p}(hp:zr r.er n0=Es k)(hx:(r.ae.getD [])[k]?=Es p):∃v,Bo n0 c n1 n1 r.day r.au r.ae r.units=Es (Es ((r.ae.getD []).set k { p with dn:=v }))∧v.getD []=kw (p.dn.getD []) n1 c:=by
 obtain⟨v,h1,h2⟩:=jok (c:=c) (n:=n1) (mO (b.D p (Ga hx)).2.1)
 refine⟨v,?_,h2⟩
 unfold Bo Ty
 simp only[ar.eta,vq (jk b.P),hp,y6,qa]
 rw[ou (jk b.P) hx h1]
theorem jip (b:GB r){n0 t k p}(hp:zr r.er n0=Es k)(hx:(r.ae.getD [])[k]?=Es p):∃v,Ed n0 t t r.day r.au r.ae r.units=Es (Es ((r.ae.getD []).set k { p with dt:=v }))∧v.getD []=ke (eK t.k) t (p.dt.getD []):=by
 obtain⟨v,w,h1,h2⟩:=jpc (x:=t) (s:=t) (o:=p.dt) (mO (b.D p (Ga hx)).2.2.1)
 refine⟨v,?_,h2⟩
 unfold Ed Tz
 simp only[ar.eta,vq (jk b.P),hp,y6,qa]
 rw[ou (jk b.P) hx (show HX t t p=Es { p with dt:=v } by unfold HX;rw[h1];rfl)]
theorem L3 {n0:List UInt8}{k:Nat}{p:aC}(hn:nm e.er 0=n0)(hp:zr r.er n0=Es k)(h3:r.er.ae[k]?=Es p.er):kj r.er e.er =
   if e.kind=lB then
    (if vl e.er 1<0∨10000<vl e.er 1 then .error 3 else if 0<vl e.er 1∧!((p.dn.getD []).any (df (nm e.er 1)))∧16≤(p.dn.getD []).length then .error 5 else
     .ok (bR r.er k { p.er with bX:={ p.er.bX with aB:=kw (p.dn.getD []) (nm e.er 1) (vl e.er 1) } }))
   else if e.kind=l4 then
    (if vl e.er 2<vl e.er 1 then .error 11 else if !((p.dt.getD []).any (eK (nm e.er 1)))∧16≤(p.dt.getD []).length then .error 5 else
     .ok (bR r.er k { p.er with bX:={ p.er.bX with aA:=ke (eK (nm e.er 1)) ⟨nm e.er 1,vl e.er 1,vl e.er 2⟩ (p.dt.getD []) } }))
   else(if(p.dn.getD []).isEmpty then .error 12 else if 100≤p.er.aM.length then .error 5 else .ok (bR r.er k { p.er with aM:=p.er.aM++[p.er.bX] })):=by
 unfold kj
 rw[hn,hp]
 simp only[h3]
 rfl
theorem zh3 (b:GB r){n0 n1:List UInt8}{v0 v1:Int}{k:Nat}(hk:e.kind=lB)(hn:e.names.getD []=[n0,n1])(hv:e.values.getD []=[v0,v1])(hp:zr r.er n0=Es k):
  nD (fp 170 r e) (apply (qe .i64) r.er e.er):=by
 have hR:apply (qe .i64) r.er e.er=kj r.er e.er:=by
  unfold apply
  rw[show e.er.kind=lB from hk,if_neg (by decide),if_pos (.inl rfl)]
 obtain⟨p,h1,_,h3⟩:=Eb hp
 rw[hR,L3 (fc hn) hp h3,if_pos hk,l6 hn,vt hv]
 have hA:fp 170 r e=qa (f170 e r.day r.au r.ae r.units) fun v=>Es (v.1,{ r with ae:=v.2 }):=rfl
 rw[hA]
 obtain⟨v,g1,g2⟩:=jk4 b (n1:=n1) (c:=v1) hp h1
 have Ap:=(b.D p (Ga h1)).2.1
 have dJ:({ r with ae:=Es ((r.ae.getD []).set k { p with dn:=v }) }:ar).er=bR r.er k { p.er with bX:={ p.er.bX with aB:=kw (p.dn.getD []) n1 v1 } }:=by
  rw[Ec rfl]
  congr 1
  simp only[aC.er,g2]
 unfold f170
 simp only[ar.eta,gM hn,gN hn,gN hv,qa,vq (jk b.P),hp,y6,ja h1,L0,lD,jhw (jk Ap),g1]
 by_cases hz:v1<0∨10000<v1
 ·simp only[hz,if_true,if_false,E9]
  cases decide (0<v1)<;>cases (p.dn.getD []).any (df n1)<;>(simp only[cond_true,cond_false];rw[jG (by simp[SM])];exact⟨_,_,rfl,rfl,by decide⟩)
 ·simp only[hz,if_false,if_true,E9]
  by_cases h0:0<v1
  ·rw[decide_eq_true h0]
   cases ha:(p.dn.getD []).any (df n1)with
   |true=>
    simp only[cond_true,Gy,E9,false_and,and_false,if_false]
    rw[jG (by simp[SM])]
    exact⟨_,_,rfl,rfl,dJ⟩
   |false=>
    simp only[cond_true,cond_false,Jn,true_and,h0]
    rw[jG (by simp[SM])]
    by_cases h2:16≤(p.dn.getD []).length
    ·rw[show decide (16≤((p.dn.getD []).length:Int))=Ge from decide_eq_true (by omega),if_pos h2]
     exact⟨_,_,rfl,rfl,by decide⟩
    ·rw[show decide (16≤((p.dn.getD []).length:Int))=Gf from decide_eq_false (by omega),if_neg h2]
     exact⟨_,_,rfl,rfl,dJ⟩
  ·rw[decide_eq_false h0,if_neg (show ¬(0<v1∧(!(p.dn.getD []).any (df n1))=Ge∧16≤(p.dn.getD []).length)from fun h=>h0 h.1)]
   simp only[cond_false]
   rw[jG (by simp[SM])]
   exact⟨_,_,rfl,rfl,dJ⟩
theorem zij (b:GB r){n0 n1:List UInt8}{v0 v1 v2:Int}{k:Nat}(hk:e.kind=l4)(hn:e.names.getD []=[n0,n1])(hv:e.values.getD []=[v0,v1,v2])(hp:zr r.er n0=Es k):
  nD (fp 171 r e) (apply (qe .i64) r.er e.er):=by
 have hR:apply (qe .i64) r.er e.er=kj r.er e.er:=by
  unfold apply
  rw[show e.er.kind=l4 from hk,if_neg (by decide),if_pos (.inr (.inl rfl))]
 obtain⟨p,h1,_,h3⟩:=Eb hp
 rw[hR,L3 (fc hn) hp h3,if_neg (by rw[hk];decide),if_pos hk,l6 hn,vt hv,vl2 hv]
 have hA:fp 171 r e=qa (f171 e r.day r.au r.ae r.units) fun v=>Es (v.1,{ r with ae:=v.2 }):=rfl
 rw[hA]
 obtain⟨v,g1,g2⟩:=jip b (t:=⟨n1,v1,v2⟩) hp h1
 have Ap:=(b.D p (Ga h1)).2.2.1
 have dJ:({ r with ae:=Es ((r.ae.getD []).set k { p with dt:=v }) }:ar).er=bR r.er k { p.er with bX:={ p.er.bX with aA:=ke (eK n1) ⟨n1,v1,v2⟩ (p.dt.getD []) } }:=by
  rw[Ec rfl]
  congr 1
  simp only[aC.er,g2]
 unfold f171
 simp only[ar.eta,gM hn,gN hn,gN hv,jw7 hv,qa,vq (jk b.P),hp,y6,ja h1,lD,jjl (jk Ap),g1]
 by_cases hz:v2<v1
 ·rw[decide_eq_true hz,if_pos hz]
  cases (p.dt.getD []).any (eK n1)<;>(simp only[cond_true,cond_false];rw[jG (by simp[SM])];exact⟨_,_,rfl,rfl,by decide⟩)
 ·rw[decide_eq_false hz,if_neg hz]
  cases ha:(p.dt.getD []).any (eK n1)with
  |true=>
   simp only[cond_true,Gy,E9,false_and,if_false]
   rw[jG (by simp[SM])]
   exact⟨_,_,rfl,rfl,dJ⟩
  |false=>
   simp only[cond_false,Jn,true_and]
   rw[jG (by simp[SM])]
   by_cases h2:16≤(p.dt.getD []).length
   ·rw[show decide (16≤((p.dt.getD []).length:Int))=Ge from decide_eq_true (by omega),if_pos h2]
    exact⟨_,_,rfl,rfl,by decide⟩
   ·rw[show decide (16≤((p.dt.getD []).length:Int))=Gf from decide_eq_false (by omega),if_neg h2]
    exact⟨_,_,rfl,rfl,dJ⟩
theorem q3e {α:Type}{o:Option (List α)}(h:(o.getD []).length≤SM):∃v w,(cond o.isNone (Es (G3,Gf)) (qa (bq (Es []) (o.getD [])) fun v=>Es (v,Ge)))=Es (v,w)∧v.getD []=o.getD []:=by
 cases o with
 |none=>exact⟨G3,Gf,rfl,rfl⟩
 |some l=>
  have h':l.length≤SM:=h
  simp only[Nk,cond_false,Gd]
  rw[Bj h']
  exact⟨_,_,rfl,rfl⟩
theorem jna {d:aY}(h1:(d.aB.getD []).length≤SM)(h2:(d.aA.getD []).length≤SM):∃d',f224 d=Es d'∧d'.er=d.er:=by
 obtain⟨v,w,g1,g2⟩:=q3e h1
 obtain⟨v',w',g3,g4⟩:=q3e h2
 unfold f224
 rw[show HY d.aB=Es (v,w)from g1,show HZ d.aA=Es (v',w')from g3]
 exact⟨⟨v,v'⟩,rfl,by simp only[aY.er,g2,g4]⟩
theorem a109 (b:GB r){n0:List UInt8}{v0:Int}{k:Nat}(hk:e.kind=oo)(hn:e.names.getD []=[n0])(hv:e.values.getD []=[v0])(hp:zr r.er n0=Es k):
  nD (fp 172 r e) (apply (qe .i64) r.er e.er):=by
 have hR:apply (qe .i64) r.er e.er=kj r.er e.er:=by
  unfold apply
  rw[show e.er.kind=oo from hk,if_neg (by decide),if_pos (.inr (.inr rfl))]
 obtain⟨p,h1,_,h3⟩:=Eb hp
 rw[hR,L3 (fc hn) hp h3,if_neg (by rw[hk];decide),if_neg (by rw[hk];decide)]
 have hA:fp 172 r e=qa (H0 e r.day r.au r.ae r.units) fun v=>Es (v.1,{ r with ae:=v.2 }):=rfl
 rw[hA]
 have hD:=b.D p (Ga h1)
 obtain⟨d',g1,g2⟩:=jna (d:=⟨p.dn,p.dt⟩) (jk hD.2.1) (jk hD.2.2.1)
 have g3:L4 r.ae (k:Int)=Es (Es ((r.ae.getD []).set k { p with aM:=Es (p.aM.getD []++[d']) })):=by
  unfold L4
  exact ou (jk b.P) h1 (by unfold L5;rw[g1];simp only[qa];rw[jnb (mO hD.1)])
 have dJ:({ r with ae:=Es ((r.ae.getD []).set k { p with aM:=Es (p.aM.getD []++[d']) }) }:ar).er=bR r.er k { p.er with aM:=p.er.aM++[p.er.bX] }:=by
  rw[Ec rfl]
  congr 1
  simp only[aC.er,Gd,Jf,Gn,Jc,g2]
  rfl
 have oT:p.er.aM.length=(p.aM.getD []).length:=by show((p.aM.getD []).map aY.er).length=_;rw[Gt]
 have hd:(p.dn.getD []).isEmpty=decide (((p.dn.getD []).length:Int)=0):=by
  cases p.dn.getD []with
  |nil=>rfl
  |cons x l=>simp;omega
 unfold H0
 simp only[ar.eta,gM hn,qa,vq (jk b.P),hp,y6,ja h1,lD,g3,hd,oT]
 rw[jG (by simp[SM])]
 cases decide (((p.dn.getD []).length:Int)=0)with
 |true=>exact⟨_,_,rfl,rfl,by decide⟩
 |false=>
  by_cases h2:100≤(p.aM.getD []).length
  ·rw[show decide (100≤((p.aM.getD []).length:Int))=Ge from decide_eq_true (by omega),if_pos h2]
   exact⟨_,_,rfl,rfl,by decide⟩
  ·rw[show decide (100≤((p.aM.getD []).length:Int))=Gf from decide_eq_false (by omega),if_neg h2]
   exact⟨_,_,rfl,rfl,dJ⟩
end Go.Z
namespace Go.Z
open Go Go.Abs Go.W
variable {r:ar}{e:GEv}
theorem kD {k}(hk:e.kind=k)(h:¬(k=lA∨k=kl∨k=lC))(h2:¬(k=lB∨k=l4∨k=oo)):apply (qe .i64) r.er e.er=if k=yp∨k=kg then lE r.er e.er else l8 (qe .i64) r.er e.er:=by
 unfold apply
 rw[show e.er.kind=k from hk,if_neg h,if_neg h2]
theorem zgj (b:GB r){n0 v0 k}(hk:e.kind=yp)(hn:e.names.getD []=[n0])(hv:e.values.getD []=[v0])(hp:zm r.er n0=Es k):
  nD (fp 178 r e) (apply (qe .i64) r.er e.er):=by
 rw[kD hk (by decide) (by decide),if_pos (.inl rfl)]
 obtain⟨x,h1,_⟩:=HS hp
 have hA:fp 178 r e=qa (H2 e r.day r.au r.ae r.units) fun v=>Es (v.1,{ r with au:=v.2 }):=rfl
 rw[hA]
 have g1:TA r.au (k:Int)=Es (Es ((r.au.getD []).set k { x with held:=Ge })):=ou (jk b.L) h1 rfl
 unfold lE
 rw[fc hn,hp]
 simp only[wG,h1]
 rw[if_pos (show e.er.kind=yp from hk)]
 unfold H2
 simp only[ar.eta,gM hn,qa,DZ (jk b.L),hp,y6,ja h1,g1]
 cases x.held with
 |true=>exact⟨_,_,rfl,rfl,by decide⟩
 |false=>exact⟨_,_,rfl,rfl,L2 rfl⟩
theorem zdp (b:GB r){n0 v0 k}(hk:e.kind=kg)(hn:e.names.getD []=[n0])(hv:e.values.getD []=[v0])(hp:zm r.er n0=Es k):
  nD (fp 179 r e) (apply (qe .i64) r.er e.er):=by
 rw[kD hk (by decide) (by decide),if_pos (.inr rfl)]
 obtain⟨x,h1,_⟩:=HS hp
 have hA:fp 179 r e=qa (H3 e r.day r.au r.ae r.units) fun v=>Es (v.1,{ r with au:=v.2 }):=rfl
 rw[hA]
 have g1:TB r.au (k:Int)=Es (Es ((r.au.getD []).set k { x with held:=Gf })):=ou (jk b.L) h1 rfl
 unfold lE
 rw[fc hn,hp]
 simp only[wG,h1]
 rw[if_neg (show ¬e.er.kind=yp from fun h=>by rw[show e.er.kind=e.kind from rfl,hk]at h;exact absurd h (by decide))]
 unfold H3
 simp only[ar.eta,gM hn,qa,DZ (jk b.L),hp,y6,ja h1,g1]
 cases x.held with
 |true=>exact⟨_,_,rfl,rfl,L2 rfl⟩
 |false=>exact⟨_,_,rfl,rfl,by decide⟩
structure UOk (r:ar)(u:bh)(D:aY)(v:Int):Prop where
 doc:pK r u=Es D
 Bp:pL r u=Es D
 Ee:iB r.er u.er=Es D.er
 new:pM r.er u.er=Es v
 aB:(D.aB.getD []).length≤BB
 aA:(D.aA.getD []).length≤BB
 uses:(u.uses.getD []).length≤BB
 results:(u.results.getD []).length≤BB
 au:∀x∈u.uses.getD [],(zm r.er x.k).isSome=Ge
 keyed:zt (·.k) (u.uses.getD [])
 bN:u.version≠-1
theorem jeb {u:bh}{d}(h:iB r.er u.er=Es d):∃(k:Nat) (p:aC),(r.ae.getD [])[k]?=Es p∧1≤u.version∧∃D:aY,D∈p.aM.getD []∧D.er=d:=by
 unfold iB at h
 cases hp:k9 r.er u.er.product with
 |none=>rw[hp]at h;cases h
 |some sp=>
  rw[hp]at h
  obtain⟨k,p,_,h2,rfl,_⟩:=Tj hp
  simp only[If,D1]at h
  split at h
  ·rename_i hv
   refine⟨k,p,h2,hv,?_⟩
   have h3:((p.aM.getD []).map aY.er)[(u.er.version-1).toNat]?=Es d:=h
   rw[Gv]at h3
   cases hD:(p.aM.getD [])[(u.er.version-1).toNat]? with
   |none=>rw[hD]at h3;cases h3
   |some D=>rw[hD]at h3;exact⟨D,Ga hD,by simpa using h3⟩
  ·cases h
theorem Ef (b:GB r)(w:WF r.er){i:Nat}{u}(hu:(r.units.getD [])[i]?=Es u):∃D v,UOk r u D v:=by
 have hm:=Ga hu
 have TC:u.er∈r.er.units:=by rw[A8];exact G6 hm
 obtain⟨d,hd⟩:=Gz.1 (w.ek _ TC)
 obtain⟨D,g1,g2,rfl⟩:=juq (jk b.P) (fun p hp=>jk (b.D p hp).1) hd
 obtain⟨k,p,hp,hv,D',ov,he⟩:=jeb hd
 have hb:=(b.D p (Ga hp)).2.2.2 D' ov
 have h1:D.aB.getD []=D'.aB.getD []:=congrArg gi.aB he.symm
 have h2:D.aA.getD []=D'.aA.getD []:=congrArg gi.aA he.symm
 have dr:(pM r.er u.er).isSome=Ge:=by
  unfold pM
  unfold iB at hd
  cases hq:k9 r.er u.er.product with
  |none=>rw[hq]at hd;cases hd
  |some sp=>rfl
 obtain⟨v,Ry⟩:=Gz.1 dr
 exact⟨D,v,g1,g2,hd,Ry,by rw[h1];exact hb.1,by rw[h2];exact hb.2,(b.N u hm).1,(b.N u hm).2,(w.uses _ TC).2,(w.uses _ TC).1,by omega⟩
theorem wH {n0:List UInt8}{k:Nat}{u:bh}(hn:nm e.er 0=n0)(hp:zp r.er n0=Es k)(h3:r.er.units[k]?=Es u.er):l8 (qe .i64) r.er e.er =
   if e.kind=mM then pO (qe .i64) r.er k u.er e.er
   else if e.kind=nA then pP r.er k u.er e.er
   else if e.kind=oR then
    (if u.aq then .error 21 else if !((iB r.er u.er).any fun d=>d.aA.any (eK (nm e.er 1)))then .error 7 else if 64≤(u.results.getD []).length then .error 5 else
     .ok (ay r.er k { u.er with results:=u.results.getD []++[⟨nm e.er 1,u.version,vl e.er 1⟩] }))
   else if e.kind=pJ then
    (if u.aq then .error 21 else match pM r.er u.er with
     |none=>.error 32
     |some v=>if u.version=v then .error 32 else .ok (ay r.er k { u.er with version:=v }))
   else if e.kind=yw then(if vr (qe .i64) r.er u.er≠0 then .error (vr (qe .i64) r.er u.er)else .ok (ay r.er k { u.er with aq:=Ge }))
   else(if !u.aq then .error 20 else .ok (ay r.er k { u.er with ah:=qe .i64 (u.ah+1) })):=by
 unfold l8
 rw[hn,hp]
 simp only[h3]
 rfl
theorem zia (b:GB r)(w:WF r.er){n0:List UInt8}{v0:Int}{k:Nat}(hk:e.kind=pJ)(hn:e.names.getD []=[n0])(hv:e.values.getD []=[v0])(hp:zp r.er n0=Es k):
  nD (fp 176 r e) (apply (qe .i64) r.er e.er):=by
 rw[kD hk (by decide) (by decide),if_neg (by decide)]
 obtain⟨u,h1,_,h3⟩:=rL hp
 obtain⟨D,v,o⟩:=Ef b w h1
 rw[wH (fc hn) hp h3,if_neg (by rw[hk];decide),if_neg (by rw[hk];decide),if_neg (by rw[hk];decide),if_pos hk,o.new]
 have hA:fp 176 r e=qa (H4 e r.day r.au r.ae r.units) fun v=>Es (v.1,{ r with units:=v.2 }):=rfl
 rw[hA]
 have g1:TD r.units (k:Int) v=Es (Es ((r.units.getD []).set k { u with version:=v })):=ou (jk b.U) h1 rfl
 generalize hU:({ u with version:=v }:bh)=U' at g1
 have dJ:({ r with units:=Es ((r.units.getD []).set k U') }:ar).er=ay r.er k { u.er with version:=v }:=by rw[yU rfl,←hU];rfl
 unfold H4
 simp only[ar.eta,gM hn,qa,yL (jk b.U),hp,y6,ja h1,(LO (jk b.P) o.new).1,lD,g1]
 rw[jG (by simp[SM])]
 cases u.aq with
 |true=>exact⟨_,_,rfl,rfl,by decide⟩
 |false=>
  by_cases h:u.version=v
  ·rw[decide_eq_true h,if_pos h];exact⟨_,_,rfl,rfl,by decide⟩
  ·rw[decide_eq_false h,if_neg h];exact⟨_,_,rfl,rfl,dJ⟩
theorem zgs (b:GB r)(w:WF r.er){n0:List UInt8}{v0:Int}{k:Nat}(hk:e.kind=yw)(hn:e.names.getD []=[n0])(hv:e.values.getD []=[v0])(hp:zp r.er n0=Es k):
  nD (fp 180 r e) (apply (qe .i64) r.er e.er):=by
 rw[kD hk (by decide) (by decide),if_neg (by decide)]
 obtain⟨u,h1,_,h3⟩:=rL hp
 obtain⟨D,v,o⟩:=Ef b w h1
 rw[wH (fc hn) hp h3,if_neg (by rw[hk];decide),if_neg (by rw[hk];decide),if_neg (by rw[hk];decide),if_neg (by rw[hk];decide),if_pos hk]
 have hA:fp 180 r e=qa (H5 e r.day r.au r.ae r.units) fun v=>Es (v.1,{ r with units:=v.2 }):=rfl
 rw[hA]
 have g1:TE r.units (k:Int)=Es (Es ((r.units.getD []).set k { u with aq:=Ge })):=ou (jk b.U) h1 rfl
 have g2:=ju7 (jk b.P) o.new (jk b.L) (jk o.uses) o.au o.doc o.Ee (jk o.aB) (jk o.results) (jk o.aA) o.bN
 unfold H5
 simp only[ar.eta,gM hn,qa,yL (jk b.U),hp,y6,ja h1,g2,g1]
 by_cases h:vr (qe .i64) r.er u.er=0
 ·rw[decide_eq_true h,if_neg (fun hh=>hh h)];exact⟨_,_,rfl,rfl,yU rfl⟩
 ·rw[decide_eq_false h,if_pos h];exact⟨_,_,rfl,rfl,h⟩
theorem zho (b:GB r){n0:List UInt8}{v0:Int}{k:Nat}(hk:e.kind=yJ)(hn:e.names.getD []=[n0])(hv:e.values.getD []=[v0])(hp:zp r.er n0=Es k):
  nD (fp 181 r e) (apply (qe .i64) r.er e.er):=by
 rw[kD hk (by decide) (by decide),if_neg (by decide)]
 obtain⟨u,h1,_,h3⟩:=rL hp
 rw[wH (fc hn) hp h3,if_neg (by rw[hk];decide),if_neg (by rw[hk];decide),if_neg (by rw[hk];decide),if_neg (by rw[hk];decide),if_neg (by rw[hk];decide)]
 have hA:fp 181 r e=qa (H6 e r.day r.au r.ae r.units) fun v=>Es (v.1,{ r with units:=v.2 }):=rfl
 rw[hA]
 have g1:TF r.units (k:Int)=Es (Es ((r.units.getD []).set k { u with ah:=qe .i64 (u.ah+1) })):=ou (jk b.U) h1 rfl
 generalize hU:({ u with ah:=qe .i64 (u.ah+1) }:bh)=U' at g1
 have dJ:({ r with units:=Es ((r.units.getD []).set k U') }:ar).er=ay r.er k { u.er with ah:=qe .i64 (u.ah+1) }:=by rw[yU rfl,←hU];rfl
 unfold H6
 simp only[ar.eta,gM hn,qa,yL (jk b.U),hp,y6,ja h1,g1]
 cases u.aq with
 |true=>exact⟨_,_,rfl,rfl,dJ⟩
 |false=>exact⟨_,_,rfl,rfl,by decide⟩
theorem zio (b:GB r)(w:WF r.er){n0 n1:List UInt8}{v0 v1:Int}{k:Nat}(hk:e.kind=oR)(hn:e.names.getD []=[n0,n1])(hv:e.values.getD []=[v0,v1])(hp:zp r.er n0=Es k):
  nD (fp 175 r e) (apply (qe .i64) r.er e.er):=by
 rw[kD hk (by decide) (by decide),if_neg (by decide)]
 obtain⟨u,h1,_,h3⟩:=rL hp
 obtain⟨D,v,o⟩:=Ef b w h1
 rw[wH (fc hn) hp h3,if_neg (by rw[hk];decide),if_neg (by rw[hk];decide),if_pos hk,l6 hn,vt hv,o.Ee]
 have hA:fp 175 r e=qa (H7 e r.day r.au r.ae r.units) fun v=>Es (v.1,{ r with units:=v.2 }):=rfl
 rw[hA]
 have g1:TG r.units (k:Int) e=Es (Es ((r.units.getD []).set k { u with results:=Es (u.results.getD []++[⟨n1,u.version,v1⟩]) })):=ou (jk b.U) h1 (by
  unfold L6
  rw[gN hn,gN hv]
  simp only[qa]
  rw[jo7 (mO o.results)])
 generalize hU:({ u with results:=Es (u.results.getD []++[⟨n1,u.version,v1⟩]) }:bh)=U' at g1
 have dJ:({ r with units:=Es ((r.units.getD []).set k U') }:ar).er=ay r.er k { u.er with results:=u.results.getD []++[⟨n1,u.version,v1⟩] }:=by rw[yU rfl,←hU];rfl
 unfold H7
 simp only[ar.eta,gM hn,qa,yL (jk b.U),hp,y6,ja h1,o.doc,jju (gN hn) (jk o.aA),lD,g1,Gu]
 rw[jG (by simp[SM]),show D.er.aA=D.aA.getD []from rfl]
 cases u.aq with
 |true=>exact⟨_,_,rfl,rfl,by decide⟩
 |false=>
  cases (D.aA.getD []).any (eK n1)with
  |false=>exact⟨_,_,rfl,rfl,by decide⟩
  |true=>
   by_cases h2:64≤(u.results.getD []).length
   ·rw[show decide (64≤((u.results.getD []).length:Int))=Ge from decide_eq_true (by omega),if_pos h2]
    exact⟨_,_,rfl,rfl,by decide⟩
   ·rw[show decide (64≤((u.results.getD []).length:Int))=Gf from decide_eq_false (by omega),if_neg h2]
    exact⟨_,_,rfl,rfl,dJ⟩
theorem zez (b:GB r)(w:WF r.er){n0 n1:List UInt8}{v0 v1:Int}{k j:Nat}(hk:e.kind=mM)(hn:e.names.getD []=[n0,n1])(hv:e.values.getD []=[v0,v1])(hp:zp r.er n0=Es k)(hq:zm r.er n1=Es j):
  nD (fp 174 r e) (apply (qe .i64) r.er e.er):=by
 rw[kD hk (by decide) (by decide),if_neg (by decide)]
 obtain⟨u,h1,_,h3⟩:=rL hp
 obtain⟨x,h4,DL⟩:=HS hq
 obtain⟨D,v,o⟩:=Ef b w h1
 rw[wH (fc hn) hp h3,if_pos hk]
 unfold pO
 rw[l6 hn,hq,vt hv,o.Ee]
 simp only[wG,h4]
 have hA:fp 174 r e=qa (H8 e r.day r.au r.ae r.units) fun v=>Es (v.1,{ r with au:=v.2.1,units:=v.2.2 }):=rfl
 rw[hA]
 have g1:TH r.au (j:Int) v1=Es (Es ((r.au.getD []).set j { x with left:=qe .i64 (x.left-v1) })):=ou (jk b.L) h4 rfl
 unfold H8
 simp only[ar.eta,gM hn,gN hn,gN hv,qa,yL (jk b.U),DZ (jk b.L),hp,hq,y6,ja h1,ja h4,o.doc,jj9 (jk o.aB),lD,g1,jm5 (jk o.uses),Gu]
 rw[jG (by simp[SM])]
 have hdn:D.er.aB=D.aB.getD []:=rfl
 simp only[hdn]
 have lZ:∀(s:bn),jP (qe .i64) (u.uses.getD []) x.name v1=ke (df x.name) s (u.uses.getD [])→∃us,gj r.units (k:Int) (Eg s x)=Es us∧({ r with au:=Es ((r.au.getD []).set j { x with left:=qe .i64 (x.left-v1) }),units:=us }:ar).er=ay (b4 r.er j { x with left:=qe .i64 (x.left-v1) }) k { u.er with uses:=jP (qe .i64) u.er.uses x.name v1 }:=by
  intro s hs
  obtain⟨q,wq,q1,q2⟩:=jnq (x:=s) (t:=x) (o:=u.uses) (mO o.uses)
  refine⟨_,ou (y:={ u with uses:=q }) (jk b.U) h1 (by unfold Eg;rw[q1];rfl),?_⟩
  simp only[ar.er,ay,b4,Gd,Jd]
  congr 2
  simp only[bh.er,q2,hs]
 by_cases hs:u.aq=Ge
 ·simp only[if_pos hs,if_pos (show u.er.aq=Ge from hs)]
  exact⟨_,_,rfl,rfl,by decide⟩
 simp only[if_neg hs,if_neg (show ¬u.er.aq=Ge from hs)]
 by_cases hz:v1=0
 ·simp only[if_pos hz,decide_eq_true hz,if_true]
  exact⟨_,_,rfl,rfl,by decide⟩
 simp only[if_neg hz,decide_eq_false hz,E9,if_false]
 by_cases hh:x.held=Ge
 ·simp only[if_pos hh]
  exact⟨_,_,rfl,rfl,by decide⟩
 simp only[if_neg hh]
 cases (D.aB.getD []).any (df x.kind)with
 |false=>exact⟨_,_,rfl,rfl,by decide⟩
 |true=>
 simp only[Gy,E9,if_false]
 by_cases hl:x.left<v1
 ·simp only[if_pos hl,decide_eq_true hl,if_true]
  exact⟨_,_,rfl,rfl,by decide⟩
 simp only[if_neg hl,decide_eq_false hl,E9,if_false]
 have H9:∀ {α:Type} (A B:Option α),cond (decide (fF [0,0,0,0,0]=0)) A B=A:=fun A B=>rfl
 cases hi:(u.uses.getD []).findIdx? (df x.name)with
 |none=>
  obtain⟨us,q1,q2⟩:=lZ ⟨x.name,v1⟩ (by unfold jP ke;rw[hi])
  rw[H9]
  rw[show decide (0≤eJ G3)=Gf from rfl]
  simp only[cond_false,q1]
  exact⟨_,_,rfl,rfl,q2⟩
 |some i=>
  obtain⟨y,hy,_⟩:=bQ hi
  obtain⟨us,q1,q2⟩:=lZ ⟨x.name,qe .i64 (v1+y.n)⟩ (by unfold jP ke;rw[hi];simp only[hy])
  rw[H9]
  rw[show decide (0≤eJ (Es i))=Ge from yN (Es i)]
  simp only[cond_true,y6,ja hy,q1]
  exact⟨_,_,rfl,rfl,q2⟩
end Go.Z
set_option maxHeartbeats 4000000
namespace Go.Z
open Go Go.Abs Go.W
variable {r:ar}{e:GEv}
theorem j20 {a b c d}:f46 (Es [a,b,c,d])=Es (fF [a,b,c,d]):=jG (by simp[SM])
theorem zhz (b:GB r){n0 n1 v0 k j}(hk:e.kind=nA)(hn:e.names.getD []=[n0,n1])(hv:e.values.getD []=[v0])(hp:zp r.er n0=Es k)(hq:zp r.er n1=Es j):
  nD (fp 177 r e) (apply (qe .i64) r.er e.er):=by
 rw[kD hk (by decide) (by decide),if_neg (by decide)]
 obtain⟨u,h1,_,h3⟩:=rL hp
 obtain⟨v,h4,_,h5⟩:=rL hq
 rw[wH (fc hn) hp h3,if_neg (by rw[hk];decide),if_pos hk]
 unfold pP
 rw[l6 hn,hq]
 simp only[h5]
 have hA:fp 177 r e=qa (Ia e r.day r.au r.ae r.units) fun v=>Es (v.1,{ r with units:=v.2 }):=rfl
 rw[hA]
 have g1:vu r.units (k:Int) v=Es (Es ((r.units.getD []).set k { u with partner:=v.name })):=ou (jk b.U) h1 rfl
 have g2:k≠j→∀bb,vw (Es ((r.units.getD []).set k { u with partner:=v.name })) (j:Int) ⟨u.name,u.product,u.version,u.uses,u.results,u.partner,bb,u.ah⟩=Es (Es (((r.units.getD []).set k { u with partner:=v.name }).set j { v with partner:=u.name })):=by
  intro hkj bb
  exact ou (x:=v) (by rw[Gd,List.length_set];exact jk b.U) (by rw[Gd,List.getElem?_set_ne hkj];exact h4) rfl
 have dJ:({ r with units:=Es (((r.units.getD []).set k { u with partner:=v.name }).set j { v with partner:=u.name }) }:ar).er=ay (ay r.er k { u.er with partner:=v.er.name }) j { v.er with partner:=u.er.name }:=by
  simp only[ar.er,ay,Gd,Jd]
  rfl
 generalize hz:ay (ay r.er k { u.er with partner:=v.er.name }) j { v.er with partner:=u.er.name }=Z at dJ ⊢
 generalize hX:Es (Es (((r.units.getD []).set k { u with partner:=v.name }).set j { v with partner:=u.name }))=X at g2
 generalize hY:Es ((r.units.getD []).set k { u with partner:=v.name })=Y at g1 g2
 unfold Ia
 simp only[ar.eta,gM hn,gN hn,qa,yL (jk b.U),hp,hq,y6,ja h1,ja h4,lD,j20,g1]
 have e1:decide ((k:Int)=(j:Int))=decide (k=j):=by
  by_cases h:k=j
  ·rw[decide_eq_true h];exact decide_eq_true (by omega)
  ·rw[decide_eq_false h];exact decide_eq_false (by omega)
 have e2:u.er.product=u.product:=rfl
 have e3:v.er.product=v.product:=rfl
 have e4:u.er.version=u.version:=rfl
 have e5:v.er.version=v.version:=rfl
 have e6:u.er.aq=u.aq:=rfl
 have e7:v.er.aq=v.aq:=rfl
 have e8:u.er.partner=u.partner:=rfl
 have e9:v.er.partner=v.partner:=rfl
 simp only[e1,e2,e3,e4,e5,e6,e7,e8,e9]
 by_cases c1:k=j<;>by_cases c2:u.product=v.product<;>by_cases cH:u.version=v.version<;>cases fe:u.aq<;>cases cD:v.aq<;>by_cases eh:u.partner=[]<;>by_cases mP:v.partner=[] <;>
  simp only[c1,c2,cH,eh,mP,decide_true,decide_false,cond_true,cond_false,Gy,Jn,if_true,if_false,E9,ne_eq,not_true_eq_false,not_false_eq_true,or_true,true_or,or_false,false_or,or_self] <;>
  first
  |exact⟨_,_,rfl,rfl,by decide⟩
  |(have g3:=g2 c1 Gf
    simp only[c2,cH,eh]at g3
    rw[g3,←hX]
    exact⟨_,_,rfl,rfl,dJ⟩)
end Go.Z
namespace Go.Z
open Go Go.Abs Go.W
variable {r:ar}{e:GEv}
def Eh (r:bj)(c:Int)(n:List UInt8):Bool:=if c=108 then(zm r n).isSome else if c=112 then(zr r n).isSome else if c=117 then(zp r n).isSome else Ge
theorem TI (b:GB r){c n}:Ei r c n=Es (Eh r.er c n):=by
 unfold Ei Eh
 by_cases h1:c=108
 ·simp only[h1,decide_true,cond_true,if_true,DZ (jk b.L),qa,wF]
 ·by_cases h2:c=112
  ·simp only[h1,h2,decide_true,decide_false,cond_true,cond_false,if_true,if_false,vq (jk b.P),qa,wF];rfl
  ·by_cases h3:c=117
   ·simp only[h1,h2,h3,decide_true,decide_false,cond_true,cond_false,if_true,if_false,yL (jk b.U),qa,wF];rfl
   ·simp only[h1,h2,h3,decide_false,cond_false,if_false]
def y7 (r:bj)(c:UInt8)(n:List UInt8):Bool:=decide ((c.toNat:Int)=45)||Eh r (c.toNat:Int) n
theorem Bq (b:GB r){a n0 t}(hr:j6 e.kind=[a])(hd:qn [a] 0=(a.toNat,1))(hn:e.names.getD []=n0::t):
  ∃d,bB (Ej r e) G3=Es (if y7 r.er a n0 then .inr d else .inl d):=by
 have z:Br r e=Es (if y7 r.er a n0 then .inl (Es 1)else .inr (.inl 1)):=by
  unfold Br y7
  simp only[hr,hd,qa,gM hn,TI b]
  simp only[G2,Nat.lt_irrefl,show decide (0<1)=Ge from rfl,cond_true]
  cases decide ((a.toNat:Int)=45)<;>cases Eh r.er (a.toNat:Int) n0<;>rfl
 cases hk:y7 r.er a n0 with
 |true=>
  rw[hk]at z
  refine⟨1,?_⟩
  rw[oQ (s':=Es 1) z]
  refine ku (d:=(Sum.inr 1:Nat⊕Nat)) ?_
  show wI r e 1=_
  unfold wI
  simp only[hr,G2]
  rfl
 |false=>
  rw[hk]at z
  exact⟨1,ku z⟩
theorem Bs (b:GB r){a c n0 n1 t}(hr:j6 e.kind=[a,c])(hd:qn [a,c] 0=(a.toNat,1))(hd1:qn [a,c] 1=(c.toNat,1))(hn:e.names.getD []=n0::n1::t):
  ∃d,bB (Ej r e) G3=Es (if y7 r.er a n0&&y7 r.er c n1 then .inr d else .inl d):=by
 have z:Br r e=Es (if y7 r.er a n0 then .inl (Es 1)else .inr (.inl 1)):=by
  unfold Br y7
  simp only[hr,hd,qa,gM hn,TI b]
  simp only[Gx,Jg,show decide (0<0+1+1)=Ge from rfl,cond_true]
  cases decide ((a.toNat:Int)=45)<;>cases Eh r.er (a.toNat:Int) n0<;>rfl
 have y:wI r e 1=Es (if y7 r.er c n1 then .inl (Es 2)else .inr (.inl 2)):=by
  unfold wI y7
  simp only[hr,hd1,qa,show((1:Nat):Int)=1 from rfl,gN hn,TI b]
  simp only[Gx,Jg,show decide (1<0+1+1)=Ge from rfl,cond_true]
  cases decide ((c.toNat:Int)=45)<;>cases Eh r.er (c.toNat:Int) n1<;>rfl
 cases hk:y7 r.er a n0 with
 |false=>
  rw[hk]at z
  exact⟨1,ku z⟩
 |true=>
  rw[hk]at z
  cases dx:y7 r.er c n1 with
  |false=>
   rw[dx]at y
   refine⟨2,?_⟩
   rw[oQ (s':=Es 1) z]
   exact ku (d:=(Hb 2:Nat⊕Nat)) y
  |true=>
   rw[dx]at y
   refine⟨2,?_⟩
   rw[oQ (s':=Es 1) z,oQ (s':=Es 2) y]
   refine ku (d:=(Sum.inr 2:Nat⊕Nat)) ?_
   show wI r e 2=_
   unfold wI
   simp only[hr,Gx,Jg]
   rfl
def gO (x:Option (ar×Int))(y:pN):Prop:=∃r' c,x=Es (r',c)∧match y with
 | .error k=>c=k∧k≠0
 | .ok s=>c=0∧r'.er=s
theorem ox {v0 t K}(hv:e.values.getD []=v0::t)(hl:∃d,bB (Ej r e) G3=Es (if K then .inr d else .inl d))(hK:K=Gf→apply (qe .i64) r.er e.er=.error 10)(hA:K=Ge→nD (fp (Ib e.kind) r e) (apply (qe .i64) r.er e.er)):
  gO (jQ r e) (after (qe .i64) r.er e.er):=by
 unfold jQ after
 rw[gM hv,Tx hv]
 simp only[qa]
 by_cases h:v0<r.day
 ·rw[decide_eq_true h,if_pos (show v0<r.er.day from h)]
  exact⟨_,_,rfl,rfl,by decide⟩
 ·rw[decide_eq_false h,if_neg (show ¬v0<r.er.day from h)]
  obtain⟨d,hd⟩:=hl
  rw[hd]
  cases K with
  |false=>
   rw[hK rfl]
   exact⟨_,_,rfl,rfl,by decide⟩
  |true=>
   obtain⟨c,r',h1,h2⟩:=hA rfl
   simp only[if_true,cond_false]
   rw[h1]
   simp only[]
   cases ha:apply (qe .i64) r.er e.er with
   |error k=>
    rw[ha]at h2
    obtain⟨rfl,h3⟩:=h2
    rw[decide_eq_false h3]
    exact⟨_,_,rfl,rfl,h3⟩
   |ok s=>
    rw[ha]at h2
    obtain⟨rfl,rfl⟩:=h2
    exact⟨_,_,rfl,rfl,rfl⟩
theorem oy {α:Type}{o:Option α}(h:o.isSome=Ge):∃x,o=Es x:=Gz.1 h
theorem pQ {α:Type}{o:Option α}(h:o.isSome=Gf):o=G3:=by cases o<;>simp at h ⊢
theorem ki {k a c}(hk:e.kind=k)(hf:ye k=Es (a,c))(hc:jn e.er=0):(e.names.getD []).length=a∧(e.values.getD []).length=c:=by
 obtain⟨_,f,h1,h2,h3⟩:=Ic hc
 rw[show e.er.kind=k from hk,hf]at h1
 cases h1
 exact⟨h2,h3⟩
theorem jH {α:Type}{l:List α}(h:l.length=1):∃a,l=[a]:=List.length_eq_one_iff.1 h
theorem gP {α:Type}{l:List α}(h:l.length=2):∃a b,l=[a,b]:=by
 match l,h with
 | [a,b],_=>exact⟨a,b,rfl⟩
theorem jtk {α:Type}{l:List α}(h:l.length=3):∃a b c,l=[a,b,c]:=by
 match l,h with
 | [a,b,c],_=>exact⟨a,b,c,rfl⟩
theorem oz {r n}:y7 r 45 n=Ge:=rfl
theorem rl {r n}:y7 r 108 n=(zm r n).isSome:=rfl
theorem rp {r n}:y7 r 112 n=(zr r n).isSome:=rfl
theorem ru {r n}:y7 r 117 n=(zp r n).isSome:=rfl
theorem jro (b:GB r)(hk:e.kind=lA)(hc:jn e.er=0):gO (jQ r e) (after (qe .i64) r.er e.er):=by
 obtain⟨h1,h2⟩:=ki hk (show ye lA=Es (2,2)from rfl) hc
 obtain⟨n0,n1,hn⟩:=gP h1
 obtain⟨v0,v1,hv⟩:=gP h2
 refine ox (K:=true) hv (by have:=Bs (a:=45) (c:=45) b (by rw[hk];rfl) rfl rfl hn;simpa[oz]using this) (fun h=>by cases h) (fun _=>?_)
 rw[hk]
 exact a105 b hk hn hv
theorem q94 (b:GB r)(hk:e.kind=kl)(hc:jn e.er=0):gO (jQ r e) (after (qe .i64) r.er e.er):=by
 obtain⟨h1,h2⟩:=ki hk (show ye kl=Es (1,1)from rfl) hc
 obtain⟨n0,hn⟩:=jH h1
 obtain⟨v0,hv⟩:=jH h2
 refine ox (K:=true) hv (by have:=Bq (a:=45) b (by rw[hk];rfl) rfl hn;simpa[oz]using this) (fun h=>by cases h) (fun _=>?_)
 rw[hk]
 exact zbp b hk hn hv
theorem jm3 (b:GB r)(hk:e.kind=lB)(hc:jn e.er=0):gO (jQ r e) (after (qe .i64) r.er e.er):=by
 obtain⟨h1,h2⟩:=ki hk (show ye lB=Es (2,2)from rfl) hc
 obtain⟨n0,n1,hn⟩:=gP h1
 obtain⟨v0,v1,hv⟩:=gP h2
 refine ox (K:=(zr r.er n0).isSome) hv (by have:=Bs (a:=112) (c:=45) b (by rw[hk];rfl) rfl rfl hn;rw[show(y7 r.er 112 n0&&y7 r.er 45 n1)=((zr r.er n0).isSome)from by simp only[oz,rl,rp,ru,Gj,Gl]]at this;exact this) (fun h=>?_) (fun h=>?_)
 ·have h:=pQ h
  unfold apply kj
  rw[show e.er.kind=lB from hk,if_neg (by decide),if_pos (by decide),fc hn,h]
 ·obtain⟨k,hp⟩:=oy h
  rw[hk]
  exact zh3 b hk hn hv hp
theorem joo (b:GB r)(hk:e.kind=l4)(hc:jn e.er=0):gO (jQ r e) (after (qe .i64) r.er e.er):=by
 obtain⟨h1,h2⟩:=ki hk (show ye l4=Es (2,3)from rfl) hc
 obtain⟨n0,n1,hn⟩:=gP h1
 obtain⟨v0,v1,v2,hv⟩:=jtk h2
 refine ox (K:=(zr r.er n0).isSome) hv (by have:=Bs (a:=112) (c:=45) b (by rw[hk];rfl) rfl rfl hn;rw[show(y7 r.er 112 n0&&y7 r.er 45 n1)=((zr r.er n0).isSome)from by simp only[oz,rl,rp,ru,Gj,Gl]]at this;exact this) (fun h=>?_) (fun h=>?_)
 ·have h:=pQ h
  unfold apply kj
  rw[show e.er.kind=l4 from hk,if_neg (by decide),if_pos (by decide),fc hn,h]
 ·obtain⟨k,hp⟩:=oy h
  rw[hk]
  exact zij b hk hn hv hp
theorem jkh (b:GB r)(hk:e.kind=oo)(hc:jn e.er=0):gO (jQ r e) (after (qe .i64) r.er e.er):=by
 obtain⟨h1,h2⟩:=ki hk (show ye oo=Es (1,1)from rfl) hc
 obtain⟨n0,hn⟩:=jH h1
 obtain⟨v0,hv⟩:=jH h2
 refine ox (K:=(zr r.er n0).isSome) hv (by have:=Bq (a:=112)  b (by rw[hk];rfl) rfl hn;rw[show(y7 r.er 112 n0)=((zr r.er n0).isSome)from by simp only[oz,rl,rp,ru,Gj,Gl]]at this;exact this) (fun h=>?_) (fun h=>?_)
 ·have h:=pQ h
  unfold apply kj
  rw[show e.er.kind=oo from hk,if_neg (by decide),if_pos (by decide),fc hn,h]
 ·obtain⟨k,hp⟩:=oy h
  rw[hk]
  exact a109 b hk hn hv hp
theorem jjv (b:GB r)(hk:e.kind=lC)(hc:jn e.er=0):gO (jQ r e) (after (qe .i64) r.er e.er):=by
 obtain⟨h1,h2⟩:=ki hk (show ye lC=Es (2,1)from rfl) hc
 obtain⟨n0,n1,hn⟩:=gP h1
 obtain⟨v0,hv⟩:=jH h2
 refine ox (K:=(zr r.er n1).isSome) hv (by have:=Bs (a:=45) (c:=112) b (by rw[hk];rfl) rfl rfl hn;rw[show(y7 r.er 45 n0&&y7 r.er 112 n1)=((zr r.er n1).isSome)from by simp only[oz,rl,rp,ru,Gj,Gl]]at this;exact this) (fun h=>?_) (fun h=>?_)
 ·have h:=pQ h
  unfold apply l7
  rw[show e.er.kind=lC from hk,if_pos (by decide),if_neg (by decide),if_neg (by decide),l6 hn]
  unfold k9
  rw[h];rfl
 ·obtain⟨k,hp⟩:=oy h
  rw[hk]
  exact zdj b hk hn hv hp
theorem jui (b:GB r)(w:WF r.er)(hk:e.kind=mM)(hc:jn e.er=0):gO (jQ r e) (after (qe .i64) r.er e.er):=by
 obtain⟨h1,h2⟩:=ki hk (show ye mM=Es (2,2)from rfl) hc
 obtain⟨n0,n1,hn⟩:=gP h1
 obtain⟨v0,v1,hv⟩:=gP h2
 refine ox (K:=(zp r.er n0).isSome&&(zm r.er n1).isSome) hv (by have:=Bs (a:=117) (c:=108) b (by rw[hk];rfl) rfl rfl hn;rw[show(y7 r.er 117 n0&&y7 r.er 108 n1)=((zp r.er n0).isSome&&(zm r.er n1).isSome)from by simp only[oz,rl,rp,ru,Gj,Gl]]at this;exact this) (fun h=>?_) (fun h=>?_)
 ·cases h1:zp r.er n0 with
  |none=>
   rw[kD hk (by decide) (by decide),if_neg (by decide)]
   unfold l8
   rw[fc hn,h1]
  |some k=>
   rw[h1]at h
   have h:=pQ (show(zm r.er n1).isSome=Gf from h)
   obtain⟨u,g1,_,g3⟩:=rL h1
   rw[kD hk (by decide) (by decide),if_neg (by decide),wH (fc hn) h1 g3,if_pos hk]
   unfold pO
   rw[l6 hn,h]
 ·rw[Qw]at h
  obtain⟨k,hp⟩:=oy h.1
  obtain⟨j,hq⟩:=oy h.2
  rw[hk]
  exact zez b w hk hn hv hp hq
theorem q93 (b:GB r)(w:WF r.er)(hk:e.kind=oR)(hc:jn e.er=0):gO (jQ r e) (after (qe .i64) r.er e.er):=by
 obtain⟨h1,h2⟩:=ki hk (show ye oR=Es (2,2)from rfl) hc
 obtain⟨n0,n1,hn⟩:=gP h1
 obtain⟨v0,v1,hv⟩:=gP h2
 refine ox (K:=(zp r.er n0).isSome) hv (by have:=Bs (a:=117) (c:=45) b (by rw[hk];rfl) rfl rfl hn;rw[show(y7 r.er 117 n0&&y7 r.er 45 n1)=((zp r.er n0).isSome)from by simp only[oz,rl,rp,ru,Gj,Gl]]at this;exact this) (fun h=>?_) (fun h=>?_)
 ·have h:=pQ h
  rw[kD hk (by decide) (by decide),if_neg (by decide)]
  unfold l8
  rw[fc hn,h]
 ·obtain⟨k,hp⟩:=oy h
  rw[hk]
  exact zio b w hk hn hv hp
theorem jcw (b:GB r)(w:WF r.er)(hk:e.kind=pJ)(hc:jn e.er=0):gO (jQ r e) (after (qe .i64) r.er e.er):=by
 obtain⟨h1,h2⟩:=ki hk (show ye pJ=Es (1,1)from rfl) hc
 obtain⟨n0,hn⟩:=jH h1
 obtain⟨v0,hv⟩:=jH h2
 refine ox (K:=(zp r.er n0).isSome) hv (by have:=Bq (a:=117)  b (by rw[hk];rfl) rfl hn;rw[show(y7 r.er 117 n0)=((zp r.er n0).isSome)from by simp only[oz,rl,rp,ru,Gj,Gl]]at this;exact this) (fun h=>?_) (fun h=>?_)
 ·have h:=pQ h
  rw[kD hk (by decide) (by decide),if_neg (by decide)]
  unfold l8
  rw[fc hn,h]
 ·obtain⟨k,hp⟩:=oy h
  rw[hk]
  exact zia b w hk hn hv hp
theorem joa (b:GB r)(hk:e.kind=nA)(hc:jn e.er=0):gO (jQ r e) (after (qe .i64) r.er e.er):=by
 obtain⟨h1,h2⟩:=ki hk (show ye nA=Es (2,1)from rfl) hc
 obtain⟨n0,n1,hn⟩:=gP h1
 obtain⟨v0,hv⟩:=jH h2
 refine ox (K:=(zp r.er n0).isSome&&(zp r.er n1).isSome) hv (by have:=Bs (a:=117) (c:=117) b (by rw[hk];rfl) rfl rfl hn;rw[show(y7 r.er 117 n0&&y7 r.er 117 n1)=((zp r.er n0).isSome&&(zp r.er n1).isSome)from by simp only[oz,rl,rp,ru,Gj,Gl]]at this;exact this) (fun h=>?_) (fun h=>?_)
 ·cases h1:zp r.er n0 with
  |none=>
   rw[kD hk (by decide) (by decide),if_neg (by decide)]
   unfold l8
   rw[fc hn,h1]
  |some k=>
   rw[h1]at h
   have h:=pQ (show(zp r.er n1).isSome=Gf from h)
   obtain⟨u,g1,_,g3⟩:=rL h1
   rw[kD hk (by decide) (by decide),if_neg (by decide),wH (fc hn) h1 g3,if_neg (by rw[hk];decide),if_pos hk]
   unfold pP
   rw[l6 hn,h]
 ·rw[Qw]at h
  obtain⟨k,hp⟩:=oy h.1
  obtain⟨j,hq⟩:=oy h.2
  rw[hk]
  exact zhz b hk hn hv hp hq
theorem jm7 (b:GB r)(hk:e.kind=yp)(hc:jn e.er=0):gO (jQ r e) (after (qe .i64) r.er e.er):=by
 obtain⟨h1,h2⟩:=ki hk (show ye yp=Es (1,1)from rfl) hc
 obtain⟨n0,hn⟩:=jH h1
 obtain⟨v0,hv⟩:=jH h2
 refine ox (K:=(zm r.er n0).isSome) hv (by have:=Bq (a:=108)  b (by rw[hk];rfl) rfl hn;rw[show(y7 r.er 108 n0)=((zm r.er n0).isSome)from by simp only[oz,rl,rp,ru,Gj,Gl]]at this;exact this) (fun h=>?_) (fun h=>?_)
 ·have h:=pQ h
  rw[kD hk (by decide) (by decide),if_pos (by decide)]
  unfold lE
  rw[fc hn,h]
 ·obtain⟨k,hp⟩:=oy h
  rw[hk]
  exact zgj b hk hn hv hp
theorem joi (b:GB r)(hk:e.kind=kg)(hc:jn e.er=0):gO (jQ r e) (after (qe .i64) r.er e.er):=by
 obtain⟨h1,h2⟩:=ki hk (show ye kg=Es (1,1)from rfl) hc
 obtain⟨n0,hn⟩:=jH h1
 obtain⟨v0,hv⟩:=jH h2
 refine ox (K:=(zm r.er n0).isSome) hv (by have:=Bq (a:=108)  b (by rw[hk];rfl) rfl hn;rw[show(y7 r.er 108 n0)=((zm r.er n0).isSome)from by simp only[oz,rl,rp,ru,Gj,Gl]]at this;exact this) (fun h=>?_) (fun h=>?_)
 ·have h:=pQ h
  rw[kD hk (by decide) (by decide),if_pos (by decide)]
  unfold lE
  rw[fc hn,h]
 ·obtain⟨k,hp⟩:=oy h
  rw[hk]
  exact zdp b hk hn hv hp
theorem jov (b:GB r)(w:WF r.er)(hk:e.kind=yw)(hc:jn e.er=0):gO (jQ r e) (after (qe .i64) r.er e.er):=by
 obtain⟨h1,h2⟩:=ki hk (show ye yw=Es (1,1)from rfl) hc
 obtain⟨n0,hn⟩:=jH h1
 obtain⟨v0,hv⟩:=jH h2
 refine ox (K:=(zp r.er n0).isSome) hv (by have:=Bq (a:=117)  b (by rw[hk];rfl) rfl hn;rw[show(y7 r.er 117 n0)=((zp r.er n0).isSome)from by simp only[oz,rl,rp,ru,Gj,Gl]]at this;exact this) (fun h=>?_) (fun h=>?_)
 ·have h:=pQ h
  rw[kD hk (by decide) (by decide),if_neg (by decide)]
  unfold l8
  rw[fc hn,h]
 ·obtain⟨k,hp⟩:=oy h
  rw[hk]
  exact zgs b w hk hn hv hp
theorem q6w (b:GB r)(hk:e.kind=yJ)(hc:jn e.er=0):gO (jQ r e) (after (qe .i64) r.er e.er):=by
 obtain⟨h1,h2⟩:=ki hk (show ye yJ=Es (1,1)from rfl) hc
 obtain⟨n0,hn⟩:=jH h1
 obtain⟨v0,hv⟩:=jH h2
 refine ox (K:=(zp r.er n0).isSome) hv (by have:=Bq (a:=117)  b (by rw[hk];rfl) rfl hn;rw[show(y7 r.er 117 n0)=((zp r.er n0).isSome)from by simp only[oz,rl,rp,ru,Gj,Gl]]at this;exact this) (fun h=>?_) (fun h=>?_)
 ·have h:=pQ h
  rw[kD hk (by decide) (by decide),if_neg (by decide)]
  unfold l8
  rw[fc hn,h]
 ·obtain⟨k,hp⟩:=oy h
  rw[hk]
  exact zho b hk hn hv hp
theorem q7z (b:GB r)(w:WF r.er)(hc:jn e.er=0)(hu:e.kind≠y8):gO (jQ r e) (after (qe .i64) r.er e.er):=by
 obtain⟨_,f,h1,_,_⟩:=Ic hc
 have hm:e.kind∈cQ.map (·.1):=by
  unfold ye at h1
  cases hf:cQ.find? (fun x=>decide (x.1=e.er.kind))with
  |none=>rw[hf]at h1;cases h1
  |some x=>
   have h2:=List.find?_some hf
   have h3:=List.mem_of_find?_eq_some hf
   rw[show e.kind=x.1 from(of_decide_eq_true h2).symm]
   exact G6 h3
 simp only[cQ,Gn,Jc,List.mem_cons,List.mem_singleton,List.not_mem_nil,or_false]at hm
 rcases hm with h|h|h|h|h|h|h|h|h|h|h|h|h|h|h
 ·exact jro b h hc
 ·exact q94 b h hc
 ·exact jm3 b h hc
 ·exact joo b h hc
 ·exact jkh b h hc
 ·exact jjv b h hc
 ·exact jui b w h hc
 ·exact q93 b w h hc
 ·exact jcw b w h hc
 ·exact joa b h hc
 ·exact jm7 b h hc
 ·exact joi b h hc
 ·exact jov b w h hc
 ·exact q6w b h hc
 ·exact absurd h hu
end Go.Z
