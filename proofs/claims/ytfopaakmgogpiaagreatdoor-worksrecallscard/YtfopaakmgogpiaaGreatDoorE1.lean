/- Chapter 10, plain. -/
import Derived.Test.YtfopaakmgogpiaaGreatDoorW15
import Derived.Test.YtfopaakmgogpiaaGreatDoorV3
set_option linter.unusedVariables false
set_option linter.unusedSimpArgs false
set_option maxRecDepth 100000
open Option renaming some→Eh,getD_some→Gc,any_some→Gh,none→Gy,bind_some→Hd
open Bool renaming false_eq_true→Ek,true→Eu,false→Ga,or_false→G2,or_true→G9,and_false→Hm,false_and→Hn,and_self→Ho,not_true→Hr
open List renaming getElem?_eq_some_iff→Eo,mem_of_getElem?→Ep,getElem?_eq_getElem→Gb,drop_eq_nil_of_le→Ge,foldl_cons→Gf,flatMap_cons→Gk,any_cons→Gl,map_cons→Gm,nil_append→Gv,drop_zero→Gw,mem_cons_of_mem→Gx,findIdx?_cons→G3,mem_cons_self→G5,length_append→G6,findIdx?_map→Ha,getElem?_map→Hb,append_assoc→Hc,filter_cons→Hf,length_cons→Hg,length_map→Hk,nodup_cons→Hl,all_cons→Hq
open Nat renaming le_refl→Ev,lt_of_le_of_lt→Gi,le_of_lt→Gn,succ_le_succ→Hj
open Sum renaming inl→Gr
namespace Go.Z
open Go Go.Abs Go.W
def dH:Option Nat→Int
 |some k=>(k:Int)
 |none=>-1
theorem q3d {α:Type}(l:List α)(p:α→Bool)(f:Int→Option (Int⊕(Int⊕Int)))(cM:f (l.length:Int)=Eh (.inr (.inr (l.length:Int))))
  (b6:∀(i:Nat) x,l[i]?=Eh x→i<l.length→f (i:Int)=Eh (if p x then .inr (.inl (i:Int))else .inl ((i+1:Nat):Int))):
  ∃d,aY f 0=Eh d∧(match d with | .inl k=>k | .inr _=>-1)=dH (l.findIdx? p):=by
 have:=A8 l.length (fun i=>(i:Int)) f (fun d=>match d with | .inl k=>k | .inr _=>(-1:Int)) (fun i=>dH (((l.drop i).findIdx? p).map (· + i))) ⟨_,cM,by rw[Ge (Ev _)];rfl⟩ (fun i hi=>by
  obtain⟨x,hx⟩:∃x,l[i]?=Eh x:=⟨_,Gb hi⟩
  have h1:=b6 i x hx hi
  simp only[pF hx,G3]
  cases hp:p x with
  |true=>
   rw[hp,if_pos rfl]at h1
   exact .inr ⟨_,h1,by simp[dH]⟩
  |false=>
   rw[hp]at h1
   refine .inl ⟨by simpa using h1,?_⟩
   simp only[Ek,if_false,Option.map_map]
   congr 1
   congr 1
   funext n
   simp only[Function.comp];omega)
 obtain⟨d,h1,h2⟩:=this
 refine⟨d,h1,?_⟩
 rw[h2]
 simp
abbrev SM:Nat:=1073741824
theorem mE {α:Type}{l:List α}{p:α→Bool}{f:Int→Option (Int⊕(Int⊕Int))}(hl:l.length≤SM)
  (hf:∀i:Int,f i=cond (decide (i<(l.length:Int))) (jw (zn l i) fun x=>cond (p x) (Eh (.inr (.inl i))) (Eh (.inl (j6 .i64 (i+1))))) (Eh (.inr (.inr i)))):
  (jw (aY f 0) fun d=>match d with | .inl k=>Eh k | .inr _=>Eh (-1))=Eh (dH (l.findIdx? p)):=by
 obtain⟨d,h1,h2⟩:=q3d l p f (by rw[hf,ky];rfl) (fun i x hx hi=>by
  rw[hf,eR hi]
  simp only[cT,jw,zy hx]
  cases p x with
  |true=>rfl
  |false=>simp only[cond_false];rw[kl (by unfold SM at hl;omega)];rfl)
 rw[h1]
 simp only[jw]
 rw[←h2]
 cases d<;>rfl
variable {r:qc}{n:List UInt8}
theorem EU (hl:(r.ar.getD []).length≤SM):f28 r n=Eh (dH (kg r.er n)):=by
 unfold f28 kg
 exact mE (p:=fun x=>decide (x.name=n)) hl fun i=>rfl
theorem Ba (hl:(r.ar.getD []).length≤SM):f72 r n=Eh (dH (kg r.er n)):=by
 have:H3 ((r.ar.getD []).length:Int) r n=Eh (dH (kg r.er n)):=by
  unfold H3 kg
  refine mE (p:=fun x=>decide (x.name=n)) hl fun i=>?_
  unfold H4 f131
  congr 1
  cases zn (r.ar.getD []) i<;>rfl
 unfold f72;rw[this];rfl
theorem yn:r.er.ae=(r.ae.getD []).map qq.er:=rfl
theorem rG:r.er.units=(r.units.getD []).map qf.er:=rfl
theorem OZ:kw r.er n=(r.ae.getD []).findIdx? fun x=>decide (x.name=n):=by
 unfold kw;rw[yn,Ha];rfl
theorem WE:yg r.er n=(r.units.getD []).findIdx? fun x=>decide (x.name=n):=by
 unfold yg;rw[rG,Ha];rfl
theorem EV (hl:(r.ae.getD []).length≤SM):f144 r n=Eh (dH (kw r.er n)):=by
 rw[OZ];unfold f144
 exact mE (p:=fun x=>decide (x.name=n)) hl fun i=>rfl
theorem vi (hl:(r.ae.getD []).length≤SM):f165 r n=Eh (dH (kw r.er n)):=by
 have:H5 ((r.ae.getD []).length:Int) r n=Eh (dH (kw r.er n)):=by
  rw[OZ];unfold H5
  refine mE (p:=fun x=>decide (x.name=n)) hl fun i=>?_
  unfold H6 f233
  congr 1
  cases zn (r.ae.getD []) i<;>rfl
 unfold f165;rw[this];rfl
theorem Bb (hl:(r.units.getD []).length≤SM):f27 r n=Eh (dH (yg r.er n)):=by
 rw[WE];unfold f27
 exact mE (p:=fun x=>decide (x.name=n)) hl fun i=>rfl
theorem vj (hl:(r.units.getD []).length≤SM):f93 r n=Eh (dH (yg r.er n)):=by
 have:H7 ((r.units.getD []).length:Int) r n=Eh (dH (yg r.er n)):=by
  rw[WE];unfold H7
  refine mE (p:=fun x=>decide (x.name=n)) hl fun i=>?_
  unfold H8 f148
  congr 1
  cases zn (r.units.getD []) i<;>rfl
 unfold f93;rw[this];rfl
end Go.Z
namespace Go.Z
open Go Go.Abs Go.W
theorem q1a {i}(h:i<9223372036854775807):j6 .i64 (((i+1:Nat):Int)-1)=(i:Int):=by
 have:=kl (i:=i) h
 rw[show(((i+1:Nat):Int)-1)=(i:Int) by omega]
 cases i with
 |zero=>rfl
 |succ j=>
  have:=kl (i:=j) (by omega)
  rw[show((j+1:Nat):Int)=(j:Int)+1 by omega,this];omega
variable {r:qc}{n:List UInt8}
theorem WG {sp}(h:hJ r.er n=Eh sp):∃k p,kw r.er n=Eh k∧(r.ae.getD [])[k]?=Eh p∧p.er=sp∧p.name=n:=by
 unfold hJ at h
 cases hk:kw r.er n with
 |none=>rw[hk]at h;cases h
 |some k=>
  rw[hk]at h
  simp only[Hd,yn,Hb]at h
  cases hp:(r.ae.getD [])[k]? with
  |none=>rw[hp]at h;cases h
  |some p=>
   rw[hp]at h
   rw[OZ]at hk
   obtain⟨x,h1,h2,_⟩:=bC hk
   rw[hp]at h1;cases h1
   exact⟨k,p,rfl,hp,by simpa using h,of_decide_eq_true h2⟩
theorem jwc {u d}(hP:(r.ae.getD []).length≤SM)(hB:∀p∈r.ae.getD [],(p.aO.getD []).length≤SM)(hd:gS r.er u.er=Eh d):∃D,f134 r u=Eh D∧f78 r u=Eh D∧D.er=d:=by
 unfold gS at hd
 cases hp:hJ r.er u.er.product with
 |none=>rw[hp]at hd;cases hd
 |some sp=>
  rw[hp]at hd
  obtain⟨k,p,h1,h2,rfl,_⟩:=WG hp
  simp only[Hd,EW]at hd
  have hB:=hB p (Ep h2)
  split at hd
  ·rename_i hv
   obtain⟨i,hi⟩:∃i:Nat,u.version=((i+1:Nat):Int):=⟨(u.version-1).toNat,by have:1≤u.version:=hv;omega⟩
   have he:(u.er.version-1).toNat=i:=by show(u.version-1).toNat=i;omega
   rw[he]at hd
   have oJ:((p.aO.getD []).map qt.er)[i]?=Eh d:=hd
   rw[Hb]at oJ
   cases hD:(p.aO.getD [])[i]? with
   |none=>rw[hD]at oJ;cases oJ
   |some D=>
    rw[hD]at oJ
    have bh:=(Eo.1 hD).1
    have hw:j6 .i64 (u.version-1)=(i:Int):=by rw[hi];exact q1a (by unfold SM at hB;omega)
    refine⟨D,?_,?_,by simpa using oJ⟩
    ·unfold f134
     rw[vi hP,show kw r.er u.product=Eh k from h1]
     simp only[jw,dH,zy h2,hw,zy hD]
    ·unfold f78
     rw[EV hP,show kw r.er u.product=Eh k from h1]
     simp only[jw,dH,zy h2,hw,zy hD]
  ·cases hd
theorem O0 {u v}(hP:(r.ae.getD []).length≤SM)(hd:pI r.er u.er=Eh v):f140 r u=Eh v∧f80 r u=Eh v:=by
 unfold pI at hd
 cases hp:hJ r.er u.er.product with
 |none=>rw[hp]at hd;cases hd
 |some sp=>
  rw[hp]at hd
  obtain⟨k,p,h1,h2,rfl,_⟩:=WG hp
  have hv:v=((p.aO.getD []).length:Int):=by
   simp only[Option.map_some,Eh.injEq]at hd
   rw[←hd]
   show((((p.aO.getD []).map qt.er).length:Nat):Int)=_
   rw[Hk]
  subst hv
  refine⟨?_,?_⟩
  ·unfold f140 f182
   rw[vi hP,show kw r.er u.product=Eh k from h1]
   simp only[jw,dH,zy h2]
  ·unfold f80
   rw[EV hP,show kw r.er u.product=Eh k from h1]
   simp only[jw,dH,zy h2]
theorem WH {α γ ε:Type}(g:γ→α→γ):∀(l:List α) (i:Nat) (c:γ),EO (fun _ c x=>(.inl (g c x):γ⊕ε)) i c l=.inl (l.foldl g c)
 | [],i,c=>rfl
 |x::l,i,c=>by simp only[EO,Gf];exact WH g l (i+1) (g c x)
theorem Bc {α γ σ δ:Type}(l:List α)(f:σ→Option (σ⊕δ))(mk:Nat→γ→σ)(g:γ→α→γ)(En:γ→δ)(c:γ)(cM:∀c,f (mk l.length c)=Eh (.inr (En c)))
  (b6:∀i c x,l[i]?=Eh x→i<l.length→f (mk i c)=Eh (.inl (mk (i+1) (g c x)))):aY f (mk 0 c)=Eh (En (l.foldl g c)):=by
 have:=q5z (ε:=Empty) l f mk (fun _ c x=>.inl (g c x)) En (fun e=>nomatch e) (fun _ _=>True) c (fun c _=>cM c) (fun i c x hx hi _=>⟨trivial,b6 i c x hx hi⟩) trivial
 rw[this,WH]
theorem jr8 {u t}(hl:(u.results.getD []).length≤SM):f79 u t=Eh (rH u.er t):=by
 unfold f79
 have:=Bc (u.results.getD []) (Bd u t) (fun i (c:Bool)=>(c,(i:Int))) (fun is x=>if decide (x.k=t.k)&&decide (x.a=u.version)then decide (t.a≤x.b)&&decide (x.b≤t.b)else is) (fun c=>(c,((u.results.getD []).length:Int))) Ga (fun c=>by unfold Bd;simp only[ky];rfl)
  (fun i c x hx hi=>by
   unfold Bd
   simp only[eR hi,cT,jw,zy hx]
   rw[kl (by unfold SM at hl;omega)]
   by_cases h1:x.k=t.k<;>by_cases h2:x.a=u.version<;>by_cases h3:t.a≤x.b<;>simp[h1,h2,h3])
 rw[show((Ga,(0:Int)):Bool×Int)=(Ga,((0:Nat):Int))from rfl,this]
 rfl
theorem jn2 {u t}(hl:(u.results.getD []).length≤SM)(hv:u.version≠-1):f136 u t=Eh (rH u.er t):=by
 unfold f136
 have:=Bc (u.results.getD []) (Be u t) (fun i (c:qj)=>((i:Int),c.k,c.a,c.b)) (fun c x=>if decide (x.k=t.k)&&decide (x.a=u.version)then x else c) (fun c=>(((u.results.getD []).length:Int),c.k,c.a,c.b)) ⟨[],-1,0⟩ (fun c=>by unfold Be;simp only[ky];rfl)
  (fun i c x hx hi=>by
   unfold Be
   simp only[eR hi,cT,jw,zy hx]
   rw[kl (by unfold SM at hl;omega)]
   by_cases h1:x.k=t.k<;>by_cases h2:x.a=u.version<;>simp[h1,h2])
 rw[show(((0:Int),([]:List UInt8),(-1:Int),(0:Int)):Int×List UInt8×Int×Int)=(((0:Nat):Int),[],-1,0)from rfl]
 simp only[]at this
 rw[this]
 simp only[jw]
 have key:∀(l:List qj) (c:qj) (b:Bool),(c=⟨[],-1,0⟩∧b=Ga∨c.a=u.version∧b=(decide (t.a≤c.b)&&decide (c.b≤t.b))) →
   (let c':=l.foldl (fun c x=>if decide (x.k=t.k)&&decide (x.a=u.version)then x else c) c
    let b':=l.foldl (fun is x=>if decide (x.k=t.k)&&decide (x.a=u.version)then decide (t.a≤x.b)&&decide (x.b≤t.b)else is) b
    c'=⟨[],-1,0⟩∧b'=Ga∨c'.a=u.version∧b'=(decide (t.a≤c'.b)&&decide (c'.b≤t.b))):=by
  intro l
  induction l with
  |nil=>intro c b h;exact h
  |cons x l ih=>
   intro c b h
   simp only[Gf]
   apply ih
   by_cases h1:x.k=t.k<;>by_cases h2:x.a=u.version
   ·simp only[h1,h2,decide_true,Ho,if_true]
    right;trivial
   all_goals simpa only[h1,h2,decide_true,decide_false,Hm,Hn,Ho,Ek,if_false]using h
 have k:=key (u.results.getD []) ⟨[],-1,0⟩ Ga (.inl ⟨rfl,rfl⟩)
 simp only at k
 show _=Eh ((u.results.getD []).foldl (fun is x=>if decide (x.k=t.k)&&decide (x.a=u.version)then decide (t.a≤x.b)&&decide (x.b≤t.b)else is) Ga)
 rcases k with⟨h1,h2⟩|⟨h1,h2⟩
 ·rw[h2,h1];rfl
 ·rw[h2]
  generalize (u.results.getD []).foldl (fun c x=>if decide (x.k=t.k)&&decide (x.a=u.version)then x else c) ⟨[],-1,0⟩=c at h1
  have:decide (c.a=-1)=Ga:=dF (by rw[h1];exact hv)
  simp only[this,Hm,Hn,cond_false]
  by_cases h3:t.a≤c.b<;>simp[h3]
end Go.Z
namespace Go.Z
open Go Go.Abs Go.W
theorem WI {α β:Type}(p:α→Bool)(g:α→β):∀l:List α,(l.flatMap fun x=>if p x then [g x]else [])=(l.filter p).map g
 | []=>rfl
 |x::l=>by
  rw[Gk,WI p g l,Hf]
  cases p x<;>rfl
theorem EX {α β:Type}{l:List α}{p:α→Bool}{g:α→β}{f}(hl:l.length≤SM)
  (cM:∀o w,f (o,(l.length:Int),w)=Eh (.inr (o,w,(l.length:Int))))
  (hf:∀(i:Nat) x o w,l[i]?=Eh x→f (o,(i:Int),w)=cond (p x) (cond w (jw (bj o [g x]) fun v=>Eh (.inl (v,((i+1:Nat):Int),Eu))) (cond o.isNone (jw (bj o [g x]) fun v=>Eh (.inl (v,((i+1:Nat):Int),Eu))) Gy)) (Eh (.inl (o,((i+1:Nat):Int),w)))):
  aY f (Gy,0,Ga)=Eh (yi ((l.filter p).map g),fU ((l.filter p).map g),(l.length:Int)):=by
 have:=jjk l (fun i=>(i:Int)) f (fun x=>if p x then [g x]else []) [] (fun i a=>a.length≤i) (Ev _) (fun a=>cM _ _) (fun i x a hx hi ha=>by
  cases hp:p x with
  |true=>
   refine⟨by simp;omega,?_⟩
   rw[hf i x _ _ hx,hp]
   simp only[cT,if_true]
   rw[Bf]
   exact x6 (x:=g x) (k:=fun v=>Eh (Gr (v,((i+1:Nat):Int),Eu))) (by unfold SM at hl;omega)
  |false=>
   refine⟨by simp;omega,?_⟩
   rw[hf i x _ _ hx,hp]
   simp)
 rw[WI,Gv]at this
 exact this
theorem H9 {α:Type}{l:List α}{p:α→Bool}{q:α→Option Bool}{f}(hl:l.length≤SM)(hq:∀x∈l,q x=Eh (p x))
  (hf:∀s,f s=cond (decide (s.2.1<(l.length:Int))) (jw (zn l s.2.1) fun x=>jw (q x) fun b=>cond b (cond s.2.2 (jw (bj s.1 [x]) fun v=>Eh (.inl (v,j6 .i64 (s.2.1+1),Eu))) (cond s.1.isNone (jw (bj s.1 [x]) fun v=>Eh (.inl (v,j6 .i64 (s.2.1+1),Eu))) Gy)) (Eh (.inl (s.1,j6 .i64 (s.2.1+1),s.2.2)))) (Eh (.inr (s.1,s.2.2,s.2.1)))):
  aY f (Gy,0,Ga)=Eh (yi (l.filter p),fU (l.filter p),(l.length:Int)):=by
 have:=EX (l:=l) (p:=p) (g:=fun x=>x) (f:=f) hl (fun o w=>by rw[hf];simp only[ky,cond_false]) (fun i x o w hx=>by
  have hi:=(Eo.1 hx).1
  rw[hf]
  simp only[eR hi,cT,jw,zy hx,hq x (Ep hx)]
  rw[kl (by unfold SM at hl;omega)])
 simpa using this
theorem Ia {α β:Type}{l:List α}{g:α→β}{q:α→Option β}{f}(hl:l.length≤SM)(hq:∀x∈l,q x=Eh (g x))
  (hf:∀s,f s=cond (decide (s.2.1<(l.length:Int))) (jw (zn l s.2.1) fun x=>jw (q x) fun b=>cond s.2.2 (jw (bj s.1 [b]) fun v=>Eh (.inl (v,j6 .i64 (s.2.1+1),Eu))) (cond s.1.isNone (jw (bj s.1 [b]) fun v=>Eh (.inl (v,j6 .i64 (s.2.1+1),Eu))) Gy)) (Eh (.inr (s.1,s.2.2,s.2.1)))):
  aY f (Gy,0,Ga)=Eh (yi (l.map g),fU (l.map g),(l.length:Int)):=by
 have:=EX (l:=l) (p:=fun _=>Eu) (g:=g) (f:=f) hl (fun o w=>by rw[hf];simp only[ky,cond_false]) (fun i x o w hx=>by
  have hi:=(Eo.1 hx).1
  rw[hf]
  simp only[eR hi,cT,jw,zy hx,hq x (Ep hx)]
  rw[kl (by unfold SM at hl;omega)])
 rw[List.filter_eq_self.2 (fun _ _=>rfl)]at this
 exact this
variable {r:qc}{u:qf}{D:qt}
theorem qw9 {α:Type}{l:List α}{p}(hl:l.length≤SM):(l.filter p).length≤SM:=Nat.le_trans (List.length_filter_le _ _) hl
theorem jp3 (hd:f134 r u=Eh D)(hr:(u.results.getD []).length≤SM)(ht:(D.aH.getD []).length≤SM)(hv:u.version≠-1):∃w,f74 r u=Eh (yi (yA D.er u.er),w):=by
 unfold f74
 rw[hd]
 simp only[jw]
 have h1:f133 D.aH u=Eh (yi ((D.aH.getD []).filter fun t=>!rH u.er t),fU ((D.aH.getD []).filter fun t=>!rH u.er t)):=by
  unfold f133
  rw[H9 (f:=Ib D.aH u) (l:=D.aH.getD []) (p:=fun t=>!rH u.er t) (q:=fun t=>f135 t u) ht (fun x _=>by unfold f135;rw[jn2 hr hv];rfl) (fun s=>rfl)]
  rfl
 rw[h1]
 simp only[]
 have h2:f137 (yi ((D.aH.getD []).filter fun t=>!rH u.er t))=Eh (yi (yA D.er u.er),fU (yA D.er u.er)):=by
  unfold f137
  rw[Ia (f:=Ic (yi ((D.aH.getD []).filter fun t=>!rH u.er t))) (l:=((yi ((D.aH.getD []).filter fun t=>!rH u.er t)).getD [])) (g:=fun t:qj=>t.k) (q:=f138) (by rw[yp];exact qw9 ht) (fun x _=>rfl) (fun s=>rfl),yp]
  rfl
 rw[h2]
 exact⟨_,rfl⟩
theorem jwl (hd:f78 r u=Eh D)(hr:(u.results.getD []).length≤SM)(ht:(D.aH.getD []).length≤SM):∃w,f30 r u=Eh (yi (yA D.er u.er),w):=by
 unfold f30
 rw[hd]
 simp only[jw]
 have:=EX (l:=D.aH.getD []) (p:=fun t=>!rH u.er t) (g:=fun t:qj=>t.k) (f:=Bg u D) ht (fun o w=>by unfold Bg;simp only[ky,cond_false]) (fun i x o w hx=>by
  have hi:=(Eo.1 hx).1
  unfold Bg
  simp only[eR hi,cT,jw,zy hx,jr8 hr]
  rw[kl (by unfold SM at ht;omega)]
  cases rH u.er x<;>rfl)
 rw[this]
 exact⟨_,rfl⟩
theorem WJ {n x}(h:n5 r.er n=Eh x):∃k:Nat,kg r.er n=Eh k∧(r.ar.getD [])[k]?=Eh x:=by
 unfold n5 at h
 cases hk:kg r.er n with
 |none=>rw[hk]at h;cases h
 |some k=>rw[hk]at h;exact⟨k,rfl,h⟩
theorem Ie {n}(h:(kg r.er n).isSome=Eu):∃x,n5 r.er n=Eh x:=by
 unfold n5
 cases hk:kg r.er n with
 |none=>rw[hk]at h;cases h
 |some k=>
  obtain⟨x,h1,_⟩:=bC hk
  exact⟨x,h1⟩
def O1 (r:qu)(kind:Str)(n:Int)(x:qk):Int:=if(n5 r x.k).any (fun l=>decide (l.kind=kind))then j6 .i64 (n+x.n)else n
theorem jl6 {kind}(hL:(r.ar.getD []).length≤SM)(hu:(u.uses.getD []).length≤SM)(hw:∀x∈u.uses.getD [],(kg r.er x.k).isSome=Eu):f145 r u kind=Eh (EY (j6 .i64) r.er u.er kind):=by
 unfold f145
 have:=Bc (u.uses.getD []) (Bh r u kind) (fun i (c:Int)=>(c,(i:Int))) (O1 r.er kind) (fun c=>(c,((u.uses.getD []).length:Int))) 0 (fun c=>by unfold Bh;simp only[ky];rfl)
  (fun i c x hx hi=>by
   obtain⟨y,hy⟩:=Ie (hw x (Ep hx))
   obtain⟨k,h1,h2⟩:=WJ hy
   unfold Bh O1
   simp only[eR hi,cT,jw,zy hx,EU hL,h1,dH,zy h2,hy,Gh]
   rw[kl (by unfold SM at hu;omega)]
   by_cases h3:y.kind=kind<;>simp[h3])
 rw[show(((0:Int),(0:Int)):Int×Int)=((0:Int),((0:Nat):Int))from rfl,this]
 rfl
theorem q7o {σ:Type}{step g}(I:Nat→σ→Prop)(hL:(r.ar.getD []).length≤SM)(hu:(u.uses.getD []).length≤SM)
  (hg:∀i x c,(u.uses.getD [])[i]?=Eh x→I i c→I (i+1) (g c x)∧∃y,n5 r.er x.k=Eh y∧step c y x.n=Eh (g c x)) (c:σ) (hI:I 0 c):aY (oK r u step) (0,c)=Eh (((u.uses.getD []).length:Int),(u.uses.getD []).foldl g c):=by
 have:=q5z (ε:=Empty) (u.uses.getD []) (oK r u step) (fun i (c:σ)=>((i:Int),c)) (fun _ c x=>.inl (g c x)) (fun c=>(((u.uses.getD []).length:Int),c)) (fun e=>nomatch e) I c (fun c _=>by unfold oK;simp only[ky];rfl)
  (fun i c x hx hi hI=>by
   obtain⟨hI',y,h1,h2⟩:=hg i x c hx hI
   obtain⟨k,h3,h4⟩:=WJ h1
   refine⟨hI',?_⟩
   unfold oK
   simp only[eR hi,cT,jw,zy hx,Ba hL,h3,dH,zy h4,h2]
   rw[kl (by unfold SM at hu;omega)]) hI
 rw[show((0:Int),c)=(((0:Nat):Int),c)from rfl,this,WH]
end Go.Z
namespace Go.Z
open Go Go.Abs Go.W
variable {r:qc}{u:qf}{D:qt}
theorem q5q {k v}:∀l:List (List UInt8×Int),(kQ l k v).length≤l.length+1
 | []=>Ev _
 |p::l=>by
  unfold kQ
  split
  ·simp
  ·simp only[Hg];exact Hj (q5q l)
theorem jbl {α γ:Type}{l:List α}{i x}(hx:l[i]?=Eh x)(g:γ→α→γ)(c:γ):(l.take (i+1)).foldl g c=g ((l.take i).foldl g c) x:=by
 rw[List.take_add_one,hx,List.foldl_append];rfl
theorem jmn (hL:(r.ar.getD []).length≤SM)(hu:(u.uses.getD []).length≤SM)(hw:∀x∈u.uses.getD [],(kg r.er x.k).isSome=Eu):∃M,aY (oK r u wu) (0,[])=Eh (((u.uses.getD []).length:Int),M)∧∀kind,mC M kind=EY (j6 .i64) r.er u.er kind:=by
 let g:List (List UInt8×Int)→qk→List (List UInt8×Int):=fun c x=>match n5 r.er x.k with
  |some y=>kQ c y.kind (j6 .i64 (mC c y.kind+x.n))
  |none=>c
 let I:Nat→List (List UInt8×Int)→Prop:=fun i M=>M.length≤i∧∀kind,mC M kind=((u.uses.getD []).take i).foldl (O1 r.er kind) 0
 have hg:∀i x c,(u.uses.getD [])[i]?=Eh x→I i c→I (i+1) (g c x)∧∃y,n5 r.er x.k=Eh y∧wu c y x.n=Eh (g c x):=by
  intro i x c hx hI
  obtain⟨y,hy⟩:=Ie (hw x (Ep hx))
  have hi:=(Eo.1 hx).1
  have Uq:g c x=kQ c y.kind (j6 .i64 (mC c y.kind+x.n)):=by simp only[g,hy]
  rw[Uq]
  refine⟨⟨Nat.le_trans (q5q _) (Hj hI.1),fun kind=>?_⟩,y,hy,?_⟩
  ·rw[jbl hx,jju,←hI.2 kind]
   unfold O1
   rw[hy]
   simp only[Gh]
   by_cases hk:kind=y.kind
   ·subst hk;simp
   ·have cV:¬y.kind=kind:=fun h=>hk h.symm
    simp[hk,cV]
  ·unfold wu OY
   rw[if_pos (by have:=hI.1;unfold SM at hu;omega)]
 have:=q7o (step:=wu) (g:=g) I hL hu hg [] ⟨Ev _,fun kind=>rfl⟩
 have hI:∀(k i:Nat) (c:List (List UInt8×Int)),i+k=(u.uses.getD []).length→I i c→I (u.uses.getD []).length (((u.uses.getD []).drop i).foldl g c):=by
  intro k
  induction k with
  |zero=>
   intro i c hi hc
   have:i=(u.uses.getD []).length:=by omega
   subst this
   rw[Ge (Ev _)];exact hc
  |succ k ih=>
   intro i c hi hc
   obtain⟨x,hx⟩:∃x,(u.uses.getD [])[i]?=Eh x:=⟨_,Gb (by omega)⟩
   rw[pF hx,Gf]
   exact ih (i+1) _ (by omega) (hg i x c hx hc).1
 have h2:=hI _ 0 [] (Nat.zero_add _) ⟨Ev _,fun kind=>rfl⟩
 rw[Gw]at h2
 refine⟨_,this,fun kind=>?_⟩
 rw[h2.2 kind,List.take_length]
 rfl
theorem vk (o:Option Nat):decide (0≤dH o)=o.isSome:=by
 cases o with
 |none=>rfl
 |some k=>exact dT (by show(0:Int)≤(k:Int);omega)
theorem bY {α:Type}{p:α→Bool}{l:List α}:(l.findIdx? p).isSome=l.any p:=by rw[Bi]
theorem jiq {l:Option (List qk)}{M:List (List UInt8×Int)}(hl:(l.getD []).length≤SM):Ig l M=Eh ((l.getD []).any fun n=>decide (mC M n.k<n.n)):=by
 have:Ih l M=Eh (dH ((l.getD []).findIdx? fun n=>decide (mC M n.k<n.n))):=by
  unfold Ih
  exact mE (p:=fun n=>decide (mC M n.k<n.n)) hl fun i=>rfl
 unfold Ig
 rw[this]
 simp only[jw,vk,bY]
theorem jn6 (hL:(r.ar.getD []).length≤SM)(hu:(u.uses.getD []).length≤SM)(hw:∀x∈u.uses.getD [],(kg r.er x.k).isSome=Eu)(hd:f134 r u=Eh D)(hn:(D.aI.getD []).length≤SM):f141 r u=Eh (yB (j6 .i64) r.er D.er u.er):=by
 obtain⟨M,h1,h2⟩:=jmn hL hu hw
 unfold f141
 rw[h1,hd]
 simp only[jw,jiq hn,Eh.injEq]
 unfold yB
 rw[show D.er.aI=D.aI.getD []from rfl]
 induction D.aI.getD []with
 |nil=>rfl
 |cons n l ih=>
  rw[Gl,Hq,Bool.not_or,ih,h2]
  congr 1
  by_cases h:EY (j6 .i64) r.er u.er n.k<n.n
  ·rw[dT h,dF (by omega)];rfl
  ·rw[dF h,dT (by omega)];rfl
theorem jq6 (hL:(r.ar.getD []).length≤SM)(hu:(u.uses.getD []).length≤SM)(hw:∀x∈u.uses.getD [],(kg r.er x.k).isSome=Eu)(hd:f78 r u=Eh D)(hn:(D.aI.getD []).length≤SM):f81 r u=Eh (yB (j6 .i64) r.er D.er u.er):=by
 unfold f81
 rw[hd]
 simp only[jw]
 obtain⟨d,h1,h2⟩:=OV (D.aI.getD []) (Bj r u D) (fun n=>decide (n.n≤EY (j6 .i64) r.er u.er n.k)) (fun d=>match d with | .inl _=>Ga | .inr _=>Eu) ⟨.inr ((D.aI.getD []).length:Int),by unfold Bj;simp only[ky];rfl,rfl⟩ (fun i x hx hi=>by
  unfold Bj
  simp only[eR hi,cT,jw,zy hx,jl6 hL hu hw]
  rw[kl (by unfold SM at hn;omega)]
  by_cases h:EY (j6 .i64) r.er u.er x.k<x.n
  ·exact .inr ⟨dF (by omega),.inl (),by rw[dT h];rfl,rfl⟩
  ·exact .inl ⟨dT (by omega),by rw[dF h];rfl⟩)
 rw[h1]
 unfold yB
 rw[show D.er.aI=D.aI.getD []from rfl,←h2]
 cases d<;>rfl
def EZ (r:qu)(us:List qk):List qm:=us.map fun x=>(n5 r x.k).getD ⟨[],[],0,0,Ga⟩
theorem jgj (hL:(r.ar.getD []).length≤SM)(hu:(u.uses.getD []).length≤SM)(hw:∀x∈u.uses.getD [],(kg r.er x.k).isSome=Eu):aY (oK r u yC) (0,Gy)=Eh (((u.uses.getD []).length:Int),yi (EZ r.er (u.uses.getD []))):=by
 let gx:qk→qm:=fun x=>(n5 r.er x.k).getD ⟨[],[],0,0,Ga⟩
 let g:Option (List qm)→qk→Option (List qm):=fun c x=>yi (c.getD []++[gx x])
 have:=q7o (step:=yC) (g:=g) (fun i c=>∃a:List qm,c=yi a∧a.length=i) hL hu (fun i x c hx hI=>by
  obtain⟨a,rfl,ha⟩:=hI
  have hi:=(Eo.1 hx).1
  obtain⟨y,hy⟩:=Ie (hw x (Ep hx))
  have hgx:gx x=y:=by simp only[gx,hy,Gc]
  refine⟨⟨a++[y],by simp only[g,hgx,yp],by simp[ha]⟩,y,hy,?_⟩
  unfold yC
  rw[qx2 (by unfold SM at hu;omega)]
  simp only[g,hgx,yp]) Gy ⟨[],rfl,rfl⟩
 rw[this]
 congr 2
 have key:∀(l:List qk) (a:List qm),l.foldl g (yi a)=yi (a++l.map gx):=by
  intro l
  induction l with
  |nil=>intro a;simp
  |cons x l ih=>
   intro a
   rw[Gf,show g (yi a) x=yi (a++[gx x]) by simp only[g,yp],ih,Gm,Hc];rfl
 have:=key (u.uses.getD []) []
 rw[Gv]at this
 exact this
theorem q6l (hw:∀x∈u.uses.getD [],(kg r.er x.k).isSome=Eu):Bk r.er u.er=!((EZ r.er (u.uses.getD [])).filter (·.held)).isEmpty:=by
 unfold Bk EZ
 rw[show u.er.uses=u.uses.getD []from rfl]
 revert hw
 generalize u.uses.getD []=us
 intro hw
 induction us with
 |nil=>rfl
 |cons x l ih=>
  obtain⟨y,hy⟩:=Ie (hw x (G5 ..))
  rw[Gl,ih (fun x hx=>hw x (Gx _ hx)),Gm,Hf,hy]
  simp only[Gh,Gc]
  cases y.held<;>rfl
theorem iO {b e}:f53 b e=Eh (if b then e else 0):=by unfold f53;cases b<;>rfl
theorem jn5 {l}(hl:l.length≤SM):f142 (yi l)=Eh (yi (l.filter (·.held)),fU (l.filter (·.held))):=by
 unfold f142
 rw[H9 (f:=Ii (yi l)) (l:=(yi l).getD []) (p:=fun x:qm=>x.held) (q:=fun x=>f143 x) (by rw[yp];exact hl) (fun x _=>rfl) (fun s=>rfl),yp]
 rfl
def dp:List Int→Int
 | []=>0
 |e::l=>if e=0 then dp l else e
theorem hM {l}(hl:l.length≤SM):f51 (Eh l)=Eh (dp l):=by
 unfold f51
 have:=A8 l.length (fun i=>(i:Int)) (wv (Eh l)) (fun d=>match d with | .inl k=>k | .inr _=>(0:Int)) (fun i=>dp (l.drop i)) ⟨.inr (l.length:Int),by unfold wv;simp only[Gc,ky];rfl,by rw[Ge (Ev _)];rfl⟩ (fun i hi=>by
  obtain⟨x,hx⟩:∃x,l[i]?=Eh x:=⟨_,Gb hi⟩
  unfold wv
  simp only[Gc,eR hi,cT,jw,zy hx,pF hx,dp]
  by_cases h0:x=0
  ·simp only[h0,decide_true,cT,if_true]
   rw[kl (by unfold SM at hl;omega)]
   left;constructor<;>first|rfl|trivial
  ·simp only[h0,decide_false,cond_false,if_false]
   exact .inr ⟨_,rfl,rfl⟩)
 obtain⟨d,h1,h2⟩:=this
 rw[show((0:Int))=((0:Nat):Int)from rfl,h1]
 rw[Gw]at h2
 simp only[jw]
 rw[←h2]
 cases d<;>rfl
theorem qw5 {α:Type}{l:List α}:decide (0<(((yi l).getD []).length:Int))=!l.isEmpty:=by
 rw[yp]
 cases l with
 |nil=>rfl
 |cons x l=>simp
theorem q00 {w r u d v}(hd:gS r u=Eh d)(hv:pI r u=Eh v):vm w r u=if u.aq then 21 else if u.version≠v then 32 else if !yB w r d u then 20 else if !(yA d u).isEmpty then 31 else if Bk r u then 34 else 0:=by
 unfold vm
 rw[hd,hv]
 cases u.aq
 ·by_cases h:u.version=v
  ·simp[h]
  ·simp[h,Ne.symm h]
 ·rfl
theorem jrz {v:Int}(hP:(r.ae.getD []).length≤SM)(iK:pI r.er u.er=Eh v)(hL:(r.ar.getD []).length≤SM)(hu:(u.uses.getD []).length≤SM)(hw:∀x∈u.uses.getD [],(kg r.er x.k).isSome=Eu)(hd:f134 r u=Eh D)(hp:gS r.er u.er=Eh D.er)(hn:(D.aI.getD []).length≤SM)(hr:(u.results.getD []).length≤SM)(ht:(D.aH.getD []).length≤SM)(hv:u.version≠-1):f75 r u=Eh (vm (j6 .i64) r.er u.er):=by
 obtain⟨w,hm⟩:=jp3 hd hr ht hv
 have hll:(EZ r.er (u.uses.getD [])).length≤SM:=by unfold EZ;rw[Hk];exact hu
 unfold f75
 rw[jgj hL hu hw]
 simp only[jw,iO,(O0 hP iK).1,jn6 hL hu hw hd hn,hm,jn5 hll,qw5]
 rw[hM (by simp[SM]),q00 hp iK,q6l hw]
 congr 1
 show dp _=if u.aq then 21 else if u.version≠v then 32 else _
 cases u.aq<;>by_cases h1:u.version=v<;>cases yB (j6 .i64) r.er D.er u.er<;>cases (yA D.er u.er).isEmpty<;>cases ((EZ r.er (u.uses.getD [])).filter (·.held)).isEmpty<;>simp[dp,h1]
theorem jgo (hL:(r.ar.getD []).length≤SM)(hu:(u.uses.getD []).length≤SM)(hw:∀x∈u.uses.getD [],(kg r.er x.k).isSome=Eu):(jw (aY (yD r u) 0) fun d=>match d with | .inl _=>Eh (34:Int) | .inr _=>Eh 0)=Eh (if Bk r.er u.er then 34 else 0):=by
 obtain⟨d,h1,h2⟩:=OV (u.uses.getD []) (yD r u) (fun x=>!(n5 r.er x.k).any (·.held)) (fun d=>match d with | .inl _=>Ga | .inr _=>Eu) ⟨.inr ((u.uses.getD []).length:Int),by unfold yD;simp only[ky];rfl,rfl⟩ (fun i x hx hi=>by
  obtain⟨y,hy⟩:=Ie (hw x (Ep hx))
  obtain⟨k,h3,h4⟩:=WJ hy
  unfold yD
  simp only[eR hi,cT,jw,zy hx,EU hL,h3,dH,zy h4,hy,Gh]
  rw[kl (by unfold SM at hu;omega)]
  cases y.held with
  |true=>exact .inr ⟨rfl,.inl (),rfl,rfl⟩
  |false=>exact .inl ⟨rfl,rfl⟩)
 rw[h1]
 have h3:Bk r.er u.er=!((u.uses.getD []).all fun x=>!(n5 r.er x.k).any (·.held)):=by
  unfold Bk
  rw[show u.er.uses=u.uses.getD []from rfl]
  induction u.uses.getD []with
  |nil=>rfl
  |cons x l ih=>rw[Gl,Hq,ih,Bool.not_and,Bool.not_not]
 rw[h3,←h2]
 cases d<;>rfl
theorem jvh {v:Int}(hP:(r.ae.getD []).length≤SM)(iK:pI r.er u.er=Eh v)(hL:(r.ar.getD []).length≤SM)(hu:(u.uses.getD []).length≤SM)(hw:∀x∈u.uses.getD [],(kg r.er x.k).isSome=Eu)(hd:f78 r u=Eh D)(hp:gS r.er u.er=Eh D.er)(hn:(D.aI.getD []).length≤SM)(hr:(u.results.getD []).length≤SM)(ht:(D.aH.getD []).length≤SM):f31 r u=Eh (vm (j6 .i64) r.er u.er):=by
 rw[q00 hp iK]
 unfold f31
 cases hs:u.aq with
 |true=>rw[show u.er.aq=Eu from hs];rfl
 |false=>
  have nS:(⟨u.name,u.product,u.version,u.uses,u.results,u.partner,Ga,u.aj⟩:qf)=u:=by cases u;simp only at hs;rw[hs]
  rw[show u.er.aq=Ga from hs,nS]
  obtain⟨w,hm⟩:=jwl (r:=r) (u:=u) hd hr ht
  simp only[cond_false,jw,(O0 hP iK).2,jq6 hL hu hw hd hn,hm,qw5,Ek,if_false]
  have hh:=jgo hL hu hw
  simp only[jw]at hh
  by_cases h1:u.version=v
  ·rw[dT h1,if_neg (show ¬u.er.version≠v from fun h=>h h1)]
   simp only[cT]
   cases yB (j6 .i64) r.er D.er u.er
   ·rfl
   ·simp only[cT,Hr,Ek,if_false]
    cases (yA D.er u.er).isEmpty
    ·rfl
    ·simp only[Hr,cond_false,Ek,if_false]
     exact hh
  ·rw[dF h1,if_pos (show u.er.version≠v from h1)]
   rfl
end Go.Z
namespace Go.Z
open Go Go.Abs Go.W
theorem E0 {α:Type}{o:Option (List α)}{ys}(h:(o.getD []).length+ys.length≤SM)(hy:ys≠[]):bj o ys=Eh (Eh (o.getD []++ys)):=by
 unfold bj E1
 rw[if_pos h]
 cases o<;>cases ys<;>first|exact absurd rfl hy|rfl
theorem Bl {α:Type}{ys:List α}(h:ys.length≤SM):bj (Eh []) ys=Eh (Eh ys):=by
 unfold bj E1
 rw[if_pos (by simpa using h)]
 cases ys<;>rfl
theorem yE {α:Type}{o:Option (List α)}{x}(h:(o.getD []).length<SM):(jw (cond o.isNone (Eh (Gy,Ga)) (jw (bj (Eh []) (o.getD [])) fun v=>Eh (v,Eu))) fun v1=>cond v1.2 (jw (bj v1.1 [x]) fun v4=>Eh v4) (cond v1.1.isNone (jw (bj v1.1 [x]) fun v7=>Eh v7) Gy))=Eh (Eh (o.getD []++[x])):=by
 cases o with
 |none=>rfl
 |some l=>
  have h':l.length<SM:=h
  simp only[Option.isNone_some,cond_false,Gc]
  rw[Bl (by omega)]
  simp only[jw,cT]
  rw[E0 (o:=Eh l) (by simp only[Gc,List.length_singleton];omega) (by simp)]
  rfl
theorem jol {o:Option (List qm)}{x:qm}(h:(o.getD []).length<SM):f164 o x=Eh (Eh (o.getD []++[x])):=yE h
theorem jm5 {o:Option (List qq)}{x:qq}(h:(o.getD []).length<SM):f166 o x=Eh (Eh (o.getD []++[x])):=yE h
theorem jmk {o:Option (List qf)}{x:qf}(h:(o.getD []).length<SM):f183 o x=Eh (Eh (o.getD []++[x])):=yE h
theorem joc {o:Option (List qt)}{x:qt}(h:(o.getD []).length<SM):f180 o x=Eh (Eh (o.getD []++[x])):=yE h
theorem jo6 {o:Option (List qk)}{x:qk}(h:(o.getD []).length<SM):f239 o x=Eh (Eh (o.getD []++[x])):=yE h
theorem jo0 {o:Option (List qj)}{x:qj}(h:(o.getD []).length<SM):f243 o x=Eh (Eh (o.getD []++[x])):=yE h
theorem jmu {o:Option (List qk)}{x:qk}(h:(o.getD []).length<SM):f250 o x=Eh (Eh (o.getD []++[x])):=yE h
theorem jnu {o:Option (List qj)}{x:qj}(h:(o.getD []).length<SM):f194 o x=Eh (Eh (o.getD []++[x])):=yE h
theorem n6 {α:Type}{o:Option (List α)}{i:Nat}{x y:α}{g}(hl:(o.getD []).length≤SM)(hx:(o.getD [])[i]?=Eh x)(hg:g x=Eh y):fQ o (i:Int) g=Eh (Eh ((o.getD []).set i y)):=by
 unfold fQ
 rw[if_pos ⟨hl,by omega⟩,Int.toNat_natCast,hx]
 simp only[hg]
theorem WK {α:Type}{o:Option (List α)}{i x}(hl:(o.getD []).length≤SM)(hx:i<(o.getD []).length):Bm o (i:Int) x=Eh (Eh ((o.getD []).set i x)):=by
 unfold Bm
 rw[if_pos ⟨hl,by omega,by omega⟩,Int.toNat_natCast]
theorem WL {α:Type}{o:Option (List α)}{x:α}{p:α→Bool}{g}(hl:(o.getD []).length<SM)(hg:∀y,g y=Eh x):
  ∃v w,(cond (decide (0≤dH ((o.getD []).findIdx? p))) (jw (fQ o (dH ((o.getD []).findIdx? p)) g) fun v4=>Eh (v4,Ga)) (jw (Eh (Eh (o.getD []++[x]))) fun v6=>Eh (v6,Eu)))=Eh (v,w)∧v.getD []=eS p x (o.getD []):=by
 unfold eS
 cases h:(o.getD []).findIdx? p with
 |none=>exact⟨_,_,rfl,rfl⟩
 |some k=>
  obtain⟨y,h1,_⟩:=bC h
  rw[show decide (0≤dH (Eh k))=Eu from vk (Eh k)]
  simp only[cT,dH]
  rw[n6 (Gn hl) h1 (hg y)]
  exact⟨_,_,rfl,rfl⟩
theorem jnf {o:Option (List qk)}{x:qk}{k}(hl:(o.getD []).length<SM):∃v w,f173 o x k=Eh (v,w)∧v.getD []=eS (cN k) x (o.getD []):=by
 unfold f173
 have:Ij o k=Eh (dH ((o.getD []).findIdx? (cN k))):=by unfold Ij;exact mE (p:=cN k) (Gn hl) fun i=>rfl
 rw[this]
 simp only[jw]
 rw[jo6 hl]
 exact WL (p:=cN k) (g:=fun _=>Eh x) hl fun _=>rfl
theorem jmx {o:Option (List qj)}{x s:qj}(hl:(o.getD []).length<SM):∃v w,f177 o x s=Eh (v,w)∧v.getD []=eS (ec s.k) x (o.getD []):=by
 unfold f177
 have:yF o s=Eh (dH ((o.getD []).findIdx? (ec s.k))):=by unfold yF;exact mE (p:=ec s.k) (Gn hl) fun i=>rfl
 rw[this]
 simp only[jw]
 rw[jo0 hl]
 exact WL (p:=ec s.k) (g:=fun _=>Eh x) hl fun _=>rfl
theorem jml {o:Option (List qk)}{x:qk}{t}(hl:(o.getD []).length<SM):∃v w,f191 o x t=Eh (v,w)∧v.getD []=eS (cN t.name) x (o.getD []):=by
 unfold f191
 have:f188 o t=Eh (dH ((o.getD []).findIdx? (cN t.name))):=by unfold f188;exact mE (p:=cN t.name) (Gn hl) fun i=>rfl
 rw[this]
 simp only[jw]
 rw[jmu hl]
 exact WL (p:=cN t.name) (g:=fun _=>Eh x) hl fun _=>rfl
theorem joe {o t}(hl:(o.getD []).length≤SM):f188 o t=Eh (dH ((o.getD []).findIdx? (cN t.name))):=by
 unfold f188;exact mE (p:=cN t.name) hl fun i=>rfl
theorem jna {o k}(hl:(o.getD []).length≤SM):f171 o k=Eh (yi ((o.getD []).filter fun x=>!cN k x),fU ((o.getD []).filter fun x=>!cN k x)):=by
 unfold f171
 rw[H9 (f:=Ik o k) (l:=o.getD []) (p:=fun x=>!cN k x) (q:=fun x=>f172 x k) hl (fun x _=>rfl) (fun s=>rfl)]
 rfl
theorem jj2 {o k}(hl:(o.getD []).length≤SM):Il o k=Eh ((o.getD []).any (cN k)):=by
 have:Io o k=Eh (dH ((o.getD []).findIdx? (cN k))):=by unfold Io;exact mE (p:=cN k) hl fun i=>rfl
 unfold Il;rw[this];simp only[jw,vk,bY]
theorem jig {o t}(hl:(o.getD []).length≤SM):Ip o t=Eh ((o.getD []).any (cN t.kind)):=by
 have:Iq o t=Eh (dH ((o.getD []).findIdx? (cN t.kind))):=by unfold Iq;exact mE (p:=cN t.kind) hl fun i=>rfl
 unfold Ip;rw[this];simp only[jw,vk,bY]
theorem jhr {o s}(hl:(o.getD []).length≤SM):Ir o s=Eh ((o.getD []).any (ec s.k)):=by
 have:yF o s=Eh (dH ((o.getD []).findIdx? (ec s.k))):=by unfold yF;exact mE (p:=ec s.k) hl fun i=>rfl
 unfold Ir;rw[this];simp only[jw,vk,bY]
theorem jku {o e n}(hn:zn (e.names.getD []) 1=Eh n)(hl:(o.getD []).length≤SM):Iu o e=Eh ((o.getD []).any (ec n)):=by
 have:Iw o e=Eh (dH ((o.getD []).findIdx? (ec n))):=by
  unfold Iw
  refine mE (p:=ec n) hl fun i=>?_
  unfold Ix f192
  rw[hn]
  rfl
 unfold Iu;rw[this];simp only[jw,vk,bY]
theorem WM {α β:Type}{l:List α}{h q f}(hh:∀x,(h x).length≤1)
  (cM:∀o b w,f (o,b,(l.length:Int),w)=Eh (.inr (o,w,b,(l.length:Int))))
  (hf:∀(i:Nat) x (a:List β) b,l[i]?=Eh x→i<l.length→a.length≤i→f (yi a,b,(i:Int),fU a)=Eh (.inl (yi (a++h x),b||q x,((i+1:Nat):Int),fU (a++h x)))):
  aY f (Gy,Ga,0,Ga)=Eh (yi (l.flatMap h),fU (l.flatMap h),l.any q,(l.length:Int)):=by
 have key:∀(k i:Nat),i+k=l.length→∀a b,a.length≤i→aY f (yi a,b,(i:Int),fU a)=Eh (yi (a++(l.drop i).flatMap h),fU (a++(l.drop i).flatMap h),b||(l.drop i).any q,(l.length:Int)):=by
  intro k
  induction k with
  |zero=>
   intro i hi a b _
   have:i=l.length:=by omega
   subst this
   rw[Ge (Ev _),List.flatMap_nil,List.append_nil,jD (cM _ _ _)]
   simp
  |succ k ih=>
   intro i hi a b ha
   obtain⟨x,hx⟩:∃x,l[i]?=Eh x:=⟨_,Gb (by omega)⟩
   rw[oF (hf i x a b hx (by omega) ha),ih (i+1) (by omega) _ _ (by rw[G6];have:=hh x;omega),pF hx,Gk,Hc,Gl,Bool.or_assoc]
 have:=key l.length 0 (by omega) [] Ga (Ev _)
 rw[Gw,Gv,Bool.false_or]at this
 exact this
theorem WN {α:Type}{a:List α}{x}(h:a.length<SM):cond (fU a) (jw (bj (yi a) [x]) fun v=>Eh (v,Eu)) (cond (yi a).isNone (jw (bj (yi a) [x]) fun v=>Eh (v,Eu)) Gy)=Eh (yi (a++[x]),Eu):=x6 (k:=fun v=>Eh (v,Eu)) h
theorem lB {α β:Type}{h:α→List β}(hh:∀x,(h x).length≤1):∀l:List α,(l.flatMap h).length≤l.length
 | []=>Ev _
 |x::l=>by rw[Gk,G6,Hg];have:=hh x;have:=lB hh l;omega
theorem jo8 {o x}(hl:(o.getD []).length<SM)(hk:kz (·.k) (o.getD []))(h0:0≤x.n):∃v w,f203 o x=Eh (v,w)∧v.getD []=jE (o.getD []) x.k x.n:=by
 let h:qk→List qk:=fun y=>if cN x.k y then(if 0<x.n then [x]else [])else [y]
 have hh:∀y,(h y).length≤1:=by intro y;simp only[h];split<;>(try split)<;>simp
 have L:=WM (l:=o.getD []) (h:=h) (q:=cN x.k) (f:=Bn o x) hh (fun o b w=>by unfold Bn;simp only[ky];rfl) (fun i y a b hy hi ha=>by
  unfold Bn
  simp only[eR hi,cT,jw,zy hy]
  rw[kl (by unfold SM at hl;omega)]
  simp only[h,cN]
  by_cases h1:y.k=x.k
  ·by_cases h2:0<x.n
   ·simp only[h1,h2,decide_true,cT,if_true,G9]
    rw[Bf]
    exact x6 (x:=x) (k:=fun v=>Eh (Gr (v,Eu,((i+1:Nat):Int),Eu))) (by unfold SM at hl;omega)
   ·simp[h1,h2]
  ·simp only[h1,decide_false,cond_false,Ek,if_false,G2]
   rw[Bf]
   exact x6 (x:=y) (k:=fun v=>Eh (Gr (v,b,((i+1:Nat):Int),Eu))) (by unfold SM at hl;omega))
 unfold f203
 rw[L]
 simp only[jw]
 have hlen:((o.getD []).flatMap h).length<SM:=Gi (lB hh _) hl
 by_cases hn:x.n=0
 ·have hp:decide (0<x.n)=Ga:=by rw[hn];rfl
  have hf:(o.getD []).flatMap h=(o.getD []).filter fun y=>!cN x.k y:=by
   rw[show h=fun y=>if(!cN x.k y)then [id y]else [] by funext y;simp only[h,hn];cases cN x.k y<;>rfl,WI,List.map_id]
  unfold jE
  rw[if_pos hn,hp,←hf]
  cases (o.getD []).any (cN x.k)<;>exact⟨_,_,rfl,yp _⟩
 ·have hp:decide (0<x.n)=Eu:=dT (by omega)
  have hf:(o.getD []).flatMap h=(o.getD []).map fun y=>if cN x.k y then x else y:=by
   rw[←OW]
   congr 1
   funext y
   have:0<x.n:=by omega
   simp only[h,this,if_true]
   cases cN x.k y<;>rfl
  have uJ:=q1c (key:=fun y:qk=>y.k) (k:=x.k) (x:=x) hk
  unfold jE
  rw[if_neg hn,hp,show(⟨x.k,x.n⟩:qk)=x from rfl,show eS (cN x.k) x (o.getD [])=E2 (cN x.k) x (o.getD [])from uJ.symm]
  unfold E2
  rw[←hf]
  cases ha:(o.getD []).any (cN x.k)with
  |true=>exact⟨_,_,rfl,by rw[yp];simp⟩
  |false=>
   simp only[cond_false,cT,Ek,if_false]
   have:=WN (x:=x) hlen
   simp only[jw]at this
   rw[this]
   exact⟨_,_,rfl,yp _⟩
theorem jl9 {o x}(hl:(o.getD []).length<SM)(hk:kz (·.k) (o.getD [])):∃v w,f204 o x=Eh (v,w)∧v.getD []=eS (ec x.k) x (o.getD []):=by
 let h:qj→List qj:=fun y=>if ec x.k y then [x]else [y]
 have hh:∀y,(h y).length≤1:=by intro y;simp only[h];split<;>simp
 have L:=WM (l:=o.getD []) (h:=h) (q:=ec x.k) (f:=Bo o x) hh (fun o b w=>by unfold Bo;simp only[ky];rfl) (fun i y a b hy hi ha=>by
  unfold Bo
  simp only[eR hi,cT,jw,zy hy]
  rw[kl (by unfold SM at hl;omega)]
  simp only[h,ec]
  by_cases h1:y.k=x.k
  ·simp only[h1,decide_true,cT,if_true,G9]
   rw[Bf]
   exact x6 (x:=x) (k:=fun v=>Eh (Gr (v,Eu,((i+1:Nat):Int),Eu))) (by unfold SM at hl;omega)
  ·simp only[h1,decide_false,cond_false,Ek,if_false,G2]
   rw[Bf]
   exact x6 (x:=y) (k:=fun v=>Eh (Gr (v,b,((i+1:Nat):Int),Eu))) (by unfold SM at hl;omega))
 unfold f204
 rw[L]
 simp only[jw]
 have hlen:((o.getD []).flatMap h).length<SM:=Gi (lB hh _) hl
 have hf:(o.getD []).flatMap h=(o.getD []).map fun y=>if ec x.k y then x else y:=by
  rw[←OW]
  congr 1
  funext y
  simp only[h]
  cases ec x.k y<;>rfl
 have uJ:=q1c (key:=fun y:qj=>y.k) (k:=x.k) (x:=x) hk
 rw[show eS (ec x.k) x (o.getD [])=E2 (ec x.k) x (o.getD [])from uJ.symm]
 unfold E2
 rw[←hf]
 cases ha:(o.getD []).any (ec x.k)with
 |true=>exact⟨_,_,rfl,by rw[yp];simp⟩
 |false=>
  simp only[cond_false,Ek,if_false]
  have:=WN (x:=x) hlen
  simp only[jw]at this
  rw[this]
  exact⟨_,_,rfl,yp _⟩
theorem q0w {α:Type}{f}:∀ {l:List α},(∀x∈l,f x=x)→l.map f=l
 | [],_=>rfl
 |x::l,h=>by rw[Gm,h x (G5 ..),q0w fun y hy=>h y (Gx _ hy)]
theorem q7e {k:List UInt8}{F:qk→qk}:∀ {l:List qk},kz (·.k) l→(l.map fun y=>if cN k y then F y else y)=(match l.findIdx? (cN k)with
  |some i=>(match l[i]? with
   |some x=>l.set i (F x)
   |none=>l)
  |none=>l)
 | [],_=>rfl
 |y::l,h=>by
  have h':kz (·.k) l:=(Hl.1 h).2
  have hn:¬y.k∈l.map (·.k):=(Hl.1 h).1
  rw[Gm,G3]
  cases hy:cN k y with
  |true=>
   have hk:y.k=k:=of_decide_eq_true hy
   simp only[if_true]
   rw[q0w fun x hx=>by
    have:cN k x=Ga:=dF fun hxk=>hn (by rw[hk,←hxk];exact List.mem_map_of_mem hx)
    rw[this];rfl]
   rfl
  |false=>
   simp only[Ek,if_false]
   rw[q7e h']
   cases hi:l.findIdx? (cN k)with
   |none=>rfl
   |some i=>
    obtain⟨x,h1,_⟩:=bC hi
    simp[h1]
theorem joh {o k n}(hl:(o.getD []).length<SM)(hk:kz (·.k) (o.getD [])):∃v w,f252 o k n=Eh (v,w)∧v.getD []=mF (j6 .i64) (o.getD []) k n:=by
 let h:qk→List qk:=fun y=>if cN k y then [⟨y.k,j6 .i64 (y.n+n)⟩]else [y]
 have hh:∀y,(h y).length≤1:=by intro y;simp only[h];split<;>simp
 have L:=WM (l:=o.getD []) (h:=h) (q:=cN k) (f:=Bp o k n) hh (fun o b w=>by unfold Bp;simp only[ky];rfl) (fun i y a b hy hi ha=>by
  unfold Bp
  simp only[eR hi,cT,jw,zy hy]
  rw[kl (by unfold SM at hl;omega)]
  simp only[h,cN]
  by_cases h1:y.k=k
  ·simp only[h1,decide_true,cT,if_true,G9]
   rw[Bf]
   exact x6 (x:=(⟨k,j6 .i64 (y.n+n)⟩:qk)) (k:=fun v=>Eh (Gr (v,Eu,((i+1:Nat):Int),Eu))) (by unfold SM at hl;omega)
  ·simp only[h1,decide_false,cond_false,Ek,if_false,G2]
   rw[Bf]
   exact x6 (x:=y) (k:=fun v=>Eh (Gr (v,b,((i+1:Nat):Int),Eu))) (by unfold SM at hl;omega))
 unfold f252
 rw[L]
 simp only[jw]
 have hlen:((o.getD []).flatMap h).length<SM:=Gi (lB hh _) hl
 have hf:(o.getD []).flatMap h=(o.getD []).map fun y=>if cN k y then(⟨k,j6 .i64 (n+y.n)⟩:qk)else y:=by
  rw[←OW]
  congr 1
  funext y
  simp only[h]
  cases hy:cN k y with
  |false=>rfl
  |true=>rw[show y.k=k from of_decide_eq_true hy,Int.add_comm];rfl
 rw[q7e hk]at hf
 unfold mF
 cases hi:(o.getD []).findIdx? (cN k)with
 |some i=>
  obtain⟨x,h1,_⟩:=bC hi
  have ha:(o.getD []).any (cN k)=Eu:=by rw[Bi,hi];rfl
  rw[hi]at hf
  simp only[h1]at hf ⊢
  rw[ha,hf]
  exact⟨_,_,rfl,yp _⟩
 |none=>
  have ha:(o.getD []).any (cN k)=Ga:=by rw[Bi,hi];rfl
  rw[hi]at hf
  simp only at hf ⊢
  rw[ha]
  have:=WN (x:=(⟨k,n⟩:qk)) hlen
  simp only[jw]at this
  simp only[cond_false]
  rw[this,hf]
  exact⟨_,_,rfl,yp _⟩
end Go.Z
