/- Chapter 10, plain. -/
import Derived.Test.YtimdocpnkimlfaaGreatDoorW12
set_option linter.unusedVariables false
set_option linter.unusedSimpArgs false
set_option maxRecDepth 100000
open Option renaming some→E3,getD_some→Gd,any_some→Gw,isSome_iff_exists→G7,none→G9,bind_some→Jo,isNone_some→Lk
open Bool renaming false_eq_true→Ga,true→Gg,false→Gh,true_and→Gl,and_true→Gm,not_true→G6,not_false→J9,or_false→Lf,or_true→Lp,and_eq_true→Ny,and_false→N7,false_and→N8,and_self→N9
open List renaming mem_of_getElem?→Gc,getElem?_eq_some_iff→Gi,map_cons→Gq,getElem?_eq_getElem→Gr,drop_eq_nil_of_le→Gs,length_map→Gv,getElem?_map→Gx,length_cons→Gz,length_singleton→G8,foldl_cons→Ha,mem_map_of_mem→Hc,flatMap_cons→If,any_cons→Jn,map_nil→Jp,map_set→Jq,nil_append→Jr,map_append→Js,length_nil→Jt,drop_zero→Jy,mem_cons_of_mem→La,findIdx?_cons→Lg,mem_cons_self→Li,length_append→Ln,findIdx?_map→Lr,append_assoc→Lu,filter_cons→Nj,nodup_cons→Nz,all_cons→Oa
open Nat renaming le_refl→Gp,le_of_lt→Hb,lt_of_le_of_lt→Hd,succ_le_succ→Nx
open Sum renaming inl→Iy
namespace Go.Z
open Go Go.Abs Go.W
def eh:Option Nat→Int
 |some k=>(k:Int)
 |none=>-1
theorem q19 {α:Type}(l:List α)(p:α→Bool)(f:Int→Option (Int⊕(Int⊕Int)))(cR:f (l.length:Int)=E3 (.inr (.inr (l.length:Int))))
  (cw:∀(i:Nat) x,l[i]?=E3 x→i<l.length→f (i:Int)=E3 (if p x then .inr (.inl (i:Int))else .inl ((i+1:Nat):Int))):
  ∃d,bz f 0=E3 d∧(match d with | .inl k=>k | .inr _=>-1)=eh (l.findIdx? p):=by
 have:=Hf l.length (fun i=>(i:Int)) f (fun d=>match d with | .inl k=>k | .inr _=>(-1:Int)) (fun i=>eh (((l.drop i).findIdx? p).map (· + i))) ⟨_,cR,by rw[Gs (Gp _)];rfl⟩ (fun i hi=>by
  obtain⟨x,hx⟩:∃x,l[i]?=E3 x:=⟨_,Gr hi⟩
  have h1:=cw i x hx hi
  simp only[pN hx,Lg]
  cases hp:p x with
  |true=>
   rw[hp,if_pos rfl]at h1
   exact .inr ⟨_,h1,by simp[eh]⟩
  |false=>
   rw[hp]at h1
   refine .inl ⟨by simpa using h1,?_⟩
   simp only[Ga,if_false,Option.map_map]
   congr 1
   congr 1
   funext n
   simp only[Function.comp];omega)
 obtain⟨d,h1,h2⟩:=this
 refine⟨d,h1,?_⟩
 rw[h2]
 simp
abbrev SM:Nat:=1073741824
theorem mN {α:Type}{l:List α}{p:α→Bool}{f:Int→Option (Int⊕(Int⊕Int))}(hl:l.length≤SM)
  (hf:∀i:Int,f i=cond (decide (i<(l.length:Int))) (qa (qq l i) fun x=>cond (p x) (E3 (.inr (.inl i))) (E3 (.inl (qe .i64 (i+1))))) (E3 (.inr (.inr i)))):
  (qa (bz f 0) fun d=>match d with | .inl k=>E3 k | .inr _=>E3 (-1))=E3 (eh (l.findIdx? p)):=by
 obtain⟨d,h1,h2⟩:=q19 l p f (by rw[hf,yb];rfl) (fun i x hx hi=>by
  rw[hf,kc hi]
  simp only[cond_true,qa,jc hx]
  cases p x with
  |true=>rfl
  |false=>simp only[cond_false];rw[ya (by unfold SM at hl;omega)];rfl)
 rw[h1]
 simp only[qa]
 rw[←h2]
 cases d<;>rfl
variable {r:au}{n:List UInt8}
theorem Hg (hl:(r.ar.getD []).length≤SM):wO r n=E3 (eh (zf r.er n)):=by
 unfold wO zf
 exact mN (p:=fun x=>decide (x.name=n)) hl fun i=>rfl
theorem Bg (hl:(r.ar.getD []).length≤SM):f64 r n=E3 (eh (zf r.er n)):=by
 have:Hh ((r.ar.getD []).length:Int) r n=E3 (eh (zf r.er n)):=by
  unfold Hh zf
  refine mN (p:=fun x=>decide (x.name=n)) hl fun i=>?_
  unfold Hj Mb
  congr 1
  cases qq (r.ar.getD []) i<;>rfl
 unfold f64;rw[this];rfl
theorem yU:r.er.ae=(r.ae.getD []).map aX.er:=rfl
theorem rU:r.er.units=(r.units.getD []).map aY.er:=rfl
theorem Mc:zz r.er n=(r.ae.getD []).findIdx? fun x=>decide (x.name=n):=by
 unfold zz;rw[yU,Lr];rfl
theorem TE:js r.er n=(r.units.getD []).findIdx? fun x=>decide (x.name=n):=by
 unfold js;rw[rU,Lr];rfl
theorem Ec (hl:(r.ae.getD []).length≤SM):wP r n=E3 (eh (zz r.er n)):=by
 rw[Mc];unfold wP
 exact mN (p:=fun x=>decide (x.name=n)) hl fun i=>rfl
theorem vJ (hl:(r.ae.getD []).length≤SM):ov r n=E3 (eh (zz r.er n)):=by
 have:Hk ((r.ae.getD []).length:Int) r n=E3 (eh (zz r.er n)):=by
  rw[Mc];unfold Hk
  refine mN (p:=fun x=>decide (x.name=n)) hl fun i=>?_
  unfold Hl f206
  congr 1
  cases qq (r.ae.getD []) i<;>rfl
 unfold ov;rw[this];rfl
theorem Md (hl:(r.units.getD []).length≤SM):Bh r n=E3 (eh (js r.er n)):=by
 rw[TE];unfold Bh
 exact mN (p:=fun x=>decide (x.name=n)) hl fun i=>rfl
theorem rV (hl:(r.units.getD []).length≤SM):f76 r n=E3 (eh (js r.er n)):=by
 have:Hm ((r.units.getD []).length:Int) r n=E3 (eh (js r.er n)):=by
  rw[TE];unfold Hm
  refine mN (p:=fun x=>decide (x.name=n)) hl fun i=>?_
  unfold Hn Me
  congr 1
  cases qq (r.units.getD []) i<;>rfl
 unfold f76;rw[this];rfl
end Go.Z
namespace Go.Z
open Go Go.Abs Go.W
theorem qz2 {i}(h:i<9223372036854775807):qe .i64 (((i+1:Nat):Int)-1)=(i:Int):=by
 have:=ya (i:=i) h
 rw[show(((i+1:Nat):Int)-1)=(i:Int) by omega]
 cases i with
 |zero=>rfl
 |succ j=>
  have:=ya (i:=j) (by omega)
  rw[show((j+1:Nat):Int)=(j:Int)+1 by omega,this];omega
variable {r:au}{n:List UInt8}
theorem TF {sp}(h:k9 r.er n=E3 sp):∃k p,zz r.er n=E3 k∧(r.ae.getD [])[k]?=E3 p∧p.er=sp∧p.name=n:=by
 unfold k9 at h
 cases hk:zz r.er n with
 |none=>rw[hk]at h;cases h
 |some k=>
  rw[hk]at h
  simp only[Jo,yU,Gx]at h
  cases hp:(r.ae.getD [])[k]? with
  |none=>rw[hp]at h;cases h
  |some p=>
   rw[hp]at h
   rw[Mc]at hk
   obtain⟨x,h1,h2,_⟩:=bp hk
   rw[hp]at h1;cases h1
   exact⟨k,p,rfl,hp,by simpa using h,of_decide_eq_true h2⟩
theorem jth {u d}(hP:(r.ae.getD []).length≤SM)(hB:∀p∈r.ae.getD [],(p.aW.getD []).length≤SM)(hd:gy r.er u.er=E3 d):∃D,pQ r u=E3 D∧pR r u=E3 D∧D.er=d:=by
 unfold gy at hd
 cases hp:k9 r.er u.er.product with
 |none=>rw[hp]at hd;cases hd
 |some sp=>
  rw[hp]at hd
  obtain⟨k,p,h1,h2,rfl,_⟩:=TF hp
  simp only[Jo,Ed]at hd
  have hB:=hB p (Gc h2)
  split at hd
  ·rename_i hv
   obtain⟨i,hi⟩:∃i:Nat,u.version=((i+1:Nat):Int):=⟨(u.version-1).toNat,by have:1≤u.version:=hv;omega⟩
   have he:(u.er.version-1).toNat=i:=by show(u.version-1).toNat=i;omega
   rw[he]at hd
   have oX:((p.aW.getD []).map bY.er)[i]?=E3 d:=hd
   rw[Gx]at oX
   cases hD:(p.aW.getD [])[i]? with
   |none=>rw[hD]at oX;cases oX
   |some D=>
    rw[hD]at oX
    have bw:=(Gi.1 hD).1
    have hw:qe .i64 (u.version-1)=(i:Int):=by rw[hi];exact qz2 (by unfold SM at hB;omega)
    refine⟨D,?_,?_,by simpa using oX⟩
    ·unfold pQ
     rw[vJ hP,show zz r.er u.product=E3 k from h1]
     simp only[qa,eh,jc h2,hw,jc hD]
    ·unfold pR
     rw[Ec hP,show zz r.er u.product=E3 k from h1]
     simp only[qa,eh,jc h2,hw,jc hD]
  ·cases hd
theorem Mf {u v}(hP:(r.ae.getD []).length≤SM)(hd:pS r.er u.er=E3 v):Ee r u=E3 v∧Ef r u=E3 v:=by
 unfold pS at hd
 cases hp:k9 r.er u.er.product with
 |none=>rw[hp]at hd;cases hd
 |some sp=>
  rw[hp]at hd
  obtain⟨k,p,h1,h2,rfl,_⟩:=TF hp
  have hv:v=((p.aW.getD []).length:Int):=by
   simp only[Option.map_some,E3.injEq]at hd
   rw[←hd]
   show((((p.aW.getD []).map bY.er).length:Nat):Int)=_
   rw[Gv]
  subst hv
  refine⟨?_,?_⟩
  ·unfold Ee Eg
   rw[vJ hP,show zz r.er u.product=E3 k from h1]
   simp only[qa,eh,jc h2]
  ·unfold Ef
   rw[Ec hP,show zz r.er u.product=E3 k from h1]
   simp only[qa,eh,jc h2]
theorem TG {α γ ε:Type}(g:γ→α→γ):∀(l:List α) (i:Nat) (c:γ),D6 (fun _ c x=>(.inl (g c x):γ⊕ε)) i c l=.inl (l.foldl g c)
 | [],i,c=>rfl
 |x::l,i,c=>by simp only[D6,Ha];exact TG g l (i+1) (g c x)
theorem Ho {α γ σ δ:Type}(l:List α)(f:σ→Option (σ⊕δ))(mk:Nat→γ→σ)(g:γ→α→γ)(En:γ→δ)(c:γ)(cR:∀c,f (mk l.length c)=E3 (.inr (En c)))
  (cw:∀i c x,l[i]?=E3 x→i<l.length→f (mk i c)=E3 (.inl (mk (i+1) (g c x)))):bz f (mk 0 c)=E3 (En (l.foldl g c)):=by
 have:=q3h (ε:=Empty) l f mk (fun _ c x=>.inl (g c x)) En (fun e=>nomatch e) (fun _ _=>True) c (fun c _=>cR c) (fun i c x hx hi _=>⟨trivial,cw i c x hx hi⟩) trivial
 rw[this,TG]
theorem jp6 {u t}(hl:(u.results.getD []).length≤SM):Hp u t=E3 (rW u.er t):=by
 unfold Hp
 have:=Ho (u.results.getD []) (Bi u t) (fun i (c:Bool)=>(c,(i:Int))) (fun is x=>if decide (x.k=t.k)&&decide (x.a=u.version)then decide (t.a≤x.b)&&decide (x.b≤t.b)else is) (fun c=>(c,((u.results.getD []).length:Int))) Gh (fun c=>by unfold Bi;simp only[yb];rfl)
  (fun i c x hx hi=>by
   unfold Bi
   simp only[kc hi,cond_true,qa,jc hx]
   rw[ya (by unfold SM at hl;omega)]
   by_cases h1:x.k=t.k<;>by_cases h2:x.a=u.version<;>by_cases h3:t.a≤x.b<;>simp[h1,h2,h3])
 rw[show((Gh,(0:Int)):Bool×Int)=(Gh,((0:Nat):Int))from rfl,this]
 rfl
theorem jn3 {u t}(hl:(u.results.getD []).length≤SM)(hv:u.version≠-1):Hq u t=E3 (rW u.er t):=by
 unfold Hq
 have:=Ho (u.results.getD []) (Bj u t) (fun i (c:jf)=>((i:Int),c.k,c.a,c.b)) (fun c x=>if decide (x.k=t.k)&&decide (x.a=u.version)then x else c) (fun c=>(((u.results.getD []).length:Int),c.k,c.a,c.b)) ⟨[],-1,0⟩ (fun c=>by unfold Bj;simp only[yb];rfl)
  (fun i c x hx hi=>by
   unfold Bj
   simp only[kc hi,cond_true,qa,jc hx]
   rw[ya (by unfold SM at hl;omega)]
   by_cases h1:x.k=t.k<;>by_cases h2:x.a=u.version<;>simp[h1,h2])
 rw[show(((0:Int),([]:List UInt8),(-1:Int),(0:Int)):Int×List UInt8×Int×Int)=(((0:Nat):Int),[],-1,0)from rfl]
 simp only[]at this
 rw[this]
 simp only[qa]
 have key:∀(l:List jf) (c:jf) (b:Bool),(c=⟨[],-1,0⟩∧b=Gh∨c.a=u.version∧b=(decide (t.a≤c.b)&&decide (c.b≤t.b))) →
   (let c':=l.foldl (fun c x=>if decide (x.k=t.k)&&decide (x.a=u.version)then x else c) c
    let b':=l.foldl (fun is x=>if decide (x.k=t.k)&&decide (x.a=u.version)then decide (t.a≤x.b)&&decide (x.b≤t.b)else is) b
    c'=⟨[],-1,0⟩∧b'=Gh∨c'.a=u.version∧b'=(decide (t.a≤c'.b)&&decide (c'.b≤t.b))):=by
  intro l
  induction l with
  |nil=>intro c b h;exact h
  |cons x l ih=>
   intro c b h
   simp only[Ha]
   apply ih
   by_cases h1:x.k=t.k<;>by_cases h2:x.a=u.version
   ·simp only[h1,h2,decide_true,N9,if_true]
    right;trivial
   all_goals simpa only[h1,h2,decide_true,decide_false,N7,N8,N9,Ga,if_false]using h
 have k:=key (u.results.getD []) ⟨[],-1,0⟩ Gh (.inl ⟨rfl,rfl⟩)
 simp only at k
 show _=E3 ((u.results.getD []).foldl (fun is x=>if decide (x.k=t.k)&&decide (x.a=u.version)then decide (t.a≤x.b)&&decide (x.b≤t.b)else is) Gh)
 rcases k with⟨h1,h2⟩|⟨h1,h2⟩
 ·rw[h2,h1];rfl
 ·rw[h2]
  generalize (u.results.getD []).foldl (fun c x=>if decide (x.k=t.k)&&decide (x.a=u.version)then x else c) ⟨[],-1,0⟩=c at h1
  have:decide (c.a=-1)=Gh:=decide_eq_false (by rw[h1];exact hv)
  simp only[this,N7,N8,cond_false]
  by_cases h3:t.a≤c.b<;>simp[h3]
end Go.Z
namespace Go.Z
open Go Go.Abs Go.W
theorem TH {α β:Type}(p:α→Bool)(g:α→β):∀l:List α,(l.flatMap fun x=>if p x then [g x]else [])=(l.filter p).map g
 | []=>rfl
 |x::l=>by
  rw[If,TH p g l,Nj]
  cases p x<;>rfl
theorem Mg {α β:Type}{l:List α}{p:α→Bool}{g:α→β}{f}(hl:l.length≤SM)
  (cR:∀o w,f (o,(l.length:Int),w)=E3 (.inr (o,w,(l.length:Int))))
  (hf:∀(i:Nat) x o w,l[i]?=E3 x→f (o,(i:Int),w)=cond (p x) (cond w (qa (bH o [g x]) fun v=>E3 (.inl (v,((i+1:Nat):Int),Gg))) (cond o.isNone (qa (bH o [g x]) fun v=>E3 (.inl (v,((i+1:Nat):Int),Gg))) G9)) (E3 (.inl (o,((i+1:Nat):Int),w)))):
  bz f (G9,0,Gh)=E3 (jm ((l.filter p).map g),gw ((l.filter p).map g),(l.length:Int)):=by
 have:=jlo l (fun i=>(i:Int)) f (fun x=>if p x then [g x]else []) [] (fun i a=>a.length≤i) (Gp _) (fun a=>cR _ _) (fun i x a hx hi ha=>by
  cases hp:p x with
  |true=>
   refine⟨by simp;omega,?_⟩
   rw[hf i x _ _ hx,hp]
   simp only[cond_true,if_true]
   rw[Bk]
   exact yQ (x:=g x) (k:=fun v=>E3 (Iy (v,((i+1:Nat):Int),Gg))) (by unfold SM at hl;omega)
  |false=>
   refine⟨by simp;omega,?_⟩
   rw[hf i x _ _ hx,hp]
   simp)
 rw[TH,Jr]at this
 exact this
theorem Hr {α:Type}{l:List α}{p:α→Bool}{q:α→Option Bool}{f}(hl:l.length≤SM)(hq:∀x∈l,q x=E3 (p x))
  (hf:∀s,f s=cond (decide (s.2.1<(l.length:Int))) (qa (qq l s.2.1) fun x=>qa (q x) fun b=>cond b (cond s.2.2 (qa (bH s.1 [x]) fun v=>E3 (.inl (v,qe .i64 (s.2.1+1),Gg))) (cond s.1.isNone (qa (bH s.1 [x]) fun v=>E3 (.inl (v,qe .i64 (s.2.1+1),Gg))) G9)) (E3 (.inl (s.1,qe .i64 (s.2.1+1),s.2.2)))) (E3 (.inr (s.1,s.2.2,s.2.1)))):
  bz f (G9,0,Gh)=E3 (jm (l.filter p),gw (l.filter p),(l.length:Int)):=by
 have:=Mg (l:=l) (p:=p) (g:=fun x=>x) (f:=f) hl (fun o w=>by rw[hf];simp only[yb,cond_false]) (fun i x o w hx=>by
  have hi:=(Gi.1 hx).1
  rw[hf]
  simp only[kc hi,cond_true,qa,jc hx,hq x (Gc hx)]
  rw[ya (by unfold SM at hl;omega)])
 simpa using this
theorem Hs {α β:Type}{l:List α}{g:α→β}{q:α→Option β}{f}(hl:l.length≤SM)(hq:∀x∈l,q x=E3 (g x))
  (hf:∀s,f s=cond (decide (s.2.1<(l.length:Int))) (qa (qq l s.2.1) fun x=>qa (q x) fun b=>cond s.2.2 (qa (bH s.1 [b]) fun v=>E3 (.inl (v,qe .i64 (s.2.1+1),Gg))) (cond s.1.isNone (qa (bH s.1 [b]) fun v=>E3 (.inl (v,qe .i64 (s.2.1+1),Gg))) G9)) (E3 (.inr (s.1,s.2.2,s.2.1)))):
  bz f (G9,0,Gh)=E3 (jm (l.map g),gw (l.map g),(l.length:Int)):=by
 have:=Mg (l:=l) (p:=fun _=>Gg) (g:=g) (f:=f) hl (fun o w=>by rw[hf];simp only[yb,cond_false]) (fun i x o w hx=>by
  have hi:=(Gi.1 hx).1
  rw[hf]
  simp only[kc hi,cond_true,qa,jc hx,hq x (Gc hx)]
  rw[ya (by unfold SM at hl;omega)])
 rw[List.filter_eq_self.2 (fun _ _=>rfl)]at this
 exact this
variable {r:au}{u:aY}{D:bY}
theorem qu7 {α:Type}{l:List α}{p}(hl:l.length≤SM):(l.filter p).length≤SM:=Nat.le_trans (List.length_filter_le _ _) hl
theorem jfl (hd:pQ r u=E3 D)(hr:(u.results.getD []).length≤SM)(ht:(D.aH.getD []).length≤SM)(hv:u.version≠-1):∃w,f78 r u=E3 (jm (ox D.er u.er),w):=by
 unfold f78
 rw[hd]
 simp only[qa]
 have h1:Ht D.aH u=E3 (jm ((D.aH.getD []).filter fun t=>!rW u.er t),gw ((D.aH.getD []).filter fun t=>!rW u.er t)):=by
  unfold Ht
  rw[Hr (f:=Hu D.aH u) (l:=D.aH.getD []) (p:=fun t=>!rW u.er t) (q:=fun t=>Hv t u) ht (fun x _=>by unfold Hv;rw[jn3 hr hv];rfl) (fun s=>rfl)]
  rfl
 rw[h1]
 simp only[]
 have h2:f129 (jm ((D.aH.getD []).filter fun t=>!rW u.er t))=E3 (jm (ox D.er u.er),gw (ox D.er u.er)):=by
  unfold f129
  rw[Hs (f:=Hw (jm ((D.aH.getD []).filter fun t=>!rW u.er t))) (l:=((jm ((D.aH.getD []).filter fun t=>!rW u.er t)).getD [])) (g:=fun t:jf=>t.k) (q:=Mh) (by rw[jy];exact qu7 ht) (fun x _=>rfl) (fun s=>rfl),jy]
  rfl
 rw[h2]
 exact⟨_,rfl⟩
theorem q8f (hd:pR r u=E3 D)(hr:(u.results.getD []).length≤SM)(ht:(D.aH.getD []).length≤SM):∃w,Eh r u=E3 (jm (ox D.er u.er),w):=by
 unfold Eh
 rw[hd]
 simp only[qa]
 have:=Mg (l:=D.aH.getD []) (p:=fun t=>!rW u.er t) (g:=fun t:jf=>t.k) (f:=Bl u D) ht (fun o w=>by unfold Bl;simp only[yb,cond_false]) (fun i x o w hx=>by
  have hi:=(Gi.1 hx).1
  unfold Bl
  simp only[kc hi,cond_true,qa,jc hx,jp6 hr]
  rw[ya (by unfold SM at ht;omega)]
  cases rW u.er x<;>rfl)
 rw[this]
 exact⟨_,rfl⟩
theorem TI {n x}(h:oy r.er n=E3 x):∃k:Nat,zf r.er n=E3 k∧(r.ar.getD [])[k]?=E3 x:=by
 unfold oy at h
 cases hk:zf r.er n with
 |none=>rw[hk]at h;cases h
 |some k=>rw[hk]at h;exact⟨k,rfl,h⟩
theorem Hx {n}(h:(zf r.er n).isSome=Gg):∃x,oy r.er n=E3 x:=by
 unfold oy
 cases hk:zf r.er n with
 |none=>rw[hk]at h;cases h
 |some k=>
  obtain⟨x,h1,_⟩:=bp hk
  exact⟨x,h1⟩
def Mi (r:jq)(kind:Str)(n:Int)(x:br):Int:=if(oy r x.k).any (fun l=>decide (l.kind=kind))then qe .i64 (n+x.n)else n
theorem jqk {kind}(hL:(r.ar.getD []).length≤SM)(hu:(u.uses.getD []).length≤SM)(hw:∀x∈u.uses.getD [],(zf r.er x.k).isSome=Gg):Hy r u kind=E3 (Ei (qe .i64) r.er u.er kind):=by
 unfold Hy
 have:=Ho (u.uses.getD []) (Bm r u kind) (fun i (c:Int)=>(c,(i:Int))) (Mi r.er kind) (fun c=>(c,((u.uses.getD []).length:Int))) 0 (fun c=>by unfold Bm;simp only[yb];rfl)
  (fun i c x hx hi=>by
   obtain⟨y,hy⟩:=Hx (hw x (Gc hx))
   obtain⟨k,h1,h2⟩:=TI hy
   unfold Bm Mi
   simp only[kc hi,cond_true,qa,jc hx,Hg hL,h1,eh,jc h2,hy,Gw]
   rw[ya (by unfold SM at hu;omega)]
   by_cases h3:y.kind=kind<;>simp[h3])
 rw[show(((0:Int),(0:Int)):Int×Int)=((0:Int),((0:Nat):Int))from rfl,this]
 rfl
theorem q78 {σ:Type}{step g}(I:Nat→σ→Prop)(hL:(r.ar.getD []).length≤SM)(hu:(u.uses.getD []).length≤SM)
  (hg:∀i x c,(u.uses.getD [])[i]?=E3 x→I i c→I (i+1) (g c x)∧∃y,oy r.er x.k=E3 y∧step c y x.n=E3 (g c x)) (c:σ) (hI:I 0 c):bz (oY r u step) (0,c)=E3 (((u.uses.getD []).length:Int),(u.uses.getD []).foldl g c):=by
 have:=q3h (ε:=Empty) (u.uses.getD []) (oY r u step) (fun i (c:σ)=>((i:Int),c)) (fun _ c x=>.inl (g c x)) (fun c=>(((u.uses.getD []).length:Int),c)) (fun e=>nomatch e) I c (fun c _=>by unfold oY;simp only[yb];rfl)
  (fun i c x hx hi hI=>by
   obtain⟨hI',y,h1,h2⟩:=hg i x c hx hI
   obtain⟨k,h3,h4⟩:=TI h1
   refine⟨hI',?_⟩
   unfold oY
   simp only[kc hi,cond_true,qa,jc hx,Bg hL,h3,eh,jc h4,h2]
   rw[ya (by unfold SM at hu;omega)]) hI
 rw[show((0:Int),c)=(((0:Nat):Int),c)from rfl,this,TG]
end Go.Z
namespace Go.Z
open Go Go.Abs Go.W
variable {r:au}{u:aY}{D:bY}
theorem q5m {k v}:∀l:List (List UInt8×Int),(la l k v).length≤l.length+1
 | []=>Gp _
 |p::l=>by
  unfold la
  split
  ·simp
  ·simp only[Gz];exact Nx (q5m l)
theorem qvh {α γ:Type}{l:List α}{i x}(hx:l[i]?=E3 x)(g:γ→α→γ)(c:γ):(l.take (i+1)).foldl g c=g ((l.take i).foldl g c) x:=by
 rw[List.take_add_one,hx,List.foldl_append];rfl
theorem jo9 (hL:(r.ar.getD []).length≤SM)(hu:(u.uses.getD []).length≤SM)(hw:∀x∈u.uses.getD [],(zf r.er x.k).isSome=Gg):∃M,bz (oY r u wQ) (0,[])=E3 (((u.uses.getD []).length:Int),M)∧∀kind,mM M kind=Ei (qe .i64) r.er u.er kind:=by
 let g:List (List UInt8×Int)→br→List (List UInt8×Int):=fun c x=>match oy r.er x.k with
  |some y=>la c y.kind (qe .i64 (mM c y.kind+x.n))
  |none=>c
 let I:Nat→List (List UInt8×Int)→Prop:=fun i M=>M.length≤i∧∀kind,mM M kind=((u.uses.getD []).take i).foldl (Mi r.er kind) 0
 have hg:∀i x c,(u.uses.getD [])[i]?=E3 x→I i c→I (i+1) (g c x)∧∃y,oy r.er x.k=E3 y∧wQ c y x.n=E3 (g c x):=by
  intro i x c hx hI
  obtain⟨y,hy⟩:=Hx (hw x (Gc hx))
  have hi:=(Gi.1 hx).1
  have Rl:g c x=la c y.kind (qe .i64 (mM c y.kind+x.n)):=by simp only[g,hy]
  rw[Rl]
  refine⟨⟨Nat.le_trans (q5m _) (Nx hI.1),fun kind=>?_⟩,y,hy,?_⟩
  ·rw[qvh hx,jle,←hI.2 kind]
   unfold Mi
   rw[hy]
   simp only[Gw]
   by_cases hk:kind=y.kind
   ·subst hk;simp
   ·have dk:¬y.kind=kind:=fun h=>hk h.symm
    simp[hk,dk]
  ·unfold wQ Ma
   rw[if_pos (by have:=hI.1;unfold SM at hu;omega)]
 have:=q78 (step:=wQ) (g:=g) I hL hu hg [] ⟨Gp _,fun kind=>rfl⟩
 have hI:∀(k i:Nat) (c:List (List UInt8×Int)),i+k=(u.uses.getD []).length→I i c→I (u.uses.getD []).length (((u.uses.getD []).drop i).foldl g c):=by
  intro k
  induction k with
  |zero=>
   intro i c hi hc
   have:i=(u.uses.getD []).length:=by omega
   subst this
   rw[Gs (Gp _)];exact hc
  |succ k ih=>
   intro i c hi hc
   obtain⟨x,hx⟩:∃x,(u.uses.getD [])[i]?=E3 x:=⟨_,Gr (by omega)⟩
   rw[pN hx,Ha]
   exact ih (i+1) _ (by omega) (hg i x c hx hc).1
 have h2:=hI _ 0 [] (Nat.zero_add _) ⟨Gp _,fun kind=>rfl⟩
 rw[Jy]at h2
 refine⟨_,this,fun kind=>?_⟩
 rw[h2.2 kind,List.take_length]
 rfl
theorem vK (o:Option Nat):decide (0≤eh o)=o.isSome:=by
 cases o with
 |none=>rfl
 |some k=>exact decide_eq_true (by show(0:Int)≤(k:Int);omega)
theorem ct {α:Type}{p:α→Bool}{l:List α}:(l.findIdx? p).isSome=l.any p:=by rw[Bn]
theorem jjs {l:Option (List br)}{M:List (List UInt8×Int)}(hl:(l.getD []).length≤SM):Hz l M=E3 ((l.getD []).any fun n=>decide (mM M n.k<n.n)):=by
 have:HA l M=E3 (eh ((l.getD []).findIdx? fun n=>decide (mM M n.k<n.n))):=by
  unfold HA
  exact mN (p:=fun n=>decide (mM M n.k<n.n)) hl fun i=>rfl
 unfold Hz
 rw[this]
 simp only[qa,vK,ct]
theorem jo0 (hL:(r.ar.getD []).length≤SM)(hu:(u.uses.getD []).length≤SM)(hw:∀x∈u.uses.getD [],(zf r.er x.k).isSome=Gg)(hd:pQ r u=E3 D)(hn:(D.aM.getD []).length≤SM):HC r u=E3 (yV (qe .i64) r.er D.er u.er):=by
 obtain⟨M,h1,h2⟩:=jo9 hL hu hw
 unfold HC
 rw[h1,hd]
 simp only[qa,jjs hn,E3.injEq]
 unfold yV
 rw[show D.er.aM=D.aM.getD []from rfl]
 induction D.aM.getD []with
 |nil=>rfl
 |cons n l ih=>
  rw[Jn,Oa,Bool.not_or,ih,h2]
  congr 1
  by_cases h:Ei (qe .i64) r.er u.er n.k<n.n
  ·rw[decide_eq_true h,decide_eq_false (by omega)];rfl
  ·rw[decide_eq_false h,decide_eq_true (by omega)];rfl
theorem jon (hL:(r.ar.getD []).length≤SM)(hu:(u.uses.getD []).length≤SM)(hw:∀x∈u.uses.getD [],(zf r.er x.k).isSome=Gg)(hd:pR r u=E3 D)(hn:(D.aM.getD []).length≤SM):HD r u=E3 (yV (qe .i64) r.er D.er u.er):=by
 unfold HD
 rw[hd]
 simp only[qa]
 obtain⟨d,h1,h2⟩:=TA (D.aM.getD []) (Bo r u D) (fun n=>decide (n.n≤Ei (qe .i64) r.er u.er n.k)) (fun d=>match d with | .inl _=>Gh | .inr _=>Gg) ⟨.inr ((D.aM.getD []).length:Int),by unfold Bo;simp only[yb];rfl,rfl⟩ (fun i x hx hi=>by
  unfold Bo
  simp only[kc hi,cond_true,qa,jc hx,jqk hL hu hw]
  rw[ya (by unfold SM at hn;omega)]
  by_cases h:Ei (qe .i64) r.er u.er x.k<x.n
  ·exact .inr ⟨decide_eq_false (by omega),.inl (),by rw[decide_eq_true h];rfl,rfl⟩
  ·exact .inl ⟨decide_eq_true (by omega),by rw[decide_eq_false h];rfl⟩)
 rw[h1]
 unfold yV
 rw[show D.er.aM=D.aM.getD []from rfl,←h2]
 cases d<;>rfl
def Ej (r:jq)(us:List br):List ja:=us.map fun x=>(oy r x.k).getD ⟨[],[],0,0,Gh⟩
theorem jia (hL:(r.ar.getD []).length≤SM)(hu:(u.uses.getD []).length≤SM)(hw:∀x∈u.uses.getD [],(zf r.er x.k).isSome=Gg):bz (oY r u yW) (0,G9)=E3 (((u.uses.getD []).length:Int),jm (Ej r.er (u.uses.getD []))):=by
 let gx:br→ja:=fun x=>(oy r.er x.k).getD ⟨[],[],0,0,Gh⟩
 let g:Option (List ja)→br→Option (List ja):=fun c x=>jm (c.getD []++[gx x])
 have:=q78 (step:=yW) (g:=g) (fun i c=>∃a:List ja,c=jm a∧a.length=i) hL hu (fun i x c hx hI=>by
  obtain⟨a,rfl,ha⟩:=hI
  have hi:=(Gi.1 hx).1
  obtain⟨y,hy⟩:=Hx (hw x (Gc hx))
  have hgx:gx x=y:=by simp only[gx,hy,Gd]
  refine⟨⟨a++[y],by simp only[g,hgx,jy],by simp[ha]⟩,y,hy,?_⟩
  unfold yW
  rw[qu6 (by unfold SM at hu;omega)]
  simp only[g,hgx,jy]) G9 ⟨[],rfl,rfl⟩
 rw[this]
 congr 2
 have key:∀(l:List br) (a:List ja),l.foldl g (jm a)=jm (a++l.map gx):=by
  intro l
  induction l with
  |nil=>intro a;simp
  |cons x l ih=>
   intro a
   rw[Ha,show g (jm a) x=jm (a++[gx x]) by simp only[g,jy],ih,Gq,Lu];rfl
 have:=key (u.uses.getD []) []
 rw[Jr]at this
 exact this
theorem q7f (hw:∀x∈u.uses.getD [],(zf r.er x.k).isSome=Gg):Bp r.er u.er=!((Ej r.er (u.uses.getD [])).filter (·.held)).isEmpty:=by
 unfold Bp Ej
 rw[show u.er.uses=u.uses.getD []from rfl]
 revert hw
 generalize u.uses.getD []=us
 intro hw
 induction us with
 |nil=>rfl
 |cons x l ih=>
  obtain⟨y,hy⟩:=Hx (hw x (Li ..))
  rw[Jn,ih (fun x hx=>hw x (La _ hx)),Gq,Nj,hy]
  simp only[Gw,Gd]
  cases y.held<;>rfl
theorem iP {b e}:f48 b e=E3 (if b then e else 0):=by unfold f48;cases b<;>rfl
theorem jq1 {l}(hl:l.length≤SM):HE (jm l)=E3 (jm (l.filter (·.held)),gw (l.filter (·.held))):=by
 unfold HE
 rw[Hr (f:=HF (jm l)) (l:=(jm l).getD []) (p:=fun x:ja=>x.held) (q:=fun x=>Mj x) (by rw[jy];exact hl) (fun x _=>rfl) (fun s=>rfl),jy]
 rfl
def fF:List Int→Int
 | []=>0
 |e::l=>if e=0 then fF l else e
theorem iQ {l}(hl:l.length≤SM):f46 (E3 l)=E3 (fF l):=by
 unfold f46
 have:=Hf l.length (fun i=>(i:Int)) (Bq (E3 l)) (fun d=>match d with | .inl k=>k | .inr _=>(0:Int)) (fun i=>fF (l.drop i)) ⟨.inr (l.length:Int),by unfold Bq;simp only[Gd,yb];rfl,by rw[Gs (Gp _)];rfl⟩ (fun i hi=>by
  obtain⟨x,hx⟩:∃x,l[i]?=E3 x:=⟨_,Gr hi⟩
  unfold Bq
  simp only[Gd,kc hi,cond_true,qa,jc hx,pN hx,fF]
  by_cases h0:x=0
  ·simp only[h0,decide_true,cond_true,if_true]
   rw[ya (by unfold SM at hl;omega)]
   left;constructor<;>first|rfl|trivial
  ·simp only[h0,decide_false,cond_false,if_false]
   exact .inr ⟨_,rfl,rfl⟩)
 obtain⟨d,h1,h2⟩:=this
 rw[show((0:Int))=((0:Nat):Int)from rfl,h1]
 rw[Jy]at h2
 simp only[qa]
 rw[←h2]
 cases d<;>rfl
theorem qu8 {α:Type}{l:List α}:decide (0<(((jm l).getD []).length:Int))=!l.isEmpty:=by
 rw[jy]
 cases l with
 |nil=>rfl
 |cons x l=>simp
theorem qz7 {w r u d v}(hd:gy r u=E3 d)(hv:pS r u=E3 v):oz w r u=if u.aj then 21 else if u.version≠v then 32 else if !yV w r d u then 20 else if !(ox d u).isEmpty then 31 else if Bp r u then 34 else 0:=by
 unfold oz
 rw[hd,hv]
 cases u.aj
 ·by_cases h:u.version=v
  ·simp[h]
  ·simp[h,Ne.symm h]
 ·rfl
theorem jff {v:Int}(hP:(r.ae.getD []).length≤SM)(iX:pS r.er u.er=E3 v)(hL:(r.ar.getD []).length≤SM)(hu:(u.uses.getD []).length≤SM)(hw:∀x∈u.uses.getD [],(zf r.er x.k).isSome=Gg)(hd:pQ r u=E3 D)(hp:gy r.er u.er=E3 D.er)(hn:(D.aM.getD []).length≤SM)(hr:(u.results.getD []).length≤SM)(ht:(D.aH.getD []).length≤SM)(hv:u.version≠-1):f79 r u=E3 (oz (qe .i64) r.er u.er):=by
 obtain⟨w,hm⟩:=jfl hd hr ht hv
 have hll:(Ej r.er (u.uses.getD [])).length≤SM:=by unfold Ej;rw[Gv];exact hu
 unfold f79
 rw[jia hL hu hw]
 simp only[qa,iP,(Mf hP iX).1,jo0 hL hu hw hd hn,hm,jq1 hll,qu8]
 rw[iQ (by simp[SM]),qz7 hp iX,q7f hw]
 congr 1
 show fF _=if u.aj then 21 else if u.version≠v then 32 else _
 cases u.aj<;>by_cases h1:u.version=v<;>cases yV (qe .i64) r.er D.er u.er<;>cases (ox D.er u.er).isEmpty<;>cases ((Ej r.er (u.uses.getD [])).filter (·.held)).isEmpty<;>simp[fF,h1]
theorem jhc (hL:(r.ar.getD []).length≤SM)(hu:(u.uses.getD []).length≤SM)(hw:∀x∈u.uses.getD [],(zf r.er x.k).isSome=Gg):(qa (bz (yX r u) 0) fun d=>match d with | .inl _=>E3 (34:Int) | .inr _=>E3 0)=E3 (if Bp r.er u.er then 34 else 0):=by
 obtain⟨d,h1,h2⟩:=TA (u.uses.getD []) (yX r u) (fun x=>!(oy r.er x.k).any (·.held)) (fun d=>match d with | .inl _=>Gh | .inr _=>Gg) ⟨.inr ((u.uses.getD []).length:Int),by unfold yX;simp only[yb];rfl,rfl⟩ (fun i x hx hi=>by
  obtain⟨y,hy⟩:=Hx (hw x (Gc hx))
  obtain⟨k,h3,h4⟩:=TI hy
  unfold yX
  simp only[kc hi,cond_true,qa,jc hx,Hg hL,h3,eh,jc h4,hy,Gw]
  rw[ya (by unfold SM at hu;omega)]
  cases y.held with
  |true=>exact .inr ⟨rfl,.inl (),rfl,rfl⟩
  |false=>exact .inl ⟨rfl,rfl⟩)
 rw[h1]
 have h3:Bp r.er u.er=!((u.uses.getD []).all fun x=>!(oy r.er x.k).any (·.held)):=by
  unfold Bp
  rw[show u.er.uses=u.uses.getD []from rfl]
  induction u.uses.getD []with
  |nil=>rfl
  |cons x l ih=>rw[Jn,Oa,ih,Bool.not_and,Bool.not_not]
 rw[h3,←h2]
 cases d<;>rfl
theorem q75 {v:Int}(hP:(r.ae.getD []).length≤SM)(iX:pS r.er u.er=E3 v)(hL:(r.ar.getD []).length≤SM)(hu:(u.uses.getD []).length≤SM)(hw:∀x∈u.uses.getD [],(zf r.er x.k).isSome=Gg)(hd:pR r u=E3 D)(hp:gy r.er u.er=E3 D.er)(hn:(D.aM.getD []).length≤SM)(hr:(u.results.getD []).length≤SM)(ht:(D.aH.getD []).length≤SM):f266 r u=E3 (oz (qe .i64) r.er u.er):=by
 rw[qz7 hp iX]
 unfold f266
 cases hs:u.aj with
 |true=>rw[show u.er.aj=Gg from hs];rfl
 |false=>
  have oi:(⟨u.name,u.product,u.version,u.uses,u.results,u.partner,Gh,u.ak⟩:aY)=u:=by cases u;simp only at hs;rw[hs]
  rw[show u.er.aj=Gh from hs,oi]
  obtain⟨w,hm⟩:=q8f (r:=r) (u:=u) hd hr ht
  simp only[cond_false,qa,(Mf hP iX).2,jon hL hu hw hd hn,hm,qu8,Ga,if_false]
  have hh:=jhc hL hu hw
  simp only[qa]at hh
  by_cases h1:u.version=v
  ·rw[decide_eq_true h1,if_neg (show ¬u.er.version≠v from fun h=>h h1)]
   simp only[cond_true]
   cases yV (qe .i64) r.er D.er u.er
   ·rfl
   ·simp only[cond_true,G6,Ga,if_false]
    cases (ox D.er u.er).isEmpty
    ·rfl
    ·simp only[G6,cond_false,Ga,if_false]
     exact hh
  ·rw[decide_eq_false h1,if_pos (show u.er.version≠v from h1)]
   rfl
end Go.Z
namespace Go.Z
open Go Go.Abs Go.W
theorem Ek {α:Type}{o:Option (List α)}{ys}(h:(o.getD []).length+ys.length≤SM)(hy:ys≠[]):bH o ys=E3 (E3 (o.getD []++ys)):=by
 unfold bH El
 rw[if_pos h]
 cases o<;>cases ys<;>first|exact absurd rfl hy|rfl
theorem Br {α:Type}{ys:List α}(h:ys.length≤SM):bH (E3 []) ys=E3 (E3 ys):=by
 unfold bH El
 rw[if_pos (by simpa using h)]
 cases ys<;>rfl
theorem yY {α:Type}{o:Option (List α)}{x}(h:(o.getD []).length<SM):(qa (cond o.isNone (E3 (G9,Gh)) (qa (bH (E3 []) (o.getD [])) fun v=>E3 (v,Gg))) fun v1=>cond v1.2 (qa (bH v1.1 [x]) fun v4=>E3 v4) (cond v1.1.isNone (qa (bH v1.1 [x]) fun v7=>E3 v7) G9))=E3 (E3 (o.getD []++[x])):=by
 cases o with
 |none=>rfl
 |some l=>
  have h':l.length<SM:=h
  simp only[Lk,cond_false,Gd]
  rw[Br (by omega)]
  simp only[qa,cond_true]
  rw[Ek (o:=E3 l) (by simp only[Gd,G8];omega) (by simp)]
  rfl
theorem joz {o:Option (List ja)}{x:ja}(h:(o.getD []).length<SM):Ml o x=E3 (E3 (o.getD []++[x])):=yY h
theorem jq9 {o:Option (List aX)}{x:aX}(h:(o.getD []).length<SM):Mm o x=E3 (E3 (o.getD []++[x])):=yY h
theorem jog {o:Option (List aY)}{x:aY}(h:(o.getD []).length<SM):f225 o x=E3 (E3 (o.getD []++[x])):=yY h
theorem joj {o:Option (List bY)}{x:bY}(h:(o.getD []).length<SM):Mn o x=E3 (E3 (o.getD []++[x])):=yY h
theorem jpm {o:Option (List br)}{x:br}(h:(o.getD []).length<SM):Mp o x=E3 (E3 (o.getD []++[x])):=yY h
theorem jp1 {o:Option (List jf)}{x:jf}(h:(o.getD []).length<SM):f277 o x=E3 (E3 (o.getD []++[x])):=yY h
theorem joi {o:Option (List br)}{x:br}(h:(o.getD []).length<SM):f284 o x=E3 (E3 (o.getD []++[x])):=yY h
theorem jp5 {o:Option (List jf)}{x:jf}(h:(o.getD []).length<SM):Mq o x=E3 (E3 (o.getD []++[x])):=yY h
theorem oA {α:Type}{o:Option (List α)}{i:Nat}{x y:α}{g}(hl:(o.getD []).length≤SM)(hx:(o.getD [])[i]?=E3 x)(hg:g x=E3 y):gj o (i:Int) g=E3 (E3 ((o.getD []).set i y)):=by
 unfold gj
 rw[if_pos ⟨hl,by omega⟩,Int.toNat_natCast,hx]
 simp only[hg]
theorem TJ {α:Type}{o:Option (List α)}{i x}(hl:(o.getD []).length≤SM)(hx:i<(o.getD []).length):Bs o (i:Int) x=E3 (E3 ((o.getD []).set i x)):=by
 unfold Bs
 rw[if_pos ⟨hl,by omega,by omega⟩,Int.toNat_natCast]
theorem TK {α:Type}{o:Option (List α)}{x:α}{p:α→Bool}{g}(hl:(o.getD []).length<SM)(hg:∀y,g y=E3 x):
  ∃v w,(cond (decide (0≤eh ((o.getD []).findIdx? p))) (qa (gj o (eh ((o.getD []).findIdx? p)) g) fun v4=>E3 (v4,Gh)) (qa (E3 (E3 (o.getD []++[x]))) fun v6=>E3 (v6,Gg)))=E3 (v,w)∧v.getD []=kf p x (o.getD []):=by
 unfold kf
 cases h:(o.getD []).findIdx? p with
 |none=>exact⟨_,_,rfl,rfl⟩
 |some k=>
  obtain⟨y,h1,_⟩:=bp h
  rw[show decide (0≤eh (E3 k))=Gg from vK (E3 k)]
  simp only[cond_true,eh]
  rw[oA (Hb hl) h1 (hg y)]
  exact⟨_,_,rfl,rfl⟩
theorem jqh {o:Option (List br)}{x:br}{k}(hl:(o.getD []).length<SM):∃v w,HG o x k=E3 (v,w)∧v.getD []=kf (cX k) x (o.getD []):=by
 unfold HG
 have:HI o k=E3 (eh ((o.getD []).findIdx? (cX k))):=by unfold HI;exact mN (p:=cX k) (Hb hl) fun i=>rfl
 rw[this]
 simp only[qa]
 rw[jpm hl]
 exact TK (p:=cX k) (g:=fun _=>E3 x) hl fun _=>rfl
theorem jn4 {o:Option (List jf)}{x s:jf}(hl:(o.getD []).length<SM):∃v w,HJ o x s=E3 (v,w)∧v.getD []=kf (eG s.k) x (o.getD []):=by
 unfold HJ
 have:yZ o s=E3 (eh ((o.getD []).findIdx? (eG s.k))):=by unfold yZ;exact mN (p:=eG s.k) (Hb hl) fun i=>rfl
 rw[this]
 simp only[qa]
 rw[jp1 hl]
 exact TK (p:=eG s.k) (g:=fun _=>E3 x) hl fun _=>rfl
theorem jql {o:Option (List br)}{x:br}{t}(hl:(o.getD []).length<SM):∃v w,HK o x t=E3 (v,w)∧v.getD []=kf (cX t.name) x (o.getD []):=by
 unfold HK
 have:zA o t=E3 (eh ((o.getD []).findIdx? (cX t.name))):=by unfold zA;exact mN (p:=cX t.name) (Hb hl) fun i=>rfl
 rw[this]
 simp only[qa]
 rw[joi hl]
 exact TK (p:=cX t.name) (g:=fun _=>E3 x) hl fun _=>rfl
theorem jo6 {o t}(hl:(o.getD []).length≤SM):zA o t=E3 (eh ((o.getD []).findIdx? (cX t.name))):=by
 unfold zA;exact mN (p:=cX t.name) hl fun i=>rfl
theorem jq6 {o k}(hl:(o.getD []).length≤SM):HL o k=E3 (jm ((o.getD []).filter fun x=>!cX k x),gw ((o.getD []).filter fun x=>!cX k x)):=by
 unfold HL
 rw[Hr (f:=HM o k) (l:=o.getD []) (p:=fun x=>!cX k x) (q:=fun x=>Mr x k) hl (fun x _=>rfl) (fun s=>rfl)]
 rfl
theorem jhl {o k}(hl:(o.getD []).length≤SM):HN o k=E3 ((o.getD []).any (cX k)):=by
 have:HO o k=E3 (eh ((o.getD []).findIdx? (cX k))):=by unfold HO;exact mN (p:=cX k) hl fun i=>rfl
 unfold HN;rw[this];simp only[qa,vK,ct]
theorem jlx {o t}(hl:(o.getD []).length≤SM):HP o t=E3 ((o.getD []).any (cX t.kind)):=by
 have:HQ o t=E3 (eh ((o.getD []).findIdx? (cX t.kind))):=by unfold HQ;exact mN (p:=cX t.kind) hl fun i=>rfl
 unfold HP;rw[this];simp only[qa,vK,ct]
theorem jip {o s}(hl:(o.getD []).length≤SM):HR o s=E3 ((o.getD []).any (eG s.k)):=by
 have:yZ o s=E3 (eh ((o.getD []).findIdx? (eG s.k))):=by unfold yZ;exact mN (p:=eG s.k) hl fun i=>rfl
 unfold HR;rw[this];simp only[qa,vK,ct]
theorem jk9 {o e n}(hn:qq (e.names.getD []) 1=E3 n)(hl:(o.getD []).length≤SM):HS o e=E3 ((o.getD []).any (eG n)):=by
 have:HT o e=E3 (eh ((o.getD []).findIdx? (eG n))):=by
  unfold HT
  refine mN (p:=eG n) hl fun i=>?_
  unfold HU Ms
  rw[hn]
  rfl
 unfold HS;rw[this];simp only[qa,vK,ct]
theorem TL {α β:Type}{l:List α}{h q f}(hh:∀x,(h x).length≤1)
  (cR:∀o b w,f (o,b,(l.length:Int),w)=E3 (.inr (o,w,b,(l.length:Int))))
  (hf:∀(i:Nat) x (a:List β) b,l[i]?=E3 x→i<l.length→a.length≤i→f (jm a,b,(i:Int),gw a)=E3 (.inl (jm (a++h x),b||q x,((i+1:Nat):Int),gw (a++h x)))):
  bz f (G9,Gh,0,Gh)=E3 (jm (l.flatMap h),gw (l.flatMap h),l.any q,(l.length:Int)):=by
 have key:∀(k i:Nat),i+k=l.length→∀a b,a.length≤i→bz f (jm a,b,(i:Int),gw a)=E3 (jm (a++(l.drop i).flatMap h),gw (a++(l.drop i).flatMap h),b||(l.drop i).any q,(l.length:Int)):=by
  intro k
  induction k with
  |zero=>
   intro i hi a b _
   have:i=l.length:=by omega
   subst this
   rw[Gs (Gp _),List.flatMap_nil,List.append_nil,y7 (cR _ _ _)]
   simp
  |succ k ih=>
   intro i hi a b ha
   obtain⟨x,hx⟩:∃x,l[i]?=E3 x:=⟨_,Gr (by omega)⟩
   rw[nD (hf i x a b hx (by omega) ha),ih (i+1) (by omega) _ _ (by rw[Ln];have:=hh x;omega),pN hx,If,Lu,Jn,Bool.or_assoc]
 have:=key l.length 0 (by omega) [] Gh (Gp _)
 rw[Jy,Jr,Bool.false_or]at this
 exact this
theorem TM {α:Type}{a:List α}{x}(h:a.length<SM):cond (gw a) (qa (bH (jm a) [x]) fun v=>E3 (v,Gg)) (cond (jm a).isNone (qa (bH (jm a) [x]) fun v=>E3 (v,Gg)) G9)=E3 (jm (a++[x]),Gg):=yQ (k:=fun v=>E3 (v,Gg)) h
theorem ym {α β:Type}{h:α→List β}(hh:∀x,(h x).length≤1):∀l:List α,(l.flatMap h).length≤l.length
 | []=>Gp _
 |x::l=>by rw[If,Ln,Gz];have:=hh x;have:=ym hh l;omega
theorem jp7 {o x}(hl:(o.getD []).length<SM)(hk:zu (·.k) (o.getD []))(h0:0≤x.n):∃v w,HW o x=E3 (v,w)∧v.getD []=ku (o.getD []) x.k x.n:=by
 let h:br→List br:=fun y=>if cX x.k y then(if 0<x.n then [x]else [])else [y]
 have hh:∀y,(h y).length≤1:=by intro y;simp only[h];split<;>(try split)<;>simp
 have L:=TL (l:=o.getD []) (h:=h) (q:=cX x.k) (f:=Bt o x) hh (fun o b w=>by unfold Bt;simp only[yb];rfl) (fun i y a b hy hi ha=>by
  unfold Bt
  simp only[kc hi,cond_true,qa,jc hy]
  rw[ya (by unfold SM at hl;omega)]
  simp only[h,cX]
  by_cases h1:y.k=x.k
  ·by_cases h2:0<x.n
   ·simp only[h1,h2,decide_true,cond_true,if_true,Lp]
    rw[Bk]
    exact yQ (x:=x) (k:=fun v=>E3 (Iy (v,Gg,((i+1:Nat):Int),Gg))) (by unfold SM at hl;omega)
   ·simp[h1,h2]
  ·simp only[h1,decide_false,cond_false,Ga,if_false,Lf]
   rw[Bk]
   exact yQ (x:=y) (k:=fun v=>E3 (Iy (v,b,((i+1:Nat):Int),Gg))) (by unfold SM at hl;omega))
 unfold HW
 rw[L]
 simp only[qa]
 have hlen:((o.getD []).flatMap h).length<SM:=Hd (ym hh _) hl
 by_cases hn:x.n=0
 ·have hp:decide (0<x.n)=Gh:=by rw[hn];rfl
  have hf:(o.getD []).flatMap h=(o.getD []).filter fun y=>!cX x.k y:=by
   rw[show h=fun y=>if(!cX x.k y)then [id y]else [] by funext y;simp only[h,hn];cases cX x.k y<;>rfl,TH,List.map_id]
  unfold ku
  rw[if_pos hn,hp,←hf]
  cases (o.getD []).any (cX x.k)<;>exact⟨_,_,rfl,jy _⟩
 ·have hp:decide (0<x.n)=Gg:=decide_eq_true (by omega)
  have hf:(o.getD []).flatMap h=(o.getD []).map fun y=>if cX x.k y then x else y:=by
   rw[←L8]
   congr 1
   funext y
   have:0<x.n:=by omega
   simp only[h,this,if_true]
   cases cX x.k y<;>rfl
  have vf:=qz0 (key:=fun y:br=>y.k) (k:=x.k) (x:=x) hk
  unfold ku
  rw[if_neg hn,hp,show(⟨x.k,x.n⟩:br)=x from rfl,show kf (cX x.k) x (o.getD [])=Em (cX x.k) x (o.getD [])from vf.symm]
  unfold Em
  rw[←hf]
  cases ha:(o.getD []).any (cX x.k)with
  |true=>exact⟨_,_,rfl,by rw[jy];simp⟩
  |false=>
   simp only[cond_false,cond_true,Ga,if_false]
   have:=TM (x:=x) hlen
   simp only[qa]at this
   rw[this]
   exact⟨_,_,rfl,jy _⟩
theorem jqy {o x}(hl:(o.getD []).length<SM)(hk:zu (·.k) (o.getD [])):∃v w,f260 o x=E3 (v,w)∧v.getD []=kf (eG x.k) x (o.getD []):=by
 let h:jf→List jf:=fun y=>if eG x.k y then [x]else [y]
 have hh:∀y,(h y).length≤1:=by intro y;simp only[h];split<;>simp
 have L:=TL (l:=o.getD []) (h:=h) (q:=eG x.k) (f:=Bu o x) hh (fun o b w=>by unfold Bu;simp only[yb];rfl) (fun i y a b hy hi ha=>by
  unfold Bu
  simp only[kc hi,cond_true,qa,jc hy]
  rw[ya (by unfold SM at hl;omega)]
  simp only[h,eG]
  by_cases h1:y.k=x.k
  ·simp only[h1,decide_true,cond_true,if_true,Lp]
   rw[Bk]
   exact yQ (x:=x) (k:=fun v=>E3 (Iy (v,Gg,((i+1:Nat):Int),Gg))) (by unfold SM at hl;omega)
  ·simp only[h1,decide_false,cond_false,Ga,if_false,Lf]
   rw[Bk]
   exact yQ (x:=y) (k:=fun v=>E3 (Iy (v,b,((i+1:Nat):Int),Gg))) (by unfold SM at hl;omega))
 unfold f260
 rw[L]
 simp only[qa]
 have hlen:((o.getD []).flatMap h).length<SM:=Hd (ym hh _) hl
 have hf:(o.getD []).flatMap h=(o.getD []).map fun y=>if eG x.k y then x else y:=by
  rw[←L8]
  congr 1
  funext y
  simp only[h]
  cases eG x.k y<;>rfl
 have vf:=qz0 (key:=fun y:jf=>y.k) (k:=x.k) (x:=x) hk
 rw[show kf (eG x.k) x (o.getD [])=Em (eG x.k) x (o.getD [])from vf.symm]
 unfold Em
 rw[←hf]
 cases ha:(o.getD []).any (eG x.k)with
 |true=>exact⟨_,_,rfl,by rw[jy];simp⟩
 |false=>
  simp only[cond_false,Ga,if_false]
  have:=TM (x:=x) hlen
  simp only[qa]at this
  rw[this]
  exact⟨_,_,rfl,jy _⟩
theorem qz8 {α:Type}{f}:∀ {l:List α},(∀x∈l,f x=x)→l.map f=l
 | [],_=>rfl
 |x::l,h=>by rw[Gq,h x (Li ..),qz8 fun y hy=>h y (La _ hy)]
theorem q8l {k:List UInt8}{F:br→br}:∀ {l:List br},zu (·.k) l→(l.map fun y=>if cX k y then F y else y)=(match l.findIdx? (cX k)with
  |some i=>(match l[i]? with
   |some x=>l.set i (F x)
   |none=>l)
  |none=>l)
 | [],_=>rfl
 |y::l,h=>by
  have h':zu (·.k) l:=(Nz.1 h).2
  have hn:¬y.k∈l.map (·.k):=(Nz.1 h).1
  rw[Gq,Lg]
  cases hy:cX k y with
  |true=>
   have hk:y.k=k:=of_decide_eq_true hy
   simp only[if_true]
   rw[qz8 fun x hx=>by
    have:cX k x=Gh:=decide_eq_false fun hxk=>hn (by rw[hk,←hxk];exact Hc hx)
    rw[this];rfl]
   rfl
  |false=>
   simp only[Ga,if_false]
   rw[q8l h']
   cases hi:l.findIdx? (cX k)with
   |none=>rfl
   |some i=>
    obtain⟨x,h1,_⟩:=bp hi
    simp[h1]
theorem jn5 {o k n}(hl:(o.getD []).length<SM)(hk:zu (·.k) (o.getD [])):∃v w,HX o k n=E3 (v,w)∧v.getD []=jN (qe .i64) (o.getD []) k n:=by
 let h:br→List br:=fun y=>if cX k y then [⟨y.k,qe .i64 (y.n+n)⟩]else [y]
 have hh:∀y,(h y).length≤1:=by intro y;simp only[h];split<;>simp
 have L:=TL (l:=o.getD []) (h:=h) (q:=cX k) (f:=Bv o k n) hh (fun o b w=>by unfold Bv;simp only[yb];rfl) (fun i y a b hy hi ha=>by
  unfold Bv
  simp only[kc hi,cond_true,qa,jc hy]
  rw[ya (by unfold SM at hl;omega)]
  simp only[h,cX]
  by_cases h1:y.k=k
  ·simp only[h1,decide_true,cond_true,if_true,Lp]
   rw[Bk]
   exact yQ (x:=(⟨k,qe .i64 (y.n+n)⟩:br)) (k:=fun v=>E3 (Iy (v,Gg,((i+1:Nat):Int),Gg))) (by unfold SM at hl;omega)
  ·simp only[h1,decide_false,cond_false,Ga,if_false,Lf]
   rw[Bk]
   exact yQ (x:=y) (k:=fun v=>E3 (Iy (v,b,((i+1:Nat):Int),Gg))) (by unfold SM at hl;omega))
 unfold HX
 rw[L]
 simp only[qa]
 have hlen:((o.getD []).flatMap h).length<SM:=Hd (ym hh _) hl
 have hf:(o.getD []).flatMap h=(o.getD []).map fun y=>if cX k y then(⟨k,qe .i64 (n+y.n)⟩:br)else y:=by
  rw[←L8]
  congr 1
  funext y
  simp only[h]
  cases hy:cX k y with
  |false=>rfl
  |true=>rw[show y.k=k from of_decide_eq_true hy,Int.add_comm];rfl
 rw[q8l hk]at hf
 unfold jN
 cases hi:(o.getD []).findIdx? (cX k)with
 |some i=>
  obtain⟨x,h1,_⟩:=bp hi
  have ha:(o.getD []).any (cX k)=Gg:=by rw[Bn,hi];rfl
  rw[hi]at hf
  simp only[h1]at hf ⊢
  rw[ha,hf]
  exact⟨_,_,rfl,jy _⟩
 |none=>
  have ha:(o.getD []).any (cX k)=Gh:=by rw[Bn,hi];rfl
  rw[hi]at hf
  simp only at hf ⊢
  rw[ha]
  have:=TM (x:=(⟨k,n⟩:br)) hlen
  simp only[qa]at this
  simp only[cond_false]
  rw[this,hf]
  exact⟨_,_,rfl,jy _⟩
end Go.Z
namespace Go.Z
open Go Go.Abs Go.W
abbrev BB:Nat:=1000000
structure GB (r:au):Prop where
 L:(r.ar.getD []).length≤BB
 P:(r.ae.getD []).length≤BB
 U:(r.units.getD []).length≤BB
 D:∀p∈r.ae.getD [],(p.aW.getD []).length≤BB∧(p.dn.getD []).length≤BB∧(p.dt.getD []).length≤BB∧∀d∈p.aW.getD [],(d.aM.getD []).length≤BB∧(d.aH.getD []).length≤BB
 N:∀u∈r.units.getD [],(u.uses.getD []).length≤BB∧(u.results.getD []).length≤BB
theorem je {n}(h:n≤BB):n≤SM:=by unfold BB at h;unfold SM;omega
theorem mO {n}(h:n≤BB):n<SM:=by unfold BB at h;unfold SM;omega
def nK (x:Option (Int×au))(y:pT):Prop:=∃c r',x=E3 (c,r')∧match y with
 | .error k=>c=k∧k≠0
 | .ok s=>c=0∧r'.er=s
variable {r:au}{e:GEv}
theorem Mt {a lo hi}:f60 a lo hi=E3 (if a<lo∨hi<a then 3 else 0):=by
 unfold f60
 by_cases h1:a<lo
 ·simp[h1,iP,qa]
 ·by_cases h2:hi<a<;>simp[h1,h2,iP,qa]
theorem y6 {k}:eh (E3 k)=(k:Int):=rfl
theorem wR {o}:decide (0≤eh o)=o.isSome:=vK o
theorem HY {n k}(h:zf r.er n=E3 k):∃x,(r.ar.getD [])[k]?=E3 x∧x.name=n:=by
 obtain⟨x,h1,h2,_⟩:=bp h
 exact⟨x,h1,of_decide_eq_true h2⟩
theorem Eo {n k}(h:zz r.er n=E3 k):∃p,(r.ae.getD [])[k]?=E3 p∧p.name=n∧r.er.ae[k]?=E3 p.er:=by
 rw[Mc]at h
 obtain⟨x,h1,h2,_⟩:=bp h
 exact⟨x,h1,of_decide_eq_true h2,by rw[yU,Gx,h1];rfl⟩
theorem oZ {n k}(h:js r.er n=E3 k):∃u,(r.units.getD [])[k]?=E3 u∧u.name=n∧r.er.units[k]?=E3 u.er:=by
 rw[TE]at h
 obtain⟨x,h1,h2,_⟩:=bp h
 exact⟨x,h1,of_decide_eq_true h2,by rw[rU,Gx,h1];rfl⟩
theorem hH {α:Type}{l:List α}{a t}(h:l=a::t):qq l 0=E3 a:=by subst h;rfl
theorem gN {α:Type}{l:List α}{a b t}(h:l=a::b::t):qq l 1=E3 b:=by subst h;rfl
theorem jt5 {α:Type}{l:List α}{a b c t}(h:l=a::b::c::t):qq l 2=E3 c:=by subst h;rfl
theorem eW {a t}(h:e.names.getD []=a::t):nm e.er 0=a:=by unfold nm;rw[show e.er.names=e.names.getD []from rfl,h];rfl
theorem lY {a b t}(h:e.names.getD []=a::b::t):nm e.er 1=b:=by unfold nm;rw[show e.er.names=e.names.getD []from rfl,h];rfl
theorem vl0 {a t}(h:e.values.getD []=a::t):vl e.er 0=a:=by unfold vl;rw[show e.er.values=e.values.getD []from rfl,h];rfl
theorem vL {a b t}(h:e.values.getD []=a::b::t):vl e.er 1=b:=by unfold vl;rw[show e.er.values=e.values.getD []from rfl,h];rfl
theorem vl2 {a b c t}(h:e.values.getD []=a::b::c::t):vl e.er 2=c:=by unfold vl;rw[show e.er.values=e.values.getD []from rfl,h];rfl
theorem wS:r.er.ar=r.ar.getD []:=rfl
theorem au.eta (r:au):(⟨r.day,r.ar,r.ae,r.units⟩:au)=r:=rfl
theorem a105 (b:GB r){n0 n1:List UInt8}{v0 v1:Int}(hk:e.kind=mI)(hn:e.names.getD []=[n0,n1])(hv:e.values.getD []=[v0,v1]):
  nK (fq 168 r e) (apply (qe .i64) r.er e.er):=by
 have hR:apply (qe .i64) r.er e.er=mP r.er e.er:=by unfold apply;rw[if_pos (.inl hk)]
 rw[hR]
 unfold mP
 rw[if_pos (show e.er.kind=mI from hk),eW hn,lY hn,vL hv,wS]
 have hA:fq 168 r e=qa (HZ e r.day r.ar r.ae r.units) fun v=>E3 (v.1,{ r with ar:=v.2.1 }):=rfl
 rw[hA]
 unfold HZ
 simp only[au.eta,hH hn,gN hn,gN hv,qa,Bg (je b.L),iP,Mt,wR]
 rw[iQ (by simp[SM])]
 simp only[joz (mO b.L)]
 cases (zf r.er n0).isSome with
 |true=>exact⟨_,_,rfl,rfl,by decide⟩
 |false=>
  by_cases h1:v1<1∨10000<v1
  ·simp only[Ga,if_false,h1,if_true,fF]
   exact⟨_,_,rfl,rfl,by decide⟩
  ·by_cases h2:64≤(r.ar.getD []).length
   ·have oQ:decide (64≤((r.ar.getD []).length:Int))=Gg:=decide_eq_true (by omega)
    simp only[Ga,if_false,h1,h2,oQ,if_true,fF]
    exact⟨_,_,rfl,rfl,by decide⟩
   ·have oQ:decide (64≤((r.ar.getD []).length:Int))=Gh:=decide_eq_false (by omega)
    simp only[Ga,if_false,h1,h2,oQ,if_true,fF]
    exact⟨_,_,rfl,rfl,rfl⟩
theorem qxb {o p}(h:o=E3 (r.ae.getD []++[p])):({ r with ae:=o }:au).er={ r.er with ae:=r.er.ae++[p.er] }:=by
 subst h
 simp only[au.er,Gd,Js,Gq,Jp]
theorem qxq {o p}(h:o=E3 (r.units.getD []++[p])):({ r with units:=o }:au).er={ r.er with units:=r.er.units++[p.er] }:=by
 subst h
 simp only[au.er,Gd,Js,Gq,Jp]
theorem Ep {o p k}(h:o=E3 ((r.ae.getD []).set k p)):({ r with ae:=o }:au).er=bN r.er k p.er:=by
 subst h
 simp only[au.er,bN,Gd,Jq]
theorem zB {o p k}(h:o=E3 ((r.units.getD []).set k p)):({ r with units:=o }:au).er=ax r.er k p.er:=by
 subst h
 simp only[au.er,ax,Gd,Jq]
theorem Mu {o p k}(h:o=E3 ((r.ar.getD []).set k p)):({ r with ar:=o }:au).er=cg r.er k p:=by
 subst h
 simp only[au.er,cg,Gd]
theorem zc2 (b:GB r){n0:List UInt8}{v0:Int}(hk:e.kind=nE)(hn:e.names.getD []=[n0])(hv:e.values.getD []=[v0]):
  nK (fq 169 r e) (apply (qe .i64) r.er e.er):=by
 have hR:apply (qe .i64) r.er e.er=mP r.er e.er:=by unfold apply;rw[if_pos (.inr (.inl hk))]
 rw[hR]
 unfold mP
 rw[if_neg (show ¬e.er.kind=mI from fun h=>by rw[show e.er.kind=e.kind from rfl,hk]at h;exact absurd h (by decide)),if_pos (show e.er.kind=nE from hk),eW hn]
 have hA:fq 169 r e=qa (f169 e r.day r.ar r.ae r.units) fun v=>E3 (v.1,{ r with ae:=v.2.1 }):=rfl
 rw[hA]
 unfold f169
 simp only[au.eta,hH hn,qa,vJ (je b.P),iP,wR]
 rw[iQ (by simp[SM])]
 simp only[jq9 (mO b.P)]
 have hl:r.er.ae.length=(r.ae.getD []).length:=by rw[yU,Gv]
 rw[hl]
 cases (zz r.er n0).isSome with
 |true=>exact⟨_,_,rfl,rfl,by decide⟩
 |false=>
  by_cases h2:16≤(r.ae.getD []).length
  ·have oQ:decide (16≤((r.ae.getD []).length:Int))=Gg:=decide_eq_true (by omega)
   simp only[Ga,if_false,h2,oQ,if_true,fF]
   exact⟨_,_,rfl,rfl,by decide⟩
  ·have oQ:decide (16≤((r.ae.getD []).length:Int))=Gh:=decide_eq_false (by omega)
   simp only[Ga,if_false,h2,oQ,if_true,fF]
   exact⟨_,_,rfl,rfl,qxb rfl⟩
theorem zja (b:GB r){n0 n1:List UInt8}{v0:Int}{k}(hk:e.kind=mK)(hn:e.names.getD []=[n0,n1])(hv:e.values.getD []=[v0])(hp:zz r.er n1=E3 k):
  nK (fq 173 r e) (apply (qe .i64) r.er e.er):=by
 have hR:apply (qe .i64) r.er e.er=mP r.er e.er:=by unfold apply;rw[if_pos (.inr (.inr hk))]
 rw[hR]
 obtain⟨p,h1,_,h3⟩:=Eo hp
 have hpo:k9 r.er n1=E3 p.er:=by unfold k9;rw[hp];exact h3
 unfold mP
 rw[if_neg (show ¬e.er.kind=mI from fun h=>by rw[show e.er.kind=e.kind from rfl,hk]at h;exact absurd h (by decide)),if_neg (show ¬e.er.kind=nE from fun h=>by rw[show e.er.kind=e.kind from rfl,hk]at h;exact absurd h (by decide)),eW hn,lY hn,hpo]
 have hA:fq 173 r e=qa (H0 e r.day r.ar r.ae r.units) fun v=>E3 (v.1,{ r with units:=v.2.1 }):=rfl
 rw[hA]
 unfold H0 Eg
 simp only[au.eta,hH hn,gN hn,qa,vJ (je b.P),rV (je b.U),iP,wR,hp,y6,jc h1]
 rw[iQ (by simp[SM])]
 simp only[jog (mO b.U)]
 have hl:r.er.units.length=(r.units.getD []).length:=by rw[rU,Gv]
 have hd:p.er.aW.isEmpty=decide (((p.aW.getD []).length:Int)=0):=by
  show((p.aW.getD []).map bY.er).isEmpty=_
  cases p.aW.getD []with
  |nil=>rfl
  |cons x l=>simp;omega
 have oX:p.er.aW.length=(p.aW.getD []).length:=by show((p.aW.getD []).map bY.er).length=_;rw[Gv]
 simp only[hl,hd,oX]
 cases (js r.er n0).isSome with
 |true=>exact⟨_,_,rfl,rfl,by decide⟩
 |false=>
  cases hz:decide (((p.aW.getD []).length:Int)=0)with
  |true=>exact⟨_,_,rfl,rfl,by decide⟩
  |false=>
   by_cases h2:256≤(r.units.getD []).length
   ·have oQ:decide (256≤((r.units.getD []).length:Int))=Gg:=decide_eq_true (by omega)
    simp only[Ga,if_false,h2,oQ,if_true,fF]
    exact⟨_,_,rfl,rfl,by decide⟩
   ·have oQ:decide (256≤((r.units.getD []).length:Int))=Gh:=decide_eq_false (by omega)
    simp only[Ga,if_false,h2,oQ,if_true,fF]
    exact⟨_,_,rfl,rfl,qxq rfl⟩
theorem jqf {p c n}(hl:(p.dn.getD []).length<SM):∃v,H2 c n n p=E3 { p with dn:=v }∧v.getD []=ku (p.dn.getD []) n c:=by
 unfold H2 ku
 by_cases h:c=0
 ·simp only[h,decide_true,cond_true,if_true,jq6 (Hb hl),qa]
  exact⟨_,rfl,jy _⟩
 ·obtain⟨v,w,h1,h2⟩:=jqh (x:=⟨n,c⟩) (k:=n) hl
  simp only[h,decide_false,cond_false,if_false,h1,qa]
  exact⟨_,rfl,h2⟩
theorem jll (b:GB r){n0 n1 c k p}(hp:zz r.er n0=E3 k)(hx:(r.ae.getD [])[k]?=E3 p):∃v,Bw n0 c n1 n1 r.day r.ar r.ae r.units=E3 (E3 ((r.ae.getD []).set k { p with dn:=v }))∧v.getD []=ku (p.dn.getD []) n1 c:=by
 obtain⟨v,h1,h2⟩:=jqf (c:=c) (n:=n1) (mO (b.D p (Gc hx)).2.1)
 refine⟨v,?_,h2⟩
 unfold Bw TN
 simp only[au.eta,vJ (je b.P),hp,y6,qa]
 rw[oA (je b.P) hx h1]
theorem jjr (b:GB r){n0 t k p}(hp:zz r.er n0=E3 k)(hx:(r.ae.getD [])[k]?=E3 p):∃v,Er n0 t t r.day r.ar r.ae r.units=E3 (E3 ((r.ae.getD []).set k { p with dt:=v }))∧v.getD []=kf (eG t.k) t (p.dt.getD []):=by
 obtain⟨v,w,h1,h2⟩:=jn4 (x:=t) (s:=t) (o:=p.dt) (mO (b.D p (Gc hx)).2.2.1)
 refine⟨v,?_,h2⟩
 unfold Er TP
 simp only[au.eta,vJ (je b.P),hp,y6,qa]
 rw[oA (je b.P) hx (show H3 t t p=E3 { p with dt:=v } by unfold H3;rw[h1];rfl)]
theorem Mv {n0:List UInt8}{k:Nat}{p:aX}(hn:nm e.er 0=n0)(hp:zz r.er n0=E3 k)(h3:r.er.ae[k]?=E3 p.er):kw r.er e.er =
   if e.kind=mJ then
    (if vl e.er 1<0∨10000<vl e.er 1 then .error 3 else if 0<vl e.er 1∧!((p.dn.getD []).any (cX (nm e.er 1)))∧16≤(p.dn.getD []).length then .error 5 else
     .ok (bN r.er k { p.er with bU:={ p.er.bU with aM:=ku (p.dn.getD []) (nm e.er 1) (vl e.er 1) } }))
   else if e.kind=nF then
    (if vl e.er 2<vl e.er 1 then .error 11 else if !((p.dt.getD []).any (eG (nm e.er 1)))∧16≤(p.dt.getD []).length then .error 5 else
     .ok (bN r.er k { p.er with bU:={ p.er.bU with aH:=kf (eG (nm e.er 1)) ⟨nm e.er 1,vl e.er 1,vl e.er 2⟩ (p.dt.getD []) } }))
   else(if(p.dn.getD []).isEmpty then .error 12 else if 100≤p.er.aW.length then .error 5 else .ok (bN r.er k { p.er with aW:=p.er.aW++[p.er.bU] })):=by
 unfold kw
 rw[hn,hp]
 simp only[h3]
 rfl
theorem zbp (b:GB r){n0 n1:List UInt8}{v0 v1:Int}{k:Nat}(hk:e.kind=mJ)(hn:e.names.getD []=[n0,n1])(hv:e.values.getD []=[v0,v1])(hp:zz r.er n0=E3 k):
  nK (fq 170 r e) (apply (qe .i64) r.er e.er):=by
 have hR:apply (qe .i64) r.er e.er=kw r.er e.er:=by
  unfold apply
  rw[show e.er.kind=mJ from hk,if_neg (by decide),if_pos (.inl rfl)]
 obtain⟨p,h1,_,h3⟩:=Eo hp
 rw[hR,Mv (eW hn) hp h3,if_pos hk,lY hn,vL hv]
 have hA:fq 170 r e=qa (f170 e r.day r.ar r.ae r.units) fun v=>E3 (v.1,{ r with ae:=v.2 }):=rfl
 rw[hA]
 obtain⟨v,g1,g2⟩:=jll b (n1:=n1) (c:=v1) hp h1
 have Aw:=(b.D p (Gc h1)).2.1
 have dE:({ r with ae:=E3 ((r.ae.getD []).set k { p with dn:=v }) }:au).er=bN r.er k { p.er with bU:={ p.er.bU with aM:=ku (p.dn.getD []) n1 v1 } }:=by
  rw[Ep rfl]
  congr 1
  simp only[aX.er,g2]
 unfold f170
 simp only[au.eta,hH hn,gN hn,gN hv,qa,vJ (je b.P),hp,y6,jc h1,Mt,iP,jhl (je Aw),g1]
 by_cases hz:v1<0∨10000<v1
 ·simp only[hz,if_true,if_false,Ga]
  cases decide (0<v1)<;>cases (p.dn.getD []).any (cX n1)<;>(simp only[cond_true,cond_false];rw[iQ (by simp[SM])];exact⟨_,_,rfl,rfl,by decide⟩)
 ·simp only[hz,if_false,if_true,Ga]
  by_cases h0:0<v1
  ·rw[decide_eq_true h0]
   cases ha:(p.dn.getD []).any (cX n1)with
   |true=>
    simp only[cond_true,G6,Ga,false_and,and_false,if_false]
    rw[iQ (by simp[SM])]
    exact⟨_,_,rfl,rfl,dE⟩
   |false=>
    simp only[cond_true,cond_false,J9,true_and,h0]
    rw[iQ (by simp[SM])]
    by_cases h2:16≤(p.dn.getD []).length
    ·rw[show decide (16≤((p.dn.getD []).length:Int))=Gg from decide_eq_true (by omega),if_pos h2]
     exact⟨_,_,rfl,rfl,by decide⟩
    ·rw[show decide (16≤((p.dn.getD []).length:Int))=Gh from decide_eq_false (by omega),if_neg h2]
     exact⟨_,_,rfl,rfl,dE⟩
  ·rw[decide_eq_false h0,if_neg (show ¬(0<v1∧(!(p.dn.getD []).any (cX n1))=Gg∧16≤(p.dn.getD []).length)from fun h=>h0 h.1)]
   simp only[cond_false]
   rw[iQ (by simp[SM])]
   exact⟨_,_,rfl,rfl,dE⟩
theorem zif (b:GB r){n0 n1:List UInt8}{v0 v1 v2:Int}{k:Nat}(hk:e.kind=nF)(hn:e.names.getD []=[n0,n1])(hv:e.values.getD []=[v0,v1,v2])(hp:zz r.er n0=E3 k):
  nK (fq 171 r e) (apply (qe .i64) r.er e.er):=by
 have hR:apply (qe .i64) r.er e.er=kw r.er e.er:=by
  unfold apply
  rw[show e.er.kind=nF from hk,if_neg (by decide),if_pos (.inr (.inl rfl))]
 obtain⟨p,h1,_,h3⟩:=Eo hp
 rw[hR,Mv (eW hn) hp h3,if_neg (by rw[hk];decide),if_pos hk,lY hn,vL hv,vl2 hv]
 have hA:fq 171 r e=qa (f171 e r.day r.ar r.ae r.units) fun v=>E3 (v.1,{ r with ae:=v.2 }):=rfl
 rw[hA]
 obtain⟨v,g1,g2⟩:=jjr b (t:=⟨n1,v1,v2⟩) hp h1
 have Aw:=(b.D p (Gc h1)).2.2.1
 have dE:({ r with ae:=E3 ((r.ae.getD []).set k { p with dt:=v }) }:au).er=bN r.er k { p.er with bU:={ p.er.bU with aH:=kf (eG n1) ⟨n1,v1,v2⟩ (p.dt.getD []) } }:=by
  rw[Ep rfl]
  congr 1
  simp only[aX.er,g2]
 unfold f171
 simp only[au.eta,hH hn,gN hn,gN hv,jt5 hv,qa,vJ (je b.P),hp,y6,jc h1,iP,jip (je Aw),g1]
 by_cases hz:v2<v1
 ·rw[decide_eq_true hz,if_pos hz]
  cases (p.dt.getD []).any (eG n1)<;>(simp only[cond_true,cond_false];rw[iQ (by simp[SM])];exact⟨_,_,rfl,rfl,by decide⟩)
 ·rw[decide_eq_false hz,if_neg hz]
  cases ha:(p.dt.getD []).any (eG n1)with
  |true=>
   simp only[cond_true,G6,Ga,false_and,if_false]
   rw[iQ (by simp[SM])]
   exact⟨_,_,rfl,rfl,dE⟩
  |false=>
   simp only[cond_false,J9,true_and]
   rw[iQ (by simp[SM])]
   by_cases h2:16≤(p.dt.getD []).length
   ·rw[show decide (16≤((p.dt.getD []).length:Int))=Gg from decide_eq_true (by omega),if_pos h2]
    exact⟨_,_,rfl,rfl,by decide⟩
   ·rw[show decide (16≤((p.dt.getD []).length:Int))=Gh from decide_eq_false (by omega),if_neg h2]
    exact⟨_,_,rfl,rfl,dE⟩
theorem q5d {α:Type}{o:Option (List α)}(h:(o.getD []).length≤SM):∃v w,(cond o.isNone (E3 (G9,Gh)) (qa (bH (E3 []) (o.getD [])) fun v=>E3 (v,Gg)))=E3 (v,w)∧v.getD []=o.getD []:=by
 cases o with
 |none=>exact⟨G9,Gh,rfl,rfl⟩
 |some l=>
  have h':l.length≤SM:=h
  simp only[Lk,cond_false,Gd]
  rw[Br h']
  exact⟨_,_,rfl,rfl⟩
theorem jqr {d:bY}(h1:(d.aM.getD []).length≤SM)(h2:(d.aH.getD []).length≤SM):∃d',f224 d=E3 d'∧d'.er=d.er:=by
 obtain⟨v,w,g1,g2⟩:=q5d h1
 obtain⟨v',w',g3,g4⟩:=q5d h2
 unfold f224
 rw[show H4 d.aM=E3 (v,w)from g1,show H5 d.aH=E3 (v',w')from g3]
 exact⟨⟨v,v'⟩,rfl,by simp only[bY.er,g2,g4]⟩
theorem a109 (b:GB r){n0:List UInt8}{v0:Int}{k:Nat}(hk:e.kind=pO)(hn:e.names.getD []=[n0])(hv:e.values.getD []=[v0])(hp:zz r.er n0=E3 k):
  nK (fq 172 r e) (apply (qe .i64) r.er e.er):=by
 have hR:apply (qe .i64) r.er e.er=kw r.er e.er:=by
  unfold apply
  rw[show e.er.kind=pO from hk,if_neg (by decide),if_pos (.inr (.inr rfl))]
 obtain⟨p,h1,_,h3⟩:=Eo hp
 rw[hR,Mv (eW hn) hp h3,if_neg (by rw[hk];decide),if_neg (by rw[hk];decide)]
 have hA:fq 172 r e=qa (H6 e r.day r.ar r.ae r.units) fun v=>E3 (v.1,{ r with ae:=v.2 }):=rfl
 rw[hA]
 have hD:=b.D p (Gc h1)
 obtain⟨d',g1,g2⟩:=jqr (d:=⟨p.dn,p.dt⟩) (je hD.2.1) (je hD.2.2.1)
 have g3:Mw r.ae (k:Int)=E3 (E3 ((r.ae.getD []).set k { p with aW:=E3 (p.aW.getD []++[d']) })):=by
  unfold Mw
  exact oA (je b.P) h1 (by unfold Mx;rw[g1];simp only[qa];rw[joj (mO hD.1)])
 have dE:({ r with ae:=E3 ((r.ae.getD []).set k { p with aW:=E3 (p.aW.getD []++[d']) }) }:au).er=bN r.er k { p.er with aW:=p.er.aW++[p.er.bU] }:=by
  rw[Ep rfl]
  congr 1
  simp only[aX.er,Gd,Js,Gq,Jp,g2]
  rfl
 have oX:p.er.aW.length=(p.aW.getD []).length:=by show((p.aW.getD []).map bY.er).length=_;rw[Gv]
 have hd:(p.dn.getD []).isEmpty=decide (((p.dn.getD []).length:Int)=0):=by
  cases p.dn.getD []with
  |nil=>rfl
  |cons x l=>simp;omega
 unfold H6
 simp only[au.eta,hH hn,qa,vJ (je b.P),hp,y6,jc h1,iP,g3,hd,oX]
 rw[iQ (by simp[SM])]
 cases decide (((p.dn.getD []).length:Int)=0)with
 |true=>exact⟨_,_,rfl,rfl,by decide⟩
 |false=>
  by_cases h2:100≤(p.aW.getD []).length
  ·rw[show decide (100≤((p.aW.getD []).length:Int))=Gg from decide_eq_true (by omega),if_pos h2]
   exact⟨_,_,rfl,rfl,by decide⟩
  ·rw[show decide (100≤((p.aW.getD []).length:Int))=Gh from decide_eq_false (by omega),if_neg h2]
   exact⟨_,_,rfl,rfl,dE⟩
end Go.Z
namespace Go.Z
open Go Go.Abs Go.W
variable {r:au}{e:GEv}
theorem kC {k}(hk:e.kind=k)(h:¬(k=mI∨k=nE∨k=mK))(h2:¬(k=mJ∨k=nF∨k=pO)):apply (qe .i64) r.er e.er=if k=ou∨k=rT then pU r.er e.er else mQ (qe .i64) r.er e.er:=by
 unfold apply
 rw[show e.er.kind=k from hk,if_neg h,if_neg h2]
theorem zf4 (b:GB r){n0 v0 k}(hk:e.kind=ou)(hn:e.names.getD []=[n0])(hv:e.values.getD []=[v0])(hp:zf r.er n0=E3 k):
  nK (fq 178 r e) (apply (qe .i64) r.er e.er):=by
 rw[kC hk (by decide) (by decide),if_pos (.inl rfl)]
 obtain⟨x,h1,_⟩:=HY hp
 have hA:fq 178 r e=qa (H7 e r.day r.ar r.ae r.units) fun v=>E3 (v.1,{ r with ar:=v.2 }):=rfl
 rw[hA]
 have g1:TQ r.ar (k:Int)=E3 (E3 ((r.ar.getD []).set k { x with held:=Gg })):=oA (je b.L) h1 rfl
 unfold pU
 rw[eW hn,hp]
 simp only[wS,h1]
 rw[if_pos (show e.er.kind=ou from hk)]
 unfold H7
 simp only[au.eta,hH hn,qa,Bg (je b.L),hp,y6,jc h1,g1]
 cases x.held with
 |true=>exact⟨_,_,rfl,rfl,by decide⟩
 |false=>exact⟨_,_,rfl,rfl,Mu rfl⟩
theorem zgo (b:GB r){n0 v0 k}(hk:e.kind=rT)(hn:e.names.getD []=[n0])(hv:e.values.getD []=[v0])(hp:zf r.er n0=E3 k):
  nK (fq 179 r e) (apply (qe .i64) r.er e.er):=by
 rw[kC hk (by decide) (by decide),if_pos (.inr rfl)]
 obtain⟨x,h1,_⟩:=HY hp
 have hA:fq 179 r e=qa (H8 e r.day r.ar r.ae r.units) fun v=>E3 (v.1,{ r with ar:=v.2 }):=rfl
 rw[hA]
 have g1:TR r.ar (k:Int)=E3 (E3 ((r.ar.getD []).set k { x with held:=Gh })):=oA (je b.L) h1 rfl
 unfold pU
 rw[eW hn,hp]
 simp only[wS,h1]
 rw[if_neg (show ¬e.er.kind=ou from fun h=>by rw[show e.er.kind=e.kind from rfl,hk]at h;exact absurd h (by decide))]
 unfold H8
 simp only[au.eta,hH hn,qa,Bg (je b.L),hp,y6,jc h1,g1]
 cases x.held with
 |true=>exact⟨_,_,rfl,rfl,Mu rfl⟩
 |false=>exact⟨_,_,rfl,rfl,by decide⟩
structure UOk (r:au)(u:aY)(D:bY)(v:Int):Prop where
 doc:pQ r u=E3 D
 rX:pR r u=E3 D
 wT:gy r.er u.er=E3 D.er
 new:pS r.er u.er=E3 v
 aM:(D.aM.getD []).length≤BB
 aH:(D.aH.getD []).length≤BB
 uses:(u.uses.getD []).length≤BB
 results:(u.results.getD []).length≤BB
 ar:∀x∈u.uses.getD [],(zf r.er x.k).isSome=Gg
 keyed:zu (·.k) (u.uses.getD [])
 bJ:u.version≠-1
theorem jd0 {u:aY}{d}(h:gy r.er u.er=E3 d):∃(k:Nat) (p:aX),(r.ae.getD [])[k]?=E3 p∧1≤u.version∧∃D:bY,D∈p.aW.getD []∧D.er=d:=by
 unfold gy at h
 cases hp:k9 r.er u.er.product with
 |none=>rw[hp]at h;cases h
 |some sp=>
  rw[hp]at h
  obtain⟨k,p,_,h2,rfl,_⟩:=TF hp
  simp only[Jo,Ed]at h
  split at h
  ·rename_i hv
   refine⟨k,p,h2,hv,?_⟩
   have h3:((p.aW.getD []).map bY.er)[(u.er.version-1).toNat]?=E3 d:=h
   rw[Gx]at h3
   cases hD:(p.aW.getD [])[(u.er.version-1).toNat]? with
   |none=>rw[hD]at h3;cases h3
   |some D=>rw[hD]at h3;exact⟨D,Gc hD,by simpa using h3⟩
  ·cases h
theorem Bx (b:GB r)(w:WF r.er){i:Nat}{u}(hu:(r.units.getD [])[i]?=E3 u):∃D v,UOk r u D v:=by
 have hm:=Gc hu
 have TS:u.er∈r.er.units:=by rw[rU];exact Hc hm
 obtain⟨d,hd⟩:=G7.1 (w.eb _ TS)
 obtain⟨D,g1,g2,rfl⟩:=jth (je b.P) (fun p hp=>je (b.D p hp).1) hd
 obtain⟨k,p,hp,hv,D',oB,he⟩:=jd0 hd
 have hb:=(b.D p (Gc hp)).2.2.2 D' oB
 have h1:D.aM.getD []=D'.aM.getD []:=congrArg jM.aM he.symm
 have h2:D.aH.getD []=D'.aH.getD []:=congrArg jM.aH he.symm
 have df:(pS r.er u.er).isSome=Gg:=by
  unfold pS
  unfold gy at hd
  cases hq:k9 r.er u.er.product with
  |none=>rw[hq]at hd;cases hd
  |some sp=>rfl
 obtain⟨v,RV⟩:=G7.1 df
 exact⟨D,v,g1,g2,hd,RV,by rw[h1];exact hb.1,by rw[h2];exact hb.2,(b.N u hm).1,(b.N u hm).2,(w.uses _ TS).2,(w.uses _ TS).1,by omega⟩
theorem wU {n0:List UInt8}{k:Nat}{u:aY}(hn:nm e.er 0=n0)(hp:js r.er n0=E3 k)(h3:r.er.units[k]?=E3 u.er):mQ (qe .i64) r.er e.er =
   if e.kind=mL then rZ (qe .i64) r.er k u.er e.er
   else if e.kind=nG then sd r.er k u.er e.er
   else if e.kind=oT then
    (if u.aj then .error 21 else if !((gy r.er u.er).any fun d=>d.aH.any (eG (nm e.er 1)))then .error 7 else if 64≤(u.results.getD []).length then .error 5 else
     .ok (ax r.er k { u.er with results:=u.results.getD []++[⟨nm e.er 1,u.version,vl e.er 1⟩] }))
   else if e.kind=pP then
    (if u.aj then .error 21 else match pS r.er u.er with
     |none=>.error 32
     |some v=>if u.version=v then .error 32 else .ok (ax r.er k { u.er with version:=v }))
   else if e.kind=iO then(if oz (qe .i64) r.er u.er≠0 then .error (oz (qe .i64) r.er u.er)else .ok (ax r.er k { u.er with aj:=Gg }))
   else(if !u.aj then .error 20 else .ok (ax r.er k { u.er with ak:=qe .i64 (u.ak+1) })):=by
 unfold mQ
 rw[hn,hp]
 simp only[h3]
 rfl
theorem zke (b:GB r)(w:WF r.er){n0:List UInt8}{v0:Int}{k:Nat}(hk:e.kind=pP)(hn:e.names.getD []=[n0])(hv:e.values.getD []=[v0])(hp:js r.er n0=E3 k):
  nK (fq 176 r e) (apply (qe .i64) r.er e.er):=by
 rw[kC hk (by decide) (by decide),if_neg (by decide)]
 obtain⟨u,h1,_,h3⟩:=oZ hp
 obtain⟨D,v,o⟩:=Bx b w h1
 rw[wU (eW hn) hp h3,if_neg (by rw[hk];decide),if_neg (by rw[hk];decide),if_neg (by rw[hk];decide),if_pos hk,o.new]
 have hA:fq 176 r e=qa (H9 e r.day r.ar r.ae r.units) fun v=>E3 (v.1,{ r with units:=v.2 }):=rfl
 rw[hA]
 have g1:TT r.units (k:Int) v=E3 (E3 ((r.units.getD []).set k { u with version:=v })):=oA (je b.U) h1 rfl
 generalize hU:({ u with version:=v }:aY)=U' at g1
 have dE:({ r with units:=E3 ((r.units.getD []).set k U') }:au).er=ax r.er k { u.er with version:=v }:=by rw[zB rfl,←hU];rfl
 unfold H9
 simp only[au.eta,hH hn,qa,rV (je b.U),hp,y6,jc h1,(Mf (je b.P) o.new).1,iP,g1]
 rw[iQ (by simp[SM])]
 cases u.aj with
 |true=>exact⟨_,_,rfl,rfl,by decide⟩
 |false=>
  by_cases h:u.version=v
  ·rw[decide_eq_true h,if_pos h];exact⟨_,_,rfl,rfl,by decide⟩
  ·rw[decide_eq_false h,if_neg h];exact⟨_,_,rfl,rfl,dE⟩
theorem zfb (b:GB r)(w:WF r.er){n0:List UInt8}{v0:Int}{k:Nat}(hk:e.kind=iO)(hn:e.names.getD []=[n0])(hv:e.values.getD []=[v0])(hp:js r.er n0=E3 k):
  nK (fq 180 r e) (apply (qe .i64) r.er e.er):=by
 rw[kC hk (by decide) (by decide),if_neg (by decide)]
 obtain⟨u,h1,_,h3⟩:=oZ hp
 obtain⟨D,v,o⟩:=Bx b w h1
 rw[wU (eW hn) hp h3,if_neg (by rw[hk];decide),if_neg (by rw[hk];decide),if_neg (by rw[hk];decide),if_neg (by rw[hk];decide),if_pos hk]
 have hA:fq 180 r e=qa (Ia e r.day r.ar r.ae r.units) fun v=>E3 (v.1,{ r with units:=v.2 }):=rfl
 rw[hA]
 have g1:TU r.units (k:Int)=E3 (E3 ((r.units.getD []).set k { u with aj:=Gg })):=oA (je b.U) h1 rfl
 have g2:=jff (je b.P) o.new (je b.L) (je o.uses) o.ar o.doc o.wT (je o.aM) (je o.results) (je o.aH) o.bJ
 unfold Ia
 simp only[au.eta,hH hn,qa,rV (je b.U),hp,y6,jc h1,g2,g1]
 by_cases h:oz (qe .i64) r.er u.er=0
 ·rw[decide_eq_true h,if_neg (fun hh=>hh h)];exact⟨_,_,rfl,rfl,zB rfl⟩
 ·rw[decide_eq_false h,if_pos h];exact⟨_,_,rfl,rfl,h⟩
theorem zfq (b:GB r){n0:List UInt8}{v0:Int}{k:Nat}(hk:e.kind=yR)(hn:e.names.getD []=[n0])(hv:e.values.getD []=[v0])(hp:js r.er n0=E3 k):
  nK (fq 181 r e) (apply (qe .i64) r.er e.er):=by
 rw[kC hk (by decide) (by decide),if_neg (by decide)]
 obtain⟨u,h1,_,h3⟩:=oZ hp
 rw[wU (eW hn) hp h3,if_neg (by rw[hk];decide),if_neg (by rw[hk];decide),if_neg (by rw[hk];decide),if_neg (by rw[hk];decide),if_neg (by rw[hk];decide)]
 have hA:fq 181 r e=qa (Ib e r.day r.ar r.ae r.units) fun v=>E3 (v.1,{ r with units:=v.2 }):=rfl
 rw[hA]
 have g1:TV r.units (k:Int)=E3 (E3 ((r.units.getD []).set k { u with ak:=qe .i64 (u.ak+1) })):=oA (je b.U) h1 rfl
 generalize hU:({ u with ak:=qe .i64 (u.ak+1) }:aY)=U' at g1
 have dE:({ r with units:=E3 ((r.units.getD []).set k U') }:au).er=ax r.er k { u.er with ak:=qe .i64 (u.ak+1) }:=by rw[zB rfl,←hU];rfl
 unfold Ib
 simp only[au.eta,hH hn,qa,rV (je b.U),hp,y6,jc h1,g1]
 cases u.aj with
 |true=>exact⟨_,_,rfl,rfl,dE⟩
 |false=>exact⟨_,_,rfl,rfl,by decide⟩
theorem zhf (b:GB r)(w:WF r.er){n0 n1:List UInt8}{v0 v1:Int}{k:Nat}(hk:e.kind=oT)(hn:e.names.getD []=[n0,n1])(hv:e.values.getD []=[v0,v1])(hp:js r.er n0=E3 k):
  nK (fq 175 r e) (apply (qe .i64) r.er e.er):=by
 rw[kC hk (by decide) (by decide),if_neg (by decide)]
 obtain⟨u,h1,_,h3⟩:=oZ hp
 obtain⟨D,v,o⟩:=Bx b w h1
 rw[wU (eW hn) hp h3,if_neg (by rw[hk];decide),if_neg (by rw[hk];decide),if_pos hk,lY hn,vL hv,o.wT]
 have hA:fq 175 r e=qa (Ic e r.day r.ar r.ae r.units) fun v=>E3 (v.1,{ r with units:=v.2 }):=rfl
 rw[hA]
 have g1:TW r.units (k:Int) e=E3 (E3 ((r.units.getD []).set k { u with results:=E3 (u.results.getD []++[⟨n1,u.version,v1⟩]) })):=oA (je b.U) h1 (by
  unfold Ie
  rw[gN hn,gN hv]
  simp only[qa]
  rw[jp5 (mO o.results)])
 generalize hU:({ u with results:=E3 (u.results.getD []++[⟨n1,u.version,v1⟩]) }:aY)=U' at g1
 have dE:({ r with units:=E3 ((r.units.getD []).set k U') }:au).er=ax r.er k { u.er with results:=u.results.getD []++[⟨n1,u.version,v1⟩] }:=by rw[zB rfl,←hU];rfl
 unfold Ic
 simp only[au.eta,hH hn,qa,rV (je b.U),hp,y6,jc h1,o.doc,jk9 (gN hn) (je o.aH),iP,g1,Gw]
 rw[iQ (by simp[SM]),show D.er.aH=D.aH.getD []from rfl]
 cases u.aj with
 |true=>exact⟨_,_,rfl,rfl,by decide⟩
 |false=>
  cases (D.aH.getD []).any (eG n1)with
  |false=>exact⟨_,_,rfl,rfl,by decide⟩
  |true=>
   by_cases h2:64≤(u.results.getD []).length
   ·rw[show decide (64≤((u.results.getD []).length:Int))=Gg from decide_eq_true (by omega),if_pos h2]
    exact⟨_,_,rfl,rfl,by decide⟩
   ·rw[show decide (64≤((u.results.getD []).length:Int))=Gh from decide_eq_false (by omega),if_neg h2]
    exact⟨_,_,rfl,rfl,dE⟩
theorem zib (b:GB r)(w:WF r.er){n0 n1:List UInt8}{v0 v1:Int}{k j:Nat}(hk:e.kind=mL)(hn:e.names.getD []=[n0,n1])(hv:e.values.getD []=[v0,v1])(hp:js r.er n0=E3 k)(hq:zf r.er n1=E3 j):
  nK (fq 174 r e) (apply (qe .i64) r.er e.er):=by
 rw[kC hk (by decide) (by decide),if_neg (by decide)]
 obtain⟨u,h1,_,h3⟩:=oZ hp
 obtain⟨x,h4,DV⟩:=HY hq
 obtain⟨D,v,o⟩:=Bx b w h1
 rw[wU (eW hn) hp h3,if_pos hk]
 unfold rZ
 rw[lY hn,hq,vL hv,o.wT]
 simp only[wS,h4]
 have hA:fq 174 r e=qa (Ig e r.day r.ar r.ae r.units) fun v=>E3 (v.1,{ r with ar:=v.2.1,units:=v.2.2 }):=rfl
 rw[hA]
 have g1:TX r.ar (j:Int) v1=E3 (E3 ((r.ar.getD []).set j { x with left:=qe .i64 (x.left-v1) })):=oA (je b.L) h4 rfl
 unfold Ig
 simp only[au.eta,hH hn,gN hn,gN hv,qa,rV (je b.U),Bg (je b.L),hp,hq,y6,jc h1,jc h4,o.doc,jlx (je o.aM),iP,g1,jo6 (je o.uses),Gw]
 rw[iQ (by simp[SM])]
 have hdn:D.er.aM=D.aM.getD []:=rfl
 simp only[hdn]
 have lV:∀(s:br),jN (qe .i64) (u.uses.getD []) x.name v1=kf (cX x.name) s (u.uses.getD [])→∃us,gj r.units (k:Int) (zC s x)=E3 us∧({ r with ar:=E3 ((r.ar.getD []).set j { x with left:=qe .i64 (x.left-v1) }),units:=us }:au).er=ax (cg r.er j { x with left:=qe .i64 (x.left-v1) }) k { u.er with uses:=jN (qe .i64) u.er.uses x.name v1 }:=by
  intro s hs
  obtain⟨q,wq,q1,q2⟩:=jql (x:=s) (t:=x) (o:=u.uses) (mO o.uses)
  refine⟨_,oA (y:={ u with uses:=q }) (je b.U) h1 (by unfold zC;rw[q1];rfl),?_⟩
  simp only[au.er,ax,cg,Gd,Jq]
  congr 2
  simp only[aY.er,q2,hs]
 by_cases hs:u.aj=Gg
 ·simp only[if_pos hs,if_pos (show u.er.aj=Gg from hs)]
  exact⟨_,_,rfl,rfl,by decide⟩
 simp only[if_neg hs,if_neg (show ¬u.er.aj=Gg from hs)]
 by_cases hz:v1=0
 ·simp only[if_pos hz,decide_eq_true hz,if_true]
  exact⟨_,_,rfl,rfl,by decide⟩
 simp only[if_neg hz,decide_eq_false hz,Ga,if_false]
 by_cases hh:x.held=Gg
 ·simp only[if_pos hh]
  exact⟨_,_,rfl,rfl,by decide⟩
 simp only[if_neg hh]
 cases (D.aM.getD []).any (cX x.kind)with
 |false=>exact⟨_,_,rfl,rfl,by decide⟩
 |true=>
 simp only[G6,Ga,if_false]
 by_cases hl:x.left<v1
 ·simp only[if_pos hl,decide_eq_true hl,if_true]
  exact⟨_,_,rfl,rfl,by decide⟩
 simp only[if_neg hl,decide_eq_false hl,Ga,if_false]
 have Ih:∀ {α:Type} (A B:Option α),cond (decide (fF [0,0,0,0,0]=0)) A B=A:=fun A B=>rfl
 cases hi:(u.uses.getD []).findIdx? (cX x.name)with
 |none=>
  obtain⟨us,q1,q2⟩:=lV ⟨x.name,v1⟩ (by unfold jN kf;rw[hi])
  rw[Ih]
  rw[show decide (0≤eh G9)=Gh from rfl]
  simp only[cond_false,q1]
  exact⟨_,_,rfl,rfl,q2⟩
 |some i=>
  obtain⟨y,hy,_⟩:=bp hi
  obtain⟨us,q1,q2⟩:=lV ⟨x.name,qe .i64 (v1+y.n)⟩ (by unfold jN kf;rw[hi];simp only[hy])
  rw[Ih]
  rw[show decide (0≤eh (E3 i))=Gg from vK (E3 i)]
  simp only[cond_true,y6,jc hy,q1]
  exact⟨_,_,rfl,rfl,q2⟩
end Go.Z
set_option maxHeartbeats 4000000
namespace Go.Z
open Go Go.Abs Go.W
variable {r:au}{e:GEv}
theorem j60 {a b c d}:f46 (E3 [a,b,c,d])=E3 (fF [a,b,c,d]):=iQ (by simp[SM])
theorem zj8 (b:GB r){n0 n1 v0 k j}(hk:e.kind=nG)(hn:e.names.getD []=[n0,n1])(hv:e.values.getD []=[v0])(hp:js r.er n0=E3 k)(hq:js r.er n1=E3 j):
  nK (fq 177 r e) (apply (qe .i64) r.er e.er):=by
 rw[kC hk (by decide) (by decide),if_neg (by decide)]
 obtain⟨u,h1,_,h3⟩:=oZ hp
 obtain⟨v,h4,_,h5⟩:=oZ hq
 rw[wU (eW hn) hp h3,if_neg (by rw[hk];decide),if_pos hk]
 unfold sd
 rw[lY hn,hq]
 simp only[h5]
 have hA:fq 177 r e=qa (Ii e r.day r.ar r.ae r.units) fun v=>E3 (v.1,{ r with units:=v.2 }):=rfl
 rw[hA]
 have g1:vM r.units (k:Int) v=E3 (E3 ((r.units.getD []).set k { u with partner:=v.name })):=oA (je b.U) h1 rfl
 have g2:k≠j→∀bb,vN (E3 ((r.units.getD []).set k { u with partner:=v.name })) (j:Int) ⟨u.name,u.product,u.version,u.uses,u.results,u.partner,bb,u.ak⟩=E3 (E3 (((r.units.getD []).set k { u with partner:=v.name }).set j { v with partner:=u.name })):=by
  intro hkj bb
  exact oA (x:=v) (by rw[Gd,List.length_set];exact je b.U) (by rw[Gd,List.getElem?_set_ne hkj];exact h4) rfl
 have dE:({ r with units:=E3 (((r.units.getD []).set k { u with partner:=v.name }).set j { v with partner:=u.name }) }:au).er=ax (ax r.er k { u.er with partner:=v.er.name }) j { v.er with partner:=u.er.name }:=by
  simp only[au.er,ax,Gd,Jq]
  rfl
 generalize hz:ax (ax r.er k { u.er with partner:=v.er.name }) j { v.er with partner:=u.er.name }=Z at dE ⊢
 generalize hX:E3 (E3 (((r.units.getD []).set k { u with partner:=v.name }).set j { v with partner:=u.name }))=X at g2
 generalize hY:E3 ((r.units.getD []).set k { u with partner:=v.name })=Y at g1 g2
 unfold Ii
 simp only[au.eta,hH hn,gN hn,qa,rV (je b.U),hp,hq,y6,jc h1,jc h4,iP,j60,g1]
 have e1:decide ((k:Int)=(j:Int))=decide (k=j):=by
  by_cases h:k=j
  ·rw[decide_eq_true h];exact decide_eq_true (by omega)
  ·rw[decide_eq_false h];exact decide_eq_false (by omega)
 have e2:u.er.product=u.product:=rfl
 have e3:v.er.product=v.product:=rfl
 have e4:u.er.version=u.version:=rfl
 have e5:v.er.version=v.version:=rfl
 have e6:u.er.aj=u.aj:=rfl
 have e7:v.er.aj=v.aj:=rfl
 have e8:u.er.partner=u.partner:=rfl
 have e9:v.er.partner=v.partner:=rfl
 simp only[e1,e2,e3,e4,e5,e6,e7,e8,e9]
 by_cases c1:k=j<;>by_cases c2:u.product=v.product<;>by_cases cY:u.version=v.version<;>cases eX:u.aj<;>cases dl:v.aj<;>by_cases dZ:u.partner=[]<;>by_cases mR:v.partner=[] <;>
  simp only[c1,c2,cY,dZ,mR,decide_true,decide_false,cond_true,cond_false,G6,J9,if_true,if_false,Ga,ne_eq,not_true_eq_false,not_false_eq_true,or_true,true_or,or_false,false_or,or_self] <;>
  first
  |exact⟨_,_,rfl,rfl,by decide⟩
  |(have g3:=g2 c1 Gh
    simp only[c2,cY,dZ]at g3
    rw[g3,←hX]
    exact⟨_,_,rfl,rfl,dE⟩)
end Go.Z
namespace Go.Z
open Go Go.Abs Go.W
variable {r:au}{e:GEv}
def Es (r:jq)(c:Int)(n:List UInt8):Bool:=if c=108 then(zf r n).isSome else if c=112 then(zz r n).isSome else if c=117 then(js r n).isSome else Gg
theorem TY (b:GB r){c n}:Et r c n=E3 (Es r.er c n):=by
 unfold Et Es
 by_cases h1:c=108
 ·simp only[h1,decide_true,cond_true,if_true,Bg (je b.L),qa,wR]
 ·by_cases h2:c=112
  ·simp only[h1,h2,decide_true,decide_false,cond_true,cond_false,if_true,if_false,vJ (je b.P),qa,wR];rfl
  ·by_cases h3:c=117
   ·simp only[h1,h2,h3,decide_true,decide_false,cond_true,cond_false,if_true,if_false,rV (je b.U),qa,wR];rfl
   ·simp only[h1,h2,h3,decide_false,cond_false,if_false]
def y9 (r:jq)(c:UInt8)(n:List UInt8):Bool:=decide ((c.toNat:Int)=45)||Es r (c.toNat:Int) n
theorem Bz (b:GB r){a n0 t}(hr:za e.kind=[a])(hd:qn [a] 0=(a.toNat,1))(hn:e.names.getD []=n0::t):
  ∃d,bz (Eu r e) G9=E3 (if y9 r.er a n0 then .inr d else .inl d):=by
 have z:BA r e=E3 (if y9 r.er a n0 then .inl (E3 1)else .inr (.inl 1)):=by
  unfold BA y9
  simp only[hr,hd,qa,hH hn,TY b]
  simp only[G8,Nat.lt_irrefl,show decide (0<1)=Gg from rfl,cond_true]
  cases decide ((a.toNat:Int)=45)<;>cases Es r.er (a.toNat:Int) n0<;>rfl
 cases hk:y9 r.er a n0 with
 |true=>
  rw[hk]at z
  refine⟨1,?_⟩
  rw[nD (s':=E3 1) z]
  refine y7 (d:=(Sum.inr 1:Nat⊕Nat)) ?_
  show wV r e 1=_
  unfold wV
  simp only[hr,G8]
  rfl
 |false=>
  rw[hk]at z
  exact⟨1,y7 z⟩
theorem BD (b:GB r){a c n0 n1 t}(hr:za e.kind=[a,c])(hd:qn [a,c] 0=(a.toNat,1))(hd1:qn [a,c] 1=(c.toNat,1))(hn:e.names.getD []=n0::n1::t):
  ∃d,bz (Eu r e) G9=E3 (if y9 r.er a n0&&y9 r.er c n1 then .inr d else .inl d):=by
 have z:BA r e=E3 (if y9 r.er a n0 then .inl (E3 1)else .inr (.inl 1)):=by
  unfold BA y9
  simp only[hr,hd,qa,hH hn,TY b]
  simp only[Gz,Jt,show decide (0<0+1+1)=Gg from rfl,cond_true]
  cases decide ((a.toNat:Int)=45)<;>cases Es r.er (a.toNat:Int) n0<;>rfl
 have y:wV r e 1=E3 (if y9 r.er c n1 then .inl (E3 2)else .inr (.inl 2)):=by
  unfold wV y9
  simp only[hr,hd1,qa,show((1:Nat):Int)=1 from rfl,gN hn,TY b]
  simp only[Gz,Jt,show decide (1<0+1+1)=Gg from rfl,cond_true]
  cases decide ((c.toNat:Int)=45)<;>cases Es r.er (c.toNat:Int) n1<;>rfl
 cases hk:y9 r.er a n0 with
 |false=>
  rw[hk]at z
  exact⟨1,y7 z⟩
 |true=>
  rw[hk]at z
  cases dk:y9 r.er c n1 with
  |false=>
   rw[dk]at y
   refine⟨2,?_⟩
   rw[nD (s':=E3 1) z]
   exact y7 (d:=(Iy 2:Nat⊕Nat)) y
  |true=>
   rw[dk]at y
   refine⟨2,?_⟩
   rw[nD (s':=E3 1) z,nD (s':=E3 2) y]
   refine y7 (d:=(Sum.inr 2:Nat⊕Nat)) ?_
   show wV r e 2=_
   unfold wV
   simp only[hr,Gz,Jt]
   rfl
def gO (x:Option (au×Int))(y:pT):Prop:=∃r' c,x=E3 (r',c)∧match y with
 | .error k=>c=k∧k≠0
 | .ok s=>c=0∧r'.er=s
theorem oC {v0 t K}(hv:e.values.getD []=v0::t)(hl:∃d,bz (Eu r e) G9=E3 (if K then .inr d else .inl d))(hK:K=Gh→apply (qe .i64) r.er e.er=.error 10)(hA:K=Gg→nK (fq (Ij e.kind) r e) (apply (qe .i64) r.er e.er)):
  gO (jO r e) (after (qe .i64) r.er e.er):=by
 unfold jO after
 rw[hH hv,vl0 hv]
 simp only[qa]
 by_cases h:v0<r.day
 ·rw[decide_eq_true h,if_pos (show v0<r.er.day from h)]
  exact⟨_,_,rfl,rfl,by decide⟩
 ·rw[decide_eq_false h,if_neg (show ¬v0<r.er.day from h)]
  obtain⟨d,hd⟩:=hl
  rw[hd]
  cases K with
  |false=>
   rw[hK rfl]
   exact⟨_,_,rfl,rfl,by decide⟩
  |true=>
   obtain⟨c,r',h1,h2⟩:=hA rfl
   simp only[if_true,cond_false]
   rw[h1]
   simp only[]
   cases ha:apply (qe .i64) r.er e.er with
   |error k=>
    rw[ha]at h2
    obtain⟨rfl,h3⟩:=h2
    rw[decide_eq_false h3]
    exact⟨_,_,rfl,rfl,h3⟩
   |ok s=>
    rw[ha]at h2
    obtain⟨rfl,rfl⟩:=h2
    exact⟨_,_,rfl,rfl,rfl⟩
theorem oD {α:Type}{o:Option α}(h:o.isSome=Gg):∃x,o=E3 x:=G7.1 h
theorem pV {α:Type}{o:Option α}(h:o.isSome=Gh):o=G9:=by cases o<;>simp at h ⊢
theorem kj {k a c}(hk:e.kind=k)(hf:yw k=E3 (a,c))(hc:zk e.er=0):(e.names.getD []).length=a∧(e.values.getD []).length=c:=by
 obtain⟨_,f,h1,h2,h3⟩:=My hc
 rw[show e.er.kind=k from hk,hf]at h1
 cases h1
 exact⟨h2,h3⟩
theorem jC {α:Type}{l:List α}(h:l.length=1):∃a,l=[a]:=List.length_eq_one_iff.1 h
theorem gP {α:Type}{l:List α}(h:l.length=2):∃a b,l=[a,b]:=by
 match l,h with
 | [a,b],_=>exact⟨a,b,rfl⟩
theorem jvw {α:Type}{l:List α}(h:l.length=3):∃a b c,l=[a,b,c]:=by
 match l,h with
 | [a,b,c],_=>exact⟨a,b,c,rfl⟩
theorem oE {r n}:y9 r 45 n=Gg:=rfl
theorem rl {r n}:y9 r 108 n=(zf r n).isSome:=rfl
theorem rp {r n}:y9 r 112 n=(zz r n).isSome:=rfl
theorem ru {r n}:y9 r 117 n=(js r n).isSome:=rfl
theorem jtc (b:GB r)(hk:e.kind=mI)(hc:zk e.er=0):gO (jO r e) (after (qe .i64) r.er e.er):=by
 obtain⟨h1,h2⟩:=kj hk (show yw mI=E3 (2,2)from rfl) hc
 obtain⟨n0,n1,hn⟩:=gP h1
 obtain⟨v0,v1,hv⟩:=gP h2
 refine oC (K:=true) hv (by have:=BD (a:=45) (c:=45) b (by rw[hk];rfl) rfl rfl hn;simpa[oE]using this) (fun h=>by cases h) (fun _=>?_)
 rw[hk]
 exact a105 b hk hn hv
theorem jac (b:GB r)(hk:e.kind=nE)(hc:zk e.er=0):gO (jO r e) (after (qe .i64) r.er e.er):=by
 obtain⟨h1,h2⟩:=kj hk (show yw nE=E3 (1,1)from rfl) hc
 obtain⟨n0,hn⟩:=jC h1
 obtain⟨v0,hv⟩:=jC h2
 refine oC (K:=true) hv (by have:=Bz (a:=45) b (by rw[hk];rfl) rfl hn;simpa[oE]using this) (fun h=>by cases h) (fun _=>?_)
 rw[hk]
 exact zc2 b hk hn hv
theorem jqm (b:GB r)(hk:e.kind=mJ)(hc:zk e.er=0):gO (jO r e) (after (qe .i64) r.er e.er):=by
 obtain⟨h1,h2⟩:=kj hk (show yw mJ=E3 (2,2)from rfl) hc
 obtain⟨n0,n1,hn⟩:=gP h1
 obtain⟨v0,v1,hv⟩:=gP h2
 refine oC (K:=(zz r.er n0).isSome) hv (by have:=BD (a:=112) (c:=45) b (by rw[hk];rfl) rfl rfl hn;rw[show(y9 r.er 112 n0&&y9 r.er 45 n1)=((zz r.er n0).isSome)from by simp only[oE,rl,rp,ru,Gl,Gm]]at this;exact this) (fun h=>?_) (fun h=>?_)
 ·have h:=pV h
  unfold apply kw
  rw[show e.er.kind=mJ from hk,if_neg (by decide),if_pos (by decide),eW hn,h]
 ·obtain⟨k,hp⟩:=oD h
  rw[hk]
  exact zbp b hk hn hv hp
theorem jou (b:GB r)(hk:e.kind=nF)(hc:zk e.er=0):gO (jO r e) (after (qe .i64) r.er e.er):=by
 obtain⟨h1,h2⟩:=kj hk (show yw nF=E3 (2,3)from rfl) hc
 obtain⟨n0,n1,hn⟩:=gP h1
 obtain⟨v0,v1,v2,hv⟩:=jvw h2
 refine oC (K:=(zz r.er n0).isSome) hv (by have:=BD (a:=112) (c:=45) b (by rw[hk];rfl) rfl rfl hn;rw[show(y9 r.er 112 n0&&y9 r.er 45 n1)=((zz r.er n0).isSome)from by simp only[oE,rl,rp,ru,Gl,Gm]]at this;exact this) (fun h=>?_) (fun h=>?_)
 ·have h:=pV h
  unfold apply kw
  rw[show e.er.kind=nF from hk,if_neg (by decide),if_pos (by decide),eW hn,h]
 ·obtain⟨k,hp⟩:=oD h
  rw[hk]
  exact zif b hk hn hv hp
theorem ji9 (b:GB r)(hk:e.kind=pO)(hc:zk e.er=0):gO (jO r e) (after (qe .i64) r.er e.er):=by
 obtain⟨h1,h2⟩:=kj hk (show yw pO=E3 (1,1)from rfl) hc
 obtain⟨n0,hn⟩:=jC h1
 obtain⟨v0,hv⟩:=jC h2
 refine oC (K:=(zz r.er n0).isSome) hv (by have:=Bz (a:=112)  b (by rw[hk];rfl) rfl hn;rw[show(y9 r.er 112 n0)=((zz r.er n0).isSome)from by simp only[oE,rl,rp,ru,Gl,Gm]]at this;exact this) (fun h=>?_) (fun h=>?_)
 ·have h:=pV h
  unfold apply kw
  rw[show e.er.kind=pO from hk,if_neg (by decide),if_pos (by decide),eW hn,h]
 ·obtain⟨k,hp⟩:=oD h
  rw[hk]
  exact a109 b hk hn hv hp
theorem jge (b:GB r)(hk:e.kind=mK)(hc:zk e.er=0):gO (jO r e) (after (qe .i64) r.er e.er):=by
 obtain⟨h1,h2⟩:=kj hk (show yw mK=E3 (2,1)from rfl) hc
 obtain⟨n0,n1,hn⟩:=gP h1
 obtain⟨v0,hv⟩:=jC h2
 refine oC (K:=(zz r.er n1).isSome) hv (by have:=BD (a:=45) (c:=112) b (by rw[hk];rfl) rfl rfl hn;rw[show(y9 r.er 45 n0&&y9 r.er 112 n1)=((zz r.er n1).isSome)from by simp only[oE,rl,rp,ru,Gl,Gm]]at this;exact this) (fun h=>?_) (fun h=>?_)
 ·have h:=pV h
  unfold apply mP
  rw[show e.er.kind=mK from hk,if_pos (by decide),if_neg (by decide),if_neg (by decide),lY hn]
  unfold k9
  rw[h];rfl
 ·obtain⟨k,hp⟩:=oD h
  rw[hk]
  exact zja b hk hn hv hp
theorem jsi (b:GB r)(w:WF r.er)(hk:e.kind=mL)(hc:zk e.er=0):gO (jO r e) (after (qe .i64) r.er e.er):=by
 obtain⟨h1,h2⟩:=kj hk (show yw mL=E3 (2,2)from rfl) hc
 obtain⟨n0,n1,hn⟩:=gP h1
 obtain⟨v0,v1,hv⟩:=gP h2
 refine oC (K:=(js r.er n0).isSome&&(zf r.er n1).isSome) hv (by have:=BD (a:=117) (c:=108) b (by rw[hk];rfl) rfl rfl hn;rw[show(y9 r.er 117 n0&&y9 r.er 108 n1)=((js r.er n0).isSome&&(zf r.er n1).isSome)from by simp only[oE,rl,rp,ru,Gl,Gm]]at this;exact this) (fun h=>?_) (fun h=>?_)
 ·cases h1:js r.er n0 with
  |none=>
   rw[kC hk (by decide) (by decide),if_neg (by decide)]
   unfold mQ
   rw[eW hn,h1]
  |some k=>
   rw[h1]at h
   have h:=pV (show(zf r.er n1).isSome=Gh from h)
   obtain⟨u,g1,_,g3⟩:=oZ h1
   rw[kC hk (by decide) (by decide),if_neg (by decide),wU (eW hn) h1 g3,if_pos hk]
   unfold rZ
   rw[lY hn,h]
 ·rw[Ny]at h
  obtain⟨k,hp⟩:=oD h.1
  obtain⟨j,hq⟩:=oD h.2
  rw[hk]
  exact zib b w hk hn hv hp hq
theorem jaq (b:GB r)(w:WF r.er)(hk:e.kind=oT)(hc:zk e.er=0):gO (jO r e) (after (qe .i64) r.er e.er):=by
 obtain⟨h1,h2⟩:=kj hk (show yw oT=E3 (2,2)from rfl) hc
 obtain⟨n0,n1,hn⟩:=gP h1
 obtain⟨v0,v1,hv⟩:=gP h2
 refine oC (K:=(js r.er n0).isSome) hv (by have:=BD (a:=117) (c:=45) b (by rw[hk];rfl) rfl rfl hn;rw[show(y9 r.er 117 n0&&y9 r.er 45 n1)=((js r.er n0).isSome)from by simp only[oE,rl,rp,ru,Gl,Gm]]at this;exact this) (fun h=>?_) (fun h=>?_)
 ·have h:=pV h
  rw[kC hk (by decide) (by decide),if_neg (by decide)]
  unfold mQ
  rw[eW hn,h]
 ·obtain⟨k,hp⟩:=oD h
  rw[hk]
  exact zhf b w hk hn hv hp
theorem jen (b:GB r)(w:WF r.er)(hk:e.kind=pP)(hc:zk e.er=0):gO (jO r e) (after (qe .i64) r.er e.er):=by
 obtain⟨h1,h2⟩:=kj hk (show yw pP=E3 (1,1)from rfl) hc
 obtain⟨n0,hn⟩:=jC h1
 obtain⟨v0,hv⟩:=jC h2
 refine oC (K:=(js r.er n0).isSome) hv (by have:=Bz (a:=117)  b (by rw[hk];rfl) rfl hn;rw[show(y9 r.er 117 n0)=((js r.er n0).isSome)from by simp only[oE,rl,rp,ru,Gl,Gm]]at this;exact this) (fun h=>?_) (fun h=>?_)
 ·have h:=pV h
  rw[kC hk (by decide) (by decide),if_neg (by decide)]
  unfold mQ
  rw[eW hn,h]
 ·obtain⟨k,hp⟩:=oD h
  rw[hk]
  exact zke b w hk hn hv hp
theorem jp0 (b:GB r)(hk:e.kind=nG)(hc:zk e.er=0):gO (jO r e) (after (qe .i64) r.er e.er):=by
 obtain⟨h1,h2⟩:=kj hk (show yw nG=E3 (2,1)from rfl) hc
 obtain⟨n0,n1,hn⟩:=gP h1
 obtain⟨v0,hv⟩:=jC h2
 refine oC (K:=(js r.er n0).isSome&&(js r.er n1).isSome) hv (by have:=BD (a:=117) (c:=117) b (by rw[hk];rfl) rfl rfl hn;rw[show(y9 r.er 117 n0&&y9 r.er 117 n1)=((js r.er n0).isSome&&(js r.er n1).isSome)from by simp only[oE,rl,rp,ru,Gl,Gm]]at this;exact this) (fun h=>?_) (fun h=>?_)
 ·cases h1:js r.er n0 with
  |none=>
   rw[kC hk (by decide) (by decide),if_neg (by decide)]
   unfold mQ
   rw[eW hn,h1]
  |some k=>
   rw[h1]at h
   have h:=pV (show(js r.er n1).isSome=Gh from h)
   obtain⟨u,g1,_,g3⟩:=oZ h1
   rw[kC hk (by decide) (by decide),if_neg (by decide),wU (eW hn) h1 g3,if_neg (by rw[hk];decide),if_pos hk]
   unfold sd
   rw[lY hn,h]
 ·rw[Ny]at h
  obtain⟨k,hp⟩:=oD h.1
  obtain⟨j,hq⟩:=oD h.2
  rw[hk]
  exact zj8 b hk hn hv hp hq
theorem jnv (b:GB r)(hk:e.kind=ou)(hc:zk e.er=0):gO (jO r e) (after (qe .i64) r.er e.er):=by
 obtain⟨h1,h2⟩:=kj hk (show yw ou=E3 (1,1)from rfl) hc
 obtain⟨n0,hn⟩:=jC h1
 obtain⟨v0,hv⟩:=jC h2
 refine oC (K:=(zf r.er n0).isSome) hv (by have:=Bz (a:=108)  b (by rw[hk];rfl) rfl hn;rw[show(y9 r.er 108 n0)=((zf r.er n0).isSome)from by simp only[oE,rl,rp,ru,Gl,Gm]]at this;exact this) (fun h=>?_) (fun h=>?_)
 ·have h:=pV h
  rw[kC hk (by decide) (by decide),if_pos (by decide)]
  unfold pU
  rw[eW hn,h]
 ·obtain⟨k,hp⟩:=oD h
  rw[hk]
  exact zf4 b hk hn hv hp
theorem jqb (b:GB r)(hk:e.kind=rT)(hc:zk e.er=0):gO (jO r e) (after (qe .i64) r.er e.er):=by
 obtain⟨h1,h2⟩:=kj hk (show yw rT=E3 (1,1)from rfl) hc
 obtain⟨n0,hn⟩:=jC h1
 obtain⟨v0,hv⟩:=jC h2
 refine oC (K:=(zf r.er n0).isSome) hv (by have:=Bz (a:=108)  b (by rw[hk];rfl) rfl hn;rw[show(y9 r.er 108 n0)=((zf r.er n0).isSome)from by simp only[oE,rl,rp,ru,Gl,Gm]]at this;exact this) (fun h=>?_) (fun h=>?_)
 ·have h:=pV h
  rw[kC hk (by decide) (by decide),if_pos (by decide)]
  unfold pU
  rw[eW hn,h]
 ·obtain⟨k,hp⟩:=oD h
  rw[hk]
  exact zgo b hk hn hv hp
theorem jn9 (b:GB r)(w:WF r.er)(hk:e.kind=iO)(hc:zk e.er=0):gO (jO r e) (after (qe .i64) r.er e.er):=by
 obtain⟨h1,h2⟩:=kj hk (show yw iO=E3 (1,1)from rfl) hc
 obtain⟨n0,hn⟩:=jC h1
 obtain⟨v0,hv⟩:=jC h2
 refine oC (K:=(js r.er n0).isSome) hv (by have:=Bz (a:=117)  b (by rw[hk];rfl) rfl hn;rw[show(y9 r.er 117 n0)=((js r.er n0).isSome)from by simp only[oE,rl,rp,ru,Gl,Gm]]at this;exact this) (fun h=>?_) (fun h=>?_)
 ·have h:=pV h
  rw[kC hk (by decide) (by decide),if_neg (by decide)]
  unfold mQ
  rw[eW hn,h]
 ·obtain⟨k,hp⟩:=oD h
  rw[hk]
  exact zfb b w hk hn hv hp
theorem q7e (b:GB r)(hk:e.kind=yR)(hc:zk e.er=0):gO (jO r e) (after (qe .i64) r.er e.er):=by
 obtain⟨h1,h2⟩:=kj hk (show yw yR=E3 (1,1)from rfl) hc
 obtain⟨n0,hn⟩:=jC h1
 obtain⟨v0,hv⟩:=jC h2
 refine oC (K:=(js r.er n0).isSome) hv (by have:=Bz (a:=117)  b (by rw[hk];rfl) rfl hn;rw[show(y9 r.er 117 n0)=((js r.er n0).isSome)from by simp only[oE,rl,rp,ru,Gl,Gm]]at this;exact this) (fun h=>?_) (fun h=>?_)
 ·have h:=pV h
  rw[kC hk (by decide) (by decide),if_neg (by decide)]
  unfold mQ
  rw[eW hn,h]
 ·obtain⟨k,hp⟩:=oD h
  rw[hk]
  exact zfq b hk hn hv hp
theorem q8m (b:GB r)(w:WF r.er)(hc:zk e.er=0)(hu:e.kind≠nH):gO (jO r e) (after (qe .i64) r.er e.er):=by
 obtain⟨_,f,h1,_,_⟩:=My hc
 have hm:e.kind∈dm.map (·.1):=by
  unfold yw at h1
  cases hf:dm.find? (fun x=>decide (x.1=e.er.kind))with
  |none=>rw[hf]at h1;cases h1
  |some x=>
   have h2:=List.find?_some hf
   have h3:=List.mem_of_find?_eq_some hf
   rw[show e.kind=x.1 from(of_decide_eq_true h2).symm]
   exact Hc h3
 simp only[dm,Gq,Jp,List.mem_cons,List.mem_singleton,List.not_mem_nil,or_false]at hm
 rcases hm with h|h|h|h|h|h|h|h|h|h|h|h|h|h|h
 ·exact jtc b h hc
 ·exact jac b h hc
 ·exact jqm b h hc
 ·exact jou b h hc
 ·exact ji9 b h hc
 ·exact jge b h hc
 ·exact jsi b w h hc
 ·exact jaq b w h hc
 ·exact jen b w h hc
 ·exact jp0 b h hc
 ·exact jnv b h hc
 ·exact jqb b h hc
 ·exact jn9 b w h hc
 ·exact q7e b h hc
 ·exact absurd h hu
end Go.Z
