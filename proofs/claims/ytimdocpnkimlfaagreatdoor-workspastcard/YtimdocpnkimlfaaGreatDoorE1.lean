/- Chapter 10, plain. -/
import Derived.Test.YtimdocpnkimlfaaGreatDoorW12
set_option linter.unusedVariables false
set_option linter.unusedSimpArgs false
set_option maxRecDepth 100000
open Option renaming some→Ga,getD_some→Ge,any_some→Gy,isSome_iff_exists→G9,none→Hb,bind_some→Jp,isNone_some→Ra
open Bool renaming false_eq_true→Gb,true→Gh,false→Gi,true_and→Gm,and_true→Gn,not_true→G8,not_false→Nz,or_false→Q6,or_true→Rf,and_eq_true→Ro,and_false→Rz,false_and→R3,and_self→R4
open List renaming mem_of_getElem?→Gd,getElem?_eq_some_iff→Gj,map_cons→Gr,getElem?_eq_getElem→Gs,drop_eq_nil_of_le→Gt,length_map→Gx,getElem?_map→Gz,length_cons→G7,length_singleton→Ha,foldl_cons→Hc,mem_map_of_mem→He,flatMap_cons→Ik,any_cons→Jk,map_nil→Jq,map_set→Jr,nil_append→Lg,map_append→Lh,length_nil→Me,drop_zero→Ny,mem_cons_of_mem→Qw,findIdx?_cons→Q7,mem_cons_self→Q9,length_append→Rb,findIdx?_map→Rg,append_assoc→Ri,filter_cons→Rj,nodup_cons→Ry,all_cons→R5
open Nat renaming le_refl→Gq,le_of_lt→Hd,lt_of_le_of_lt→If,succ_le_succ→Rn
open Sum renaming inl→Ix
namespace Go.Z
open Go Go.Abs Go.W
def eS:Option Nat→Int
 |some k=>(k:Int)
 |none=>-1
theorem jkn {α:Type}(l:List α)(p:α→Bool)(f:Int→Option (Int⊕(Int⊕Int)))(dq:f (l.length:Int)=Ga (.inr (.inr (l.length:Int))))
  (cy:∀(i:Nat) x,l[i]?=Ga x→i<l.length→f (i:Int)=Ga (if p x then .inr (.inl (i:Int))else .inl ((i+1:Nat):Int))):
  ∃d,bu f 0=Ga d∧(match d with | .inl k=>k | .inr _=>-1)=eS (l.findIdx? p):=by
 have:=Hg l.length (fun i=>(i:Int)) f (fun d=>match d with | .inl k=>k | .inr _=>(-1:Int)) (fun i=>eS (((l.drop i).findIdx? p).map (· + i))) ⟨_,dq,by rw[Gt (Gq _)];rfl⟩ (fun i hi=>by
  obtain⟨x,hx⟩:∃x,l[i]?=Ga x:=⟨_,Gs hi⟩
  have h1:=cy i x hx hi
  simp only[rL hx,Q7]
  cases hp:p x with
  |true=>
   rw[hp,if_pos rfl]at h1
   exact .inr ⟨_,h1,by simp[eS]⟩
  |false=>
   rw[hp]at h1
   refine .inl ⟨by simpa using h1,?_⟩
   simp only[Gb,if_false,Option.map_map]
   congr 1
   congr 1
   funext n
   simp only[Function.comp];omega)
 obtain⟨d,h1,h2⟩:=this
 refine⟨d,h1,?_⟩
 rw[h2]
 simp
abbrev SM:Nat:=1073741824
theorem nz {α:Type}{l:List α}{p:α→Bool}{f:Int→Option (Int⊕(Int⊕Int))}(hl:l.length≤SM)
  (hf:∀i:Int,f i=cond (decide (i<(l.length:Int))) (qa (qr l i) fun x=>cond (p x) (Ga (.inr (.inl i))) (Ga (.inl (qe .i64 (i+1))))) (Ga (.inr (.inr i)))):
  (qa (bu f 0) fun d=>match d with | .inl k=>Ga k | .inr _=>Ga (-1))=Ga (eS (l.findIdx? p)):=by
 obtain⟨d,h1,h2⟩:=jkn l p f (by rw[hf,zq];rfl) (fun i x hx hi=>by
  rw[hf,yc hi]
  simp only[cond_true,qa,q9 hx]
  cases p x with
  |true=>rfl
  |false=>simp only[cond_false];rw[ye (by unfold SM at hl;omega)];rfl)
 rw[h1]
 simp only[qa]
 rw[←h2]
 cases d<;>rfl
variable {r:ak}{n:List UInt8}
theorem Hh (hl:(r.au.getD []).length≤SM):wM r n=Ga (eS (zy r.er n)):=by
 unfold wM zy
 exact nz (p:=fun x=>decide (x.name=n)) hl fun i=>rfl
theorem D6 (hl:(r.au.getD []).length≤SM):f64 r n=Ga (eS (zy r.er n)):=by
 have:Hj ((r.au.getD []).length:Int) r n=Ga (eS (zy r.er n)):=by
  unfold Hj zy
  refine nz (p:=fun x=>decide (x.name=n)) hl fun i=>?_
  unfold Hk LO
  congr 1
  cases qr (r.au.getD []) i<;>rfl
 unfold f64;rw[this];rfl
theorem pP:r.er.ae=(r.ae.getD []).map aC.er:=rfl
theorem rN:r.er.units=(r.units.getD []).map bg.er:=rfl
theorem LP:zx r.er n=(r.ae.getD []).findIdx? fun x=>decide (x.name=n):=by
 unfold zx;rw[pP,Rg];rfl
theorem TB:zu r.er n=(r.units.getD []).findIdx? fun x=>decide (x.name=n):=by
 unfold zu;rw[rN,Rg];rfl
theorem D7 (hl:(r.ae.getD []).length≤SM):wN r n=Ga (eS (zx r.er n)):=by
 rw[LP];unfold wN
 exact nz (p:=fun x=>decide (x.name=n)) hl fun i=>rfl
theorem vC (hl:(r.ae.getD []).length≤SM):oj r n=Ga (eS (zx r.er n)):=by
 have:Hl ((r.ae.getD []).length:Int) r n=Ga (eS (zx r.er n)):=by
  rw[LP];unfold Hl
  refine nz (p:=fun x=>decide (x.name=n)) hl fun i=>?_
  unfold Hm f206
  congr 1
  cases qr (r.ae.getD []) i<;>rfl
 unfold oj;rw[this];rfl
theorem LQ (hl:(r.units.getD []).length≤SM):Bg r n=Ga (eS (zu r.er n)):=by
 rw[TB];unfold Bg
 exact nz (p:=fun x=>decide (x.name=n)) hl fun i=>rfl
theorem yV (hl:(r.units.getD []).length≤SM):f76 r n=Ga (eS (zu r.er n)):=by
 have:Hn ((r.units.getD []).length:Int) r n=Ga (eS (zu r.er n)):=by
  rw[TB];unfold Hn
  refine nz (p:=fun x=>decide (x.name=n)) hl fun i=>?_
  unfold Ho LR
  congr 1
  cases qr (r.units.getD []) i<;>rfl
 unfold f76;rw[this];rfl
end Go.Z
namespace Go.Z
open Go Go.Abs Go.W
theorem qzz {i}(h:i<9223372036854775807):qe .i64 (((i+1:Nat):Int)-1)=(i:Int):=by
 have:=ye (i:=i) h
 rw[show(((i+1:Nat):Int)-1)=(i:Int) by omega]
 cases i with
 |zero=>rfl
 |succ j=>
  have:=ye (i:=j) (by omega)
  rw[show((j+1:Nat):Int)=(j:Int)+1 by omega,this];omega
variable {r:ak}{n:List UInt8}
theorem TC {sp}(h:kq r.er n=Ga sp):∃k p,zx r.er n=Ga k∧(r.ae.getD [])[k]?=Ga p∧p.er=sp∧p.name=n:=by
 unfold kq at h
 cases hk:zx r.er n with
 |none=>rw[hk]at h;cases h
 |some k=>
  rw[hk]at h
  simp only[Jp,pP,Gz]at h
  cases hp:(r.ae.getD [])[k]? with
  |none=>rw[hp]at h;cases h
  |some p=>
   rw[hp]at h
   rw[LP]at hk
   obtain⟨x,h1,h2,_⟩:=bJ hk
   rw[hp]at h1;cases h1
   exact⟨k,p,rfl,hp,by simpa using h,of_decide_eq_true h2⟩
theorem jxw {u d}(hP:(r.ae.getD []).length≤SM)(hB:∀p∈r.ae.getD [],(p.aH.getD []).length≤SM)(hd:gQ r.er u.er=Ga d):∃D,pQ r u=Ga D∧pR r u=Ga D∧D.er=d:=by
 unfold gQ at hd
 cases hp:kq r.er u.er.product with
 |none=>rw[hp]at hd;cases hd
 |some sp=>
  rw[hp]at hd
  obtain⟨k,p,h1,h2,rfl,_⟩:=TC hp
  simp only[Jp,Bh]at hd
  have hB:=hB p (Gd h2)
  split at hd
  ·rename_i hv
   obtain⟨i,hi⟩:∃i:Nat,u.version=((i+1:Nat):Int):=⟨(u.version-1).toNat,by have:1≤u.version:=hv;omega⟩
   have he:(u.er.version-1).toNat=i:=by show(u.version-1).toNat=i;omega
   rw[he]at hd
   have oS:((p.aH.getD []).map bf.er)[i]?=Ga d:=hd
   rw[Gz]at oS
   cases hD:(p.aH.getD [])[i]? with
   |none=>rw[hD]at oS;cases oS
   |some D=>
    rw[hD]at oS
    have bw:=(Gj.1 hD).1
    have hw:qe .i64 (u.version-1)=(i:Int):=by rw[hi];exact qzz (by unfold SM at hB;omega)
    refine⟨D,?_,?_,by simpa using oS⟩
    ·unfold pQ
     rw[vC hP,show zx r.er u.product=Ga k from h1]
     simp only[qa,eS,q9 h2,hw,q9 hD]
    ·unfold pR
     rw[D7 hP,show zx r.er u.product=Ga k from h1]
     simp only[qa,eS,q9 h2,hw,q9 hD]
  ·cases hd
theorem LS {u v}(hP:(r.ae.getD []).length≤SM)(hd:ol r.er u.er=Ga v):D8 r u=Ga v∧D9 r u=Ga v:=by
 unfold ol at hd
 cases hp:kq r.er u.er.product with
 |none=>rw[hp]at hd;cases hd
 |some sp=>
  rw[hp]at hd
  obtain⟨k,p,h1,h2,rfl,_⟩:=TC hp
  have hv:v=((p.aH.getD []).length:Int):=by
   simp only[Option.map_some,Ga.injEq]at hd
   rw[←hd]
   show((((p.aH.getD []).map bf.er).length:Nat):Int)=_
   rw[Gx]
  subst hv
  refine⟨?_,?_⟩
  ·unfold D8 Ea
   rw[vC hP,show zx r.er u.product=Ga k from h1]
   simp only[qa,eS,q9 h2]
  ·unfold D9
   rw[D7 hP,show zx r.er u.product=Ga k from h1]
   simp only[qa,eS,q9 h2]
theorem TD {α γ ε:Type}(g:γ→α→γ):∀(l:List α) (i:Nat) (c:γ),D2 (fun _ c x=>(.inl (g c x):γ⊕ε)) i c l=.inl (l.foldl g c)
 | [],i,c=>rfl
 |x::l,i,c=>by simp only[D2,Hc];exact TD g l (i+1) (g c x)
theorem Hp {α γ σ δ:Type}(l:List α)(f:σ→Option (σ⊕δ))(mk:Nat→γ→σ)(g:γ→α→γ)(En:γ→δ)(c:γ)(dq:∀c,f (mk l.length c)=Ga (.inr (En c)))
  (cy:∀i c x,l[i]?=Ga x→i<l.length→f (mk i c)=Ga (.inl (mk (i+1) (g c x)))):bu f (mk 0 c)=Ga (En (l.foldl g c)):=by
 have:=q3v (ε:=Empty) l f mk (fun _ c x=>.inl (g c x)) En (fun e=>nomatch e) (fun _ _=>True) c (fun c _=>dq c) (fun i c x hx hi _=>⟨trivial,cy i c x hx hi⟩) trivial
 rw[this,TD]
theorem jop {u t}(hl:(u.results.getD []).length≤SM):Hq u t=Ga (rO u.er t):=by
 unfold Hq
 have:=Hp (u.results.getD []) (Bi u t) (fun i (c:Bool)=>(c,(i:Int))) (fun is x=>if decide (x.k=t.k)&&decide (x.a=u.version)then decide (t.a≤x.b)&&decide (x.b≤t.b)else is) (fun c=>(c,((u.results.getD []).length:Int))) Gi (fun c=>by unfold Bi;simp only[zq];rfl)
  (fun i c x hx hi=>by
   unfold Bi
   simp only[yc hi,cond_true,qa,q9 hx]
   rw[ye (by unfold SM at hl;omega)]
   by_cases h1:x.k=t.k<;>by_cases h2:x.a=u.version<;>by_cases h3:t.a≤x.b<;>simp[h1,h2,h3])
 rw[show((Gi,(0:Int)):Bool×Int)=(Gi,((0:Nat):Int))from rfl,this]
 rfl
theorem jpy {u t}(hl:(u.results.getD []).length≤SM)(hv:u.version≠-1):Hr u t=Ga (rO u.er t):=by
 unfold Hr
 have:=Hp (u.results.getD []) (Bj u t) (fun i (c:jc)=>((i:Int),c.k,c.a,c.b)) (fun c x=>if decide (x.k=t.k)&&decide (x.a=u.version)then x else c) (fun c=>(((u.results.getD []).length:Int),c.k,c.a,c.b)) ⟨[],-1,0⟩ (fun c=>by unfold Bj;simp only[zq];rfl)
  (fun i c x hx hi=>by
   unfold Bj
   simp only[yc hi,cond_true,qa,q9 hx]
   rw[ye (by unfold SM at hl;omega)]
   by_cases h1:x.k=t.k<;>by_cases h2:x.a=u.version<;>simp[h1,h2])
 rw[show(((0:Int),([]:List UInt8),(-1:Int),(0:Int)):Int×List UInt8×Int×Int)=(((0:Nat):Int),[],-1,0)from rfl]
 simp only[]at this
 rw[this]
 simp only[qa]
 have key:∀(l:List jc) (c:jc) (b:Bool),(c=⟨[],-1,0⟩∧b=Gi∨c.a=u.version∧b=(decide (t.a≤c.b)&&decide (c.b≤t.b))) →
   (let c':=l.foldl (fun c x=>if decide (x.k=t.k)&&decide (x.a=u.version)then x else c) c
    let b':=l.foldl (fun is x=>if decide (x.k=t.k)&&decide (x.a=u.version)then decide (t.a≤x.b)&&decide (x.b≤t.b)else is) b
    c'=⟨[],-1,0⟩∧b'=Gi∨c'.a=u.version∧b'=(decide (t.a≤c'.b)&&decide (c'.b≤t.b))):=by
  intro l
  induction l with
  |nil=>intro c b h;exact h
  |cons x l ih=>
   intro c b h
   simp only[Hc]
   apply ih
   by_cases h1:x.k=t.k<;>by_cases h2:x.a=u.version
   ·simp only[h1,h2,decide_true,R4,if_true]
    right;trivial
   all_goals simpa only[h1,h2,decide_true,decide_false,Rz,R3,R4,Gb,if_false]using h
 have k:=key (u.results.getD []) ⟨[],-1,0⟩ Gi (.inl ⟨rfl,rfl⟩)
 simp only at k
 show _=Ga ((u.results.getD []).foldl (fun is x=>if decide (x.k=t.k)&&decide (x.a=u.version)then decide (t.a≤x.b)&&decide (x.b≤t.b)else is) Gi)
 rcases k with⟨h1,h2⟩|⟨h1,h2⟩
 ·rw[h2,h1];rfl
 ·rw[h2]
  generalize (u.results.getD []).foldl (fun c x=>if decide (x.k=t.k)&&decide (x.a=u.version)then x else c) ⟨[],-1,0⟩=c at h1
  have:decide (c.a=-1)=Gi:=decide_eq_false (by rw[h1];exact hv)
  simp only[this,Rz,R3,cond_false]
  by_cases h3:t.a≤c.b<;>simp[h3]
end Go.Z
namespace Go.Z
open Go Go.Abs Go.W
theorem TE {α β:Type}(p:α→Bool)(g:α→β):∀l:List α,(l.flatMap fun x=>if p x then [g x]else [])=(l.filter p).map g
 | []=>rfl
 |x::l=>by
  rw[Ik,TE p g l,Rj]
  cases p x<;>rfl
theorem TF {α β:Type}{l:List α}{p:α→Bool}{g:α→β}{f}(hl:l.length≤SM)
  (dq:∀o w,f (o,(l.length:Int),w)=Ga (.inr (o,w,(l.length:Int))))
  (hf:∀(i:Nat) x o w,l[i]?=Ga x→f (o,(i:Int),w)=cond (p x) (cond w (qa (bB o [g x]) fun v=>Ga (.inl (v,((i+1:Nat):Int),Gh))) (cond o.isNone (qa (bB o [g x]) fun v=>Ga (.inl (v,((i+1:Nat):Int),Gh))) Hb)) (Ga (.inl (o,((i+1:Nat):Int),w)))):
  bu f (Hb,0,Gi)=Ga (jy ((l.filter p).map g),gu ((l.filter p).map g),(l.length:Int)):=by
 have:=jl6 l (fun i=>(i:Int)) f (fun x=>if p x then [g x]else []) [] (fun i a=>a.length≤i) (Gq _) (fun a=>dq _ _) (fun i x a hx hi ha=>by
  cases hp:p x with
  |true=>
   refine⟨by simp;omega,?_⟩
   rw[hf i x _ _ hx,hp]
   simp only[cond_true,if_true]
   rw[Bk]
   exact wL (x:=g x) (k:=fun v=>Ga (Ix (v,((i+1:Nat):Int),Gh))) (by unfold SM at hl;omega)
  |false=>
   refine⟨by simp;omega,?_⟩
   rw[hf i x _ _ hx,hp]
   simp)
 rw[TE,Lg]at this
 exact this
theorem LU {α:Type}{l:List α}{p:α→Bool}{q:α→Option Bool}{f}(hl:l.length≤SM)(hq:∀x∈l,q x=Ga (p x))
  (hf:∀s,f s=cond (decide (s.2.1<(l.length:Int))) (qa (qr l s.2.1) fun x=>qa (q x) fun b=>cond b (cond s.2.2 (qa (bB s.1 [x]) fun v=>Ga (.inl (v,qe .i64 (s.2.1+1),Gh))) (cond s.1.isNone (qa (bB s.1 [x]) fun v=>Ga (.inl (v,qe .i64 (s.2.1+1),Gh))) Hb)) (Ga (.inl (s.1,qe .i64 (s.2.1+1),s.2.2)))) (Ga (.inr (s.1,s.2.2,s.2.1)))):
  bu f (Hb,0,Gi)=Ga (jy (l.filter p),gu (l.filter p),(l.length:Int)):=by
 have:=TF (l:=l) (p:=p) (g:=fun x=>x) (f:=f) hl (fun o w=>by rw[hf];simp only[zq,cond_false]) (fun i x o w hx=>by
  have hi:=(Gj.1 hx).1
  rw[hf]
  simp only[yc hi,cond_true,qa,q9 hx,hq x (Gd hx)]
  rw[ye (by unfold SM at hl;omega)])
 simpa using this
theorem TG {α β:Type}{l:List α}{g:α→β}{q:α→Option β}{f}(hl:l.length≤SM)(hq:∀x∈l,q x=Ga (g x))
  (hf:∀s,f s=cond (decide (s.2.1<(l.length:Int))) (qa (qr l s.2.1) fun x=>qa (q x) fun b=>cond s.2.2 (qa (bB s.1 [b]) fun v=>Ga (.inl (v,qe .i64 (s.2.1+1),Gh))) (cond s.1.isNone (qa (bB s.1 [b]) fun v=>Ga (.inl (v,qe .i64 (s.2.1+1),Gh))) Hb)) (Ga (.inr (s.1,s.2.2,s.2.1)))):
  bu f (Hb,0,Gi)=Ga (jy (l.map g),gu (l.map g),(l.length:Int)):=by
 have:=TF (l:=l) (p:=fun _=>Gh) (g:=g) (f:=f) hl (fun o w=>by rw[hf];simp only[zq,cond_false]) (fun i x o w hx=>by
  have hi:=(Gj.1 hx).1
  rw[hf]
  simp only[yc hi,cond_true,qa,q9 hx,hq x (Gd hx)]
  rw[ye (by unfold SM at hl;omega)])
 rw[List.filter_eq_self.2 (fun _ _=>rfl)]at this
 exact this
variable {r:ak}{u:bg}{D:bf}
theorem jae {α:Type}{l:List α}{p}(hl:l.length≤SM):(l.filter p).length≤SM:=Nat.le_trans (List.length_filter_le _ _) hl
theorem juz (hd:pQ r u=Ga D)(hr:(u.results.getD []).length≤SM)(ht:(D.aA.getD []).length≤SM)(hv:u.version≠-1):∃w,f78 r u=Ga (jy (yW D.er u.er),w):=by
 unfold f78
 rw[hd]
 simp only[qa]
 have h1:Hs D.aA u=Ga (jy ((D.aA.getD []).filter fun t=>!rO u.er t),gu ((D.aA.getD []).filter fun t=>!rO u.er t)):=by
  unfold Hs
  rw[LU (f:=Ht D.aA u) (l:=D.aA.getD []) (p:=fun t=>!rO u.er t) (q:=fun t=>Hu t u) ht (fun x _=>by unfold Hu;rw[jpy hr hv];rfl) (fun s=>rfl)]
  rfl
 rw[h1]
 simp only[]
 have h2:f129 (jy ((D.aA.getD []).filter fun t=>!rO u.er t))=Ga (jy (yW D.er u.er),gu (yW D.er u.er)):=by
  unfold f129
  rw[TG (f:=Hv (jy ((D.aA.getD []).filter fun t=>!rO u.er t))) (l:=((jy ((D.aA.getD []).filter fun t=>!rO u.er t)).getD [])) (g:=fun t:jc=>t.k) (q:=LV) (by rw[zt];exact jae ht) (fun x _=>rfl) (fun s=>rfl),zt]
  rfl
 rw[h2]
 exact⟨_,rfl⟩
theorem jqb (hd:pR r u=Ga D)(hr:(u.results.getD []).length≤SM)(ht:(D.aA.getD []).length≤SM):∃w,Hw r u=Ga (jy (yW D.er u.er),w):=by
 unfold Hw
 rw[hd]
 simp only[qa]
 have:=TF (l:=D.aA.getD []) (p:=fun t=>!rO u.er t) (g:=fun t:jc=>t.k) (f:=Bl u D) ht (fun o w=>by unfold Bl;simp only[zq,cond_false]) (fun i x o w hx=>by
  have hi:=(Gj.1 hx).1
  unfold Bl
  simp only[yc hi,cond_true,qa,q9 hx,jop hr]
  rw[ye (by unfold SM at ht;omega)]
  cases rO u.er x<;>rfl)
 rw[this]
 exact⟨_,rfl⟩
theorem TH {n x}(h:oo r.er n=Ga x):∃k:Nat,zy r.er n=Ga k∧(r.au.getD [])[k]?=Ga x:=by
 unfold oo at h
 cases hk:zy r.er n with
 |none=>rw[hk]at h;cases h
 |some k=>rw[hk]at h;exact⟨k,rfl,h⟩
theorem Hx {n}(h:(zy r.er n).isSome=Gh):∃x,oo r.er n=Ga x:=by
 unfold oo
 cases hk:zy r.er n with
 |none=>rw[hk]at h;cases h
 |some k=>
  obtain⟨x,h1,_⟩:=bJ hk
  exact⟨x,h1⟩
def LW (r:bm)(kind:Str)(n:Int)(x:bn):Int:=if(oo r x.k).any (fun l=>decide (l.kind=kind))then qe .i64 (n+x.n)else n
theorem jpk {kind}(hL:(r.au.getD []).length≤SM)(hu:(u.uses.getD []).length≤SM)(hw:∀x∈u.uses.getD [],(zy r.er x.k).isSome=Gh):Hy r u kind=Ga (Eb (qe .i64) r.er u.er kind):=by
 unfold Hy
 have:=Hp (u.uses.getD []) (Bm r u kind) (fun i (c:Int)=>(c,(i:Int))) (LW r.er kind) (fun c=>(c,((u.uses.getD []).length:Int))) 0 (fun c=>by unfold Bm;simp only[zq];rfl)
  (fun i c x hx hi=>by
   obtain⟨y,hy⟩:=Hx (hw x (Gd hx))
   obtain⟨k,h1,h2⟩:=TH hy
   unfold Bm LW
   simp only[yc hi,cond_true,qa,q9 hx,Hh hL,h1,eS,q9 h2,hy,Gy]
   rw[ye (by unfold SM at hu;omega)]
   by_cases h3:y.kind=kind<;>simp[h3])
 rw[show(((0:Int),(0:Int)):Int×Int)=((0:Int),((0:Nat):Int))from rfl,this]
 rfl
theorem q8l {σ:Type}{step g}(I:Nat→σ→Prop)(hL:(r.au.getD []).length≤SM)(hu:(u.uses.getD []).length≤SM)
  (hg:∀i x c,(u.uses.getD [])[i]?=Ga x→I i c→I (i+1) (g c x)∧∃y,oo r.er x.k=Ga y∧step c y x.n=Ga (g c x)) (c:σ) (hI:I 0 c):bu (oT r u step) (0,c)=Ga (((u.uses.getD []).length:Int),(u.uses.getD []).foldl g c):=by
 have:=q3v (ε:=Empty) (u.uses.getD []) (oT r u step) (fun i (c:σ)=>((i:Int),c)) (fun _ c x=>.inl (g c x)) (fun c=>(((u.uses.getD []).length:Int),c)) (fun e=>nomatch e) I c (fun c _=>by unfold oT;simp only[zq];rfl)
  (fun i c x hx hi hI=>by
   obtain⟨hI',y,h1,h2⟩:=hg i x c hx hI
   obtain⟨k,h3,h4⟩:=TH h1
   refine⟨hI',?_⟩
   unfold oT
   simp only[yc hi,cond_true,qa,q9 hx,D6 hL,h3,eS,q9 h4,h2]
   rw[ye (by unfold SM at hu;omega)]) hI
 rw[show((0:Int),c)=(((0:Nat):Int),c)from rfl,this,TD]
end Go.Z
namespace Go.Z
open Go Go.Abs Go.W
variable {r:ak}{u:bg}{D:bf}
theorem q4z {k v}:∀l:List (List UInt8×Int),(kX l k v).length≤l.length+1
 | []=>Gq _
 |p::l=>by
  unfold kX
  split
  ·simp
  ·simp only[G7];exact Rn (q4z l)
theorem q9z {α γ:Type}{l:List α}{i x}(hx:l[i]?=Ga x)(g:γ→α→γ)(c:γ):(l.take (i+1)).foldl g c=g ((l.take i).foldl g c) x:=by
 rw[List.take_add_one,hx,List.foldl_append];rfl
theorem jnx (hL:(r.au.getD []).length≤SM)(hu:(u.uses.getD []).length≤SM)(hw:∀x∈u.uses.getD [],(zy r.er x.k).isSome=Gh):∃M,bu (oT r u wO) (0,[])=Ga (((u.uses.getD []).length:Int),M)∧∀kind,mJ M kind=Eb (qe .i64) r.er u.er kind:=by
 let g:List (List UInt8×Int)→bn→List (List UInt8×Int):=fun c x=>match oo r.er x.k with
  |some y=>kX c y.kind (qe .i64 (mJ c y.kind+x.n))
  |none=>c
 let I:Nat→List (List UInt8×Int)→Prop:=fun i M=>M.length≤i∧∀kind,mJ M kind=((u.uses.getD []).take i).foldl (LW r.er kind) 0
 have hg:∀i x c,(u.uses.getD [])[i]?=Ga x→I i c→I (i+1) (g c x)∧∃y,oo r.er x.k=Ga y∧wO c y x.n=Ga (g c x):=by
  intro i x c hx hI
  obtain⟨y,hy⟩:=Hx (hw x (Gd hx))
  have hi:=(Gj.1 hx).1
  have Rh:g c x=kX c y.kind (qe .i64 (mJ c y.kind+x.n)):=by simp only[g,hy]
  rw[Rh]
  refine⟨⟨Nat.le_trans (q4z _) (Rn hI.1),fun kind=>?_⟩,y,hy,?_⟩
  ·rw[q9z hx,jgt,←hI.2 kind]
   unfold LW
   rw[hy]
   simp only[Gy]
   by_cases hk:kind=y.kind
   ·subst hk;simp
   ·have dA:¬y.kind=kind:=fun h=>hk h.symm
    simp[hk,dA]
  ·unfold wO LN
   rw[if_pos (by have:=hI.1;unfold SM at hu;omega)]
 have:=q8l (step:=wO) (g:=g) I hL hu hg [] ⟨Gq _,fun kind=>rfl⟩
 have hI:∀(k i:Nat) (c:List (List UInt8×Int)),i+k=(u.uses.getD []).length→I i c→I (u.uses.getD []).length (((u.uses.getD []).drop i).foldl g c):=by
  intro k
  induction k with
  |zero=>
   intro i c hi hc
   have:i=(u.uses.getD []).length:=by omega
   subst this
   rw[Gt (Gq _)];exact hc
  |succ k ih=>
   intro i c hi hc
   obtain⟨x,hx⟩:∃x,(u.uses.getD [])[i]?=Ga x:=⟨_,Gs (by omega)⟩
   rw[rL hx,Hc]
   exact ih (i+1) _ (by omega) (hg i x c hx hc).1
 have h2:=hI _ 0 [] (Nat.zero_add _) ⟨Gq _,fun kind=>rfl⟩
 rw[Ny]at h2
 refine⟨_,this,fun kind=>?_⟩
 rw[h2.2 kind,List.take_length]
 rfl
theorem yX (o:Option Nat):decide (0≤eS o)=o.isSome:=by
 cases o with
 |none=>rfl
 |some k=>exact decide_eq_true (by show(0:Int)≤(k:Int);omega)
theorem cL {α:Type}{p:α→Bool}{l:List α}:(l.findIdx? p).isSome=l.any p:=by rw[Ec]
theorem jg5 {l:Option (List bn)}{M:List (List UInt8×Int)}(hl:(l.getD []).length≤SM):Hz l M=Ga ((l.getD []).any fun n=>decide (mJ M n.k<n.n)):=by
 have:HA l M=Ga (eS ((l.getD []).findIdx? fun n=>decide (mJ M n.k<n.n))):=by
  unfold HA
  exact nz (p:=fun n=>decide (mJ M n.k<n.n)) hl fun i=>rfl
 unfold Hz
 rw[this]
 simp only[qa,yX,cL]
theorem jot (hL:(r.au.getD []).length≤SM)(hu:(u.uses.getD []).length≤SM)(hw:∀x∈u.uses.getD [],(zy r.er x.k).isSome=Gh)(hd:pQ r u=Ga D)(hn:(D.aB.getD []).length≤SM):HC r u=Ga (yY (qe .i64) r.er D.er u.er):=by
 obtain⟨M,h1,h2⟩:=jnx hL hu hw
 unfold HC
 rw[h1,hd]
 simp only[qa,jg5 hn,Ga.injEq]
 unfold yY
 rw[show D.er.aB=D.aB.getD []from rfl]
 induction D.aB.getD []with
 |nil=>rfl
 |cons n l ih=>
  rw[Jk,R5,Bool.not_or,ih,h2]
  congr 1
  by_cases h:Eb (qe .i64) r.er u.er n.k<n.n
  ·rw[decide_eq_true h,decide_eq_false (by omega)];rfl
  ·rw[decide_eq_false h,decide_eq_true (by omega)];rfl
theorem jnl (hL:(r.au.getD []).length≤SM)(hu:(u.uses.getD []).length≤SM)(hw:∀x∈u.uses.getD [],(zy r.er x.k).isSome=Gh)(hd:pR r u=Ga D)(hn:(D.aB.getD []).length≤SM):HD r u=Ga (yY (qe .i64) r.er D.er u.er):=by
 unfold HD
 rw[hd]
 simp only[qa]
 obtain⟨d,h1,h2⟩:=Tx (D.aB.getD []) (Bn r u D) (fun n=>decide (n.n≤Eb (qe .i64) r.er u.er n.k)) (fun d=>match d with | .inl _=>Gi | .inr _=>Gh) ⟨.inr ((D.aB.getD []).length:Int),by unfold Bn;simp only[zq];rfl,rfl⟩ (fun i x hx hi=>by
  unfold Bn
  simp only[yc hi,cond_true,qa,q9 hx,jpk hL hu hw]
  rw[ye (by unfold SM at hn;omega)]
  by_cases h:Eb (qe .i64) r.er u.er x.k<x.n
  ·exact .inr ⟨decide_eq_false (by omega),.inl (),by rw[decide_eq_true h];rfl,rfl⟩
  ·exact .inl ⟨decide_eq_true (by omega),by rw[decide_eq_false h];rfl⟩)
 rw[h1]
 unfold yY
 rw[show D.er.aB=D.aB.getD []from rfl,←h2]
 cases d<;>rfl
def Ed (r:bm)(us:List bn):List je:=us.map fun x=>(oo r x.k).getD ⟨[],[],0,0,Gi⟩
theorem jk0 (hL:(r.au.getD []).length≤SM)(hu:(u.uses.getD []).length≤SM)(hw:∀x∈u.uses.getD [],(zy r.er x.k).isSome=Gh):bu (oT r u yZ) (0,Hb)=Ga (((u.uses.getD []).length:Int),jy (Ed r.er (u.uses.getD []))):=by
 let gx:bn→je:=fun x=>(oo r.er x.k).getD ⟨[],[],0,0,Gi⟩
 let g:Option (List je)→bn→Option (List je):=fun c x=>jy (c.getD []++[gx x])
 have:=q8l (step:=yZ) (g:=g) (fun i c=>∃a:List je,c=jy a∧a.length=i) hL hu (fun i x c hx hI=>by
  obtain⟨a,rfl,ha⟩:=hI
  have hi:=(Gj.1 hx).1
  obtain⟨y,hy⟩:=Hx (hw x (Gd hx))
  have hgx:gx x=y:=by simp only[gx,hy,Ge]
  refine⟨⟨a++[y],by simp only[g,hgx,zt],by simp[ha]⟩,y,hy,?_⟩
  unfold yZ
  rw[qxe (by unfold SM at hu;omega)]
  simp only[g,hgx,zt]) Hb ⟨[],rfl,rfl⟩
 rw[this]
 congr 2
 have key:∀(l:List bn) (a:List je),l.foldl g (jy a)=jy (a++l.map gx):=by
  intro l
  induction l with
  |nil=>intro a;simp
  |cons x l ih=>
   intro a
   rw[Hc,show g (jy a) x=jy (a++[gx x]) by simp only[g,zt],ih,Gr,Ri];rfl
 have:=key (u.uses.getD []) []
 rw[Lg]at this
 exact this
theorem q60 (hw:∀x∈u.uses.getD [],(zy r.er x.k).isSome=Gh):Bo r.er u.er=!((Ed r.er (u.uses.getD [])).filter (·.held)).isEmpty:=by
 unfold Bo Ed
 rw[show u.er.uses=u.uses.getD []from rfl]
 revert hw
 generalize u.uses.getD []=us
 intro hw
 induction us with
 |nil=>rfl
 |cons x l ih=>
  obtain⟨y,hy⟩:=Hx (hw x (Q9 ..))
  rw[Jk,ih (fun x hx=>hw x (Qw _ hx)),Gr,Rj,hy]
  simp only[Gy,Ge]
  cases y.held<;>rfl
theorem lT {b e}:f48 b e=Ga (if b then e else 0):=by unfold f48;cases b<;>rfl
theorem jpx {l}(hl:l.length≤SM):HE (jy l)=Ga (jy (l.filter (·.held)),gu (l.filter (·.held))):=by
 unfold HE
 rw[LU (f:=HF (jy l)) (l:=(jy l).getD []) (p:=fun x:je=>x.held) (q:=fun x=>LX x) (by rw[zt];exact hl) (fun x _=>rfl) (fun s=>rfl),zt]
 rfl
def gB:List Int→Int
 | []=>0
 |e::l=>if e=0 then gB l else e
theorem iY {l}(hl:l.length≤SM):f46 (Ga l)=Ga (gB l):=by
 unfold f46
 have:=Hg l.length (fun i=>(i:Int)) (Bp (Ga l)) (fun d=>match d with | .inl k=>k | .inr _=>(0:Int)) (fun i=>gB (l.drop i)) ⟨.inr (l.length:Int),by unfold Bp;simp only[Ge,zq];rfl,by rw[Gt (Gq _)];rfl⟩ (fun i hi=>by
  obtain⟨x,hx⟩:∃x,l[i]?=Ga x:=⟨_,Gs hi⟩
  unfold Bp
  simp only[Ge,yc hi,cond_true,qa,q9 hx,rL hx,gB]
  by_cases h0:x=0
  ·simp only[h0,decide_true,cond_true,if_true]
   rw[ye (by unfold SM at hl;omega)]
   left;constructor<;>first|rfl|trivial
  ·simp only[h0,decide_false,cond_false,if_false]
   exact .inr ⟨_,rfl,rfl⟩)
 obtain⟨d,h1,h2⟩:=this
 rw[show((0:Int))=((0:Nat):Int)from rfl,h1]
 rw[Ny]at h2
 simp only[qa]
 rw[←h2]
 cases d<;>rfl
theorem qvq {α:Type}{l:List α}:decide (0<(((jy l).getD []).length:Int))=!l.isEmpty:=by
 rw[zt]
 cases l with
 |nil=>rfl
 |cons x l=>simp
theorem qzr {w r u d v}(hd:gQ r u=Ga d)(hv:ol r u=Ga v):vD w r u=if u.ar then 21 else if u.version≠v then 32 else if !yY w r d u then 20 else if !(yW d u).isEmpty then 31 else if Bo r u then 34 else 0:=by
 unfold vD
 rw[hd,hv]
 cases u.ar
 ·by_cases h:u.version=v
  ·simp[h]
  ·simp[h,Ne.symm h]
 ·rfl
theorem jsq {v:Int}(hP:(r.ae.getD []).length≤SM)(gi:ol r.er u.er=Ga v)(hL:(r.au.getD []).length≤SM)(hu:(u.uses.getD []).length≤SM)(hw:∀x∈u.uses.getD [],(zy r.er x.k).isSome=Gh)(hd:pQ r u=Ga D)(hp:gQ r.er u.er=Ga D.er)(hn:(D.aB.getD []).length≤SM)(hr:(u.results.getD []).length≤SM)(ht:(D.aA.getD []).length≤SM)(hv:u.version≠-1):f79 r u=Ga (vD (qe .i64) r.er u.er):=by
 obtain⟨w,hm⟩:=juz hd hr ht hv
 have TI:(Ed r.er (u.uses.getD [])).length≤SM:=by unfold Ed;rw[Gx];exact hu
 unfold f79
 rw[jk0 hL hu hw]
 simp only[qa,lT,(LS hP gi).1,jot hL hu hw hd hn,hm,jpx TI,qvq]
 rw[iY (by simp[SM]),qzr hp gi,q60 hw]
 congr 1
 show gB _=if u.ar then 21 else if u.version≠v then 32 else _
 cases u.ar<;>by_cases h1:u.version=v<;>cases yY (qe .i64) r.er D.er u.er<;>cases (yW D.er u.er).isEmpty<;>cases ((Ed r.er (u.uses.getD [])).filter (·.held)).isEmpty<;>simp[gB,h1]
theorem jgd (hL:(r.au.getD []).length≤SM)(hu:(u.uses.getD []).length≤SM)(hw:∀x∈u.uses.getD [],(zy r.er x.k).isSome=Gh):(qa (bu (zA r u) 0) fun d=>match d with | .inl _=>Ga (34:Int) | .inr _=>Ga 0)=Ga (if Bo r.er u.er then 34 else 0):=by
 obtain⟨d,h1,h2⟩:=Tx (u.uses.getD []) (zA r u) (fun x=>!(oo r.er x.k).any (·.held)) (fun d=>match d with | .inl _=>Gi | .inr _=>Gh) ⟨.inr ((u.uses.getD []).length:Int),by unfold zA;simp only[zq];rfl,rfl⟩ (fun i x hx hi=>by
  obtain⟨y,hy⟩:=Hx (hw x (Gd hx))
  obtain⟨k,h3,h4⟩:=TH hy
  unfold zA
  simp only[yc hi,cond_true,qa,q9 hx,Hh hL,h3,eS,q9 h4,hy,Gy]
  rw[ye (by unfold SM at hu;omega)]
  cases y.held with
  |true=>exact .inr ⟨rfl,.inl (),rfl,rfl⟩
  |false=>exact .inl ⟨rfl,rfl⟩)
 rw[h1]
 have h3:Bo r.er u.er=!((u.uses.getD []).all fun x=>!(oo r.er x.k).any (·.held)):=by
  unfold Bo
  rw[show u.er.uses=u.uses.getD []from rfl]
  induction u.uses.getD []with
  |nil=>rfl
  |cons x l ih=>rw[Jk,R5,ih,Bool.not_and,Bool.not_not]
 rw[h3,←h2]
 cases d<;>rfl
theorem jpv {v:Int}(hP:(r.ae.getD []).length≤SM)(gi:ol r.er u.er=Ga v)(hL:(r.au.getD []).length≤SM)(hu:(u.uses.getD []).length≤SM)(hw:∀x∈u.uses.getD [],(zy r.er x.k).isSome=Gh)(hd:pR r u=Ga D)(hp:gQ r.er u.er=Ga D.er)(hn:(D.aB.getD []).length≤SM)(hr:(u.results.getD []).length≤SM)(ht:(D.aA.getD []).length≤SM):f266 r u=Ga (vD (qe .i64) r.er u.er):=by
 rw[qzr hp gi]
 unfold f266
 cases hs:u.ar with
 |true=>rw[show u.er.ar=Gh from hs];rfl
 |false=>
  have pA:(⟨u.name,u.product,u.version,u.uses,u.results,u.partner,Gi,u.ah⟩:bg)=u:=by cases u;simp only at hs;rw[hs]
  rw[show u.er.ar=Gi from hs,pA]
  obtain⟨w,hm⟩:=jqb (r:=r) (u:=u) hd hr ht
  simp only[cond_false,qa,(LS hP gi).2,jnl hL hu hw hd hn,hm,qvq,Gb,if_false]
  have hh:=jgd hL hu hw
  simp only[qa]at hh
  by_cases h1:u.version=v
  ·rw[decide_eq_true h1,if_neg (show ¬u.er.version≠v from fun h=>h h1)]
   simp only[cond_true]
   cases yY (qe .i64) r.er D.er u.er
   ·rfl
   ·simp only[cond_true,G8,Gb,if_false]
    cases (yW D.er u.er).isEmpty
    ·rfl
    ·simp only[G8,cond_false,Gb,if_false]
     exact hh
  ·rw[decide_eq_false h1,if_pos (show u.er.version≠v from h1)]
   rfl
end Go.Z
namespace Go.Z
open Go Go.Abs Go.W
theorem Ee {α:Type}{o:Option (List α)}{ys}(h:(o.getD []).length+ys.length≤SM)(hy:ys≠[]):bB o ys=Ga (Ga (o.getD []++ys)):=by
 unfold bB Ef
 rw[if_pos h]
 cases o<;>cases ys<;>first|exact absurd rfl hy|rfl
theorem Bq {α:Type}{ys:List α}(h:ys.length≤SM):bB (Ga []) ys=Ga (Ga ys):=by
 unfold bB Ef
 rw[if_pos (by simpa using h)]
 cases ys<;>rfl
theorem zB {α:Type}{o:Option (List α)}{x}(h:(o.getD []).length<SM):(qa (cond o.isNone (Ga (Hb,Gi)) (qa (bB (Ga []) (o.getD [])) fun v=>Ga (v,Gh))) fun v1=>cond v1.2 (qa (bB v1.1 [x]) fun v4=>Ga v4) (cond v1.1.isNone (qa (bB v1.1 [x]) fun v7=>Ga v7) Hb))=Ga (Ga (o.getD []++[x])):=by
 cases o with
 |none=>rfl
 |some l=>
  have h':l.length<SM:=h
  simp only[Ra,cond_false,Ge]
  rw[Bq (by omega)]
  simp only[qa,cond_true]
  rw[Ee (o:=Ga l) (by simp only[Ge,Ha];omega) (by simp)]
  rfl
theorem jow {o:Option (List je)}{x:je}(h:(o.getD []).length<SM):LY o x=Ga (Ga (o.getD []++[x])):=zB h
theorem jn3 {o:Option (List aC)}{x:aC}(h:(o.getD []).length<SM):LZ o x=Ga (Ga (o.getD []++[x])):=zB h
theorem jol {o:Option (List bg)}{x:bg}(h:(o.getD []).length<SM):f225 o x=Ga (Ga (o.getD []++[x])):=zB h
theorem jql {o:Option (List bf)}{x:bf}(h:(o.getD []).length<SM):L0 o x=Ga (Ga (o.getD []++[x])):=zB h
theorem jpt {o:Option (List bn)}{x:bn}(h:(o.getD []).length<SM):L2 o x=Ga (Ga (o.getD []++[x])):=zB h
theorem jn4 {o:Option (List jc)}{x:jc}(h:(o.getD []).length<SM):f277 o x=Ga (Ga (o.getD []++[x])):=zB h
theorem jqm {o:Option (List bn)}{x:bn}(h:(o.getD []).length<SM):f284 o x=Ga (Ga (o.getD []++[x])):=zB h
theorem joa {o:Option (List jc)}{x:jc}(h:(o.getD []).length<SM):L3 o x=Ga (Ga (o.getD []++[x])):=zB h
theorem oq {α:Type}{o:Option (List α)}{i:Nat}{x y:α}{g}(hl:(o.getD []).length≤SM)(hx:(o.getD [])[i]?=Ga x)(hg:g x=Ga y):gv o (i:Int) g=Ga (Ga ((o.getD []).set i y)):=by
 unfold gv
 rw[if_pos ⟨hl,by omega⟩,Int.toNat_natCast,hx]
 simp only[hg]
theorem TJ {α:Type}{o:Option (List α)}{i x}(hl:(o.getD []).length≤SM)(hx:i<(o.getD []).length):Br o (i:Int) x=Ga (Ga ((o.getD []).set i x)):=by
 unfold Br
 rw[if_pos ⟨hl,by omega,by omega⟩,Int.toNat_natCast]
theorem TK {α:Type}{o:Option (List α)}{x:α}{p:α→Bool}{g}(hl:(o.getD []).length<SM)(hg:∀y,g y=Ga x):
  ∃v w,(cond (decide (0≤eS ((o.getD []).findIdx? p))) (qa (gv o (eS ((o.getD []).findIdx? p)) g) fun v4=>Ga (v4,Gi)) (qa (Ga (Ga (o.getD []++[x]))) fun v6=>Ga (v6,Gh)))=Ga (v,w)∧v.getD []=kc p x (o.getD []):=by
 unfold kc
 cases h:(o.getD []).findIdx? p with
 |none=>exact⟨_,_,rfl,rfl⟩
 |some k=>
  obtain⟨y,h1,_⟩:=bJ h
  rw[show decide (0≤eS (Ga k))=Gh from yX (Ga k)]
  simp only[cond_true,eS]
  rw[oq (Hd hl) h1 (hg y)]
  exact⟨_,_,rfl,rfl⟩
theorem jnz {o:Option (List bn)}{x:bn}{k}(hl:(o.getD []).length<SM):∃v w,HG o x k=Ga (v,w)∧v.getD []=kc (dj k) x (o.getD []):=by
 unfold HG
 have:HI o k=Ga (eS ((o.getD []).findIdx? (dj k))):=by unfold HI;exact nz (p:=dj k) (Hd hl) fun i=>rfl
 rw[this]
 simp only[qa]
 rw[jpt hl]
 exact TK (p:=dj k) (g:=fun _=>Ga x) hl fun _=>rfl
theorem jps {o:Option (List jc)}{x s:jc}(hl:(o.getD []).length<SM):∃v w,HJ o x s=Ga (v,w)∧v.getD []=kc (eT s.k) x (o.getD []):=by
 unfold HJ
 have:zC o s=Ga (eS ((o.getD []).findIdx? (eT s.k))):=by unfold zC;exact nz (p:=eT s.k) (Hd hl) fun i=>rfl
 rw[this]
 simp only[qa]
 rw[jn4 hl]
 exact TK (p:=eT s.k) (g:=fun _=>Ga x) hl fun _=>rfl
theorem jpc {o:Option (List bn)}{x:bn}{t}(hl:(o.getD []).length<SM):∃v w,HK o x t=Ga (v,w)∧v.getD []=kc (dj t.name) x (o.getD []):=by
 unfold HK
 have:zD o t=Ga (eS ((o.getD []).findIdx? (dj t.name))):=by unfold zD;exact nz (p:=dj t.name) (Hd hl) fun i=>rfl
 rw[this]
 simp only[qa]
 rw[jqm hl]
 exact TK (p:=dj t.name) (g:=fun _=>Ga x) hl fun _=>rfl
theorem jp4 {o t}(hl:(o.getD []).length≤SM):zD o t=Ga (eS ((o.getD []).findIdx? (dj t.name))):=by
 unfold zD;exact nz (p:=dj t.name) hl fun i=>rfl
theorem jqj {o k}(hl:(o.getD []).length≤SM):HL o k=Ga (jy ((o.getD []).filter fun x=>!dj k x),gu ((o.getD []).filter fun x=>!dj k x)):=by
 unfold HL
 rw[LU (f:=HM o k) (l:=o.getD []) (p:=fun x=>!dj k x) (q:=fun x=>L4 x k) hl (fun x _=>rfl) (fun s=>rfl)]
 rfl
theorem jjv {o k}(hl:(o.getD []).length≤SM):HN o k=Ga ((o.getD []).any (dj k)):=by
 have:HO o k=Ga (eS ((o.getD []).findIdx? (dj k))):=by unfold HO;exact nz (p:=dj k) hl fun i=>rfl
 unfold HN;rw[this];simp only[qa,yX,cL]
theorem jkh {o t}(hl:(o.getD []).length≤SM):HP o t=Ga ((o.getD []).any (dj t.kind)):=by
 have:HQ o t=Ga (eS ((o.getD []).findIdx? (dj t.kind))):=by unfold HQ;exact nz (p:=dj t.kind) hl fun i=>rfl
 unfold HP;rw[this];simp only[qa,yX,cL]
theorem jld {o s}(hl:(o.getD []).length≤SM):HR o s=Ga ((o.getD []).any (eT s.k)):=by
 have:zC o s=Ga (eS ((o.getD []).findIdx? (eT s.k))):=by unfold zC;exact nz (p:=eT s.k) hl fun i=>rfl
 unfold HR;rw[this];simp only[qa,yX,cL]
theorem jky {o e n}(hn:qr (e.names.getD []) 1=Ga n)(hl:(o.getD []).length≤SM):HS o e=Ga ((o.getD []).any (eT n)):=by
 have:HT o e=Ga (eS ((o.getD []).findIdx? (eT n))):=by
  unfold HT
  refine nz (p:=eT n) hl fun i=>?_
  unfold HU L5
  rw[hn]
  rfl
 unfold HS;rw[this];simp only[qa,yX,cL]
theorem TL {α β:Type}{l:List α}{h q f}(hh:∀x,(h x).length≤1)
  (dq:∀o b w,f (o,b,(l.length:Int),w)=Ga (.inr (o,w,b,(l.length:Int))))
  (hf:∀(i:Nat) x (a:List β) b,l[i]?=Ga x→i<l.length→a.length≤i→f (jy a,b,(i:Int),gu a)=Ga (.inl (jy (a++h x),b||q x,((i+1:Nat):Int),gu (a++h x)))):
  bu f (Hb,Gi,0,Gi)=Ga (jy (l.flatMap h),gu (l.flatMap h),l.any q,(l.length:Int)):=by
 have key:∀(k i:Nat),i+k=l.length→∀a b,a.length≤i→bu f (jy a,b,(i:Int),gu a)=Ga (jy (a++(l.drop i).flatMap h),gu (a++(l.drop i).flatMap h),b||(l.drop i).any q,(l.length:Int)):=by
  intro k
  induction k with
  |zero=>
   intro i hi a b _
   have:i=l.length:=by omega
   subst this
   rw[Gt (Gq _),List.flatMap_nil,List.append_nil,ko (dq _ _ _)]
   simp
  |succ k ih=>
   intro i hi a b ha
   obtain⟨x,hx⟩:∃x,l[i]?=Ga x:=⟨_,Gs (by omega)⟩
   rw[oh (hf i x a b hx (by omega) ha),ih (i+1) (by omega) _ _ (by rw[Rb];have:=hh x;omega),rL hx,Ik,Ri,Jk,Bool.or_assoc]
 have:=key l.length 0 (by omega) [] Gi (Gq _)
 rw[Ny,Lg,Bool.false_or]at this
 exact this
theorem TM {α:Type}{a:List α}{x}(h:a.length<SM):cond (gu a) (qa (bB (jy a) [x]) fun v=>Ga (v,Gh)) (cond (jy a).isNone (qa (bB (jy a) [x]) fun v=>Ga (v,Gh)) Hb)=Ga (jy (a++[x]),Gh):=wL (k:=fun v=>Ga (v,Gh)) h
theorem yn {α β:Type}{h:α→List β}(hh:∀x,(h x).length≤1):∀l:List α,(l.flatMap h).length≤l.length
 | []=>Gq _
 |x::l=>by rw[Ik,Rb,G7];have:=hh x;have:=yn hh l;omega
theorem jpl {o x}(hl:(o.getD []).length<SM)(hk:z6 (·.k) (o.getD []))(h0:0≤x.n):∃v w,HW o x=Ga (v,w)∧v.getD []=kr (o.getD []) x.k x.n:=by
 let h:bn→List bn:=fun y=>if dj x.k y then(if 0<x.n then [x]else [])else [y]
 have hh:∀y,(h y).length≤1:=by intro y;simp only[h];split<;>(try split)<;>simp
 have L:=TL (l:=o.getD []) (h:=h) (q:=dj x.k) (f:=Bs o x) hh (fun o b w=>by unfold Bs;simp only[zq];rfl) (fun i y a b hy hi ha=>by
  unfold Bs
  simp only[yc hi,cond_true,qa,q9 hy]
  rw[ye (by unfold SM at hl;omega)]
  simp only[h,dj]
  by_cases h1:y.k=x.k
  ·by_cases h2:0<x.n
   ·simp only[h1,h2,decide_true,cond_true,if_true,Rf]
    rw[Bk]
    exact wL (x:=x) (k:=fun v=>Ga (Ix (v,Gh,((i+1:Nat):Int),Gh))) (by unfold SM at hl;omega)
   ·simp[h1,h2]
  ·simp only[h1,decide_false,cond_false,Gb,if_false,Q6]
   rw[Bk]
   exact wL (x:=y) (k:=fun v=>Ga (Ix (v,b,((i+1:Nat):Int),Gh))) (by unfold SM at hl;omega))
 unfold HW
 rw[L]
 simp only[qa]
 have hlen:((o.getD []).flatMap h).length<SM:=If (yn hh _) hl
 by_cases hn:x.n=0
 ·have hp:decide (0<x.n)=Gi:=by rw[hn];rfl
  have hf:(o.getD []).flatMap h=(o.getD []).filter fun y=>!dj x.k y:=by
   rw[show h=fun y=>if(!dj x.k y)then [id y]else [] by funext y;simp only[h,hn];cases dj x.k y<;>rfl,TE,List.map_id]
  unfold kr
  rw[if_pos hn,hp,←hf]
  cases (o.getD []).any (dj x.k)<;>exact⟨_,_,rfl,zt _⟩
 ·have hp:decide (0<x.n)=Gh:=decide_eq_true (by omega)
  have hf:(o.getD []).flatMap h=(o.getD []).map fun y=>if dj x.k y then x else y:=by
   rw[←LL]
   congr 1
   funext y
   have:0<x.n:=by omega
   simp only[h,this,if_true]
   cases dj x.k y<;>rfl
  have uV:=qzx (key:=fun y:bn=>y.k) (k:=x.k) (x:=x) hk
  unfold kr
  rw[if_neg hn,hp,show(⟨x.k,x.n⟩:bn)=x from rfl,show kc (dj x.k) x (o.getD [])=Eg (dj x.k) x (o.getD [])from uV.symm]
  unfold Eg
  rw[←hf]
  cases ha:(o.getD []).any (dj x.k)with
  |true=>exact⟨_,_,rfl,by rw[zt];simp⟩
  |false=>
   simp only[cond_false,cond_true,Gb,if_false]
   have:=TM (x:=x) hlen
   simp only[qa]at this
   rw[this]
   exact⟨_,_,rfl,zt _⟩
theorem jqa {o x}(hl:(o.getD []).length<SM)(hk:z6 (·.k) (o.getD [])):∃v w,f260 o x=Ga (v,w)∧v.getD []=kc (eT x.k) x (o.getD []):=by
 let h:jc→List jc:=fun y=>if eT x.k y then [x]else [y]
 have hh:∀y,(h y).length≤1:=by intro y;simp only[h];split<;>simp
 have L:=TL (l:=o.getD []) (h:=h) (q:=eT x.k) (f:=Bt o x) hh (fun o b w=>by unfold Bt;simp only[zq];rfl) (fun i y a b hy hi ha=>by
  unfold Bt
  simp only[yc hi,cond_true,qa,q9 hy]
  rw[ye (by unfold SM at hl;omega)]
  simp only[h,eT]
  by_cases h1:y.k=x.k
  ·simp only[h1,decide_true,cond_true,if_true,Rf]
   rw[Bk]
   exact wL (x:=x) (k:=fun v=>Ga (Ix (v,Gh,((i+1:Nat):Int),Gh))) (by unfold SM at hl;omega)
  ·simp only[h1,decide_false,cond_false,Gb,if_false,Q6]
   rw[Bk]
   exact wL (x:=y) (k:=fun v=>Ga (Ix (v,b,((i+1:Nat):Int),Gh))) (by unfold SM at hl;omega))
 unfold f260
 rw[L]
 simp only[qa]
 have hlen:((o.getD []).flatMap h).length<SM:=If (yn hh _) hl
 have hf:(o.getD []).flatMap h=(o.getD []).map fun y=>if eT x.k y then x else y:=by
  rw[←LL]
  congr 1
  funext y
  simp only[h]
  cases eT x.k y<;>rfl
 have uV:=qzx (key:=fun y:jc=>y.k) (k:=x.k) (x:=x) hk
 rw[show kc (eT x.k) x (o.getD [])=Eg (eT x.k) x (o.getD [])from uV.symm]
 unfold Eg
 rw[←hf]
 cases ha:(o.getD []).any (eT x.k)with
 |true=>exact⟨_,_,rfl,by rw[zt];simp⟩
 |false=>
  simp only[cond_false,Gb,if_false]
  have:=TM (x:=x) hlen
  simp only[qa]at this
  rw[this]
  exact⟨_,_,rfl,zt _⟩
theorem q0a {α:Type}{f}:∀ {l:List α},(∀x∈l,f x=x)→l.map f=l
 | [],_=>rfl
 |x::l,h=>by rw[Gr,h x (Q9 ..),q0a fun y hy=>h y (Qw _ hy)]
theorem q8i {k:List UInt8}{F:bn→bn}:∀ {l:List bn},z6 (·.k) l→(l.map fun y=>if dj k y then F y else y)=(match l.findIdx? (dj k)with
  |some i=>(match l[i]? with
   |some x=>l.set i (F x)
   |none=>l)
  |none=>l)
 | [],_=>rfl
 |y::l,h=>by
  have h':z6 (·.k) l:=(Ry.1 h).2
  have hn:¬y.k∈l.map (·.k):=(Ry.1 h).1
  rw[Gr,Q7]
  cases hy:dj k y with
  |true=>
   have hk:y.k=k:=of_decide_eq_true hy
   simp only[if_true]
   rw[q0a fun x hx=>by
    have:dj k x=Gi:=decide_eq_false fun hxk=>hn (by rw[hk,←hxk];exact He hx)
    rw[this];rfl]
   rfl
  |false=>
   simp only[Gb,if_false]
   rw[q8i h']
   cases hi:l.findIdx? (dj k)with
   |none=>rfl
   |some i=>
    obtain⟨x,h1,_⟩:=bJ hi
    simp[h1]
theorem jn6 {o k n}(hl:(o.getD []).length<SM)(hk:z6 (·.k) (o.getD [])):∃v w,HX o k n=Ga (v,w)∧v.getD []=jP (qe .i64) (o.getD []) k n:=by
 let h:bn→List bn:=fun y=>if dj k y then [⟨y.k,qe .i64 (y.n+n)⟩]else [y]
 have hh:∀y,(h y).length≤1:=by intro y;simp only[h];split<;>simp
 have L:=TL (l:=o.getD []) (h:=h) (q:=dj k) (f:=Bu o k n) hh (fun o b w=>by unfold Bu;simp only[zq];rfl) (fun i y a b hy hi ha=>by
  unfold Bu
  simp only[yc hi,cond_true,qa,q9 hy]
  rw[ye (by unfold SM at hl;omega)]
  simp only[h,dj]
  by_cases h1:y.k=k
  ·simp only[h1,decide_true,cond_true,if_true,Rf]
   rw[Bk]
   exact wL (x:=(⟨k,qe .i64 (y.n+n)⟩:bn)) (k:=fun v=>Ga (Ix (v,Gh,((i+1:Nat):Int),Gh))) (by unfold SM at hl;omega)
  ·simp only[h1,decide_false,cond_false,Gb,if_false,Q6]
   rw[Bk]
   exact wL (x:=y) (k:=fun v=>Ga (Ix (v,b,((i+1:Nat):Int),Gh))) (by unfold SM at hl;omega))
 unfold HX
 rw[L]
 simp only[qa]
 have hlen:((o.getD []).flatMap h).length<SM:=If (yn hh _) hl
 have hf:(o.getD []).flatMap h=(o.getD []).map fun y=>if dj k y then(⟨k,qe .i64 (n+y.n)⟩:bn)else y:=by
  rw[←LL]
  congr 1
  funext y
  simp only[h]
  cases hy:dj k y with
  |false=>rfl
  |true=>rw[show y.k=k from of_decide_eq_true hy,Int.add_comm];rfl
 rw[q8i hk]at hf
 unfold jP
 cases hi:(o.getD []).findIdx? (dj k)with
 |some i=>
  obtain⟨x,h1,_⟩:=bJ hi
  have ha:(o.getD []).any (dj k)=Gh:=by rw[Ec,hi];rfl
  rw[hi]at hf
  simp only[h1]at hf ⊢
  rw[ha,hf]
  exact⟨_,_,rfl,zt _⟩
 |none=>
  have ha:(o.getD []).any (dj k)=Gi:=by rw[Ec,hi];rfl
  rw[hi]at hf
  simp only at hf ⊢
  rw[ha]
  have:=TM (x:=(⟨k,n⟩:bn)) hlen
  simp only[qa]at this
  simp only[cond_false]
  rw[this,hf]
  exact⟨_,_,rfl,zt _⟩
end Go.Z
namespace Go.Z
open Go Go.Abs Go.W
abbrev BB:Nat:=1000000
structure GB (r:ak):Prop where
 L:(r.au.getD []).length≤BB
 P:(r.ae.getD []).length≤BB
 U:(r.units.getD []).length≤BB
 D:∀p∈r.ae.getD [],(p.aH.getD []).length≤BB∧(p.dn.getD []).length≤BB∧(p.dt.getD []).length≤BB∧∀d∈p.aH.getD [],(d.aB.getD []).length≤BB∧(d.aA.getD []).length≤BB
 N:∀u∈r.units.getD [],(u.uses.getD []).length≤BB∧(u.results.getD []).length≤BB
theorem jk {n}(h:n≤BB):n≤SM:=by unfold BB at h;unfold SM;omega
theorem mK {n}(h:n≤BB):n<SM:=by unfold BB at h;unfold SM;omega
def nA (x:Option (Int×ak))(y:pS):Prop:=∃c r',x=Ga (c,r')∧match y with
 | .error k=>c=k∧k≠0
 | .ok s=>c=0∧r'.er=s
variable {r:ak}{e:GEv}
theorem Eh {a lo hi}:f60 a lo hi=Ga (if a<lo∨hi<a then 3 else 0):=by
 unfold f60
 by_cases h1:a<lo
 ·simp[h1,lT,qa]
 ·by_cases h2:hi<a<;>simp[h1,h2,lT,qa]
theorem y8 {k}:eS (Ga k)=(k:Int):=rfl
theorem wP {o}:decide (0≤eS o)=o.isSome:=yX o
theorem HY {n k}(h:zy r.er n=Ga k):∃x,(r.au.getD [])[k]?=Ga x∧x.name=n:=by
 obtain⟨x,h1,h2,_⟩:=bJ h
 exact⟨x,h1,of_decide_eq_true h2⟩
theorem Ei {n k}(h:zx r.er n=Ga k):∃p,(r.ae.getD [])[k]?=Ga p∧p.name=n∧r.er.ae[k]?=Ga p.er:=by
 rw[LP]at h
 obtain⟨x,h1,h2,_⟩:=bJ h
 exact⟨x,h1,of_decide_eq_true h2,by rw[pP,Gz,h1];rfl⟩
theorem rP {n k}(h:zu r.er n=Ga k):∃u,(r.units.getD [])[k]?=Ga u∧u.name=n∧r.er.units[k]?=Ga u.er:=by
 rw[TB]at h
 obtain⟨x,h1,h2,_⟩:=bJ h
 exact⟨x,h1,of_decide_eq_true h2,by rw[rN,Gz,h1];rfl⟩
theorem gR {α:Type}{l:List α}{a t}(h:l=a::t):qr l 0=Ga a:=by subst h;rfl
theorem gS {α:Type}{l:List α}{a b t}(h:l=a::b::t):qr l 1=Ga b:=by subst h;rfl
theorem jv9 {α:Type}{l:List α}{a b c t}(h:l=a::b::c::t):qr l 2=Ga c:=by subst h;rfl
theorem fj {a t}(h:e.names.getD []=a::t):nm e.er 0=a:=by unfold nm;rw[show e.er.names=e.names.getD []from rfl,h];rfl
theorem lV {a b t}(h:e.names.getD []=a::b::t):nm e.er 1=b:=by unfold nm;rw[show e.er.names=e.names.getD []from rfl,h];rfl
theorem TN {a t}(h:e.values.getD []=a::t):vl e.er 0=a:=by unfold vl;rw[show e.er.values=e.values.getD []from rfl,h];rfl
theorem vE {a b t}(h:e.values.getD []=a::b::t):vl e.er 1=b:=by unfold vl;rw[show e.er.values=e.values.getD []from rfl,h];rfl
theorem vl2 {a b c t}(h:e.values.getD []=a::b::c::t):vl e.er 2=c:=by unfold vl;rw[show e.er.values=e.values.getD []from rfl,h];rfl
theorem wQ:r.er.au=r.au.getD []:=rfl
theorem ak.eta (r:ak):(⟨r.day,r.au,r.ae,r.units⟩:ak)=r:=rfl
theorem a105 (b:GB r){n0 n1:List UInt8}{v0 v1:Int}(hk:e.kind=mF)(hn:e.names.getD []=[n0,n1])(hv:e.values.getD []=[v0,v1]):
  nA (fA 168 r e) (apply (qe .i64) r.er e.er):=by
 have hR:apply (qe .i64) r.er e.er=lW r.er e.er:=by unfold apply;rw[if_pos (.inl hk)]
 rw[hR]
 unfold lW
 rw[if_pos (show e.er.kind=mF from hk),fj hn,lV hn,vE hv,wQ]
 have hA:fA 168 r e=qa (HZ e r.day r.au r.ae r.units) fun v=>Ga (v.1,{ r with au:=v.2.1 }):=rfl
 rw[hA]
 unfold HZ
 simp only[ak.eta,gR hn,gS hn,gS hv,qa,D6 (jk b.L),lT,Eh,wP]
 rw[iY (by simp[SM])]
 simp only[jow (mK b.L)]
 cases (zy r.er n0).isSome with
 |true=>exact⟨_,_,rfl,rfl,by decide⟩
 |false=>
  by_cases h1:v1<1∨10000<v1
  ·simp only[Gb,if_false,h1,if_true,gB]
   exact⟨_,_,rfl,rfl,by decide⟩
  ·by_cases h2:64≤(r.au.getD []).length
   ·have oM:decide (64≤((r.au.getD []).length:Int))=Gh:=decide_eq_true (by omega)
    simp only[Gb,if_false,h1,h2,oM,if_true,gB]
    exact⟨_,_,rfl,rfl,by decide⟩
   ·have oM:decide (64≤((r.au.getD []).length:Int))=Gi:=decide_eq_false (by omega)
    simp only[Gb,if_false,h1,h2,oM,if_true,gB]
    exact⟨_,_,rfl,rfl,rfl⟩
theorem qxa {o p}(h:o=Ga (r.ae.getD []++[p])):({ r with ae:=o }:ak).er={ r.er with ae:=r.er.ae++[p.er] }:=by
 subst h
 simp only[ak.er,Ge,Lh,Gr,Jq]
theorem qwc {o p}(h:o=Ga (r.units.getD []++[p])):({ r with units:=o }:ak).er={ r.er with units:=r.er.units++[p.er] }:=by
 subst h
 simp only[ak.er,Ge,Lh,Gr,Jq]
theorem Ej {o p k}(h:o=Ga ((r.ae.getD []).set k p)):({ r with ae:=o }:ak).er=bP r.er k p.er:=by
 subst h
 simp only[ak.er,bP,Ge,Jr]
theorem zE {o p k}(h:o=Ga ((r.units.getD []).set k p)):({ r with units:=o }:ak).er=ay r.er k p.er:=by
 subst h
 simp only[ak.er,ay,Ge,Jr]
theorem L6 {o p k}(h:o=Ga ((r.au.getD []).set k p)):({ r with au:=o }:ak).er=b6 r.er k p:=by
 subst h
 simp only[ak.er,b6,Ge]
theorem zcw (b:GB r){n0:List UInt8}{v0:Int}(hk:e.kind=nv)(hn:e.names.getD []=[n0])(hv:e.values.getD []=[v0]):
  nA (fA 169 r e) (apply (qe .i64) r.er e.er):=by
 have hR:apply (qe .i64) r.er e.er=lW r.er e.er:=by unfold apply;rw[if_pos (.inr (.inl hk))]
 rw[hR]
 unfold lW
 rw[if_neg (show ¬e.er.kind=mF from fun h=>by rw[show e.er.kind=e.kind from rfl,hk]at h;exact absurd h (by decide)),if_pos (show e.er.kind=nv from hk),fj hn]
 have hA:fA 169 r e=qa (f169 e r.day r.au r.ae r.units) fun v=>Ga (v.1,{ r with ae:=v.2.1 }):=rfl
 rw[hA]
 unfold f169
 simp only[ak.eta,gR hn,qa,vC (jk b.P),lT,wP]
 rw[iY (by simp[SM])]
 simp only[jn3 (mK b.P)]
 have hl:r.er.ae.length=(r.ae.getD []).length:=by rw[pP,Gx]
 rw[hl]
 cases (zx r.er n0).isSome with
 |true=>exact⟨_,_,rfl,rfl,by decide⟩
 |false=>
  by_cases h2:16≤(r.ae.getD []).length
  ·have oM:decide (16≤((r.ae.getD []).length:Int))=Gh:=decide_eq_true (by omega)
   simp only[Gb,if_false,h2,oM,if_true,gB]
   exact⟨_,_,rfl,rfl,by decide⟩
  ·have oM:decide (16≤((r.ae.getD []).length:Int))=Gi:=decide_eq_false (by omega)
   simp only[Gb,if_false,h2,oM,if_true,gB]
   exact⟨_,_,rfl,rfl,qxa rfl⟩
theorem zhl (b:GB r){n0 n1:List UInt8}{v0:Int}{k}(hk:e.kind=mH)(hn:e.names.getD []=[n0,n1])(hv:e.values.getD []=[v0])(hp:zx r.er n1=Ga k):
  nA (fA 173 r e) (apply (qe .i64) r.er e.er):=by
 have hR:apply (qe .i64) r.er e.er=lW r.er e.er:=by unfold apply;rw[if_pos (.inr (.inr hk))]
 rw[hR]
 obtain⟨p,h1,_,h3⟩:=Ei hp
 have hpo:kq r.er n1=Ga p.er:=by unfold kq;rw[hp];exact h3
 unfold lW
 rw[if_neg (show ¬e.er.kind=mF from fun h=>by rw[show e.er.kind=e.kind from rfl,hk]at h;exact absurd h (by decide)),if_neg (show ¬e.er.kind=nv from fun h=>by rw[show e.er.kind=e.kind from rfl,hk]at h;exact absurd h (by decide)),fj hn,lV hn,hpo]
 have hA:fA 173 r e=qa (H0 e r.day r.au r.ae r.units) fun v=>Ga (v.1,{ r with units:=v.2.1 }):=rfl
 rw[hA]
 unfold H0 Ea
 simp only[ak.eta,gR hn,gS hn,qa,vC (jk b.P),yV (jk b.U),lT,wP,hp,y8,q9 h1]
 rw[iY (by simp[SM])]
 simp only[jol (mK b.U)]
 have hl:r.er.units.length=(r.units.getD []).length:=by rw[rN,Gx]
 have hd:p.er.aH.isEmpty=decide (((p.aH.getD []).length:Int)=0):=by
  show((p.aH.getD []).map bf.er).isEmpty=_
  cases p.aH.getD []with
  |nil=>rfl
  |cons x l=>simp;omega
 have oS:p.er.aH.length=(p.aH.getD []).length:=by show((p.aH.getD []).map bf.er).length=_;rw[Gx]
 simp only[hl,hd,oS]
 cases (zu r.er n0).isSome with
 |true=>exact⟨_,_,rfl,rfl,by decide⟩
 |false=>
  cases hz:decide (((p.aH.getD []).length:Int)=0)with
  |true=>exact⟨_,_,rfl,rfl,by decide⟩
  |false=>
   by_cases h2:256≤(r.units.getD []).length
   ·have oM:decide (256≤((r.units.getD []).length:Int))=Gh:=decide_eq_true (by omega)
    simp only[Gb,if_false,h2,oM,if_true,gB]
    exact⟨_,_,rfl,rfl,by decide⟩
   ·have oM:decide (256≤((r.units.getD []).length:Int))=Gi:=decide_eq_false (by omega)
    simp only[Gb,if_false,h2,oM,if_true,gB]
    exact⟨_,_,rfl,rfl,qwc rfl⟩
theorem jo6 {p c n}(hl:(p.dn.getD []).length<SM):∃v,H2 c n n p=Ga { p with dn:=v }∧v.getD []=kr (p.dn.getD []) n c:=by
 unfold H2 kr
 by_cases h:c=0
 ·simp only[h,decide_true,cond_true,if_true,jqj (Hd hl),qa]
  exact⟨_,rfl,zt _⟩
 ·obtain⟨v,w,h1,h2⟩:=jnz (x:=⟨n,c⟩) (k:=n) hl
  simp only[h,decide_false,cond_false,if_false,h1,qa]
  exact⟨_,rfl,h2⟩
theorem jho (b:GB r){n0 n1 c k p}(hp:zx r.er n0=Ga k)(hx:(r.ae.getD [])[k]?=Ga p):∃v,Bv n0 c n1 n1 r.day r.au r.ae r.units=Ga (Ga ((r.ae.getD []).set k { p with dn:=v }))∧v.getD []=kr (p.dn.getD []) n1 c:=by
 obtain⟨v,h1,h2⟩:=jo6 (c:=c) (n:=n1) (mK (b.D p (Gd hx)).2.1)
 refine⟨v,?_,h2⟩
 unfold Bv TP
 simp only[ak.eta,vC (jk b.P),hp,y8,qa]
 rw[oq (jk b.P) hx h1]
theorem jgm (b:GB r){n0 t k p}(hp:zx r.er n0=Ga k)(hx:(r.ae.getD [])[k]?=Ga p):∃v,Ek n0 t t r.day r.au r.ae r.units=Ga (Ga ((r.ae.getD []).set k { p with dt:=v }))∧v.getD []=kc (eT t.k) t (p.dt.getD []):=by
 obtain⟨v,w,h1,h2⟩:=jps (x:=t) (s:=t) (o:=p.dt) (mK (b.D p (Gd hx)).2.2.1)
 refine⟨v,?_,h2⟩
 unfold Ek TQ
 simp only[ak.eta,vC (jk b.P),hp,y8,qa]
 rw[oq (jk b.P) hx (show H3 t t p=Ga { p with dt:=v } by unfold H3;rw[h1];rfl)]
theorem L7 {n0:List UInt8}{k:Nat}{p:aC}(hn:nm e.er 0=n0)(hp:zx r.er n0=Ga k)(h3:r.er.ae[k]?=Ga p.er):kn r.er e.er =
   if e.kind=mG then
    (if vl e.er 1<0∨10000<vl e.er 1 then .error 3 else if 0<vl e.er 1∧!((p.dn.getD []).any (dj (nm e.er 1)))∧16≤(p.dn.getD []).length then .error 5 else
     .ok (bP r.er k { p.er with bV:={ p.er.bV with aB:=kr (p.dn.getD []) (nm e.er 1) (vl e.er 1) } }))
   else if e.kind=nw then
    (if vl e.er 2<vl e.er 1 then .error 11 else if !((p.dt.getD []).any (eT (nm e.er 1)))∧16≤(p.dt.getD []).length then .error 5 else
     .ok (bP r.er k { p.er with bV:={ p.er.bV with aA:=kc (eT (nm e.er 1)) ⟨nm e.er 1,vl e.er 1,vl e.er 2⟩ (p.dt.getD []) } }))
   else(if(p.dn.getD []).isEmpty then .error 12 else if 100≤p.er.aH.length then .error 5 else .ok (bP r.er k { p.er with aH:=p.er.aH++[p.er.bV] })):=by
 unfold kn
 rw[hn,hp]
 simp only[h3]
 rfl
theorem zd7 (b:GB r){n0 n1:List UInt8}{v0 v1:Int}{k:Nat}(hk:e.kind=mG)(hn:e.names.getD []=[n0,n1])(hv:e.values.getD []=[v0,v1])(hp:zx r.er n0=Ga k):
  nA (fA 170 r e) (apply (qe .i64) r.er e.er):=by
 have hR:apply (qe .i64) r.er e.er=kn r.er e.er:=by
  unfold apply
  rw[show e.er.kind=mG from hk,if_neg (by decide),if_pos (.inl rfl)]
 obtain⟨p,h1,_,h3⟩:=Ei hp
 rw[hR,L7 (fj hn) hp h3,if_pos hk,lV hn,vE hv]
 have hA:fA 170 r e=qa (f170 e r.day r.au r.ae r.units) fun v=>Ga (v.1,{ r with ae:=v.2 }):=rfl
 rw[hA]
 obtain⟨v,g1,g2⟩:=jho b (n1:=n1) (c:=v1) hp h1
 have Ay:=(b.D p (Gd h1)).2.1
 have dQ:({ r with ae:=Ga ((r.ae.getD []).set k { p with dn:=v }) }:ak).er=bP r.er k { p.er with bV:={ p.er.bV with aB:=kr (p.dn.getD []) n1 v1 } }:=by
  rw[Ej rfl]
  congr 1
  simp only[aC.er,g2]
 unfold f170
 simp only[ak.eta,gR hn,gS hn,gS hv,qa,vC (jk b.P),hp,y8,q9 h1,Eh,lT,jjv (jk Ay),g1]
 by_cases hz:v1<0∨10000<v1
 ·simp only[hz,if_true,if_false,Gb]
  cases decide (0<v1)<;>cases (p.dn.getD []).any (dj n1)<;>(simp only[cond_true,cond_false];rw[iY (by simp[SM])];exact⟨_,_,rfl,rfl,by decide⟩)
 ·simp only[hz,if_false,if_true,Gb]
  by_cases h0:0<v1
  ·rw[decide_eq_true h0]
   cases ha:(p.dn.getD []).any (dj n1)with
   |true=>
    simp only[cond_true,G8,Gb,false_and,and_false,if_false]
    rw[iY (by simp[SM])]
    exact⟨_,_,rfl,rfl,dQ⟩
   |false=>
    simp only[cond_true,cond_false,Nz,true_and,h0]
    rw[iY (by simp[SM])]
    by_cases h2:16≤(p.dn.getD []).length
    ·rw[show decide (16≤((p.dn.getD []).length:Int))=Gh from decide_eq_true (by omega),if_pos h2]
     exact⟨_,_,rfl,rfl,by decide⟩
    ·rw[show decide (16≤((p.dn.getD []).length:Int))=Gi from decide_eq_false (by omega),if_neg h2]
     exact⟨_,_,rfl,rfl,dQ⟩
  ·rw[decide_eq_false h0,if_neg (show ¬(0<v1∧(!(p.dn.getD []).any (dj n1))=Gh∧16≤(p.dn.getD []).length)from fun h=>h0 h.1)]
   simp only[cond_false]
   rw[iY (by simp[SM])]
   exact⟨_,_,rfl,rfl,dQ⟩
theorem zew (b:GB r){n0 n1:List UInt8}{v0 v1 v2:Int}{k:Nat}(hk:e.kind=nw)(hn:e.names.getD []=[n0,n1])(hv:e.values.getD []=[v0,v1,v2])(hp:zx r.er n0=Ga k):
  nA (fA 171 r e) (apply (qe .i64) r.er e.er):=by
 have hR:apply (qe .i64) r.er e.er=kn r.er e.er:=by
  unfold apply
  rw[show e.er.kind=nw from hk,if_neg (by decide),if_pos (.inr (.inl rfl))]
 obtain⟨p,h1,_,h3⟩:=Ei hp
 rw[hR,L7 (fj hn) hp h3,if_neg (by rw[hk];decide),if_pos hk,lV hn,vE hv,vl2 hv]
 have hA:fA 171 r e=qa (f171 e r.day r.au r.ae r.units) fun v=>Ga (v.1,{ r with ae:=v.2 }):=rfl
 rw[hA]
 obtain⟨v,g1,g2⟩:=jgm b (t:=⟨n1,v1,v2⟩) hp h1
 have Ay:=(b.D p (Gd h1)).2.2.1
 have dQ:({ r with ae:=Ga ((r.ae.getD []).set k { p with dt:=v }) }:ak).er=bP r.er k { p.er with bV:={ p.er.bV with aA:=kc (eT n1) ⟨n1,v1,v2⟩ (p.dt.getD []) } }:=by
  rw[Ej rfl]
  congr 1
  simp only[aC.er,g2]
 unfold f171
 simp only[ak.eta,gR hn,gS hn,gS hv,jv9 hv,qa,vC (jk b.P),hp,y8,q9 h1,lT,jld (jk Ay),g1]
 by_cases hz:v2<v1
 ·rw[decide_eq_true hz,if_pos hz]
  cases (p.dt.getD []).any (eT n1)<;>(simp only[cond_true,cond_false];rw[iY (by simp[SM])];exact⟨_,_,rfl,rfl,by decide⟩)
 ·rw[decide_eq_false hz,if_neg hz]
  cases ha:(p.dt.getD []).any (eT n1)with
  |true=>
   simp only[cond_true,G8,Gb,false_and,if_false]
   rw[iY (by simp[SM])]
   exact⟨_,_,rfl,rfl,dQ⟩
  |false=>
   simp only[cond_false,Nz,true_and]
   rw[iY (by simp[SM])]
   by_cases h2:16≤(p.dt.getD []).length
   ·rw[show decide (16≤((p.dt.getD []).length:Int))=Gh from decide_eq_true (by omega),if_pos h2]
    exact⟨_,_,rfl,rfl,by decide⟩
   ·rw[show decide (16≤((p.dt.getD []).length:Int))=Gi from decide_eq_false (by omega),if_neg h2]
    exact⟨_,_,rfl,rfl,dQ⟩
theorem q5p {α:Type}{o:Option (List α)}(h:(o.getD []).length≤SM):∃v w,(cond o.isNone (Ga (Hb,Gi)) (qa (bB (Ga []) (o.getD [])) fun v=>Ga (v,Gh)))=Ga (v,w)∧v.getD []=o.getD []:=by
 cases o with
 |none=>exact⟨Hb,Gi,rfl,rfl⟩
 |some l=>
  have h':l.length≤SM:=h
  simp only[Ra,cond_false,Ge]
  rw[Bq h']
  exact⟨_,_,rfl,rfl⟩
theorem jnj {d:bf}(h1:(d.aB.getD []).length≤SM)(h2:(d.aA.getD []).length≤SM):∃d',f224 d=Ga d'∧d'.er=d.er:=by
 obtain⟨v,w,g1,g2⟩:=q5p h1
 obtain⟨v',w',g3,g4⟩:=q5p h2
 unfold f224
 rw[show H4 d.aB=Ga (v,w)from g1,show H5 d.aA=Ga (v',w')from g3]
 exact⟨⟨v,v'⟩,rfl,by simp only[bf.er,g2,g4]⟩
theorem a109 (b:GB r){n0:List UInt8}{v0:Int}{k:Nat}(hk:e.kind=pN)(hn:e.names.getD []=[n0])(hv:e.values.getD []=[v0])(hp:zx r.er n0=Ga k):
  nA (fA 172 r e) (apply (qe .i64) r.er e.er):=by
 have hR:apply (qe .i64) r.er e.er=kn r.er e.er:=by
  unfold apply
  rw[show e.er.kind=pN from hk,if_neg (by decide),if_pos (.inr (.inr rfl))]
 obtain⟨p,h1,_,h3⟩:=Ei hp
 rw[hR,L7 (fj hn) hp h3,if_neg (by rw[hk];decide),if_neg (by rw[hk];decide)]
 have hA:fA 172 r e=qa (H6 e r.day r.au r.ae r.units) fun v=>Ga (v.1,{ r with ae:=v.2 }):=rfl
 rw[hA]
 have hD:=b.D p (Gd h1)
 obtain⟨d',g1,g2⟩:=jnj (d:=⟨p.dn,p.dt⟩) (jk hD.2.1) (jk hD.2.2.1)
 have g3:L8 r.ae (k:Int)=Ga (Ga ((r.ae.getD []).set k { p with aH:=Ga (p.aH.getD []++[d']) })):=by
  unfold L8
  exact oq (jk b.P) h1 (by unfold L9;rw[g1];simp only[qa];rw[jql (mK hD.1)])
 have dQ:({ r with ae:=Ga ((r.ae.getD []).set k { p with aH:=Ga (p.aH.getD []++[d']) }) }:ak).er=bP r.er k { p.er with aH:=p.er.aH++[p.er.bV] }:=by
  rw[Ej rfl]
  congr 1
  simp only[aC.er,Ge,Lh,Gr,Jq,g2]
  rfl
 have oS:p.er.aH.length=(p.aH.getD []).length:=by show((p.aH.getD []).map bf.er).length=_;rw[Gx]
 have hd:(p.dn.getD []).isEmpty=decide (((p.dn.getD []).length:Int)=0):=by
  cases p.dn.getD []with
  |nil=>rfl
  |cons x l=>simp;omega
 unfold H6
 simp only[ak.eta,gR hn,qa,vC (jk b.P),hp,y8,q9 h1,lT,g3,hd,oS]
 rw[iY (by simp[SM])]
 cases decide (((p.dn.getD []).length:Int)=0)with
 |true=>exact⟨_,_,rfl,rfl,by decide⟩
 |false=>
  by_cases h2:100≤(p.aH.getD []).length
  ·rw[show decide (100≤((p.aH.getD []).length:Int))=Gh from decide_eq_true (by omega),if_pos h2]
   exact⟨_,_,rfl,rfl,by decide⟩
  ·rw[show decide (100≤((p.aH.getD []).length:Int))=Gi from decide_eq_false (by omega),if_neg h2]
   exact⟨_,_,rfl,rfl,dQ⟩
end Go.Z
namespace Go.Z
open Go Go.Abs Go.W
variable {r:ak}{e:GEv}
theorem k9 {k}(hk:e.kind=k)(h:¬(k=mF∨k=nv∨k=mH))(h2:¬(k=mG∨k=nw∨k=pN)):apply (qe .i64) r.er e.er=if k=oi∨k=rM then oU r.er e.er else lX (qe .i64) r.er e.er:=by
 unfold apply
 rw[show e.er.kind=k from hk,if_neg h,if_neg h2]
theorem ze2 (b:GB r){n0 v0 k}(hk:e.kind=oi)(hn:e.names.getD []=[n0])(hv:e.values.getD []=[v0])(hp:zy r.er n0=Ga k):
  nA (fA 178 r e) (apply (qe .i64) r.er e.er):=by
 rw[k9 hk (by decide) (by decide),if_pos (.inl rfl)]
 obtain⟨x,h1,_⟩:=HY hp
 have hA:fA 178 r e=qa (H7 e r.day r.au r.ae r.units) fun v=>Ga (v.1,{ r with au:=v.2 }):=rfl
 rw[hA]
 have g1:TR r.au (k:Int)=Ga (Ga ((r.au.getD []).set k { x with held:=Gh })):=oq (jk b.L) h1 rfl
 unfold oU
 rw[fj hn,hp]
 simp only[wQ,h1]
 rw[if_pos (show e.er.kind=oi from hk)]
 unfold H7
 simp only[ak.eta,gR hn,qa,D6 (jk b.L),hp,y8,q9 h1,g1]
 cases x.held with
 |true=>exact⟨_,_,rfl,rfl,by decide⟩
 |false=>exact⟨_,_,rfl,rfl,L6 rfl⟩
theorem zkr (b:GB r){n0 v0 k}(hk:e.kind=rM)(hn:e.names.getD []=[n0])(hv:e.values.getD []=[v0])(hp:zy r.er n0=Ga k):
  nA (fA 179 r e) (apply (qe .i64) r.er e.er):=by
 rw[k9 hk (by decide) (by decide),if_pos (.inr rfl)]
 obtain⟨x,h1,_⟩:=HY hp
 have hA:fA 179 r e=qa (H8 e r.day r.au r.ae r.units) fun v=>Ga (v.1,{ r with au:=v.2 }):=rfl
 rw[hA]
 have g1:TS r.au (k:Int)=Ga (Ga ((r.au.getD []).set k { x with held:=Gi })):=oq (jk b.L) h1 rfl
 unfold oU
 rw[fj hn,hp]
 simp only[wQ,h1]
 rw[if_neg (show ¬e.er.kind=oi from fun h=>by rw[show e.er.kind=e.kind from rfl,hk]at h;exact absurd h (by decide))]
 unfold H8
 simp only[ak.eta,gR hn,qa,D6 (jk b.L),hp,y8,q9 h1,g1]
 cases x.held with
 |true=>exact⟨_,_,rfl,rfl,L6 rfl⟩
 |false=>exact⟨_,_,rfl,rfl,by decide⟩
structure UOk (r:ak)(u:bg)(D:bf)(v:Int):Prop where
 doc:pQ r u=Ga D
 Bw:pR r u=Ga D
 El:gQ r.er u.er=Ga D.er
 new:ol r.er u.er=Ga v
 aB:(D.aB.getD []).length≤BB
 aA:(D.aA.getD []).length≤BB
 uses:(u.uses.getD []).length≤BB
 results:(u.results.getD []).length≤BB
 au:∀x∈u.uses.getD [],(zy r.er x.k).isSome=Gh
 keyed:z6 (·.k) (u.uses.getD [])
 bL:u.version≠-1
theorem jfk {u:bg}{d}(h:gQ r.er u.er=Ga d):∃(k:Nat) (p:aC),(r.ae.getD [])[k]?=Ga p∧1≤u.version∧∃D:bf,D∈p.aH.getD []∧D.er=d:=by
 unfold gQ at h
 cases hp:kq r.er u.er.product with
 |none=>rw[hp]at h;cases h
 |some sp=>
  rw[hp]at h
  obtain⟨k,p,_,h2,rfl,_⟩:=TC hp
  simp only[Jp,Bh]at h
  split at h
  ·rename_i hv
   refine⟨k,p,h2,hv,?_⟩
   have h3:((p.aH.getD []).map bf.er)[(u.er.version-1).toNat]?=Ga d:=h
   rw[Gz]at h3
   cases hD:(p.aH.getD [])[(u.er.version-1).toNat]? with
   |none=>rw[hD]at h3;cases h3
   |some D=>rw[hD]at h3;exact⟨D,Gd hD,by simpa using h3⟩
  ·cases h
theorem Em (b:GB r)(w:WF r.er){i:Nat}{u}(hu:(r.units.getD [])[i]?=Ga u):∃D v,UOk r u D v:=by
 have hm:=Gd hu
 have TT:u.er∈r.er.units:=by rw[rN];exact He hm
 obtain⟨d,hd⟩:=G9.1 (w.ef _ TT)
 obtain⟨D,g1,g2,rfl⟩:=jxw (jk b.P) (fun p hp=>jk (b.D p hp).1) hd
 obtain⟨k,p,hp,hv,D',ot,he⟩:=jfk hd
 have hb:=(b.D p (Gd hp)).2.2.2 D' ot
 have h1:D.aB.getD []=D'.aB.getD []:=congrArg gq.aB he.symm
 have h2:D.aA.getD []=D'.aA.getD []:=congrArg gq.aA he.symm
 have dh:(ol r.er u.er).isSome=Gh:=by
  unfold ol
  unfold gQ at hd
  cases hq:kq r.er u.er.product with
  |none=>rw[hq]at hd;cases hd
  |some sp=>rfl
 obtain⟨v,RR⟩:=G9.1 dh
 exact⟨D,v,g1,g2,hd,RR,by rw[h1];exact hb.1,by rw[h2];exact hb.2,(b.N u hm).1,(b.N u hm).2,(w.uses _ TT).2,(w.uses _ TT).1,by omega⟩
theorem wR {n0:List UInt8}{k:Nat}{u:bg}(hn:nm e.er 0=n0)(hp:zu r.er n0=Ga k)(h3:r.er.units[k]?=Ga u.er):lX (qe .i64) r.er e.er =
   if e.kind=mI then pT (qe .i64) r.er k u.er e.er
   else if e.kind=nx then pU r.er k u.er e.er
   else if e.kind=oQ then
    (if u.ar then .error 21 else if !((gQ r.er u.er).any fun d=>d.aA.any (eT (nm e.er 1)))then .error 7 else if 64≤(u.results.getD []).length then .error 5 else
     .ok (ay r.er k { u.er with results:=u.results.getD []++[⟨nm e.er 1,u.version,vl e.er 1⟩] }))
   else if e.kind=pO then
    (if u.ar then .error 21 else match ol r.er u.er with
     |none=>.error 32
     |some v=>if u.version=v then .error 32 else .ok (ay r.er k { u.er with version:=v }))
   else if e.kind=iW then(if vD (qe .i64) r.er u.er≠0 then .error (vD (qe .i64) r.er u.er)else .ok (ay r.er k { u.er with ar:=Gh }))
   else(if !u.ar then .error 20 else .ok (ay r.er k { u.er with ah:=qe .i64 (u.ah+1) })):=by
 unfold lX
 rw[hn,hp]
 simp only[h3]
 rfl
theorem ziw (b:GB r)(w:WF r.er){n0:List UInt8}{v0:Int}{k:Nat}(hk:e.kind=pO)(hn:e.names.getD []=[n0])(hv:e.values.getD []=[v0])(hp:zu r.er n0=Ga k):
  nA (fA 176 r e) (apply (qe .i64) r.er e.er):=by
 rw[k9 hk (by decide) (by decide),if_neg (by decide)]
 obtain⟨u,h1,_,h3⟩:=rP hp
 obtain⟨D,v,o⟩:=Em b w h1
 rw[wR (fj hn) hp h3,if_neg (by rw[hk];decide),if_neg (by rw[hk];decide),if_neg (by rw[hk];decide),if_pos hk,o.new]
 have hA:fA 176 r e=qa (H9 e r.day r.au r.ae r.units) fun v=>Ga (v.1,{ r with units:=v.2 }):=rfl
 rw[hA]
 have g1:TU r.units (k:Int) v=Ga (Ga ((r.units.getD []).set k { u with version:=v })):=oq (jk b.U) h1 rfl
 generalize hU:({ u with version:=v }:bg)=U' at g1
 have dQ:({ r with units:=Ga ((r.units.getD []).set k U') }:ak).er=ay r.er k { u.er with version:=v }:=by rw[zE rfl,←hU];rfl
 unfold H9
 simp only[ak.eta,gR hn,qa,yV (jk b.U),hp,y8,q9 h1,(LS (jk b.P) o.new).1,lT,g1]
 rw[iY (by simp[SM])]
 cases u.ar with
 |true=>exact⟨_,_,rfl,rfl,by decide⟩
 |false=>
  by_cases h:u.version=v
  ·rw[decide_eq_true h,if_pos h];exact⟨_,_,rfl,rfl,by decide⟩
  ·rw[decide_eq_false h,if_neg h];exact⟨_,_,rfl,rfl,dQ⟩
theorem zh6 (b:GB r)(w:WF r.er){n0:List UInt8}{v0:Int}{k:Nat}(hk:e.kind=iW)(hn:e.names.getD []=[n0])(hv:e.values.getD []=[v0])(hp:zu r.er n0=Ga k):
  nA (fA 180 r e) (apply (qe .i64) r.er e.er):=by
 rw[k9 hk (by decide) (by decide),if_neg (by decide)]
 obtain⟨u,h1,_,h3⟩:=rP hp
 obtain⟨D,v,o⟩:=Em b w h1
 rw[wR (fj hn) hp h3,if_neg (by rw[hk];decide),if_neg (by rw[hk];decide),if_neg (by rw[hk];decide),if_neg (by rw[hk];decide),if_pos hk]
 have hA:fA 180 r e=qa (Ia e r.day r.au r.ae r.units) fun v=>Ga (v.1,{ r with units:=v.2 }):=rfl
 rw[hA]
 have g1:TV r.units (k:Int)=Ga (Ga ((r.units.getD []).set k { u with ar:=Gh })):=oq (jk b.U) h1 rfl
 have g2:=jsq (jk b.P) o.new (jk b.L) (jk o.uses) o.au o.doc o.El (jk o.aB) (jk o.results) (jk o.aA) o.bL
 unfold Ia
 simp only[ak.eta,gR hn,qa,yV (jk b.U),hp,y8,q9 h1,g2,g1]
 by_cases h:vD (qe .i64) r.er u.er=0
 ·rw[decide_eq_true h,if_neg (fun hh=>hh h)];exact⟨_,_,rfl,rfl,zE rfl⟩
 ·rw[decide_eq_false h,if_pos h];exact⟨_,_,rfl,rfl,h⟩
theorem zih (b:GB r){n0:List UInt8}{v0:Int}{k:Nat}(hk:e.kind=yU)(hn:e.names.getD []=[n0])(hv:e.values.getD []=[v0])(hp:zu r.er n0=Ga k):
  nA (fA 181 r e) (apply (qe .i64) r.er e.er):=by
 rw[k9 hk (by decide) (by decide),if_neg (by decide)]
 obtain⟨u,h1,_,h3⟩:=rP hp
 rw[wR (fj hn) hp h3,if_neg (by rw[hk];decide),if_neg (by rw[hk];decide),if_neg (by rw[hk];decide),if_neg (by rw[hk];decide),if_neg (by rw[hk];decide)]
 have hA:fA 181 r e=qa (Ib e r.day r.au r.ae r.units) fun v=>Ga (v.1,{ r with units:=v.2 }):=rfl
 rw[hA]
 have g1:TW r.units (k:Int)=Ga (Ga ((r.units.getD []).set k { u with ah:=qe .i64 (u.ah+1) })):=oq (jk b.U) h1 rfl
 generalize hU:({ u with ah:=qe .i64 (u.ah+1) }:bg)=U' at g1
 have dQ:({ r with units:=Ga ((r.units.getD []).set k U') }:ak).er=ay r.er k { u.er with ah:=qe .i64 (u.ah+1) }:=by rw[zE rfl,←hU];rfl
 unfold Ib
 simp only[ak.eta,gR hn,qa,yV (jk b.U),hp,y8,q9 h1,g1]
 cases u.ar with
 |true=>exact⟨_,_,rfl,rfl,dQ⟩
 |false=>exact⟨_,_,rfl,rfl,by decide⟩
theorem zga (b:GB r)(w:WF r.er){n0 n1:List UInt8}{v0 v1:Int}{k:Nat}(hk:e.kind=oQ)(hn:e.names.getD []=[n0,n1])(hv:e.values.getD []=[v0,v1])(hp:zu r.er n0=Ga k):
  nA (fA 175 r e) (apply (qe .i64) r.er e.er):=by
 rw[k9 hk (by decide) (by decide),if_neg (by decide)]
 obtain⟨u,h1,_,h3⟩:=rP hp
 obtain⟨D,v,o⟩:=Em b w h1
 rw[wR (fj hn) hp h3,if_neg (by rw[hk];decide),if_neg (by rw[hk];decide),if_pos hk,lV hn,vE hv,o.El]
 have hA:fA 175 r e=qa (Ic e r.day r.au r.ae r.units) fun v=>Ga (v.1,{ r with units:=v.2 }):=rfl
 rw[hA]
 have g1:TX r.units (k:Int) e=Ga (Ga ((r.units.getD []).set k { u with results:=Ga (u.results.getD []++[⟨n1,u.version,v1⟩]) })):=oq (jk b.U) h1 (by
  unfold Ma
  rw[gS hn,gS hv]
  simp only[qa]
  rw[joa (mK o.results)])
 generalize hU:({ u with results:=Ga (u.results.getD []++[⟨n1,u.version,v1⟩]) }:bg)=U' at g1
 have dQ:({ r with units:=Ga ((r.units.getD []).set k U') }:ak).er=ay r.er k { u.er with results:=u.results.getD []++[⟨n1,u.version,v1⟩] }:=by rw[zE rfl,←hU];rfl
 unfold Ic
 simp only[ak.eta,gR hn,qa,yV (jk b.U),hp,y8,q9 h1,o.doc,jky (gS hn) (jk o.aA),lT,g1,Gy]
 rw[iY (by simp[SM]),show D.er.aA=D.aA.getD []from rfl]
 cases u.ar with
 |true=>exact⟨_,_,rfl,rfl,by decide⟩
 |false=>
  cases (D.aA.getD []).any (eT n1)with
  |false=>exact⟨_,_,rfl,rfl,by decide⟩
  |true=>
   by_cases h2:64≤(u.results.getD []).length
   ·rw[show decide (64≤((u.results.getD []).length:Int))=Gh from decide_eq_true (by omega),if_pos h2]
    exact⟨_,_,rfl,rfl,by decide⟩
   ·rw[show decide (64≤((u.results.getD []).length:Int))=Gi from decide_eq_false (by omega),if_neg h2]
    exact⟨_,_,rfl,rfl,dQ⟩
theorem zel (b:GB r)(w:WF r.er){n0 n1:List UInt8}{v0 v1:Int}{k j:Nat}(hk:e.kind=mI)(hn:e.names.getD []=[n0,n1])(hv:e.values.getD []=[v0,v1])(hp:zu r.er n0=Ga k)(hq:zy r.er n1=Ga j):
  nA (fA 174 r e) (apply (qe .i64) r.er e.er):=by
 rw[k9 hk (by decide) (by decide),if_neg (by decide)]
 obtain⟨u,h1,_,h3⟩:=rP hp
 obtain⟨x,h4,DU⟩:=HY hq
 obtain⟨D,v,o⟩:=Em b w h1
 rw[wR (fj hn) hp h3,if_pos hk]
 unfold pT
 rw[lV hn,hq,vE hv,o.El]
 simp only[wQ,h4]
 have hA:fA 174 r e=qa (Ie e r.day r.au r.ae r.units) fun v=>Ga (v.1,{ r with au:=v.2.1,units:=v.2.2 }):=rfl
 rw[hA]
 have g1:TY r.au (j:Int) v1=Ga (Ga ((r.au.getD []).set j { x with left:=qe .i64 (x.left-v1) })):=oq (jk b.L) h4 rfl
 unfold Ie
 simp only[ak.eta,gR hn,gS hn,gS hv,qa,yV (jk b.U),D6 (jk b.L),hp,hq,y8,q9 h1,q9 h4,o.doc,jkh (jk o.aB),lT,g1,jp4 (jk o.uses),Gy]
 rw[iY (by simp[SM])]
 have hdn:D.er.aB=D.aB.getD []:=rfl
 simp only[hdn]
 have lQ:∀(s:bn),jP (qe .i64) (u.uses.getD []) x.name v1=kc (dj x.name) s (u.uses.getD [])→∃us,gv r.units (k:Int) (Eo s x)=Ga us∧({ r with au:=Ga ((r.au.getD []).set j { x with left:=qe .i64 (x.left-v1) }),units:=us }:ak).er=ay (b6 r.er j { x with left:=qe .i64 (x.left-v1) }) k { u.er with uses:=jP (qe .i64) u.er.uses x.name v1 }:=by
  intro s hs
  obtain⟨q,wq,q1,q2⟩:=jpc (x:=s) (t:=x) (o:=u.uses) (mK o.uses)
  refine⟨_,oq (y:={ u with uses:=q }) (jk b.U) h1 (by unfold Eo;rw[q1];rfl),?_⟩
  simp only[ak.er,ay,b6,Ge,Jr]
  congr 2
  simp only[bg.er,q2,hs]
 by_cases hs:u.ar=Gh
 ·simp only[if_pos hs,if_pos (show u.er.ar=Gh from hs)]
  exact⟨_,_,rfl,rfl,by decide⟩
 simp only[if_neg hs,if_neg (show ¬u.er.ar=Gh from hs)]
 by_cases hz:v1=0
 ·simp only[if_pos hz,decide_eq_true hz,if_true]
  exact⟨_,_,rfl,rfl,by decide⟩
 simp only[if_neg hz,decide_eq_false hz,Gb,if_false]
 by_cases hh:x.held=Gh
 ·simp only[if_pos hh]
  exact⟨_,_,rfl,rfl,by decide⟩
 simp only[if_neg hh]
 cases (D.aB.getD []).any (dj x.kind)with
 |false=>exact⟨_,_,rfl,rfl,by decide⟩
 |true=>
 simp only[G8,Gb,if_false]
 by_cases hl:x.left<v1
 ·simp only[if_pos hl,decide_eq_true hl,if_true]
  exact⟨_,_,rfl,rfl,by decide⟩
 simp only[if_neg hl,decide_eq_false hl,Gb,if_false]
 have Ig:∀ {α:Type} (A B:Option α),cond (decide (gB [0,0,0,0,0]=0)) A B=A:=fun A B=>rfl
 cases hi:(u.uses.getD []).findIdx? (dj x.name)with
 |none=>
  obtain⟨us,q1,q2⟩:=lQ ⟨x.name,v1⟩ (by unfold jP kc;rw[hi])
  rw[Ig]
  rw[show decide (0≤eS Hb)=Gi from rfl]
  simp only[cond_false,q1]
  exact⟨_,_,rfl,rfl,q2⟩
 |some i=>
  obtain⟨y,hy,_⟩:=bJ hi
  obtain⟨us,q1,q2⟩:=lQ ⟨x.name,qe .i64 (v1+y.n)⟩ (by unfold jP kc;rw[hi];simp only[hy])
  rw[Ig]
  rw[show decide (0≤eS (Ga i))=Gh from yX (Ga i)]
  simp only[cond_true,y8,q9 hy,q1]
  exact⟨_,_,rfl,rfl,q2⟩
end Go.Z
set_option maxHeartbeats 4000000
namespace Go.Z
open Go Go.Abs Go.W
variable {r:ak}{e:GEv}
theorem j5r {a b c d}:f46 (Ga [a,b,c,d])=Ga (gB [a,b,c,d]):=iY (by simp[SM])
theorem zbv (b:GB r){n0 n1 v0 k j}(hk:e.kind=nx)(hn:e.names.getD []=[n0,n1])(hv:e.values.getD []=[v0])(hp:zu r.er n0=Ga k)(hq:zu r.er n1=Ga j):
  nA (fA 177 r e) (apply (qe .i64) r.er e.er):=by
 rw[k9 hk (by decide) (by decide),if_neg (by decide)]
 obtain⟨u,h1,_,h3⟩:=rP hp
 obtain⟨v,h4,_,h5⟩:=rP hq
 rw[wR (fj hn) hp h3,if_neg (by rw[hk];decide),if_pos hk]
 unfold pU
 rw[lV hn,hq]
 simp only[h5]
 have hA:fA 177 r e=qa (Ih e r.day r.au r.ae r.units) fun v=>Ga (v.1,{ r with units:=v.2 }):=rfl
 rw[hA]
 have g1:vF r.units (k:Int) v=Ga (Ga ((r.units.getD []).set k { u with partner:=v.name })):=oq (jk b.U) h1 rfl
 have g2:k≠j→∀bb,vG (Ga ((r.units.getD []).set k { u with partner:=v.name })) (j:Int) ⟨u.name,u.product,u.version,u.uses,u.results,u.partner,bb,u.ah⟩=Ga (Ga (((r.units.getD []).set k { u with partner:=v.name }).set j { v with partner:=u.name })):=by
  intro hkj bb
  exact oq (x:=v) (by rw[Ge,List.length_set];exact jk b.U) (by rw[Ge,List.getElem?_set_ne hkj];exact h4) rfl
 have dQ:({ r with units:=Ga (((r.units.getD []).set k { u with partner:=v.name }).set j { v with partner:=u.name }) }:ak).er=ay (ay r.er k { u.er with partner:=v.er.name }) j { v.er with partner:=u.er.name }:=by
  simp only[ak.er,ay,Ge,Jr]
  rfl
 generalize hz:ay (ay r.er k { u.er with partner:=v.er.name }) j { v.er with partner:=u.er.name }=Z at dQ ⊢
 generalize hX:Ga (Ga (((r.units.getD []).set k { u with partner:=v.name }).set j { v with partner:=u.name }))=X at g2
 generalize hY:Ga ((r.units.getD []).set k { u with partner:=v.name })=Y at g1 g2
 unfold Ih
 simp only[ak.eta,gR hn,gS hn,qa,yV (jk b.U),hp,hq,y8,q9 h1,q9 h4,lT,j5r,g1]
 have e1:decide ((k:Int)=(j:Int))=decide (k=j):=by
  by_cases h:k=j
  ·rw[decide_eq_true h];exact decide_eq_true (by omega)
  ·rw[decide_eq_false h];exact decide_eq_false (by omega)
 have e2:u.er.product=u.product:=rfl
 have e3:v.er.product=v.product:=rfl
 have e4:u.er.version=u.version:=rfl
 have e5:v.er.version=v.version:=rfl
 have e6:u.er.ar=u.ar:=rfl
 have e7:v.er.ar=v.ar:=rfl
 have e8:u.er.partner=u.partner:=rfl
 have e9:v.er.partner=v.partner:=rfl
 simp only[e1,e2,e3,e4,e5,e6,e7,e8,e9]
 by_cases c1:k=j<;>by_cases c2:u.product=v.product<;>by_cases cT:u.version=v.version<;>cases fk:u.ar<;>cases cU:v.ar<;>by_cases et:u.partner=[]<;>by_cases mL:v.partner=[] <;>
  simp only[c1,c2,cT,et,mL,decide_true,decide_false,cond_true,cond_false,G8,Nz,if_true,if_false,Gb,ne_eq,not_true_eq_false,not_false_eq_true,or_true,true_or,or_false,false_or,or_self] <;>
  first
  |exact⟨_,_,rfl,rfl,by decide⟩
  |(have g3:=g2 c1 Gi
    simp only[c2,cT,et]at g3
    rw[g3,←hX]
    exact⟨_,_,rfl,rfl,dQ⟩)
end Go.Z
namespace Go.Z
open Go Go.Abs Go.W
variable {r:ak}{e:GEv}
def Ep (r:bm)(c:Int)(n:List UInt8):Bool:=if c=108 then(zy r n).isSome else if c=112 then(zx r n).isSome else if c=117 then(zu r n).isSome else Gh
theorem T0 (b:GB r){c n}:Er r c n=Ga (Ep r.er c n):=by
 unfold Er Ep
 by_cases h1:c=108
 ·simp only[h1,decide_true,cond_true,if_true,D6 (jk b.L),qa,wP]
 ·by_cases h2:c=112
  ·simp only[h1,h2,decide_true,decide_false,cond_true,cond_false,if_true,if_false,vC (jk b.P),qa,wP];rfl
  ·by_cases h3:c=117
   ·simp only[h1,h2,h3,decide_true,decide_false,cond_true,cond_false,if_true,if_false,yV (jk b.U),qa,wP];rfl
   ·simp only[h1,h2,h3,decide_false,cond_false,if_false]
def y9 (r:bm)(c:UInt8)(n:List UInt8):Bool:=decide ((c.toNat:Int)=45)||Ep r (c.toNat:Int) n
theorem Bx (b:GB r){a n0 t}(hr:j8 e.kind=[a])(hd:qn [a] 0=(a.toNat,1))(hn:e.names.getD []=n0::t):
  ∃d,bu (Es r e) Hb=Ga (if y9 r.er a n0 then .inr d else .inl d):=by
 have z:Bz r e=Ga (if y9 r.er a n0 then .inl (Ga 1)else .inr (.inl 1)):=by
  unfold Bz y9
  simp only[hr,hd,qa,gR hn,T0 b]
  simp only[Ha,Nat.lt_irrefl,show decide (0<1)=Gh from rfl,cond_true]
  cases decide ((a.toNat:Int)=45)<;>cases Ep r.er (a.toNat:Int) n0<;>rfl
 cases hk:y9 r.er a n0 with
 |true=>
  rw[hk]at z
  refine⟨1,?_⟩
  rw[oh (s':=Ga 1) z]
  refine ko (d:=(Sum.inr 1:Nat⊕Nat)) ?_
  show wS r e 1=_
  unfold wS
  simp only[hr,Ha]
  rfl
 |false=>
  rw[hk]at z
  exact⟨1,ko z⟩
theorem BA (b:GB r){a c n0 n1 t}(hr:j8 e.kind=[a,c])(hd:qn [a,c] 0=(a.toNat,1))(hd1:qn [a,c] 1=(c.toNat,1))(hn:e.names.getD []=n0::n1::t):
  ∃d,bu (Es r e) Hb=Ga (if y9 r.er a n0&&y9 r.er c n1 then .inr d else .inl d):=by
 have z:Bz r e=Ga (if y9 r.er a n0 then .inl (Ga 1)else .inr (.inl 1)):=by
  unfold Bz y9
  simp only[hr,hd,qa,gR hn,T0 b]
  simp only[G7,Me,show decide (0<0+1+1)=Gh from rfl,cond_true]
  cases decide ((a.toNat:Int)=45)<;>cases Ep r.er (a.toNat:Int) n0<;>rfl
 have y:wS r e 1=Ga (if y9 r.er c n1 then .inl (Ga 2)else .inr (.inl 2)):=by
  unfold wS y9
  simp only[hr,hd1,qa,show((1:Nat):Int)=1 from rfl,gS hn,T0 b]
  simp only[G7,Me,show decide (1<0+1+1)=Gh from rfl,cond_true]
  cases decide ((c.toNat:Int)=45)<;>cases Ep r.er (c.toNat:Int) n1<;>rfl
 cases hk:y9 r.er a n0 with
 |false=>
  rw[hk]at z
  exact⟨1,ko z⟩
 |true=>
  rw[hk]at z
  cases dA:y9 r.er c n1 with
  |false=>
   rw[dA]at y
   refine⟨2,?_⟩
   rw[oh (s':=Ga 1) z]
   exact ko (d:=(Ix 2:Nat⊕Nat)) y
  |true=>
   rw[dA]at y
   refine⟨2,?_⟩
   rw[oh (s':=Ga 1) z,oh (s':=Ga 2) y]
   refine ko (d:=(Sum.inr 2:Nat⊕Nat)) ?_
   show wS r e 2=_
   unfold wS
   simp only[hr,G7,Me]
   rfl
def gT (x:Option (ak×Int))(y:pS):Prop:=∃r' c,x=Ga (r',c)∧match y with
 | .error k=>c=k∧k≠0
 | .ok s=>c=0∧r'.er=s
theorem ou {v0 t K}(hv:e.values.getD []=v0::t)(hl:∃d,bu (Es r e) Hb=Ga (if K then .inr d else .inl d))(hK:K=Gi→apply (qe .i64) r.er e.er=.error 10)(hA:K=Gh→nA (fA (Ii e.kind) r e) (apply (qe .i64) r.er e.er)):
  gT (jQ r e) (after (qe .i64) r.er e.er):=by
 unfold jQ after
 rw[gR hv,TN hv]
 simp only[qa]
 by_cases h:v0<r.day
 ·rw[decide_eq_true h,if_pos (show v0<r.er.day from h)]
  exact⟨_,_,rfl,rfl,by decide⟩
 ·rw[decide_eq_false h,if_neg (show ¬v0<r.er.day from h)]
  obtain⟨d,hd⟩:=hl
  rw[hd]
  cases K with
  |false=>
   rw[hK rfl]
   exact⟨_,_,rfl,rfl,by decide⟩
  |true=>
   obtain⟨c,r',h1,h2⟩:=hA rfl
   simp only[if_true,cond_false]
   rw[h1]
   simp only[]
   cases ha:apply (qe .i64) r.er e.er with
   |error k=>
    rw[ha]at h2
    obtain⟨rfl,h3⟩:=h2
    rw[decide_eq_false h3]
    exact⟨_,_,rfl,rfl,h3⟩
   |ok s=>
    rw[ha]at h2
    obtain⟨rfl,rfl⟩:=h2
    exact⟨_,_,rfl,rfl,rfl⟩
theorem ov {α:Type}{o:Option α}(h:o.isSome=Gh):∃x,o=Ga x:=G9.1 h
theorem pV {α:Type}{o:Option α}(h:o.isSome=Gi):o=Hb:=by cases o<;>simp at h ⊢
theorem kh {k a c}(hk:e.kind=k)(hf:yt k=Ga (a,c))(hc:zb e.er=0):(e.names.getD []).length=a∧(e.values.getD []).length=c:=by
 obtain⟨_,f,h1,h2,h3⟩:=Ij hc
 rw[show e.er.kind=k from hk,hf]at h1
 cases h1
 exact⟨h2,h3⟩
theorem jH {α:Type}{l:List α}(h:l.length=1):∃a,l=[a]:=List.length_eq_one_iff.1 h
theorem gU {α:Type}{l:List α}(h:l.length=2):∃a b,l=[a,b]:=by
 match l,h with
 | [a,b],_=>exact⟨a,b,rfl⟩
theorem jr5 {α:Type}{l:List α}(h:l.length=3):∃a b c,l=[a,b,c]:=by
 match l,h with
 | [a,b,c],_=>exact⟨a,b,c,rfl⟩
theorem ox {r n}:y9 r 45 n=Gh:=rfl
theorem rl {r n}:y9 r 108 n=(zy r n).isSome:=rfl
theorem rp {r n}:y9 r 112 n=(zx r n).isSome:=rfl
theorem ru {r n}:y9 r 117 n=(zu r n).isSome:=rfl
theorem jr7 (b:GB r)(hk:e.kind=mF)(hc:zb e.er=0):gT (jQ r e) (after (qe .i64) r.er e.er):=by
 obtain⟨h1,h2⟩:=kh hk (show yt mF=Ga (2,2)from rfl) hc
 obtain⟨n0,n1,hn⟩:=gU h1
 obtain⟨v0,v1,hv⟩:=gU h2
 refine ou (K:=true) hv (by have:=BA (a:=45) (c:=45) b (by rw[hk];rfl) rfl rfl hn;simpa[ox]using this) (fun h=>by cases h) (fun _=>?_)
 rw[hk]
 exact a105 b hk hn hv
theorem q99 (b:GB r)(hk:e.kind=nv)(hc:zb e.er=0):gT (jQ r e) (after (qe .i64) r.er e.er):=by
 obtain⟨h1,h2⟩:=kh hk (show yt nv=Ga (1,1)from rfl) hc
 obtain⟨n0,hn⟩:=jH h1
 obtain⟨v0,hv⟩:=jH h2
 refine ou (K:=true) hv (by have:=Bx (a:=45) b (by rw[hk];rfl) rfl hn;simpa[ox]using this) (fun h=>by cases h) (fun _=>?_)
 rw[hk]
 exact zcw b hk hn hv
theorem jn2 (b:GB r)(hk:e.kind=mG)(hc:zb e.er=0):gT (jQ r e) (after (qe .i64) r.er e.er):=by
 obtain⟨h1,h2⟩:=kh hk (show yt mG=Ga (2,2)from rfl) hc
 obtain⟨n0,n1,hn⟩:=gU h1
 obtain⟨v0,v1,hv⟩:=gU h2
 refine ou (K:=(zx r.er n0).isSome) hv (by have:=BA (a:=112) (c:=45) b (by rw[hk];rfl) rfl rfl hn;rw[show(y9 r.er 112 n0&&y9 r.er 45 n1)=((zx r.er n0).isSome)from by simp only[ox,rl,rp,ru,Gm,Gn]]at this;exact this) (fun h=>?_) (fun h=>?_)
 ·have h:=pV h
  unfold apply kn
  rw[show e.er.kind=mG from hk,if_neg (by decide),if_pos (by decide),fj hn,h]
 ·obtain⟨k,hp⟩:=ov h
  rw[hk]
  exact zd7 b hk hn hv hp
theorem joj (b:GB r)(hk:e.kind=nw)(hc:zb e.er=0):gT (jQ r e) (after (qe .i64) r.er e.er):=by
 obtain⟨h1,h2⟩:=kh hk (show yt nw=Ga (2,3)from rfl) hc
 obtain⟨n0,n1,hn⟩:=gU h1
 obtain⟨v0,v1,v2,hv⟩:=jr5 h2
 refine ou (K:=(zx r.er n0).isSome) hv (by have:=BA (a:=112) (c:=45) b (by rw[hk];rfl) rfl rfl hn;rw[show(y9 r.er 112 n0&&y9 r.er 45 n1)=((zx r.er n0).isSome)from by simp only[ox,rl,rp,ru,Gm,Gn]]at this;exact this) (fun h=>?_) (fun h=>?_)
 ·have h:=pV h
  unfold apply kn
  rw[show e.er.kind=nw from hk,if_neg (by decide),if_pos (by decide),fj hn,h]
 ·obtain⟨k,hp⟩:=ov h
  rw[hk]
  exact zew b hk hn hv hp
theorem jhr (b:GB r)(hk:e.kind=pN)(hc:zb e.er=0):gT (jQ r e) (after (qe .i64) r.er e.er):=by
 obtain⟨h1,h2⟩:=kh hk (show yt pN=Ga (1,1)from rfl) hc
 obtain⟨n0,hn⟩:=jH h1
 obtain⟨v0,hv⟩:=jH h2
 refine ou (K:=(zx r.er n0).isSome) hv (by have:=Bx (a:=112)  b (by rw[hk];rfl) rfl hn;rw[show(y9 r.er 112 n0)=((zx r.er n0).isSome)from by simp only[ox,rl,rp,ru,Gm,Gn]]at this;exact this) (fun h=>?_) (fun h=>?_)
 ·have h:=pV h
  unfold apply kn
  rw[show e.er.kind=pN from hk,if_neg (by decide),if_pos (by decide),fj hn,h]
 ·obtain⟨k,hp⟩:=ov h
  rw[hk]
  exact a109 b hk hn hv hp
theorem jlg (b:GB r)(hk:e.kind=mH)(hc:zb e.er=0):gT (jQ r e) (after (qe .i64) r.er e.er):=by
 obtain⟨h1,h2⟩:=kh hk (show yt mH=Ga (2,1)from rfl) hc
 obtain⟨n0,n1,hn⟩:=gU h1
 obtain⟨v0,hv⟩:=jH h2
 refine ou (K:=(zx r.er n1).isSome) hv (by have:=BA (a:=45) (c:=112) b (by rw[hk];rfl) rfl rfl hn;rw[show(y9 r.er 45 n0&&y9 r.er 112 n1)=((zx r.er n1).isSome)from by simp only[ox,rl,rp,ru,Gm,Gn]]at this;exact this) (fun h=>?_) (fun h=>?_)
 ·have h:=pV h
  unfold apply lW
  rw[show e.er.kind=mH from hk,if_pos (by decide),if_neg (by decide),if_neg (by decide),lV hn]
  unfold kq
  rw[h];rfl
 ·obtain⟨k,hp⟩:=ov h
  rw[hk]
  exact zhl b hk hn hv hp
theorem jwj (b:GB r)(w:WF r.er)(hk:e.kind=mI)(hc:zb e.er=0):gT (jQ r e) (after (qe .i64) r.er e.er):=by
 obtain⟨h1,h2⟩:=kh hk (show yt mI=Ga (2,2)from rfl) hc
 obtain⟨n0,n1,hn⟩:=gU h1
 obtain⟨v0,v1,hv⟩:=gU h2
 refine ou (K:=(zu r.er n0).isSome&&(zy r.er n1).isSome) hv (by have:=BA (a:=117) (c:=108) b (by rw[hk];rfl) rfl rfl hn;rw[show(y9 r.er 117 n0&&y9 r.er 108 n1)=((zu r.er n0).isSome&&(zy r.er n1).isSome)from by simp only[ox,rl,rp,ru,Gm,Gn]]at this;exact this) (fun h=>?_) (fun h=>?_)
 ·cases h1:zu r.er n0 with
  |none=>
   rw[k9 hk (by decide) (by decide),if_neg (by decide)]
   unfold lX
   rw[fj hn,h1]
  |some k=>
   rw[h1]at h
   have h:=pV (show(zy r.er n1).isSome=Gi from h)
   obtain⟨u,g1,_,g3⟩:=rP h1
   rw[k9 hk (by decide) (by decide),if_neg (by decide),wR (fj hn) h1 g3,if_pos hk]
   unfold pT
   rw[lV hn,h]
 ·rw[Ro]at h
  obtain⟨k,hp⟩:=ov h.1
  obtain⟨j,hq⟩:=ov h.2
  rw[hk]
  exact zel b w hk hn hv hp hq
theorem jbd (b:GB r)(w:WF r.er)(hk:e.kind=oQ)(hc:zb e.er=0):gT (jQ r e) (after (qe .i64) r.er e.er):=by
 obtain⟨h1,h2⟩:=kh hk (show yt oQ=Ga (2,2)from rfl) hc
 obtain⟨n0,n1,hn⟩:=gU h1
 obtain⟨v0,v1,hv⟩:=gU h2
 refine ou (K:=(zu r.er n0).isSome) hv (by have:=BA (a:=117) (c:=45) b (by rw[hk];rfl) rfl rfl hn;rw[show(y9 r.er 117 n0&&y9 r.er 45 n1)=((zu r.er n0).isSome)from by simp only[ox,rl,rp,ru,Gm,Gn]]at this;exact this) (fun h=>?_) (fun h=>?_)
 ·have h:=pV h
  rw[k9 hk (by decide) (by decide),if_neg (by decide)]
  unfold lX
  rw[fj hn,h]
 ·obtain⟨k,hp⟩:=ov h
  rw[hk]
  exact zga b w hk hn hv hp
theorem jdm (b:GB r)(w:WF r.er)(hk:e.kind=pO)(hc:zb e.er=0):gT (jQ r e) (after (qe .i64) r.er e.er):=by
 obtain⟨h1,h2⟩:=kh hk (show yt pO=Ga (1,1)from rfl) hc
 obtain⟨n0,hn⟩:=jH h1
 obtain⟨v0,hv⟩:=jH h2
 refine ou (K:=(zu r.er n0).isSome) hv (by have:=Bx (a:=117)  b (by rw[hk];rfl) rfl hn;rw[show(y9 r.er 117 n0)=((zu r.er n0).isSome)from by simp only[ox,rl,rp,ru,Gm,Gn]]at this;exact this) (fun h=>?_) (fun h=>?_)
 ·have h:=pV h
  rw[k9 hk (by decide) (by decide),if_neg (by decide)]
  unfold lX
  rw[fj hn,h]
 ·obtain⟨k,hp⟩:=ov h
  rw[hk]
  exact ziw b w hk hn hv hp
theorem jnv (b:GB r)(hk:e.kind=nx)(hc:zb e.er=0):gT (jQ r e) (after (qe .i64) r.er e.er):=by
 obtain⟨h1,h2⟩:=kh hk (show yt nx=Ga (2,1)from rfl) hc
 obtain⟨n0,n1,hn⟩:=gU h1
 obtain⟨v0,hv⟩:=jH h2
 refine ou (K:=(zu r.er n0).isSome&&(zu r.er n1).isSome) hv (by have:=BA (a:=117) (c:=117) b (by rw[hk];rfl) rfl rfl hn;rw[show(y9 r.er 117 n0&&y9 r.er 117 n1)=((zu r.er n0).isSome&&(zu r.er n1).isSome)from by simp only[ox,rl,rp,ru,Gm,Gn]]at this;exact this) (fun h=>?_) (fun h=>?_)
 ·cases h1:zu r.er n0 with
  |none=>
   rw[k9 hk (by decide) (by decide),if_neg (by decide)]
   unfold lX
   rw[fj hn,h1]
  |some k=>
   rw[h1]at h
   have h:=pV (show(zu r.er n1).isSome=Gi from h)
   obtain⟨u,g1,_,g3⟩:=rP h1
   rw[k9 hk (by decide) (by decide),if_neg (by decide),wR (fj hn) h1 g3,if_neg (by rw[hk];decide),if_pos hk]
   unfold pU
   rw[lV hn,h]
 ·rw[Ro]at h
  obtain⟨k,hp⟩:=ov h.1
  obtain⟨j,hq⟩:=ov h.2
  rw[hk]
  exact zbv b hk hn hv hp hq
theorem jo1 (b:GB r)(hk:e.kind=oi)(hc:zb e.er=0):gT (jQ r e) (after (qe .i64) r.er e.er):=by
 obtain⟨h1,h2⟩:=kh hk (show yt oi=Ga (1,1)from rfl) hc
 obtain⟨n0,hn⟩:=jH h1
 obtain⟨v0,hv⟩:=jH h2
 refine ou (K:=(zy r.er n0).isSome) hv (by have:=Bx (a:=108)  b (by rw[hk];rfl) rfl hn;rw[show(y9 r.er 108 n0)=((zy r.er n0).isSome)from by simp only[ox,rl,rp,ru,Gm,Gn]]at this;exact this) (fun h=>?_) (fun h=>?_)
 ·have h:=pV h
  rw[k9 hk (by decide) (by decide),if_pos (by decide)]
  unfold oU
  rw[fj hn,h]
 ·obtain⟨k,hp⟩:=ov h
  rw[hk]
  exact ze2 b hk hn hv hp
theorem jp1 (b:GB r)(hk:e.kind=rM)(hc:zb e.er=0):gT (jQ r e) (after (qe .i64) r.er e.er):=by
 obtain⟨h1,h2⟩:=kh hk (show yt rM=Ga (1,1)from rfl) hc
 obtain⟨n0,hn⟩:=jH h1
 obtain⟨v0,hv⟩:=jH h2
 refine ou (K:=(zy r.er n0).isSome) hv (by have:=Bx (a:=108)  b (by rw[hk];rfl) rfl hn;rw[show(y9 r.er 108 n0)=((zy r.er n0).isSome)from by simp only[ox,rl,rp,ru,Gm,Gn]]at this;exact this) (fun h=>?_) (fun h=>?_)
 ·have h:=pV h
  rw[k9 hk (by decide) (by decide),if_pos (by decide)]
  unfold oU
  rw[fj hn,h]
 ·obtain⟨k,hp⟩:=ov h
  rw[hk]
  exact zkr b hk hn hv hp
theorem jor (b:GB r)(w:WF r.er)(hk:e.kind=iW)(hc:zb e.er=0):gT (jQ r e) (after (qe .i64) r.er e.er):=by
 obtain⟨h1,h2⟩:=kh hk (show yt iW=Ga (1,1)from rfl) hc
 obtain⟨n0,hn⟩:=jH h1
 obtain⟨v0,hv⟩:=jH h2
 refine ou (K:=(zu r.er n0).isSome) hv (by have:=Bx (a:=117)  b (by rw[hk];rfl) rfl hn;rw[show(y9 r.er 117 n0)=((zu r.er n0).isSome)from by simp only[ox,rl,rp,ru,Gm,Gn]]at this;exact this) (fun h=>?_) (fun h=>?_)
 ·have h:=pV h
  rw[k9 hk (by decide) (by decide),if_neg (by decide)]
  unfold lX
  rw[fj hn,h]
 ·obtain⟨k,hp⟩:=ov h
  rw[hk]
  exact zh6 b w hk hn hv hp
theorem q68 (b:GB r)(hk:e.kind=yU)(hc:zb e.er=0):gT (jQ r e) (after (qe .i64) r.er e.er):=by
 obtain⟨h1,h2⟩:=kh hk (show yt yU=Ga (1,1)from rfl) hc
 obtain⟨n0,hn⟩:=jH h1
 obtain⟨v0,hv⟩:=jH h2
 refine ou (K:=(zu r.er n0).isSome) hv (by have:=Bx (a:=117)  b (by rw[hk];rfl) rfl hn;rw[show(y9 r.er 117 n0)=((zu r.er n0).isSome)from by simp only[ox,rl,rp,ru,Gm,Gn]]at this;exact this) (fun h=>?_) (fun h=>?_)
 ·have h:=pV h
  rw[k9 hk (by decide) (by decide),if_neg (by decide)]
  unfold lX
  rw[fj hn,h]
 ·obtain⟨k,hp⟩:=ov h
  rw[hk]
  exact zih b hk hn hv hp
theorem q7x (b:GB r)(w:WF r.er)(hc:zb e.er=0)(hu:e.kind≠iX):gT (jQ r e) (after (qe .i64) r.er e.er):=by
 obtain⟨_,f,h1,_,_⟩:=Ij hc
 have hm:e.kind∈cP.map (·.1):=by
  unfold yt at h1
  cases hf:cP.find? (fun x=>decide (x.1=e.er.kind))with
  |none=>rw[hf]at h1;cases h1
  |some x=>
   have h2:=List.find?_some hf
   have h3:=List.mem_of_find?_eq_some hf
   rw[show e.kind=x.1 from(of_decide_eq_true h2).symm]
   exact He h3
 simp only[cP,Gr,Jq,List.mem_cons,List.mem_singleton,List.not_mem_nil,or_false]at hm
 rcases hm with h|h|h|h|h|h|h|h|h|h|h|h|h|h|h
 ·exact jr7 b h hc
 ·exact q99 b h hc
 ·exact jn2 b h hc
 ·exact joj b h hc
 ·exact jhr b h hc
 ·exact jlg b h hc
 ·exact jwj b w h hc
 ·exact jbd b w h hc
 ·exact jdm b w h hc
 ·exact jnv b h hc
 ·exact jo1 b h hc
 ·exact jp1 b h hc
 ·exact jor b w h hc
 ·exact q68 b h hc
 ·exact absurd h hu
end Go.Z
