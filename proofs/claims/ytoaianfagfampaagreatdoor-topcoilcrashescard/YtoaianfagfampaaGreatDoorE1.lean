/- Chapter 10, plain. -/
import Derived.Test.YtoaianfagfampaaGreatDoorW12
set_option linter.all false
set_option maxRecDepth 100000
noncomputable section
open Option renaming some->Eb,getD_some->Ep,none->Hp,isSome_some->Hr,any_some->Hu,isSome_iff_exists->Ib,bind_some->Ii,isNone_some->L6
open Bool renaming false_eq_true->Eg,false->Eh,true->G0,true_and->G8,not_true->Hb,and_true->Hc,false_and->Hy,false_or->H0,or_false->H2,and_false->If,or_true->J5,not_false->L5,not_eq_true->Mr,true_or->Ms,and_eq_true->R9,and_self->Sg
open List renaming length_singleton->E4,mem_of_getElem?->E9,length_map->G1,length_append->G4,getElem?_eq_some_iff->G5,getElem?_map->Ha,getElem?_eq_getElem->He,map_cons->Hf,length_take->Hg,mem_map_of_mem->Hk,drop_eq_nil_of_le->Ho,length_set->Hq,map_append->Hx,eq_nil_of_length_eq_zero->H3,length_cons->H4,not_mem_nil->H5,foldl_cons->H6,length_nil->H9,map_nil->Ic,map_set->Ie,drop_zero->Ig,length_filter_le->Ij,any_cons->Ik,dropLast_eq_take->Il,nil_append->Io,flatMap_cons->Mh,mem_of_find?_eq_some->Ml,getLast?_eq_getElem?->Mn,mem_append->Mu,take_of_length_le->My,mem_cons_of_mem->Ov,drop_eq_nil_iff->Oz,all_cons->Q0,mem_cons->Rh,findIdx?_cons->Rj,mem_cons_self->Rm,mem_singleton->Rq,findIdx?_map->Ru,append_assoc->Rw,map_dropLast->Rz,filter_cons->R1,take_length->R7,nodup_cons->Sc,find?_some->Sd,find?_cons->Se,head?_drop->Sf,map_take->Sl
open Nat renaming le_trans->G7,le_refl->Hd,le_of_lt->Ip,lt_of_le_of_lt->L8,zero_le->Ma,succ_le_succ->R2
open Ne renaming symm->Hz
open Int renaming toNat_natCast->Ih
open Sum renaming inl->Mi
namespace Go.Z
open Go Go.Abs Go.W
def ei:Option Nat->Int
 |some k=>(k:Int)|none=>-1
theorem jiz {α:Type}(l:List α)(p:α->Bool)(f:Int->Option (Int⊕(Int⊕Int)))(dA:f (l.length:Int)=Eb (.inr (.inr (l.length:Int))))
  (cr:∀(i:Nat) x,l[i]?=Eb x->i<l.length->f (i:Int)=Eb (if p x then .inr (.inl (i:Int))else .inl ((i+1:Nat):Int))):
  ∃d,bu f 0=Eb d/\(match d with | .inl k=>k | .inr _=>-1)=ei (l.findIdx? p):=by
 have:=IY l.length (fun i=>(i:Int)) f (fun d=>match d with | .inl k=>k | .inr _=>(-1:Int)) (fun i=>ei (((l.drop i).findIdx? p).map (· + i))) ⟨_,dA,by rw[Ho (Hd _)];rfl⟩ (fun i hi=>by
  obtain⟨x,M⟩:∃x,l[i]?=Eb x:=⟨_,He hi⟩;have Y:=cr i x M hi;simp only[sN M,Rj]
  cases hp:p x with
  |true=>
   rw[hp,if_pos rfl]at Y;exact .inr ⟨_,Y,by simp[ei]⟩
  |false=>
   rw[hp]at Y;refine .inl ⟨by simpa using Y,?_⟩;simp only[Eg,if_false,Option.map_map]
   congr 1
   congr 1
   funext n
   simp only[Function.comp];omega)
 obtain⟨d,Y,I⟩:=this;refine⟨d,Y,?_⟩;rw[I];simp
abbrev SM:Nat:=1073741824
theorem nA {α:Type}{l:List α}{p:α->Bool}{f:Int->Option (Int⊕(Int⊕Int))}(hl:l.length<=SM)
  (hf:∀i:Int,f i=cond (decide (i<(l.length:Int))) (qc (qo l i) fun x=>cond (p x) (Eb (.inr (.inl i))) (Eb (.inl (qf .i64 (i+1))))) (Eb (.inr (.inr i)))):
  (qc (bu f 0) fun d=>match d with | .inl k=>Eb k | .inr _=>Eb (-1))=Eb (ei (l.findIdx? p)):=by
 obtain⟨d,Y,I⟩:=jiz l p f (by rw[hf,z4];rfl) (fun i x M hi=>by
  rw[hf,yp hi];simp only[cond_true,qc,ja M]
  cases p x with
  |true=>rfl
  |false=>simp only[cond_false];rw[zc (by unfold SM at hl;omega)];rfl)
 rw[Y];simp only[qc];rw[<-I];cases d<;>rfl
variable {r:av}{n:aj}
theorem I0 (hl:(r.ay.getD []).length<=SM):f182 r n=Eb (ei (zx r.er n)):=by
 unfold f182 zx;exact nA (p:=fun x=>decide (x.name=n)) hl fun i=>rfl
theorem Fm (hl:(r.ay.getD []).length<=SM):f132 r n=Eb (ei (zx r.er n)):=by
 have:I1 ((r.ay.getD []).length:Int) r n=Eb (ei (zx r.er n)):=by
  unfold I1 zx;refine nA (p:=fun x=>decide (x.name=n)) hl fun i=>?_;unfold I2 f199
  congr 1
  cases qo (r.ay.getD []) i<;>rfl
 unfold f132;rw[this];rfl
theorem x5:r.er.ah=(r.ah.getD []).map bm.er:=rfl
theorem wm:r.er.units=(r.units.getD []).map bp.er:=rfl
theorem Nc:zr r.er n=(r.ah.getD []).findIdx? fun x=>decide (x.name=n):=by
 unfold zr;rw[x5,Ru];rfl
theorem T8:zk r.er n=(r.units.getD []).findIdx? fun x=>decide (x.name=n):=by
 unfold zk;rw[wm,Ru];rfl
theorem Fo (hl:(r.ah.getD []).length<=SM):f183 r n=Eb (ei (zr r.er n)):=by
 rw[Nc];unfold f183;exact nA (p:=fun x=>decide (x.name=n)) hl fun i=>rfl
theorem sR (hl:(r.ah.getD []).length<=SM):f58 r n=Eb (ei (zr r.er n)):=by
 have:I4 ((r.ah.getD []).length:Int) r n=Eb (ei (zr r.er n)):=by
  rw[Nc];unfold I4;refine nA (p:=fun x=>decide (x.name=n)) hl fun i=>?_;unfold I5 f128
  congr 1
  cases qo (r.ah.getD []) i<;>rfl
 unfold f58;rw[this];rfl
theorem Nd (hl:(r.units.getD []).length<=SM):f184 r n=Eb (ei (zk r.er n)):=by
 rw[T8];unfold f184;exact nA (p:=fun x=>decide (x.name=n)) hl fun i=>rfl
theorem ux (hl:(r.units.getD []).length<=SM):f49 r n=Eb (ei (zk r.er n)):=by
 have:I6 ((r.units.getD []).length:Int) r n=Eb (ei (zk r.er n)):=by
  rw[T8];unfold I6;refine nA (p:=fun x=>decide (x.name=n)) hl fun i=>?_;unfold I7 f118
  congr 1
  cases qo (r.units.getD []) i<;>rfl
 unfold f49;rw[this];rfl
end Go.Z
namespace Go.Z
open Go Go.Abs Go.W
theorem q20 {i}(h:i<9223372036854775807):qf .i64 (((i+1:Nat):Int)-1)=(i:Int):=by
 have:=zc (i:=i) h;rw[show(((i+1:Nat):Int)-1)=(i:Int) by omega]
 cases i with
 |zero=>rfl
 |succ j=>
  have:=zc (i:=j) (by omega);rw[show((j+1:Nat):Int)=(j:Int)+1 by omega,this];omega
variable {r:av}{n:aj}
theorem T9 {sp}(h:kx r.er n=Eb sp):∃k p,zr r.er n=Eb k/\(r.ah.getD [])[k]?=Eb p/\p.er=sp/\p.name=n:=by
 unfold kx at h
 cases hk:zr r.er n with
 |none=>rw[hk]at h;cases h
 |some k=>
  rw[hk]at h;simp only[Ii,x5,Ha]at h
  cases hp:(r.ah.getD [])[k]? with
  |none=>rw[hp]at h;cases h
  |some p=>
   rw[hp]at h;rw[Nc]at hk;obtain⟨x,Y,I,_⟩:=bV hk;rw[hp]at Y;cases Y;exact⟨k,p,rfl,hp,by simpa using h,of_decide_eq_true I⟩
theorem jsg {u d}(hP:(r.ah.getD []).length<=SM)(hB:∀p∈r.ah.getD [],(p.bg.getD []).length<=SM)(hd:gp r.er u.er=Eb d):∃D,f123 r u=Eb D/\f191 r u=Eb D/\D.er=d:=by
 unfold gp at hd
 cases hp:kx r.er u.er.product with
 |none=>rw[hp]at hd;cases hd
 |some sp=>
  rw[hp]at hd;obtain⟨k,p,Y,I,rfl,_⟩:=T9 hp;simp only[Ii,Bd]at hd;have hB:=hB p (E9 I);split at hd
  .rename_i hv;obtain⟨i,hi⟩:∃i:Nat,u.version=((i+1:Nat):Int):=⟨(u.version-1).toNat,by have:1<=u.version:=hv;omega⟩
   have he:(u.er.version-1).toNat=i:=by show(u.version-1).toNat=i;omega
   rw[he]at hd;have pF:((p.bg.getD []).map b9.er)[i]?=Eb d:=hd;rw[Ha]at pF
   cases hD:(p.bg.getD [])[i]? with
   |none=>rw[hD]at pF;cases pF
   |some D=>
    rw[hD]at pF;have bh:=(G5.1 hD).1
    have hw:qf .i64 (u.version-1)=(i:Int):=by rw[hi];exact q20 (by unfold SM at hB;omega)
    refine⟨D,?_,?_,by simpa using pF⟩
    .unfold f123;rw[sR hP,show zr r.er u.product=Eb k from Y];simp only[qc,ei,ja I,hw,ja hD]
    .unfold f191;rw[Fo hP,show zr r.er u.product=Eb k from Y];simp only[qc,ei,ja I,hw,ja hD]
  .cases hd
theorem Nf {u v}(hP:(r.ah.getD []).length<=SM)(hd:qS r.er u.er=Eb v):f162 r u=Eb v/\f192 r u=Eb v:=by
 unfold qS at hd
 cases hp:kx r.er u.er.product with
 |none=>rw[hp]at hd;cases hd
 |some sp=>
  rw[hp]at hd;obtain⟨k,p,Y,I,rfl,_⟩:=T9 hp
  have hv:v=((p.bg.getD []).length:Int):=by
   simp only[Option.map_some,Eb.injEq]at hd;rw[<-hd];show((((p.bg.getD []).map b9.er).length:Nat):Int)=_;rw[G1]
  subst hv;refine⟨?_,?_⟩
  .unfold f162 f59;rw[sR hP,show zr r.er u.product=Eb k from Y];simp only[qc,ei,ja I]
  .unfold f192;rw[Fo hP,show zr r.er u.product=Eb k from Y];simp only[qc,ei,ja I]
theorem Ua {α γ ε:Type}(g:γ->α->γ):∀(l:List α) (i:Nat) (c:γ),vY (fun _ c x=>(.inl (g c x):γ⊕ε)) i c l=.inl (l.foldl g c)
 | [],i,c=>rfl
 |x::l,i,c=>by simp only[vY,H6];exact Ua g l (i+1) (g c x)
theorem Fp {α γ σ δ:Type}(l:List α)(f:σ->Option (σ⊕δ))(mk:Nat->γ->σ)(g:γ->α->γ)(En:γ->δ)(c:γ)(dA:∀c,f (mk l.length c)=Eb (.inr (En c)))
  (cr:∀i c x,l[i]?=Eb x->i<l.length->f (mk i c)=Eb (.inl (mk (i+1) (g c x)))):bu f (mk 0 c)=Eb (En (l.foldl g c)):=by
 have:=q8c (ε:=Empty) l f mk (fun _ c x=>.inl (g c x)) En (fun e=>nomatch e) (fun _ _=>True) c (fun c _=>dA c) (fun i c x M hi _=>⟨trivial,cr i c x M hi⟩) trivial;rw[this,Ua]
theorem jp2 {u t}(hl:(u.results.getD []).length<=SM):f252 u t=Eb (sS u.er t):=by
 unfold f252
 have:=Fp (u.results.getD []) (Be u t) (fun i (c:Bool)=>(c,(i:Int))) (fun is x=>if decide (x.k=t.k)&&decide (x.a=u.version)then decide (t.a<=x.b)&&decide (x.b<=t.b)else is) (fun c=>(c,((u.results.getD []).length:Int))) Eh (fun c=>by unfold Be;simp only[z4];rfl)
  (fun i c x M hi=>by
   unfold Be;simp only[yp hi,cond_true,qc,ja M];rw[zc (by unfold SM at hl;omega)]
   by_cases Y:x.k=t.k<;>by_cases I:x.a=u.version<;>by_cases h3:t.a<=x.b<;>simp[Y,I,h3])
 rw[show((Eh,(0:Int)):Bool×Int)=(Eh,((0:Nat):Int))from rfl,this];rfl
theorem jnq {u t}(hl:(u.results.getD []).length<=SM)(hv:u.version≠-1):f125 u t=Eb (sS u.er t):=by
 unfold f125
 have:=Fp (u.results.getD []) (Bf u t) (fun i (c:jh)=>((i:Int),c.k,c.a,c.b)) (fun c x=>if decide (x.k=t.k)&&decide (x.a=u.version)then x else c) (fun c=>(((u.results.getD []).length:Int),c.k,c.a,c.b)) ⟨[],-1,0⟩ (fun c=>by unfold Bf;simp only[z4];rfl)
  (fun i c x M hi=>by
   unfold Bf;simp only[yp hi,cond_true,qc,ja M];rw[zc (by unfold SM at hl;omega)]
   by_cases Y:x.k=t.k<;>by_cases I:x.a=u.version<;>simp[Y,I])
 rw[show(((0:Int),([]:aj),(-1:Int),(0:Int)):Int×aj×Int×Int)=(((0:Nat):Int),[],-1,0)from rfl];simp only[]at this;rw[this];simp only[qc]
 have key:∀(l:List jh) (c:jh) (b:Bool),(c=⟨[],-1,0⟩/\b=Eh\/c.a=u.version/\b=(decide (t.a<=c.b)&&decide (c.b<=t.b))) ->
   (let c':=l.foldl (fun c x=>if decide (x.k=t.k)&&decide (x.a=u.version)then x else c) c
    let b':=l.foldl (fun is x=>if decide (x.k=t.k)&&decide (x.a=u.version)then decide (t.a<=x.b)&&decide (x.b<=t.b)else is) b
    c'=⟨[],-1,0⟩/\b'=Eh\/c'.a=u.version/\b'=(decide (t.a<=c'.b)&&decide (c'.b<=t.b))):=by
  intro l
  induction l with
  |nil=>intro c b h;exact h
  |cons x l ih=>
   intro c b h;simp only[H6];apply ih;by_cases Y:x.k=t.k<;>by_cases I:x.a=u.version
   .simp only[Y,I,decide_true,Sg,if_true];right;trivial
   all_goals simpa only[Y,I,decide_true,decide_false,If,Hy,Sg,Eg,if_false]using h
 have k:=key (u.results.getD []) ⟨[],-1,0⟩ Eh (.inl ⟨rfl,rfl⟩);simp only at k;show _=Eb ((u.results.getD []).foldl (fun is x=>if decide (x.k=t.k)&&decide (x.a=u.version)then decide (t.a<=x.b)&&decide (x.b<=t.b)else is) Eh);rcases k with⟨Y,I⟩|⟨Y,I⟩
 .rw[I,Y];rfl
 .rw[I];generalize (u.results.getD []).foldl (fun c x=>if decide (x.k=t.k)&&decide (x.a=u.version)then x else c) ⟨[],-1,0⟩=c at Y;have:decide (c.a=-1)=Eh:=decide_eq_false (by rw[Y];exact hv);simp only[this,If,Hy,cond_false];by_cases h3:t.a<=c.b<;>simp[h3]
end Go.Z
namespace Go.Z
open Go Go.Abs Go.W
theorem Ub {α β:Type}(p:α->Bool)(g:α->β):∀l:List α,(l.flatMap fun x=>if p x then [g x]else [])=(l.filter p).map g
 | []=>rfl
 |x::l=>by
  rw[Mh,Ub p g l,R1];cases p x<;>rfl
theorem Uc {α β:Type}{l:List α}{p:α->Bool}{g:α->β}{f}(hl:l.length<=SM)
  (dA:∀o w,f (o,(l.length:Int),w)=Eb (.inr (o,w,(l.length:Int))))
  (hf:∀(i:Nat) x o w,l[i]?=Eb x->f (o,(i:Int),w)=cond (p x) (cond w (qc (bB o [g x]) fun v=>Eb (.inl (v,((i+1:Nat):Int),G0))) (cond o.isNone (qc (bB o [g x]) fun v=>Eb (.inl (v,((i+1:Nat):Int),G0))) Hp)) (Eb (.inl (o,((i+1:Nat):Int),w)))):
  bu f (Hp,0,Eh)=Eb (jj ((l.filter p).map g),fR ((l.filter p).map g),(l.length:Int)):=by
 have:=q69 l (fun i=>(i:Int)) f (fun x=>if p x then [g x]else []) [] (fun i a=>a.length<=i) (Hd _) (fun a=>dA _ _) (fun i x a M hi ha=>by
  cases hp:p x with
  |true=>
   refine⟨by simp;omega,?_⟩;rw[hf i x _ _ M,hp];simp only[cond_true,if_true];rw[wi];exact sO (x:=g x) (k:=fun v=>Eb (Mi (v,((i+1:Nat):Int),G0))) (by unfold SM at hl;omega)
  |false=>
   refine⟨by simp;omega,?_⟩;rw[hf i x _ _ M,hp]
   simp)
 rw[Ub,Io]at this;exact this
theorem Fq {α:Type}{l:List α}{p:α->Bool}{q:α->Option Bool}{f}(hl:l.length<=SM)(hq:∀x∈l,q x=Eb (p x))
  (hf:∀s,f s=cond (decide (s.2.1<(l.length:Int))) (qc (qo l s.2.1) fun x=>qc (q x) fun b=>cond b (cond s.2.2 (qc (bB s.1 [x]) fun v=>Eb (.inl (v,qf .i64 (s.2.1+1),G0))) (cond s.1.isNone (qc (bB s.1 [x]) fun v=>Eb (.inl (v,qf .i64 (s.2.1+1),G0))) Hp)) (Eb (.inl (s.1,qf .i64 (s.2.1+1),s.2.2)))) (Eb (.inr (s.1,s.2.2,s.2.1)))):
  bu f (Hp,0,Eh)=Eb (jj (l.filter p),fR (l.filter p),(l.length:Int)):=by
 have:=Uc (l:=l) (p:=p) (g:=fun x=>x) (f:=f) hl (fun o w=>by rw[hf];simp only[z4,cond_false]) (fun i x o w M=>by
  have hi:=(G5.1 M).1;rw[hf];simp only[yp hi,cond_true,qc,ja M,hq x (E9 M)]
  rw[zc (by unfold SM at hl;omega)])
 simpa using this
theorem Bg {α β:Type}{l:List α}{g:α->β}{q:α->Option β}{f}(hl:l.length<=SM)(hq:∀x∈l,q x=Eb (g x))
  (hf:∀s,f s=cond (decide (s.2.1<(l.length:Int))) (qc (qo l s.2.1) fun x=>qc (q x) fun b=>cond s.2.2 (qc (bB s.1 [b]) fun v=>Eb (.inl (v,qf .i64 (s.2.1+1),G0))) (cond s.1.isNone (qc (bB s.1 [b]) fun v=>Eb (.inl (v,qf .i64 (s.2.1+1),G0))) Hp)) (Eb (.inr (s.1,s.2.2,s.2.1)))):
  bu f (Hp,0,Eh)=Eb (jj (l.map g),fR (l.map g),(l.length:Int)):=by
 have:=Uc (l:=l) (p:=fun _=>G0) (g:=g) (f:=f) hl (fun o w=>by rw[hf];simp only[z4,cond_false]) (fun i x o w M=>by
  have hi:=(G5.1 M).1;rw[hf];simp only[yp hi,cond_true,qc,ja M,hq x (E9 M)]
  rw[zc (by unfold SM at hl;omega)])
 rw[List.filter_eq_self.2 (fun _ _=>rfl)]at this;exact this
variable {r:av}{u:bp}{D:b9}
theorem qyg {α:Type}{l:List α}{p}(hl:l.length<=SM):(l.filter p).length<=SM:=G7 (Ij _ _) hl
theorem jfv (hd:f123 r u=Eb D)(Q:(u.results.getD []).length<=SM)(ht:(D.aO.getD []).length<=SM)(hv:u.version≠-1):∃w,f54 r u=Eb (jj (qT D.er u.er),w):=by
 unfold f54;rw[hd];simp only[qc]
 have Y:f122 D.aO u=Eb (jj ((D.aO.getD []).filter fun t=>!sS u.er t),fR ((D.aO.getD []).filter fun t=>!sS u.er t)):=by
  unfold f122;rw[Fq (f:=I8 D.aO u) (l:=D.aO.getD []) (p:=fun t=>!sS u.er t) (q:=fun t=>f124 t u) ht (fun x _=>by unfold f124;rw[jnq Q hv];rfl) (fun s=>rfl)];rfl
 rw[Y];simp only[]
 have I:f126 (jj ((D.aO.getD []).filter fun t=>!sS u.er t))=Eb (jj (qT D.er u.er),fR (qT D.er u.er)):=by
  unfold f126;rw[Bg (f:=I9 (jj ((D.aO.getD []).filter fun t=>!sS u.er t))) (l:=((jj ((D.aO.getD []).filter fun t=>!sS u.er t)).getD [])) (g:=fun t:jh=>t.k) (q:=f127) (by rw[j6];exact qyg ht) (fun x _=>rfl) (fun s=>rfl),j6];rfl
 rw[I];exact⟨_,rfl⟩
theorem jqe (hd:f191 r u=Eb D)(Q:(u.results.getD []).length<=SM)(ht:(D.aO.getD []).length<=SM):∃w,f233 r u=Eb (jj (qT D.er u.er),w):=by
 unfold f233;rw[hd];simp only[qc]
 have:=Uc (l:=D.aO.getD []) (p:=fun t=>!sS u.er t) (g:=fun t:jh=>t.k) (f:=Bh u D) ht (fun o w=>by unfold Bh;simp only[z4,cond_false]) (fun i x o w M=>by
  have hi:=(G5.1 M).1;unfold Bh;simp only[yp hi,cond_true,qc,ja M,jp2 Q];rw[zc (by unfold SM at ht;omega)]
  cases sS u.er x<;>rfl)
 rw[this];exact⟨_,rfl⟩
theorem Ud {n x}(h:oU r.er n=Eb x):∃k:Nat,zx r.er n=Eb k/\(r.ay.getD [])[k]?=Eb x:=by
 unfold oU at h
 cases hk:zx r.er n with
 |none=>rw[hk]at h;cases h|some k=>rw[hk]at h;exact⟨k,rfl,h⟩
theorem Ja {n}(h:(zx r.er n).isSome=G0):∃x,oU r.er n=Eb x:=by
 unfold oU
 cases hk:zx r.er n with
 |none=>rw[hk]at h;cases h
 |some k=>
  obtain⟨x,Y,_⟩:=bV hk;exact⟨x,Y⟩
def Ng (r:bX)(kind:Str)(n:Int)(x:bD):Int:=if(oU r x.k).any (fun l=>decide (l.kind=kind))then qf .i64 (n+x.n)else n
theorem jpd {kind}(hL:(r.ay.getD []).length<=SM)(hu:(u.uses.getD []).length<=SM)(hw:∀x∈u.uses.getD [],(zx r.er x.k).isSome=G0):f251 r u kind=Eb (Fs (qf .i64) r.er u.er kind):=by
 unfold f251
 have:=Fp (u.uses.getD []) (Bi r u kind) (fun i (c:Int)=>(c,(i:Int))) (Ng r.er kind) (fun c=>(c,((u.uses.getD []).length:Int))) 0 (fun c=>by unfold Bi;simp only[z4];rfl)
  (fun i c x M hi=>by
   obtain⟨y,hy⟩:=Ja (hw x (E9 M));obtain⟨k,Y,I⟩:=Ud hy;unfold Bi Ng;simp only[yp hi,cond_true,qc,ja M,I0 hL,Y,ei,ja I,hy,Hu];rw[zc (by unfold SM at hu;omega)]
   by_cases h3:y.kind=kind<;>simp[h3])
 rw[show(((0:Int),(0:Int)):Int×Int)=((0:Int),((0:Nat):Int))from rfl,this];rfl
theorem q96 {σ:Type}{step g}(aah:Nat->σ->Prop)(hL:(r.ay.getD []).length<=SM)(hu:(u.uses.getD []).length<=SM)
  (hg:∀i x c,(u.uses.getD [])[i]?=Eb x->aah i c->aah (i+1) (g c x)/\∃y,oU r.er x.k=Eb y/\step c y x.n=Eb (g c x)) (c:σ) (hI:aah 0 c):bu (pG r u step) (0,c)=Eb (((u.uses.getD []).length:Int),(u.uses.getD []).foldl g c):=by
 have:=q8c (ε:=Empty) (u.uses.getD []) (pG r u step) (fun i (c:σ)=>((i:Int),c)) (fun _ c x=>.inl (g c x)) (fun c=>(((u.uses.getD []).length:Int),c)) (fun e=>nomatch e) aah c (fun c _=>by unfold pG;simp only[z4];rfl)
  (fun i c x M hi hI=>by
   obtain⟨hI',y,Y,I⟩:=hg i x c M hI;obtain⟨k,h3,h4⟩:=Ud Y;refine⟨hI',?_⟩;unfold pG;simp only[yp hi,cond_true,qc,ja M,Fm hL,h3,ei,ja h4,I]
   rw[zc (by unfold SM at hu;omega)]) hI
 rw[show((0:Int),c)=(((0:Nat):Int),c)from rfl,this,Ua]
end Go.Z
namespace Go.Z
open Go Go.Abs Go.W
variable {r:av}{u:bp}{D:b9}
theorem q6a {k v}:∀l:List (aj×Int),(lv l k v).length<=l.length+1
 | []=>Hd _
 |p::l=>by
  unfold lv;split
  .simp
  .simp only[H4];exact R2 (q6a l)
theorem jdn {α γ:Type}{l:List α}{i x}(M:l[i]?=Eb x)(g:γ->α->γ)(c:γ):(l.take (i+1)).foldl g c=g ((l.take i).foldl g c) x:=by
 rw[List.take_add_one,M,List.foldl_append];rfl
theorem jpx (hL:(r.ay.getD []).length<=SM)(hu:(u.uses.getD []).length<=SM)(hw:∀x∈u.uses.getD [],(zx r.er x.k).isSome=G0):∃aai,bu (pG r u wo) (0,[])=Eb (((u.uses.getD []).length:Int),aai)/\∀kind,nz aai kind=Fs (qf .i64) r.er u.er kind:=by
 let g:List (aj×Int)->bD->List (aj×Int):=fun c x=>match oU r.er x.k with
  |some y=>lv c y.kind (qf .i64 (nz c y.kind+x.n))|none=>c
 let aah:Nat->List (aj×Int)->Prop:=fun i aai=>aai.length<=i/\∀kind,nz aai kind=((u.uses.getD []).take i).foldl (Ng r.er kind) 0
 have hg:∀i x c,(u.uses.getD [])[i]?=Eb x->aah i c->aah (i+1) (g c x)/\∃y,oU r.er x.k=Eb y/\wo c y x.n=Eb (g c x):=by
  intro i x c M hI;obtain⟨y,hy⟩:=Ja (hw x (E9 M));have hi:=(G5.1 M).1
  have Hs:g c x=lv c y.kind (qf .i64 (nz c y.kind+x.n)):=by simp only[g,hy]
  rw[Hs];refine⟨⟨G7 (q6a _) (R2 hI.1),fun kind=>?_⟩,y,hy,?_⟩
  .rw[jdn M,jjm,<-hI.2 kind];unfold Ng;rw[hy];simp only[Hu];by_cases hk:kind=y.kind
   .subst hk;simp
   .have dx:¬y.kind=kind:=fun h=>hk h.symm;simp[hk,dx]
  .unfold wo Nb;rw[if_pos (by have:=hI.1;unfold SM at hu;omega)]
 have:=q96 (step:=wo) (g:=g) aah hL hu hg [] ⟨Hd _,fun kind=>rfl⟩
 have hI:∀(k i:Nat) (c:List (aj×Int)),i+k=(u.uses.getD []).length->aah i c->aah (u.uses.getD []).length (((u.uses.getD []).drop i).foldl g c):=by
  intro k
  induction k with
  |zero=>
   intro i c hi hc
   have:i=(u.uses.getD []).length:=by omega
   subst this;rw[Ho (Hd _)];exact hc
  |succ k ih=>
   intro i c hi hc;obtain⟨x,M⟩:∃x,(u.uses.getD [])[i]?=Eb x:=⟨_,He (by omega)⟩;rw[sN M,H6];exact ih (i+1) _ (by omega) (hg i x c M hc).1
 have I:=hI _ 0 [] (Nat.zero_add _) ⟨Hd _,fun kind=>rfl⟩;rw[Ig]at I;refine⟨_,this,fun kind=>?_⟩;rw[I.2 kind,R7];rfl
theorem wu (o:Option Nat):decide (0<=ei o)=o.isSome:=by
 cases o with
 |none=>rfl|some k=>exact decide_eq_true (by show(0:Int)<=(k:Int);omega)
theorem cA {α:Type}{p:α->Bool}{l:List α}:(l.findIdx? p).isSome=l.any p:=by rw[Ft]
theorem ji0 {l:ak bD}{aai:List (aj×Int)}(hl:(l.getD []).length<=SM):Jb l aai=Eb ((l.getD []).any fun n=>decide (nz aai n.k<n.n)):=by
 have:Jc l aai=Eb (ei ((l.getD []).findIdx? fun n=>decide (nz aai n.k<n.n))):=by
  unfold Jc;exact nA (p:=fun n=>decide (nz aai n.k<n.n)) hl fun i=>rfl
 unfold Jb;rw[this];simp only[qc,wu,cA]
theorem joe (hL:(r.ay.getD []).length<=SM)(hu:(u.uses.getD []).length<=SM)(hw:∀x∈u.uses.getD [],(zx r.er x.k).isSome=G0)(hd:f123 r u=Eb D)(hn:(D.aX.getD []).length<=SM):f220 r u=Eb (x6 (qf .i64) r.er D.er u.er):=by
 obtain⟨aai,Y,I⟩:=jpx hL hu hw;unfold f220;rw[Y,hd];simp only[qc,ji0 hn,Eb.injEq];unfold x6;rw[show D.er.aX=D.aX.getD []from rfl]
 induction D.aX.getD []with
 |nil=>rfl
 |cons n l ih=>
  rw[Ik,Q0,Bool.not_or,ih,I]
  congr 1
  by_cases h:Fs (qf .i64) r.er u.er n.k<n.n
  .rw[decide_eq_true h,decide_eq_false (by omega)];rfl
  .rw[decide_eq_false h,decide_eq_true (by omega)];rfl
theorem jon (hL:(r.ay.getD []).length<=SM)(hu:(u.uses.getD []).length<=SM)(hw:∀x∈u.uses.getD [],(zx r.er x.k).isSome=G0)(hd:f191 r u=Eb D)(hn:(D.aX.getD []).length<=SM):f232 r u=Eb (x6 (qf .i64) r.er D.er u.er):=by
 unfold f232;rw[hd];simp only[qc]
 obtain⟨d,Y,I⟩:=T4 (D.aX.getD []) (Bj r u D) (fun n=>decide (n.n<=Fs (qf .i64) r.er u.er n.k)) (fun d=>match d with | .inl _=>Eh | .inr _=>G0) ⟨.inr ((D.aX.getD []).length:Int),by unfold Bj;simp only[z4];rfl,rfl⟩ (fun i x M hi=>by
  unfold Bj;simp only[yp hi,cond_true,qc,ja M,jpd hL hu hw];rw[zc (by unfold SM at hn;omega)];by_cases h:Fs (qf .i64) r.er u.er x.k<x.n
  ·exact .inr ⟨decide_eq_false (by omega),.inl (),by rw[decide_eq_true h];rfl,rfl⟩
  ·exact .inl ⟨decide_eq_true (by omega),by rw[decide_eq_false h];rfl⟩)
 rw[Y];unfold x6;rw[show D.er.aX=D.aX.getD []from rfl,<-I];cases d<;>rfl
def Fu (r:bX)(us:List bD):List ji:=us.map fun x=>(oU r x.k).getD ⟨[],[],0,0,Eh⟩
theorem jki (hL:(r.ay.getD []).length<=SM)(hu:(u.uses.getD []).length<=SM)(hw:∀x∈u.uses.getD [],(zx r.er x.k).isSome=G0):bu (pG r u x9) (0,Hp)=Eb (((u.uses.getD []).length:Int),jj (Fu r.er (u.uses.getD []))):=by
 let gx:bD->ji:=fun x=>(oU r.er x.k).getD ⟨[],[],0,0,Eh⟩
 let g:ak ji->bD->ak ji:=fun c x=>jj (c.getD []++[gx x])
 have:=q96 (step:=x9) (g:=g) (fun i c=>∃a:List ji,c=jj a/\a.length=i) hL hu (fun i x c M hI=>by
  obtain⟨a,rfl,ha⟩:=hI;have hi:=(G5.1 M).1;obtain⟨y,hy⟩:=Ja (hw x (E9 M))
  have hgx:gx x=y:=by simp only[gx,hy,Ep]
  refine⟨⟨a++[y],by simp only[g,hgx,j6],by simp[ha]⟩,y,hy,?_⟩;unfold x9;rw[q0i (by unfold SM at hu;omega)]
  simp only[g,hgx,j6]) Hp ⟨[],rfl,rfl⟩
 rw[this]
 congr 2
 have key:∀(l:List bD) (a:List ji),l.foldl g (jj a)=jj (a++l.map gx):=by
  intro l
  induction l with
  |nil=>intro a;simp
  |cons x l ih=>
   intro a;rw[H6,show g (jj a) x=jj (a++[gx x]) by simp only[g,j6],ih,Hf,Rw];rfl
 have:=key (u.uses.getD []) [];rw[Io]at this;exact this
theorem q81 (hw:∀x∈u.uses.getD [],(zx r.er x.k).isSome=G0):Bk r.er u.er=!((Fu r.er (u.uses.getD [])).filter (·.held)).isEmpty:=by
 unfold Bk Fu;rw[show u.er.uses=u.uses.getD []from rfl]
 revert hw
 generalize u.uses.getD []=us;intro hw
 induction us with
 |nil=>rfl
 |cons x l ih=>
  obtain⟨y,hy⟩:=Ja (hw x (Rm ..));rw[Ik,ih (fun x M=>hw x (Ov _ M)),Hf,R1,hy];simp only[Hu,Ep];cases y.held<;>rfl
theorem yh {b e}:f18 b e=Eb (if b then e else 0):=by unfold f18;cases b<;>rfl
theorem juq {l}(hl:l.length<=SM):f67 (jj l)=Eb (jj (l.filter (·.held)),fR (l.filter (·.held))):=by
 unfold f67;rw[Fq (f:=Fv (jj l)) (l:=(jj l).getD []) (p:=fun x:ji=>x.held) (q:=fun x=>f68 x) (by rw[j6];exact hl) (fun x _=>rfl) (fun s=>rfl),j6];rfl
def hZ:List Int->Int
 | []=>0
 |e::l=>if e=0 then hZ l else e
theorem iW {l}(hl:l.length<=SM):f17 (Eb l)=Eb (hZ l):=by
 unfold f17
 have:=IY l.length (fun i=>(i:Int)) (Bl (Eb l)) (fun d=>match d with | .inl k=>k | .inr _=>(0:Int)) (fun i=>hZ (l.drop i)) ⟨.inr (l.length:Int),by unfold Bl;simp only[Ep,z4];rfl,by rw[Ho (Hd _)];rfl⟩ (fun i hi=>by
  obtain⟨x,M⟩:∃x,l[i]?=Eb x:=⟨_,He hi⟩;unfold Bl;simp only[Ep,yp hi,cond_true,qc,ja M,sN M,hZ];by_cases h0:x=0
  ·simp only[h0,decide_true,cond_true,if_true];rw[zc (by unfold SM at hl;omega)]
   left;constructor<;>first|rfl|trivial
  ·simp only[h0,decide_false,cond_false,if_false]
   exact .inr ⟨_,rfl,rfl⟩)
 obtain⟨d,Y,I⟩:=this;rw[show((0:Int))=((0:Nat):Int)from rfl,Y];rw[Ig]at I;simp only[qc];rw[<-I];cases d<;>rfl
theorem qz9 {α:Type}{l:List α}:decide (0<(((jj l).getD []).length:Int))=!l.isEmpty:=by
 rw[j6]
 cases l with
 |nil=>rfl|cons x l=>simp
theorem q2o {w r u d v}(hd:gp r u=Eb d)(hv:qS r u=Eb v):uy w r u=if u.ax then 21 else if u.version≠v then 32 else if !x6 w r d u then 20 else if !(qT d u).isEmpty then 31 else if Bk r u then 34 else 0:=by
 unfold uy;rw[hd,hv];cases u.ax
 .by_cases h:u.version=v
  .simp[h]
  .simp[h,Hz h]
 .rfl
theorem jom {v:Int}(hP:(r.ah.getD []).length<=SM)(iF:qS r.er u.er=Eb v)(hL:(r.ay.getD []).length<=SM)(hu:(u.uses.getD []).length<=SM)(hw:∀x∈u.uses.getD [],(zx r.er x.k).isSome=G0)(hd:f123 r u=Eb D)(hp:gp r.er u.er=Eb D.er)(hn:(D.aX.getD []).length<=SM)(Q:(u.results.getD []).length<=SM)(ht:(D.aO.getD []).length<=SM)(hv:u.version≠-1):f168 r u=Eb (uy (qf .i64) r.er u.er):=by
 obtain⟨w,hm⟩:=jfv hd Q ht hv
 have hll:(Fu r.er (u.uses.getD [])).length<=SM:=by unfold Fu;rw[G1];exact hu
 unfold f168;rw[jki hL hu hw];simp only[qc,yh,(Nf hP iF).1,joe hL hu hw hd hn,hm,juq hll,qz9];rw[iW (by simp[SM]),q2o hp iF,q81 hw]
 congr 1
 show hZ _=if u.ax then 21 else if u.version≠v then 32 else _
 cases u.ax<;>by_cases Y:u.version=v<;>cases x6 (qf .i64) r.er D.er u.er<;>cases (qT D.er u.er).isEmpty<;>cases ((Fu r.er (u.uses.getD [])).filter (·.held)).isEmpty<;>simp[hZ,Y]
theorem jma (hL:(r.ay.getD []).length<=SM)(hu:(u.uses.getD []).length<=SM)(hw:∀x∈u.uses.getD [],(zx r.er x.k).isSome=G0):(qc (bu (yA r u) 0) fun d=>match d with | .inl _=>Eb (34:Int) | .inr _=>Eb 0)=Eb (if Bk r.er u.er then 34 else 0):=by
 obtain⟨d,Y,I⟩:=T4 (u.uses.getD []) (yA r u) (fun x=>!(oU r.er x.k).any (·.held)) (fun d=>match d with | .inl _=>Eh | .inr _=>G0) ⟨.inr ((u.uses.getD []).length:Int),by unfold yA;simp only[z4];rfl,rfl⟩ (fun i x M hi=>by
  obtain⟨y,hy⟩:=Ja (hw x (E9 M));obtain⟨k,h3,h4⟩:=Ud hy;unfold yA;simp only[yp hi,cond_true,qc,ja M,I0 hL,h3,ei,ja h4,hy,Hu];rw[zc (by unfold SM at hu;omega)]
  cases y.held with
  |true=>exact .inr ⟨rfl,.inl (),rfl,rfl⟩
  |false=>exact .inl ⟨rfl,rfl⟩)
 rw[Y]
 have h3:Bk r.er u.er=!((u.uses.getD []).all fun x=>!(oU r.er x.k).any (·.held)):=by
  unfold Bk;rw[show u.er.uses=u.uses.getD []from rfl]
  induction u.uses.getD []with
  |nil=>rfl|cons x l ih=>rw[Ik,Q0,ih,Bool.not_and,Bool.not_not]
 rw[h3,<-I];cases d<;>rfl
theorem jps {v:Int}(hP:(r.ah.getD []).length<=SM)(iF:qS r.er u.er=Eb v)(hL:(r.ay.getD []).length<=SM)(hu:(u.uses.getD []).length<=SM)(hw:∀x∈u.uses.getD [],(zx r.er x.k).isSome=G0)(hd:f191 r u=Eb D)(hp:gp r.er u.er=Eb D.er)(hn:(D.aX.getD []).length<=SM)(Q:(u.results.getD []).length<=SM)(ht:(D.aO.getD []).length<=SM):f193 r u=Eb (uy (qf .i64) r.er u.er):=by
 rw[q2o hp iF];unfold f193
 cases G:u.ax with
 |true=>rw[show u.er.ax=G0 from G];rfl
 |false=>
  have qH:(⟨u.name,u.product,u.version,u.uses,u.results,u.partner,Eh,u.au⟩:bp)=u:=by cases u;simp only at G;rw[G]
  rw[show u.er.ax=Eh from G,qH];obtain⟨w,hm⟩:=jqe (r:=r) (u:=u) hd Q ht;simp only[cond_false,qc,(Nf hP iF).2,jon hL hu hw hd hn,hm,qz9,Eg,if_false];have hh:=jma hL hu hw;simp only[qc]at hh;by_cases Y:u.version=v
  .rw[decide_eq_true Y,if_neg (show ¬u.er.version≠v from fun h=>h Y)];simp only[cond_true];cases x6 (qf .i64) r.er D.er u.er
   .rfl
   .simp only[cond_true,Hb,Eg,if_false];cases (qT D.er u.er).isEmpty
    .rfl
    .simp only[Hb,cond_false,Eg,if_false];exact hh
  .rw[decide_eq_false Y,if_pos (show u.er.version≠v from Y)];rfl
end Go.Z
namespace Go.Z
open Go Go.Abs Go.W
theorem Fw {α:Type}{o:Option (List α)}{ys}(h:(o.getD []).length+ys.length<=SM)(hy:ys≠[]):bB o ys=Eb (Eb (o.getD []++ys)):=by
 unfold bB yB;rw[if_pos h]
 cases o<;>cases ys<;>first|exact absurd rfl hy|rfl
theorem yC {α:Type}{ys:List α}(h:ys.length<=SM):bB (Eb []) ys=Eb (Eb ys):=by
 unfold bB yB;rw[if_pos (by simpa using h)];cases ys<;>rfl
theorem yD {α:Type}{o:Option (List α)}{x}(h:(o.getD []).length<SM):(qc (cond o.isNone (Eb (Hp,Eh)) (qc (bB (Eb []) (o.getD [])) fun v=>Eb (v,G0))) fun v1=>cond v1.2 (qc (bB v1.1 [x]) fun v4=>Eb v4) (cond v1.1.isNone (qc (bB v1.1 [x]) fun v7=>Eb v7) Hp))=Eb (Eb (o.getD []++[x])):=by
 cases o with
 |none=>rfl
 |some l=>
  have h':l.length<SM:=h;simp only[L6,cond_false,Ep];rw[yC (by omega)];simp only[qc,cond_true];rw[Fw (o:=Eb l) (by simp only[Ep,E4];omega) (by simp)];rfl
theorem joc {o:ak ji}{x:ji}(h:(o.getD []).length<SM):f133 o x=Eb (Eb (o.getD []++[x])):=yD h
theorem jnw {o:ak bm}{x:bm}(h:(o.getD []).length<SM):f134 o x=Eb (Eb (o.getD []++[x])):=yD h
theorem job {o:ak bp}{x:bp}(h:(o.getD []).length<SM):f150 o x=Eb (Eb (o.getD []++[x])):=yD h
theorem jpo {o:ak b9}{x:b9}(h:(o.getD []).length<SM):f148 o x=Eb (Eb (o.getD []++[x])):=yD h
theorem jqw {o:ak bD}{x:bD}(h:(o.getD []).length<SM):f206 o x=Eb (Eb (o.getD []++[x])):=yD h
theorem jpj {o:ak jh}{x:jh}(h:(o.getD []).length<SM):f210 o x=Eb (Eb (o.getD []++[x])):=yD h
theorem jnh {o:ak bD}{x:bD}(h:(o.getD []).length<SM):f217 o x=Eb (Eb (o.getD []++[x])):=yD h
theorem jqd {o:ak jh}{x:jh}(h:(o.getD []).length<SM):f161 o x=Eb (Eb (o.getD []++[x])):=yD h
theorem oV {α:Type}{o:Option (List α)}{i:Nat}{x y:α}{g}(hl:(o.getD []).length<=SM)(M:(o.getD [])[i]?=Eb x)(hg:g x=Eb y):gq o (i:Int) g=Eb (Eb ((o.getD []).set i y)):=by
 unfold gq;rw[if_pos ⟨hl,by omega⟩,Ih,M];simp only[hg]
theorem Ue {α:Type}{o:Option (List α)}{i x}(hl:(o.getD []).length<=SM)(M:i<(o.getD []).length):Bm o (i:Int) x=Eb (Eb ((o.getD []).set i x)):=by
 unfold Bm;rw[if_pos ⟨hl,by omega,by omega⟩,Ih]
theorem Uf {α:Type}{o:Option (List α)}{x:α}{p:α->Bool}{g}(hl:(o.getD []).length<SM)(hg:∀y,g y=Eb x):
  ∃v w,(cond (decide (0<=ei ((o.getD []).findIdx? p))) (qc (gq o (ei ((o.getD []).findIdx? p)) g) fun v4=>Eb (v4,Eh)) (qc (Eb (Eb (o.getD []++[x]))) fun v6=>Eb (v6,G0)))=Eb (v,w)/\v.getD []=y6 p x (o.getD []):=by
 unfold y6
 cases h:(o.getD []).findIdx? p with
 |none=>exact⟨_,_,rfl,rfl⟩
 |some k=>
  obtain⟨y,Y,_⟩:=bV h;rw[show decide (0<=ei (Eb k))=G0 from wu (Eb k)];simp only[cond_true,ei];rw[oV (Ip hl) Y (hg y)];exact⟨_,_,rfl,rfl⟩
theorem jo0 {o:ak bD}{x:bD}{k}(hl:(o.getD []).length<SM):∃v w,f141 o x k=Eb (v,w)/\v.getD []=y6 (dh k) x (o.getD []):=by
 unfold f141
 have:Jd o k=Eb (ei ((o.getD []).findIdx? (dh k))):=by unfold Jd;exact nA (p:=dh k) (Ip hl) fun i=>rfl
 rw[this];simp only[qc];rw[jqw hl];exact Uf (p:=dh k) (g:=fun _=>Eb x) hl fun _=>rfl
theorem jos {o:ak jh}{x s:jh}(hl:(o.getD []).length<SM):∃v w,f145 o x s=Eb (v,w)/\v.getD []=y6 (eL s.k) x (o.getD []):=by
 unfold f145
 have:yE o s=Eb (ei ((o.getD []).findIdx? (eL s.k))):=by unfold yE;exact nA (p:=eL s.k) (Ip hl) fun i=>rfl
 rw[this];simp only[qc];rw[jpj hl];exact Uf (p:=eL s.k) (g:=fun _=>Eb x) hl fun _=>rfl
theorem jqy {o:ak bD}{x:bD}{t}(hl:(o.getD []).length<SM):∃v w,f158 o x t=Eb (v,w)/\v.getD []=y6 (dh t.name) x (o.getD []):=by
 unfold f158
 have:f155 o t=Eb (ei ((o.getD []).findIdx? (dh t.name))):=by unfold f155;exact nA (p:=dh t.name) (Ip hl) fun i=>rfl
 rw[this];simp only[qc];rw[jnh hl];exact Uf (p:=dh t.name) (g:=fun _=>Eb x) hl fun _=>rfl
theorem jpv {o t}(hl:(o.getD []).length<=SM):f155 o t=Eb (ei ((o.getD []).findIdx? (dh t.name))):=by
 unfold f155;exact nA (p:=dh t.name) hl fun i=>rfl
theorem jql {o k}(hl:(o.getD []).length<=SM):f139 o k=Eb (jj ((o.getD []).filter fun x=>!dh k x),fR ((o.getD []).filter fun x=>!dh k x)):=by
 unfold f139;rw[Fq (f:=Je o k) (l:=o.getD []) (p:=fun x=>!dh k x) (q:=fun x=>f140 x k) hl (fun x _=>rfl) (fun s=>rfl)];rfl
theorem jkj {o k}(hl:(o.getD []).length<=SM):Jf o k=Eb ((o.getD []).any (dh k)):=by
 have:Jg o k=Eb (ei ((o.getD []).findIdx? (dh k))):=by unfold Jg;exact nA (p:=dh k) hl fun i=>rfl
 unfold Jf;rw[this];simp only[qc,wu,cA]
theorem ji7 {o t}(hl:(o.getD []).length<=SM):Jh o t=Eb ((o.getD []).any (dh t.kind)):=by
 have:Ji o t=Eb (ei ((o.getD []).findIdx? (dh t.kind))):=by unfold Ji;exact nA (p:=dh t.kind) hl fun i=>rfl
 unfold Jh;rw[this];simp only[qc,wu,cA]
theorem jjr {o s}(hl:(o.getD []).length<=SM):Jj o s=Eb ((o.getD []).any (eL s.k)):=by
 have:yE o s=Eb (ei ((o.getD []).findIdx? (eL s.k))):=by unfold yE;exact nA (p:=eL s.k) hl fun i=>rfl
 unfold Jj;rw[this];simp only[qc,wu,cA]
theorem jkv {o e n}(hn:qo (e.names.getD []) 1=Eb n)(hl:(o.getD []).length<=SM):Jk o e=Eb ((o.getD []).any (eL n)):=by
 have:Jl o e=Eb (ei ((o.getD []).findIdx? (eL n))):=by
  unfold Jl;refine nA (p:=eL n) hl fun i=>?_;unfold Jm f159;rw[hn];rfl
 unfold Jk;rw[this];simp only[qc,wu,cA]
theorem Ug {α β:Type}{l:List α}{h q f}(hh:∀x,(h x).length<=1)
  (dA:∀o b w,f (o,b,(l.length:Int),w)=Eb (.inr (o,w,b,(l.length:Int))))
  (hf:∀(i:Nat) x (a:List β) b,l[i]?=Eb x->i<l.length->a.length<=i->f (jj a,b,(i:Int),fR a)=Eb (.inl (jj (a++h x),b||q x,((i+1:Nat):Int),fR (a++h x)))):
  bu f (Hp,Eh,0,Eh)=Eb (jj (l.flatMap h),fR (l.flatMap h),l.any q,(l.length:Int)):=by
 have key:∀(k i:Nat),i+k=l.length->∀a b,a.length<=i->bu f (jj a,b,(i:Int),fR a)=Eb (jj (a++(l.drop i).flatMap h),fR (a++(l.drop i).flatMap h),b||(l.drop i).any q,(l.length:Int)):=by
  intro k
  induction k with
  |zero=>
   intro i hi a b _
   have:i=l.length:=by omega
   subst this;rw[Ho (Hd _),List.flatMap_nil,List.append_nil,zf (dA _ _ _)];simp
  |succ k ih=>
   intro i hi a b ha;obtain⟨x,M⟩:∃x,l[i]?=Eb x:=⟨_,He (by omega)⟩;rw[kc (hf i x a b M (by omega) ha),ih (i+1) (by omega) _ _ (by rw[G4];have:=hh x;omega),sN M,Mh,Rw,Ik,Bool.or_assoc]
 have:=key l.length 0 (by omega) [] Eh (Hd _);rw[Ig,Io,H0]at this;exact this
theorem Uh {α:Type}{a:List α}{x}(h:a.length<SM):cond (fR a) (qc (bB (jj a) [x]) fun v=>Eb (v,G0)) (cond (jj a).isNone (qc (bB (jj a) [x]) fun v=>Eb (v,G0)) Hp)=Eb (jj (a++[x]),G0):=sO (k:=fun v=>Eb (v,G0)) h
theorem ym {α β:Type}{h:α->List β}(hh:∀x,(h x).length<=1):∀l:List α,(l.flatMap h).length<=l.length
 | []=>Hd _
 |x::l=>by rw[Mh,G4,H4];have:=hh x;have:=ym hh l;omega
theorem jo6 {o x}(hl:(o.getD []).length<SM)(hk:kl (·.k) (o.getD []))(h0:0<=x.n):∃v w,f185 o x=Eb (v,w)/\v.getD []=jJ (o.getD []) x.k x.n:=by
 let h:bD->List bD:=fun y=>if dh x.k y then(if 0<x.n then [x]else [])else [y]
 have hh:∀y,(h y).length<=1:=by intro y;simp only[h];split<;>(try split)<;>simp
 have L:=Ug (l:=o.getD []) (h:=h) (q:=dh x.k) (f:=Bn o x) hh (fun o b w=>by unfold Bn;simp only[z4];rfl) (fun i y a b hy hi ha=>by
  unfold Bn;simp only[yp hi,cond_true,qc,ja hy];rw[zc (by unfold SM at hl;omega)];simp only[h,dh];by_cases Y:y.k=x.k
  ·by_cases I:0<x.n
   ·simp only[Y,I,decide_true,cond_true,if_true,J5];rw[wi];exact sO (x:=x) (k:=fun v=>Eb (Mi (v,G0,((i+1:Nat):Int),G0))) (by unfold SM at hl;omega)
   ·simp[Y,I]
  ·simp only[Y,decide_false,cond_false,Eg,if_false,H2];rw[wi]
   exact sO (x:=y) (k:=fun v=>Eb (Mi (v,b,((i+1:Nat):Int),G0))) (by unfold SM at hl;omega))
 unfold f185;rw[L];simp only[qc];have hlen:((o.getD []).flatMap h).length<SM:=L8 (ym hh _) hl;by_cases hn:x.n=0
 .have hp:decide (0<x.n)=Eh:=by rw[hn];rfl
  have hf:(o.getD []).flatMap h=(o.getD []).filter fun y=>!dh x.k y:=by
   rw[show h=fun y=>if(!dh x.k y)then [id y]else [] by funext y;simp only[h,hn];cases dh x.k y<;>rfl,Ub,List.map_id]
  unfold jJ;rw[if_pos hn,hp,<-hf];cases (o.getD []).any (dh x.k)<;>exact⟨_,_,rfl,j6 _⟩
 .have hp:decide (0<x.n)=G0:=decide_eq_true (by omega)
  have hf:(o.getD []).flatMap h=(o.getD []).map fun y=>if dh x.k y then x else y:=by
   rw[<-IZ]
   congr 1
   funext y
   have:0<x.n:=by omega
   simp only[h,this,if_true];cases dh x.k y<;>rfl
  have tU:=q23 (key:=fun y:bD=>y.k) (k:=x.k) (x:=x) hk;unfold jJ;rw[if_neg hn,hp,show(⟨x.k,x.n⟩:bD)=x from rfl,show y6 (dh x.k) x (o.getD [])=Fx (dh x.k) x (o.getD [])from tU.symm];unfold Fx;rw[<-hf]
  cases ha:(o.getD []).any (dh x.k)with
  |true=>exact⟨_,_,rfl,by rw[j6];simp⟩
  |false=>
   simp only[cond_false,cond_true,Eg,if_false];have:=Uh (x:=x) hlen;simp only[qc]at this;rw[this];exact⟨_,_,rfl,j6 _⟩
theorem jp1 {o x}(hl:(o.getD []).length<SM)(hk:kl (·.k) (o.getD [])):∃v w,f186 o x=Eb (v,w)/\v.getD []=y6 (eL x.k) x (o.getD []):=by
 let h:jh->List jh:=fun y=>if eL x.k y then [x]else [y]
 have hh:∀y,(h y).length<=1:=by intro y;simp only[h];split<;>simp
 have L:=Ug (l:=o.getD []) (h:=h) (q:=eL x.k) (f:=Bo o x) hh (fun o b w=>by unfold Bo;simp only[z4];rfl) (fun i y a b hy hi ha=>by
  unfold Bo;simp only[yp hi,cond_true,qc,ja hy];rw[zc (by unfold SM at hl;omega)];simp only[h,eL];by_cases Y:y.k=x.k
  ·simp only[Y,decide_true,cond_true,if_true,J5];rw[wi];exact sO (x:=x) (k:=fun v=>Eb (Mi (v,G0,((i+1:Nat):Int),G0))) (by unfold SM at hl;omega)
  ·simp only[Y,decide_false,cond_false,Eg,if_false,H2];rw[wi]
   exact sO (x:=y) (k:=fun v=>Eb (Mi (v,b,((i+1:Nat):Int),G0))) (by unfold SM at hl;omega))
 unfold f186;rw[L];simp only[qc];have hlen:((o.getD []).flatMap h).length<SM:=L8 (ym hh _) hl
 have hf:(o.getD []).flatMap h=(o.getD []).map fun y=>if eL x.k y then x else y:=by
  rw[<-IZ]
  congr 1
  funext y;simp only[h];cases eL x.k y<;>rfl
 have tU:=q23 (key:=fun y:jh=>y.k) (k:=x.k) (x:=x) hk;rw[show y6 (eL x.k) x (o.getD [])=Fx (eL x.k) x (o.getD [])from tU.symm];unfold Fx;rw[<-hf]
 cases ha:(o.getD []).any (eL x.k)with
 |true=>exact⟨_,_,rfl,by rw[j6];simp⟩
 |false=>
  simp only[cond_false,Eg,if_false];have:=Uh (x:=x) hlen;simp only[qc]at this;rw[this];exact⟨_,_,rfl,j6 _⟩
theorem q3j {α:Type}{f}:∀ {l:List α},(∀x∈l,f x=x)->l.map f=l
 | [],_=>rfl
 |x::l,h=>by rw[Hf,h x (Rm ..),q3j fun y hy=>h y (Ov _ hy)]
theorem jah {k:aj}{F:bD->bD}:∀ {l:List bD},kl (·.k) l->(l.map fun y=>if dh k y then F y else y)=(match l.findIdx? (dh k)with
  |some i=>(match l[i]? with
   |some x=>l.set i (F x)
   |none=>l)
  |none=>l)
 | [],_=>rfl
 |y::l,h=>by
  have h':kl (·.k) l:=(Sc.1 h).2;have hn:¬y.k∈l.map (·.k):=(Sc.1 h).1;rw[Hf,Rj]
  cases hy:dh k y with
  |true=>
   have hk:y.k=k:=of_decide_eq_true hy;simp only[if_true]
   rw[q3j fun x M=>by
    have:dh k x=Eh:=decide_eq_false fun hxk=>hn (by rw[hk,<-hxk];exact Hk M)
    rw[this];rfl]
   rfl
  |false=>
   simp only[Eg,if_false];rw[jah h']
   cases hi:l.findIdx? (dh k)with
   |none=>rfl
   |some i=>
    obtain⟨x,Y,_⟩:=bV hi;simp[Y]
theorem jnc {o k n}(hl:(o.getD []).length<SM)(hk:kl (·.k) (o.getD [])):∃v w,f231 o k n=Eb (v,w)/\v.getD []=oc (qf .i64) (o.getD []) k n:=by
 let h:bD->List bD:=fun y=>if dh k y then [⟨y.k,qf .i64 (y.n+n)⟩]else [y]
 have hh:∀y,(h y).length<=1:=by intro y;simp only[h];split<;>simp
 have L:=Ug (l:=o.getD []) (h:=h) (q:=dh k) (f:=Bp o k n) hh (fun o b w=>by unfold Bp;simp only[z4];rfl) (fun i y a b hy hi ha=>by
  unfold Bp;simp only[yp hi,cond_true,qc,ja hy];rw[zc (by unfold SM at hl;omega)];simp only[h,dh];by_cases Y:y.k=k
  ·simp only[Y,decide_true,cond_true,if_true,J5];rw[wi];exact sO (x:=(⟨k,qf .i64 (y.n+n)⟩:bD)) (k:=fun v=>Eb (Mi (v,G0,((i+1:Nat):Int),G0))) (by unfold SM at hl;omega)
  ·simp only[Y,decide_false,cond_false,Eg,if_false,H2];rw[wi]
   exact sO (x:=y) (k:=fun v=>Eb (Mi (v,b,((i+1:Nat):Int),G0))) (by unfold SM at hl;omega))
 unfold f231;rw[L];simp only[qc];have hlen:((o.getD []).flatMap h).length<SM:=L8 (ym hh _) hl
 have hf:(o.getD []).flatMap h=(o.getD []).map fun y=>if dh k y then(⟨k,qf .i64 (n+y.n)⟩:bD)else y:=by
  rw[<-IZ]
  congr 1
  funext y;simp only[h]
  cases hy:dh k y with
  |false=>rfl|true=>rw[show y.k=k from of_decide_eq_true hy,Int.add_comm];rfl
 rw[jah hk]at hf;unfold oc
 cases hi:(o.getD []).findIdx? (dh k)with
 |some i=>
  obtain⟨x,Y,_⟩:=bV hi
  have ha:(o.getD []).any (dh k)=G0:=by rw[Ft,hi];rfl
  rw[hi]at hf;simp only[Y]at hf ⊢;rw[ha,hf];exact⟨_,_,rfl,j6 _⟩
 |none=>
  have ha:(o.getD []).any (dh k)=Eh:=by rw[Ft,hi];rfl
  rw[hi]at hf;simp only at hf ⊢;rw[ha];have:=Uh (x:=(⟨k,n⟩:bD)) hlen;simp only[qc]at this;simp only[cond_false];rw[this,hf];exact⟨_,_,rfl,j6 _⟩
end Go.Z
namespace Go.Z
open Go Go.Abs Go.W
abbrev BB:Nat:=1000000
structure GB (r:av):Prop where
 L:(r.ay.getD []).length<=BB
 P:(r.ah.getD []).length<=BB
 U:(r.units.getD []).length<=BB
 D:∀p∈r.ah.getD [],(p.bg.getD []).length<=BB/\(p.dn.getD []).length<=BB/\(p.dt.getD []).length<=BB/\∀d∈p.bg.getD [],(d.aX.getD []).length<=BB/\(d.aO.getD []).length<=BB
 N:∀u∈r.units.getD [],(u.uses.getD []).length<=BB/\(u.results.getD []).length<=BB
theorem jl {n}(h:n<=BB):n<=SM:=by unfold BB at h;unfold SM;omega
theorem nB {n}(h:n<=BB):n<SM:=by unfold BB at h;unfold SM;omega
def od (x:Option (Int×av))(y:gR):Prop:=∃c r',x=Eb (c,r')/\match y with
 | .error k=>c=k/\k≠0| .ok s=>c=0/\r'.er=s
variable {r:av}{e:GEv}
theorem Nh {a lo hi}:f90 a lo hi=Eb (if a<lo\/hi<a then 3 else 0):=by
 unfold f90;by_cases Y:a<lo
 .simp[Y,yh,qc]
 .by_cases I:hi<a<;>simp[Y,I,yh,qc]
theorem y5 {k}:ei (Eb k)=(k:Int):=rfl
theorem wv {o}:decide (0<=ei o)=o.isSome:=wu o
theorem Jn {n k}(h:zx r.er n=Eb k):∃x,(r.ay.getD [])[k]?=Eb x/\x.name=n:=by
 obtain⟨x,Y,I,_⟩:=bV h;exact⟨x,Y,of_decide_eq_true I⟩
theorem Bq {n k}(h:zr r.er n=Eb k):∃p,(r.ah.getD [])[k]?=Eb p/\p.name=n/\r.er.ah[k]?=Eb p.er:=by
 rw[Nc]at h;obtain⟨x,Y,I,_⟩:=bV h;exact⟨x,Y,of_decide_eq_true I,by rw[x5,Ha,Y];rfl⟩
theorem pH {n k}(h:zk r.er n=Eb k):∃u,(r.units.getD [])[k]?=Eb u/\u.name=n/\r.er.units[k]?=Eb u.er:=by
 rw[T8]at h;obtain⟨x,Y,I,_⟩:=bV h;exact⟨x,Y,of_decide_eq_true I,by rw[wm,Ha,Y];rfl⟩
theorem ia {α:Type}{l:List α}{a t}(h:l=a::t):qo l 0=Eb a:=by subst h;rfl
theorem gS {α:Type}{l:List α}{a b t}(h:l=a::b::t):qo l 1=Eb b:=by subst h;rfl
theorem jss {α:Type}{l:List α}{a b c t}(h:l=a::b::c::t):qo l 2=Eb c:=by subst h;rfl
theorem fi {a t}(h:e.names.getD []=a::t):nm e.er 0=a:=by unfold nm;rw[show e.er.names=e.names.getD []from rfl,h];rfl
theorem mJ {a b t}(h:e.names.getD []=a::b::t):nm e.er 1=b:=by unfold nm;rw[show e.er.names=e.names.getD []from rfl,h];rfl
theorem vl0 {a t}(h:e.values.getD []=a::t):vl e.er 0=a:=by unfold vl;rw[show e.er.values=e.values.getD []from rfl,h];rfl
theorem uz {a b t}(h:e.values.getD []=a::b::t):vl e.er 1=b:=by unfold vl;rw[show e.er.values=e.values.getD []from rfl,h];rfl
theorem vl2 {a b c t}(h:e.values.getD []=a::b::c::t):vl e.er 2=c:=by unfold vl;rw[show e.er.values=e.values.getD []from rfl,h];rfl
theorem wx:r.er.ay=r.ay.getD []:=rfl
theorem av.eta (r:av):(⟨r.day,r.ay,r.ah,r.units⟩:av)=r:=rfl
theorem j4t (b:GB r){n0 n1:aj}{v0 v1:Int}(hk:e.kind=nw)(hn:e.names.getD []=[n0,n1])(hv:e.values.getD []=[v0,v1]):
  od (fB 72 r e) (apply (qf .i64) r.er e.er):=by
 have hR:apply (qf .i64) r.er e.er=oe r.er e.er:=by unfold apply;rw[if_pos (.inl hk)]
 rw[hR];unfold oe;rw[if_pos (show e.er.kind=nw from hk),fi hn,mJ hn,uz hv,wx];have hA:fB 72 r e=qc (f72 e r.day r.ay r.ah r.units) fun v=>Eb (v.1,{ r with ay:=v.2.1 }):=rfl;rw[hA];unfold f72;simp only[av.eta,ia hn,gS hn,gS hv,qc,Fm (jl b.L),yh,Nh,wv];rw[iW (by simp[SM])];simp only[joc (nB b.L)]
 cases (zx r.er n0).isSome with
 |true=>exact⟨_,_,rfl,rfl,by decide⟩
 |false=>
  by_cases Y:v1<1\/10000<v1
  .simp only[Eg,if_false,Y,if_true,hZ];exact⟨_,_,rfl,rfl,by decide⟩
  .by_cases I:64<=(r.ay.getD []).length
   .have jG:decide (64<=((r.ay.getD []).length:Int))=G0:=decide_eq_true (by omega);simp only[Eg,if_false,Y,I,jG,if_true,hZ];exact⟨_,_,rfl,rfl,by decide⟩
   .have jG:decide (64<=((r.ay.getD []).length:Int))=Eh:=decide_eq_false (by omega);simp only[Eg,if_false,Y,I,jG,if_true,hZ];exact⟨_,_,rfl,rfl,rfl⟩
theorem qz2 {o p}(h:o=Eb (r.ah.getD []++[p])):({ r with ah:=o }:av).er={ r.er with ah:=r.er.ah++[p.er] }:=by
 subst h;simp only[av.er,Ep,Hx,Hf,Ic]
theorem qz6 {o p}(h:o=Eb (r.units.getD []++[p])):({ r with units:=o }:av).er={ r.er with units:=r.er.units++[p.er] }:=by
 subst h;simp only[av.er,Ep,Hx,Hf,Ic]
theorem Fy {o p k}(h:o=Eb ((r.ah.getD []).set k p)):({ r with ah:=o }:av).er=bH r.er k p.er:=by
 subst h;simp only[av.er,bH,Ep,Ie]
theorem yF {o p k}(h:o=Eb ((r.units.getD []).set k p)):({ r with units:=o }:av).er=aH r.er k p.er:=by
 subst h;simp only[av.er,aH,Ep,Ie]
theorem Ni {o p k}(h:o=Eb ((r.ay.getD []).set k p)):({ r with ay:=o }:av).er=cx r.er k p:=by
 subst h;simp only[av.er,cx,Ep]
theorem j44 (b:GB r){n0:aj}{v0:Int}(hk:e.kind=nZ)(hn:e.names.getD []=[n0])(hv:e.values.getD []=[v0]):
  od (fB 73 r e) (apply (qf .i64) r.er e.er):=by
 have hR:apply (qf .i64) r.er e.er=oe r.er e.er:=by unfold apply;rw[if_pos (.inr (.inl hk))]
 rw[hR];unfold oe;rw[if_neg (show ¬e.er.kind=nw from fun h=>by rw[show e.er.kind=e.kind from rfl,hk]at h;exact absurd h (by decide)),if_pos (show e.er.kind=nZ from hk),fi hn];have hA:fB 73 r e=qc (f73 e r.day r.ay r.ah r.units) fun v=>Eb (v.1,{ r with ah:=v.2.1 }):=rfl;rw[hA];unfold f73;simp only[av.eta,ia hn,qc,sR (jl b.P),yh,wv];rw[iW (by simp[SM])];simp only[jnw (nB b.P)]
 have hl:r.er.ah.length=(r.ah.getD []).length:=by rw[x5,G1]
 rw[hl]
 cases (zr r.er n0).isSome with
 |true=>exact⟨_,_,rfl,rfl,by decide⟩
 |false=>
  by_cases I:16<=(r.ah.getD []).length
  .have jG:decide (16<=((r.ah.getD []).length:Int))=G0:=decide_eq_true (by omega);simp only[Eg,if_false,I,jG,if_true,hZ];exact⟨_,_,rfl,rfl,by decide⟩
  .have jG:decide (16<=((r.ah.getD []).length:Int))=Eh:=decide_eq_false (by omega);simp only[Eg,if_false,I,jG,if_true,hZ];exact⟨_,_,rfl,rfl,qz2 rfl⟩
theorem j8l (b:GB r){n0 n1:aj}{v0:Int}{k}(hk:e.kind=pC)(hn:e.names.getD []=[n0,n1])(hv:e.values.getD []=[v0])(hp:zr r.er n1=Eb k):
  od (fB 77 r e) (apply (qf .i64) r.er e.er):=by
 have hR:apply (qf .i64) r.er e.er=oe r.er e.er:=by unfold apply;rw[if_pos (.inr (.inr hk))]
 rw[hR];obtain⟨p,Y,_,h3⟩:=Bq hp
 have hpo:kx r.er n1=Eb p.er:=by unfold kx;rw[hp];exact h3
 unfold oe;rw[if_neg (show ¬e.er.kind=nw from fun h=>by rw[show e.er.kind=e.kind from rfl,hk]at h;exact absurd h (by decide)),if_neg (show ¬e.er.kind=nZ from fun h=>by rw[show e.er.kind=e.kind from rfl,hk]at h;exact absurd h (by decide)),fi hn,mJ hn,hpo];have hA:fB 77 r e=qc (f77 e r.day r.ay r.ah r.units) fun v=>Eb (v.1,{ r with units:=v.2.1 }):=rfl;rw[hA];unfold f77 f59;simp only[av.eta,ia hn,gS hn,qc,sR (jl b.P),ux (jl b.U),yh,wv,hp,y5,ja Y];rw[iW (by simp[SM])];simp only[job (nB b.U)]
 have hl:r.er.units.length=(r.units.getD []).length:=by rw[wm,G1]
 have hd:p.er.bg.isEmpty=decide (((p.bg.getD []).length:Int)=0):=by
  show((p.bg.getD []).map b9.er).isEmpty=_
  cases p.bg.getD []with
  |nil=>rfl|cons x l=>simp;omega
 have pF:p.er.bg.length=(p.bg.getD []).length:=by show((p.bg.getD []).map b9.er).length=_;rw[G1]
 simp only[hl,hd,pF]
 cases (zk r.er n0).isSome with
 |true=>exact⟨_,_,rfl,rfl,by decide⟩
 |false=>
  cases hz:decide (((p.bg.getD []).length:Int)=0)with
  |true=>exact⟨_,_,rfl,rfl,by decide⟩
  |false=>
   by_cases I:256<=(r.units.getD []).length
   .have jG:decide (256<=((r.units.getD []).length:Int))=G0:=decide_eq_true (by omega);simp only[Eg,if_false,I,jG,if_true,hZ];exact⟨_,_,rfl,rfl,by decide⟩
   .have jG:decide (256<=((r.units.getD []).length:Int))=Eh:=decide_eq_false (by omega);simp only[Eg,if_false,I,jG,if_true,hZ];exact⟨_,_,rfl,rfl,qz6 rfl⟩
theorem jp7 {p c n}(hl:(p.dn.getD []).length<SM):∃v,Jo c n n p=Eb { p with dn:=v }/\v.getD []=jJ (p.dn.getD []) n c:=by
 unfold Jo jJ;by_cases h:c=0
 .simp only[h,decide_true,cond_true,if_true,jql (Ip hl),qc];exact⟨_,rfl,j6 _⟩
 .obtain⟨v,w,Y,I⟩:=jo0 (x:=⟨n,c⟩) (k:=n) hl;simp only[h,decide_false,cond_false,if_false,Y,qc];exact⟨_,rfl,I⟩
theorem jky (b:GB r){n0 n1 c k p}(hp:zr r.er n0=Eb k)(M:(r.ah.getD [])[k]?=Eb p):∃v,Br n0 c n1 n1 r.day r.ay r.ah r.units=Eb (Eb ((r.ah.getD []).set k { p with dn:=v }))/\v.getD []=jJ (p.dn.getD []) n1 c:=by
 obtain⟨v,Y,I⟩:=jp7 (c:=c) (n:=n1) (nB (b.D p (E9 M)).2.1);refine⟨v,?_,I⟩;unfold Br Ui;simp only[av.eta,sR (jl b.P),hp,y5,qc];rw[oV (jl b.P) M Y]
theorem jj5 (b:GB r){n0 t k p}(hp:zr r.er n0=Eb k)(M:(r.ah.getD [])[k]?=Eb p):∃v,Fz n0 t t r.day r.ay r.ah r.units=Eb (Eb ((r.ah.getD []).set k { p with dt:=v }))/\v.getD []=y6 (eL t.k) t (p.dt.getD []):=by
 obtain⟨v,w,Y,I⟩:=jos (x:=t) (s:=t) (o:=p.dt) (nB (b.D p (E9 M)).2.2.1);refine⟨v,?_,I⟩;unfold Fz Uj;simp only[av.eta,sR (jl b.P),hp,y5,qc];rw[oV (jl b.P) M (show Jp t t p=Eb { p with dt:=v } by unfold Jp;rw[Y];rfl)]
theorem Nj {n0:aj}{k:Nat}{p:bm}(hn:nm e.er 0=n0)(hp:zr r.er n0=Eb k)(h3:r.er.ah[k]?=Eb p.er):og r.er e.er =
   if e.kind=nx then
    (if vl e.er 1<0\/10000<vl e.er 1 then .error 3 else if 0<vl e.er 1/\!((p.dn.getD []).any (dh (nm e.er 1)))/\16<=(p.dn.getD []).length then .error 5 else
     .ok (bH r.er k { p.er with bW:={ p.er.bW with aX:=jJ (p.dn.getD []) (nm e.er 1) (vl e.er 1) } }))
   else if e.kind=lu then
    (if vl e.er 2<vl e.er 1 then .error 11 else if !((p.dt.getD []).any (eL (nm e.er 1)))/\16<=(p.dt.getD []).length then .error 5 else
     .ok (bH r.er k { p.er with bW:={ p.er.bW with aO:=y6 (eL (nm e.er 1)) ⟨nm e.er 1,vl e.er 1,vl e.er 2⟩ (p.dt.getD []) } }))
   else(if(p.dn.getD []).isEmpty then .error 12 else if 100<=p.er.bg.length then .error 5 else .ok (bH r.er k { p.er with bg:=p.er.bg++[p.er.bW] })):=by
 unfold og;rw[hn,hp];simp only[h3];rfl
theorem zbd (b:GB r){n0 n1:aj}{v0 v1:Int}{k:Nat}(hk:e.kind=nx)(hn:e.names.getD []=[n0,n1])(hv:e.values.getD []=[v0,v1])(hp:zr r.er n0=Eb k):
  od (fB 74 r e) (apply (qf .i64) r.er e.er):=by
 have hR:apply (qf .i64) r.er e.er=og r.er e.er:=by
  unfold apply;rw[show e.er.kind=nx from hk,if_neg (by decide),if_pos (.inl rfl)]
 obtain⟨p,Y,_,h3⟩:=Bq hp;rw[hR,Nj (fi hn) hp h3,if_pos hk,mJ hn,uz hv];have hA:fB 74 r e=qc (f74 e r.day r.ay r.ah r.units) fun v=>Eb (v.1,{ r with ah:=v.2 }):=rfl;rw[hA];obtain⟨v,g1,g2⟩:=jky b (n1:=n1) (c:=v1) hp Y;have As:=(b.D p (E9 Y)).2.1
 have dL:({ r with ah:=Eb ((r.ah.getD []).set k { p with dn:=v }) }:av).er=bH r.er k { p.er with bW:={ p.er.bW with aX:=jJ (p.dn.getD []) n1 v1 } }:=by
  rw[Fy rfl]
  congr 1
  simp only[bm.er,g2]
 unfold f74;simp only[av.eta,ia hn,gS hn,gS hv,qc,sR (jl b.P),hp,y5,ja Y,Nh,yh,jkj (jl As),g1];by_cases hz:v1<0\/10000<v1
 .simp only[hz,if_true,if_false,Eg];cases decide (0<v1)<;>cases (p.dn.getD []).any (dh n1)<;>(simp only[cond_true,cond_false];rw[iW (by simp[SM])];exact⟨_,_,rfl,rfl,by decide⟩)
 .simp only[hz,if_false,if_true,Eg];by_cases h0:0<v1
  .rw[decide_eq_true h0]
   cases ha:(p.dn.getD []).any (dh n1)with
   |true=>
    simp only[cond_true,Hb,Eg,false_and,and_false,if_false];rw[iW (by simp[SM])];exact⟨_,_,rfl,rfl,dL⟩
   |false=>
    simp only[cond_true,cond_false,L5,true_and,h0];rw[iW (by simp[SM])];by_cases I:16<=(p.dn.getD []).length
    .rw[show decide (16<=((p.dn.getD []).length:Int))=G0 from decide_eq_true (by omega),if_pos I];exact⟨_,_,rfl,rfl,by decide⟩
    .rw[show decide (16<=((p.dn.getD []).length:Int))=Eh from decide_eq_false (by omega),if_neg I];exact⟨_,_,rfl,rfl,dL⟩
  .rw[decide_eq_false h0,if_neg (show ¬(0<v1/\(!(p.dn.getD []).any (dh n1))=G0/\16<=(p.dn.getD []).length)from fun h=>h0 h.1)];simp only[cond_false];rw[iW (by simp[SM])];exact⟨_,_,rfl,rfl,dL⟩
theorem j7z (b:GB r){n0 n1:aj}{v0 v1 v2:Int}{k:Nat}(hk:e.kind=lu)(hn:e.names.getD []=[n0,n1])(hv:e.values.getD []=[v0,v1,v2])(hp:zr r.er n0=Eb k):
  od (fB 75 r e) (apply (qf .i64) r.er e.er):=by
 have hR:apply (qf .i64) r.er e.er=og r.er e.er:=by
  unfold apply;rw[show e.er.kind=lu from hk,if_neg (by decide),if_pos (.inr (.inl rfl))]
 obtain⟨p,Y,_,h3⟩:=Bq hp;rw[hR,Nj (fi hn) hp h3,if_neg (by rw[hk];decide),if_pos hk,mJ hn,uz hv,vl2 hv];have hA:fB 75 r e=qc (f75 e r.day r.ay r.ah r.units) fun v=>Eb (v.1,{ r with ah:=v.2 }):=rfl;rw[hA];obtain⟨v,g1,g2⟩:=jj5 b (t:=⟨n1,v1,v2⟩) hp Y;have As:=(b.D p (E9 Y)).2.2.1
 have dL:({ r with ah:=Eb ((r.ah.getD []).set k { p with dt:=v }) }:av).er=bH r.er k { p.er with bW:={ p.er.bW with aO:=y6 (eL n1) ⟨n1,v1,v2⟩ (p.dt.getD []) } }:=by
  rw[Fy rfl]
  congr 1
  simp only[bm.er,g2]
 unfold f75;simp only[av.eta,ia hn,gS hn,gS hv,jss hv,qc,sR (jl b.P),hp,y5,ja Y,yh,jjr (jl As),g1];by_cases hz:v2<v1
 .rw[decide_eq_true hz,if_pos hz];cases (p.dt.getD []).any (eL n1)<;>(simp only[cond_true,cond_false];rw[iW (by simp[SM])];exact⟨_,_,rfl,rfl,by decide⟩)
 .rw[decide_eq_false hz,if_neg hz]
  cases ha:(p.dt.getD []).any (eL n1)with
  |true=>
   simp only[cond_true,Hb,Eg,false_and,if_false];rw[iW (by simp[SM])];exact⟨_,_,rfl,rfl,dL⟩
  |false=>
   simp only[cond_false,L5,true_and];rw[iW (by simp[SM])];by_cases I:16<=(p.dt.getD []).length
   .rw[show decide (16<=((p.dt.getD []).length:Int))=G0 from decide_eq_true (by omega),if_pos I];exact⟨_,_,rfl,rfl,by decide⟩
   .rw[show decide (16<=((p.dt.getD []).length:Int))=Eh from decide_eq_false (by omega),if_neg I];exact⟨_,_,rfl,rfl,dL⟩
theorem q8e {α:Type}{o:Option (List α)}(h:(o.getD []).length<=SM):∃v w,(cond o.isNone (Eb (Hp,Eh)) (qc (bB (Eb []) (o.getD [])) fun v=>Eb (v,G0)))=Eb (v,w)/\v.getD []=o.getD []:=by
 cases o with
 |none=>exact⟨Hp,Eh,rfl,rfl⟩
 |some l=>
  have h':l.length<=SM:=h;simp only[L6,cond_false,Ep];rw[yC h'];exact⟨_,_,rfl,rfl⟩
theorem jnd {d:b9}(Y:(d.aX.getD []).length<=SM)(I:(d.aO.getD []).length<=SM):∃d',f149 d=Eb d'/\d'.er=d.er:=by
 obtain⟨v,w,g1,g2⟩:=q8e Y;obtain⟨v',w',g3,g4⟩:=q8e I;unfold f149;rw[show f212 d.aX=Eb (v,w)from g1,show f213 d.aO=Eb (v',w')from g3];exact⟨⟨v,v'⟩,rfl,by simp only[b9.er,g2,g4]⟩
theorem j65 (b:GB r){n0:aj}{v0:Int}{k:Nat}(hk:e.kind=qQ)(hn:e.names.getD []=[n0])(hv:e.values.getD []=[v0])(hp:zr r.er n0=Eb k):
  od (fB 76 r e) (apply (qf .i64) r.er e.er):=by
 have hR:apply (qf .i64) r.er e.er=og r.er e.er:=by
  unfold apply;rw[show e.er.kind=qQ from hk,if_neg (by decide),if_pos (.inr (.inr rfl))]
 obtain⟨p,Y,_,h3⟩:=Bq hp;rw[hR,Nj (fi hn) hp h3,if_neg (by rw[hk];decide),if_neg (by rw[hk];decide)];have hA:fB 76 r e=qc (f76 e r.day r.ay r.ah r.units) fun v=>Eb (v.1,{ r with ah:=v.2 }):=rfl;rw[hA];have hD:=b.D p (E9 Y);obtain⟨d',g1,g2⟩:=jnd (d:=⟨p.dn,p.dt⟩) (jl hD.2.1) (jl hD.2.2.1)
 have g3:Nk r.ah (k:Int)=Eb (Eb ((r.ah.getD []).set k { p with bg:=Eb (p.bg.getD []++[d']) })):=by
  unfold Nk;exact oV (jl b.P) Y (by unfold Nn;rw[g1];simp only[qc];rw[jpo (nB hD.1)])
 have dL:({ r with ah:=Eb ((r.ah.getD []).set k { p with bg:=Eb (p.bg.getD []++[d']) }) }:av).er=bH r.er k { p.er with bg:=p.er.bg++[p.er.bW] }:=by
  rw[Fy rfl]
  congr 1
  simp only[bm.er,Ep,Hx,Hf,Ic,g2];rfl
 have pF:p.er.bg.length=(p.bg.getD []).length:=by show((p.bg.getD []).map b9.er).length=_;rw[G1]
 have hd:(p.dn.getD []).isEmpty=decide (((p.dn.getD []).length:Int)=0):=by
  cases p.dn.getD []with
  |nil=>rfl|cons x l=>simp;omega
 unfold f76;simp only[av.eta,ia hn,qc,sR (jl b.P),hp,y5,ja Y,yh,g3,hd,pF];rw[iW (by simp[SM])]
 cases decide (((p.dn.getD []).length:Int)=0)with
 |true=>exact⟨_,_,rfl,rfl,by decide⟩
 |false=>
  by_cases I:100<=(p.bg.getD []).length
  .rw[show decide (100<=((p.bg.getD []).length:Int))=G0 from decide_eq_true (by omega),if_pos I];exact⟨_,_,rfl,rfl,by decide⟩
  .rw[show decide (100<=((p.bg.getD []).length:Int))=Eh from decide_eq_false (by omega),if_neg I];exact⟨_,_,rfl,rfl,dL⟩
end Go.Z
namespace Go.Z
open Go Go.Abs Go.W
variable {r:av}{e:GEv}
theorem kE {k}(hk:e.kind=k)(h:¬(k=nw\/k=nZ\/k=pC))(I:¬(k=nx\/k=lu\/k=qQ)):apply (qf .i64) r.er e.er=if k=oT\/k=sP then sT r.er e.er else oh (qf .i64) r.er e.er:=by
 unfold apply;rw[show e.er.kind=k from hk,if_neg h,if_neg I]
theorem j9t (b:GB r){n0 v0 k}(hk:e.kind=oT)(hn:e.names.getD []=[n0])(hv:e.values.getD []=[v0])(hp:zx r.er n0=Eb k):
  od (fB 82 r e) (apply (qf .i64) r.er e.er):=by
 rw[kE hk (by decide) (by decide),if_pos (.inl rfl)];obtain⟨x,Y,_⟩:=Jn hp;have hA:fB 82 r e=qc (f82 e r.day r.ay r.ah r.units) fun v=>Eb (v.1,{ r with ay:=v.2 }):=rfl;rw[hA];have g1:Uk r.ay (k:Int)=Eb (Eb ((r.ay.getD []).set k { x with held:=G0 })):=oV (jl b.L) Y rfl;unfold sT;rw[fi hn,hp];simp only[wx,Y];rw[if_pos (show e.er.kind=oT from hk)];unfold f82;simp only[av.eta,ia hn,qc,Fm (jl b.L),hp,y5,ja Y,g1]
 cases x.held with
 |true=>exact⟨_,_,rfl,rfl,by decide⟩|false=>exact⟨_,_,rfl,rfl,Ni rfl⟩
theorem j77 (b:GB r){n0 v0 k}(hk:e.kind=sP)(hn:e.names.getD []=[n0])(hv:e.values.getD []=[v0])(hp:zx r.er n0=Eb k):
  od (fB 83 r e) (apply (qf .i64) r.er e.er):=by
 rw[kE hk (by decide) (by decide),if_pos (.inr rfl)];obtain⟨x,Y,_⟩:=Jn hp;have hA:fB 83 r e=qc (f83 e r.day r.ay r.ah r.units) fun v=>Eb (v.1,{ r with ay:=v.2 }):=rfl;rw[hA];have g1:Ul r.ay (k:Int)=Eb (Eb ((r.ay.getD []).set k { x with held:=Eh })):=oV (jl b.L) Y rfl;unfold sT;rw[fi hn,hp];simp only[wx,Y];rw[if_neg (show ¬e.er.kind=oT from fun h=>by rw[show e.er.kind=e.kind from rfl,hk]at h;exact absurd h (by decide))];unfold f83;simp only[av.eta,ia hn,qc,Fm (jl b.L),hp,y5,ja Y,g1]
 cases x.held with
 |true=>exact⟨_,_,rfl,rfl,Ni rfl⟩|false=>exact⟨_,_,rfl,rfl,by decide⟩
structure UOk (r:av)(u:bp)(D:b9)(v:Int):Prop where
 doc:f123 r u=Eb D
 Bs:f191 r u=Eb D
 yG:gp r.er u.er=Eb D.er
 new:qS r.er u.er=Eb v
 aX:(D.aX.getD []).length<=BB
 aO:(D.aO.getD []).length<=BB
 uses:(u.uses.getD []).length<=BB
 results:(u.results.getD []).length<=BB
 ay:∀x∈u.uses.getD [],(zx r.er x.k).isSome=G0
 keyed:kl (·.k) (u.uses.getD [])
 bO:u.version≠-1
theorem jgw {u:bp}{d}(h:gp r.er u.er=Eb d):∃(k:Nat) (p:bm),(r.ah.getD [])[k]?=Eb p/\1<=u.version/\∃D:b9,D∈p.bg.getD []/\D.er=d:=by
 unfold gp at h
 cases hp:kx r.er u.er.product with
 |none=>rw[hp]at h;cases h
 |some sp=>
  rw[hp]at h;obtain⟨k,p,_,I,rfl,_⟩:=T9 hp;simp only[Ii,Bd]at h;split at h
  .rename_i hv;refine⟨k,p,I,hv,?_⟩;have h3:((p.bg.getD []).map b9.er)[(u.er.version-1).toNat]?=Eb d:=h;rw[Ha]at h3
   cases hD:(p.bg.getD [])[(u.er.version-1).toNat]? with
   |none=>rw[hD]at h3;cases h3|some D=>rw[hD]at h3;exact⟨D,E9 hD,by simpa using h3⟩
  .cases h
theorem Bt (b:GB r)(w:WF r.er){i:Nat}{u}(hu:(r.units.getD [])[i]?=Eb u):∃D v,UOk r u D v:=by
 have hm:=E9 hu
 have Um:u.er∈r.er.units:=by rw[wm];exact Hk hm
 obtain⟨d,hd⟩:=Ib.1 (w.ej _ Um);obtain⟨D,g1,g2,rfl⟩:=jsg (jl b.P) (fun p hp=>jl (b.D p hp).1) hd;obtain⟨k,p,hp,hv,D',oW,he⟩:=jgw hd;have hb:=(b.D p (E9 hp)).2.2.2 D' oW;have Y:D.aX.getD []=D'.aX.getD []:=congrArg jH.aX he.symm;have I:D.aO.getD []=D'.aO.getD []:=congrArg jH.aO he.symm
 have dy:(qS r.er u.er).isSome=G0:=by
  unfold qS;unfold gp at hd
  cases hq:kx r.er u.er.product with
  |none=>rw[hq]at hd;cases hd|some sp=>rfl
 obtain⟨v,Sm⟩:=Ib.1 dy;exact⟨D,v,g1,g2,hd,Sm,by rw[Y];exact hb.1,by rw[I];exact hb.2,(b.N u hm).1,(b.N u hm).2,(w.uses _ Um).2,(w.uses _ Um).1,by omega⟩
theorem wy {n0:aj}{k:Nat}{u:bp}(hn:nm e.er 0=n0)(hp:zk r.er n0=Eb k)(h3:r.er.units[k]?=Eb u.er):oh (qf .i64) r.er e.er =
   if e.kind=ny then uD (qf .i64) r.er k u.er e.er
   else if e.kind=n9 then uH r.er k u.er e.er
   else if e.kind=pD then
    (if u.ax then .error 21 else if !((gp r.er u.er).any fun d=>d.aO.any (eL (nm e.er 1)))then .error 7 else if 64<=(u.results.getD []).length then .error 5 else
     .ok (aH r.er k { u.er with results:=u.results.getD []++[⟨nm e.er 1,u.version,vl e.er 1⟩] }))
   else if e.kind=qR then
    (if u.ax then .error 21 else match qS r.er u.er with
     |none=>.error 32
     |some v=>if u.version=v then .error 32 else .ok (aH r.er k { u.er with version:=v }))
   else if e.kind=iJ then(if uy (qf .i64) r.er u.er≠0 then .error (uy (qf .i64) r.er u.er)else .ok (aH r.er k { u.er with ax:=G0 }))
   else(if !u.ax then .error 20 else .ok (aH r.er k { u.er with au:=qf .i64 (u.au+1) })):=by
 unfold oh;rw[hn,hp];simp only[h3];rfl
theorem j7r (b:GB r)(w:WF r.er){n0:aj}{v0:Int}{k:Nat}(hk:e.kind=qR)(hn:e.names.getD []=[n0])(hv:e.values.getD []=[v0])(hp:zk r.er n0=Eb k):
  od (fB 80 r e) (apply (qf .i64) r.er e.er):=by
 rw[kE hk (by decide) (by decide),if_neg (by decide)];obtain⟨u,Y,_,h3⟩:=pH hp;obtain⟨D,v,o⟩:=Bt b w Y;rw[wy (fi hn) hp h3,if_neg (by rw[hk];decide),if_neg (by rw[hk];decide),if_neg (by rw[hk];decide),if_pos hk,o.new];have hA:fB 80 r e=qc (f80 e r.day r.ay r.ah r.units) fun v=>Eb (v.1,{ r with units:=v.2 }):=rfl;rw[hA];have g1:Un r.units (k:Int) v=Eb (Eb ((r.units.getD []).set k { u with version:=v })):=oV (jl b.U) Y rfl;generalize hU:({ u with version:=v }:bp)=U' at g1
 have dL:({ r with units:=Eb ((r.units.getD []).set k U') }:av).er=aH r.er k { u.er with version:=v }:=by rw[yF rfl,<-hU];rfl
 unfold f80;simp only[av.eta,ia hn,qc,ux (jl b.U),hp,y5,ja Y,(Nf (jl b.P) o.new).1,yh,g1];rw[iW (by simp[SM])]
 cases u.ax with
 |true=>exact⟨_,_,rfl,rfl,by decide⟩
 |false=>
  by_cases h:u.version=v
  .rw[decide_eq_true h,if_pos h];exact⟨_,_,rfl,rfl,by decide⟩
  .rw[decide_eq_false h,if_neg h];exact⟨_,_,rfl,rfl,dL⟩
theorem j57 (b:GB r)(w:WF r.er){n0:aj}{v0:Int}{k:Nat}(hk:e.kind=iJ)(hn:e.names.getD []=[n0])(hv:e.values.getD []=[v0])(hp:zk r.er n0=Eb k):
  od (fB 84 r e) (apply (qf .i64) r.er e.er):=by
 rw[kE hk (by decide) (by decide),if_neg (by decide)];obtain⟨u,Y,_,h3⟩:=pH hp;obtain⟨D,v,o⟩:=Bt b w Y;rw[wy (fi hn) hp h3,if_neg (by rw[hk];decide),if_neg (by rw[hk];decide),if_neg (by rw[hk];decide),if_neg (by rw[hk];decide),if_pos hk];have hA:fB 84 r e=qc (f84 e r.day r.ay r.ah r.units) fun v=>Eb (v.1,{ r with units:=v.2 }):=rfl;rw[hA];have g1:Uo r.units (k:Int)=Eb (Eb ((r.units.getD []).set k { u with ax:=G0 })):=oV (jl b.U) Y rfl;have g2:=jom (jl b.P) o.new (jl b.L) (jl o.uses) o.ay o.doc o.yG (jl o.aX) (jl o.results) (jl o.aO) o.bO;unfold f84;simp only[av.eta,ia hn,qc,ux (jl b.U),hp,y5,ja Y,g2,g1];by_cases h:uy (qf .i64) r.er u.er=0
 .rw[decide_eq_true h,if_neg (fun hh=>hh h)];exact⟨_,_,rfl,rfl,yF rfl⟩
 .rw[decide_eq_false h,if_pos h];exact⟨_,_,rfl,rfl,h⟩
theorem j7p (b:GB r){n0:aj}{v0:Int}{k:Nat}(hk:e.kind=xZ)(hn:e.names.getD []=[n0])(hv:e.values.getD []=[v0])(hp:zk r.er n0=Eb k):
  od (fB 85 r e) (apply (qf .i64) r.er e.er):=by
 rw[kE hk (by decide) (by decide),if_neg (by decide)];obtain⟨u,Y,_,h3⟩:=pH hp;rw[wy (fi hn) hp h3,if_neg (by rw[hk];decide),if_neg (by rw[hk];decide),if_neg (by rw[hk];decide),if_neg (by rw[hk];decide),if_neg (by rw[hk];decide)];have hA:fB 85 r e=qc (f85 e r.day r.ay r.ah r.units) fun v=>Eb (v.1,{ r with units:=v.2 }):=rfl;rw[hA];have g1:Up r.units (k:Int)=Eb (Eb ((r.units.getD []).set k { u with au:=qf .i64 (u.au+1) })):=oV (jl b.U) Y rfl;generalize hU:({ u with au:=qf .i64 (u.au+1) }:bp)=U' at g1
 have dL:({ r with units:=Eb ((r.units.getD []).set k U') }:av).er=aH r.er k { u.er with au:=qf .i64 (u.au+1) }:=by rw[yF rfl,<-hU];rfl
 unfold f85;simp only[av.eta,ia hn,qc,ux (jl b.U),hp,y5,ja Y,g1]
 cases u.ax with
 |true=>exact⟨_,_,rfl,rfl,dL⟩|false=>exact⟨_,_,rfl,rfl,by decide⟩
theorem j83 (b:GB r)(w:WF r.er){n0 n1:aj}{v0 v1:Int}{k:Nat}(hk:e.kind=pD)(hn:e.names.getD []=[n0,n1])(hv:e.values.getD []=[v0,v1])(hp:zk r.er n0=Eb k):
  od (fB 79 r e) (apply (qf .i64) r.er e.er):=by
 rw[kE hk (by decide) (by decide),if_neg (by decide)];obtain⟨u,Y,_,h3⟩:=pH hp;obtain⟨D,v,o⟩:=Bt b w Y;rw[wy (fi hn) hp h3,if_neg (by rw[hk];decide),if_neg (by rw[hk];decide),if_pos hk,mJ hn,uz hv,o.yG];have hA:fB 79 r e=qc (f79 e r.day r.ay r.ah r.units) fun v=>Eb (v.1,{ r with units:=v.2 }):=rfl;rw[hA]
 have g1:Uq r.units (k:Int) e=Eb (Eb ((r.units.getD []).set k { u with results:=Eb (u.results.getD []++[⟨n1,u.version,v1⟩]) })):=oV (jl b.U) Y (by
  unfold Np;rw[gS hn,gS hv];simp only[qc]
  rw[jqd (nB o.results)])
 generalize hU:({ u with results:=Eb (u.results.getD []++[⟨n1,u.version,v1⟩]) }:bp)=U' at g1
 have dL:({ r with units:=Eb ((r.units.getD []).set k U') }:av).er=aH r.er k { u.er with results:=u.results.getD []++[⟨n1,u.version,v1⟩] }:=by rw[yF rfl,<-hU];rfl
 unfold f79;simp only[av.eta,ia hn,qc,ux (jl b.U),hp,y5,ja Y,o.doc,jkv (gS hn) (jl o.aO),yh,g1,Hu];rw[iW (by simp[SM]),show D.er.aO=D.aO.getD []from rfl]
 cases u.ax with
 |true=>exact⟨_,_,rfl,rfl,by decide⟩
 |false=>
  cases (D.aO.getD []).any (eL n1)with
  |false=>exact⟨_,_,rfl,rfl,by decide⟩
  |true=>
   by_cases I:64<=(u.results.getD []).length
   .rw[show decide (64<=((u.results.getD []).length:Int))=G0 from decide_eq_true (by omega),if_pos I];exact⟨_,_,rfl,rfl,by decide⟩
   .rw[show decide (64<=((u.results.getD []).length:Int))=Eh from decide_eq_false (by omega),if_neg I];exact⟨_,_,rfl,rfl,dL⟩
theorem j8n (b:GB r)(w:WF r.er){n0 n1:aj}{v0 v1:Int}{k j:Nat}(hk:e.kind=ny)(hn:e.names.getD []=[n0,n1])(hv:e.values.getD []=[v0,v1])(hp:zk r.er n0=Eb k)(hq:zx r.er n1=Eb j):
  od (fB 78 r e) (apply (qf .i64) r.er e.er):=by
 rw[kE hk (by decide) (by decide),if_neg (by decide)];obtain⟨u,Y,_,h3⟩:=pH hp;obtain⟨x,h4,E8⟩:=Jn hq;obtain⟨D,v,o⟩:=Bt b w Y;rw[wy (fi hn) hp h3,if_pos hk];unfold uD;rw[mJ hn,hq,uz hv,o.yG];simp only[wx,h4];have hA:fB 78 r e=qc (f78 e r.day r.ay r.ah r.units) fun v=>Eb (v.1,{ r with ay:=v.2.1,units:=v.2.2 }):=rfl;rw[hA];have g1:Ur r.ay (j:Int) v1=Eb (Eb ((r.ay.getD []).set j { x with left:=qf .i64 (x.left-v1) })):=oV (jl b.L) h4 rfl;unfold f78;simp only[av.eta,ia hn,gS hn,gS hv,qc,ux (jl b.U),Fm (jl b.L),hp,hq,y5,ja Y,ja h4,o.doc,ji7 (jl o.aX),yh,g1,jpv (jl o.uses),Hu];rw[iW (by simp[SM])];have hdn:D.er.aX=D.aX.getD []:=rfl;simp only[hdn]
 have mG:∀(s:bD),oc (qf .i64) (u.uses.getD []) x.name v1=y6 (dh x.name) s (u.uses.getD [])->∃us,gq r.units (k:Int) (FA s x)=Eb us/\({ r with ay:=Eb ((r.ay.getD []).set j { x with left:=qf .i64 (x.left-v1) }),units:=us }:av).er=aH (cx r.er j { x with left:=qf .i64 (x.left-v1) }) k { u.er with uses:=oc (qf .i64) u.er.uses x.name v1 }:=by
  intro s G;obtain⟨q,wq,q1,q2⟩:=jqy (x:=s) (t:=x) (o:=u.uses) (nB o.uses);refine⟨_,oV (y:={ u with uses:=q }) (jl b.U) Y (by unfold FA;rw[q1];rfl),?_⟩;simp only[av.er,aH,cx,Ep,Ie]
  congr 2
  simp only[bp.er,q2,G]
 by_cases G:u.ax=G0
 .simp only[if_pos G,if_pos (show u.er.ax=G0 from G)];exact⟨_,_,rfl,rfl,by decide⟩
 simp only[if_neg G,if_neg (show ¬u.er.ax=G0 from G)];by_cases hz:v1=0
 .simp only[if_pos hz,decide_eq_true hz,if_true];exact⟨_,_,rfl,rfl,by decide⟩
 simp only[if_neg hz,decide_eq_false hz,Eg,if_false];by_cases hh:x.held=G0
 .simp only[if_pos hh];exact⟨_,_,rfl,rfl,by decide⟩
 simp only[if_neg hh]
 cases (D.aX.getD []).any (dh x.kind)with
 |false=>exact⟨_,_,rfl,rfl,by decide⟩
 |true=>
 simp only[Hb,Eg,if_false];by_cases hl:x.left<v1
 .simp only[if_pos hl,decide_eq_true hl,if_true];exact⟨_,_,rfl,rfl,by decide⟩
 simp only[if_neg hl,decide_eq_false hl,Eg,if_false];have Jq:∀ {α:Type} (A B:Option α),cond (decide (hZ [0,0,0,0,0]=0)) A B=A:=fun A B=>rfl
 cases hi:(u.uses.getD []).findIdx? (dh x.name)with
 |none=>
  obtain⟨us,q1,q2⟩:=mG ⟨x.name,v1⟩ (by unfold oc y6;rw[hi]);rw[Jq];rw[show decide (0<=ei Hp)=Eh from rfl];simp only[cond_false,q1];exact⟨_,_,rfl,rfl,q2⟩
 |some i=>
  obtain⟨y,hy,_⟩:=bV hi;obtain⟨us,q1,q2⟩:=mG ⟨x.name,qf .i64 (v1+y.n)⟩ (by unfold oc y6;rw[hi];simp only[hy]);rw[Jq];rw[show decide (0<=ei (Eb i))=G0 from wu (Eb i)];simp only[cond_true,y5,ja hy,q1];exact⟨_,_,rfl,rfl,q2⟩
end Go.Z
set_option maxHeartbeats 4000000
namespace Go.Z
open Go Go.Abs Go.W
variable {r:av}{e:GEv}
theorem jzo {a b c d}:f17 (Eb [a,b,c,d])=Eb (hZ [a,b,c,d]):=iW (by simp[SM])
theorem j9l (b:GB r){n0 n1 v0 k j}(hk:e.kind=n9)(hn:e.names.getD []=[n0,n1])(hv:e.values.getD []=[v0])(hp:zk r.er n0=Eb k)(hq:zk r.er n1=Eb j):
  od (fB 81 r e) (apply (qf .i64) r.er e.er):=by
 rw[kE hk (by decide) (by decide),if_neg (by decide)];obtain⟨u,Y,_,h3⟩:=pH hp;obtain⟨v,h4,_,h5⟩:=pH hq;rw[wy (fi hn) hp h3,if_neg (by rw[hk];decide),if_pos hk];unfold uH;rw[mJ hn,hq];simp only[h5];have hA:fB 81 r e=qc (f81 e r.day r.ay r.ah r.units) fun v=>Eb (v.1,{ r with units:=v.2 }):=rfl;rw[hA];have g1:uJ r.units (k:Int) v=Eb (Eb ((r.units.getD []).set k { u with partner:=v.name })):=oV (jl b.U) Y rfl
 have g2:k≠j->∀bb,uL (Eb ((r.units.getD []).set k { u with partner:=v.name })) (j:Int) ⟨u.name,u.product,u.version,u.uses,u.results,u.partner,bb,u.au⟩=Eb (Eb (((r.units.getD []).set k { u with partner:=v.name }).set j { v with partner:=u.name })):=by
  intro hkj bb;exact oV (x:=v) (by rw[Ep,Hq];exact jl b.U) (by rw[Ep,List.getElem?_set_ne hkj];exact h4) rfl
 have dL:({ r with units:=Eb (((r.units.getD []).set k { u with partner:=v.name }).set j { v with partner:=u.name }) }:av).er=aH (aH r.er k { u.er with partner:=v.er.name }) j { v.er with partner:=u.er.name }:=by
  simp only[av.er,aH,Ep,Ie];rfl
 generalize hz:aH (aH r.er k { u.er with partner:=v.er.name }) j { v.er with partner:=u.er.name }=Z at dL ⊢;generalize hX:Eb (Eb (((r.units.getD []).set k { u with partner:=v.name }).set j { v with partner:=u.name }))=X at g2;generalize hY:Eb ((r.units.getD []).set k { u with partner:=v.name })=aad at g1 g2;unfold f81;simp only[av.eta,ia hn,gS hn,qc,ux (jl b.U),hp,hq,y5,ja Y,ja h4,yh,jzo,g1]
 have e1:decide ((k:Int)=(j:Int))=decide (k=j):=by
  by_cases h:k=j
  .rw[decide_eq_true h];exact decide_eq_true (by omega)
  .rw[decide_eq_false h];exact decide_eq_false (by omega)
 have e2:u.er.product=u.product:=rfl;have e3:v.er.product=v.product:=rfl;have e4:u.er.version=u.version:=rfl;have e5:v.er.version=v.version:=rfl;have e6:u.er.ax=u.ax:=rfl;have e7:v.er.ax=v.ax:=rfl;have e8:u.er.partner=u.partner:=rfl;have e9:v.er.partner=v.partner:=rfl;simp only[e1,e2,e3,e4,e5,e6,e7,e8,e9]
 by_cases c1:k=j<;>by_cases c2:u.product=v.product<;>by_cases dw:u.version=v.version<;>cases fj:u.ax<;>cases cS:v.ax<;>by_cases ef:u.partner=[]<;>by_cases c4:v.partner=[] <;>
  simp only[c1,c2,dw,ef,c4,decide_true,decide_false,cond_true,cond_false,Hb,L5,if_true,if_false,Eg,ne_eq,not_true_eq_false,not_false_eq_true,or_true,true_or,or_false,false_or,or_self] <;>
  first
  |exact⟨_,_,rfl,rfl,by decide⟩
  |(have g3:=g2 c1 Eh
    simp only[c2,dw,ef]at g3;rw[g3,<-hX]
    exact⟨_,_,rfl,rfl,dL⟩)
end Go.Z
namespace Go.Z
open Go Go.Abs Go.W
variable {r:av}{e:GEv}
def oi (r:bX)(c:Int)(n:aj):Bool:=if c=108 then(zx r n).isSome else if c=112 then(zr r n).isSome else if c=117 then(zk r n).isSome else G0
theorem Bu (b:GB r){c n}:f70 r c n=Eb (oi r.er c n):=by
 unfold f70 oi;by_cases Y:c=108
 .simp only[Y,decide_true,cond_true,if_true,Fm (jl b.L),qc,wv]
 .by_cases I:c=112
  .simp only[Y,I,decide_true,decide_false,cond_true,cond_false,if_true,if_false,sR (jl b.P),qc,wv];rfl
  .by_cases h3:c=117
   .simp only[Y,I,h3,decide_true,decide_false,cond_true,cond_false,if_true,if_false,ux (jl b.U),qc,wv];rfl
   .simp only[Y,I,h3,decide_false,cond_false,if_false]
def y7 (r:bX)(c:UInt8)(n:aj):Bool:=decide ((c.toNat:Int)=45)||oi r (c.toNat:Int) n
theorem Bv (b:GB r){a n0 t}(Q:j0 e.kind=[a])(hd:ql [a] 0=(a.toNat,1))(hn:e.names.getD []=n0::t):
  ∃d,bu (FB r e) Hp=Eb (if y7 r.er a n0 then .inr d else .inl d):=by
 have z:Bw r e=Eb (if y7 r.er a n0 then .inl (Eb 1)else .inr (.inl 1)):=by
  unfold Bw y7;simp only[Q,hd,qc,ia hn,Bu b];simp only[E4,Nat.lt_irrefl,show decide (0<1)=G0 from rfl,cond_true];cases decide ((a.toNat:Int)=45)<;>cases oi r.er (a.toNat:Int) n0<;>rfl
 cases hk:y7 r.er a n0 with
 |true=>
  rw[hk]at z;refine⟨1,?_⟩;rw[kc (s':=Eb 1) z];refine zf (d:=(Sum.inr 1:Nat⊕Nat)) ?_;show wD r e 1=_;unfold wD;simp only[Q,E4];rfl
 |false=>
  rw[hk]at z;exact⟨1,zf z⟩
theorem Bx (b:GB r){a c n0 n1 t}(Q:j0 e.kind=[a,c])(hd:ql [a,c] 0=(a.toNat,1))(hd1:ql [a,c] 1=(c.toNat,1))(hn:e.names.getD []=n0::n1::t):
  ∃d,bu (FB r e) Hp=Eb (if y7 r.er a n0&&y7 r.er c n1 then .inr d else .inl d):=by
 have z:Bw r e=Eb (if y7 r.er a n0 then .inl (Eb 1)else .inr (.inl 1)):=by
  unfold Bw y7;simp only[Q,hd,qc,ia hn,Bu b];simp only[H4,H9,show decide (0<0+1+1)=G0 from rfl,cond_true];cases decide ((a.toNat:Int)=45)<;>cases oi r.er (a.toNat:Int) n0<;>rfl
 have y:wD r e 1=Eb (if y7 r.er c n1 then .inl (Eb 2)else .inr (.inl 2)):=by
  unfold wD y7;simp only[Q,hd1,qc,show((1:Nat):Int)=1 from rfl,gS hn,Bu b];simp only[H4,H9,show decide (1<0+1+1)=G0 from rfl,cond_true];cases decide ((c.toNat:Int)=45)<;>cases oi r.er (c.toNat:Int) n1<;>rfl
 cases hk:y7 r.er a n0 with
 |false=>
  rw[hk]at z;exact⟨1,zf z⟩
 |true=>
  rw[hk]at z
  cases dx:y7 r.er c n1 with
  |false=>
   rw[dx]at y;refine⟨2,?_⟩;rw[kc (s':=Eb 1) z];exact zf (d:=(Mi 2:Nat⊕Nat)) y
  |true=>
   rw[dx]at y;refine⟨2,?_⟩;rw[kc (s':=Eb 1) z,kc (s':=Eb 2) y];refine zf (d:=(Sum.inr 2:Nat⊕Nat)) ?_;show wD r e 2=_;unfold wD;simp only[Q,H4,H9];rfl
def gT (x:Option (av×Int))(y:gR):Prop:=∃r' c,x=Eb (r',c)/\match y with
 | .error k=>c=k/\k≠0| .ok s=>c=0/\r'.er=s
theorem oX {v0 t K}(hv:e.values.getD []=v0::t)(hl:∃d,bu (FB r e) Hp=Eb (if K then .inr d else .inl d))(hK:K=Eh->apply (qf .i64) r.er e.er=.error 10)(hA:K=G0->od (fB (Jr e.kind) r e) (apply (qf .i64) r.er e.er)):
  gT (f95 r e) (after (qf .i64) r.er e.er):=by
 unfold f95 after;rw[ia hv,vl0 hv];simp only[qc];by_cases h:v0<r.day
 .rw[decide_eq_true h,if_pos (show v0<r.er.day from h)];exact⟨_,_,rfl,rfl,by decide⟩
 .rw[decide_eq_false h,if_neg (show ¬v0<r.er.day from h)];obtain⟨d,hd⟩:=hl;rw[hd]
  cases K with
  |false=>
   rw[hK rfl];exact⟨_,_,rfl,rfl,by decide⟩
  |true=>
   obtain⟨c,r',Y,I⟩:=hA rfl;simp only[if_true,cond_false];rw[Y];simp only[]
   cases ha:apply (qf .i64) r.er e.er with
   |error k=>
    rw[ha]at I;obtain⟨rfl,h3⟩:=I;rw[decide_eq_false h3];exact⟨_,_,rfl,rfl,h3⟩
   |ok s=>
    rw[ha]at I;obtain⟨rfl,rfl⟩:=I;exact⟨_,_,rfl,rfl,rfl⟩
theorem oY {α:Type}{o:Option α}(h:o.isSome=G0):∃x,o=Eb x:=Ib.1 h
theorem qU {α:Type}{o:Option α}(h:o.isSome=Eh):o=Hp:=by cases o<;>simp at h ⊢
theorem ki {k a c}(hk:e.kind=k)(hf:z6 k=Eb (a,c))(hc:jb e.er=0):(e.names.getD []).length=a/\(e.values.getD []).length=c:=by
 obtain⟨_,f,Y,I,h3⟩:=Us hc;rw[show e.er.kind=k from hk,hf]at Y;cases Y;exact⟨I,h3⟩
theorem iX {α:Type}{l:List α}(h:l.length=1):∃a,l=[a]:=List.length_eq_one_iff.1 h
theorem gU {α:Type}{l:List α}(h:l.length=2):∃a b,l=[a,b]:=by
 match l,h with
 | [a,b],_=>exact⟨a,b,rfl⟩
theorem juy {α:Type}{l:List α}(h:l.length=3):∃a b c,l=[a,b,c]:=by
 match l,h with
 | [a,b,c],_=>exact⟨a,b,c,rfl⟩
theorem oZ {r n}:y7 r 45 n=G0:=rfl
theorem rl {r n}:y7 r 108 n=(zx r n).isSome:=rfl
theorem rp {r n}:y7 r 112 n=(zr r n).isSome:=rfl
theorem ru {r n}:y7 r 117 n=(zk r n).isSome:=rfl
theorem jsc (b:GB r)(hk:e.kind=nw)(hc:jb e.er=0):gT (f95 r e) (after (qf .i64) r.er e.er):=by
 obtain⟨Y,I⟩:=ki hk (show z6 nw=Eb (2,2)from rfl) hc;obtain⟨n0,n1,hn⟩:=gU Y;obtain⟨v0,v1,hv⟩:=gU I;refine oX (K:=true) hv (by have:=Bx (a:=45) (c:=45) b (by rw[hk];rfl) rfl rfl hn;simpa[oZ]using this) (fun h=>by cases h) (fun _=>?_);rw[hk];exact j4t b hk hn hv
theorem jcv (b:GB r)(hk:e.kind=nZ)(hc:jb e.er=0):gT (f95 r e) (after (qf .i64) r.er e.er):=by
 obtain⟨Y,I⟩:=ki hk (show z6 nZ=Eb (1,1)from rfl) hc;obtain⟨n0,hn⟩:=iX Y;obtain⟨v0,hv⟩:=iX I;refine oX (K:=true) hv (by have:=Bv (a:=45) b (by rw[hk];rfl) rfl hn;simpa[oZ]using this) (fun h=>by cases h) (fun _=>?_);rw[hk];exact j44 b hk hn hv
theorem jpe (b:GB r)(hk:e.kind=nx)(hc:jb e.er=0):gT (f95 r e) (after (qf .i64) r.er e.er):=by
 obtain⟨Y,I⟩:=ki hk (show z6 nx=Eb (2,2)from rfl) hc;obtain⟨n0,n1,hn⟩:=gU Y;obtain⟨v0,v1,hv⟩:=gU I;refine oX (K:=(zr r.er n0).isSome) hv (by have:=Bx (a:=112) (c:=45) b (by rw[hk];rfl) rfl rfl hn;rw[show(y7 r.er 112 n0&&y7 r.er 45 n1)=((zr r.er n0).isSome)from by simp only[oZ,rl,rp,ru,G8,Hc]]at this;exact this) (fun h=>?_) (fun h=>?_)
 .have h:=qU h;unfold apply og;rw[show e.er.kind=nx from hk,if_neg (by decide),if_pos (by decide),fi hn,h]
 .obtain⟨k,hp⟩:=oY h;rw[hk];exact zbd b hk hn hv hp
theorem jnb (b:GB r)(hk:e.kind=lu)(hc:jb e.er=0):gT (f95 r e) (after (qf .i64) r.er e.er):=by
 obtain⟨Y,I⟩:=ki hk (show z6 lu=Eb (2,3)from rfl) hc;obtain⟨n0,n1,hn⟩:=gU Y;obtain⟨v0,v1,v2,hv⟩:=juy I;refine oX (K:=(zr r.er n0).isSome) hv (by have:=Bx (a:=112) (c:=45) b (by rw[hk];rfl) rfl rfl hn;rw[show(y7 r.er 112 n0&&y7 r.er 45 n1)=((zr r.er n0).isSome)from by simp only[oZ,rl,rp,ru,G8,Hc]]at this;exact this) (fun h=>?_) (fun h=>?_)
 .have h:=qU h;unfold apply og;rw[show e.er.kind=lu from hk,if_neg (by decide),if_pos (by decide),fi hn,h]
 .obtain⟨k,hp⟩:=oY h;rw[hk];exact j7z b hk hn hv hp
theorem jjo (b:GB r)(hk:e.kind=qQ)(hc:jb e.er=0):gT (f95 r e) (after (qf .i64) r.er e.er):=by
 obtain⟨Y,I⟩:=ki hk (show z6 qQ=Eb (1,1)from rfl) hc;obtain⟨n0,hn⟩:=iX Y;obtain⟨v0,hv⟩:=iX I;refine oX (K:=(zr r.er n0).isSome) hv (by have:=Bv (a:=112)  b (by rw[hk];rfl) rfl hn;rw[show(y7 r.er 112 n0)=((zr r.er n0).isSome)from by simp only[oZ,rl,rp,ru,G8,Hc]]at this;exact this) (fun h=>?_) (fun h=>?_)
 .have h:=qU h;unfold apply og;rw[show e.er.kind=qQ from hk,if_neg (by decide),if_pos (by decide),fi hn,h]
 .obtain⟨k,hp⟩:=oY h;rw[hk];exact j65 b hk hn hv hp
theorem jjl (b:GB r)(hk:e.kind=pC)(hc:jb e.er=0):gT (f95 r e) (after (qf .i64) r.er e.er):=by
 obtain⟨Y,I⟩:=ki hk (show z6 pC=Eb (2,1)from rfl) hc;obtain⟨n0,n1,hn⟩:=gU Y;obtain⟨v0,hv⟩:=iX I;refine oX (K:=(zr r.er n1).isSome) hv (by have:=Bx (a:=45) (c:=112) b (by rw[hk];rfl) rfl rfl hn;rw[show(y7 r.er 45 n0&&y7 r.er 112 n1)=((zr r.er n1).isSome)from by simp only[oZ,rl,rp,ru,G8,Hc]]at this;exact this) (fun h=>?_) (fun h=>?_)
 .have h:=qU h;unfold apply oe;rw[show e.er.kind=pC from hk,if_pos (by decide),if_neg (by decide),if_neg (by decide),mJ hn];unfold kx;rw[h];rfl
 .obtain⟨k,hp⟩:=oY h;rw[hk];exact j8l b hk hn hv hp
theorem jrw (b:GB r)(w:WF r.er)(hk:e.kind=ny)(hc:jb e.er=0):gT (f95 r e) (after (qf .i64) r.er e.er):=by
 obtain⟨Y,I⟩:=ki hk (show z6 ny=Eb (2,2)from rfl) hc;obtain⟨n0,n1,hn⟩:=gU Y;obtain⟨v0,v1,hv⟩:=gU I;refine oX (K:=(zk r.er n0).isSome&&(zx r.er n1).isSome) hv (by have:=Bx (a:=117) (c:=108) b (by rw[hk];rfl) rfl rfl hn;rw[show(y7 r.er 117 n0&&y7 r.er 108 n1)=((zk r.er n0).isSome&&(zx r.er n1).isSome)from by simp only[oZ,rl,rp,ru,G8,Hc]]at this;exact this) (fun h=>?_) (fun h=>?_)
 .cases Y:zk r.er n0 with
  |none=>
   rw[kE hk (by decide) (by decide),if_neg (by decide)];unfold oh;rw[fi hn,Y]
  |some k=>
   rw[Y]at h;have h:=qU (show(zx r.er n1).isSome=Eh from h);obtain⟨u,g1,_,g3⟩:=pH Y;rw[kE hk (by decide) (by decide),if_neg (by decide),wy (fi hn) Y g3,if_pos hk];unfold uD;rw[mJ hn,h]
 .rw[R9]at h;obtain⟨k,hp⟩:=oY h.1;obtain⟨j,hq⟩:=oY h.2;rw[hk];exact j8n b w hk hn hv hp hq
theorem jek (b:GB r)(w:WF r.er)(hk:e.kind=pD)(hc:jb e.er=0):gT (f95 r e) (after (qf .i64) r.er e.er):=by
 obtain⟨Y,I⟩:=ki hk (show z6 pD=Eb (2,2)from rfl) hc;obtain⟨n0,n1,hn⟩:=gU Y;obtain⟨v0,v1,hv⟩:=gU I;refine oX (K:=(zk r.er n0).isSome) hv (by have:=Bx (a:=117) (c:=45) b (by rw[hk];rfl) rfl rfl hn;rw[show(y7 r.er 117 n0&&y7 r.er 45 n1)=((zk r.er n0).isSome)from by simp only[oZ,rl,rp,ru,G8,Hc]]at this;exact this) (fun h=>?_) (fun h=>?_)
 .have h:=qU h;rw[kE hk (by decide) (by decide),if_neg (by decide)];unfold oh;rw[fi hn,h]
 .obtain⟨k,hp⟩:=oY h;rw[hk];exact j83 b w hk hn hv hp
theorem jgl (b:GB r)(w:WF r.er)(hk:e.kind=qR)(hc:jb e.er=0):gT (f95 r e) (after (qf .i64) r.er e.er):=by
 obtain⟨Y,I⟩:=ki hk (show z6 qR=Eb (1,1)from rfl) hc;obtain⟨n0,hn⟩:=iX Y;obtain⟨v0,hv⟩:=iX I;refine oX (K:=(zk r.er n0).isSome) hv (by have:=Bv (a:=117)  b (by rw[hk];rfl) rfl hn;rw[show(y7 r.er 117 n0)=((zk r.er n0).isSome)from by simp only[oZ,rl,rp,ru,G8,Hc]]at this;exact this) (fun h=>?_) (fun h=>?_)
 .have h:=qU h;rw[kE hk (by decide) (by decide),if_neg (by decide)];unfold oh;rw[fi hn,h]
 .obtain⟨k,hp⟩:=oY h;rw[hk];exact j7r b w hk hn hv hp
theorem jox (b:GB r)(hk:e.kind=n9)(hc:jb e.er=0):gT (f95 r e) (after (qf .i64) r.er e.er):=by
 obtain⟨Y,I⟩:=ki hk (show z6 n9=Eb (2,1)from rfl) hc;obtain⟨n0,n1,hn⟩:=gU Y;obtain⟨v0,hv⟩:=iX I;refine oX (K:=(zk r.er n0).isSome&&(zk r.er n1).isSome) hv (by have:=Bx (a:=117) (c:=117) b (by rw[hk];rfl) rfl rfl hn;rw[show(y7 r.er 117 n0&&y7 r.er 117 n1)=((zk r.er n0).isSome&&(zk r.er n1).isSome)from by simp only[oZ,rl,rp,ru,G8,Hc]]at this;exact this) (fun h=>?_) (fun h=>?_)
 .cases Y:zk r.er n0 with
  |none=>
   rw[kE hk (by decide) (by decide),if_neg (by decide)];unfold oh;rw[fi hn,Y]
  |some k=>
   rw[Y]at h;have h:=qU (show(zk r.er n1).isSome=Eh from h);obtain⟨u,g1,_,g3⟩:=pH Y;rw[kE hk (by decide) (by decide),if_neg (by decide),wy (fi hn) Y g3,if_neg (by rw[hk];decide),if_pos hk];unfold uH;rw[mJ hn,h]
 .rw[R9]at h;obtain⟨k,hp⟩:=oY h.1;obtain⟨j,hq⟩:=oY h.2;rw[hk];exact j9l b hk hn hv hp hq
theorem jol (b:GB r)(hk:e.kind=oT)(hc:jb e.er=0):gT (f95 r e) (after (qf .i64) r.er e.er):=by
 obtain⟨Y,I⟩:=ki hk (show z6 oT=Eb (1,1)from rfl) hc;obtain⟨n0,hn⟩:=iX Y;obtain⟨v0,hv⟩:=iX I;refine oX (K:=(zx r.er n0).isSome) hv (by have:=Bv (a:=108)  b (by rw[hk];rfl) rfl hn;rw[show(y7 r.er 108 n0)=((zx r.er n0).isSome)from by simp only[oZ,rl,rp,ru,G8,Hc]]at this;exact this) (fun h=>?_) (fun h=>?_)
 .have h:=qU h;rw[kE hk (by decide) (by decide),if_pos (by decide)];unfold sT;rw[fi hn,h]
 .obtain⟨k,hp⟩:=oY h;rw[hk];exact j9t b hk hn hv hp
theorem jqj (b:GB r)(hk:e.kind=sP)(hc:jb e.er=0):gT (f95 r e) (after (qf .i64) r.er e.er):=by
 obtain⟨Y,I⟩:=ki hk (show z6 sP=Eb (1,1)from rfl) hc;obtain⟨n0,hn⟩:=iX Y;obtain⟨v0,hv⟩:=iX I;refine oX (K:=(zx r.er n0).isSome) hv (by have:=Bv (a:=108)  b (by rw[hk];rfl) rfl hn;rw[show(y7 r.er 108 n0)=((zx r.er n0).isSome)from by simp only[oZ,rl,rp,ru,G8,Hc]]at this;exact this) (fun h=>?_) (fun h=>?_)
 .have h:=qU h;rw[kE hk (by decide) (by decide),if_pos (by decide)];unfold sT;rw[fi hn,h]
 .obtain⟨k,hp⟩:=oY h;rw[hk];exact j77 b hk hn hv hp
theorem joj (b:GB r)(w:WF r.er)(hk:e.kind=iJ)(hc:jb e.er=0):gT (f95 r e) (after (qf .i64) r.er e.er):=by
 obtain⟨Y,I⟩:=ki hk (show z6 iJ=Eb (1,1)from rfl) hc;obtain⟨n0,hn⟩:=iX Y;obtain⟨v0,hv⟩:=iX I;refine oX (K:=(zk r.er n0).isSome) hv (by have:=Bv (a:=117)  b (by rw[hk];rfl) rfl hn;rw[show(y7 r.er 117 n0)=((zk r.er n0).isSome)from by simp only[oZ,rl,rp,ru,G8,Hc]]at this;exact this) (fun h=>?_) (fun h=>?_)
 .have h:=qU h;rw[kE hk (by decide) (by decide),if_neg (by decide)];unfold oh;rw[fi hn,h]
 .obtain⟨k,hp⟩:=oY h;rw[hk];exact j57 b w hk hn hv hp
theorem q9o (b:GB r)(hk:e.kind=xZ)(hc:jb e.er=0):gT (f95 r e) (after (qf .i64) r.er e.er):=by
 obtain⟨Y,I⟩:=ki hk (show z6 xZ=Eb (1,1)from rfl) hc;obtain⟨n0,hn⟩:=iX Y;obtain⟨v0,hv⟩:=iX I;refine oX (K:=(zk r.er n0).isSome) hv (by have:=Bv (a:=117)  b (by rw[hk];rfl) rfl hn;rw[show(y7 r.er 117 n0)=((zk r.er n0).isSome)from by simp only[oZ,rl,rp,ru,G8,Hc]]at this;exact this) (fun h=>?_) (fun h=>?_)
 .have h:=qU h;rw[kE hk (by decide) (by decide),if_neg (by decide)];unfold oh;rw[fi hn,h]
 .obtain⟨k,hp⟩:=oY h;rw[hk];exact j7p b hk hn hv hp
theorem jge (b:GB r)(w:WF r.er)(hc:jb e.er=0)(hu:e.kind≠jI):gT (f95 r e) (after (qf .i64) r.er e.er):=by
 obtain⟨_,f,Y,_,_⟩:=Us hc
 have hm:e.kind∈cz.map (·.1):=by
  unfold z6 at Y
  cases hf:cz.find? (fun x=>decide (x.1=e.er.kind))with
  |none=>rw[hf]at Y;cases Y
  |some x=>
   have I:=Sd hf;have h3:=Ml hf;rw[show e.kind=x.1 from(of_decide_eq_true I).symm];exact Hk h3
 simp only[cz,Hf,Ic,Rh,Rq,H5,or_false]at hm;rcases hm with h|h|h|h|h|h|h|h|h|h|h|h|h|h|h
 .exact jsc b h hc
 .exact jcv b h hc
 .exact jpe b h hc
 .exact jnb b h hc
 .exact jjo b h hc
 .exact jjl b h hc
 .exact jrw b w h hc
 .exact jek b w h hc
 .exact jgl b w h hc
 .exact jox b h hc
 .exact jol b h hc
 .exact jqj b h hc
 .exact joj b w h hc
 .exact q9o b h hc
 .exact absurd h hu
end Go.Z
namespace Go.Z
open Go Go.Abs Go.W
variable {r:av}{e:GEv}
theorem Ut {a lo hi}:f107 a lo hi=Eb (decide (a<lo\/hi<a)):=by
 unfold f107;by_cases h:a<lo
 .simp[h]
 .simp[h]
theorem yH {o}:decide (ei o<0)=!o.isSome:=by
 cases o with
 |none=>rfl|some k=>exact decide_eq_false (by show ¬(k:Int)<0;omega)
theorem jy9 (b:GB r)(hk:e.kind=nw)(hc:jb e.er=0):gT (f110 r e) (apply (qf .i64) r.er e.er):=by
 obtain⟨Y,I⟩:=ki hk (show z6 nw=Eb (2,2)from rfl) hc;obtain⟨n0,n1,hn⟩:=gU Y;obtain⟨v0,v1,hv⟩:=gU I;unfold apply oe;rw[show e.er.kind=nw from hk,if_pos (by decide),if_pos rfl,fi hn,mJ hn,uz hv,wx];unfold f110;simp only[ia hn,gS hn,gS hv,qc,I0 (jl b.L),wv,Ut,yC (jl b.L)];rw[show decide (e.kind=([108,111,116]:aj))=G0 from decide_eq_true hk,Fw (o:=Eb (r.ay.getD [])) (by have:=nB b.L;simp only[Ep,E4];omega) (by simp)];simp only[cond_true]
 cases (zx r.er n0).isSome with
 |true=>exact⟨_,_,rfl,rfl,by decide⟩
 |false=>
  by_cases Y:v1<1\/10000<v1
  .simp only[decide_eq_true Y,if_pos Y];exact⟨_,_,rfl,rfl,by decide⟩
  .simp only[decide_eq_false Y,if_neg Y];by_cases I:64<=(r.ay.getD []).length
   .simp only[show decide (64<=((r.ay.getD []).length:Int))=G0 from decide_eq_true (by omega),wx,if_pos I,Eg,if_false];exact⟨_,_,rfl,rfl,by decide⟩
   .simp only[show decide (64<=((r.ay.getD []).length:Int))=Eh from decide_eq_false (by omega),wx,if_neg I,Eg,if_false];exact⟨_,_,rfl,rfl,rfl⟩
theorem jhx (b:GB r)(hk:e.kind=nZ)(hc:jb e.er=0):gT (f110 r e) (apply (qf .i64) r.er e.er):=by
 obtain⟨Y,I⟩:=ki hk (show z6 nZ=Eb (1,1)from rfl) hc;obtain⟨n0,hn⟩:=iX Y;unfold apply oe;rw[show e.er.kind=nZ from hk,if_pos (by decide),if_neg (by decide),if_pos rfl,fi hn]
 have hl:r.er.ah.length=(r.ah.getD []).length:=by rw[x5,G1]
 unfold f110;simp only[ia hn,qc,Fo (jl b.P),wv,yC (jl b.P),hl];rw[show decide (e.kind=([108,111,116]:aj))=Eh from decide_eq_false (by rw[hk];decide),show decide (e.kind=([112,114,111,100,117,99,116]:aj))=G0 from decide_eq_true hk,Fw (o:=Eb (r.ah.getD [])) (by have:=nB b.P;simp only[Ep,E4];omega) (by simp)];simp only[cond_true,cond_false]
 cases (zr r.er n0).isSome with
 |true=>exact⟨_,_,rfl,rfl,by decide⟩
 |false=>
  by_cases I:16<=(r.ah.getD []).length
  .simp only[show decide (16<=((r.ah.getD []).length:Int))=G0 from decide_eq_true (by omega),if_pos I];exact⟨_,_,rfl,rfl,by decide⟩
  .simp only[show decide (16<=((r.ah.getD []).length:Int))=Eh from decide_eq_false (by omega),if_neg I];exact⟨_,_,rfl,rfl,qz2 rfl⟩
theorem jpr (b:GB r)(hk:e.kind=pC)(hc:jb e.er=0):gT (f110 r e) (apply (qf .i64) r.er e.er):=by
 obtain⟨Y,I⟩:=ki hk (show z6 pC=Eb (2,1)from rfl) hc;obtain⟨n0,n1,hn⟩:=gU Y;unfold apply oe;rw[show e.er.kind=pC from hk,if_pos (by decide),if_neg (by decide),if_neg (by decide),fi hn,mJ hn]
 have hl:r.er.units.length=(r.units.getD []).length:=by rw[wm,G1]
 unfold f110;simp only[ia hn,gS hn,qc,Fo (jl b.P),Nd (jl b.U),wv,yH,yC (jl b.U),hl];rw[show decide (e.kind=([108,111,116]:aj))=Eh from decide_eq_false (by rw[hk];decide),show decide (e.kind=([112,114,111,100,117,99,116]:aj))=Eh from decide_eq_false (by rw[hk];decide)];simp only[cond_false];unfold kx
 cases hp:zr r.er n1 with
 |none=>exact⟨_,_,rfl,rfl,by decide⟩
 |some k=>
  obtain⟨p,g1,_,g3⟩:=Bq hp
  have hd:p.er.bg.isEmpty=decide (((p.bg.getD []).length:Int)=0):=by
   show((p.bg.getD []).map b9.er).isEmpty=_
   cases p.bg.getD []with
   |nil=>rfl|cons x l=>simp;omega
  have pF:p.er.bg.length=(p.bg.getD []).length:=by show((p.bg.getD []).map b9.er).length=_;rw[G1]
  simp only[Hr,Hb,cond_false,y5,ja g1,Ii,g3,hd,pF];rw[Fw (o:=Eb (r.units.getD [])) (by have:=nB b.U;simp only[Ep,E4];omega) (by simp)]
  cases (zk r.er n0).isSome with
  |true=>exact⟨_,_,rfl,rfl,by decide⟩
  |false=>
   cases decide (((p.bg.getD []).length:Int)=0)with
   |true=>exact⟨_,_,rfl,rfl,by decide⟩
   |false=>
    by_cases I:256<=(r.units.getD []).length
    .simp only[show decide (256<=((r.units.getD []).length:Int))=G0 from decide_eq_true (by omega),if_pos I];exact⟨_,_,rfl,rfl,by decide⟩
    .simp only[show decide (256<=((r.units.getD []).length:Int))=Eh from decide_eq_false (by omega),if_neg I];exact⟨_,_,rfl,rfl,qz6 rfl⟩
theorem jay (b:GB r){k x}(hk:k<(r.ay.getD []).length):f188 r (k:Int) x=Eb { r with ay:=Eb ((r.ay.getD []).set k x) }:=by
 unfold f188;rw[Ue (jl b.L) hk];rfl
theorem jnp (b:GB r){k x}(hk:k<(r.ah.getD []).length):f187 r (k:Int) x=Eb { r with ah:=Eb ((r.ah.getD []).set k x) }:=by
 unfold f187;rw[Ue (jl b.P) hk];rfl
theorem Bz (hb:(r.units.getD []).length<=BB){k x}(hk:k<(r.units.getD []).length):f194 r (k:Int) x=Eb { r with units:=Eb ((r.units.getD []).set k x) }:=by
 unfold f194;rw[Ue (jl hb) hk];rfl
theorem uP {α:Type}{l:List α}{k x}(h:l[k]?=Eb x):k<l.length:=(G5.1 h).1
theorem jfc (b:GB r)(hold:Bool)(hk:e.kind=if hold then oT else sP)(hc:jb e.er=0):gT (f112 r e) (apply (qf .i64) r.er e.er):=by
 obtain⟨Y,I⟩:=ki (a:=1) (c:=1) hk (by cases hold<;>rfl) hc;obtain⟨n0,hn⟩:=iX Y;rw[kE hk (by cases hold<;>decide) (by cases hold<;>decide),if_pos (by cases hold<;>decide)];unfold sT;rw[fi hn];unfold f112;simp only[ia hn,qc,I0 (jl b.L),yH]
 cases hp:zx r.er n0 with
 |none=>exact⟨_,_,rfl,rfl,by decide⟩
 |some k=>
  obtain⟨x,g1,_⟩:=Jn hp;simp only[Hr,Hb,cond_false,y5,ja g1,wx,g1,jay b (uP g1),show e.er.kind=e.kind from rfl]
  cases hold with
  |true=>
   have hk:e.kind=oT:=hk;rw[show decide (e.kind=([104,111,108,100]:aj))=G0 from decide_eq_true hk,show decide (e.kind=([102,114,101,101]:aj))=Eh from decide_eq_false (by rw[hk];decide),if_pos hk];by_cases hh:x.held=G0
   .simp only[hh,cond_true,if_true];exact⟨_,_,rfl,rfl,by decide⟩
   .rw[Mr]at hh;simp only[hh,cond_true,cond_false,Eg,if_false];exact⟨_,_,rfl,rfl,Ni rfl⟩
  |false=>
   have hk:e.kind=sP:=hk;rw[show decide (e.kind=([104,111,108,100]:aj))=Eh from decide_eq_false (by rw[hk];decide),show decide (e.kind=([102,114,101,101]:aj))=G0 from decide_eq_true hk,if_neg (by rw[hk];decide)];by_cases hh:x.held=G0
   .simp only[hh,cond_true,cond_false,Hb,Eg,if_false];exact⟨_,_,rfl,rfl,Ni rfl⟩
   .rw[Mr]at hh;simp only[hh,cond_true,cond_false,L5,if_true];exact⟨_,_,rfl,rfl,by decide⟩
theorem q8d {α:Type}{l:List α}{p x}(h:l.length<=16):16<(y6 p x l).length↔(!(l.any p))=G0/\16<=l.length:=by
 unfold y6;rw[Ft]
 cases hi:l.findIdx? p with
 |some i=>
  simp only[Hq];constructor
  .intro I;omega
  .rintro ⟨I,_⟩;cases I
 |none=>
  simp only[G4,E4];constructor
  .intro I;exact⟨rfl,by omega⟩
  .rintro ⟨_,I⟩;omega
theorem Uu (b:GB r)(w:WF r.er){kk:aj}(iu:kk=nx\/kk=lu\/kk=qQ)(hk:e.kind=kk)(hc:jb e.er=0)(iF:∀v∈e.values.getD [],0<=v):gT (f111 r e) (apply (qf .i64) r.er e.er):=by
 have hR:apply (qf .i64) r.er e.er=og r.er e.er:=by
  unfold apply;rw[show e.er.kind=kk from hk,if_neg (by rcases iu with rfl|rfl|rfl<;>decide),if_pos iu]
 rw[hR]
 obtain⟨n0,t,hn⟩:∃n0 t,e.names.getD []=n0::t:=by
  rcases iu with rfl|rfl|rfl
  .obtain⟨a,c,h⟩:=gU (ki (c:=2) hk rfl hc).1;exact⟨_,_,h⟩
  .obtain⟨a,c,h⟩:=gU (ki (c:=3) hk rfl hc).1;exact⟨_,_,h⟩
  .obtain⟨a,h⟩:=iX (ki (c:=1) hk rfl hc).1;exact⟨_,_,h⟩
 cases hp:zr r.er n0 with
 |none=>
  unfold og;rw[fi hn,hp];unfold f111;simp only[ia hn,qc,Fo (jl b.P),yH,hp];exact⟨_,_,rfl,rfl,by decide⟩
 |some k=>
 obtain⟨p,g1,_,g3⟩:=Bq hp;have hm:=E9 g1;have hD:=b.D p hm
 have hpe:p.er∈r.er.ah:=by rw[x5];exact Hk hm
 have hkn:=w.aX _ hpe;have hkt:=w.aO _ hpe;have Uv:kl (·.k) (p.dn.getD []):=hkn.1;have Uw:(p.dn.getD []).length<=16:=hkn.2;have Ux:kl (·.k) (p.dt.getD []):=hkt.1;have Uy:(p.dt.getD []).length<=16:=hkt.2;rw[Nj (fi hn) hp g3];unfold f111;simp only[ia hn,qc,Fo (jl b.P),yH,hp,Hr,Hb,cond_false,y5,ja g1,jnp b (uP g1)];rcases iu with rfl|rfl|rfl
 .obtain⟨Y,I⟩:=ki (a:=2) (c:=2) hk rfl hc;obtain⟨n0',n1,jD⟩:=gU Y;obtain⟨v0,v1,hv⟩:=gU I;have h0:0<=v1:=iF v1 (by rw[hv];simp);obtain⟨v,ww,f1,f2⟩:=jo6 (x:=⟨n1,v1⟩) (nB hD.2.1) Uv h0;have f2:v.getD []=jJ (p.dn.getD []) n1 v1:=f2;rw[if_pos hk,mJ jD,uz hv];simp only[gS hv,gS jD,f1,show decide (e.kind=([110,101,101,100]:aj))=G0 from decide_eq_true hk,cond_true];by_cases hz:10000<v1
  .rw[decide_eq_true hz,if_pos (Or.inr hz)];exact⟨_,_,rfl,rfl,by decide⟩
  .rw[decide_eq_false hz,if_neg (show ¬(v1<0\/10000<v1) by omega)]
   have dL:({ r with ah:=Eb ((r.ah.getD []).set k ⟨p.name,v,p.dt,p.bg⟩) }:av).er=bH r.er k { p.er with bW:={ p.er.bW with aX:=jJ (p.dn.getD []) n1 v1 } }:=by
    rw[Fy rfl]
    congr 1
    simp only[bm.er,f2]
   have hlen:decide (16<((v.getD []).length:Int))=decide (16<(jJ (p.dn.getD []) n1 v1).length):=by
    rw[f2];by_cases h:16<(jJ (p.dn.getD []) n1 v1).length
    .rw[decide_eq_true h];exact decide_eq_true (by omega)
    .rw[decide_eq_false h];exact decide_eq_false (by omega)
   have mK:16<(jJ (p.dn.getD []) n1 v1).length↔(0<v1/\(!(p.dn.getD []).any (dh n1))=G0/\16<=(p.dn.getD []).length):=by
    unfold jJ;by_cases vX:v1=0
    .rw[if_pos vX];have:=Ij (fun x=>!dh n1 x) (p.dn.getD []);constructor
     .intro h;omega
     .rintro ⟨h,_⟩;omega
    .rw[if_neg vX,q8d Uw];constructor
     .intro h;exact⟨by omega,h⟩
     .exact fun h=>h.2
   simp only[cond_false,hlen];by_cases jK:16<(jJ (p.dn.getD []) n1 v1).length
   .rw[decide_eq_true jK,if_pos (mK.1 jK)];cases ww<;>exact⟨_,_,rfl,rfl,by decide⟩
   .rw[decide_eq_false jK,if_neg (fun h=>jK (mK.2 h))];cases ww<;>exact⟨_,_,rfl,rfl,dL⟩
 .obtain⟨Y,I⟩:=ki (a:=2) (c:=3) hk rfl hc;obtain⟨n0',n1,jD⟩:=gU Y;obtain⟨v0,v1,v2,hv⟩:=juy I;obtain⟨v,ww,f1,f2⟩:=jp1 (x:=⟨n1,v1,v2⟩) (nB hD.2.2.1) Ux;have f2:v.getD []=y6 (eL n1) ⟨n1,v1,v2⟩ (p.dt.getD []):=f2;rw[if_neg (show ¬e.kind=nx by rw[hk];decide),if_pos hk,mJ jD,uz hv,vl2 hv];simp only[gS hv,jss hv,gS jD,f1,show decide (e.kind=([110,101,101,100]:aj))=Eh from decide_eq_false (by rw[hk];decide),show decide (e.kind=([116,101,115,116]:aj))=G0 from decide_eq_true hk,cond_true,cond_false];by_cases hz:v2<v1
  .rw[decide_eq_true hz,if_pos hz];exact⟨_,_,rfl,rfl,by decide⟩
  .rw[decide_eq_false hz,if_neg hz]
   have dL:({ r with ah:=Eb ((r.ah.getD []).set k ⟨p.name,p.dn,v,p.bg⟩) }:av).er=bH r.er k { p.er with bW:={ p.er.bW with aO:=y6 (eL n1) ⟨n1,v1,v2⟩ (p.dt.getD []) } }:=by
    rw[Fy rfl]
    congr 1
    simp only[bm.er,f2]
   have hlen:decide (16<((v.getD []).length:Int))=decide (16<(y6 (eL n1) ⟨n1,v1,v2⟩ (p.dt.getD [])).length):=by
    rw[f2];by_cases h:16<(y6 (eL n1) ⟨n1,v1,v2⟩ (p.dt.getD [])).length
    .rw[decide_eq_true h];exact decide_eq_true (by omega)
    .rw[decide_eq_false h];exact decide_eq_false (by omega)
   have mK:=q8d (p:=eL n1) (x:=(⟨n1,v1,v2⟩:jh)) Uy;simp only[cond_false,hlen];by_cases jK:16<(y6 (eL n1) ⟨n1,v1,v2⟩ (p.dt.getD [])).length
   .rw[decide_eq_true jK,if_pos (mK.1 jK)];cases ww<;>exact⟨_,_,rfl,rfl,by decide⟩
   .rw[decide_eq_false jK,if_neg (fun h=>jK (mK.2 h))];cases ww<;>exact⟨_,_,rfl,rfl,dL⟩
 .rw[if_neg (show ¬e.kind=nx by rw[hk];decide),if_neg (show ¬e.kind=lu by rw[hk];decide)];simp only[show decide (e.kind=([110,101,101,100]:aj))=Eh from decide_eq_false (by rw[hk];decide),show decide (e.kind=([116,101,115,116]:aj))=Eh from decide_eq_false (by rw[hk];decide),cond_false,yC (jl hD.1)];rw[Fw (o:=Eb (p.bg.getD [])) (by have:=nB hD.1;simp only[Ep,E4];omega) (by simp)]
  have pF:p.er.bg.length=(p.bg.getD []).length:=by show((p.bg.getD []).map b9.er).length=_;rw[G1]
  have hd:(p.dn.getD []).isEmpty=decide (((p.dn.getD []).length:Int)=0):=by
   cases p.dn.getD []with
   |nil=>rfl|cons x l=>simp;omega
  have dL:({ r with ah:=Eb ((r.ah.getD []).set k ⟨p.name,p.dn,p.dt,Eb (p.bg.getD []++[⟨p.dn,p.dt⟩])⟩) }:av).er=bH r.er k { p.er with bg:=p.er.bg++[p.er.bW] }:=by
   rw[Fy rfl]
   congr 1
   simp only[bm.er,Ep,Hx,Hf,Ic];rfl
  simp only[hd,pF]
  cases decide (((p.dn.getD []).length:Int)=0)with
  |true=>exact⟨_,_,rfl,rfl,by decide⟩
  |false=>
   by_cases I:100<=(p.bg.getD []).length
   .simp only[show decide (100<=((p.bg.getD []).length:Int))=G0 from decide_eq_true (by omega),if_pos I,Eg,if_false];exact⟨_,_,rfl,rfl,by decide⟩
   .simp only[show decide (100<=((p.bg.getD []).length:Int))=Eh from decide_eq_false (by omega),if_neg I,Eg,if_false];exact⟨_,_,rfl,rfl,dL⟩
end Go.Z
namespace Go.Z
open Go Go.Abs Go.W
variable {r:av}{e:GEv}
theorem Uz {α:Type}(p:α->Bool):∀(l:List α) (c:Bool),l.foldl (fun c x=>if c then G0 else p x) c=(c||l.any p)
 | [],c=>by simp
 |x::l,c=>by
  rw[H6,Uz p l,Ik];cases c<;>simp
theorem UA {u}(h:u.ax=Eh):(⟨u.name,u.product,u.version,u.uses,u.results,u.partner,Eh,u.au⟩:bp)=u:=by cases u;simp only at h;rw[h]
theorem jxv (b:GB r)(w:WF r.er)(hk:e.kind=ny)(hc:jb e.er=0){k:Nat}{u n0 n1 v0 v1}(hn:e.names.getD []=[n0,n1])(hv:e.values.getD []=[v0,v1])(Y:(r.units.getD [])[k]?=Eb u):gT (f189 r (k:Int) e) (uD (qf .i64) r.er k u.er e.er):=by
 obtain⟨D,v,o⟩:=Bt b w Y;unfold uD;rw[mJ hn,uz hv,o.yG];unfold f189;simp only[ja Y,gS hn,gS hv,qc,I0 (jl b.L),yH]
 cases hq:zx r.er n1 with
 |none=>exact⟨_,_,rfl,rfl,by decide⟩
 |some j=>
 obtain⟨x,h4,_⟩:=Jn hq;simp only[Hr,Hb,cond_false,y5,ja h4,wx,h4];by_cases G:u.ax=G0
 .rw[G,if_pos (show u.er.ax=G0 from G)];exact⟨_,_,rfl,rfl,by decide⟩
 rw[if_neg (show ¬u.er.ax=G0 from G)];rw[Mr]at G;simp only[UA G,o.Bs];rw[G];simp only[cond_false];by_cases hz:v1=0
 .rw[decide_eq_true hz,if_pos hz];exact⟨_,_,rfl,rfl,by decide⟩
 rw[decide_eq_false hz,if_neg hz];simp only[cond_false];by_cases hh:x.held=G0
 .rw[hh];exact⟨_,_,rfl,rfl,by decide⟩
 have E3:x.held=Eh:=by simpa using hh
 have L:=Fp (D.aX.getD []) (yI r (k:Int) e u (j:Int) x D) (fun i (c:Bool)=>(c,(i:Int))) (fun c y=>if c then G0 else dh x.kind y) (fun c=>(c,((D.aX.getD []).length:Int))) Eh (fun c=>by unfold yI;simp only[z4];rfl)
  (fun i c y hy hi=>by
   unfold yI;simp only[yp hi,cond_true,qc,ja hy];rw[zc (by have:=o.aX;unfold BB at this;omega)]
   cases c<;>rfl)
 rw[Uz,H0]at L;have L':bu (yI r (k:Int) e u (j:Int) x D) (Eh,0)=Eb ((D.aX.getD []).any (dh x.kind),((D.aX.getD []).length:Int)):=L;rw[if_neg hh];simp only[E3,cond_false,L',Hu,show D.er.aX=D.aX.getD []from rfl]
 cases (D.aX.getD []).any (dh x.kind)with
 |false=>exact⟨_,_,rfl,rfl,by decide⟩
 |true=>
 simp only[cond_true,Hb,Eg,if_false];by_cases hl:x.left<v1
 .rw[decide_eq_true hl,if_pos hl];exact⟨_,_,rfl,rfl,by decide⟩
 rw[decide_eq_false hl,if_neg hl];obtain⟨q,wq,q1,q2⟩:=jnc (o:=u.uses) (k:=x.name) (n:=v1) (nB o.uses) o.keyed;rw[q1];simp only[cond_false,jay b (uP h4)];rw[show(⟨u.name,u.product,u.version,q,u.results,u.partner,Eh,u.au⟩:bp)={ u with uses:=q } by rw[<-G]];have f13:=Bz (r:={ r with ay:=Eb ((r.ay.getD []).set j ⟨x.name,x.kind,x.count,qf .i64 (x.left-v1),Eh⟩) }) (x:={ u with uses:=q }) b.U (uP Y)
 have dL:({ r with ay:=Eb ((r.ay.getD []).set j ⟨x.name,x.kind,x.count,qf .i64 (x.left-v1),Eh⟩),units:=Eb ((r.units.getD []).set k { u with uses:=q }) }:av).er=aH (cx r.er j ⟨x.name,x.kind,x.count,qf .i64 (x.left-v1),Eh⟩) k { u.er with uses:=oc (qf .i64) u.er.uses x.name v1 }:=by
  simp only[av.er,aH,cx,Ep,Ie]
  congr 2
  simp only[bp.er,q2]
 simp only[f13];cases wq<;>exact⟨_,_,rfl,rfl,dL⟩
theorem jvf (b:GB r)(hk:e.kind=n9)(hc:jb e.er=0){k:Nat}{u n0 n1}(hn:e.names.getD []=[n0,n1])(Y:(r.units.getD [])[k]?=Eb u):gT (f190 r (k:Int) e) (uH r.er k u.er e.er):=by
 unfold uH;rw[mJ hn];unfold f190;simp only[ja Y,gS hn,qc,Nd (jl b.U),yH]
 cases hq:zk r.er n1 with
 |none=>exact⟨_,_,rfl,rfl,by decide⟩
 |some j=>
 obtain⟨v,h4,_,h5⟩:=pH hq;rw[y5];simp only[Hr,Hb,cond_false,ja h4,h5];by_cases c1:k=j
 .rw[if_pos c1,@decide_eq_true ((j:Int)=(k:Int)) _ (by omega)];exact⟨_,_,rfl,rfl,by decide⟩
 rw[if_neg c1,@decide_eq_false ((j:Int)=(k:Int)) _ (by omega)];simp only[cond_false];by_cases c2:u.product=v.product
 case neg=>rw[decide_eq_false c2,if_pos (show u.er.product≠v.er.product\/u.er.version≠v.er.version from Or.inl c2)];exact⟨_,_,rfl,rfl,by decide⟩
 by_cases dw:u.version=v.version
 case neg=>rw[decide_eq_true c2,decide_eq_false dw,if_pos (show u.er.product≠v.er.product\/u.er.version≠v.er.version from Or.inr dw)];exact⟨_,_,rfl,rfl,by decide⟩
 rw[if_neg (show ¬(u.er.product≠v.er.product\/u.er.version≠v.er.version)from fun h=>h.elim (fun h=>h c2) (fun h=>h dw)),decide_eq_true c2,decide_eq_true dw];simp only[cond_true];by_cases fj:u.ax=G0
 .rw[if_pos (show u.er.ax=G0\/v.er.ax=G0 from Or.inl fj),fj];exact⟨_,_,rfl,rfl,by decide⟩
 by_cases cS:v.ax=G0
 .rw[if_pos (show u.er.ax=G0\/v.er.ax=G0 from Or.inr cS)]
  have lx:u.ax=Eh:=by simpa using fj
  rw[lx,cS];exact⟨_,_,rfl,rfl,by decide⟩
 have lx:u.ax=Eh:=by simpa using fj
 have sU:v.ax=Eh:=by simpa using cS
 rw[if_neg (show ¬(u.er.ax=G0\/v.er.ax=G0)from fun h=>h.elim fj cS)];have f1:=Bz (r:=r) (x:={ u with partner:=v.name }) b.U (uP Y);have f2:=Bz (r:={ r with units:=Eb ((r.units.getD []).set k { u with partner:=v.name }) }) (k:=j) (x:={ v with partner:=u.name }) (by rw[Ep,Hq];exact b.U) (by rw[Ep,Hq];exact uP h4)
 have dL:({ r with units:=Eb (((r.units.getD []).set k { u with partner:=v.name }).set j { v with partner:=u.name }) }:av).er=aH (aH r.er k { u.er with partner:=v.er.name }) j { v.er with partner:=u.er.name }:=by
  simp only[av.er,aH,Ep,Ie];rfl
 rw[show(⟨u.name,u.product,u.version,u.uses,u.results,v.name,Eh,u.au⟩:bp)={ u with partner:=v.name } by rw[<-lx],show(⟨v.name,v.product,v.version,v.uses,v.results,u.name,Eh,v.au⟩:bp)={ v with partner:=u.name } by rw[<-sU]];simp only[f1,f2];rw[lx,sU]at dL ⊢;simp only[cond_false];by_cases ef:u.partner=[]
 case neg=>rw[if_pos (show u.er.partner≠[]\/v.er.partner≠[]from Or.inl ef),decide_eq_false ef];exact⟨_,_,rfl,rfl,by decide⟩
 by_cases c4:v.partner=[]
 case neg=>rw[if_pos (show u.er.partner≠[]\/v.er.partner≠[]from Or.inr c4),decide_eq_true ef,decide_eq_false c4];exact⟨_,_,rfl,rfl,by decide⟩
 rw[if_neg (show ¬(u.er.partner≠[]\/v.er.partner≠[])from fun h=>h.elim (fun h=>h ef) (fun h=>h c4)),decide_eq_true ef,decide_eq_true c4];exact⟨_,_,rfl,rfl,dL⟩
theorem FC (b:GB r)(w:WF r.er){kk:aj}(iu:kk=ny\/kk=n9\/kk=pD\/kk=qR\/kk=iJ\/kk=xZ)(hk:e.kind=kk)(hc:jb e.er=0):gT (f113 r e) (apply (qf .i64) r.er e.er):=by
 rw[kE hk (by rcases iu with rfl|rfl|rfl|rfl|rfl|rfl<;>decide) (by rcases iu with rfl|rfl|rfl|rfl|rfl|rfl<;>decide),if_neg (by rcases iu with rfl|rfl|rfl|rfl|rfl|rfl<;>decide)]
 obtain⟨n0,t,hn⟩:∃n0 t,e.names.getD []=n0::t:=by
  rcases iu with rfl|rfl|rfl|rfl|rfl|rfl
  .obtain⟨a,c,h⟩:=gU (ki (c:=2) hk rfl hc).1;exact⟨_,_,h⟩
  .obtain⟨a,c,h⟩:=gU (ki (c:=1) hk rfl hc).1;exact⟨_,_,h⟩
  .obtain⟨a,c,h⟩:=gU (ki (c:=2) hk rfl hc).1;exact⟨_,_,h⟩
  .obtain⟨a,h⟩:=iX (ki (c:=1) hk rfl hc).1;exact⟨_,_,h⟩
  .obtain⟨a,h⟩:=iX (ki (c:=1) hk rfl hc).1;exact⟨_,_,h⟩
  .obtain⟨a,h⟩:=iX (ki (c:=1) hk rfl hc).1;exact⟨_,_,h⟩
 cases hp:zk r.er n0 with
 |none=>
  unfold oh;rw[fi hn,hp];unfold f113;simp only[ia hn,qc,Nd (jl b.U),yH,hp];exact⟨_,_,rfl,rfl,by decide⟩
 |some k=>
 obtain⟨u,Y,_,h3⟩:=pH hp;obtain⟨D,v,o⟩:=Bt b w Y;rw[wy (fi hn) hp h3];unfold f113;simp only[ia hn,qc,Nd (jl b.U),yH,hp,Hr,Hb,cond_false,y5,ja Y];rcases iu with rfl|rfl|rfl|rfl|rfl|rfl
 .obtain⟨g1,g2⟩:=ki (a:=2) (c:=2) hk rfl hc;obtain⟨a,c,jD⟩:=gU g1;obtain⟨v0,v1,hv⟩:=gU g2;rw[if_pos hk,show decide (e.kind=([117,115,101]:aj))=G0 from decide_eq_true hk];obtain⟨r',cc,q1,q2⟩:=jxv b w hk hc jD hv Y;simp only[cond_true,q1];exact⟨_,_,rfl,q2⟩
 .obtain⟨g1,g2⟩:=ki (a:=2) (c:=1) hk rfl hc;obtain⟨a,c,jD⟩:=gU g1;rw[if_neg (show ¬e.kind=ny by rw[hk];decide),if_pos hk,show decide (e.kind=([117,115,101]:aj))=Eh from decide_eq_false (by rw[hk];decide),show decide (e.kind=([112,97,105,114]:aj))=G0 from decide_eq_true hk];obtain⟨r',cc,q1,q2⟩:=jvf b hk hc jD Y;simp only[cond_true,cond_false,q1];exact⟨_,_,rfl,q2⟩
 .obtain⟨g1,g2⟩:=ki (a:=2) (c:=2) hk rfl hc;obtain⟨a,n1,jD⟩:=gU g1;obtain⟨v0,v1,hv⟩:=gU g2;rw[if_neg (show ¬e.kind=ny by rw[hk];decide),if_neg (show ¬e.kind=n9 by rw[hk];decide),if_pos hk,show decide (e.kind=([117,115,101]:aj))=Eh from decide_eq_false (by rw[hk];decide),show decide (e.kind=([112,97,105,114]:aj))=Eh from decide_eq_false (by rw[hk];decide),show decide (e.kind=([109,101,97,115,117,114,101]:aj))=G0 from decide_eq_true hk,mJ jD,uz hv,o.yG];simp only[cond_true,cond_false];by_cases G:u.ax=G0
  .rw[G];exact⟨_,_,rfl,rfl,by decide⟩
  have gy:u.ax=Eh:=by simpa using G
  have L:=Fp (D.aO.getD []) (yJ r e (k:Int) u D) (fun i (c:Bool)=>(c,(i:Int))) (fun c y=>if c then G0 else eL n1 y) (fun c=>(c,((D.aO.getD []).length:Int))) Eh (fun c=>by unfold yJ;simp only[z4];rfl)
   (fun i c y hy hi=>by
    unfold yJ;simp only[yp hi,cond_true,qc,ja hy,gS jD];rw[zc (by have:=o.aO;unfold BB at this;omega)]
    cases c<;>rfl)
  rw[Uz,H0]at L;have L':bu (yJ r e (k:Int) u D) (Eh,0)=Eb ((D.aO.getD []).any (eL n1),((D.aO.getD []).length:Int)):=L;rw[if_neg G];simp only[UA gy,o.Bs,L',gS jD,gS hv,yC (jl o.results)];rw[gy,Fw (o:=Eb (u.results.getD [])) (by have:=nB o.results;simp only[Ep,E4];omega) (by simp)];simp only[cond_false,Hu,show D.er.aO=D.aO.getD []from rfl]
  cases (D.aO.getD []).any (eL n1)with
  |false=>exact⟨_,_,rfl,rfl,by decide⟩
  |true=>
   have f13:=Bz (r:=r) (x:={ u with results:=Eb (u.results.getD []++[⟨n1,u.version,v1⟩]) }) b.U (uP Y)
   have dL:({ r with units:=Eb ((r.units.getD []).set k { u with results:=Eb (u.results.getD []++[⟨n1,u.version,v1⟩]) }) }:av).er=aH r.er k { u.er with results:=u.results.getD []++[⟨n1,u.version,v1⟩] }:=by rw[yF rfl];rfl
   rw[gy]at f13;by_cases I:64<=(u.results.getD []).length
   .simp only[show decide (64<=((u.results.getD []).length:Int))=G0 from decide_eq_true (by omega),if_pos I,Hb,Eg,if_false,cond_true];exact⟨_,_,rfl,rfl,by decide⟩
   .simp only[show decide (64<=((u.results.getD []).length:Int))=Eh from decide_eq_false (by omega),if_neg I,Hb,Eg,if_false,cond_true,cond_false,Ep,f13];rw[gy]at dL;exact⟨_,_,rfl,rfl,dL⟩
 .rw[if_neg (show ¬e.kind=ny by rw[hk];decide),if_neg (show ¬e.kind=n9 by rw[hk];decide),if_neg (show ¬e.kind=pD by rw[hk];decide),if_pos hk,show decide (e.kind=([117,115,101]:aj))=Eh from decide_eq_false (by rw[hk];decide),show decide (e.kind=([112,97,105,114]:aj))=Eh from decide_eq_false (by rw[hk];decide),show decide (e.kind=([109,101,97,115,117,114,101]:aj))=Eh from decide_eq_false (by rw[hk];decide),show decide (e.kind=([117,112,100,97,116,101]:aj))=G0 from decide_eq_true hk,o.new];simp only[cond_true,cond_false];by_cases G:u.ax=G0
  .rw[G];exact⟨_,_,rfl,rfl,by decide⟩
  have gy:u.ax=Eh:=by simpa using G
  rw[if_neg G];have f13:=Bz (r:=r) (x:={ u with version:=v }) b.U (uP Y)
  have dL:({ r with units:=Eb ((r.units.getD []).set k { u with version:=v }) }:av).er=aH r.er k { u.er with version:=v }:=by rw[yF rfl];rfl
  rw[gy]at f13 dL;simp only[UA gy,(Nf (jl b.P) o.new).2,f13];rw[gy];simp only[cond_false];by_cases h:u.version=v
  .rw[decide_eq_true h,if_pos h];exact⟨_,_,rfl,rfl,by decide⟩
  .rw[decide_eq_false h,if_neg h];exact⟨_,_,rfl,rfl,dL⟩
 .rw[if_neg (show ¬e.kind=ny by rw[hk];decide),if_neg (show ¬e.kind=n9 by rw[hk];decide),if_neg (show ¬e.kind=pD by rw[hk];decide),if_neg (show ¬e.kind=qR by rw[hk];decide),if_pos hk,show decide (e.kind=([117,115,101]:aj))=Eh from decide_eq_false (by rw[hk];decide),show decide (e.kind=([112,97,105,114]:aj))=Eh from decide_eq_false (by rw[hk];decide),show decide (e.kind=([109,101,97,115,117,114,101]:aj))=Eh from decide_eq_false (by rw[hk];decide),show decide (e.kind=([117,112,100,97,116,101]:aj))=Eh from decide_eq_false (by rw[hk];decide),show decide (e.kind=([115,104,105,112]:aj))=G0 from decide_eq_true hk];have g2:=jps (jl b.P) o.new (jl b.L) (jl o.uses) o.ay o.Bs o.yG (jl o.aX) (jl o.results) (jl o.aO);have f13:=Bz (r:=r) (x:={ u with ax:=G0 }) b.U (uP Y);simp only[cond_true,cond_false,g2,f13];by_cases h:uy (qf .i64) r.er u.er=0
  .rw[decide_eq_true h,if_neg (fun hh=>hh h)];exact⟨_,_,rfl,rfl,yF rfl⟩
  .rw[decide_eq_false h,if_pos h];exact⟨_,_,rfl,rfl,h⟩
 .rw[if_neg (show ¬e.kind=ny by rw[hk];decide),if_neg (show ¬e.kind=n9 by rw[hk];decide),if_neg (show ¬e.kind=pD by rw[hk];decide),if_neg (show ¬e.kind=qR by rw[hk];decide),if_neg (show ¬e.kind=iJ by rw[hk];decide),show decide (e.kind=([117,115,101]:aj))=Eh from decide_eq_false (by rw[hk];decide),show decide (e.kind=([112,97,105,114]:aj))=Eh from decide_eq_false (by rw[hk];decide),show decide (e.kind=([109,101,97,115,117,114,101]:aj))=Eh from decide_eq_false (by rw[hk];decide),show decide (e.kind=([117,112,100,97,116,101]:aj))=Eh from decide_eq_false (by rw[hk];decide),show decide (e.kind=([115,104,105,112]:aj))=Eh from decide_eq_false (by rw[hk];decide)];have f13:=Bz (r:=r) (x:={ u with au:=qf .i64 (u.au+1) }) b.U (uP Y)
  have dL:({ r with units:=Eb ((r.units.getD []).set k { u with au:=qf .i64 (u.au+1) }) }:av).er=aH r.er k { u.er with au:=qf .i64 (u.au+1) }:=by rw[yF rfl];rfl
  simp only[cond_false];by_cases G:u.ax=G0
  .rw[G]at f13 dL ⊢;simp only[f13];exact⟨_,_,rfl,rfl,dL⟩
  .have gy:u.ax=Eh:=by simpa using G
   rw[gy];exact⟨_,_,rfl,rfl,by decide⟩
end Go.Z
namespace Go.Z
open Go Go.Abs Go.W
variable {r:av}{e:GEv}
def j8f (v0:Int):gR->gR
 | .error k=>.error k| .ok s=>.ok { s with day:=v0 }
theorem pe {v0 x y}(h:gT x y):gT (qc x fun v=>Eb (⟨v0,v.1.ay,v.1.ah,v.1.units⟩,v.2)) (j8f v0 y):=by
 obtain⟨r',c,rfl,I⟩:=h
 cases y with
 |error k=>exact⟨_,_,rfl,I⟩|ok s=>exact⟨_,_,rfl,I.1,by rw[<-I.2];rfl⟩
theorem jth (b:GB r)(w:WF r.er)(hc:jb e.er=0)(hu:e.kind≠jI)(iF:∀v∈e.values.getD [],0<=v):gT (f46 r e) (after (qf .i64) r.er e.er):=by
 obtain⟨_,f,Y,eh,en⟩:=Us hc
 have hm:(e.kind,f.1,f.2)∈cz:=by
  unfold z6 at Y
  cases hf:cz.find? (fun x=>decide (x.1=e.er.kind))with
  |none=>rw[hf]at Y;cases Y
  |some x=>
   rw[hf]at Y;have I:=Sd hf;have h3:=Ml hf;have h4:x.1=e.kind:=of_decide_eq_true I
   have h5:x.2=f:=by simpa using Y
   rw[<-h4,<-h5];exact h3
 have gO:∃v0 t,e.values.getD []=v0::t:=by
  have:(e.values.getD []).length=f.2:=en
  cases hv:e.values.getD []with
  |cons v t=>exact⟨v,t,rfl⟩
  |nil=>
   rw[hv]at this;simp only[cz,Rh,Prod.mk.injEq,H5,or_false]at hm;simp only[H9]at this
   rcases hm with h|h|h|h|h|h|h|h|h|h|h|h|h|h|h<;>first|(exfalso;omega)|exact absurd h.1 hu
 obtain⟨v0,t,hv⟩:=gO;unfold f46 after;rw[ia hv,vl0 hv];simp only[qc];by_cases hd:v0<r.day
 .rw[decide_eq_true hd,if_pos (show v0<r.er.day from hd)];exact⟨_,_,rfl,rfl,by decide⟩
 rw[decide_eq_false hd,if_neg (show ¬v0<r.er.day from hd)];have yK:e.kind∈cz.map (·.1):=Hk (f:=(·.1)) hm;simp only[cz,Hf,Ic,Rh,Rq,H5,or_false]at yK
 have nk:∀ {k k':aj},e.kind=k->decide (k=k')=Eh->decide (e.kind=k')=Eh:=by
  intro k k' h I;rw[h];exact I
 have yk:∀ {k:aj},e.kind=k->decide (e.kind=k)=G0:=fun h=>decide_eq_true h;simp only[cond_false];rcases yK with h|h|h|h|h|h|h|h|h|h|h|h|h|h|h
 .have q:=pe (v0:=v0) (jy9 b h hc);rw[show decide (e.kind=([108,111,116]:aj))=G0 from yk h];exact q
 .have q:=pe (v0:=v0) (jhx b h hc);rw[show decide (e.kind=([108,111,116]:aj))=Eh from nk h rfl,show decide (e.kind=([112,114,111,100,117,99,116]:aj))=G0 from yk h];exact q
 .have q:=pe (v0:=v0) (Uu b w (.inl rfl) h hc iF);rw[show decide (e.kind=([108,111,116]:aj))=Eh from nk h rfl,show decide (e.kind=([112,114,111,100,117,99,116]:aj))=Eh from nk h rfl,show decide (e.kind=([98,117,105,108,100]:aj))=Eh from nk h rfl,show decide (e.kind=([110,101,101,100]:aj))=G0 from yk h];exact q
 .have q:=pe (v0:=v0) (Uu b w (.inr (.inl rfl)) h hc iF);rw[show decide (e.kind=([108,111,116]:aj))=Eh from nk h rfl,show decide (e.kind=([112,114,111,100,117,99,116]:aj))=Eh from nk h rfl,show decide (e.kind=([98,117,105,108,100]:aj))=Eh from nk h rfl,show decide (e.kind=([110,101,101,100]:aj))=Eh from nk h rfl,show decide (e.kind=([116,101,115,116]:aj))=G0 from yk h];exact q
 .have q:=pe (v0:=v0) (Uu b w (.inr (.inr rfl)) h hc iF);rw[show decide (e.kind=([108,111,116]:aj))=Eh from nk h rfl,show decide (e.kind=([112,114,111,100,117,99,116]:aj))=Eh from nk h rfl,show decide (e.kind=([98,117,105,108,100]:aj))=Eh from nk h rfl,show decide (e.kind=([110,101,101,100]:aj))=Eh from nk h rfl,show decide (e.kind=([116,101,115,116]:aj))=Eh from nk h rfl,show decide (e.kind=([105,115,115,117,101]:aj))=G0 from yk h];exact q
 .have q:=pe (v0:=v0) (jpr b h hc);rw[show decide (e.kind=([108,111,116]:aj))=Eh from nk h rfl,show decide (e.kind=([112,114,111,100,117,99,116]:aj))=Eh from nk h rfl,show decide (e.kind=([98,117,105,108,100]:aj))=G0 from yk h];exact q
 all_goals try rw[show decide (e.kind=([108,111,116]:aj))=Eh from nk h rfl,show decide (e.kind=([112,114,111,100,117,99,116]:aj))=Eh from nk h rfl,show decide (e.kind=([98,117,105,108,100]:aj))=Eh from nk h rfl,show decide (e.kind=([110,101,101,100]:aj))=Eh from nk h rfl,show decide (e.kind=([116,101,115,116]:aj))=Eh from nk h rfl,show decide (e.kind=([105,115,115,117,101]:aj))=Eh from nk h rfl]
 .rw[show decide (e.kind=([104,111,108,100]:aj))=Eh from nk h rfl,show decide (e.kind=([102,114,101,101]:aj))=Eh from nk h rfl];exact pe (v0:=v0) (FC b w (by simp) h hc)
 .rw[show decide (e.kind=([104,111,108,100]:aj))=Eh from nk h rfl,show decide (e.kind=([102,114,101,101]:aj))=Eh from nk h rfl];exact pe (v0:=v0) (FC b w (by simp) h hc)
 .rw[show decide (e.kind=([104,111,108,100]:aj))=Eh from nk h rfl,show decide (e.kind=([102,114,101,101]:aj))=Eh from nk h rfl];exact pe (v0:=v0) (FC b w (by simp) h hc)
 .rw[show decide (e.kind=([104,111,108,100]:aj))=Eh from nk h rfl,show decide (e.kind=([102,114,101,101]:aj))=Eh from nk h rfl];exact pe (v0:=v0) (FC b w (by simp) h hc)
 .rw[show decide (e.kind=([104,111,108,100]:aj))=G0 from yk h];exact pe (v0:=v0) (jfc b G0 h hc)
 .rw[show decide (e.kind=([104,111,108,100]:aj))=Eh from nk h rfl,show decide (e.kind=([102,114,101,101]:aj))=G0 from yk h];exact pe (v0:=v0) (jfc b Eh h hc)
 .rw[show decide (e.kind=([104,111,108,100]:aj))=Eh from nk h rfl,show decide (e.kind=([102,114,101,101]:aj))=Eh from nk h rfl];exact pe (v0:=v0) (FC b w (by simp) h hc)
 .rw[show decide (e.kind=([104,111,108,100]:aj))=Eh from nk h rfl,show decide (e.kind=([102,114,101,101]:aj))=Eh from nk h rfl];exact pe (v0:=v0) (FC b w (by simp) h hc)
 .exact absurd h hu
end Go.Z
namespace Go.Z
open Go Go.Abs Go.W
def Js (s:aj):Bool:=decide (s≠[])&&decide (s.length<=24)&&uQ 0 s
theorem qsd {s:aj}{i c}(hc:s[i]?=Eb c):uQ i (s.drop i)=(pI i c.toNat&&uQ (i+1) (s.drop (i+1))):=by
 rw[sN hc];rfl
theorem jqf {s:aj}:f109 s=Eb (Js s):=by
 unfold f109 Js;by_cases h0:s=[]
 .subst h0;rfl
 have hl:¬((s.length:Int)=0):=by
  intro h;exact h0 (H3 (by omega))
 by_cases Y:(24:Int)<s.length
 .have I:¬s.length<=24:=by omega
  simp[hl,h0,Y,I]
 .have I:s.length<=24:=by omega
  obtain⟨d,g1,g2⟩:=IY s.length (fun i=>(i:Int)) (yL s) (fun d=>match d with | .inl _=>Eh | .inr _=>G0) (fun i=>uQ i (s.drop i)) ⟨.inr _,by unfold yL;rw[z4];rfl,by rw[Ho (Hd _)];rfl⟩ (fun i hi=>by
   obtain⟨c,hc⟩:∃c,s[i]?=Eb c:=⟨_,He hi⟩;unfold yL;rw[qsd hc,yp hi,cond_true,ja hc,qk];simp only[jfh hi (show s.length<=9223372036854775807 by omega)];unfold pI
   have M:0<=(c.toNat:Int):=by omega
   generalize (c.toNat:Int)=x at M ⊢;by_cases z:i=0
   ·subst z
    rcases kinds x with h|h|h|h|h|h|h|h|h <;>
     simp (disch:=omega) only[decide_eq_true,decide_eq_false,cond_true,cond_false,H2,H0,Ms,Hc,G8,Hy] <;>
     first
      |exact .inl ⟨trivial,trivial⟩
      |exact .inl ⟨rfl,trivial⟩
      |exact .inl ⟨rfl,rfl⟩
      |exact .inr ⟨_,rfl,rfl⟩
   ·rcases kinds x with h|h|h|h|h|h|h|h|h <;>
     simp (disch:=omega) only[decide_eq_true,decide_eq_false,cond_true,cond_false,H2,J5,H0,Ms,Hc,G8,Hy] <;>
     first
      |exact .inl ⟨trivial,trivial⟩
      |exact .inl ⟨rfl,trivial⟩
      |exact .inl ⟨rfl,rfl⟩
      |exact .inr ⟨_,rfl,rfl⟩)
  have g1:bu (yL s) 0=Eb d:=g1;rw[decide_eq_false hl,cond_false,decide_eq_false Y,cond_false,g1,qk];simp only[h0,I,ne_eq,not_false_eq_true,decide_true,G8];rw[Ig]at g2;rw[<-g2];cases d<;>rfl
theorem qxu {s i c}(hc:s[i]?=Eb c):(c.toNat<128/\ql s i=(c.toNat,1))\/(128<=c.toNat/\128<=(ql s i).1):=by
 by_cases h:c.toNat<128
 .exact .inl ⟨h,M0 hc h⟩
 .exact .inr ⟨by omega,TP hc h⟩
theorem q2w {i x}(h:128<=x):pI i x=Eh:=by
 unfold pI;simp (disch:=omega) only[decide_eq_false,Bool.or_self,If]
def j9p:Nat->Option Nat
 |0=>Hp|i+1=>Eb (i+1)
theorem UB {s:aj}:f71 s=Eb (Js s):=by
 unfold f71
 obtain⟨d,g1,g2⟩:=IY s.length j9p (Jt s) (fun d=>match d with | .inl _=>Eh | .inr _=>G0) (fun i=>uQ i (s.drop i)) (by
   rw[Ho (Hd _)]
   cases hn:s.length with
   |zero=>
    refine⟨.inr 0,?_,rfl⟩;show yM s=_;unfold yM;rw[hn];rfl
   |succ n=>
    refine⟨.inr (n+1),?_,rfl⟩;show yN s (n+1)=_;unfold yN
    rw[hn,decide_eq_false (by omega)];rfl) (fun i hi=>by
   obtain⟨c,hc⟩:∃c,s[i]?=Eb c:=⟨_,He hi⟩;rw[qsd hc]
   cases i with
   |zero=>
    show(yM s=_/\_)\/(∃d,yM s=_/\_);unfold yM;rw[decide_eq_true hi,cond_true];rcases qxu hc with⟨bh,he⟩|⟨oJ,Q⟩
    ·rw[he];simp only[]
     have M:0<=(c.toNat:Int):=by omega
     unfold pI;generalize (c.toNat:Int)=x at M ⊢
     rcases kinds x with h|h|h|h|h|h|h|h|h <;>
      simp (disch:=omega) only[decide_eq_true,decide_eq_false,cond_true,cond_false,H2,H0,Ms,Hc,G8,Hy] <;>
      first
       |exact .inl ⟨trivial,trivial⟩
       |exact .inl ⟨rfl,trivial⟩
       |exact .inl ⟨rfl,rfl⟩
       |exact .inr ⟨_,rfl,rfl⟩
    ·rw[q2w (by omega)];generalize hd:ql s 0=dd at Q ⊢
     have jV:(128:Int)<=(dd.1:Int):=by omega
     generalize (dd.1:Int)=x at jV ⊢;simp (disch:=omega) only[decide_eq_true,decide_eq_false,cond_true,cond_false,Hy];exact .inr ⟨_,rfl,rfl⟩
   |succ i=>
    show(yN s (i+1)=_/\_)\/(∃d,yN s (i+1)=_/\_);unfold yN;rw[decide_eq_true hi,cond_true];rcases qxu hc with⟨bh,he⟩|⟨oJ,Q⟩
    ·rw[he];simp only[]
     have M:0<=(c.toNat:Int):=by omega
     unfold pI;generalize (c.toNat:Int)=x at M ⊢;have e0:decide (((i+1:Nat):Int)=0)=Eh:=decide_eq_false (by omega)
     rcases kinds x with h|h|h|h|h|h|h|h|h <;>
      simp (disch:=omega) only[e0,decide_eq_true,decide_eq_false,cond_true,cond_false,H2,J5,H0,Ms,Hc,G8,Hy] <;>
      first
       |exact .inl ⟨trivial,trivial⟩
       |exact .inl ⟨rfl,trivial⟩
       |exact .inl ⟨rfl,rfl⟩
       |exact .inr ⟨_,rfl,rfl⟩
    ·rw[q2w (by omega)];generalize hd:ql s (i+1)=dd at Q ⊢
     have jV:(128:Int)<=(dd.1:Int):=by omega
     have e0:decide (((i+1:Nat):Int)=0)=Eh:=decide_eq_false (by omega);generalize (dd.1:Int)=x at jV ⊢;simp (disch:=omega) only[e0,decide_eq_true,decide_eq_false,cond_true,cond_false,Hy]
     exact .inr ⟨_,rfl,rfl⟩)
 have g1:bu (Jt s) Hp=Eb d:=g1;rw[g1,qk];unfold Js;rw[Ig]at g2
 cases d with
 |inl d=>simp only[]at g2;rw[<-g2];simp
 |inr d=>
  simp only[]at g2;rw[<-g2];by_cases h0:s=[]
  .subst h0;rfl
  .have e:decide ((s.length:Int)<=24)=decide (s.length<=24):=by by_cases h:s.length<=24<;>simp[h]<;>omega
   rw[e];simp[h0]
theorem jan {c}:pI 0 (c.toNat:Int)=qV c:=by
 unfold pI qV
 have h:∀a b:Nat,(decide ((a:Int)<=(c.toNat:Int)/\(c.toNat:Int)<=(b:Int)))=(decide (a<=c.toNat)&&decide (c.toNat<=b)):=by
  intro a b;by_cases Y:a<=c.toNat<;>by_cases I:c.toNat<=b<;>simp[Y,I]<;>omega
 rw[show(65:Int)=((65:Nat):Int)from rfl,show(90:Int)=((90:Nat):Int)from rfl,show(97:Int)=((97:Nat):Int)from rfl,show(122:Int)=((122:Nat):Int)from rfl,h,h];simp
theorem jsk {c i}:pI (i+1) (c.toNat:Int)=(qV c||yO c):=by
 rw[<-jan];unfold pI yO
 have h:(decide ((48:Int)<=(c.toNat:Int)/\(c.toNat:Int)<=(57:Int)))=(decide (48<=c.toNat)&&decide (c.toNat<=57)):=by
  by_cases Y:48<=c.toNat<;>by_cases I:c.toNat<=57<;>simp[Y,I]<;>omega
 have h3:decide ((c.toNat:Int)=95)=decide (c.toNat=95):=by
  by_cases Y:c.toNat=95
  .rw[decide_eq_true Y];exact decide_eq_true (by omega)
  .rw[decide_eq_false Y];exact decide_eq_false (by omega)
 rw[h,h3];simp
theorem q5a:∀ (s:aj) (i:Nat),uQ (i+1) s=s.all fun c=>qV c||yO c
 | [],_=>rfl
 |c::s,i=>by
  show(pI (i+1) c.toNat&&uQ (i+1+1) s)=_;rw[jsk,q5a s (i+1)];rfl
theorem Nq {s}:Js s=Go.W.b6 s:=by
 cases s with
 |nil=>rfl
 |cons c t=>
  show(decide (c::t≠[])&&decide ((c::t).length<=24)&&(pI 0 c.toNat&&uQ 1 t))=(qV c&&t.all (fun c=>qV c||yO c)&&decide ((c::t).length<=24));rw[jan,q5a t 0,show decide (c::t≠[])=G0 from decide_eq_true (by simp)];cases qV c<;>cases t.all (fun c=>qV c||yO c)<;>cases decide ((c::t).length<=24)<;>rfl
variable {e:GEv}
theorem jvc {s}:FD s=Eb (if Go.W.b6 s then 0 else 8):=by
 unfold FD;rw[UB,Nq];simp only[qc,yh];cases Go.W.b6 s<;>rfl
theorem UC {α:Type}{p c}(hc:c≠0):∀l:List α,hZ (l.map fun x=>if p x then 0 else c)=if l.all p then 0 else c
 | []=>rfl
 |x::l=>by
  rw[Hf,Q0]
  cases p x with
  |true=>simp only[if_true,hZ,G8];exact UC hc l|false=>simp[hZ,hc]
theorem ja5 {o}(hl:(o.getD []).length<=SM):f17 o=Eb (hZ (o.getD [])):=by
 cases o with
 |none=>exact iW (l:=[]) (Ma _)|some l=>exact iW hl
theorem js1 {o}(hl:(o.getD []).length<=SM):∃w,f91 o=Eb (jj ((o.getD []).map fun s=>if Go.W.b6 s then 0 else 8),w):=by
 unfold f91;rw[Bg (f:=Ju o) (l:=o.getD []) (g:=fun s=>if Go.W.b6 s then(0:Int)else 8) (q:=FD) hl (fun x _=>jvc) (fun s=>rfl)];exact⟨_,rfl⟩
def sV (n:Int):Bool:=decide (0<=n)&&decide (n<=999999999)
theorem jst {n}:FE n=Eb (if sV n then 0 else 3):=by
 unfold FE;rw[Nh];simp only[qc];unfold sV;by_cases Y:n<0
 .rw[if_pos (Or.inl Y),decide_eq_false (by omega)];rfl
 .by_cases I:999999999<n
  .rw[if_pos (Or.inr I),decide_eq_true (by omega),decide_eq_false (by omega)];rfl
  .rw[if_neg (by omega),decide_eq_true (by omega),decide_eq_true (by omega)];rfl
theorem juc {o}(hl:(o.getD []).length<=SM):∃w,f93 o=Eb (jj ((o.getD []).map fun s=>if sV s then 0 else 3),w):=by
 unfold f93;rw[Bg (f:=Jv o) (l:=o.getD []) (g:=fun s=>if sV s then(0:Int)else 3) (q:=FE) hl (fun x _=>jst) (fun s=>rfl)];exact⟨_,rfl⟩
theorem UD:∀ (k:aj),pE k=Hp/\z6 k=Hp\/∃f,pE k=Eb f/\z6 k=Eb (f.2.1.length,f.2.2.1.toNat)/\0<=f.2.2.1:=by
 intro k;unfold pE z6 iT cz;simp only[Se,List.find?_nil,eq_comm (a:=k)];by_cases Y:nw=k
 .simp[Y]
 by_cases I:nZ=k
 .simp[Y,I]
 by_cases h3:nx=k
 .simp[Y,I,h3]
 by_cases h4:lu=k
 .simp[Y,I,h3,h4]
 by_cases h5:qQ=k
 .simp[Y,I,h3,h4,h5]
 by_cases h6:pC=k
 .simp[Y,I,h3,h4,h5,h6]
 by_cases h7:ny=k
 .simp[Y,I,h3,h4,h5,h6,h7]
 by_cases h8:pD=k
 .simp[Y,I,h3,h4,h5,h6,h7,h8]
 by_cases h9:qR=k
 .simp[Y,I,h3,h4,h5,h6,h7,h8,h9]
 by_cases ep:n9=k
 .simp[Y,I,h3,h4,h5,h6,h7,h8,h9,ep]
 by_cases gA:oT=k
 .simp[Y,I,h3,h4,h5,h6,h7,h8,h9,ep,gA]
 by_cases jL:sP=k
 .simp[Y,I,h3,h4,h5,h6,h7,h8,h9,ep,gA,jL]
 by_cases ib:iJ=k
 .simp[Y,I,h3,h4,h5,h6,h7,h8,h9,ep,gA,jL,ib]
 by_cases jM:xZ=k
 .simp[Y,I,h3,h4,h5,h6,h7,h8,h9,ep,gA,jL,ib,jM]
 by_cases qW:jI=k
 .simp[Y,I,h3,h4,h5,h6,h7,h8,h9,ep,gA,jL,ib,jM,qW]
 .simp[Y,I,h3,h4,h5,h6,h7,h8,h9,ep,gA,jL,ib,jM,qW]
theorem Nr (Y:(e.names.getD []).length<=SM)(I:(e.values.getD []).length<=SM):f24 e=Eb (jb e.er):=by
 obtain⟨w1,g1⟩:=js1 Y;obtain⟨w2,g2⟩:=juc I
 have q1:f17 (jj ((e.names.getD []).map fun s=>if Go.W.b6 s then(0:Int)else 8))=Eb (if(e.names.getD []).all Go.W.b6 then 0 else 8):=by
  rw[ja5 (by rw[j6,G1];exact Y),j6,UC (by decide)]
 have q2:f17 (jj ((e.values.getD []).map fun s=>if sV s then(0:Int)else 3))=Eb (if(e.values.getD []).all sV then 0 else 3):=by
  rw[ja5 (by rw[j6,G1];exact I),j6,UC (by decide)]
 unfold f24;simp only[Nh,yh,qc,g1,g2,q1,q2];rw[iW (by simp[SM])];simp only[];rw[iW (by simp[SM])];unfold jb;rw[show e.er.number=e.number from rfl,show e.er.kind=e.kind from rfl,show e.er.names=e.names.getD []from rfl,show e.er.values=e.values.getD []from rfl,show e.er.text=e.text from rfl,show(fun n=>decide (0<=n)&&decide (n<=999999999))=sV from rfl];by_cases c1:e.number<1\/1000<e.number
 .rw[if_pos c1,if_pos c1];rfl
 rw[if_neg c1,if_neg c1];rcases UD e.kind with⟨c2,dw⟩|⟨f,c2,dw,fj⟩
 .rw[dw];simp only[lP,j0,lO,c2];simp[hZ]
 rw[dw];simp only[lP,j0,lO,c2,Hr,Hb,Eg,if_false];by_cases cS:(e.names.getD []).length≠f.2.1.length\/(e.values.getD []).length≠f.2.2.1.toNat
 .have:(!(decide (((e.names.getD []).length:Int)=(f.2.1.length:Int))&&decide (((e.values.getD []).length:Int)=f.2.2.1)))=G0:=by
   rcases cS with cS|cS
   .rw[decide_eq_false (by omega)];rfl
   .rw[decide_eq_false (p:=((e.values.getD []).length:Int)=f.2.2.1) (by omega),If];rfl
  rw[this,if_pos cS];rfl
 .have:(!(decide (((e.names.getD []).length:Int)=(f.2.1.length:Int))&&decide (((e.values.getD []).length:Int)=f.2.2.1)))=Eh:=by
   rw[decide_eq_true (by omega),decide_eq_true (p:=((e.values.getD []).length:Int)=f.2.2.1) (by omega)];rfl
  rw[this,if_neg cS];simp only[hZ,Eg,if_false,if_true,decide_true,cond_true];cases (e.names.getD []).all Go.W.b6<;>cases (e.values.getD []).all sV<;>by_cases ef:e.text=[]<;>simp[ef]
end Go.Z
namespace Go.Z
open Go Go.Abs Go.W
variable {e:GEv}
theorem jnn:∀ (k:aj),(f108 k=Eb ⟨0,0,Eh⟩/\z6 k=Hp)\/∃a b:Nat,f108 k=Eb ⟨(a:Int),(b:Int),G0⟩/\z6 k=Eb (a,b):=by
 intro k;by_cases Y:k=nw
 .subst Y;exact .inr ⟨2,2,rfl,rfl⟩
 by_cases I:k=nZ
 .subst I;exact .inr ⟨1,1,rfl,rfl⟩
 by_cases h3:k=qQ
 .subst h3;exact .inr ⟨1,1,rfl,rfl⟩
 by_cases h4:k=qR
 .subst h4;exact .inr ⟨1,1,rfl,rfl⟩
 by_cases h5:k=oT
 .subst h5;exact .inr ⟨1,1,rfl,rfl⟩
 by_cases h6:k=sP
 .subst h6;exact .inr ⟨1,1,rfl,rfl⟩
 by_cases h7:k=iJ
 .subst h7;exact .inr ⟨1,1,rfl,rfl⟩
 by_cases h8:k=xZ
 .subst h8;exact .inr ⟨1,1,rfl,rfl⟩
 by_cases h9:k=nx
 .subst h9;exact .inr ⟨2,2,rfl,rfl⟩
 by_cases ep:k=ny
 .subst ep;exact .inr ⟨2,2,rfl,rfl⟩
 by_cases gA:k=pD
 .subst gA;exact .inr ⟨2,2,rfl,rfl⟩
 by_cases jL:k=lu
 .subst jL;exact .inr ⟨2,3,rfl,rfl⟩
 by_cases ib:k=pC
 .subst ib;exact .inr ⟨2,1,rfl,rfl⟩
 by_cases jM:k=n9
 .subst jM;exact .inr ⟨2,1,rfl,rfl⟩
 by_cases qW:k=jI
 .subst qW;exact .inr ⟨0,0,rfl,rfl⟩
 refine .inl ⟨?_,?_⟩
 .unfold f108;simp only[decide_eq_false (p:=k=([108,111,116]:aj)) Y,decide_eq_false (p:=k=([112,114,111,100,117,99,116]:aj)) I,decide_eq_false (p:=k=([105,115,115,117,101]:aj)) h3,decide_eq_false (p:=k=([117,112,100,97,116,101]:aj)) h4,decide_eq_false (p:=k=([104,111,108,100]:aj)) h5,decide_eq_false (p:=k=([102,114,101,101]:aj)) h6,decide_eq_false (p:=k=([115,104,105,112]:aj)) h7,decide_eq_false (p:=k=([99,111,109,112,108,97,105,110]:aj)) h8,decide_eq_false (p:=k=([110,101,101,100]:aj)) h9,decide_eq_false (p:=k=([117,115,101]:aj)) ep,decide_eq_false (p:=k=([109,101,97,115,117,114,101]:aj)) gA,decide_eq_false (p:=k=([116,101,115,116]:aj)) jL,decide_eq_false (p:=k=([98,117,105,108,100]:aj)) ib,decide_eq_false (p:=k=([112,97,105,114]:aj)) jM,decide_eq_false (p:=k=([117,110,100,111]:aj)) qW,cond_false]
 .unfold z6 cz;simp[Se,Hz Y,Hz I,Hz h3,Hz h4,Hz h5,Hz h6,Hz h7,Hz h8,Hz h9,Hz ep,Hz gA,Hz jL,Hz ib,Hz jM,Hz qW]
theorem jlq {s}:f109 s=Eb (Go.W.b6 s):=by rw[jqf,Nq]
theorem q8f {α:Type}{l:List α}{p:α->Bool}{f:Int->Option (Int⊕(Unit⊕Int))}{n}(hn:n=(l.length:Int))(hl:l.length<=SM)
  (dA:f n=Eb (.inr (.inr n))) (hf:∀(i:Nat) x,l[i]?=Eb x->i<l.length->f (i:Int)=Eb (if p x then .inl (qf .i64 ((i:Int)+1))else .inr (.inl ()))):
  ∃d,bu f 0=Eb d/\(match d with | .inl _=>Eh | .inr _=>G0)=l.all p:=by
 subst hn
 obtain⟨d,Y,I⟩:=T4 l f p (fun d=>match d with | .inl _=>Eh | .inr _=>G0) ⟨_,dA,rfl⟩ (fun i x M hi=>by
  have h3:=hf i x M hi
  cases hp:p x with
  |true=>rw[hp,zc (by unfold SM at hl;omega)]at h3;exact .inl ⟨rfl,h3⟩
  |false=>rw[hp]at h3;exact .inr ⟨rfl,_,h3,rfl⟩)
 exact⟨d,Y,I⟩
theorem jt3 (Y:(e.names.getD []).length<=SM)(I:(e.values.getD []).length<=SM):f45 e=Eb (jb e.er):=by
 unfold f45 jb;rw[Ut];simp only[qc];rw[show e.er.number=e.number from rfl,show e.er.kind=e.kind from rfl,show e.er.names=e.names.getD []from rfl,show e.er.values=e.values.getD []from rfl,show e.er.text=e.text from rfl,show(fun n=>decide (0<=n)&&decide (n<=999999999))=sV from rfl];by_cases c1:e.number<1\/1000<e.number
 .rw[decide_eq_true c1,if_pos c1];rfl
 rw[decide_eq_false c1,if_neg c1];simp only[cond_false];rcases jnn e.kind with⟨c2,dw⟩|⟨a,b,c2,dw⟩
 .rw[c2,dw];rfl
 rw[c2,dw];simp only[cond_true];by_cases cS:(e.names.getD []).length=a
 case neg=>rw[decide_eq_false (by omega),if_pos (.inl cS)];rfl
 by_cases ef:(e.values.getD []).length=b
 case neg=>rw[decide_eq_true (by omega),decide_eq_false (p:=((e.values.getD []).length:Int)=(b:Int)) (by omega),if_pos (.inr ef)];rfl
 rw[decide_eq_true (by omega),decide_eq_true (p:=((e.values.getD []).length:Int)=(b:Int)) (by omega),if_neg (by omega)];simp only[cond_true]
 obtain⟨d,g1,g2⟩:=q8f (l:=e.names.getD []) (p:=Go.W.b6) (f:=BA e ⟨(a:Int),(b:Int),G0⟩) (n:=(a:Int)) (by omega) Y (by unfold BA;simp only[z4];rfl) (fun i x M hi=>by
  unfold BA;simp only[show decide ((i:Int)<(a:Int))=G0 from decide_eq_true (by omega),cond_true,qc,ja M,jlq]
  cases Go.W.b6 x<;>rfl)
 obtain⟨d2,g3,g4⟩:=q8f (l:=e.values.getD []) (p:=sV) (f:=BD e ⟨(a:Int),(b:Int),G0⟩) (n:=(b:Int)) (by omega) I (by unfold BD;simp only[z4];rfl) (fun i x M hi=>by
  unfold BD;simp only[show decide ((i:Int)<(b:Int))=G0 from decide_eq_true (by omega),cond_true,qc,ja M,Ut];unfold sV;by_cases k1:x<0
  ·rw[decide_eq_true (Or.inl k1),decide_eq_false (p:=0<=x) (by omega)];rfl
  ·by_cases k2:999999999<x
   ·rw[decide_eq_true (Or.inr k2),decide_eq_false (p:=x<=999999999) (by omega),If];rfl
   ·rw[decide_eq_false (p:=x<0\/999999999<x) (by omega),decide_eq_true (p:=0<=x) (by omega),decide_eq_true (p:=x<=999999999) (by omega)];rfl)
 rw[g1,<-g2,<-g4]
 cases d with
 |inl d=>rfl
 |inr d=>
  simp only[];rw[g3]
  cases d2 with
  |inl d2=>rfl
  |inr d2=>
   by_cases c4:e.text=[]
   .rw[decide_eq_true c4];simp[c4]
   .rw[decide_eq_false c4];simp[c4]
end Go.Z
namespace Go.Z
open Go Go.Abs Go.W
structure SB (n:Nat)(r:bX):Prop where
 L:r.ay.length<=n
 P:r.ah.length<=n
 U:r.units.length<=n
 D:∀p∈r.ah,p.bg.length<=n/\p.bW.aX.length<=n/\p.bW.aO.length<=n/\∀d∈p.bg,d.aX.length<=n/\d.aO.length<=n
 N:∀u∈r.units,u.uses.length<=n/\u.results.length<=n
theorem SB.mono {n m r}(h:SB n r)(hm:n<=m):SB m r:=
 ⟨G7 h.L hm,G7 h.P hm,G7 h.U hm,fun p hp=>⟨G7 (h.D p hp).1 hm,G7 (h.D p hp).2.1 hm,G7 (h.D p hp).2.2.1 hm,fun d hd=>⟨G7 ((h.D p hp).2.2.2 d hd).1 hm,G7 ((h.D p hp).2.2.2 d hd).2 hm⟩⟩,fun u hu=>⟨G7 (h.N u hu).1 hm,G7 (h.N u hu).2 hm⟩⟩
theorem SB.empty:SB 0 ku:=⟨Hd _,Hd _,Hd _,fun p (hp:p∈([]:List wh))=>absurd hp H5,fun u (hu:u∈([]:List cH))=>absurd hu H5⟩
theorem SB.gb {n r}(h:SB n r.er)(hn:n<=BB):GB r:=by
 refine⟨G7 h.L hn,?_,?_,fun p hp=>?_,fun u hu=>?_⟩
 .have:=h.P;rw[x5,G1]at this;exact G7 this hn
 .have:=h.U;rw[wm,G1]at this;exact G7 this hn
 .obtain⟨Y,I,h3,h4⟩:=h.D p.er (by rw[x5];exact Hk hp)
  have yP:(p.bg.getD []).length<=n:=by
   have:((p.bg.getD []).map b9.er).length<=n:=Y;rwa [G1]at this
  refine⟨G7 yP hn,G7 I hn,G7 h3 hn,fun d hd=>?_⟩;obtain⟨h5,h6⟩:=h4 d.er (Hk hd);exact⟨G7 h5 hn,G7 h6 hn⟩
 .obtain⟨Y,I⟩:=h.N u.er (by rw[wm];exact Hk hu);exact⟨G7 Y hn,G7 I hn⟩
theorem SB.bH {n r}(h:SB n r){i p}(hp:p.bg.length<=n/\p.bW.aX.length<=n/\p.bW.aO.length<=n/\∀d∈p.bg,d.aX.length<=n/\d.aO.length<=n):SB n (bH r i p):=
 ⟨h.L,by show(r.ah.set i p).length<=n;rw[Hq];exact h.P,h.U,fun q hq=>by
  rcases sW hq with hq|rfl
  ·exact h.D q hq
  ·exact hp,h.N⟩
theorem SB.aH {n r}(h:SB n r){i u}(hu:u.uses.length<=n/\u.results.length<=n):SB n (aH r i u):=
 ⟨h.L,h.P,by show(r.units.set i u).length<=n;rw[Hq];exact h.U,h.D,fun q hq=>by
  rcases sW hq with hq|rfl
  ·exact h.N q hq
  ·exact hu⟩
theorem SB.cx {n r}(h:SB n r){i x}:SB n (cx r i x):=
 ⟨by show(r.ay.set i x).length<=n;rw[Hq];exact h.L,h.P,h.U,h.D,h.N⟩
theorem q3g {α:Type}{p:α->Bool}{x l n}(h:l.length<=n):(y6 p x l).length<=n+1:=by
 unfold y6;split
 .rw[Hq];omega
 .rw[G4,E4];omega
theorem jdb {w l k x n}(h:l.length<=n):(oc w l k x).length<=n+1:=by
 unfold oc;split
 .split
  .rw[Hq];omega
  .omega
 .rw[G4,E4];omega
theorem jks {w:Int->Int}{n:Nat}{r r' e}(h:SB n r)(ha:apply w r e=.ok r'):SB (n+1) r':=by
 have h':=h.mono (Nat.le_succ n);unfold apply at ha;split at ha
 .unfold oe at ha;split at ha
  .repeat' split at ha
   all_goals first|(cases ha;done)|skip
   cases ha;exact⟨by show(r.ay++[_]).length<=_;rw[G4,E4];have:=h.L;omega,h'.P,h'.U,h'.D,h'.N⟩
  split at ha
  .repeat' split at ha
   all_goals first|(cases ha;done)|skip
   cases ha;refine⟨h'.L,by show(r.ah++[_]).length<=_;rw[G4,E4];have:=h.P;omega,h'.U,fun p hp=>?_,h'.N⟩;rcases Mu.1 hp with hp|hp
   .exact h'.D p hp
   .simp at hp;subst hp;simp
  .split at ha
   .cases ha
   repeat' split at ha
   all_goals first|(cases ha;done)|skip
   cases ha;refine⟨h'.L,h'.P,by show(r.units++[_]).length<=_;rw[G4,E4];have:=h.U;omega,h'.D,fun p hp=>?_⟩;rcases Mu.1 hp with hp|hp
   .exact h'.N p hp
   .simp at hp;subst hp;simp
 split at ha
 .unfold og at ha;split at ha
  .cases ha
  split at ha
  .cases ha
  rename_i p hp;have hD:=h.D p (E9 hp);have oW:=h'.D p (E9 hp)
  repeat' split at ha
  all_goals first|(cases ha;done)|skip
  .cases ha;refine h'.bH ⟨oW.1,?_,oW.2.2.1,oW.2.2.2⟩;show(jJ p.bW.aX _ _).length<=_;unfold jJ;split
   .exact G7 (Ij _ _) oW.2.1
   .exact q3g hD.2.1
  .cases ha;exact h'.bH ⟨oW.1,oW.2.1,q3g hD.2.2.1,oW.2.2.2⟩
  .cases ha;refine h'.bH ⟨by show(p.bg++[_]).length<=_;rw[G4,E4];have:=hD.1;omega,oW.2.1,oW.2.2.1,fun d hd=>?_⟩;rcases Mu.1 hd with hd|hd
   .exact oW.2.2.2 d hd
   .simp at hd;subst hd;exact⟨oW.2.1,oW.2.2.1⟩
 split at ha
 .unfold sT at ha;split at ha
  .cases ha
  split at ha
  .cases ha
  repeat' split at ha
  all_goals first|(cases ha;done)|skip
  all_goals (cases ha;exact h'.cx)
 .unfold oh at ha;split at ha
  .cases ha
  split at ha
  .cases ha
  rename_i u hu;have hN:=h.N u (E9 hu);have qX:=h'.N u (E9 hu);split at ha
  .unfold uD at ha;split at ha
   .cases ha
   split at ha
   .cases ha
   repeat' split at ha
   all_goals first|(cases ha;done)|skip
   cases ha;exact h'.cx.aH ⟨jdb hN.1,qX.2⟩
  split at ha
  .unfold uH at ha;split at ha
   .cases ha
   split at ha
   .cases ha
   rename_i v hv;have hV':=h'.N v (E9 hv)
   repeat' split at ha
   all_goals first|(cases ha;done)|skip
   cases ha;exact(h'.aH (u:={ u with partner:=v.name }) ⟨qX.1,qX.2⟩).aH (u:={ v with partner:=u.name }) ⟨hV'.1,hV'.2⟩
  split at ha
  .repeat' split at ha
   all_goals first|(cases ha;done)|skip
   cases ha;exact h'.aH ⟨qX.1,by show(u.results++[_]).length<=_;rw[G4,E4];have:=hN.2;omega⟩
  split at ha
  .split at ha
   .cases ha
   split at ha
   .cases ha
   split at ha
   .cases ha
   .cases ha;exact h'.aH ⟨qX.1,qX.2⟩
  split at ha
  .split at ha
   .cases ha
   .cases ha;exact h'.aH ⟨qX.1,qX.2⟩
  .split at ha
   .cases ha
   .cases ha;exact h'.aH ⟨qX.1,qX.2⟩
theorem jlt {w n r r' e}(h:SB n r)(ha:after w r e=.ok r'):SB (n+1) r':=by
 unfold after at ha;split at ha
 .cases ha
 split at ha
 .cases ha
 rename_i r1 Y;cases ha;have:=jks h Y;exact⟨this.L,this.P,this.U,this.D,this.N⟩
def HB (h:zz):Prop:=∀(j:Nat) (r:bX),h.2[j]?=Eb r->SB j r
theorem HB.empty:HB ([],[ku]):=by
 intro j r Q
 cases j with
 |zero=>simp at Q;subst Q;exact SB.empty|succ j=>simp at Q
theorem HB.accept {w h h' k e}(o:ic w h)(b:HB h)(ha:Go.W.accept w h k e=.ok h'):HB h':=by
 unfold Go.W.accept at ha;split at ha
 .cases ha
 split at ha
 .split at ha
  .cases ha
  split at ha
  .cases ha
  .cases ha;intro j r Q;simp only[List.getElem?_dropLast]at Q;split at Q
   .exact b j r Q
   .cases Q
 .split at ha
  .cases ha
  .rename_i r' Y;cases ha;intro j r Q;have hn:=o.now;have hlen:=o.len;simp only at Q;by_cases hj:j<h.2.length
   .rw[List.getElem?_append_left hj]at Q;exact b j r Q
   .rw[List.getElem?_append_right (by omega)]at Q
    have Yw:j=h.1.length+1:=by
     cases hd:j-h.2.length with
     |zero=>omega|succ d=>rw[hd]at Q;simp at Q
    subst Yw;rw[hlen,Nat.sub_self]at Q;simp at Q;subst Q;exact jlt (b _ _ hn) Y
end Go.Z
namespace Go.Z
open Go Go.Abs Go.W
def qY (n:Nat)(h:zz):Option HV->Prop
 |none=>h=([],[ku])/\n=0|some v=>v.lc<=v.cs.length/\v.ls<=v.ss.length/\h.1=(v.cs.take v.lc).map GEv.er/\h.2=(v.ss.take v.ls).map av.er/\v.ev.length=n/\v.lc<=n
def UE (n:Nat)(h:zz)(c:Int)(s:Option HV):Except Int zz->Prop
 | .error x=>c=x/\x≠0/\qY n h s| .ok h'=>c=0/\qY (n+1) h' s
theorem UF {α:Type}{xs:List α}{len x}(Y:len<=xs.length)(I:len<=BB):pJ xs len x=Eb (xs.take len++[x]):=by
 unfold pJ;rw[if_pos ⟨Y,by unfold BB at I;omega⟩]
theorem UG {n}(h:n<=BB):qf .i64 ((n:Int)+1)=((n+1:Nat):Int):=zc (by unfold BB at h;omega)
theorem Ns {n}(h:n<=BB)(h0:0<n):qf .i64 ((n:Int)-1)=((n-1:Nat):Int):=by
 obtain⟨m,rfl⟩:∃m,n=m+1:=⟨n-1,by omega⟩;have:=q20 (i:=m) (by unfold BB at h;omega);rw[this];rfl
theorem qvz {α:Type}{l:List α}{k}(h:k<=l.length):(l.take k).dropLast=l.take (k-1):=by
 rw[Il,Hg,List.take_take]
 congr 1;omega
theorem uZ {a b}:f17 (Eb [a,b])=Eb (hZ [a,b]):=iW (by simp[SM])
theorem jl4 {e}(hc:jb e.er=0):∃c s',wE e=Eb (c,s')/\UE 0 ([],[ku]) c s' (Go.W.accept (qf .i64) ([],[ku]) (0+1) e.er):=by
 unfold wE Go.W.accept;rw[show qf .i64 1=1 from rfl,show e.er.number=e.number from rfl,show e.er.kind=e.kind from rfl,show((0:Int)+1)=1 from rfl];by_cases Y:e.number=1
 .rw[decide_eq_true Y,if_neg (fun h=>h Y)];simp only[cond_true];by_cases I:e.kind=jI
  .rw[show decide (e.kind=([117,110,100,111]:aj))=G0 from decide_eq_true I,if_pos I];simp only[cond_true,yh,qc,uZ];exact⟨_,_,rfl,rfl,by decide,rfl,rfl⟩
  .rw[show decide (e.kind=([117,110,100,111]:aj))=Eh from decide_eq_false I,if_neg I];have hw:WF dl.er:=WF.empty 0;obtain⟨r',c,g1,g2⟩:=jge (r:=dl) (SB.empty.gb (r:=dl) (Ma _)) hw hc I;simp only[cond_false,g1,qc];rw[show now ([],[ku])=dl.er from rfl]
   cases ha:after (qf .i64) dl.er e.er with
   |error k=>
    rw[ha]at g2;obtain⟨rfl,g3⟩:=g2;rw[decide_eq_false g3];exact⟨_,_,rfl,rfl,g3,rfl,rfl⟩
   |ok s=>
    rw[ha]at g2;obtain⟨rfl,rfl⟩:=g2;exact⟨_,_,rfl,rfl,Hd _,Hd _,rfl,rfl,rfl,Hd _⟩
 .rw[decide_eq_false Y,if_pos Y];exact⟨_,_,rfl,rfl,by decide,rfl,rfl⟩
theorem joy {v:HV}{n:Nat}{h e}(Q:qY n h (Eb v))(o:ic (qf .i64) h)(b:HB h)(hn:n<BB)(hc:jb e.er=0):∃c s',qZ (Eb v) e=Eb (c,s')/\UE n h c s' (Go.W.accept (qf .i64) h ((n:Int)+1) e.er):=by
 obtain⟨r1,r2,r3,r4,r5,r6⟩:=Q
 have eh:h.1.length=v.lc:=by rw[r3,G1,Hg];omega
 have en:h.2.length=v.ls:=by rw[r4,G1,Hg];omega
 have Nt:v.ls=v.lc+1:=by rw[<-eh,<-en];exact o.len
 have dY:pJ v.ev v.ev.length e=Eb (v.ev++[e]):=by rw[UF (Hd _) (by omega),R7]
 show ∃c s',(qc (wF v e) fun q=>Eb (q.1,Eb q.2))=Eb (c,s')/\_;unfold wF Go.W.accept;rw[show e.er.number=e.number from rfl,show e.er.kind=e.kind from rfl,r5,UG (by omega)];by_cases Y:e.number=((n+1:Nat):Int)
 case neg=>
  rw[decide_eq_false Y,if_pos (show e.number≠(n:Int)+1 from Y)];exact⟨_,_,rfl,rfl,by decide,r1,r2,r3,r4,r5,r6⟩
 rw[decide_eq_true Y,if_neg (show ¬e.number≠(n:Int)+1 from fun hh=>hh Y)];simp only[cond_true];by_cases I:e.kind=jI
 .rw[show decide (e.kind=([117,110,100,111]:aj))=G0 from decide_eq_true I,if_pos I];simp only[cond_true,yh,qc];by_cases h3:v.lc=0
  .have h4:h.1=[]:=H3 (by rw[eh,h3]);rw[h4];simp only[h3,show decide (((0:Nat):Int)=0)=G0 from rfl,show decide ((0:Int)<((0:Nat):Int))=Eh from rfl,cond_false,uZ];exact⟨_,_,rfl,rfl,by decide,r1,r2,r3,r4,r5,r6⟩
  .have gO:0<v.lc:=by omega
   rw[decide_eq_false (show ¬(v.lc:Int)=0 by omega),decide_eq_true (show(0:Int)<(v.lc:Int) by omega),Ns (by omega) gO];obtain⟨x,M⟩:∃x,(v.cs.take v.lc)[v.lc-1]?=Eb x:=⟨_,He (by rw[Hg];omega)⟩
   have ng:max 0 ((v.lc-1:Nat):Int)=((v.lc-1:Nat):Int):=by omega
   have sX:h.1.getLast?=Eb x.er:=by
    rw[Mn,eh,r3,Ha,M];rfl
   rw[ng,sX];simp only[cond_true,ja M,uZ];by_cases h5:x.kind=iJ
   .rw[if_pos (show x.er.kind=iJ from h5),show decide (x.kind=([115,104,105,112]:aj))=G0 from decide_eq_true h5];exact⟨_,_,rfl,rfl,by decide,r1,r2,r3,r4,r5,r6⟩
   .rw[if_neg (show ¬x.er.kind=iJ from h5),show decide (x.kind=([115,104,105,112]:aj))=Eh from decide_eq_false h5];rw[r5]at dY;simp only[Eg,if_false,show decide (hZ [0,0]=0)=G0 from rfl,cond_true];rw[decide_eq_true (show(0:Int)<=((v.lc-1:Nat):Int)/\((v.lc-1:Nat):Int)<=(v.lc:Int)/\v.lc<=v.ls by omega)];simp only[cond_true,dY];have UH:((v.lc-1:Nat):Int).toNat=v.lc-1:=Ih _;refine⟨_,_,rfl,rfl,by show((v.lc-1:Nat):Int).toNat<=v.cs.length;rw[UH];omega,by show v.lc<=v.ss.length;omega,?_,?_,by show(v.ev++[e]).length=_;rw[G4,r5];rfl,by show((v.lc-1:Nat):Int).toNat<=n+1;rw[UH];omega⟩
    .show h.1.dropLast=(v.cs.take ((v.lc-1:Nat):Int).toNat).map GEv.er;rw[UH,r3,<-Rz,qvz r1]
    .show h.2.dropLast=(v.ss.take v.lc).map av.er;rw[r4,<-Rz,qvz r2,Nt];rfl
 .rw[show decide (e.kind=([117,110,100,111]:aj))=Eh from decide_eq_false I,if_neg I];have dE:=o.now;rw[eh,r4,Ha]at dE
  cases Q:(v.ss.take v.ls)[v.lc]? with
  |none=>rw[Q]at dE;cases dE
  |some r=>
   rw[Q]at dE
   have vK:r.er=now h:=by simpa using dE
   have BE:SB v.lc r.er:=b v.lc r.er (by rw[r4,Ha,Q];rfl)
   have hwf:WF r.er:=by rw[vK];exact o.sY
   obtain⟨r',c,g1,g2⟩:=jge (BE.gb (by omega)) hwf hc I
   have hi:qf .i64 ((v.ls:Int)-1)=(v.lc:Int):=by rw[Ns (by omega) (by omega),Nt];rfl
   rw[hi];simp only[cond_false,ja Q,g1,qc];rw[vK]at g2
   cases ha:after (qf .i64) (now h) e.er with
   |error k=>
    rw[ha]at g2;obtain⟨rfl,g3⟩:=g2;rw[decide_eq_false g3];exact⟨_,_,rfl,rfl,g3,r1,r2,r3,r4,r5,r6⟩
   |ok s=>
    rw[ha]at g2;obtain⟨rfl,rfl⟩:=g2;rw[r5]at dY;rw[UF r1 (by omega),UF r2 (by omega)];simp only[dY,show decide ((0:Int)=0)=G0 from rfl,cond_true];refine⟨_,_,rfl,rfl,?_,?_,?_,?_,by show(v.ev++[e]).length=_;rw[G4,r5];rfl,by show v.lc+1<=n+1;omega⟩
    .show v.lc+1<=(v.cs.take v.lc++[e]).length;rw[G4,Hg,E4];omega
    .show v.ls+1<=(v.ss.take v.ls++[r']).length;rw[G4,Hg,E4];omega
    .show h.1++[e.er]=((v.cs.take v.lc++[e]).take (v.lc+1)).map GEv.er;rw[My (by rw[G4,Hg,E4];omega),Hx,r3];rfl
    .show h.2++[r'.er]=((v.ss.take v.ls++[r']).take (v.ls+1)).map av.er;rw[My (by rw[G4,Hg,E4];omega),Hx,r4];rfl
theorem jaj {s n h e}(Q:qY n h s)(o:ic (qf .i64) h)(b:HB h)(hn:n<BB)(hc:jb e.er=0):∃c s',qZ s e=Eb (c,s')/\UE n h c s' (Go.W.accept (qf .i64) h ((n:Int)+1) e.er):=by
 cases s with
 |some v=>exact joy Q o b hn hc
 |none=>
  obtain⟨rfl,rfl⟩:=Q;exact jl4 hc
end Go.Z
namespace Go.Z
open Go Go.Abs Go.W
def gB (e:GEv):Prop:=(e.names.getD []).length<=SM/\(e.values.getD []).length<=SM
theorem jep {α:Type}{o:Option (List α)}(h:(o.getD []).length<=SM):∃q b,(cond o.isNone (Eb (Hp,Eh)) (qc (bB (Eb []) (o.getD [])) fun v2=>Eb (v2,G0)):Option (Option (List α)×Bool))=Eb (q,b)/\q.getD []=o.getD []:=by
 cases o with
 |none=>exact⟨Hp,Eh,rfl,rfl⟩
 |some l=>
  have:bB (Eb []) l=Eb (Eb l):=by
   unfold bB;simp only[Ep,Io];rw[if_pos (by simpa using h)];rfl
  exact⟨Eb l,G0,by simp only[L6,cond_false,Ep,this,qc],rfl⟩
theorem Jw {e:GEv}(h:gB e):∃e',f35 e=Eb e'/\e'.er=e.er/\gB e':=by
 obtain⟨q1,b1,Y,k1⟩:=jep (o:=e.names) h.1;obtain⟨q2,b2,I,k2⟩:=jep (o:=e.values) h.2;refine⟨⟨e.number,e.kind,q1,q2,e.text⟩,?_,?_,?_⟩
 .unfold f35;rw[show f86 e.names=Eb (q1,b1)from Y,show f105 e.values=Eb (q2,b2)from I];cases b1<;>cases b2<;>rfl
 .show cf.mk _ _ _ _ _=cf.mk _ _ _ _ _;simp only[k1,k2]
 .exact⟨by show(q1.getD []).length<=_;rw[k1];exact h.1,by show(q2.getD []).length<=_;rw[k2];exact h.2⟩
def j93 (n:Nat):Except (Int×Int) zz->(Int×Int×Option HV)⊕(Int×Option HV)->Prop
 | .error x,d=>∃s,d=.inl (x.1,x.2,s)/\x.2≠0| .ok h,d=>∃o,d=.inr ((n:Int),o)/\qY n h o/\ic (qf .i64) h/\HB h
theorem jg2 {l}(hb:∀e∈l.getD [],gB e)(hl:(l.getD []).length<=BB):∀(m:List GEv) (i:Nat) (h:zz) (s:Option HV),(l.getD []).drop i=m->i<=(l.getD []).length->qY i h s->ic (qf .i64) h->HB h->∃d,bu (pf l) ((i:Int),s)=Eb d/\j93 (l.getD []).length (zy (qf .i64) i h (m.map GEv.er)) d
 | [],i,h,s,hm,hi,Q,o,b=>by
  have he:i=(l.getD []).length:=by
   have:=Oz.1 hm;omega
  subst he;refine⟨.inr (((l.getD []).length:Int),s),zf ?_,s,rfl,Q,o,b⟩;unfold pf;rw[z4];rfl
 |e::m,i,h,s,hm,hi,Q,o,b=>by
  have M:(l.getD [])[i]?=Eb e:=by
   have:=congrArg List.head? hm;rwa [Sf]at this
  have bh:i<(l.getD []).length:=(G5.1 M).1
  have yK:(l.getD []).drop (i+1)=m:=by rw[sN M]at hm;exact(List.cons.inj hm).2
  have u0:=hb e (E9 M);have hw:qf .i64 ((i:Int)+1)=((i+1:Nat):Int):=UG (by omega)
  have cr:pf l ((i:Int),s)=cond (decide (jb e.er=0)) (qc (f35 e) fun e2=>qc (qZ s e2) fun q=>cond (decide (q.1=0)) (Eb (.inl (((i+1:Nat):Int),q.2))) (Eb (.inr (.inl (((i+1:Nat):Int),q.1,q.2))))) (Eb (.inr (.inl (((i+1:Nat):Int),jb e.er,s)))):=by
   unfold pf;simp only[yp bh,cond_true,ja M,qc,Nr u0.1 u0.2,hw]
  rw[Hf];simp only[zy];by_cases hc:jb e.er=0
  case neg=>
   rw[if_pos hc];refine⟨.inl (((i+1:Nat):Int),jb e.er,s),zf ?_,s,rfl,hc⟩;rw[cr,decide_eq_false hc];rfl
  rw[if_neg (fun h=>h hc)];obtain⟨e',g1,g2,g3⟩:=Jw u0;obtain⟨c,s',k1,k2⟩:=jaj (e:=e') Q o b (by omega) (by rw[g2];exact hc);rw[g2]at k2;rw[decide_eq_true hc,cond_true,g1]at cr;simp only[qc,k1]at cr
  cases ha:Go.W.accept (qf .i64) h ((i:Int)+1) e.er with
  |error x=>
   rw[ha]at k2;obtain⟨rfl,k3,k4⟩:=k2;rw[decide_eq_false k3]at cr;exact⟨.inl (((i+1:Nat):Int),c,s'),zf cr,s',rfl,k3⟩
  |ok h'=>
   rw[ha]at k2;obtain⟨rfl,k4⟩:=k2;rw[decide_eq_true (rfl:(0:Int)=0)]at cr;obtain⟨d,d1,d2⟩:=jg2 hb hl m (i+1) h' s' yK bh k4 (o.accept hc ha) (b.accept o ha);exact⟨d,by rw[kc cr];exact d1,d2⟩
def j7d (n:Nat):Except (Int×Int) zz->(Int×Int)⊕Option HV->Prop
 | .error x,d=>d=.inl x/\x.2≠0| .ok h,d=>∃o,d=.inr o/\qY n h o/\ic (qf .i64) h/\HB h/\n<=1000
theorem jf3 {l}(hb:∀e∈l.getD [],gB e):∃d,f33 l=Eb d/\j7d (l.getD []).length (run (qf .i64) ((l.getD []).map GEv.er)) d:=by
 unfold f33 run;rw[G1];by_cases h:1000<(l.getD []).length
 .rw[decide_eq_true (by omega),if_pos h];exact⟨_,rfl,rfl,by decide⟩
 .rw[decide_eq_false (by omega),if_neg h,cond_false];obtain⟨d,d1,d2⟩:=jg2 hb (by unfold BB;omega) (l.getD []) 0 ([],[ku]) Hp rfl (Ma _) ⟨rfl,rfl⟩ ic.empty HB.empty;rw[show(0:Int)=((0:Nat):Int)from rfl,d1]
  cases Q:zy (qf .i64) 0 ([],[ku]) ((l.getD []).map GEv.er)with
  |error x=>
   rw[Q]at d2;obtain⟨s,rfl,k⟩:=d2;exact⟨_,rfl,rfl,k⟩
  |ok h'=>
   rw[Q]at d2;obtain⟨o,rfl,k1,k2,k3⟩:=d2;exact⟨_,rfl,o,rfl,k1,k2,k3,by omega⟩
theorem q9r {n h o}(Q:qY n h o)(k:ic (qf .i64) h)(hn:n<=1000):∃r,Nu o=Eb r/\r.er=now h:=by
 cases o with
 |none=>
  obtain⟨rfl,rfl⟩:=Q;exact⟨dl,rfl,rfl⟩
 |some v=>
  obtain⟨r1,r2,r3,r4,r5,r6⟩:=Q
  have eh:h.1.length=v.lc:=by rw[r3,G1,Hg];omega
  have en:h.2.length=v.ls:=by rw[r4,G1,Hg];omega
  have Nt:v.ls=v.lc+1:=by rw[<-eh,<-en];exact k.len
  have hi:qf .i64 ((v.ls:Int)-1)=(v.lc:Int):=by rw[Ns (by unfold BB;omega) (by omega),Nt];rfl
  have dE:=k.now;rw[eh,r4,Ha]at dE
  cases hq:(v.ss.take v.ls)[v.lc]? with
  |none=>rw[hq]at dE;cases dE
  |some r=>
   rw[hq]at dE;exact⟨r,by show qo (v.ss.take v.ls) (qf .i64 ((v.ls:Int)-1))=Eb r;rw[hi];exact ja hq,by simpa using dE⟩
def jmy:Except (Int×Int) zz->bX×Int×Int
 | .error x=>(ku,x.1,x.2)| .ok h=>(now h,0,0)
theorem jfs {l}(hb:∀e∈l.getD [],gB e):∃r,f13 l=Eb r/\(r.1.er,r.2)=jmy (run (qf .i64) ((l.getD []).map GEv.er)):=by
 obtain⟨d,d1,d2⟩:=jf3 hb;unfold f13;rw[d1]
 cases Q:run (qf .i64) ((l.getD []).map GEv.er)with
 |error x=>
  rw[Q]at d2;obtain⟨rfl,k⟩:=d2;refine⟨(dl,x.1,x.2),?_,rfl⟩;simp only[qc];rw[decide_eq_false k];rfl
 |ok h=>
  rw[Q]at d2;obtain⟨o,rfl,k1,k2,k3,k4⟩:=d2;obtain⟨r,q1,q2⟩:=q9r k1 k2 k4;refine⟨(r,0,0),?_,?_⟩
  .simp only[qc,q1]
  .rw[q2];rfl
end Go.Z
namespace Go.Z
open Go Go.Abs Go.W
theorem UI {α:Type}{o:Option (List α)}{k}(h:k<=(o.getD []).length):∃q,mH o Hp (Eb (k:Int))=Eb q/\q.getD []=(o.getD []).take k:=by
 have hc:jN (o.getD []) Hp (Eb (k:Int))=Eb ((o.getD []).take k):=by
  unfold jN
  have Y:mL (o.getD []).length (o.getD []).length (Eb (k:Int))=Eb k:=by
   unfold mL;simp only[];rw[if_pos ⟨by omega,by omega⟩,Ih]
  rw[Y];rfl
 unfold mH;rw[hc]
 cases o with
 |none=>exact⟨Hp,rfl,by simp⟩|some l=>exact⟨_,rfl,rfl⟩
theorem jag {α:Type}{o:Option (List α)}{x}(h:(o.getD []).length<SM):∃q,bB (Eb []) (o.getD [])=Eb (Eb (o.getD []))/\bB (Eb (o.getD [])) [x]=Eb q/\q.getD []=o.getD []++[x]:=by
 refine⟨Eb (o.getD []++[x]),?_,?_,rfl⟩
 .unfold bB;rw[if_pos (by simp only[Ep,H9];unfold SM at h;omega)];rfl
 .unfold bB;rw[if_pos (by simp only[Ep,E4];unfold SM at h;omega)];rfl
theorem jg3 {e:GEv}(hc:jb e.er=0):∀v∈e.values.getD [],0<=v:=by
 intro v hv;unfold jb at hc;split at hc
 .simp at hc
 split at hc
 .simp at hc
 split at hc
 .simp at hc
 split at hc
 .simp at hc
 split at hc
 .simp at hc
 rename_i h;simp only[Bool.not_eq_true',Bool.not_eq_false]at h;have:=List.all_eq_true.1 h v hv;simp at this;exact this.1
def UJ (i:Nat)(h:zz)(s:ak GEv×ak av):Prop:=h.1=(s.1.getD []).map GEv.er/\h.2=(s.2.getD []).map av.er/\h.1.length<=i
def UK (n:Nat):Except (Int×Int) zz->(Int×Int×Int×(ak ji)×(ak bm)×(ak bp))⊕((ak GEv)×Bool×(ak av)×Bool×Int)->Prop
 | .error x,d=>∃s,d=.inl (x.1,x.2,s)/\x.2≠0| .ok h,d=>∃s w1 w2,d=.inr (s.1,w1,s.2,w2,(n:Int))/\UJ n h s/\ic (qf .i64) h/\HB h
theorem je9 {l:ak GEv}(hb:∀e∈l.getD [],gB e)(hl:(l.getD []).length<=BB):∀(m:List GEv) (i:Nat) (h:zz) (s:ak GEv×ak av) (w1 w2:Bool),(l.getD []).drop i=m->i<=(l.getD []).length->UJ i h s->ic (qf .i64) h->HB h->∃d,bu (pK l) (s.1,s.2,(i:Int),w1,w2)=Eb d/\UK (l.getD []).length (zy (qf .i64) i h (m.map GEv.er)) d
 | [],i,h,s,w1,w2,hm,hi,Q,o,b=>by
  have he:i=(l.getD []).length:=by
   have:=Oz.1 hm;omega
  subst he;refine⟨.inr (s.1,w1,s.2,w2,((l.getD []).length:Int)),zf ?_,s,w1,w2,rfl,Q,o,b⟩;unfold pK;rw[z4];rfl
 |e::m,i,h,s,w1,w2,hm,hi,Q,o,b=>by
  have M:(l.getD [])[i]?=Eb e:=by
   have:=congrArg List.head? hm;rwa [Sf]at this
  have bh:i<(l.getD []).length:=(G5.1 M).1
  have yK:(l.getD []).drop (i+1)=m:=by rw[sN M]at hm;exact(List.cons.inj hm).2
  have u0:=hb e (E9 M);have hw:qf .i64 ((i:Int)+1)=((i+1:Nat):Int):=UG (by omega);obtain⟨r1,r2,r3⟩:=Q
  have eh:h.1.length=(s.1.getD []).length:=by rw[r1,G1]
  have en:h.2.length=(s.2.getD []).length:=by rw[r2,G1]
  have hlen:=o.len;rw[Hf];simp only[zy];obtain⟨F,hF⟩:∃F,pK l (s.1,s.2,(i:Int),w1,w2)=F:=⟨_,rfl⟩;have hG:=hF;unfold pK at hG;simp only[yp bh,cond_true,ja M,qc,jt3 u0.1 u0.2,hw]at hG;subst hG;by_cases hc:jb e.er=0
  case neg=>
   rw[decide_eq_false hc,cond_false]at hF;rw[if_pos hc];exact⟨_,zf hF,_,rfl,hc⟩
  rw[if_neg (fun h=>h hc)];rw[decide_eq_true hc,cond_true]at hF
  have wG:∀(h':zz) (q:ak GEv×ak av) (v1 v2:Bool),pK l (s.1,s.2,(i:Int),w1,w2)=Eb (.inl (q.1,q.2,((i+1:Nat):Int),v1,v2))->Go.W.accept (qf .i64) h ((i:Int)+1) e.er=.ok h'->UJ (i+1) h' q->∃d,bu (pK l) (s.1,s.2,(i:Int),w1,w2)=Eb d/\UK (l.getD []).length (match Go.W.accept (qf .i64) h ((i:Int)+1) e.er with
    | .error x=>.error ((i:Int)+1,x)
    | .ok h'=>zy (qf .i64) (i+1) h' (m.map GEv.er)) d:=by
   intro h' q v1 v2 g1 g2 g3;obtain⟨d,d1,d2⟩:=je9 hb hl m (i+1) h' q v1 v2 yK bh g3 (o.accept hc g2) (b.accept o g2);rw[g2];exact⟨d,by rw[kc g1];exact d1,d2⟩
  have wH:∀(x:Int) (q),pK l (s.1,s.2,(i:Int),w1,w2)=Eb (.inr (.inl (((i+1:Nat):Int),x,q)))->Go.W.accept (qf .i64) h ((i:Int)+1) e.er=.error x->x≠0->∃d,bu (pK l) (s.1,s.2,(i:Int),w1,w2)=Eb d/\UK (l.getD []).length (match Go.W.accept (qf .i64) h ((i:Int)+1) e.er with
    | .error x=>.error ((i:Int)+1,x)
    | .ok h'=>zy (qf .i64) (i+1) h' (m.map GEv.er)) d:=by
   intro x q g1 g2 g3;rw[g2];exact⟨_,zf g1,q,rfl,g3⟩
  have hA:∀y,Go.W.accept (qf .i64) h ((i:Int)+1) e.er=y->Go.W.accept (qf .i64) h ((i:Int)+1) e.er=y:=fun _ h=>h;by_cases Y:e.number=((i+1:Nat):Int)
  case neg=>
   rw[decide_eq_false Y]at hF;refine wH 11 _ hF ?_ (by decide);unfold Go.W.accept;rw[if_pos (show e.er.number≠(i:Int)+1 from Y)]
  rw[decide_eq_true Y,cond_true]at hF;have hn1:¬e.er.number≠(i:Int)+1:=fun hh=>hh Y;by_cases I:e.kind=jI
  .rw[show decide (e.kind=([117,110,100,111]:aj))=G0 from decide_eq_true I,cond_true]at hF
   have ha:Go.W.accept (qf .i64) h ((i:Int)+1) e.er=(match h.1.getLast? with
     |none=>.error 12
     |some c=>if c.kind=iJ then .error 19 else .ok (h.1.dropLast,h.2.dropLast)):=by
    unfold Go.W.accept;rw[if_neg hn1,if_pos (show e.er.kind=jI from I)];cases h.1.getLast?<;>rfl
   by_cases h3:(s.1.getD []).length=0
   .rw[decide_eq_true (by omega),cond_true]at hF;refine wH 12 _ hF ?_ (by decide);rw[ha,show h.1=[]from H3 (by omega)];rfl
   .rw[decide_eq_false (by omega),cond_false,Ns (by omega) (by omega)]at hF;obtain⟨x,M⟩:∃x,(s.1.getD [])[(s.1.getD []).length-1]?=Eb x:=⟨_,He (by omega)⟩
    have sX:h.1.getLast?=Eb x.er:=by
     rw[Mn,eh,r1,Ha,M];rfl
    rw[sX]at ha;simp only[ja M]at hF;by_cases h5:x.kind=iJ
    .rw[show decide (x.kind=([115,104,105,112]:aj))=G0 from decide_eq_true h5,cond_true]at hF;refine wH 19 _ hF ?_ (by decide);rw[ha];exact if_pos (show x.er.kind=iJ from h5)
    .rw[show decide (x.kind=([115,104,105,112]:aj))=Eh from decide_eq_false h5,cond_false]at hF;obtain⟨q1,c1,c2⟩:=UI (o:=s.1) (k:=(s.1.getD []).length-1) (by omega);obtain⟨q2,dw,fj⟩:=UI (o:=s.2) (k:=(s.1.getD []).length) (by omega);simp only[c1,dw]at hF;refine wG (h.1.dropLast,h.2.dropLast) (q1,q2) _ _ hF ?_ ⟨?_,?_,?_⟩
     .rw[ha];exact if_neg (show ¬x.er.kind=iJ from h5)
     .show h.1.dropLast=_;rw[c2,Il,eh,r1,Sl]
     .show h.2.dropLast=_;rw[fj,Il,r2,Sl,<-r2,hlen,eh];rfl
     .show h.1.dropLast.length<=_;rw[List.length_dropLast];omega
  .rw[show decide (e.kind=([117,110,100,111]:aj))=Eh from decide_eq_false I,cond_false]at hF
   have ha:Go.W.accept (qf .i64) h ((i:Int)+1) e.er=(match after (qf .i64) (now h) e.er with
     | .error x=>.error x
     | .ok r=>.ok (h.1++[e.er],h.2++[r])):=by
    unfold Go.W.accept;rw[if_neg hn1,if_neg (show ¬e.er.kind=jI from I)];cases after (qf .i64) (now h) e.er<;>rfl
   have dE:=o.now;rw[eh,r2,Ha]at dE
   cases hq:(s.2.getD [])[(s.1.getD []).length]? with
   |none=>rw[hq]at dE;cases dE
   |some r=>
    rw[hq]at dE
    have vK:r.er=now h:=by simpa using dE
    have BE:SB (s.1.getD []).length r.er:=b _ r.er (by rw[r2,Ha,hq];rfl);obtain⟨r',c,g1,g2⟩:=jth (e:=e) (BE.gb (by omega)) (by rw[vK];exact o.sY) hc I (jg3 hc);simp only[ja hq,g1]at hF;rw[vK]at g2
    cases hat:after (qf .i64) (now h) e.er with
    |error k=>
     rw[hat]at g2 ha;obtain⟨rfl,g3⟩:=g2;rw[decide_eq_false g3,cond_false]at hF;exact wH _ _ hF ha g3
    |ok t=>
     rw[hat]at g2 ha;obtain⟨rfl,rfl⟩:=g2;obtain⟨q1,c1,c2,dw⟩:=jag (o:=s.1) (x:=e) (by unfold BB at hl;unfold SM;omega);obtain⟨q2,fj,cS,ef⟩:=jag (o:=s.2) (x:=r') (by unfold BB at hl;unfold SM;omega);rw[decide_eq_true (rfl:(0:Int)=0),cond_true]at hF;simp only[c1,c2,fj,cS]at hF;refine wG _ (q1,q2) _ _ hF ha ⟨?_,?_,?_⟩
     .show h.1++[e.er]=_;rw[dw,r1,Hx];rfl
     .show h.2++[r'.er]=_;rw[ef,r2,Hx];rfl
     .show(h.1++[e.er]).length<=_;rw[G4,E4];omega
def j56:Except (Int×Int) zz->ak GEv×av×Int×Int->Prop
 | .error x,d=>d=(Hp,⟨0,Hp,Hp,Hp⟩,x.1,x.2)/\x.2≠0| .ok h,d=>∃s r,d=(s,r,0,0)/\h.1=(s.getD []).map GEv.er/\r.er=now h/\ic (qf .i64) h/\HB h/\h.1.length<=1000
theorem jup {l}(hb:∀e∈l.getD [],gB e):∃d,f15 l=Eb d/\j56 (run (qf .i64) ((l.getD []).map GEv.er)) d:=by
 unfold f15 run;rw[G1];by_cases h:1000<(l.getD []).length
 .rw[decide_eq_true (by omega),if_pos h];exact⟨_,rfl,rfl,by decide⟩
 .rw[decide_eq_false (by omega),if_neg h,cond_false];obtain⟨d,d1,d2⟩:=je9 hb (by unfold BB;omega) (l.getD []) 0 ([],[ku]) (Hp,Eb [⟨0,Hp,Hp,Hp⟩]) Eh G0 rfl (Ma _) ⟨rfl,rfl,Ma _⟩ ic.empty HB.empty;have d1':bu (pK l) (Hp,Eb [⟨0,Hp,Hp,Hp⟩],0,Eh,G0)=Eb d:=d1;rw[d1']
  cases Q:zy (qf .i64) 0 ([],[ku]) ((l.getD []).map GEv.er)with
  |error x=>
   rw[Q]at d2;obtain⟨s,rfl,k⟩:=d2;exact⟨_,rfl,rfl,k⟩
  |ok h'=>
   rw[Q]at d2;obtain⟨s,w1,w2,rfl,⟨k1,k2,k3⟩,k4,k5⟩:=d2;have dE:=k4.now;rw[k2,Ha,k1,G1]at dE
   cases hq:(s.2.getD [])[(s.1.getD []).length]? with
   |none=>rw[hq]at dE;cases dE
   |some r=>
    rw[hq]at dE;refine⟨(s.1,r,0,0),?_,s.1,r,rfl,k1,by simpa using dE,k4,k5,by omega⟩;simp only[qc,ja hq]
theorem j1w {l}(hb:∀e∈l.getD [],gB e):∃r,f6 l=Eb r/\(r.1.er,r.2)=jmy (run (qf .i64) ((l.getD []).map GEv.er)):=by
 obtain⟨d,d1,d2⟩:=jup hb;unfold f6;rw[d1];refine⟨_,rfl,?_⟩
 cases Q:run (qf .i64) ((l.getD []).map GEv.er)with
 |error x=>
  rw[Q]at d2;obtain⟨rfl,k⟩:=d2;rfl
 |ok h=>
  rw[Q]at d2;obtain⟨s,r,rfl,k1,k2,k3⟩:=d2;show(r.er,((0:Int),(0:Int)))=_;rw[k2];rfl
end Go.Z
namespace Go.Z
open Go Go.Abs Go.W
theorem j0y {l n}(hn:n<=1000):∃b,f4 l (n:Int)=Eb b/\(b=G0->(l.getD []).length<=n/\∀e∈l.getD [],gB e):=by
 unfold f4;by_cases h:n<(l.getD []).length
 .rw[decide_eq_true (by omega)];exact⟨Eh,rfl,fun h=>by cases h⟩
 .rw[decide_eq_false (by omega),cond_false]
  rcases q91 (l.getD []) (BF l) (fun _ e=>gB e) (by unfold BF;rw[z4];rfl) (fun i x M=>by
   have hi:i<(l.getD []).length:=(G5.1 M).1;unfold BF;simp only[yp hi,cond_true,ja M,qc];by_cases Y:40<(x.kind.length:Int)
   ·rw[decide_eq_true Y];exact .inr ⟨_,rfl⟩
   rw[decide_eq_false Y,cond_false];by_cases I:6<((x.names.getD []).length:Int)
   ·rw[decide_eq_true I];exact .inr ⟨_,rfl⟩
   rw[decide_eq_false I,cond_false];by_cases h3:8<((x.values.getD []).length:Int)
   ·rw[decide_eq_true h3];exact .inr ⟨_,rfl⟩
   rw[decide_eq_false h3,cond_false];by_cases h4:200<(x.text.length:Int)
   ·rw[decide_eq_true h4];exact .inr ⟨_,rfl⟩
   rw[decide_eq_false h4,cond_false];have hb:gB x:=⟨by unfold SM;omega,by unfold SM;omega⟩
   rcases q91 (x.names.getD []) (BG l (i:Int)) (fun _ _=>True) (by unfold BG;simp only[ja M,qc];rw[z4];rfl) (fun j y hy=>by
    have hj:j<(x.names.getD []).length:=(G5.1 hy).1;unfold BG;simp only[ja M,qc,yp hj,cond_true,ja hy];by_cases h5:40<(y.length:Int)
    ·rw[decide_eq_true h5];exact .inr ⟨_,rfl⟩
    rw[decide_eq_false h5,cond_false,zc (by omega)]
    exact .inl ⟨rfl,trivial⟩)with⟨e,he⟩|⟨he,_⟩
   ·rw[he];exact .inr ⟨_,rfl⟩
   ·rw[he];refine .inl ⟨?_,hb⟩;simp only[]
    rw[zc (by omega)])with⟨e,he⟩|⟨he,hall⟩
  .rw[he];exact⟨Eh,rfl,fun h=>by cases h⟩
  .rw[he];refine⟨G0,rfl,fun _=>⟨by omega,fun e hm=>?_⟩⟩;obtain⟨i,hi⟩:=List.getElem?_of_mem hm;exact hall i e hi
theorem ob {α β:Type}{x:α}{f:α->Option β}:qc (Eb x) f=f x:=rfl
end Go.Z
namespace Go.Z
open Go Go.Abs Go.W
variable {r:av}{u:bp}
theorem je3 (hl:(u.uses.getD []).length<=SM):∃w,f50 u=Eb (jj (u.er.uses.map (·.k)),w):=by
 unfold f50 f119;rw[Bg (f:=Jx u.uses) (l:=u.uses.getD []) (g:=fun x:bD=>x.k) (q:=f120) hl (fun x _=>rfl) (fun s=>rfl)];exact⟨_,rfl⟩
theorem UL {a:ak aj}{n:aj}(hl:(a.getD []).length<=SM):f69 a n=Eb ((a.getD []).any fun x=>decide (n=x)):=by
 have h:f131 a n=Eb (ei ((a.getD []).findIdx? fun x=>decide (n=x))):=nA (p:=fun x=>decide (n=x)) hl fun i=>rfl;unfold f69;rw[h,ob,wu,cA]
theorem jpb {n:aj}(hl:(u.uses.getD []).length<=SM):f121 u n=Eb (u9 u.er n):=by
 obtain⟨w,h⟩:=je3 hl;unfold f121;rw[h,ob,UL (by rw[j6,G1];exact hl),ob,j6,List.any_map];unfold u9
 congr 2
 funext x;by_cases e:x.k=n<;>simp[e,Hz,eq_comm]
def wI (S:bX)(n:aj):List aj:=(S.units.filter fun u=>u9 u n).map (·.name)
theorem jmg {n}:wI r.er n=((r.units.getD []).filter fun u=>u9 u.er n).map (·.name):=by
 unfold wI;rw[wm,List.filter_map,List.map_map];rfl
theorem jv0 {n:aj}(b:GB r):∃w,f52 r n=Eb (jj (wI r.er n),w):=by
 have Y:f62 r.units n=Eb (jj ((r.units.getD []).filter fun u=>u9 u.er n),fR ((r.units.getD []).filter fun u=>u9 u.er n)):=by
  unfold f62;rw[Fq (f:=Jy r.units n) (l:=r.units.getD []) (p:=fun u=>u9 u.er n) (q:=fun u=>f121 u n) (jl b.U) (fun x M=>jpb (jl (b.N x M).1)) (fun s=>rfl)];rfl
 have I:f61 (jj ((r.units.getD []).filter fun u=>u9 u.er n))=Eb (jj (wI r.er n),fR (wI r.er n)):=by
  unfold f61;rw[Bg (f:=FF (jj ((r.units.getD []).filter fun u=>u9 u.er n))) (l:=((jj ((r.units.getD []).filter fun u=>u9 u.er n)).getD [])) (g:=fun u:bp=>u.name) (q:=f64) (by rw[j6];exact qyg (jl b.U)) (fun x _=>rfl) (fun s=>rfl),j6,jmg];rfl
 unfold f52;rw[Y,ob,I];exact⟨_,rfl⟩
def BH (S:bX)(k:aj):Int:=S.ay.foldl (fun n x=>if decide (x.kind=k)&&!x.held then qf .i64 (n+x.left)else n) 0
theorem js8 {k}(b:GB r):f56 r k=Eb (BH r.er k):=by
 unfold f56 BH;have hl:=jl b.L
 have:=Fp (r.ay.getD []) (yQ r k) (fun i (c:Int)=>(c,(i:Int))) (fun n x=>if decide (x.kind=k)&&!x.held then qf .i64 (n+x.left)else n) (fun c=>(c,((r.ay.getD []).length:Int))) 0 (fun c=>by unfold yQ;simp only[z4];rfl)
  (fun i c x M hi=>by
   unfold yQ;simp only[yp hi,cond_true,qc,ja M];rw[zc (by unfold SM at hl;omega)]
   cases decide (x.kind=k)<;>cases x.held<;>rfl)
 have h:bu (yQ r k) (0,0)=_:=this;rw[h];rfl
end Go.Z
namespace Go.Z
open Go Go.Abs Go.W
theorem jph {a b:Int}:f17 (Eb [a,b])=Eb (hZ [a,b]):=iW (by simp[SM])
end Go.Z
end
