/- Chapter 10, plain. -/
import Derived.Test.YtlhfdilpecnjeaaGreatDoorW12
set_option linter.all false
set_option maxRecDepth 100000
noncomputable section
open Option renaming some->Gb,getD_some->Hb,none->I5,isSome_some->I9,any_some->Ja,isSome_iff_exists->Ju,bind_some->Jz,isNone_some->Lu
open Bool renaming false_eq_true->Gd,false->Ha,true->H2,true_and->Ik,not_true->Ir,and_true->Iu,false_and->Jb,false_or->Jf,or_false->Jg,and_false->Jw,or_true->Lm,not_false->Lq,not_eq_true->Oe,true_or->Oh,and_eq_true->Us,and_self->Vc,not_and->Vf,not_not->Vg
open List renaming length_singleton->Hc,mem_of_getElem?->Hq,length_map->If,length_append->Ig,getElem?_eq_some_iff->Ii,getElem?_map->Io,getElem?_eq_getElem->Ip,map_cons->Iy,length_take->Iz,mem_map_of_mem->I0,drop_eq_nil_of_le->I1,map_append->I6,length_set->I7,eq_nil_of_length_eq_zero->Ji,map_nil->Jj,length_cons->Jm,not_mem_nil->Jn,any_cons->Jo,foldl_cons->Jr,length_nil->Js,map_set->Jv,drop_zero->Jx,length_filter_le->J0,dropLast_eq_take->J1,nil_append->J2,mem_append->Ld,flatMap_cons->N3,all_cons->N6,mem_of_find?_eq_some->N8,getLast?_eq_getElem?->Od,take_of_length_le->Oj,mem_cons_of_mem->Om,drop_eq_nil_iff->Oo,filter_eq_self->Ot,mem_cons->Ow,findIdx?_cons->Rn,mem_cons_self->R1,mem_singleton->R2,findIdx?_map->St,append_assoc->Tx,map_dropLast->Ty,filter_cons->T9,take_length->Um,nodup_cons->Uu,find?_some->Uy,find?_cons->U5,head?_drop->Va,map_take->Ve
open Nat renaming le_trans->Ij,le_refl->Ix,le_of_lt->Lg,lt_of_le_of_lt->Lz,zero_le->L2,succ_le_succ->Uk
open Ne renaming symm->Jc
open Int renaming toNat_natCast->Jy
open Sum renaming inl->N4
namespace Go.Z
open Go Go.Abs Go.W
def ea:Option Nat->Int
 |some k=>(k:Int)|none=>-1
theorem jnv {α:Type}(l:List α)(p:α->Bool)(f:Int->Option (Int⊕(Int⊕Int)))(dh:f (l.length:Int)=Gb (.inr (.inr (l.length:Int))))
  (cm:∀(i:Nat) x,l[i]?=Gb x->i<l.length->f (i:Int)=Gb (if p x then .inr (.inl (i:Int))else .inl ((i+1:Nat):Int))):
  ∃d,bd f 0=Gb d/\(match d with | .inl k=>k | .inr _=>-1)=ea (l.findIdx? p):=by
 have:=J4 l.length (fun i=>(i:Int)) f (fun d=>match d with | .inl k=>k | .inr _=>(-1:Int)) (fun i=>ea (((l.drop i).findIdx? p).map (· + i))) ⟨_,dh,by rw[I1 (Ix _)];rfl⟩ (fun i hi=>by
  obtain⟨x,M⟩:∃x,l[i]?=Gb x:=⟨_,Ip hi⟩;have Y:=cm i x M hi;simp only[qR M,Rn]
  cases hp:p x with
  |true=>
   rw[hp,if_pos rfl]at Y;exact .inr ⟨_,Y,by simp[ea]⟩
  |false=>
   rw[hp]at Y;refine .inl ⟨by simpa using Y,?_⟩;simp only[Gd,if_false,Option.map_map]
   congr 1
   congr 1
   funext n
   simp only[Function.comp];omega)
 obtain⟨d,Y,I⟩:=this;refine⟨d,Y,?_⟩;rw[I];simp
abbrev SM:Nat:=1073741824
theorem oh {α:Type}{l:List α}{p:α->Bool}{f:Int->Option (Int⊕(Int⊕Int))}(hl:l.length<=SM)
  (hf:∀i:Int,f i=cond (decide (i<(l.length:Int))) (qa (ql l i) fun x=>cond (p x) (Gb (.inr (.inl i))) (Gb (.inl (qd .i64 (i+1))))) (Gb (.inr (.inr i)))):
  (qa (bd f 0) fun d=>match d with | .inl k=>Gb k | .inr _=>Gb (-1))=Gb (ea (l.findIdx? p)):=by
 obtain⟨d,Y,I⟩:=jnv l p f (by rw[hf,z4];rfl) (fun i x M hi=>by
  rw[hf,yn hi];simp only[cond_true,qa,ja M]
  cases p x with
  |true=>rfl
  |false=>simp only[cond_false];rw[za (by unfold SM at hl;omega)];rfl)
 rw[Y];simp only[qa];rw[<-I];cases d<;>rfl
variable {r:av}{n:aj}
theorem Gn (hl:(r.ay.getD []).length<=SM):f80 r n=Gb (ea (zx r.er n)):=by
 unfold f80 zx;exact oh (p:=fun x=>decide (x.name=n)) hl fun i=>rfl
theorem Gp (hl:(r.ay.getD []).length<=SM):f58 r n=Gb (ea (zx r.er n)):=by
 have:J6 ((r.ay.getD []).length:Int) r n=Gb (ea (zx r.er n)):=by
  unfold J6 zx;refine oh (p:=fun x=>decide (x.name=n)) hl fun i=>?_;unfold J7 f145
  congr 1
  cases ql (r.ay.getD []) i<;>rfl
 unfold f58;rw[this];rfl
theorem zP:r.er.ah=(r.ah.getD []).map bw.er:=rfl
theorem vN:r.er.units=(r.units.getD []).map bz.er:=rfl
theorem Pj:zo r.er n=(r.ah.getD []).findIdx? fun x=>decide (x.name=n):=by
 unfold zo;rw[zP,St];rfl
theorem WT:zk r.er n=(r.units.getD []).findIdx? fun x=>decide (x.name=n):=by
 unfold zk;rw[vN,St];rfl
theorem BN (hl:(r.ah.getD []).length<=SM):f82 r n=Gb (ea (zo r.er n)):=by
 rw[Pj];unfold f82;exact oh (p:=fun x=>decide (x.name=n)) hl fun i=>rfl
theorem tM (hl:(r.ah.getD []).length<=SM):f95 r n=Gb (ea (zo r.er n)):=by
 have:J8 ((r.ah.getD []).length:Int) r n=Gb (ea (zo r.er n)):=by
  rw[Pj];unfold J8;refine oh (p:=fun x=>decide (x.name=n)) hl fun i=>?_;unfold J9 f166
  congr 1
  cases ql (r.ah.getD []) i<;>rfl
 unfold f95;rw[this];rfl
theorem Gq (hl:(r.units.getD []).length<=SM):f83 r n=Gb (ea (zk r.er n)):=by
 rw[WT];unfold f83;exact oh (p:=fun x=>decide (x.name=n)) hl fun i=>rfl
theorem vO (hl:(r.units.getD []).length<=SM):f69 r n=Gb (ea (zk r.er n)):=by
 have:Ka ((r.units.getD []).length:Int) r n=Gb (ea (zk r.er n)):=by
  rw[WT];unfold Ka;refine oh (p:=fun x=>decide (x.name=n)) hl fun i=>?_;unfold Kb f150
  congr 1
  cases ql (r.units.getD []) i<;>rfl
 unfold f69;rw[this];rfl
end Go.Z
namespace Go.Z
open Go Go.Abs Go.W
theorem q5e {i}(h:i<9223372036854775807):qd .i64 (((i+1:Nat):Int)-1)=(i:Int):=by
 have:=za (i:=i) h;rw[show(((i+1:Nat):Int)-1)=(i:Int) by omega]
 cases i with
 |zero=>rfl
 |succ j=>
  have:=za (i:=j) (by omega);rw[show((j+1:Nat):Int)=(j:Int)+1 by omega,this];omega
variable {r:av}{n:aj}
theorem WU {sp}(h:ky r.er n=Gb sp):∃k p,zo r.er n=Gb k/\(r.ah.getD [])[k]?=Gb p/\p.er=sp/\p.name=n:=by
 unfold ky at h
 cases hk:zo r.er n with
 |none=>rw[hk]at h;cases h
 |some k=>
  rw[hk]at h;simp only[Jz,zP,Io]at h
  cases hp:(r.ah.getD [])[k]? with
  |none=>rw[hp]at h;cases h
  |some p=>
   rw[hp]at h;rw[Pj]at hk;obtain⟨x,Y,I,_⟩:=bZ hk;rw[hp]at Y;cases Y;exact⟨k,p,rfl,hp,by simpa using h,of_decide_eq_true I⟩
theorem j0v {u d}(hP:(r.ah.getD []).length<=SM)(hB:∀p∈r.ah.getD [],(p.bm.getD []).length<=SM)(hd:gV r.er u.er=Gb d):∃D,f161 r u=Gb D/\f157 r u=Gb D/\D.er=d:=by
 unfold gV at hd
 cases hp:ky r.er u.er.product with
 |none=>rw[hp]at hd;cases hd
 |some sp=>
  rw[hp]at hd;obtain⟨k,p,Y,I,rfl,_⟩:=WU hp;simp only[Jz,BO]at hd;have hB:=hB p (Hq I);split at hd
  .rename_i hv;obtain⟨i,hi⟩:∃i:Nat,u.version=((i+1:Nat):Int):=⟨(u.version-1).toNat,by have:1<=u.version:=hv;omega⟩
   have he:(u.er.version-1).toNat=i:=by show(u.version-1).toNat=i;omega
   rw[he]at hd;have qV:((p.bm.getD []).map cn.er)[i]?=Gb d:=hd;rw[Io]at qV
   cases hD:(p.bm.getD [])[i]? with
   |none=>rw[hD]at qV;cases qV
   |some D=>
    rw[hD]at qV;have aW:=(Ii.1 hD).1
    have hw:qd .i64 (u.version-1)=(i:Int):=by rw[hi];exact q5e (by unfold SM at hB;omega)
    refine⟨D,?_,?_,by simpa using qV⟩
    .unfold f161;rw[tM hP,show zo r.er u.product=Gb k from Y];simp only[qa,ea,ja I,hw,ja hD]
    .unfold f157;rw[BN hP,show zo r.er u.product=Gb k from Y];simp only[qa,ea,ja I,hw,ja hD]
  .cases hd
theorem Pk {u v}(hP:(r.ah.getD []).length<=SM)(hd:sj r.er u.er=Gb v):f198 r u=Gb v/\f223 r u=Gb v:=by
 unfold sj at hd
 cases hp:ky r.er u.er.product with
 |none=>rw[hp]at hd;cases hd
 |some sp=>
  rw[hp]at hd;obtain⟨k,p,Y,I,rfl,_⟩:=WU hp
  have hv:v=((p.bm.getD []).length:Int):=by
   simp only[Option.map_some,Gb.injEq]at hd;rw[<-hd];show((((p.bm.getD []).map cn.er).length:Nat):Int)=_;rw[If]
  subst hv;refine⟨?_,?_⟩
  .unfold f198 f96;rw[tM hP,show zo r.er u.product=Gb k from Y];simp only[qa,ea,ja I]
  .unfold f223;rw[BN hP,show zo r.er u.product=Gb k from Y];simp only[qa,ea,ja I]
theorem WV {α γ ε:Type}(g:γ->α->γ):∀(l:List α) (i:Nat) (c:γ),Gj (fun _ c x=>(.inl (g c x):γ⊕ε)) i c l=.inl (l.foldl g c)
 | [],i,c=>rfl
 |x::l,i,c=>by simp only[Gj,Jr];exact WV g l (i+1) (g c x)
theorem Gr {α γ σ δ:Type}(l:List α)(f:σ->Option (σ⊕δ))(mk:Nat->γ->σ)(g:γ->α->γ)(En:γ->δ)(c:γ)(dh:∀c,f (mk l.length c)=Gb (.inr (En c)))
  (cm:∀i c x,l[i]?=Gb x->i<l.length->f (mk i c)=Gb (.inl (mk (i+1) (g c x)))):bd f (mk 0 c)=Gb (En (l.foldl g c)):=by
 have:=q8i (ε:=Empty) l f mk (fun _ c x=>.inl (g c x)) En (fun e=>nomatch e) (fun _ _=>True) c (fun c _=>dh c) (fun i c x M hi _=>⟨trivial,cm i c x M hi⟩) trivial;rw[this,WV]
theorem jul {u t}(hl:(u.results.getD []).length<=SM):f158 u t=Gb (tN u.er t):=by
 unfold f158
 have:=Gr (u.results.getD []) (BP u t) (fun i (c:Bool)=>(c,(i:Int))) (fun is x=>if decide (x.k=t.k)&&decide (x.a=u.version)then decide (t.a<=x.b)&&decide (x.b<=t.b)else is) (fun c=>(c,((u.results.getD []).length:Int))) Ha (fun c=>by unfold BP;simp only[z4];rfl)
  (fun i c x M hi=>by
   unfold BP;simp only[yn hi,cond_true,qa,ja M];rw[za (by unfold SM at hl;omega)]
   by_cases Y:x.k=t.k<;>by_cases I:x.a=u.version<;>by_cases h3:t.a<=x.b<;>simp[Y,I,h3])
 rw[show((Ha,(0:Int)):Bool×Int)=(Ha,((0:Nat):Int))from rfl,this];rfl
theorem jua {u t}(hl:(u.results.getD []).length<=SM)(hv:u.version≠-1):f163 u t=Gb (tN u.er t):=by
 unfold f163
 have:=Gr (u.results.getD []) (BQ u t) (fun i (c:jh)=>((i:Int),c.k,c.a,c.b)) (fun c x=>if decide (x.k=t.k)&&decide (x.a=u.version)then x else c) (fun c=>(((u.results.getD []).length:Int),c.k,c.a,c.b)) ⟨[],-1,0⟩ (fun c=>by unfold BQ;simp only[z4];rfl)
  (fun i c x M hi=>by
   unfold BQ;simp only[yn hi,cond_true,qa,ja M];rw[za (by unfold SM at hl;omega)]
   by_cases Y:x.k=t.k<;>by_cases I:x.a=u.version<;>simp[Y,I])
 rw[show(((0:Int),([]:aj),(-1:Int),(0:Int)):Int×aj×Int×Int)=(((0:Nat):Int),[],-1,0)from rfl];simp only[]at this;rw[this];simp only[qa]
 have key:∀(l:List jh) (c:jh) (b:Bool),(c=⟨[],-1,0⟩/\b=Ha\/c.a=u.version/\b=(decide (t.a<=c.b)&&decide (c.b<=t.b))) ->
   (let c':=l.foldl (fun c x=>if decide (x.k=t.k)&&decide (x.a=u.version)then x else c) c
    let b':=l.foldl (fun is x=>if decide (x.k=t.k)&&decide (x.a=u.version)then decide (t.a<=x.b)&&decide (x.b<=t.b)else is) b
    c'=⟨[],-1,0⟩/\b'=Ha\/c'.a=u.version/\b'=(decide (t.a<=c'.b)&&decide (c'.b<=t.b))):=by
  intro l
  induction l with
  |nil=>intro c b h;exact h
  |cons x l ih=>
   intro c b h;simp only[Jr];apply ih;by_cases Y:x.k=t.k<;>by_cases I:x.a=u.version
   .simp only[Y,I,decide_true,Vc,if_true];right;trivial
   all_goals simpa only[Y,I,decide_true,decide_false,Jw,Jb,Vc,Gd,if_false]using h
 have k:=key (u.results.getD []) ⟨[],-1,0⟩ Ha (.inl ⟨rfl,rfl⟩);simp only at k;show _=Gb ((u.results.getD []).foldl (fun is x=>if decide (x.k=t.k)&&decide (x.a=u.version)then decide (t.a<=x.b)&&decide (x.b<=t.b)else is) Ha);rcases k with⟨Y,I⟩|⟨Y,I⟩
 .rw[I,Y];rfl
 .rw[I];generalize (u.results.getD []).foldl (fun c x=>if decide (x.k=t.k)&&decide (x.a=u.version)then x else c) ⟨[],-1,0⟩=c at Y;have:decide (c.a=-1)=Ha:=decide_eq_false (by rw[Y];exact hv);simp only[this,Jw,Jb,cond_false];by_cases h3:t.a<=c.b<;>simp[h3]
end Go.Z
namespace Go.Z
open Go Go.Abs Go.W
theorem WW {α β:Type}(p:α->Bool)(g:α->β):∀l:List α,(l.flatMap fun x=>if p x then [g x]else [])=(l.filter p).map g
 | []=>rfl
 |x::l=>by
  rw[N3,WW p g l,T9];cases p x<;>rfl
theorem BR {α β:Type}{l:List α}{p:α->Bool}{g:α->β}{f}(hl:l.length<=SM)
  (dh:∀o w,f (o,(l.length:Int),w)=Gb (.inr (o,w,(l.length:Int))))
  (hf:∀(i:Nat) x o w,l[i]?=Gb x->f (o,(i:Int),w)=cond (p x) (cond w (qa (bB o [g x]) fun v=>Gb (.inl (v,((i+1:Nat):Int),H2))) (cond o.isNone (qa (bB o [g x]) fun v=>Gb (.inl (v,((i+1:Nat):Int),H2))) I5)) (Gb (.inl (o,((i+1:Nat):Int),w)))):
  bd f (I5,0,Ha)=Gb (jd ((l.filter p).map g),fE ((l.filter p).map g),(l.length:Int)):=by
 have:=q8m l (fun i=>(i:Int)) f (fun x=>if p x then [g x]else []) [] (fun i a=>a.length<=i) (Ix _) (fun a=>dh _ _) (fun i x a M hi ha=>by
  cases hp:p x with
  |true=>
   refine⟨by simp;omega,?_⟩;rw[hf i x _ _ M,hp];simp only[cond_true,if_true];rw[zN];exact vM (x:=g x) (k:=fun v=>Gb (N4 (v,((i+1:Nat):Int),H2))) (by unfold SM at hl;omega)
  |false=>
   refine⟨by simp;omega,?_⟩;rw[hf i x _ _ M,hp]
   simp)
 rw[WW,J2]at this;exact this
theorem Gs {α:Type}{l:List α}{p:α->Bool}{q:α->Option Bool}{f}(hl:l.length<=SM)(hq:∀x∈l,q x=Gb (p x))
  (hf:∀s,f s=cond (decide (s.2.1<(l.length:Int))) (qa (ql l s.2.1) fun x=>qa (q x) fun b=>cond b (cond s.2.2 (qa (bB s.1 [x]) fun v=>Gb (.inl (v,qd .i64 (s.2.1+1),H2))) (cond s.1.isNone (qa (bB s.1 [x]) fun v=>Gb (.inl (v,qd .i64 (s.2.1+1),H2))) I5)) (Gb (.inl (s.1,qd .i64 (s.2.1+1),s.2.2)))) (Gb (.inr (s.1,s.2.2,s.2.1)))):
  bd f (I5,0,Ha)=Gb (jd (l.filter p),fE (l.filter p),(l.length:Int)):=by
 have:=BR (l:=l) (p:=p) (g:=fun x=>x) (f:=f) hl (fun o w=>by rw[hf];simp only[z4,cond_false]) (fun i x o w M=>by
  have hi:=(Ii.1 M).1;rw[hf];simp only[yn hi,cond_true,qa,ja M,hq x (Hq M)]
  rw[za (by unfold SM at hl;omega)])
 simpa using this
theorem BS {α β:Type}{l:List α}{g:α->β}{q:α->Option β}{f}(hl:l.length<=SM)(hq:∀x∈l,q x=Gb (g x))
  (hf:∀s,f s=cond (decide (s.2.1<(l.length:Int))) (qa (ql l s.2.1) fun x=>qa (q x) fun b=>cond s.2.2 (qa (bB s.1 [b]) fun v=>Gb (.inl (v,qd .i64 (s.2.1+1),H2))) (cond s.1.isNone (qa (bB s.1 [b]) fun v=>Gb (.inl (v,qd .i64 (s.2.1+1),H2))) I5)) (Gb (.inr (s.1,s.2.2,s.2.1)))):
  bd f (I5,0,Ha)=Gb (jd (l.map g),fE (l.map g),(l.length:Int)):=by
 have:=BR (l:=l) (p:=fun _=>H2) (g:=g) (f:=f) hl (fun o w=>by rw[hf];simp only[z4,cond_false]) (fun i x o w M=>by
  have hi:=(Ii.1 M).1;rw[hf];simp only[yn hi,cond_true,qa,ja M,hq x (Hq M)]
  rw[za (by unfold SM at hl;omega)])
 rw[Ot.2 (fun _ _=>rfl)]at this;exact this
variable {r:av}{u:bz}{D:cn}
theorem qzc {α:Type}{l:List α}{p}(hl:l.length<=SM):(l.filter p).length<=SM:=Ij (J0 _ _) hl
theorem jj1 (hd:f161 r u=Gb D)(Q:(u.results.getD []).length<=SM)(ht:(D.aS.getD []).length<=SM)(hv:u.version≠-1):∃w,f91 r u=Gb (jd (sk D.er u.er),w):=by
 unfold f91;rw[hd];simp only[qa]
 have Y:f160 D.aS u=Gb (jd ((D.aS.getD []).filter fun t=>!tN u.er t),fE ((D.aS.getD []).filter fun t=>!tN u.er t)):=by
  unfold f160;rw[Gs (f:=Kc D.aS u) (l:=D.aS.getD []) (p:=fun t=>!tN u.er t) (q:=fun t=>f162 t u) ht (fun x _=>by unfold f162;rw[jua Q hv];rfl) (fun s=>rfl)];rfl
 rw[Y];simp only[]
 have I:f164 (jd ((D.aS.getD []).filter fun t=>!tN u.er t))=Gb (jd (sk D.er u.er),fE (sk D.er u.er)):=by
  unfold f164;rw[BS (f:=Ke (jd ((D.aS.getD []).filter fun t=>!tN u.er t))) (l:=((jd ((D.aS.getD []).filter fun t=>!tN u.er t)).getD [])) (g:=fun t:jh=>t.k) (q:=f165) (by rw[zb];exact qzc ht) (fun x _=>rfl) (fun s=>rfl),zb];rfl
 rw[I];exact⟨_,rfl⟩
theorem ji1 (hd:f157 r u=Gb D)(Q:(u.results.getD []).length<=SM)(ht:(D.aS.getD []).length<=SM):∃w,f85 r u=Gb (jd (sk D.er u.er),w):=by
 unfold f85;rw[hd];simp only[qa]
 have:=BR (l:=D.aS.getD []) (p:=fun t=>!tN u.er t) (g:=fun t:jh=>t.k) (f:=BT u D) ht (fun o w=>by unfold BT;simp only[z4,cond_false]) (fun i x o w M=>by
  have hi:=(Ii.1 M).1;unfold BT;simp only[yn hi,cond_true,qa,ja M,jul Q];rw[za (by unfold SM at ht;omega)]
  cases tN u.er x<;>rfl)
 rw[this];exact⟨_,rfl⟩
theorem WX {n x}(h:pQ r.er n=Gb x):∃k:Nat,zx r.er n=Gb k/\(r.ay.getD [])[k]?=Gb x:=by
 unfold pQ at h
 cases hk:zx r.er n with
 |none=>rw[hk]at h;cases h|some k=>rw[hk]at h;exact⟨k,rfl,h⟩
theorem Kf {n}(h:(zx r.er n).isSome=H2):∃x,pQ r.er n=Gb x:=by
 unfold pQ
 cases hk:zx r.er n with
 |none=>rw[hk]at h;cases h
 |some k=>
  obtain⟨x,Y,_⟩:=bZ hk;exact⟨x,Y⟩
def Pl (r:z8)(kind:Str)(n:Int)(x:bG):Int:=if(pQ r x.k).any (fun l=>decide (l.kind=kind))then qd .i64 (n+x.n)else n
theorem jus {kind}(hL:(r.ay.getD []).length<=SM)(hu:(u.uses.getD []).length<=SM)(hw:∀x∈u.uses.getD [],(zx r.er x.k).isSome=H2):f277 r u kind=Gb (Gt (qd .i64) r.er u.er kind):=by
 unfold f277
 have:=Gr (u.uses.getD []) (BU r u kind) (fun i (c:Int)=>(c,(i:Int))) (Pl r.er kind) (fun c=>(c,((u.uses.getD []).length:Int))) 0 (fun c=>by unfold BU;simp only[z4];rfl)
  (fun i c x M hi=>by
   obtain⟨y,hy⟩:=Kf (hw x (Hq M));obtain⟨k,Y,I⟩:=WX hy;unfold BU Pl;simp only[yn hi,cond_true,qa,ja M,Gn hL,Y,ea,ja I,hy,Ja];rw[za (by unfold SM at hu;omega)]
   by_cases h3:y.kind=kind<;>simp[h3])
 rw[show(((0:Int),(0:Int)):Int×Int)=((0:Int),((0:Nat):Int))from rfl,this];rfl
theorem jcx {σ:Type}{step g}(aah:Nat->σ->Prop)(hL:(r.ay.getD []).length<=SM)(hu:(u.uses.getD []).length<=SM)
  (hg:∀i x c,(u.uses.getD [])[i]?=Gb x->aah i c->aah (i+1) (g c x)/\∃y,pQ r.er x.k=Gb y/\step c y x.n=Gb (g c x)) (c:σ) (hI:aah 0 c):bd (qW r u step) (0,c)=Gb (((u.uses.getD []).length:Int),(u.uses.getD []).foldl g c):=by
 have:=q8i (ε:=Empty) (u.uses.getD []) (qW r u step) (fun i (c:σ)=>((i:Int),c)) (fun _ c x=>.inl (g c x)) (fun c=>(((u.uses.getD []).length:Int),c)) (fun e=>nomatch e) aah c (fun c _=>by unfold qW;simp only[z4];rfl)
  (fun i c x M hi hI=>by
   obtain⟨hI',y,Y,I⟩:=hg i x c M hI;obtain⟨k,h3,h4⟩:=WX Y;refine⟨hI',?_⟩;unfold qW;simp only[yn hi,cond_true,qa,ja M,Gp hL,h3,ea,ja h4,I]
   rw[za (by unfold SM at hu;omega)]) hI
 rw[show((0:Int),c)=(((0:Nat):Int),c)from rfl,this,WV]
end Go.Z
namespace Go.Z
open Go Go.Abs Go.W
variable {r:av}{u:bz}{D:cn}
theorem jaj {k v}:∀l:List (aj×Int),(lZ l k v).length<=l.length+1
 | []=>Ix _
 |p::l=>by
  unfold lZ;split
  .simp
  .simp only[Jm];exact Uk (jaj l)
theorem jd5 {α γ:Type}{l:List α}{i x}(M:l[i]?=Gb x)(g:γ->α->γ)(c:γ):(l.take (i+1)).foldl g c=g ((l.take i).foldl g c) x:=by
 rw[List.take_add_one,M,List.foldl_append];rfl
theorem jr6 (hL:(r.ay.getD []).length<=SM)(hu:(u.uses.getD []).length<=SM)(hw:∀x∈u.uses.getD [],(zx r.er x.k).isSome=H2):∃aai,bd (qW r u xt) (0,[])=Gb (((u.uses.getD []).length:Int),aai)/\∀kind,og aai kind=Gt (qd .i64) r.er u.er kind:=by
 let g:List (aj×Int)->bG->List (aj×Int):=fun c x=>match pQ r.er x.k with
  |some y=>lZ c y.kind (qd .i64 (og c y.kind+x.n))|none=>c
 let aah:Nat->List (aj×Int)->Prop:=fun i aai=>aai.length<=i/\∀kind,og aai kind=((u.uses.getD []).take i).foldl (Pl r.er kind) 0
 have hg:∀i x c,(u.uses.getD [])[i]?=Gb x->aah i c->aah (i+1) (g c x)/\∃y,pQ r.er x.k=Gb y/\xt c y x.n=Gb (g c x):=by
  intro i x c M hI;obtain⟨y,hy⟩:=Kf (hw x (Hq M));have hi:=(Ii.1 M).1
  have UM:g c x=lZ c y.kind (qd .i64 (og c y.kind+x.n)):=by simp only[g,hy]
  rw[UM];refine⟨⟨Ij (jaj _) (Uk hI.1),fun kind=>?_⟩,y,hy,?_⟩
  .rw[jd5 M,joi,<-hI.2 kind];unfold Pl;rw[hy];simp only[Ja];by_cases hk:kind=y.kind
   .subst hk;simp
   .have dB:¬y.kind=kind:=fun h=>hk h.symm;simp[hk,dB]
  .unfold xt Ph;rw[if_pos (by have:=hI.1;unfold SM at hu;omega)]
 have:=jcx (step:=xt) (g:=g) aah hL hu hg [] ⟨Ix _,fun kind=>rfl⟩
 have hI:∀(k i:Nat) (c:List (aj×Int)),i+k=(u.uses.getD []).length->aah i c->aah (u.uses.getD []).length (((u.uses.getD []).drop i).foldl g c):=by
  intro k
  induction k with
  |zero=>
   intro i c hi hc
   have:i=(u.uses.getD []).length:=by omega
   subst this;rw[I1 (Ix _)];exact hc
  |succ k ih=>
   intro i c hi hc;obtain⟨x,M⟩:∃x,(u.uses.getD [])[i]?=Gb x:=⟨_,Ip (by omega)⟩;rw[qR M,Jr];exact ih (i+1) _ (by omega) (hg i x c M hc).1
 have I:=hI _ 0 [] (Nat.zero_add _) ⟨Ix _,fun kind=>rfl⟩;rw[Jx]at I;refine⟨_,this,fun kind=>?_⟩;rw[I.2 kind,Um];rfl
theorem xu (o:Option Nat):decide (0<=ea o)=o.isSome:=by
 cases o with
 |none=>rfl|some k=>exact decide_eq_true (by show(0:Int)<=(k:Int);omega)
theorem cE {α:Type}{p:α->Bool}{l:List α}:(l.findIdx? p).isSome=l.any p:=by rw[Gu]
theorem jot {l:ak bG}{aai:List (aj×Int)}(hl:(l.getD []).length<=SM):Kg l aai=Gb ((l.getD []).any fun n=>decide (og aai n.k<n.n)):=by
 have:Kh l aai=Gb (ea ((l.getD []).findIdx? fun n=>decide (og aai n.k<n.n))):=by
  unfold Kh;exact oh (p:=fun n=>decide (og aai n.k<n.n)) hl fun i=>rfl
 unfold Kg;rw[this];simp only[qa,xu,cE]
theorem jta (hL:(r.ay.getD []).length<=SM)(hu:(u.uses.getD []).length<=SM)(hw:∀x∈u.uses.getD [],(zx r.er x.k).isSome=H2)(hd:f161 r u=Gb D)(hn:(D.bh.getD []).length<=SM):f246 r u=Gb (zQ (qd .i64) r.er D.er u.er):=by
 obtain⟨aai,Y,I⟩:=jr6 hL hu hw;unfold f246;rw[Y,hd];simp only[qa,jot hn,Gb.injEq];unfold zQ;rw[show D.er.bh=D.bh.getD []from rfl]
 induction D.bh.getD []with
 |nil=>rfl
 |cons n l ih=>
  rw[Jo,N6,Bool.not_or,ih,I]
  congr 1
  by_cases h:Gt (qd .i64) r.er u.er n.k<n.n
  .rw[decide_eq_true h,decide_eq_false (by omega)];rfl
  .rw[decide_eq_false h,decide_eq_true (by omega)];rfl
theorem jvh (hL:(r.ay.getD []).length<=SM)(hu:(u.uses.getD []).length<=SM)(hw:∀x∈u.uses.getD [],(zx r.er x.k).isSome=H2)(hd:f157 r u=Gb D)(hn:(D.bh.getD []).length<=SM):f263 r u=Gb (zQ (qd .i64) r.er D.er u.er):=by
 unfold f263;rw[hd];simp only[qa]
 obtain⟨d,Y,I⟩:=Pe (D.bh.getD []) (BV r u D) (fun n=>decide (n.n<=Gt (qd .i64) r.er u.er n.k)) (fun d=>match d with | .inl _=>Ha | .inr _=>H2) ⟨.inr ((D.bh.getD []).length:Int),by unfold BV;simp only[z4];rfl,rfl⟩ (fun i x M hi=>by
  unfold BV;simp only[yn hi,cond_true,qa,ja M,jus hL hu hw];rw[za (by unfold SM at hn;omega)];by_cases h:Gt (qd .i64) r.er u.er x.k<x.n
  ·exact .inr ⟨decide_eq_false (by omega),.inl (),by rw[decide_eq_true h];rfl,rfl⟩
  ·exact .inl ⟨decide_eq_true (by omega),by rw[decide_eq_false h];rfl⟩)
 rw[Y];unfold zQ;rw[show D.er.bh=D.bh.getD []from rfl,<-I];cases d<;>rfl
def Gv (r:z8)(us:List bG):List jk:=us.map fun x=>(pQ r x.k).getD ⟨[],[],0,0,Ha⟩
theorem jqd (hL:(r.ay.getD []).length<=SM)(hu:(u.uses.getD []).length<=SM)(hw:∀x∈u.uses.getD [],(zx r.er x.k).isSome=H2):bd (qW r u zR) (0,I5)=Gb (((u.uses.getD []).length:Int),jd (Gv r.er (u.uses.getD []))):=by
 let gx:bG->jk:=fun x=>(pQ r.er x.k).getD ⟨[],[],0,0,Ha⟩
 let g:ak jk->bG->ak jk:=fun c x=>jd (c.getD []++[gx x])
 have:=jcx (step:=zR) (g:=g) (fun i c=>∃a:List jk,c=jd a/\a.length=i) hL hu (fun i x c M hI=>by
  obtain⟨a,rfl,ha⟩:=hI;have hi:=(Ii.1 M).1;obtain⟨y,hy⟩:=Kf (hw x (Hq M))
  have hgx:gx x=y:=by simp only[gx,hy,Hb]
  refine⟨⟨a++[y],by simp only[g,hgx,zb],by simp[ha]⟩,y,hy,?_⟩;unfold zR;rw[qz4 (by unfold SM at hu;omega)]
  simp only[g,hgx,zb]) I5 ⟨[],rfl,rfl⟩
 rw[this]
 congr 2
 have key:∀(l:List bG) (a:List jk),l.foldl g (jd a)=jd (a++l.map gx):=by
  intro l
  induction l with
  |nil=>intro a;simp
  |cons x l ih=>
   intro a;rw[Jr,show g (jd a) x=jd (a++[gx x]) by simp only[g,zb],ih,Iy,Tx];rfl
 have:=key (u.uses.getD []) [];rw[J2]at this;exact this
theorem ja7 (hw:∀x∈u.uses.getD [],(zx r.er x.k).isSome=H2):BW r.er u.er=!((Gv r.er (u.uses.getD [])).filter (·.held)).isEmpty:=by
 unfold BW Gv;rw[show u.er.uses=u.uses.getD []from rfl]
 revert hw
 generalize u.uses.getD []=us;intro hw
 induction us with
 |nil=>rfl
 |cons x l ih=>
  obtain⟨y,hy⟩:=Kf (hw x (R1 ..));rw[Jo,ih (fun x M=>hw x (Om _ M)),Iy,T9,hy];simp only[Ja,Hb];cases y.held<;>rfl
theorem ym {b e}:f36 b e=Gb (if b then e else 0):=by unfold f36;cases b<;>rfl
theorem jts {l}(hl:l.length<=SM):f101 (jd l)=Gb (jd (l.filter (·.held)),fE (l.filter (·.held))):=by
 unfold f101;rw[Gs (f:=Gw (jd l)) (l:=(jd l).getD []) (p:=fun x:jk=>x.held) (q:=fun x=>f102 x) (by rw[zb];exact hl) (fun x _=>rfl) (fun s=>rfl),zb];rfl
def iV:List Int->Int
 | []=>0
 |e::l=>if e=0 then iV l else e
theorem jX {l}(hl:l.length<=SM):f35 (Gb l)=Gb (iV l):=by
 unfold f35
 have:=J4 l.length (fun i=>(i:Int)) (BX (Gb l)) (fun d=>match d with | .inl k=>k | .inr _=>(0:Int)) (fun i=>iV (l.drop i)) ⟨.inr (l.length:Int),by unfold BX;simp only[Hb,z4];rfl,by rw[I1 (Ix _)];rfl⟩ (fun i hi=>by
  obtain⟨x,M⟩:∃x,l[i]?=Gb x:=⟨_,Ip hi⟩;unfold BX;simp only[Hb,yn hi,cond_true,qa,ja M,qR M,iV];by_cases h0:x=0
  ·simp only[h0,decide_true,cond_true,if_true];rw[za (by unfold SM at hl;omega)]
   left;constructor<;>first|rfl|trivial
  ·simp only[h0,decide_false,cond_false,if_false]
   exact .inr ⟨_,rfl,rfl⟩)
 obtain⟨d,Y,I⟩:=this;rw[show((0:Int))=((0:Nat):Int)from rfl,Y];rw[Jx]at I;simp only[qa];rw[<-I];cases d<;>rfl
theorem q18 {α:Type}{l:List α}:decide (0<(((jd l).getD []).length:Int))=!l.isEmpty:=by
 rw[zb]
 cases l with
 |nil=>rfl|cons x l=>simp
theorem q49 {w r u d v}(hd:gV r u=Gb d)(hv:sj r u=Gb v):vP w r u=if u.ax then 21 else if u.version≠v then 32 else if !zQ w r d u then 20 else if !(sk d u).isEmpty then 31 else if BW r u then 34 else 0:=by
 unfold vP;rw[hd,hv];cases u.ax
 .by_cases h:u.version=v
  .simp[h]
  .simp[h,Jc h]
 .rfl
theorem js6 {v:Int}(hP:(r.ah.getD []).length<=SM)(jF:sj r.er u.er=Gb v)(hL:(r.ay.getD []).length<=SM)(hu:(u.uses.getD []).length<=SM)(hw:∀x∈u.uses.getD [],(zx r.er x.k).isSome=H2)(hd:f161 r u=Gb D)(hp:gV r.er u.er=Gb D.er)(hn:(D.bh.getD []).length<=SM)(Q:(u.results.getD []).length<=SM)(ht:(D.aS.getD []).length<=SM)(hv:u.version≠-1):f204 r u=Gb (vP (qd .i64) r.er u.er):=by
 obtain⟨w,hm⟩:=jj1 hd Q ht hv
 have WY:(Gv r.er (u.uses.getD [])).length<=SM:=by unfold Gv;rw[If];exact hu
 unfold f204;rw[jqd hL hu hw];simp only[qa,ym,(Pk hP jF).1,jta hL hu hw hd hn,hm,jts WY,q18];rw[jX (by simp[SM]),q49 hp jF,ja7 hw]
 congr 1
 show iV _=if u.ax then 21 else if u.version≠v then 32 else _
 cases u.ax<;>by_cases Y:u.version=v<;>cases zQ (qd .i64) r.er D.er u.er<;>cases (sk D.er u.er).isEmpty<;>cases ((Gv r.er (u.uses.getD [])).filter (·.held)).isEmpty<;>simp[iV,Y]
theorem jqm (hL:(r.ay.getD []).length<=SM)(hu:(u.uses.getD []).length<=SM)(hw:∀x∈u.uses.getD [],(zx r.er x.k).isSome=H2):(qa (bd (zS r u) 0) fun d=>match d with | .inl _=>Gb (34:Int) | .inr _=>Gb 0)=Gb (if BW r.er u.er then 34 else 0):=by
 obtain⟨d,Y,I⟩:=Pe (u.uses.getD []) (zS r u) (fun x=>!(pQ r.er x.k).any (·.held)) (fun d=>match d with | .inl _=>Ha | .inr _=>H2) ⟨.inr ((u.uses.getD []).length:Int),by unfold zS;simp only[z4];rfl,rfl⟩ (fun i x M hi=>by
  obtain⟨y,hy⟩:=Kf (hw x (Hq M));obtain⟨k,h3,h4⟩:=WX hy;unfold zS;simp only[yn hi,cond_true,qa,ja M,Gn hL,h3,ea,ja h4,hy,Ja];rw[za (by unfold SM at hu;omega)]
  cases y.held with
  |true=>exact .inr ⟨rfl,.inl (),rfl,rfl⟩
  |false=>exact .inl ⟨rfl,rfl⟩)
 rw[Y]
 have h3:BW r.er u.er=!((u.uses.getD []).all fun x=>!(pQ r.er x.k).any (·.held)):=by
  unfold BW;rw[show u.er.uses=u.uses.getD []from rfl]
  induction u.uses.getD []with
  |nil=>rfl|cons x l ih=>rw[Jo,N6,ih,Vf,Vg]
 rw[h3,<-I];cases d<;>rfl
theorem jue {v:Int}(hP:(r.ah.getD []).length<=SM)(jF:sj r.er u.er=Gb v)(hL:(r.ay.getD []).length<=SM)(hu:(u.uses.getD []).length<=SM)(hw:∀x∈u.uses.getD [],(zx r.er x.k).isSome=H2)(hd:f157 r u=Gb D)(hp:gV r.er u.er=Gb D.er)(hn:(D.bh.getD []).length<=SM)(Q:(u.results.getD []).length<=SM)(ht:(D.aS.getD []).length<=SM):f224 r u=Gb (vP (qd .i64) r.er u.er):=by
 rw[q49 hp jF];unfold f224
 cases G:u.ax with
 |true=>rw[show u.er.ax=H2 from G];rfl
 |false=>
  have rT:(⟨u.name,u.product,u.version,u.uses,u.results,u.partner,Ha,u.au⟩:bz)=u:=by cases u;simp only at G;rw[G]
  rw[show u.er.ax=Ha from G,rT];obtain⟨w,hm⟩:=ji1 (r:=r) (u:=u) hd Q ht;simp only[cond_false,qa,(Pk hP jF).2,jvh hL hu hw hd hn,hm,q18,Gd,if_false];have hh:=jqm hL hu hw;simp only[qa]at hh;by_cases Y:u.version=v
  .rw[decide_eq_true Y,if_neg (show ¬u.er.version≠v from fun h=>h Y)];simp only[cond_true];cases zQ (qd .i64) r.er D.er u.er
   .rfl
   .simp only[cond_true,Ir,Gd,if_false];cases (sk D.er u.er).isEmpty
    .rfl
    .simp only[Ir,cond_false,Gd,if_false];exact hh
  .rw[decide_eq_false Y,if_pos (show u.er.version≠v from Y)];rfl
end Go.Z
namespace Go.Z
open Go Go.Abs Go.W
theorem Gx {α:Type}{o:Option (List α)}{ys}(h:(o.getD []).length+ys.length<=SM)(hy:ys≠[]):bB o ys=Gb (Gb (o.getD []++ys)):=by
 unfold bB zT;rw[if_pos h]
 cases o<;>cases ys<;>first|exact absurd rfl hy|rfl
theorem xw {α:Type}{ys:List α}(h:ys.length<=SM):bB (Gb []) ys=Gb (Gb ys):=by
 unfold bB zT;rw[if_pos (by simpa using h)];cases ys<;>rfl
theorem zU {α:Type}{o:Option (List α)}{x}(h:(o.getD []).length<SM):(qa (cond o.isNone (Gb (I5,Ha)) (qa (bB (Gb []) (o.getD [])) fun v=>Gb (v,H2))) fun v1=>cond v1.2 (qa (bB v1.1 [x]) fun v4=>Gb v4) (cond v1.1.isNone (qa (bB v1.1 [x]) fun v7=>Gb v7) I5))=Gb (Gb (o.getD []++[x])):=by
 cases o with
 |none=>rfl
 |some l=>
  have h':l.length<SM:=h;simp only[Lu,cond_false,Hb];rw[xw (by omega)];simp only[qa,cond_true];rw[Gx (o:=Gb l) (by simp only[Hb,Hc];omega) (by simp)];rfl
theorem jtm {o:ak jk}{x:jk}(h:(o.getD []).length<SM):f169 o x=Gb (Gb (o.getD []++[x])):=zU h
theorem juy {o:ak bw}{x:bw}(h:(o.getD []).length<SM):f170 o x=Gb (Gb (o.getD []++[x])):=zU h
theorem jsc {o:ak bz}{x:bz}(h:(o.getD []).length<SM):f186 o x=Gb (Gb (o.getD []++[x])):=zU h
theorem ju9 {o:ak cn}{x:cn}(h:(o.getD []).length<SM):f184 o x=Gb (Gb (o.getD []++[x])):=zU h
theorem jsx {o:ak bG}{x:bG}(h:(o.getD []).length<SM):f232 o x=Gb (Gb (o.getD []++[x])):=zU h
theorem jvm {o:ak jh}{x:jh}(h:(o.getD []).length<SM):f236 o x=Gb (Gb (o.getD []++[x])):=zU h
theorem jur {o:ak bG}{x:bG}(h:(o.getD []).length<SM):f243 o x=Gb (Gb (o.getD []++[x])):=zU h
theorem juq {o:ak jh}{x:jh}(h:(o.getD []).length<SM):f197 o x=Gb (Gb (o.getD []++[x])):=zU h
theorem pR {α:Type}{o:Option (List α)}{i:Nat}{x y:α}{g}(hl:(o.getD []).length<=SM)(M:(o.getD [])[i]?=Gb x)(hg:g x=Gb y):gP o (i:Int) g=Gb (Gb ((o.getD []).set i y)):=by
 unfold gP;rw[if_pos ⟨hl,by omega⟩,Jy,M];simp only[hg]
theorem WZ {α:Type}{o:Option (List α)}{i x}(hl:(o.getD []).length<=SM)(M:i<(o.getD []).length):BZ o (i:Int) x=Gb (Gb ((o.getD []).set i x)):=by
 unfold BZ;rw[if_pos ⟨hl,by omega,by omega⟩,Jy]
theorem W0 {α:Type}{o:Option (List α)}{x:α}{p:α->Bool}{g}(hl:(o.getD []).length<SM)(hg:∀y,g y=Gb x):
  ∃v w,(cond (decide (0<=ea ((o.getD []).findIdx? p))) (qa (gP o (ea ((o.getD []).findIdx? p)) g) fun v4=>Gb (v4,Ha)) (qa (Gb (Gb (o.getD []++[x]))) fun v6=>Gb (v6,H2)))=Gb (v,w)/\v.getD []=kc p x (o.getD []):=by
 unfold kc
 cases h:(o.getD []).findIdx? p with
 |none=>exact⟨_,_,rfl,rfl⟩
 |some k=>
  obtain⟨y,Y,_⟩:=bZ h;rw[show decide (0<=ea (Gb k))=H2 from xu (Gb k)];simp only[cond_true,ea];rw[pR (Lg hl) Y (hg y)];exact⟨_,_,rfl,rfl⟩
theorem juw {o:ak bG}{x:bG}{k}(hl:(o.getD []).length<SM):∃v w,f177 o x k=Gb (v,w)/\v.getD []=kc (dq k) x (o.getD []):=by
 unfold f177
 have:Ki o k=Gb (ea ((o.getD []).findIdx? (dq k))):=by unfold Ki;exact oh (p:=dq k) (Lg hl) fun i=>rfl
 rw[this];simp only[qa];rw[jsx hl];exact W0 (p:=dq k) (g:=fun _=>Gb x) hl fun _=>rfl
theorem jvx {o:ak jh}{x s:jh}(hl:(o.getD []).length<SM):∃v w,f181 o x s=Gb (v,w)/\v.getD []=kc (eR s.k) x (o.getD []):=by
 unfold f181
 have:zV o s=Gb (ea ((o.getD []).findIdx? (eR s.k))):=by unfold zV;exact oh (p:=eR s.k) (Lg hl) fun i=>rfl
 rw[this];simp only[qa];rw[jvm hl];exact W0 (p:=eR s.k) (g:=fun _=>Gb x) hl fun _=>rfl
theorem jut {o:ak bG}{x:bG}{t}(hl:(o.getD []).length<SM):∃v w,f194 o x t=Gb (v,w)/\v.getD []=kc (dq t.name) x (o.getD []):=by
 unfold f194
 have:f191 o t=Gb (ea ((o.getD []).findIdx? (dq t.name))):=by unfold f191;exact oh (p:=dq t.name) (Lg hl) fun i=>rfl
 rw[this];simp only[qa];rw[jur hl];exact W0 (p:=dq t.name) (g:=fun _=>Gb x) hl fun _=>rfl
theorem ju4 {o t}(hl:(o.getD []).length<=SM):f191 o t=Gb (ea ((o.getD []).findIdx? (dq t.name))):=by
 unfold f191;exact oh (p:=dq t.name) hl fun i=>rfl
theorem jum {o k}(hl:(o.getD []).length<=SM):f175 o k=Gb (jd ((o.getD []).filter fun x=>!dq k x),fE ((o.getD []).filter fun x=>!dq k x)):=by
 unfold f175;rw[Gs (f:=Kj o k) (l:=o.getD []) (p:=fun x=>!dq k x) (q:=fun x=>f176 x k) hl (fun x _=>rfl) (fun s=>rfl)];rfl
theorem jl3 {o k}(hl:(o.getD []).length<=SM):Kk o k=Gb ((o.getD []).any (dq k)):=by
 have:Kl o k=Gb (ea ((o.getD []).findIdx? (dq k))):=by unfold Kl;exact oh (p:=dq k) hl fun i=>rfl
 unfold Kk;rw[this];simp only[qa,xu,cE]
theorem jp4 {o t}(hl:(o.getD []).length<=SM):Km o t=Gb ((o.getD []).any (dq t.kind)):=by
 have:Kn o t=Gb (ea ((o.getD []).findIdx? (dq t.kind))):=by unfold Kn;exact oh (p:=dq t.kind) hl fun i=>rfl
 unfold Km;rw[this];simp only[qa,xu,cE]
theorem jok {o s}(hl:(o.getD []).length<=SM):Ko o s=Gb ((o.getD []).any (eR s.k)):=by
 have:zV o s=Gb (ea ((o.getD []).findIdx? (eR s.k))):=by unfold zV;exact oh (p:=eR s.k) hl fun i=>rfl
 unfold Ko;rw[this];simp only[qa,xu,cE]
theorem jlp {o e n}(hn:ql (e.names.getD []) 1=Gb n)(hl:(o.getD []).length<=SM):Kp o e=Gb ((o.getD []).any (eR n)):=by
 have:Kq o e=Gb (ea ((o.getD []).findIdx? (eR n))):=by
  unfold Kq;refine oh (p:=eR n) hl fun i=>?_;unfold Kr f195;rw[hn];rfl
 unfold Kp;rw[this];simp only[qa,xu,cE]
theorem W1 {α β:Type}{l:List α}{h q f}(hh:∀x,(h x).length<=1)
  (dh:∀o b w,f (o,b,(l.length:Int),w)=Gb (.inr (o,w,b,(l.length:Int))))
  (hf:∀(i:Nat) x (a:List β) b,l[i]?=Gb x->i<l.length->a.length<=i->f (jd a,b,(i:Int),fE a)=Gb (.inl (jd (a++h x),b||q x,((i+1:Nat):Int),fE (a++h x)))):
  bd f (I5,Ha,0,Ha)=Gb (jd (l.flatMap h),fE (l.flatMap h),l.any q,(l.length:Int)):=by
 have key:∀(k i:Nat),i+k=l.length->∀a b,a.length<=i->bd f (jd a,b,(i:Int),fE a)=Gb (jd (a++(l.drop i).flatMap h),fE (a++(l.drop i).flatMap h),b||(l.drop i).any q,(l.length:Int)):=by
  intro k
  induction k with
  |zero=>
   intro i hi a b _
   have:i=l.length:=by omega
   subst this;rw[I1 (Ix _),List.flatMap_nil,List.append_nil,ju (dh _ _ _)];simp
  |succ k ih=>
   intro i hi a b ha;obtain⟨x,M⟩:∃x,l[i]?=Gb x:=⟨_,Ip (by omega)⟩;rw[z9 (hf i x a b M (by omega) ha),ih (i+1) (by omega) _ _ (by rw[Ig];have:=hh x;omega),qR M,N3,Tx,Jo,Bool.or_assoc]
 have:=key l.length 0 (by omega) [] Ha (Ix _);rw[Jx,J2,Jf]at this;exact this
theorem W2 {α:Type}{a:List α}{x}(h:a.length<SM):cond (fE a) (qa (bB (jd a) [x]) fun v=>Gb (v,H2)) (cond (jd a).isNone (qa (bB (jd a) [x]) fun v=>Gb (v,H2)) I5)=Gb (jd (a++[x]),H2):=vM (k:=fun v=>Gb (v,H2)) h
theorem yr {α β:Type}{h:α->List β}(hh:∀x,(h x).length<=1):∀l:List α,(l.flatMap h).length<=l.length
 | []=>Ix _
 |x::l=>by rw[N3,Ig,Jm];have:=hh x;have:=yr hh l;omega
theorem jtg {o x}(hl:(o.getD []).length<SM)(hk:kj (·.k) (o.getD []))(h0:0<=x.n):∃v w,f217 o x=Gb (v,w)/\v.getD []=kM (o.getD []) x.k x.n:=by
 let h:bG->List bG:=fun y=>if dq x.k y then(if 0<x.n then [x]else [])else [y]
 have hh:∀y,(h y).length<=1:=by intro y;simp only[h];split<;>(try split)<;>simp
 have L:=W1 (l:=o.getD []) (h:=h) (q:=dq x.k) (f:=B0 o x) hh (fun o b w=>by unfold B0;simp only[z4];rfl) (fun i y a b hy hi ha=>by
  unfold B0;simp only[yn hi,cond_true,qa,ja hy];rw[za (by unfold SM at hl;omega)];simp only[h,dq];by_cases Y:y.k=x.k
  ·by_cases I:0<x.n
   ·simp only[Y,I,decide_true,cond_true,if_true,Lm];rw[zN];exact vM (x:=x) (k:=fun v=>Gb (N4 (v,H2,((i+1:Nat):Int),H2))) (by unfold SM at hl;omega)
   ·simp[Y,I]
  ·simp only[Y,decide_false,cond_false,Gd,if_false,Jg];rw[zN]
   exact vM (x:=y) (k:=fun v=>Gb (N4 (v,b,((i+1:Nat):Int),H2))) (by unfold SM at hl;omega))
 unfold f217;rw[L];simp only[qa];have hlen:((o.getD []).flatMap h).length<SM:=Lz (yr hh _) hl;by_cases hn:x.n=0
 .have hp:decide (0<x.n)=Ha:=by rw[hn];rfl
  have hf:(o.getD []).flatMap h=(o.getD []).filter fun y=>!dq x.k y:=by
   rw[show h=fun y=>if(!dq x.k y)then [id y]else [] by funext y;simp only[h,hn];cases dq x.k y<;>rfl,WW,List.map_id]
  unfold kM;rw[if_pos hn,hp,<-hf];cases (o.getD []).any (dq x.k)<;>exact⟨_,_,rfl,zb _⟩
 .have hp:decide (0<x.n)=H2:=decide_eq_true (by omega)
  have hf:(o.getD []).flatMap h=(o.getD []).map fun y=>if dq x.k y then x else y:=by
   rw[<-J5]
   congr 1
   funext y
   have:0<x.n:=by omega
   simp only[h,this,if_true];cases dq x.k y<;>rfl
  have vk:=q5g (key:=fun y:bG=>y.k) (k:=x.k) (x:=x) hk;unfold kM;rw[if_neg hn,hp,show(⟨x.k,x.n⟩:bG)=x from rfl,show kc (dq x.k) x (o.getD [])=Gy (dq x.k) x (o.getD [])from vk.symm];unfold Gy;rw[<-hf]
  cases ha:(o.getD []).any (dq x.k)with
  |true=>exact⟨_,_,rfl,by rw[zb];simp⟩
  |false=>
   simp only[cond_false,cond_true,Gd,if_false];have:=W2 (x:=x) hlen;simp only[qa]at this;rw[this];exact⟨_,_,rfl,zb _⟩
theorem juc {o x}(hl:(o.getD []).length<SM)(hk:kj (·.k) (o.getD [])):∃v w,f218 o x=Gb (v,w)/\v.getD []=kc (eR x.k) x (o.getD []):=by
 let h:jh->List jh:=fun y=>if eR x.k y then [x]else [y]
 have hh:∀y,(h y).length<=1:=by intro y;simp only[h];split<;>simp
 have L:=W1 (l:=o.getD []) (h:=h) (q:=eR x.k) (f:=B1 o x) hh (fun o b w=>by unfold B1;simp only[z4];rfl) (fun i y a b hy hi ha=>by
  unfold B1;simp only[yn hi,cond_true,qa,ja hy];rw[za (by unfold SM at hl;omega)];simp only[h,eR];by_cases Y:y.k=x.k
  ·simp only[Y,decide_true,cond_true,if_true,Lm];rw[zN];exact vM (x:=x) (k:=fun v=>Gb (N4 (v,H2,((i+1:Nat):Int),H2))) (by unfold SM at hl;omega)
  ·simp only[Y,decide_false,cond_false,Gd,if_false,Jg];rw[zN]
   exact vM (x:=y) (k:=fun v=>Gb (N4 (v,b,((i+1:Nat):Int),H2))) (by unfold SM at hl;omega))
 unfold f218;rw[L];simp only[qa];have hlen:((o.getD []).flatMap h).length<SM:=Lz (yr hh _) hl
 have hf:(o.getD []).flatMap h=(o.getD []).map fun y=>if eR x.k y then x else y:=by
  rw[<-J5]
  congr 1
  funext y;simp only[h];cases eR x.k y<;>rfl
 have vk:=q5g (key:=fun y:jh=>y.k) (k:=x.k) (x:=x) hk;rw[show kc (eR x.k) x (o.getD [])=Gy (eR x.k) x (o.getD [])from vk.symm];unfold Gy;rw[<-hf]
 cases ha:(o.getD []).any (eR x.k)with
 |true=>exact⟨_,_,rfl,by rw[zb];simp⟩
 |false=>
  simp only[cond_false,Gd,if_false];have:=W2 (x:=x) hlen;simp only[qa]at this;rw[this];exact⟨_,_,rfl,zb _⟩
theorem q40 {α:Type}{f}:∀ {l:List α},(∀x∈l,f x=x)->l.map f=l
 | [],_=>rfl
 |x::l,h=>by rw[Iy,h x (R1 ..),q40 fun y hy=>h y (Om _ hy)]
theorem jdp {k:aj}{F:bG->bG}:∀ {l:List bG},kj (·.k) l->(l.map fun y=>if dq k y then F y else y)=(match l.findIdx? (dq k)with
  |some i=>(match l[i]? with
   |some x=>l.set i (F x)
   |none=>l)
  |none=>l)
 | [],_=>rfl
 |y::l,h=>by
  have h':kj (·.k) l:=(Uu.1 h).2;have hn:¬y.k∈l.map (·.k):=(Uu.1 h).1;rw[Iy,Rn]
  cases hy:dq k y with
  |true=>
   have hk:y.k=k:=of_decide_eq_true hy;simp only[if_true]
   rw[q40 fun x M=>by
    have:dq k x=Ha:=decide_eq_false fun hxk=>hn (by rw[hk,<-hxk];exact I0 M)
    rw[this];rfl]
   rfl
  |false=>
   simp only[Gd,if_false];rw[jdp h']
   cases hi:l.findIdx? (dq k)with
   |none=>rfl
   |some i=>
    obtain⟨x,Y,_⟩:=bZ hi;simp[Y]
theorem ju7 {o k n}(hl:(o.getD []).length<SM)(hk:kj (·.k) (o.getD [])):∃v w,f262 o k n=Gb (v,w)/\v.getD []=oS (qd .i64) (o.getD []) k n:=by
 let h:bG->List bG:=fun y=>if dq k y then [⟨y.k,qd .i64 (y.n+n)⟩]else [y]
 have hh:∀y,(h y).length<=1:=by intro y;simp only[h];split<;>simp
 have L:=W1 (l:=o.getD []) (h:=h) (q:=dq k) (f:=B2 o k n) hh (fun o b w=>by unfold B2;simp only[z4];rfl) (fun i y a b hy hi ha=>by
  unfold B2;simp only[yn hi,cond_true,qa,ja hy];rw[za (by unfold SM at hl;omega)];simp only[h,dq];by_cases Y:y.k=k
  ·simp only[Y,decide_true,cond_true,if_true,Lm];rw[zN];exact vM (x:=(⟨k,qd .i64 (y.n+n)⟩:bG)) (k:=fun v=>Gb (N4 (v,H2,((i+1:Nat):Int),H2))) (by unfold SM at hl;omega)
  ·simp only[Y,decide_false,cond_false,Gd,if_false,Jg];rw[zN]
   exact vM (x:=y) (k:=fun v=>Gb (N4 (v,b,((i+1:Nat):Int),H2))) (by unfold SM at hl;omega))
 unfold f262;rw[L];simp only[qa];have hlen:((o.getD []).flatMap h).length<SM:=Lz (yr hh _) hl
 have hf:(o.getD []).flatMap h=(o.getD []).map fun y=>if dq k y then(⟨k,qd .i64 (n+y.n)⟩:bG)else y:=by
  rw[<-J5]
  congr 1
  funext y;simp only[h]
  cases hy:dq k y with
  |false=>rfl|true=>rw[show y.k=k from of_decide_eq_true hy,Int.add_comm];rfl
 rw[jdp hk]at hf;unfold oS
 cases hi:(o.getD []).findIdx? (dq k)with
 |some i=>
  obtain⟨x,Y,_⟩:=bZ hi
  have ha:(o.getD []).any (dq k)=H2:=by rw[Gu,hi];rfl
  rw[hi]at hf;simp only[Y]at hf ⊢;rw[ha,hf];exact⟨_,_,rfl,zb _⟩
 |none=>
  have ha:(o.getD []).any (dq k)=Ha:=by rw[Gu,hi];rfl
  rw[hi]at hf;simp only at hf ⊢;rw[ha];have:=W2 (x:=(⟨k,n⟩:bG)) hlen;simp only[qa]at this;simp only[cond_false];rw[this,hf];exact⟨_,_,rfl,zb _⟩
end Go.Z
namespace Go.Z
open Go Go.Abs Go.W
abbrev BB:Nat:=1000000
structure GB (r:av):Prop where
 L:(r.ay.getD []).length<=BB
 P:(r.ah.getD []).length<=BB
 U:(r.units.getD []).length<=BB
 D:∀p∈r.ah.getD [],(p.bm.getD []).length<=BB/\(p.dn.getD []).length<=BB/\(p.dt.getD []).length<=BB/\∀d∈p.bm.getD [],(d.bh.getD []).length<=BB/\(d.aS.getD []).length<=BB
 N:∀u∈r.units.getD [],(u.uses.getD []).length<=BB/\(u.results.getD []).length<=BB
theorem jg {n}(h:n<=BB):n<=SM:=by unfold BB at h;unfold SM;omega
theorem oi {n}(h:n<=BB):n<SM:=by unfold BB at h;unfold SM;omega
def oT (x:Option (Int×av))(y:sn):Prop:=∃c r',x=Gb (c,r')/\match y with
 | .error k=>c=k/\k≠0| .ok s=>c=0/\r'.er=s
variable {r:av}{e:aC}
theorem Pm {a lo hi}:f124 a lo hi=Gb (if a<lo\/hi<a then 3 else 0):=by
 unfold f124;by_cases Y:a<lo
 .simp[Y,ym,qa]
 .by_cases I:hi<a<;>simp[Y,I,ym,qa]
theorem y8 {k}:ea (Gb k)=(k:Int):=rfl
theorem xy {o}:decide (0<=ea o)=o.isSome:=xu o
theorem Ks {n k}(h:zx r.er n=Gb k):∃x,(r.ay.getD [])[k]?=Gb x/\x.name=n:=by
 obtain⟨x,Y,I,_⟩:=bZ h;exact⟨x,Y,of_decide_eq_true I⟩
theorem zW {n k}(h:zo r.er n=Gb k):∃p,(r.ah.getD [])[k]?=Gb p/\p.name=n/\r.er.ah[k]?=Gb p.er:=by
 rw[Pj]at h;obtain⟨x,Y,I,_⟩:=bZ h;exact⟨x,Y,of_decide_eq_true I,by rw[zP,Io,Y];rfl⟩
theorem oU {n k}(h:zk r.er n=Gb k):∃u,(r.units.getD [])[k]?=Gb u/\u.name=n/\r.er.units[k]?=Gb u.er:=by
 rw[WT]at h;obtain⟨x,Y,I,_⟩:=bZ h;exact⟨x,Y,of_decide_eq_true I,by rw[vN,Io,Y];rfl⟩
theorem iH {α:Type}{l:List α}{a t}(h:l=a::t):ql l 0=Gb a:=by subst h;rfl
theorem iz {α:Type}{l:List α}{a b t}(h:l=a::b::t):ql l 1=Gb b:=by subst h;rfl
theorem jye {α:Type}{l:List α}{a b c t}(h:l=a::b::c::t):ql l 2=Gb c:=by subst h;rfl
theorem fq {a t}(h:e.names.getD []=a::t):nm e.er 0=a:=by unfold nm;rw[show e.er.names=e.names.getD []from rfl,h];rfl
theorem nA {a b t}(h:e.names.getD []=a::b::t):nm e.er 1=b:=by unfold nm;rw[show e.er.names=e.names.getD []from rfl,h];rfl
theorem vl0 {a t}(h:e.values.getD []=a::t):vl e.er 0=a:=by unfold vl;rw[show e.er.values=e.values.getD []from rfl,h];rfl
theorem vQ {a b t}(h:e.values.getD []=a::b::t):vl e.er 1=b:=by unfold vl;rw[show e.er.values=e.values.getD []from rfl,h];rfl
theorem vl2 {a b c t}(h:e.values.getD []=a::b::c::t):vl e.er 2=c:=by unfold vl;rw[show e.er.values=e.values.getD []from rfl,h];rfl
theorem xB:r.er.ay=r.ay.getD []:=rfl
theorem av.eta (r:av):(⟨r.day,r.ay,r.ah,r.units⟩:av)=r:=rfl
theorem zez (b:GB r){n0 n1:aj}{v0 v1:Int}(hk:e.kind=oc)(hn:e.names.getD []=[n0,n1])(hv:e.values.getD []=[v0,v1]):
  oT (fL 106 r e) (apply (qd .i64) r.er e.er):=by
 have hR:apply (qd .i64) r.er e.er=pS r.er e.er:=by unfold apply;rw[if_pos (.inl hk)]
 rw[hR];unfold pS;rw[if_pos (show e.er.kind=oc from hk),fq hn,nA hn,vQ hv,xB];have hA:fL 106 r e=qa (f106 e r.day r.ay r.ah r.units) fun v=>Gb (v.1,{ r with ay:=v.2.1 }):=rfl;rw[hA];unfold f106;simp only[av.eta,iH hn,iz hn,iz hv,qa,Gp (jg b.L),ym,Pm,xy];rw[jX (by simp[SM])];simp only[jtm (oi b.L)]
 cases (zx r.er n0).isSome with
 |true=>exact⟨_,_,rfl,rfl,by decide⟩
 |false=>
  by_cases Y:v1<1\/10000<v1
  .simp only[Gd,if_false,Y,if_true,iV];exact⟨_,_,rfl,rfl,by decide⟩
  .by_cases I:64<=(r.ay.getD []).length
   .have il:decide (64<=((r.ay.getD []).length:Int))=H2:=decide_eq_true (by omega);simp only[Gd,if_false,Y,I,il,if_true,iV];exact⟨_,_,rfl,rfl,by decide⟩
   .have il:decide (64<=((r.ay.getD []).length:Int))=Ha:=decide_eq_false (by omega);simp only[Gd,if_false,Y,I,il,if_true,iV];exact⟨_,_,rfl,rfl,rfl⟩
theorem q1r {o p}(h:o=Gb (r.ah.getD []++[p])):({ r with ah:=o }:av).er={ r.er with ah:=r.er.ah++[p.er] }:=by
 subst h;simp only[av.er,Hb,I6,Iy,Jj]
theorem q0f {o p}(h:o=Gb (r.units.getD []++[p])):({ r with units:=o }:av).er={ r.er with units:=r.er.units++[p.er] }:=by
 subst h;simp only[av.er,Hb,I6,Iy,Jj]
theorem Gz {o p k}(h:o=Gb ((r.ah.getD []).set k p)):({ r with ah:=o }:av).er=bM r.er k p.er:=by
 subst h;simp only[av.er,bM,Hb,Jv]
theorem zX {o p k}(h:o=Gb ((r.units.getD []).set k p)):({ r with units:=o }:av).er=aJ r.er k p.er:=by
 subst h;simp only[av.er,aJ,Hb,Jv]
theorem Pn {o p k}(h:o=Gb ((r.ay.getD []).set k p)):({ r with ay:=o }:av).er=cA r.er k p:=by
 subst h;simp only[av.er,cA,Hb]
theorem zhw (b:GB r){n0:aj}{v0:Int}(hk:e.kind=oP)(hn:e.names.getD []=[n0])(hv:e.values.getD []=[v0]):
  oT (fL 107 r e) (apply (qd .i64) r.er e.er):=by
 have hR:apply (qd .i64) r.er e.er=pS r.er e.er:=by unfold apply;rw[if_pos (.inr (.inl hk))]
 rw[hR];unfold pS;rw[if_neg (show ¬e.er.kind=oc from fun h=>by rw[show e.er.kind=e.kind from rfl,hk]at h;exact absurd h (by decide)),if_pos (show e.er.kind=oP from hk),fq hn];have hA:fL 107 r e=qa (f107 e r.day r.ay r.ah r.units) fun v=>Gb (v.1,{ r with ah:=v.2.1 }):=rfl;rw[hA];unfold f107;simp only[av.eta,iH hn,qa,tM (jg b.P),ym,xy];rw[jX (by simp[SM])];simp only[juy (oi b.P)]
 have hl:r.er.ah.length=(r.ah.getD []).length:=by rw[zP,If]
 rw[hl]
 cases (zo r.er n0).isSome with
 |true=>exact⟨_,_,rfl,rfl,by decide⟩
 |false=>
  by_cases I:16<=(r.ah.getD []).length
  .have il:decide (16<=((r.ah.getD []).length:Int))=H2:=decide_eq_true (by omega);simp only[Gd,if_false,I,il,if_true,iV];exact⟨_,_,rfl,rfl,by decide⟩
  .have il:decide (16<=((r.ah.getD []).length:Int))=Ha:=decide_eq_false (by omega);simp only[Gd,if_false,I,il,if_true,iV];exact⟨_,_,rfl,rfl,q1r rfl⟩
theorem zd8 (b:GB r){n0 n1:aj}{v0:Int}{k}(hk:e.kind=qS)(hn:e.names.getD []=[n0,n1])(hv:e.values.getD []=[v0])(hp:zo r.er n1=Gb k):
  oT (fL 111 r e) (apply (qd .i64) r.er e.er):=by
 have hR:apply (qd .i64) r.er e.er=pS r.er e.er:=by unfold apply;rw[if_pos (.inr (.inr hk))]
 rw[hR];obtain⟨p,Y,_,h3⟩:=zW hp
 have hpo:ky r.er n1=Gb p.er:=by unfold ky;rw[hp];exact h3
 unfold pS;rw[if_neg (show ¬e.er.kind=oc from fun h=>by rw[show e.er.kind=e.kind from rfl,hk]at h;exact absurd h (by decide)),if_neg (show ¬e.er.kind=oP from fun h=>by rw[show e.er.kind=e.kind from rfl,hk]at h;exact absurd h (by decide)),fq hn,nA hn,hpo];have hA:fL 111 r e=qa (f111 e r.day r.ay r.ah r.units) fun v=>Gb (v.1,{ r with units:=v.2.1 }):=rfl;rw[hA];unfold f111 f96;simp only[av.eta,iH hn,iz hn,qa,tM (jg b.P),vO (jg b.U),ym,xy,hp,y8,ja Y];rw[jX (by simp[SM])];simp only[jsc (oi b.U)]
 have hl:r.er.units.length=(r.units.getD []).length:=by rw[vN,If]
 have hd:p.er.bm.isEmpty=decide (((p.bm.getD []).length:Int)=0):=by
  show((p.bm.getD []).map cn.er).isEmpty=_
  cases p.bm.getD []with
  |nil=>rfl|cons x l=>simp;omega
 have qV:p.er.bm.length=(p.bm.getD []).length:=by show((p.bm.getD []).map cn.er).length=_;rw[If]
 simp only[hl,hd,qV]
 cases (zk r.er n0).isSome with
 |true=>exact⟨_,_,rfl,rfl,by decide⟩
 |false=>
  cases hz:decide (((p.bm.getD []).length:Int)=0)with
  |true=>exact⟨_,_,rfl,rfl,by decide⟩
  |false=>
   by_cases I:256<=(r.units.getD []).length
   .have il:decide (256<=((r.units.getD []).length:Int))=H2:=decide_eq_true (by omega);simp only[Gd,if_false,I,il,if_true,iV];exact⟨_,_,rfl,rfl,by decide⟩
   .have il:decide (256<=((r.units.getD []).length:Int))=Ha:=decide_eq_false (by omega);simp only[Gd,if_false,I,il,if_true,iV];exact⟨_,_,rfl,rfl,q0f rfl⟩
theorem jux {p c n}(hl:(p.dn.getD []).length<SM):∃v,Kt c n n p=Gb { p with dn:=v }/\v.getD []=kM (p.dn.getD []) n c:=by
 unfold Kt kM;by_cases h:c=0
 .simp only[h,decide_true,cond_true,if_true,jum (Lg hl),qa];exact⟨_,rfl,zb _⟩
 .obtain⟨v,w,Y,I⟩:=juw (x:=⟨n,c⟩) (k:=n) hl;simp only[h,decide_false,cond_false,if_false,Y,qa];exact⟨_,rfl,I⟩
theorem jqc (b:GB r){n0 n1 c k p}(hp:zo r.er n0=Gb k)(M:(r.ah.getD [])[k]?=Gb p):∃v,B3 n0 c n1 n1 r.day r.ay r.ah r.units=Gb (Gb ((r.ah.getD []).set k { p with dn:=v }))/\v.getD []=kM (p.dn.getD []) n1 c:=by
 obtain⟨v,Y,I⟩:=jux (c:=c) (n:=n1) (oi (b.D p (Hq M)).2.1);refine⟨v,?_,I⟩;unfold B3 W4;simp only[av.eta,tM (jg b.P),hp,y8,qa];rw[pR (jg b.P) M Y]
theorem jos (b:GB r){n0 t k p}(hp:zo r.er n0=Gb k)(M:(r.ah.getD [])[k]?=Gb p):∃v,GD n0 t t r.day r.ay r.ah r.units=Gb (Gb ((r.ah.getD []).set k { p with dt:=v }))/\v.getD []=kc (eR t.k) t (p.dt.getD []):=by
 obtain⟨v,w,Y,I⟩:=jvx (x:=t) (s:=t) (o:=p.dt) (oi (b.D p (Hq M)).2.2.1);refine⟨v,?_,I⟩;unfold GD W7;simp only[av.eta,tM (jg b.P),hp,y8,qa];rw[pR (jg b.P) M (show Ku t t p=Gb { p with dt:=v } by unfold Ku;rw[Y];rfl)]
theorem Po {n0:aj}{k:Nat}{p:bw}(hn:nm e.er 0=n0)(hp:zo r.er n0=Gb k)(h3:r.er.ah[k]?=Gb p.er):pT r.er e.er =
   if e.kind=od then
    (if vl e.er 1<0\/10000<vl e.er 1 then .error 3 else if 0<vl e.er 1/\!((p.dn.getD []).any (dq (nm e.er 1)))/\16<=(p.dn.getD []).length then .error 5 else
     .ok (bM r.er k { p.er with b6:={ p.er.b6 with bh:=kM (p.dn.getD []) (nm e.er 1) (vl e.er 1) } }))
   else if e.kind=lW then
    (if vl e.er 2<vl e.er 1 then .error 11 else if !((p.dt.getD []).any (eR (nm e.er 1)))/\16<=(p.dt.getD []).length then .error 5 else
     .ok (bM r.er k { p.er with b6:={ p.er.b6 with aS:=kc (eR (nm e.er 1)) ⟨nm e.er 1,vl e.er 1,vl e.er 2⟩ (p.dt.getD []) } }))
   else(if(p.dn.getD []).isEmpty then .error 12 else if 100<=p.er.bm.length then .error 5 else .ok (bM r.er k { p.er with bm:=p.er.bm++[p.er.b6] })):=by
 unfold pT;rw[hn,hp];simp only[h3];rfl
theorem zfg (b:GB r){n0 n1:aj}{v0 v1:Int}{k:Nat}(hk:e.kind=od)(hn:e.names.getD []=[n0,n1])(hv:e.values.getD []=[v0,v1])(hp:zo r.er n0=Gb k):
  oT (fL 108 r e) (apply (qd .i64) r.er e.er):=by
 have hR:apply (qd .i64) r.er e.er=pT r.er e.er:=by
  unfold apply;rw[show e.er.kind=od from hk,if_neg (by decide),if_pos (.inl rfl)]
 obtain⟨p,Y,_,h3⟩:=zW hp;rw[hR,Po (fq hn) hp h3,if_pos hk,nA hn,vQ hv];have hA:fL 108 r e=qa (f108 e r.day r.ay r.ah r.units) fun v=>Gb (v.1,{ r with ah:=v.2 }):=rfl;rw[hA];obtain⟨v,g1,g2⟩:=jqc b (n1:=n1) (c:=v1) hp Y;have A8:=(b.D p (Hq Y)).2.1
 have dG:({ r with ah:=Gb ((r.ah.getD []).set k { p with dn:=v }) }:av).er=bM r.er k { p.er with b6:={ p.er.b6 with bh:=kM (p.dn.getD []) n1 v1 } }:=by
  rw[Gz rfl]
  congr 1
  simp only[bw.er,g2]
 unfold f108;simp only[av.eta,iH hn,iz hn,iz hv,qa,tM (jg b.P),hp,y8,ja Y,Pm,ym,jl3 (jg A8),g1];by_cases hz:v1<0\/10000<v1
 .simp only[hz,if_true,if_false,Gd];cases decide (0<v1)<;>cases (p.dn.getD []).any (dq n1)<;>(simp only[cond_true,cond_false];rw[jX (by simp[SM])];exact⟨_,_,rfl,rfl,by decide⟩)
 .simp only[hz,if_false,if_true,Gd];by_cases h0:0<v1
  .rw[decide_eq_true h0]
   cases ha:(p.dn.getD []).any (dq n1)with
   |true=>
    simp only[cond_true,Ir,Gd,false_and,and_false,if_false];rw[jX (by simp[SM])];exact⟨_,_,rfl,rfl,dG⟩
   |false=>
    simp only[cond_true,cond_false,Lq,true_and,h0];rw[jX (by simp[SM])];by_cases I:16<=(p.dn.getD []).length
    .rw[show decide (16<=((p.dn.getD []).length:Int))=H2 from decide_eq_true (by omega),if_pos I];exact⟨_,_,rfl,rfl,by decide⟩
    .rw[show decide (16<=((p.dn.getD []).length:Int))=Ha from decide_eq_false (by omega),if_neg I];exact⟨_,_,rfl,rfl,dG⟩
  .rw[decide_eq_false h0,if_neg (show ¬(0<v1/\(!(p.dn.getD []).any (dq n1))=H2/\16<=(p.dn.getD []).length)from fun h=>h0 h.1)];simp only[cond_false];rw[jX (by simp[SM])];exact⟨_,_,rfl,rfl,dG⟩
theorem zkc (b:GB r){n0 n1:aj}{v0 v1 v2:Int}{k:Nat}(hk:e.kind=lW)(hn:e.names.getD []=[n0,n1])(hv:e.values.getD []=[v0,v1,v2])(hp:zo r.er n0=Gb k):
  oT (fL 109 r e) (apply (qd .i64) r.er e.er):=by
 have hR:apply (qd .i64) r.er e.er=pT r.er e.er:=by
  unfold apply;rw[show e.er.kind=lW from hk,if_neg (by decide),if_pos (.inr (.inl rfl))]
 obtain⟨p,Y,_,h3⟩:=zW hp;rw[hR,Po (fq hn) hp h3,if_neg (by rw[hk];decide),if_pos hk,nA hn,vQ hv,vl2 hv];have hA:fL 109 r e=qa (f109 e r.day r.ay r.ah r.units) fun v=>Gb (v.1,{ r with ah:=v.2 }):=rfl;rw[hA];obtain⟨v,g1,g2⟩:=jos b (t:=⟨n1,v1,v2⟩) hp Y;have A8:=(b.D p (Hq Y)).2.2.1
 have dG:({ r with ah:=Gb ((r.ah.getD []).set k { p with dt:=v }) }:av).er=bM r.er k { p.er with b6:={ p.er.b6 with aS:=kc (eR n1) ⟨n1,v1,v2⟩ (p.dt.getD []) } }:=by
  rw[Gz rfl]
  congr 1
  simp only[bw.er,g2]
 unfold f109;simp only[av.eta,iH hn,iz hn,iz hv,jye hv,qa,tM (jg b.P),hp,y8,ja Y,ym,jok (jg A8),g1];by_cases hz:v2<v1
 .rw[decide_eq_true hz,if_pos hz];cases (p.dt.getD []).any (eR n1)<;>(simp only[cond_true,cond_false];rw[jX (by simp[SM])];exact⟨_,_,rfl,rfl,by decide⟩)
 .rw[decide_eq_false hz,if_neg hz]
  cases ha:(p.dt.getD []).any (eR n1)with
  |true=>
   simp only[cond_true,Ir,Gd,false_and,if_false];rw[jX (by simp[SM])];exact⟨_,_,rfl,rfl,dG⟩
  |false=>
   simp only[cond_false,Lq,true_and];rw[jX (by simp[SM])];by_cases I:16<=(p.dt.getD []).length
   .rw[show decide (16<=((p.dt.getD []).length:Int))=H2 from decide_eq_true (by omega),if_pos I];exact⟨_,_,rfl,rfl,by decide⟩
   .rw[show decide (16<=((p.dt.getD []).length:Int))=Ha from decide_eq_false (by omega),if_neg I];exact⟨_,_,rfl,rfl,dG⟩
theorem q80 {α:Type}{o:Option (List α)}(h:(o.getD []).length<=SM):∃v w,(cond o.isNone (Gb (I5,Ha)) (qa (bB (Gb []) (o.getD [])) fun v=>Gb (v,H2)))=Gb (v,w)/\v.getD []=o.getD []:=by
 cases o with
 |none=>exact⟨I5,Ha,rfl,rfl⟩
 |some l=>
  have h':l.length<=SM:=h;simp only[Lu,cond_false,Hb];rw[xw h'];exact⟨_,_,rfl,rfl⟩
theorem jvg {d:cn}(Y:(d.bh.getD []).length<=SM)(I:(d.aS.getD []).length<=SM):∃d',f185 d=Gb d'/\d'.er=d.er:=by
 obtain⟨v,w,g1,g2⟩:=q80 Y;obtain⟨v',w',g3,g4⟩:=q80 I;unfold f185;rw[show f238 d.bh=Gb (v,w)from g1,show f239 d.aS=Gb (v',w')from g3];exact⟨⟨v,v'⟩,rfl,by simp only[cn.er,g2,g4]⟩
theorem zhz (b:GB r){n0:aj}{v0:Int}{k:Nat}(hk:e.kind=sg)(hn:e.names.getD []=[n0])(hv:e.values.getD []=[v0])(hp:zo r.er n0=Gb k):
  oT (fL 110 r e) (apply (qd .i64) r.er e.er):=by
 have hR:apply (qd .i64) r.er e.er=pT r.er e.er:=by
  unfold apply;rw[show e.er.kind=sg from hk,if_neg (by decide),if_pos (.inr (.inr rfl))]
 obtain⟨p,Y,_,h3⟩:=zW hp;rw[hR,Po (fq hn) hp h3,if_neg (by rw[hk];decide),if_neg (by rw[hk];decide)];have hA:fL 110 r e=qa (f110 e r.day r.ay r.ah r.units) fun v=>Gb (v.1,{ r with ah:=v.2 }):=rfl;rw[hA];have hD:=b.D p (Hq Y);obtain⟨d',g1,g2⟩:=jvg (d:=⟨p.dn,p.dt⟩) (jg hD.2.1) (jg hD.2.2.1)
 have g3:Pp r.ah (k:Int)=Gb (Gb ((r.ah.getD []).set k { p with bm:=Gb (p.bm.getD []++[d']) })):=by
  unfold Pp;exact pR (jg b.P) Y (by unfold Pq;rw[g1];simp only[qa];rw[ju9 (oi hD.1)])
 have dG:({ r with ah:=Gb ((r.ah.getD []).set k { p with bm:=Gb (p.bm.getD []++[d']) }) }:av).er=bM r.er k { p.er with bm:=p.er.bm++[p.er.b6] }:=by
  rw[Gz rfl]
  congr 1
  simp only[bw.er,Hb,I6,Iy,Jj,g2];rfl
 have qV:p.er.bm.length=(p.bm.getD []).length:=by show((p.bm.getD []).map cn.er).length=_;rw[If]
 have hd:(p.dn.getD []).isEmpty=decide (((p.dn.getD []).length:Int)=0):=by
  cases p.dn.getD []with
  |nil=>rfl|cons x l=>simp;omega
 unfold f110;simp only[av.eta,iH hn,qa,tM (jg b.P),hp,y8,ja Y,ym,g3,hd,qV];rw[jX (by simp[SM])]
 cases decide (((p.dn.getD []).length:Int)=0)with
 |true=>exact⟨_,_,rfl,rfl,by decide⟩
 |false=>
  by_cases I:100<=(p.bm.getD []).length
  .rw[show decide (100<=((p.bm.getD []).length:Int))=H2 from decide_eq_true (by omega),if_pos I];exact⟨_,_,rfl,rfl,by decide⟩
  .rw[show decide (100<=((p.bm.getD []).length:Int))=Ha from decide_eq_false (by omega),if_neg I];exact⟨_,_,rfl,rfl,dG⟩
end Go.Z
namespace Go.Z
open Go Go.Abs Go.W
variable {r:av}{e:aC}
theorem ly {k}(hk:e.kind=k)(h:¬(k=oc\/k=oP\/k=qS))(I:¬(k=od\/k=lW\/k=sg)):apply (qd .i64) r.er e.er=if k=pP\/k=tK then vR r.er e.er else pU (qd .i64) r.er e.er:=by
 unfold apply;rw[show e.er.kind=k from hk,if_neg h,if_neg I]
theorem zd9 (b:GB r){n0 v0 k}(hk:e.kind=pP)(hn:e.names.getD []=[n0])(hv:e.values.getD []=[v0])(hp:zx r.er n0=Gb k):
  oT (fL 116 r e) (apply (qd .i64) r.er e.er):=by
 rw[ly hk (by decide) (by decide),if_pos (.inl rfl)];obtain⟨x,Y,_⟩:=Ks hp;have hA:fL 116 r e=qa (f116 e r.day r.ay r.ah r.units) fun v=>Gb (v.1,{ r with ay:=v.2 }):=rfl;rw[hA];have g1:Xa r.ay (k:Int)=Gb (Gb ((r.ay.getD []).set k { x with held:=H2 })):=pR (jg b.L) Y rfl;unfold vR;rw[fq hn,hp];simp only[xB,Y];rw[if_pos (show e.er.kind=pP from hk)];unfold f116;simp only[av.eta,iH hn,qa,Gp (jg b.L),hp,y8,ja Y,g1]
 cases x.held with
 |true=>exact⟨_,_,rfl,rfl,by decide⟩|false=>exact⟨_,_,rfl,rfl,Pn rfl⟩
theorem zd4 (b:GB r){n0 v0 k}(hk:e.kind=tK)(hn:e.names.getD []=[n0])(hv:e.values.getD []=[v0])(hp:zx r.er n0=Gb k):
  oT (fL 117 r e) (apply (qd .i64) r.er e.er):=by
 rw[ly hk (by decide) (by decide),if_pos (.inr rfl)];obtain⟨x,Y,_⟩:=Ks hp;have hA:fL 117 r e=qa (f117 e r.day r.ay r.ah r.units) fun v=>Gb (v.1,{ r with ay:=v.2 }):=rfl;rw[hA];have g1:Xb r.ay (k:Int)=Gb (Gb ((r.ay.getD []).set k { x with held:=Ha })):=pR (jg b.L) Y rfl;unfold vR;rw[fq hn,hp];simp only[xB,Y];rw[if_neg (show ¬e.er.kind=pP from fun h=>by rw[show e.er.kind=e.kind from rfl,hk]at h;exact absurd h (by decide))];unfold f117;simp only[av.eta,iH hn,qa,Gp (jg b.L),hp,y8,ja Y,g1]
 cases x.held with
 |true=>exact⟨_,_,rfl,rfl,Pn rfl⟩|false=>exact⟨_,_,rfl,rfl,by decide⟩
structure UOk (r:av)(u:bz)(D:cn)(v:Int):Prop where
 doc:f161 r u=Gb D
 xC:f157 r u=Gb D
 vS:gV r.er u.er=Gb D.er
 new:sj r.er u.er=Gb v
 bh:(D.bh.getD []).length<=BB
 aS:(D.aS.getD []).length<=BB
 uses:(u.uses.getD []).length<=BB
 results:(u.results.getD []).length<=BB
 ay:∀x∈u.uses.getD [],(zx r.er x.k).isSome=H2
 keyed:kj (·.k) (u.uses.getD [])
 bS:u.version≠-1
theorem jkz {u:bz}{d}(h:gV r.er u.er=Gb d):∃(k:Nat) (p:bw),(r.ah.getD [])[k]?=Gb p/\1<=u.version/\∃D:cn,D∈p.bm.getD []/\D.er=d:=by
 unfold gV at h
 cases hp:ky r.er u.er.product with
 |none=>rw[hp]at h;cases h
 |some sp=>
  rw[hp]at h;obtain⟨k,p,_,I,rfl,_⟩:=WU hp;simp only[Jz,BO]at h;split at h
  .rename_i hv;refine⟨k,p,I,hv,?_⟩;have h3:((p.bm.getD []).map cn.er)[(u.er.version-1).toNat]?=Gb d:=h;rw[Io]at h3
   cases hD:(p.bm.getD [])[(u.er.version-1).toNat]? with
   |none=>rw[hD]at h3;cases h3|some D=>rw[hD]at h3;exact⟨D,Hq hD,by simpa using h3⟩
  .cases h
theorem zY (b:GB r)(w:WF r.er){i:Nat}{u}(hu:(r.units.getD [])[i]?=Gb u):∃D v,UOk r u D v:=by
 have hm:=Hq hu
 have Xc:u.er∈r.er.units:=by rw[vN];exact I0 hm
 obtain⟨d,hd⟩:=Ju.1 (w.ew _ Xc);obtain⟨D,g1,g2,rfl⟩:=j0v (jg b.P) (fun p hp=>jg (b.D p hp).1) hd;obtain⟨k,p,hp,hv,D',pV,he⟩:=jkz hd;have hb:=(b.D p (Hq hp)).2.2.2 D' pV;have Y:D.bh.getD []=D'.bh.getD []:=congrArg kL.bh he.symm;have I:D.aS.getD []=D'.aS.getD []:=congrArg kL.aS he.symm
 have dC:(sj r.er u.er).isSome=H2:=by
  unfold sj;unfold gV at hd
  cases hq:ky r.er u.er.product with
  |none=>rw[hq]at hd;cases hd|some sp=>rfl
 obtain⟨v,Vn⟩:=Ju.1 dC;exact⟨D,v,g1,g2,hd,Vn,by rw[Y];exact hb.1,by rw[I];exact hb.2,(b.N u hm).1,(b.N u hm).2,(w.uses _ Xc).2,(w.uses _ Xc).1,by omega⟩
theorem xD {n0:aj}{k:Nat}{u:bz}(hn:nm e.er 0=n0)(hp:zk r.er n0=Gb k)(h3:r.er.units[k]?=Gb u.er):pU (qd .i64) r.er e.er =
   if e.kind=oe then xE (qd .i64) r.er k u.er e.er
   else if e.kind=oQ then xF r.er k u.er e.er
   else if e.kind=qT then
    (if u.ax then .error 21 else if !((gV r.er u.er).any fun d=>d.aS.any (eR (nm e.er 1)))then .error 7 else if 64<=(u.results.getD []).length then .error 5 else
     .ok (aJ r.er k { u.er with results:=u.results.getD []++[⟨nm e.er 1,u.version,vl e.er 1⟩] }))
   else if e.kind=si then
    (if u.ax then .error 21 else match sj r.er u.er with
     |none=>.error 32
     |some v=>if u.version=v then .error 32 else .ok (aJ r.er k { u.er with version:=v }))
   else if e.kind=lX then(if vP (qd .i64) r.er u.er≠0 then .error (vP (qd .i64) r.er u.er)else .ok (aJ r.er k { u.er with ax:=H2 }))
   else(if !u.ax then .error 20 else .ok (aJ r.er k { u.er with au:=qd .i64 (u.au+1) })):=by
 unfold pU;rw[hn,hp];simp only[h3];rfl
theorem zje (b:GB r)(w:WF r.er){n0:aj}{v0:Int}{k:Nat}(hk:e.kind=si)(hn:e.names.getD []=[n0])(hv:e.values.getD []=[v0])(hp:zk r.er n0=Gb k):
  oT (fL 114 r e) (apply (qd .i64) r.er e.er):=by
 rw[ly hk (by decide) (by decide),if_neg (by decide)];obtain⟨u,Y,_,h3⟩:=oU hp;obtain⟨D,v,o⟩:=zY b w Y;rw[xD (fq hn) hp h3,if_neg (by rw[hk];decide),if_neg (by rw[hk];decide),if_neg (by rw[hk];decide),if_pos hk,o.new];have hA:fL 114 r e=qa (f114 e r.day r.ay r.ah r.units) fun v=>Gb (v.1,{ r with units:=v.2 }):=rfl;rw[hA];have g1:Xd r.units (k:Int) v=Gb (Gb ((r.units.getD []).set k { u with version:=v })):=pR (jg b.U) Y rfl;generalize hU:({ u with version:=v }:bz)=U' at g1
 have dG:({ r with units:=Gb ((r.units.getD []).set k U') }:av).er=aJ r.er k { u.er with version:=v }:=by rw[zX rfl,<-hU];rfl
 unfold f114;simp only[av.eta,iH hn,qa,vO (jg b.U),hp,y8,ja Y,(Pk (jg b.P) o.new).1,ym,g1];rw[jX (by simp[SM])]
 cases u.ax with
 |true=>exact⟨_,_,rfl,rfl,by decide⟩
 |false=>
  by_cases h:u.version=v
  .rw[decide_eq_true h,if_pos h];exact⟨_,_,rfl,rfl,by decide⟩
  .rw[decide_eq_false h,if_neg h];exact⟨_,_,rfl,rfl,dG⟩
theorem zjw (b:GB r)(w:WF r.er){n0:aj}{v0:Int}{k:Nat}(hk:e.kind=lX)(hn:e.names.getD []=[n0])(hv:e.values.getD []=[v0])(hp:zk r.er n0=Gb k):
  oT (fL 118 r e) (apply (qd .i64) r.er e.er):=by
 rw[ly hk (by decide) (by decide),if_neg (by decide)];obtain⟨u,Y,_,h3⟩:=oU hp;obtain⟨D,v,o⟩:=zY b w Y;rw[xD (fq hn) hp h3,if_neg (by rw[hk];decide),if_neg (by rw[hk];decide),if_neg (by rw[hk];decide),if_neg (by rw[hk];decide),if_pos hk];have hA:fL 118 r e=qa (f118 e r.day r.ay r.ah r.units) fun v=>Gb (v.1,{ r with units:=v.2 }):=rfl;rw[hA];have g1:Xe r.units (k:Int)=Gb (Gb ((r.units.getD []).set k { u with ax:=H2 })):=pR (jg b.U) Y rfl;have g2:=js6 (jg b.P) o.new (jg b.L) (jg o.uses) o.ay o.doc o.vS (jg o.bh) (jg o.results) (jg o.aS) o.bS;unfold f118;simp only[av.eta,iH hn,qa,vO (jg b.U),hp,y8,ja Y,g2,g1];by_cases h:vP (qd .i64) r.er u.er=0
 .rw[decide_eq_true h,if_neg (fun hh=>hh h)];exact⟨_,_,rfl,rfl,zX rfl⟩
 .rw[decide_eq_false h,if_pos h];exact⟨_,_,rfl,rfl,h⟩
theorem zjc (b:GB r){n0:aj}{v0:Int}{k:Nat}(hk:e.kind=zO)(hn:e.names.getD []=[n0])(hv:e.values.getD []=[v0])(hp:zk r.er n0=Gb k):
  oT (fL 119 r e) (apply (qd .i64) r.er e.er):=by
 rw[ly hk (by decide) (by decide),if_neg (by decide)];obtain⟨u,Y,_,h3⟩:=oU hp;rw[xD (fq hn) hp h3,if_neg (by rw[hk];decide),if_neg (by rw[hk];decide),if_neg (by rw[hk];decide),if_neg (by rw[hk];decide),if_neg (by rw[hk];decide)];have hA:fL 119 r e=qa (f119 e r.day r.ay r.ah r.units) fun v=>Gb (v.1,{ r with units:=v.2 }):=rfl;rw[hA];have g1:Xf r.units (k:Int)=Gb (Gb ((r.units.getD []).set k { u with au:=qd .i64 (u.au+1) })):=pR (jg b.U) Y rfl;generalize hU:({ u with au:=qd .i64 (u.au+1) }:bz)=U' at g1
 have dG:({ r with units:=Gb ((r.units.getD []).set k U') }:av).er=aJ r.er k { u.er with au:=qd .i64 (u.au+1) }:=by rw[zX rfl,<-hU];rfl
 unfold f119;simp only[av.eta,iH hn,qa,vO (jg b.U),hp,y8,ja Y,g1]
 cases u.ax with
 |true=>exact⟨_,_,rfl,rfl,dG⟩|false=>exact⟨_,_,rfl,rfl,by decide⟩
theorem zfm (b:GB r)(w:WF r.er){n0 n1:aj}{v0 v1:Int}{k:Nat}(hk:e.kind=qT)(hn:e.names.getD []=[n0,n1])(hv:e.values.getD []=[v0,v1])(hp:zk r.er n0=Gb k):
  oT (fL 113 r e) (apply (qd .i64) r.er e.er):=by
 rw[ly hk (by decide) (by decide),if_neg (by decide)];obtain⟨u,Y,_,h3⟩:=oU hp;obtain⟨D,v,o⟩:=zY b w Y;rw[xD (fq hn) hp h3,if_neg (by rw[hk];decide),if_neg (by rw[hk];decide),if_pos hk,nA hn,vQ hv,o.vS];have hA:fL 113 r e=qa (f113 e r.day r.ay r.ah r.units) fun v=>Gb (v.1,{ r with units:=v.2 }):=rfl;rw[hA]
 have g1:Xg r.units (k:Int) e=Gb (Gb ((r.units.getD []).set k { u with results:=Gb (u.results.getD []++[⟨n1,u.version,v1⟩]) })):=pR (jg b.U) Y (by
  unfold Pr;rw[iz hn,iz hv];simp only[qa]
  rw[juq (oi o.results)])
 generalize hU:({ u with results:=Gb (u.results.getD []++[⟨n1,u.version,v1⟩]) }:bz)=U' at g1
 have dG:({ r with units:=Gb ((r.units.getD []).set k U') }:av).er=aJ r.er k { u.er with results:=u.results.getD []++[⟨n1,u.version,v1⟩] }:=by rw[zX rfl,<-hU];rfl
 unfold f113;simp only[av.eta,iH hn,qa,vO (jg b.U),hp,y8,ja Y,o.doc,jlp (iz hn) (jg o.aS),ym,g1,Ja];rw[jX (by simp[SM]),show D.er.aS=D.aS.getD []from rfl]
 cases u.ax with
 |true=>exact⟨_,_,rfl,rfl,by decide⟩
 |false=>
  cases (D.aS.getD []).any (eR n1)with
  |false=>exact⟨_,_,rfl,rfl,by decide⟩
  |true=>
   by_cases I:64<=(u.results.getD []).length
   .rw[show decide (64<=((u.results.getD []).length:Int))=H2 from decide_eq_true (by omega),if_pos I];exact⟨_,_,rfl,rfl,by decide⟩
   .rw[show decide (64<=((u.results.getD []).length:Int))=Ha from decide_eq_false (by omega),if_neg I];exact⟨_,_,rfl,rfl,dG⟩
theorem zib (b:GB r)(w:WF r.er){n0 n1:aj}{v0 v1:Int}{k j:Nat}(hk:e.kind=oe)(hn:e.names.getD []=[n0,n1])(hv:e.values.getD []=[v0,v1])(hp:zk r.er n0=Gb k)(hq:zx r.er n1=Gb j):
  oT (fL 112 r e) (apply (qd .i64) r.er e.er):=by
 rw[ly hk (by decide) (by decide),if_neg (by decide)];obtain⟨u,Y,_,h3⟩:=oU hp;obtain⟨x,h4,Ga⟩:=Ks hq;obtain⟨D,v,o⟩:=zY b w Y;rw[xD (fq hn) hp h3,if_pos hk];unfold xE;rw[nA hn,hq,vQ hv,o.vS];simp only[xB,h4];have hA:fL 112 r e=qa (f112 e r.day r.ay r.ah r.units) fun v=>Gb (v.1,{ r with ay:=v.2.1,units:=v.2.2 }):=rfl;rw[hA];have g1:Xh r.ay (j:Int) v1=Gb (Gb ((r.ay.getD []).set j { x with left:=qd .i64 (x.left-v1) })):=pR (jg b.L) h4 rfl;unfold f112;simp only[av.eta,iH hn,iz hn,iz hv,qa,vO (jg b.U),Gp (jg b.L),hp,hq,y8,ja Y,ja h4,o.doc,jp4 (jg o.bh),ym,g1,ju4 (jg o.uses),Ja];rw[jX (by simp[SM])];have hdn:D.er.bh=D.bh.getD []:=rfl;simp only[hdn]
 have ny:∀(s:bG),oS (qd .i64) (u.uses.getD []) x.name v1=kc (dq x.name) s (u.uses.getD [])->∃us,gP r.units (k:Int) (GF s x)=Gb us/\({ r with ay:=Gb ((r.ay.getD []).set j { x with left:=qd .i64 (x.left-v1) }),units:=us }:av).er=aJ (cA r.er j { x with left:=qd .i64 (x.left-v1) }) k { u.er with uses:=oS (qd .i64) u.er.uses x.name v1 }:=by
  intro s G;obtain⟨q,wq,q1,q2⟩:=jut (x:=s) (t:=x) (o:=u.uses) (oi o.uses);refine⟨_,pR (y:={ u with uses:=q }) (jg b.U) Y (by unfold GF;rw[q1];rfl),?_⟩;simp only[av.er,aJ,cA,Hb,Jv]
  congr 2
  simp only[bz.er,q2,G]
 by_cases G:u.ax=H2
 .simp only[if_pos G,if_pos (show u.er.ax=H2 from G)];exact⟨_,_,rfl,rfl,by decide⟩
 simp only[if_neg G,if_neg (show ¬u.er.ax=H2 from G)];by_cases hz:v1=0
 .simp only[if_pos hz,decide_eq_true hz,if_true];exact⟨_,_,rfl,rfl,by decide⟩
 simp only[if_neg hz,decide_eq_false hz,Gd,if_false];by_cases hh:x.held=H2
 .simp only[if_pos hh];exact⟨_,_,rfl,rfl,by decide⟩
 simp only[if_neg hh]
 cases (D.bh.getD []).any (dq x.kind)with
 |false=>exact⟨_,_,rfl,rfl,by decide⟩
 |true=>
 simp only[Ir,Gd,if_false];by_cases hl:x.left<v1
 .simp only[if_pos hl,decide_eq_true hl,if_true];exact⟨_,_,rfl,rfl,by decide⟩
 simp only[if_neg hl,decide_eq_false hl,Gd,if_false];have Kv:∀ {α:Type} (A B:Option α),cond (decide (iV [0,0,0,0,0]=0)) A B=A:=fun A B=>rfl
 cases hi:(u.uses.getD []).findIdx? (dq x.name)with
 |none=>
  obtain⟨us,q1,q2⟩:=ny ⟨x.name,v1⟩ (by unfold oS kc;rw[hi]);rw[Kv];rw[show decide (0<=ea I5)=Ha from rfl];simp only[cond_false,q1];exact⟨_,_,rfl,rfl,q2⟩
 |some i=>
  obtain⟨y,hy,_⟩:=bZ hi;obtain⟨us,q1,q2⟩:=ny ⟨x.name,qd .i64 (v1+y.n)⟩ (by unfold oS kc;rw[hi];simp only[hy]);rw[Kv];rw[show decide (0<=ea (Gb i))=H2 from xu (Gb i)];simp only[cond_true,y8,ja hy,q1];exact⟨_,_,rfl,rfl,q2⟩
end Go.Z
set_option maxHeartbeats 4000000
namespace Go.Z
open Go Go.Abs Go.W
variable {r:av}{e:aC}
theorem j9g {a b c d}:f35 (Gb [a,b,c,d])=Gb (iV [a,b,c,d]):=jX (by simp[SM])
theorem ziv (b:GB r){n0 n1 v0 k j}(hk:e.kind=oQ)(hn:e.names.getD []=[n0,n1])(hv:e.values.getD []=[v0])(hp:zk r.er n0=Gb k)(hq:zk r.er n1=Gb j):
  oT (fL 115 r e) (apply (qd .i64) r.er e.er):=by
 rw[ly hk (by decide) (by decide),if_neg (by decide)];obtain⟨u,Y,_,h3⟩:=oU hp;obtain⟨v,h4,_,h5⟩:=oU hq;rw[xD (fq hn) hp h3,if_neg (by rw[hk];decide),if_pos hk];unfold xF;rw[nA hn,hq];simp only[h5];have hA:fL 115 r e=qa (f115 e r.day r.ay r.ah r.units) fun v=>Gb (v.1,{ r with units:=v.2 }):=rfl;rw[hA];have g1:vT r.units (k:Int) v=Gb (Gb ((r.units.getD []).set k { u with partner:=v.name })):=pR (jg b.U) Y rfl
 have g2:k≠j->∀bb,vU (Gb ((r.units.getD []).set k { u with partner:=v.name })) (j:Int) ⟨u.name,u.product,u.version,u.uses,u.results,u.partner,bb,u.au⟩=Gb (Gb (((r.units.getD []).set k { u with partner:=v.name }).set j { v with partner:=u.name })):=by
  intro hkj bb;exact pR (x:=v) (by rw[Hb,I7];exact jg b.U) (by rw[Hb,List.getElem?_set_ne hkj];exact h4) rfl
 have dG:({ r with units:=Gb (((r.units.getD []).set k { u with partner:=v.name }).set j { v with partner:=u.name }) }:av).er=aJ (aJ r.er k { u.er with partner:=v.er.name }) j { v.er with partner:=u.er.name }:=by
  simp only[av.er,aJ,Hb,Jv];rfl
 generalize hz:aJ (aJ r.er k { u.er with partner:=v.er.name }) j { v.er with partner:=u.er.name }=Z at dG ⊢;generalize hX:Gb (Gb (((r.units.getD []).set k { u with partner:=v.name }).set j { v with partner:=u.name }))=X at g2;generalize hY:Gb ((r.units.getD []).set k { u with partner:=v.name })=aad at g1 g2;unfold f115;simp only[av.eta,iH hn,iz hn,qa,vO (jg b.U),hp,hq,y8,ja Y,ja h4,ym,j9g,g1]
 have e1:decide ((k:Int)=(j:Int))=decide (k=j):=by
  by_cases h:k=j
  .rw[decide_eq_true h];exact decide_eq_true (by omega)
  .rw[decide_eq_false h];exact decide_eq_false (by omega)
 have e2:u.er.product=u.product:=rfl;have e3:v.er.product=v.product:=rfl;have e4:u.er.version=u.version:=rfl;have e5:v.er.version=v.version:=rfl;have e6:u.er.ax=u.ax:=rfl;have e7:v.er.ax=v.ax:=rfl;have e8:u.er.partner=u.partner:=rfl;have e9:v.er.partner=v.partner:=rfl;simp only[e1,e2,e3,e4,e5,e6,e7,e8,e9]
 by_cases c1:k=j<;>by_cases c2:u.product=v.product<;>by_cases cZ:u.version=v.version<;>cases ft:u.ax<;>cases dz:v.ax<;>by_cases ep:u.partner=[]<;>by_cases tO:v.partner=[] <;>
  simp only[c1,c2,cZ,ep,tO,decide_true,decide_false,cond_true,cond_false,Ir,Lq,if_true,if_false,Gd,ne_eq,not_true_eq_false,not_false_eq_true,or_true,true_or,or_false,false_or,or_self] <;>
  first
  |exact⟨_,_,rfl,rfl,by decide⟩
  |(have g3:=g2 c1 Ha
    simp only[c2,cZ,ep]at g3;rw[g3,<-hX]
    exact⟨_,_,rfl,rfl,dG⟩)
end Go.Z
namespace Go.Z
open Go Go.Abs Go.W
variable {r:av}{e:aC}
def oV (r:z8)(c:Int)(n:aj):Bool:=if c=108 then(zx r n).isSome else if c=112 then(zo r n).isSome else if c=117 then(zk r n).isSome else H2
theorem B4 (b:GB r){c n}:f104 r c n=Gb (oV r.er c n):=by
 unfold f104 oV;by_cases Y:c=108
 .simp only[Y,decide_true,cond_true,if_true,Gp (jg b.L),qa,xy]
 .by_cases I:c=112
  .simp only[Y,I,decide_true,decide_false,cond_true,cond_false,if_true,if_false,tM (jg b.P),qa,xy];rfl
  .by_cases h3:c=117
   .simp only[Y,I,h3,decide_true,decide_false,cond_true,cond_false,if_true,if_false,vO (jg b.U),qa,xy];rfl
   .simp only[Y,I,h3,decide_false,cond_false,if_false]
def y9 (r:z8)(c:UInt8)(n:aj):Bool:=decide ((c.toNat:Int)=45)||oV r (c.toNat:Int) n
theorem B5 (b:GB r){a n0 t}(Q:j9 e.kind=[a])(hd:qj [a] 0=(a.toNat,1))(hn:e.names.getD []=n0::t):
  ∃d,bd (GG r e) I5=Gb (if y9 r.er a n0 then .inr d else .inl d):=by
 have z:B6 r e=Gb (if y9 r.er a n0 then .inl (Gb 1)else .inr (.inl 1)):=by
  unfold B6 y9;simp only[Q,hd,qa,iH hn,B4 b];simp only[Hc,Nat.lt_irrefl,show decide (0<1)=H2 from rfl,cond_true];cases decide ((a.toNat:Int)=45)<;>cases oV r.er (a.toNat:Int) n0<;>rfl
 cases hk:y9 r.er a n0 with
 |true=>
  rw[hk]at z;refine⟨1,?_⟩;rw[z9 (s':=Gb 1) z];refine ju (d:=(Sum.inr 1:Nat⊕Nat)) ?_;show xG r e 1=_;unfold xG;simp only[Q,Hc];rfl
 |false=>
  rw[hk]at z;exact⟨1,ju z⟩
theorem B7 (b:GB r){a c n0 n1 t}(Q:j9 e.kind=[a,c])(hd:qj [a,c] 0=(a.toNat,1))(hd1:qj [a,c] 1=(c.toNat,1))(hn:e.names.getD []=n0::n1::t):
  ∃d,bd (GG r e) I5=Gb (if y9 r.er a n0&&y9 r.er c n1 then .inr d else .inl d):=by
 have z:B6 r e=Gb (if y9 r.er a n0 then .inl (Gb 1)else .inr (.inl 1)):=by
  unfold B6 y9;simp only[Q,hd,qa,iH hn,B4 b];simp only[Jm,Js,show decide (0<0+1+1)=H2 from rfl,cond_true];cases decide ((a.toNat:Int)=45)<;>cases oV r.er (a.toNat:Int) n0<;>rfl
 have y:xG r e 1=Gb (if y9 r.er c n1 then .inl (Gb 2)else .inr (.inl 2)):=by
  unfold xG y9;simp only[Q,hd1,qa,show((1:Nat):Int)=1 from rfl,iz hn,B4 b];simp only[Jm,Js,show decide (1<0+1+1)=H2 from rfl,cond_true];cases decide ((c.toNat:Int)=45)<;>cases oV r.er (c.toNat:Int) n1<;>rfl
 cases hk:y9 r.er a n0 with
 |false=>
  rw[hk]at z;exact⟨1,ju z⟩
 |true=>
  rw[hk]at z
  cases dB:y9 r.er c n1 with
  |false=>
   rw[dB]at y;refine⟨2,?_⟩;rw[z9 (s':=Gb 1) z];exact ju (d:=(N4 2:Nat⊕Nat)) y
  |true=>
   rw[dB]at y;refine⟨2,?_⟩;rw[z9 (s':=Gb 1) z,z9 (s':=Gb 2) y];refine ju (d:=(Sum.inr 2:Nat⊕Nat)) ?_;show xG r e 2=_;unfold xG;simp only[Q,Jm,Js];rfl
def iA (x:Option (av×Int))(y:sn):Prop:=∃r' c,x=Gb (r',c)/\match y with
 | .error k=>c=k/\k≠0| .ok s=>c=0/\r'.er=s
theorem pW {v0 t K}(hv:e.values.getD []=v0::t)(hl:∃d,bd (GG r e) I5=Gb (if K then .inr d else .inl d))(hK:K=Ha->apply (qd .i64) r.er e.er=.error 10)(hA:K=H2->oT (fL (Kx e.kind) r e) (apply (qd .i64) r.er e.er)):
  iA (f129 r e) (after (qd .i64) r.er e.er):=by
 unfold f129 after;rw[iH hv,vl0 hv];simp only[qa];by_cases h:v0<r.day
 .rw[decide_eq_true h,if_pos (show v0<r.er.day from h)];exact⟨_,_,rfl,rfl,by decide⟩
 .rw[decide_eq_false h,if_neg (show ¬v0<r.er.day from h)];obtain⟨d,hd⟩:=hl;rw[hd]
  cases K with
  |false=>
   rw[hK rfl];exact⟨_,_,rfl,rfl,by decide⟩
  |true=>
   obtain⟨c,r',Y,I⟩:=hA rfl;simp only[if_true,cond_false];rw[Y];simp only[]
   cases ha:apply (qd .i64) r.er e.er with
   |error k=>
    rw[ha]at I;obtain⟨rfl,h3⟩:=I;rw[decide_eq_false h3];exact⟨_,_,rfl,rfl,h3⟩
   |ok s=>
    rw[ha]at I;obtain⟨rfl,rfl⟩:=I;exact⟨_,_,rfl,rfl,rfl⟩
theorem pX {α:Type}{o:Option α}(h:o.isSome=H2):∃x,o=Gb x:=Ju.1 h
theorem su {α:Type}{o:Option α}(h:o.isSome=Ha):o=I5:=by cases o<;>simp at h ⊢
theorem ki {k a c}(hk:e.kind=k)(hf:z7 k=Gb (a,c))(hc:jj e.er=0):(e.names.getD []).length=a/\(e.values.getD []).length=c:=by
 obtain⟨_,f,Y,I,h3⟩:=Xi hc;rw[show e.er.kind=k from hk,hf]at Y;cases Y;exact⟨I,h3⟩
theorem gy {α:Type}{l:List α}(h:l.length=1):∃a,l=[a]:=List.length_eq_one_iff.1 h
theorem fM {α:Type}{l:List α}(h:l.length=2):∃a b,l=[a,b]:=by
 match l,h with
 | [a,b],_=>exact⟨a,b,rfl⟩
theorem jxo {α:Type}{l:List α}(h:l.length=3):∃a b c,l=[a,b,c]:=by
 match l,h with
 | [a,b,c],_=>exact⟨a,b,c,rfl⟩
theorem pY {r n}:y9 r 45 n=H2:=rfl
theorem rl {r n}:y9 r 108 n=(zx r n).isSome:=rfl
theorem rp {r n}:y9 r 112 n=(zo r n).isSome:=rfl
theorem ru {r n}:y9 r 117 n=(zk r n).isSome:=rfl
theorem jxs (b:GB r)(hk:e.kind=oc)(hc:jj e.er=0):iA (f129 r e) (after (qd .i64) r.er e.er):=by
 obtain⟨Y,I⟩:=ki hk (show z7 oc=Gb (2,2)from rfl) hc;obtain⟨n0,n1,hn⟩:=fM Y;obtain⟨v0,v1,hv⟩:=fM I;refine pW (K:=true) hv (by have:=B7 (a:=45) (c:=45) b (by rw[hk];rfl) rfl rfl hn;simpa[pY]using this) (fun h=>by cases h) (fun _=>?_);rw[hk];exact zez b hk hn hv
theorem jel (b:GB r)(hk:e.kind=oP)(hc:jj e.er=0):iA (f129 r e) (after (qd .i64) r.er e.er):=by
 obtain⟨Y,I⟩:=ki hk (show z7 oP=Gb (1,1)from rfl) hc;obtain⟨n0,hn⟩:=gy Y;obtain⟨v0,hv⟩:=gy I;refine pW (K:=true) hv (by have:=B5 (a:=45) b (by rw[hk];rfl) rfl hn;simpa[pY]using this) (fun h=>by cases h) (fun _=>?_);rw[hk];exact zhw b hk hn hv
theorem jtk (b:GB r)(hk:e.kind=od)(hc:jj e.er=0):iA (f129 r e) (after (qd .i64) r.er e.er):=by
 obtain⟨Y,I⟩:=ki hk (show z7 od=Gb (2,2)from rfl) hc;obtain⟨n0,n1,hn⟩:=fM Y;obtain⟨v0,v1,hv⟩:=fM I;refine pW (K:=(zo r.er n0).isSome) hv (by have:=B7 (a:=112) (c:=45) b (by rw[hk];rfl) rfl rfl hn;rw[show(y9 r.er 112 n0&&y9 r.er 45 n1)=((zo r.er n0).isSome)from by simp only[pY,rl,rp,ru,Ik,Iu]]at this;exact this) (fun h=>?_) (fun h=>?_)
 .have h:=su h;unfold apply pT;rw[show e.er.kind=od from hk,if_neg (by decide),if_pos (by decide),fq hn,h]
 .obtain⟨k,hp⟩:=pX h;rw[hk];exact zfg b hk hn hv hp
theorem jtb (b:GB r)(hk:e.kind=lW)(hc:jj e.er=0):iA (f129 r e) (after (qd .i64) r.er e.er):=by
 obtain⟨Y,I⟩:=ki hk (show z7 lW=Gb (2,3)from rfl) hc;obtain⟨n0,n1,hn⟩:=fM Y;obtain⟨v0,v1,v2,hv⟩:=jxo I;refine pW (K:=(zo r.er n0).isSome) hv (by have:=B7 (a:=112) (c:=45) b (by rw[hk];rfl) rfl rfl hn;rw[show(y9 r.er 112 n0&&y9 r.er 45 n1)=((zo r.er n0).isSome)from by simp only[pY,rl,rp,ru,Ik,Iu]]at this;exact this) (fun h=>?_) (fun h=>?_)
 .have h:=su h;unfold apply pT;rw[show e.er.kind=lW from hk,if_neg (by decide),if_pos (by decide),fq hn,h]
 .obtain⟨k,hp⟩:=pX h;rw[hk];exact zkc b hk hn hv hp
theorem jon (b:GB r)(hk:e.kind=sg)(hc:jj e.er=0):iA (f129 r e) (after (qd .i64) r.er e.er):=by
 obtain⟨Y,I⟩:=ki hk (show z7 sg=Gb (1,1)from rfl) hc;obtain⟨n0,hn⟩:=gy Y;obtain⟨v0,hv⟩:=gy I;refine pW (K:=(zo r.er n0).isSome) hv (by have:=B5 (a:=112)  b (by rw[hk];rfl) rfl hn;rw[show(y9 r.er 112 n0)=((zo r.er n0).isSome)from by simp only[pY,rl,rp,ru,Ik,Iu]]at this;exact this) (fun h=>?_) (fun h=>?_)
 .have h:=su h;unfold apply pT;rw[show e.er.kind=sg from hk,if_neg (by decide),if_pos (by decide),fq hn,h]
 .obtain⟨k,hp⟩:=pX h;rw[hk];exact zhz b hk hn hv hp
theorem jmb (b:GB r)(hk:e.kind=qS)(hc:jj e.er=0):iA (f129 r e) (after (qd .i64) r.er e.er):=by
 obtain⟨Y,I⟩:=ki hk (show z7 qS=Gb (2,1)from rfl) hc;obtain⟨n0,n1,hn⟩:=fM Y;obtain⟨v0,hv⟩:=gy I;refine pW (K:=(zo r.er n1).isSome) hv (by have:=B7 (a:=45) (c:=112) b (by rw[hk];rfl) rfl rfl hn;rw[show(y9 r.er 45 n0&&y9 r.er 112 n1)=((zo r.er n1).isSome)from by simp only[pY,rl,rp,ru,Ik,Iu]]at this;exact this) (fun h=>?_) (fun h=>?_)
 .have h:=su h;unfold apply pS;rw[show e.er.kind=qS from hk,if_pos (by decide),if_neg (by decide),if_neg (by decide),nA hn];unfold ky;rw[h];rfl
 .obtain⟨k,hp⟩:=pX h;rw[hk];exact zd8 b hk hn hv hp
theorem j0y (b:GB r)(w:WF r.er)(hk:e.kind=oe)(hc:jj e.er=0):iA (f129 r e) (after (qd .i64) r.er e.er):=by
 obtain⟨Y,I⟩:=ki hk (show z7 oe=Gb (2,2)from rfl) hc;obtain⟨n0,n1,hn⟩:=fM Y;obtain⟨v0,v1,hv⟩:=fM I;refine pW (K:=(zk r.er n0).isSome&&(zx r.er n1).isSome) hv (by have:=B7 (a:=117) (c:=108) b (by rw[hk];rfl) rfl rfl hn;rw[show(y9 r.er 117 n0&&y9 r.er 108 n1)=((zk r.er n0).isSome&&(zx r.er n1).isSome)from by simp only[pY,rl,rp,ru,Ik,Iu]]at this;exact this) (fun h=>?_) (fun h=>?_)
 .cases Y:zk r.er n0 with
  |none=>
   rw[ly hk (by decide) (by decide),if_neg (by decide)];unfold pU;rw[fq hn,Y]
  |some k=>
   rw[Y]at h;have h:=su (show(zx r.er n1).isSome=Ha from h);obtain⟨u,g1,_,g3⟩:=oU Y;rw[ly hk (by decide) (by decide),if_neg (by decide),xD (fq hn) Y g3,if_pos hk];unfold xE;rw[nA hn,h]
 .rw[Us]at h;obtain⟨k,hp⟩:=pX h.1;obtain⟨j,hq⟩:=pX h.2;rw[hk];exact zib b w hk hn hv hp hq
theorem jf5 (b:GB r)(w:WF r.er)(hk:e.kind=qT)(hc:jj e.er=0):iA (f129 r e) (after (qd .i64) r.er e.er):=by
 obtain⟨Y,I⟩:=ki hk (show z7 qT=Gb (2,2)from rfl) hc;obtain⟨n0,n1,hn⟩:=fM Y;obtain⟨v0,v1,hv⟩:=fM I;refine pW (K:=(zk r.er n0).isSome) hv (by have:=B7 (a:=117) (c:=45) b (by rw[hk];rfl) rfl rfl hn;rw[show(y9 r.er 117 n0&&y9 r.er 45 n1)=((zk r.er n0).isSome)from by simp only[pY,rl,rp,ru,Ik,Iu]]at this;exact this) (fun h=>?_) (fun h=>?_)
 .have h:=su h;rw[ly hk (by decide) (by decide),if_neg (by decide)];unfold pU;rw[fq hn,h]
 .obtain⟨k,hp⟩:=pX h;rw[hk];exact zfm b w hk hn hv hp
theorem jk1 (b:GB r)(w:WF r.er)(hk:e.kind=si)(hc:jj e.er=0):iA (f129 r e) (after (qd .i64) r.er e.er):=by
 obtain⟨Y,I⟩:=ki hk (show z7 si=Gb (1,1)from rfl) hc;obtain⟨n0,hn⟩:=gy Y;obtain⟨v0,hv⟩:=gy I;refine pW (K:=(zk r.er n0).isSome) hv (by have:=B5 (a:=117)  b (by rw[hk];rfl) rfl hn;rw[show(y9 r.er 117 n0)=((zk r.er n0).isSome)from by simp only[pY,rl,rp,ru,Ik,Iu]]at this;exact this) (fun h=>?_) (fun h=>?_)
 .have h:=su h;rw[ly hk (by decide) (by decide),if_neg (by decide)];unfold pU;rw[fq hn,h]
 .obtain⟨k,hp⟩:=pX h;rw[hk];exact zje b w hk hn hv hp
theorem jsu (b:GB r)(hk:e.kind=oQ)(hc:jj e.er=0):iA (f129 r e) (after (qd .i64) r.er e.er):=by
 obtain⟨Y,I⟩:=ki hk (show z7 oQ=Gb (2,1)from rfl) hc;obtain⟨n0,n1,hn⟩:=fM Y;obtain⟨v0,hv⟩:=gy I;refine pW (K:=(zk r.er n0).isSome&&(zk r.er n1).isSome) hv (by have:=B7 (a:=117) (c:=117) b (by rw[hk];rfl) rfl rfl hn;rw[show(y9 r.er 117 n0&&y9 r.er 117 n1)=((zk r.er n0).isSome&&(zk r.er n1).isSome)from by simp only[pY,rl,rp,ru,Ik,Iu]]at this;exact this) (fun h=>?_) (fun h=>?_)
 .cases Y:zk r.er n0 with
  |none=>
   rw[ly hk (by decide) (by decide),if_neg (by decide)];unfold pU;rw[fq hn,Y]
  |some k=>
   rw[Y]at h;have h:=su (show(zk r.er n1).isSome=Ha from h);obtain⟨u,g1,_,g3⟩:=oU Y;rw[ly hk (by decide) (by decide),if_neg (by decide),xD (fq hn) Y g3,if_neg (by rw[hk];decide),if_pos hk];unfold xF;rw[nA hn,h]
 .rw[Us]at h;obtain⟨k,hp⟩:=pX h.1;obtain⟨j,hq⟩:=pX h.2;rw[hk];exact ziv b hk hn hv hp hq
theorem jvk (b:GB r)(hk:e.kind=pP)(hc:jj e.er=0):iA (f129 r e) (after (qd .i64) r.er e.er):=by
 obtain⟨Y,I⟩:=ki hk (show z7 pP=Gb (1,1)from rfl) hc;obtain⟨n0,hn⟩:=gy Y;obtain⟨v0,hv⟩:=gy I;refine pW (K:=(zx r.er n0).isSome) hv (by have:=B5 (a:=108)  b (by rw[hk];rfl) rfl hn;rw[show(y9 r.er 108 n0)=((zx r.er n0).isSome)from by simp only[pY,rl,rp,ru,Ik,Iu]]at this;exact this) (fun h=>?_) (fun h=>?_)
 .have h:=su h;rw[ly hk (by decide) (by decide),if_pos (by decide)];unfold vR;rw[fq hn,h]
 .obtain⟨k,hp⟩:=pX h;rw[hk];exact zd9 b hk hn hv hp
theorem jtq (b:GB r)(hk:e.kind=tK)(hc:jj e.er=0):iA (f129 r e) (after (qd .i64) r.er e.er):=by
 obtain⟨Y,I⟩:=ki hk (show z7 tK=Gb (1,1)from rfl) hc;obtain⟨n0,hn⟩:=gy Y;obtain⟨v0,hv⟩:=gy I;refine pW (K:=(zx r.er n0).isSome) hv (by have:=B5 (a:=108)  b (by rw[hk];rfl) rfl hn;rw[show(y9 r.er 108 n0)=((zx r.er n0).isSome)from by simp only[pY,rl,rp,ru,Ik,Iu]]at this;exact this) (fun h=>?_) (fun h=>?_)
 .have h:=su h;rw[ly hk (by decide) (by decide),if_pos (by decide)];unfold vR;rw[fq hn,h]
 .obtain⟨k,hp⟩:=pX h;rw[hk];exact zd4 b hk hn hv hp
theorem jun (b:GB r)(w:WF r.er)(hk:e.kind=lX)(hc:jj e.er=0):iA (f129 r e) (after (qd .i64) r.er e.er):=by
 obtain⟨Y,I⟩:=ki hk (show z7 lX=Gb (1,1)from rfl) hc;obtain⟨n0,hn⟩:=gy Y;obtain⟨v0,hv⟩:=gy I;refine pW (K:=(zk r.er n0).isSome) hv (by have:=B5 (a:=117)  b (by rw[hk];rfl) rfl hn;rw[show(y9 r.er 117 n0)=((zk r.er n0).isSome)from by simp only[pY,rl,rp,ru,Ik,Iu]]at this;exact this) (fun h=>?_) (fun h=>?_)
 .have h:=su h;rw[ly hk (by decide) (by decide),if_neg (by decide)];unfold pU;rw[fq hn,h]
 .obtain⟨k,hp⟩:=pX h;rw[hk];exact zjw b w hk hn hv hp
theorem jbo (b:GB r)(hk:e.kind=zO)(hc:jj e.er=0):iA (f129 r e) (after (qd .i64) r.er e.er):=by
 obtain⟨Y,I⟩:=ki hk (show z7 zO=Gb (1,1)from rfl) hc;obtain⟨n0,hn⟩:=gy Y;obtain⟨v0,hv⟩:=gy I;refine pW (K:=(zk r.er n0).isSome) hv (by have:=B5 (a:=117)  b (by rw[hk];rfl) rfl hn;rw[show(y9 r.er 117 n0)=((zk r.er n0).isSome)from by simp only[pY,rl,rp,ru,Ik,Iu]]at this;exact this) (fun h=>?_) (fun h=>?_)
 .have h:=su h;rw[ly hk (by decide) (by decide),if_neg (by decide)];unfold pU;rw[fq hn,h]
 .obtain⟨k,hp⟩:=pX h;rw[hk];exact zjc b hk hn hv hp
theorem jds (b:GB r)(w:WF r.er)(hc:jj e.er=0)(hu:e.kind≠oR):iA (f129 r e) (after (qd .i64) r.er e.er):=by
 obtain⟨_,f,Y,_,_⟩:=Xi hc
 have hm:e.kind∈cC.map (·.1):=by
  unfold z7 at Y
  cases hf:cC.find? (fun x=>decide (x.1=e.er.kind))with
  |none=>rw[hf]at Y;cases Y
  |some x=>
   have I:=Uy hf;have h3:=N8 hf;rw[show e.kind=x.1 from(of_decide_eq_true I).symm];exact I0 h3
 simp only[cC,Iy,Jj,Ow,R2,Jn,or_false]at hm;rcases hm with h|h|h|h|h|h|h|h|h|h|h|h|h|h|h
 .exact jxs b h hc
 .exact jel b h hc
 .exact jtk b h hc
 .exact jtb b h hc
 .exact jon b h hc
 .exact jmb b h hc
 .exact j0y b w h hc
 .exact jf5 b w h hc
 .exact jk1 b w h hc
 .exact jsu b h hc
 .exact jvk b h hc
 .exact jtq b h hc
 .exact jun b w h hc
 .exact jbo b h hc
 .exact absurd h hu
end Go.Z
namespace Go.Z
open Go Go.Abs Go.W
variable {r:av}{e:aC}
theorem Xj {a lo hi}:f151 a lo hi=Gb (decide (a<lo\/hi<a)):=by
 unfold f151;by_cases h:a<lo
 .simp[h]
 .simp[h]
theorem zZ {o}:decide (ea o<0)=!o.isSome:=by
 cases o with
 |none=>rfl|some k=>exact decide_eq_false (by show ¬(k:Int)<0;omega)
theorem j8y (b:GB r)(hk:e.kind=oc)(hc:jj e.er=0):iA (f152 r e) (apply (qd .i64) r.er e.er):=by
 obtain⟨Y,I⟩:=ki hk (show z7 oc=Gb (2,2)from rfl) hc;obtain⟨n0,n1,hn⟩:=fM Y;obtain⟨v0,v1,hv⟩:=fM I;unfold apply pS;rw[show e.er.kind=oc from hk,if_pos (by decide),if_pos rfl,fq hn,nA hn,vQ hv,xB];unfold f152;simp only[iH hn,iz hn,iz hv,qa,Gn (jg b.L),xy,Xj,xw (jg b.L)];rw[show decide (e.kind=([108,111,116]:aj))=H2 from decide_eq_true hk,Gx (o:=Gb (r.ay.getD [])) (by have:=oi b.L;simp only[Hb,Hc];omega) (by simp)];simp only[cond_true]
 cases (zx r.er n0).isSome with
 |true=>exact⟨_,_,rfl,rfl,by decide⟩
 |false=>
  by_cases Y:v1<1\/10000<v1
  .simp only[decide_eq_true Y,if_pos Y];exact⟨_,_,rfl,rfl,by decide⟩
  .simp only[decide_eq_false Y,if_neg Y];by_cases I:64<=(r.ay.getD []).length
   .simp only[show decide (64<=((r.ay.getD []).length:Int))=H2 from decide_eq_true (by omega),xB,if_pos I,Gd,if_false];exact⟨_,_,rfl,rfl,by decide⟩
   .simp only[show decide (64<=((r.ay.getD []).length:Int))=Ha from decide_eq_false (by omega),xB,if_neg I,Gd,if_false];exact⟨_,_,rfl,rfl,rfl⟩
theorem jiv (b:GB r)(hk:e.kind=oP)(hc:jj e.er=0):iA (f152 r e) (apply (qd .i64) r.er e.er):=by
 obtain⟨Y,I⟩:=ki hk (show z7 oP=Gb (1,1)from rfl) hc;obtain⟨n0,hn⟩:=gy Y;unfold apply pS;rw[show e.er.kind=oP from hk,if_pos (by decide),if_neg (by decide),if_pos rfl,fq hn]
 have hl:r.er.ah.length=(r.ah.getD []).length:=by rw[zP,If]
 unfold f152;simp only[iH hn,qa,BN (jg b.P),xy,xw (jg b.P),hl];rw[show decide (e.kind=([108,111,116]:aj))=Ha from decide_eq_false (by rw[hk];decide),show decide (e.kind=([112,114,111,100,117,99,116]:aj))=H2 from decide_eq_true hk,Gx (o:=Gb (r.ah.getD [])) (by have:=oi b.P;simp only[Hb,Hc];omega) (by simp)];simp only[cond_true,cond_false]
 cases (zo r.er n0).isSome with
 |true=>exact⟨_,_,rfl,rfl,by decide⟩
 |false=>
  by_cases I:16<=(r.ah.getD []).length
  .simp only[show decide (16<=((r.ah.getD []).length:Int))=H2 from decide_eq_true (by omega),if_pos I];exact⟨_,_,rfl,rfl,by decide⟩
  .simp only[show decide (16<=((r.ah.getD []).length:Int))=Ha from decide_eq_false (by omega),if_neg I];exact⟨_,_,rfl,rfl,q1r rfl⟩
theorem jvz (b:GB r)(hk:e.kind=qS)(hc:jj e.er=0):iA (f152 r e) (apply (qd .i64) r.er e.er):=by
 obtain⟨Y,I⟩:=ki hk (show z7 qS=Gb (2,1)from rfl) hc;obtain⟨n0,n1,hn⟩:=fM Y;unfold apply pS;rw[show e.er.kind=qS from hk,if_pos (by decide),if_neg (by decide),if_neg (by decide),fq hn,nA hn]
 have hl:r.er.units.length=(r.units.getD []).length:=by rw[vN,If]
 unfold f152;simp only[iH hn,iz hn,qa,BN (jg b.P),Gq (jg b.U),xy,zZ,xw (jg b.U),hl];rw[show decide (e.kind=([108,111,116]:aj))=Ha from decide_eq_false (by rw[hk];decide),show decide (e.kind=([112,114,111,100,117,99,116]:aj))=Ha from decide_eq_false (by rw[hk];decide)];simp only[cond_false];unfold ky
 cases hp:zo r.er n1 with
 |none=>exact⟨_,_,rfl,rfl,by decide⟩
 |some k=>
  obtain⟨p,g1,_,g3⟩:=zW hp
  have hd:p.er.bm.isEmpty=decide (((p.bm.getD []).length:Int)=0):=by
   show((p.bm.getD []).map cn.er).isEmpty=_
   cases p.bm.getD []with
   |nil=>rfl|cons x l=>simp;omega
  have qV:p.er.bm.length=(p.bm.getD []).length:=by show((p.bm.getD []).map cn.er).length=_;rw[If]
  simp only[I9,Ir,cond_false,y8,ja g1,Jz,g3,hd,qV];rw[Gx (o:=Gb (r.units.getD [])) (by have:=oi b.U;simp only[Hb,Hc];omega) (by simp)]
  cases (zk r.er n0).isSome with
  |true=>exact⟨_,_,rfl,rfl,by decide⟩
  |false=>
   cases decide (((p.bm.getD []).length:Int)=0)with
   |true=>exact⟨_,_,rfl,rfl,by decide⟩
   |false=>
    by_cases I:256<=(r.units.getD []).length
    .simp only[show decide (256<=((r.units.getD []).length:Int))=H2 from decide_eq_true (by omega),if_pos I];exact⟨_,_,rfl,rfl,by decide⟩
    .simp only[show decide (256<=((r.units.getD []).length:Int))=Ha from decide_eq_false (by omega),if_neg I];exact⟨_,_,rfl,rfl,q0f rfl⟩
theorem jd0 (b:GB r){k x}(hk:k<(r.ay.getD []).length):f220 r (k:Int) x=Gb { r with ay:=Gb ((r.ay.getD []).set k x) }:=by
 unfold f220;rw[WZ (jg b.L) hk];rfl
theorem jto (b:GB r){k x}(hk:k<(r.ah.getD []).length):f219 r (k:Int) x=Gb { r with ah:=Gb ((r.ah.getD []).set k x) }:=by
 unfold f219;rw[WZ (jg b.P) hk];rfl
theorem B8 (hb:(r.units.getD []).length<=BB){k x}(hk:k<(r.units.getD []).length):f225 r (k:Int) x=Gb { r with units:=Gb ((r.units.getD []).set k x) }:=by
 unfold f225;rw[WZ (jg hb) hk];rfl
theorem vV {α:Type}{l:List α}{k x}(h:l[k]?=Gb x):k<l.length:=(Ii.1 h).1
theorem jip (b:GB r)(hold:Bool)(hk:e.kind=if hold then pP else tK)(hc:jj e.er=0):iA (f154 r e) (apply (qd .i64) r.er e.er):=by
 obtain⟨Y,I⟩:=ki (a:=1) (c:=1) hk (by cases hold<;>rfl) hc;obtain⟨n0,hn⟩:=gy Y;rw[ly hk (by cases hold<;>decide) (by cases hold<;>decide),if_pos (by cases hold<;>decide)];unfold vR;rw[fq hn];unfold f154;simp only[iH hn,qa,Gn (jg b.L),zZ]
 cases hp:zx r.er n0 with
 |none=>exact⟨_,_,rfl,rfl,by decide⟩
 |some k=>
  obtain⟨x,g1,_⟩:=Ks hp;simp only[I9,Ir,cond_false,y8,ja g1,xB,g1,jd0 b (vV g1),show e.er.kind=e.kind from rfl]
  cases hold with
  |true=>
   have hk:e.kind=pP:=hk;rw[show decide (e.kind=([104,111,108,100]:aj))=H2 from decide_eq_true hk,show decide (e.kind=([102,114,101,101]:aj))=Ha from decide_eq_false (by rw[hk];decide),if_pos hk];by_cases hh:x.held=H2
   .simp only[hh,cond_true,if_true];exact⟨_,_,rfl,rfl,by decide⟩
   .rw[Oe]at hh;simp only[hh,cond_true,cond_false,Gd,if_false];exact⟨_,_,rfl,rfl,Pn rfl⟩
  |false=>
   have hk:e.kind=tK:=hk;rw[show decide (e.kind=([104,111,108,100]:aj))=Ha from decide_eq_false (by rw[hk];decide),show decide (e.kind=([102,114,101,101]:aj))=H2 from decide_eq_true hk,if_neg (by rw[hk];decide)];by_cases hh:x.held=H2
   .simp only[hh,cond_true,cond_false,Ir,Gd,if_false];exact⟨_,_,rfl,rfl,Pn rfl⟩
   .rw[Oe]at hh;simp only[hh,cond_true,cond_false,Lq,if_true];exact⟨_,_,rfl,rfl,by decide⟩
theorem q9u {α:Type}{l:List α}{p x}(h:l.length<=16):16<(kc p x l).length↔(!(l.any p))=H2/\16<=l.length:=by
 unfold kc;rw[Gu]
 cases hi:l.findIdx? p with
 |some i=>
  simp only[I7];constructor
  .intro I;omega
  .rintro ⟨I,_⟩;cases I
 |none=>
  simp only[Ig,Hc];constructor
  .intro I;exact⟨rfl,by omega⟩
  .rintro ⟨_,I⟩;omega
theorem Xk (b:GB r)(w:WF r.er){kk:aj}(iP:kk=od\/kk=lW\/kk=sg)(hk:e.kind=kk)(hc:jj e.er=0)(jF:∀v∈e.values.getD [],0<=v):iA (f153 r e) (apply (qd .i64) r.er e.er):=by
 have hR:apply (qd .i64) r.er e.er=pT r.er e.er:=by
  unfold apply;rw[show e.er.kind=kk from hk,if_neg (by rcases iP with rfl|rfl|rfl<;>decide),if_pos iP]
 rw[hR]
 obtain⟨n0,t,hn⟩:∃n0 t,e.names.getD []=n0::t:=by
  rcases iP with rfl|rfl|rfl
  .obtain⟨a,c,h⟩:=fM (ki (c:=2) hk rfl hc).1;exact⟨_,_,h⟩
  .obtain⟨a,c,h⟩:=fM (ki (c:=3) hk rfl hc).1;exact⟨_,_,h⟩
  .obtain⟨a,h⟩:=gy (ki (c:=1) hk rfl hc).1;exact⟨_,_,h⟩
 cases hp:zo r.er n0 with
 |none=>
  unfold pT;rw[fq hn,hp];unfold f153;simp only[iH hn,qa,BN (jg b.P),zZ,hp];exact⟨_,_,rfl,rfl,by decide⟩
 |some k=>
 obtain⟨p,g1,_,g3⟩:=zW hp;have hm:=Hq g1;have hD:=b.D p hm
 have hpe:p.er∈r.er.ah:=by rw[zP];exact I0 hm
 have hkn:=w.bh _ hpe;have hkt:=w.aS _ hpe;have Xl:kj (·.k) (p.dn.getD []):=hkn.1;have Xm:(p.dn.getD []).length<=16:=hkn.2;have Xn:kj (·.k) (p.dt.getD []):=hkt.1;have Xo:(p.dt.getD []).length<=16:=hkt.2;rw[Po (fq hn) hp g3];unfold f153;simp only[iH hn,qa,BN (jg b.P),zZ,hp,I9,Ir,cond_false,y8,ja g1,jto b (vV g1)];rcases iP with rfl|rfl|rfl
 .obtain⟨Y,I⟩:=ki (a:=2) (c:=2) hk rfl hc;obtain⟨n0',n1,kH⟩:=fM Y;obtain⟨v0,v1,hv⟩:=fM I;have h0:0<=v1:=jF v1 (by rw[hv];simp);obtain⟨v,ww,f1,f2⟩:=jtg (x:=⟨n1,v1⟩) (oi hD.2.1) Xl h0;have f2:v.getD []=kM (p.dn.getD []) n1 v1:=f2;rw[if_pos hk,nA kH,vQ hv];simp only[iz hv,iz kH,f1,show decide (e.kind=([110,101,101,100]:aj))=H2 from decide_eq_true hk,cond_true];by_cases hz:10000<v1
  .rw[decide_eq_true hz,if_pos (Or.inr hz)];exact⟨_,_,rfl,rfl,by decide⟩
  .rw[decide_eq_false hz,if_neg (show ¬(v1<0\/10000<v1) by omega)]
   have dG:({ r with ah:=Gb ((r.ah.getD []).set k ⟨p.name,v,p.dt,p.bm⟩) }:av).er=bM r.er k { p.er with b6:={ p.er.b6 with bh:=kM (p.dn.getD []) n1 v1 } }:=by
    rw[Gz rfl]
    congr 1
    simp only[bw.er,f2]
   have hlen:decide (16<((v.getD []).length:Int))=decide (16<(kM (p.dn.getD []) n1 v1).length):=by
    rw[f2];by_cases h:16<(kM (p.dn.getD []) n1 v1).length
    .rw[decide_eq_true h];exact decide_eq_true (by omega)
    .rw[decide_eq_false h];exact decide_eq_false (by omega)
   have nB:16<(kM (p.dn.getD []) n1 v1).length↔(0<v1/\(!(p.dn.getD []).any (dq n1))=H2/\16<=(p.dn.getD []).length):=by
    unfold kM;by_cases xn:v1=0
    .rw[if_pos xn];have:=J0 (fun x=>!dq n1 x) (p.dn.getD []);constructor
     .intro h;omega
     .rintro ⟨h,_⟩;omega
    .rw[if_neg xn,q9u Xm];constructor
     .intro h;exact⟨by omega,h⟩
     .exact fun h=>h.2
   simp only[cond_false,hlen];by_cases jQ:16<(kM (p.dn.getD []) n1 v1).length
   .rw[decide_eq_true jQ,if_pos (nB.1 jQ)];cases ww<;>exact⟨_,_,rfl,rfl,by decide⟩
   .rw[decide_eq_false jQ,if_neg (fun h=>jQ (nB.2 h))];cases ww<;>exact⟨_,_,rfl,rfl,dG⟩
 .obtain⟨Y,I⟩:=ki (a:=2) (c:=3) hk rfl hc;obtain⟨n0',n1,kH⟩:=fM Y;obtain⟨v0,v1,v2,hv⟩:=jxo I;obtain⟨v,ww,f1,f2⟩:=juc (x:=⟨n1,v1,v2⟩) (oi hD.2.2.1) Xn;have f2:v.getD []=kc (eR n1) ⟨n1,v1,v2⟩ (p.dt.getD []):=f2;rw[if_neg (show ¬e.kind=od by rw[hk];decide),if_pos hk,nA kH,vQ hv,vl2 hv];simp only[iz hv,jye hv,iz kH,f1,show decide (e.kind=([110,101,101,100]:aj))=Ha from decide_eq_false (by rw[hk];decide),show decide (e.kind=([116,101,115,116]:aj))=H2 from decide_eq_true hk,cond_true,cond_false];by_cases hz:v2<v1
  .rw[decide_eq_true hz,if_pos hz];exact⟨_,_,rfl,rfl,by decide⟩
  .rw[decide_eq_false hz,if_neg hz]
   have dG:({ r with ah:=Gb ((r.ah.getD []).set k ⟨p.name,p.dn,v,p.bm⟩) }:av).er=bM r.er k { p.er with b6:={ p.er.b6 with aS:=kc (eR n1) ⟨n1,v1,v2⟩ (p.dt.getD []) } }:=by
    rw[Gz rfl]
    congr 1
    simp only[bw.er,f2]
   have hlen:decide (16<((v.getD []).length:Int))=decide (16<(kc (eR n1) ⟨n1,v1,v2⟩ (p.dt.getD [])).length):=by
    rw[f2];by_cases h:16<(kc (eR n1) ⟨n1,v1,v2⟩ (p.dt.getD [])).length
    .rw[decide_eq_true h];exact decide_eq_true (by omega)
    .rw[decide_eq_false h];exact decide_eq_false (by omega)
   have nB:=q9u (p:=eR n1) (x:=(⟨n1,v1,v2⟩:jh)) Xo;simp only[cond_false,hlen];by_cases jQ:16<(kc (eR n1) ⟨n1,v1,v2⟩ (p.dt.getD [])).length
   .rw[decide_eq_true jQ,if_pos (nB.1 jQ)];cases ww<;>exact⟨_,_,rfl,rfl,by decide⟩
   .rw[decide_eq_false jQ,if_neg (fun h=>jQ (nB.2 h))];cases ww<;>exact⟨_,_,rfl,rfl,dG⟩
 .rw[if_neg (show ¬e.kind=od by rw[hk];decide),if_neg (show ¬e.kind=lW by rw[hk];decide)];simp only[show decide (e.kind=([110,101,101,100]:aj))=Ha from decide_eq_false (by rw[hk];decide),show decide (e.kind=([116,101,115,116]:aj))=Ha from decide_eq_false (by rw[hk];decide),cond_false,xw (jg hD.1)];rw[Gx (o:=Gb (p.bm.getD [])) (by have:=oi hD.1;simp only[Hb,Hc];omega) (by simp)]
  have qV:p.er.bm.length=(p.bm.getD []).length:=by show((p.bm.getD []).map cn.er).length=_;rw[If]
  have hd:(p.dn.getD []).isEmpty=decide (((p.dn.getD []).length:Int)=0):=by
   cases p.dn.getD []with
   |nil=>rfl|cons x l=>simp;omega
  have dG:({ r with ah:=Gb ((r.ah.getD []).set k ⟨p.name,p.dn,p.dt,Gb (p.bm.getD []++[⟨p.dn,p.dt⟩])⟩) }:av).er=bM r.er k { p.er with bm:=p.er.bm++[p.er.b6] }:=by
   rw[Gz rfl]
   congr 1
   simp only[bw.er,Hb,I6,Iy,Jj];rfl
  simp only[hd,qV]
  cases decide (((p.dn.getD []).length:Int)=0)with
  |true=>exact⟨_,_,rfl,rfl,by decide⟩
  |false=>
   by_cases I:100<=(p.bm.getD []).length
   .simp only[show decide (100<=((p.bm.getD []).length:Int))=H2 from decide_eq_true (by omega),if_pos I,Gd,if_false];exact⟨_,_,rfl,rfl,by decide⟩
   .simp only[show decide (100<=((p.bm.getD []).length:Int))=Ha from decide_eq_false (by omega),if_neg I,Gd,if_false];exact⟨_,_,rfl,rfl,dG⟩
end Go.Z
namespace Go.Z
open Go Go.Abs Go.W
variable {r:av}{e:aC}
theorem Xp {α:Type}(p:α->Bool):∀(l:List α) (c:Bool),l.foldl (fun c x=>if c then H2 else p x) c=(c||l.any p)
 | [],c=>by simp
 |x::l,c=>by
  rw[Jr,Xp p l,Jo];cases c<;>simp
theorem Xq {u}(h:u.ax=Ha):(⟨u.name,u.product,u.version,u.uses,u.results,u.partner,Ha,u.au⟩:bz)=u:=by cases u;simp only at h;rw[h]
theorem j8t (b:GB r)(w:WF r.er)(hk:e.kind=oe)(hc:jj e.er=0){k:Nat}{u n0 n1 v0 v1}(hn:e.names.getD []=[n0,n1])(hv:e.values.getD []=[v0,v1])(Y:(r.units.getD [])[k]?=Gb u):iA (f221 r (k:Int) e) (xE (qd .i64) r.er k u.er e.er):=by
 obtain⟨D,v,o⟩:=zY b w Y;unfold xE;rw[nA hn,vQ hv,o.vS];unfold f221;simp only[ja Y,iz hn,iz hv,qa,Gn (jg b.L),zZ]
 cases hq:zx r.er n1 with
 |none=>exact⟨_,_,rfl,rfl,by decide⟩
 |some j=>
 obtain⟨x,h4,_⟩:=Ks hq;simp only[I9,Ir,cond_false,y8,ja h4,xB,h4];by_cases G:u.ax=H2
 .rw[G,if_pos (show u.er.ax=H2 from G)];exact⟨_,_,rfl,rfl,by decide⟩
 rw[if_neg (show ¬u.er.ax=H2 from G)];rw[Oe]at G;simp only[Xq G,o.xC];rw[G];simp only[cond_false];by_cases hz:v1=0
 .rw[decide_eq_true hz,if_pos hz];exact⟨_,_,rfl,rfl,by decide⟩
 rw[decide_eq_false hz,if_neg hz];simp only[cond_false];by_cases hh:x.held=H2
 .rw[hh];exact⟨_,_,rfl,rfl,by decide⟩
 have F3:x.held=Ha:=by simpa using hh
 have L:=Gr (D.bh.getD []) (Aa r (k:Int) e u (j:Int) x D) (fun i (c:Bool)=>(c,(i:Int))) (fun c y=>if c then H2 else dq x.kind y) (fun c=>(c,((D.bh.getD []).length:Int))) Ha (fun c=>by unfold Aa;simp only[z4];rfl)
  (fun i c y hy hi=>by
   unfold Aa;simp only[yn hi,cond_true,qa,ja hy];rw[za (by have:=o.bh;unfold BB at this;omega)]
   cases c<;>rfl)
 rw[Xp,Jf]at L;have L':bd (Aa r (k:Int) e u (j:Int) x D) (Ha,0)=Gb ((D.bh.getD []).any (dq x.kind),((D.bh.getD []).length:Int)):=L;rw[if_neg hh];simp only[F3,cond_false,L',Ja,show D.er.bh=D.bh.getD []from rfl]
 cases (D.bh.getD []).any (dq x.kind)with
 |false=>exact⟨_,_,rfl,rfl,by decide⟩
 |true=>
 simp only[cond_true,Ir,Gd,if_false];by_cases hl:x.left<v1
 .rw[decide_eq_true hl,if_pos hl];exact⟨_,_,rfl,rfl,by decide⟩
 rw[decide_eq_false hl,if_neg hl];obtain⟨q,wq,q1,q2⟩:=ju7 (o:=u.uses) (k:=x.name) (n:=v1) (oi o.uses) o.keyed;rw[q1];simp only[cond_false,jd0 b (vV h4)];rw[show(⟨u.name,u.product,u.version,q,u.results,u.partner,Ha,u.au⟩:bz)={ u with uses:=q } by rw[<-G]];have f56:=B8 (r:={ r with ay:=Gb ((r.ay.getD []).set j ⟨x.name,x.kind,x.count,qd .i64 (x.left-v1),Ha⟩) }) (x:={ u with uses:=q }) b.U (vV Y)
 have dG:({ r with ay:=Gb ((r.ay.getD []).set j ⟨x.name,x.kind,x.count,qd .i64 (x.left-v1),Ha⟩),units:=Gb ((r.units.getD []).set k { u with uses:=q }) }:av).er=aJ (cA r.er j ⟨x.name,x.kind,x.count,qd .i64 (x.left-v1),Ha⟩) k { u.er with uses:=oS (qd .i64) u.er.uses x.name v1 }:=by
  simp only[av.er,aJ,cA,Hb,Jv]
  congr 2
  simp only[bz.er,q2]
 simp only[f56];cases wq<;>exact⟨_,_,rfl,rfl,dG⟩
theorem jx2 (b:GB r)(hk:e.kind=oQ)(hc:jj e.er=0){k:Nat}{u n0 n1}(hn:e.names.getD []=[n0,n1])(Y:(r.units.getD [])[k]?=Gb u):iA (f222 r (k:Int) e) (xF r.er k u.er e.er):=by
 unfold xF;rw[nA hn];unfold f222;simp only[ja Y,iz hn,qa,Gq (jg b.U),zZ]
 cases hq:zk r.er n1 with
 |none=>exact⟨_,_,rfl,rfl,by decide⟩
 |some j=>
 obtain⟨v,h4,_,h5⟩:=oU hq;rw[y8];simp only[I9,Ir,cond_false,ja h4,h5];by_cases c1:k=j
 .rw[if_pos c1,@decide_eq_true ((j:Int)=(k:Int)) _ (by omega)];exact⟨_,_,rfl,rfl,by decide⟩
 rw[if_neg c1,@decide_eq_false ((j:Int)=(k:Int)) _ (by omega)];simp only[cond_false];by_cases c2:u.product=v.product
 case neg=>rw[decide_eq_false c2,if_pos (show u.er.product≠v.er.product\/u.er.version≠v.er.version from Or.inl c2)];exact⟨_,_,rfl,rfl,by decide⟩
 by_cases cZ:u.version=v.version
 case neg=>rw[decide_eq_true c2,decide_eq_false cZ,if_pos (show u.er.product≠v.er.product\/u.er.version≠v.er.version from Or.inr cZ)];exact⟨_,_,rfl,rfl,by decide⟩
 rw[if_neg (show ¬(u.er.product≠v.er.product\/u.er.version≠v.er.version)from fun h=>h.elim (fun h=>h c2) (fun h=>h cZ)),decide_eq_true c2,decide_eq_true cZ];simp only[cond_true];by_cases ft:u.ax=H2
 .rw[if_pos (show u.er.ax=H2\/v.er.ax=H2 from Or.inl ft),ft];exact⟨_,_,rfl,rfl,by decide⟩
 by_cases dz:v.ax=H2
 .rw[if_pos (show u.er.ax=H2\/v.er.ax=H2 from Or.inr dz)]
  have l0:u.ax=Ha:=by simpa using ft
  rw[l0,dz];exact⟨_,_,rfl,rfl,by decide⟩
 have l0:u.ax=Ha:=by simpa using ft
 have tP:v.ax=Ha:=by simpa using dz
 rw[if_neg (show ¬(u.er.ax=H2\/v.er.ax=H2)from fun h=>h.elim ft dz)];have f1:=B8 (r:=r) (x:={ u with partner:=v.name }) b.U (vV Y);have f2:=B8 (r:={ r with units:=Gb ((r.units.getD []).set k { u with partner:=v.name }) }) (k:=j) (x:={ v with partner:=u.name }) (by rw[Hb,I7];exact b.U) (by rw[Hb,I7];exact vV h4)
 have dG:({ r with units:=Gb (((r.units.getD []).set k { u with partner:=v.name }).set j { v with partner:=u.name }) }:av).er=aJ (aJ r.er k { u.er with partner:=v.er.name }) j { v.er with partner:=u.er.name }:=by
  simp only[av.er,aJ,Hb,Jv];rfl
 rw[show(⟨u.name,u.product,u.version,u.uses,u.results,v.name,Ha,u.au⟩:bz)={ u with partner:=v.name } by rw[<-l0],show(⟨v.name,v.product,v.version,v.uses,v.results,u.name,Ha,v.au⟩:bz)={ v with partner:=u.name } by rw[<-tP]];simp only[f1,f2];rw[l0,tP]at dG ⊢;simp only[cond_false];by_cases ep:u.partner=[]
 case neg=>rw[if_pos (show u.er.partner≠[]\/v.er.partner≠[]from Or.inl ep),decide_eq_false ep];exact⟨_,_,rfl,rfl,by decide⟩
 by_cases tO:v.partner=[]
 case neg=>rw[if_pos (show u.er.partner≠[]\/v.er.partner≠[]from Or.inr tO),decide_eq_true ep,decide_eq_false tO];exact⟨_,_,rfl,rfl,by decide⟩
 rw[if_neg (show ¬(u.er.partner≠[]\/v.er.partner≠[])from fun h=>h.elim (fun h=>h ep) (fun h=>h tO)),decide_eq_true ep,decide_eq_true tO];exact⟨_,_,rfl,rfl,dG⟩
theorem GH (b:GB r)(w:WF r.er){kk:aj}(iP:kk=oe\/kk=oQ\/kk=qT\/kk=si\/kk=lX\/kk=zO)(hk:e.kind=kk)(hc:jj e.er=0):iA (f155 r e) (apply (qd .i64) r.er e.er):=by
 rw[ly hk (by rcases iP with rfl|rfl|rfl|rfl|rfl|rfl<;>decide) (by rcases iP with rfl|rfl|rfl|rfl|rfl|rfl<;>decide),if_neg (by rcases iP with rfl|rfl|rfl|rfl|rfl|rfl<;>decide)]
 obtain⟨n0,t,hn⟩:∃n0 t,e.names.getD []=n0::t:=by
  rcases iP with rfl|rfl|rfl|rfl|rfl|rfl
  .obtain⟨a,c,h⟩:=fM (ki (c:=2) hk rfl hc).1;exact⟨_,_,h⟩
  .obtain⟨a,c,h⟩:=fM (ki (c:=1) hk rfl hc).1;exact⟨_,_,h⟩
  .obtain⟨a,c,h⟩:=fM (ki (c:=2) hk rfl hc).1;exact⟨_,_,h⟩
  .obtain⟨a,h⟩:=gy (ki (c:=1) hk rfl hc).1;exact⟨_,_,h⟩
  .obtain⟨a,h⟩:=gy (ki (c:=1) hk rfl hc).1;exact⟨_,_,h⟩
  .obtain⟨a,h⟩:=gy (ki (c:=1) hk rfl hc).1;exact⟨_,_,h⟩
 cases hp:zk r.er n0 with
 |none=>
  unfold pU;rw[fq hn,hp];unfold f155;simp only[iH hn,qa,Gq (jg b.U),zZ,hp];exact⟨_,_,rfl,rfl,by decide⟩
 |some k=>
 obtain⟨u,Y,_,h3⟩:=oU hp;obtain⟨D,v,o⟩:=zY b w Y;rw[xD (fq hn) hp h3];unfold f155;simp only[iH hn,qa,Gq (jg b.U),zZ,hp,I9,Ir,cond_false,y8,ja Y];rcases iP with rfl|rfl|rfl|rfl|rfl|rfl
 .obtain⟨g1,g2⟩:=ki (a:=2) (c:=2) hk rfl hc;obtain⟨a,c,kH⟩:=fM g1;obtain⟨v0,v1,hv⟩:=fM g2;rw[if_pos hk,show decide (e.kind=([117,115,101]:aj))=H2 from decide_eq_true hk];obtain⟨r',cc,q1,q2⟩:=j8t b w hk hc kH hv Y;simp only[cond_true,q1];exact⟨_,_,rfl,q2⟩
 .obtain⟨g1,g2⟩:=ki (a:=2) (c:=1) hk rfl hc;obtain⟨a,c,kH⟩:=fM g1;rw[if_neg (show ¬e.kind=oe by rw[hk];decide),if_pos hk,show decide (e.kind=([117,115,101]:aj))=Ha from decide_eq_false (by rw[hk];decide),show decide (e.kind=([112,97,105,114]:aj))=H2 from decide_eq_true hk];obtain⟨r',cc,q1,q2⟩:=jx2 b hk hc kH Y;simp only[cond_true,cond_false,q1];exact⟨_,_,rfl,q2⟩
 .obtain⟨g1,g2⟩:=ki (a:=2) (c:=2) hk rfl hc;obtain⟨a,n1,kH⟩:=fM g1;obtain⟨v0,v1,hv⟩:=fM g2;rw[if_neg (show ¬e.kind=oe by rw[hk];decide),if_neg (show ¬e.kind=oQ by rw[hk];decide),if_pos hk,show decide (e.kind=([117,115,101]:aj))=Ha from decide_eq_false (by rw[hk];decide),show decide (e.kind=([112,97,105,114]:aj))=Ha from decide_eq_false (by rw[hk];decide),show decide (e.kind=([109,101,97,115,117,114,101]:aj))=H2 from decide_eq_true hk,nA kH,vQ hv,o.vS];simp only[cond_true,cond_false];by_cases G:u.ax=H2
  .rw[G];exact⟨_,_,rfl,rfl,by decide⟩
  have fK:u.ax=Ha:=by simpa using G
  have L:=Gr (D.aS.getD []) (Ab r e (k:Int) u D) (fun i (c:Bool)=>(c,(i:Int))) (fun c y=>if c then H2 else eR n1 y) (fun c=>(c,((D.aS.getD []).length:Int))) Ha (fun c=>by unfold Ab;simp only[z4];rfl)
   (fun i c y hy hi=>by
    unfold Ab;simp only[yn hi,cond_true,qa,ja hy,iz kH];rw[za (by have:=o.aS;unfold BB at this;omega)]
    cases c<;>rfl)
  rw[Xp,Jf]at L;have L':bd (Ab r e (k:Int) u D) (Ha,0)=Gb ((D.aS.getD []).any (eR n1),((D.aS.getD []).length:Int)):=L;rw[if_neg G];simp only[Xq fK,o.xC,L',iz kH,iz hv,xw (jg o.results)];rw[fK,Gx (o:=Gb (u.results.getD [])) (by have:=oi o.results;simp only[Hb,Hc];omega) (by simp)];simp only[cond_false,Ja,show D.er.aS=D.aS.getD []from rfl]
  cases (D.aS.getD []).any (eR n1)with
  |false=>exact⟨_,_,rfl,rfl,by decide⟩
  |true=>
   have f56:=B8 (r:=r) (x:={ u with results:=Gb (u.results.getD []++[⟨n1,u.version,v1⟩]) }) b.U (vV Y)
   have dG:({ r with units:=Gb ((r.units.getD []).set k { u with results:=Gb (u.results.getD []++[⟨n1,u.version,v1⟩]) }) }:av).er=aJ r.er k { u.er with results:=u.results.getD []++[⟨n1,u.version,v1⟩] }:=by rw[zX rfl];rfl
   rw[fK]at f56;by_cases I:64<=(u.results.getD []).length
   .simp only[show decide (64<=((u.results.getD []).length:Int))=H2 from decide_eq_true (by omega),if_pos I,Ir,Gd,if_false,cond_true];exact⟨_,_,rfl,rfl,by decide⟩
   .simp only[show decide (64<=((u.results.getD []).length:Int))=Ha from decide_eq_false (by omega),if_neg I,Ir,Gd,if_false,cond_true,cond_false,Hb,f56];rw[fK]at dG;exact⟨_,_,rfl,rfl,dG⟩
 .rw[if_neg (show ¬e.kind=oe by rw[hk];decide),if_neg (show ¬e.kind=oQ by rw[hk];decide),if_neg (show ¬e.kind=qT by rw[hk];decide),if_pos hk,show decide (e.kind=([117,115,101]:aj))=Ha from decide_eq_false (by rw[hk];decide),show decide (e.kind=([112,97,105,114]:aj))=Ha from decide_eq_false (by rw[hk];decide),show decide (e.kind=([109,101,97,115,117,114,101]:aj))=Ha from decide_eq_false (by rw[hk];decide),show decide (e.kind=([117,112,100,97,116,101]:aj))=H2 from decide_eq_true hk,o.new];simp only[cond_true,cond_false];by_cases G:u.ax=H2
  .rw[G];exact⟨_,_,rfl,rfl,by decide⟩
  have fK:u.ax=Ha:=by simpa using G
  rw[if_neg G];have f56:=B8 (r:=r) (x:={ u with version:=v }) b.U (vV Y)
  have dG:({ r with units:=Gb ((r.units.getD []).set k { u with version:=v }) }:av).er=aJ r.er k { u.er with version:=v }:=by rw[zX rfl];rfl
  rw[fK]at f56 dG;simp only[Xq fK,(Pk (jg b.P) o.new).2,f56];rw[fK];simp only[cond_false];by_cases h:u.version=v
  .rw[decide_eq_true h,if_pos h];exact⟨_,_,rfl,rfl,by decide⟩
  .rw[decide_eq_false h,if_neg h];exact⟨_,_,rfl,rfl,dG⟩
 .rw[if_neg (show ¬e.kind=oe by rw[hk];decide),if_neg (show ¬e.kind=oQ by rw[hk];decide),if_neg (show ¬e.kind=qT by rw[hk];decide),if_neg (show ¬e.kind=si by rw[hk];decide),if_pos hk,show decide (e.kind=([117,115,101]:aj))=Ha from decide_eq_false (by rw[hk];decide),show decide (e.kind=([112,97,105,114]:aj))=Ha from decide_eq_false (by rw[hk];decide),show decide (e.kind=([109,101,97,115,117,114,101]:aj))=Ha from decide_eq_false (by rw[hk];decide),show decide (e.kind=([117,112,100,97,116,101]:aj))=Ha from decide_eq_false (by rw[hk];decide),show decide (e.kind=([115,104,105,112]:aj))=H2 from decide_eq_true hk];have g2:=jue (jg b.P) o.new (jg b.L) (jg o.uses) o.ay o.xC o.vS (jg o.bh) (jg o.results) (jg o.aS);have f56:=B8 (r:=r) (x:={ u with ax:=H2 }) b.U (vV Y);simp only[cond_true,cond_false,g2,f56];by_cases h:vP (qd .i64) r.er u.er=0
  .rw[decide_eq_true h,if_neg (fun hh=>hh h)];exact⟨_,_,rfl,rfl,zX rfl⟩
  .rw[decide_eq_false h,if_pos h];exact⟨_,_,rfl,rfl,h⟩
 .rw[if_neg (show ¬e.kind=oe by rw[hk];decide),if_neg (show ¬e.kind=oQ by rw[hk];decide),if_neg (show ¬e.kind=qT by rw[hk];decide),if_neg (show ¬e.kind=si by rw[hk];decide),if_neg (show ¬e.kind=lX by rw[hk];decide),show decide (e.kind=([117,115,101]:aj))=Ha from decide_eq_false (by rw[hk];decide),show decide (e.kind=([112,97,105,114]:aj))=Ha from decide_eq_false (by rw[hk];decide),show decide (e.kind=([109,101,97,115,117,114,101]:aj))=Ha from decide_eq_false (by rw[hk];decide),show decide (e.kind=([117,112,100,97,116,101]:aj))=Ha from decide_eq_false (by rw[hk];decide),show decide (e.kind=([115,104,105,112]:aj))=Ha from decide_eq_false (by rw[hk];decide)];have f56:=B8 (r:=r) (x:={ u with au:=qd .i64 (u.au+1) }) b.U (vV Y)
  have dG:({ r with units:=Gb ((r.units.getD []).set k { u with au:=qd .i64 (u.au+1) }) }:av).er=aJ r.er k { u.er with au:=qd .i64 (u.au+1) }:=by rw[zX rfl];rfl
  simp only[cond_false];by_cases G:u.ax=H2
  .rw[G]at f56 dG ⊢;simp only[f56];exact⟨_,_,rfl,rfl,dG⟩
  .have fK:u.ax=Ha:=by simpa using G
   rw[fK];exact⟨_,_,rfl,rfl,by decide⟩
end Go.Z
namespace Go.Z
open Go Go.Abs Go.W
variable {r:av}{e:aC}
def zim (v0:Int):sn->sn
 | .error k=>.error k| .ok s=>.ok { s with day:=v0 }
theorem pZ {v0 x y}(h:iA x y):iA (qa x fun v=>Gb (⟨v0,v.1.ay,v.1.ah,v.1.units⟩,v.2)) (zim v0 y):=by
 obtain⟨r',c,rfl,I⟩:=h
 cases y with
 |error k=>exact⟨_,_,rfl,I⟩|ok s=>exact⟨_,_,rfl,I.1,by rw[<-I.2];rfl⟩
theorem jxc (b:GB r)(w:WF r.er)(hc:jj e.er=0)(hu:e.kind≠oR)(jF:∀v∈e.values.getD [],0<=v):iA (f74 r e) (after (qd .i64) r.er e.er):=by
 obtain⟨_,f,Y,eu,eA⟩:=Xi hc
 have hm:(e.kind,f.1,f.2)∈cC:=by
  unfold z7 at Y
  cases hf:cC.find? (fun x=>decide (x.1=e.er.kind))with
  |none=>rw[hf]at Y;cases Y
  |some x=>
   rw[hf]at Y;have I:=Uy hf;have h3:=N8 hf;have h4:x.1=e.kind:=of_decide_eq_true I
   have h5:x.2=f:=by simpa using Y
   rw[<-h4,<-h5];exact h3
 have iO:∃v0 t,e.values.getD []=v0::t:=by
  have:(e.values.getD []).length=f.2:=eA
  cases hv:e.values.getD []with
  |cons v t=>exact⟨v,t,rfl⟩
  |nil=>
   rw[hv]at this;simp only[cC,Ow,Prod.mk.injEq,Jn,or_false]at hm;simp only[Js]at this
   rcases hm with h|h|h|h|h|h|h|h|h|h|h|h|h|h|h<;>first|(exfalso;omega)|exact absurd h.1 hu
 obtain⟨v0,t,hv⟩:=iO;unfold f74 after;rw[iH hv,vl0 hv];simp only[qa];by_cases hd:v0<r.day
 .rw[decide_eq_true hd,if_pos (show v0<r.er.day from hd)];exact⟨_,_,rfl,rfl,by decide⟩
 rw[decide_eq_false hd,if_neg (show ¬v0<r.er.day from hd)];have tQ:e.kind∈cC.map (·.1):=I0 (f:=(·.1)) hm;simp only[cC,Iy,Jj,Ow,R2,Jn,or_false]at tQ
 have nk:∀ {k k':aj},e.kind=k->decide (k=k')=Ha->decide (e.kind=k')=Ha:=by
  intro k k' h I;rw[h];exact I
 have yk:∀ {k:aj},e.kind=k->decide (e.kind=k)=H2:=fun h=>decide_eq_true h;simp only[cond_false];rcases tQ with h|h|h|h|h|h|h|h|h|h|h|h|h|h|h
 .have q:=pZ (v0:=v0) (j8y b h hc);rw[show decide (e.kind=([108,111,116]:aj))=H2 from yk h];exact q
 .have q:=pZ (v0:=v0) (jiv b h hc);rw[show decide (e.kind=([108,111,116]:aj))=Ha from nk h rfl,show decide (e.kind=([112,114,111,100,117,99,116]:aj))=H2 from yk h];exact q
 .have q:=pZ (v0:=v0) (Xk b w (.inl rfl) h hc jF);rw[show decide (e.kind=([108,111,116]:aj))=Ha from nk h rfl,show decide (e.kind=([112,114,111,100,117,99,116]:aj))=Ha from nk h rfl,show decide (e.kind=([98,117,105,108,100]:aj))=Ha from nk h rfl,show decide (e.kind=([110,101,101,100]:aj))=H2 from yk h];exact q
 .have q:=pZ (v0:=v0) (Xk b w (.inr (.inl rfl)) h hc jF);rw[show decide (e.kind=([108,111,116]:aj))=Ha from nk h rfl,show decide (e.kind=([112,114,111,100,117,99,116]:aj))=Ha from nk h rfl,show decide (e.kind=([98,117,105,108,100]:aj))=Ha from nk h rfl,show decide (e.kind=([110,101,101,100]:aj))=Ha from nk h rfl,show decide (e.kind=([116,101,115,116]:aj))=H2 from yk h];exact q
 .have q:=pZ (v0:=v0) (Xk b w (.inr (.inr rfl)) h hc jF);rw[show decide (e.kind=([108,111,116]:aj))=Ha from nk h rfl,show decide (e.kind=([112,114,111,100,117,99,116]:aj))=Ha from nk h rfl,show decide (e.kind=([98,117,105,108,100]:aj))=Ha from nk h rfl,show decide (e.kind=([110,101,101,100]:aj))=Ha from nk h rfl,show decide (e.kind=([116,101,115,116]:aj))=Ha from nk h rfl,show decide (e.kind=([105,115,115,117,101]:aj))=H2 from yk h];exact q
 .have q:=pZ (v0:=v0) (jvz b h hc);rw[show decide (e.kind=([108,111,116]:aj))=Ha from nk h rfl,show decide (e.kind=([112,114,111,100,117,99,116]:aj))=Ha from nk h rfl,show decide (e.kind=([98,117,105,108,100]:aj))=H2 from yk h];exact q
 all_goals try rw[show decide (e.kind=([108,111,116]:aj))=Ha from nk h rfl,show decide (e.kind=([112,114,111,100,117,99,116]:aj))=Ha from nk h rfl,show decide (e.kind=([98,117,105,108,100]:aj))=Ha from nk h rfl,show decide (e.kind=([110,101,101,100]:aj))=Ha from nk h rfl,show decide (e.kind=([116,101,115,116]:aj))=Ha from nk h rfl,show decide (e.kind=([105,115,115,117,101]:aj))=Ha from nk h rfl]
 .rw[show decide (e.kind=([104,111,108,100]:aj))=Ha from nk h rfl,show decide (e.kind=([102,114,101,101]:aj))=Ha from nk h rfl];exact pZ (v0:=v0) (GH b w (by simp) h hc)
 .rw[show decide (e.kind=([104,111,108,100]:aj))=Ha from nk h rfl,show decide (e.kind=([102,114,101,101]:aj))=Ha from nk h rfl];exact pZ (v0:=v0) (GH b w (by simp) h hc)
 .rw[show decide (e.kind=([104,111,108,100]:aj))=Ha from nk h rfl,show decide (e.kind=([102,114,101,101]:aj))=Ha from nk h rfl];exact pZ (v0:=v0) (GH b w (by simp) h hc)
 .rw[show decide (e.kind=([104,111,108,100]:aj))=Ha from nk h rfl,show decide (e.kind=([102,114,101,101]:aj))=Ha from nk h rfl];exact pZ (v0:=v0) (GH b w (by simp) h hc)
 .rw[show decide (e.kind=([104,111,108,100]:aj))=H2 from yk h];exact pZ (v0:=v0) (jip b H2 h hc)
 .rw[show decide (e.kind=([104,111,108,100]:aj))=Ha from nk h rfl,show decide (e.kind=([102,114,101,101]:aj))=H2 from yk h];exact pZ (v0:=v0) (jip b Ha h hc)
 .rw[show decide (e.kind=([104,111,108,100]:aj))=Ha from nk h rfl,show decide (e.kind=([102,114,101,101]:aj))=Ha from nk h rfl];exact pZ (v0:=v0) (GH b w (by simp) h hc)
 .rw[show decide (e.kind=([104,111,108,100]:aj))=Ha from nk h rfl,show decide (e.kind=([102,114,101,101]:aj))=Ha from nk h rfl];exact pZ (v0:=v0) (GH b w (by simp) h hc)
 .exact absurd h hu
end Go.Z
namespace Go.Z
open Go Go.Abs Go.W
def Ky (s:aj):Bool:=decide (s≠[])&&decide (s.length<=24)&&vW 0 s
theorem qtt {s:aj}{i c}(hc:s[i]?=Gb c):vW i (s.drop i)=(qX i c.toNat&&vW (i+1) (s.drop (i+1))):=by
 rw[qR hc];rfl
theorem jxg {s:aj}:f78 s=Gb (Ky s):=by
 unfold f78 Ky;by_cases h0:s=[]
 .subst h0;rfl
 have hl:¬((s.length:Int)=0):=by
  intro h;exact h0 (Ji (by omega))
 by_cases Y:(24:Int)<s.length
 .have I:¬s.length<=24:=by omega
  simp[hl,h0,Y,I]
 .have I:s.length<=24:=by omega
  obtain⟨d,g1,g2⟩:=J4 s.length (fun i=>(i:Int)) (Ac s) (fun d=>match d with | .inl _=>Ha | .inr _=>H2) (fun i=>vW i (s.drop i)) ⟨.inr _,by unfold Ac;rw[z4];rfl,by rw[I1 (Ix _)];rfl⟩ (fun i hi=>by
   obtain⟨c,hc⟩:∃c,s[i]?=Gb c:=⟨_,Ip hi⟩;unfold Ac;rw[qtt hc,yn hi,cond_true,ja hc,qe];simp only[jjt hi (show s.length<=9223372036854775807 by omega)];unfold qX
   have M:0<=(c.toNat:Int):=by omega
   generalize (c.toNat:Int)=x at M ⊢;by_cases z:i=0
   ·subst z
    rcases kinds x with h|h|h|h|h|h|h|h|h <;>
     simp (disch:=omega) only[decide_eq_true,decide_eq_false,cond_true,cond_false,Jg,Jf,Oh,Iu,Ik,Jb] <;>
     first
      |exact .inl ⟨trivial,trivial⟩
      |exact .inl ⟨rfl,trivial⟩
      |exact .inl ⟨rfl,rfl⟩
      |exact .inr ⟨_,rfl,rfl⟩
   ·rcases kinds x with h|h|h|h|h|h|h|h|h <;>
     simp (disch:=omega) only[decide_eq_true,decide_eq_false,cond_true,cond_false,Jg,Lm,Jf,Oh,Iu,Ik,Jb] <;>
     first
      |exact .inl ⟨trivial,trivial⟩
      |exact .inl ⟨rfl,trivial⟩
      |exact .inl ⟨rfl,rfl⟩
      |exact .inr ⟨_,rfl,rfl⟩)
  have g1:bd (Ac s) 0=Gb d:=g1;rw[decide_eq_false hl,cond_false,decide_eq_false Y,cond_false,g1,qe];simp only[h0,I,ne_eq,not_false_eq_true,decide_true,Ik];rw[Jx]at g2;rw[<-g2];cases d<;>rfl
theorem q2o {s i c}(hc:s[i]?=Gb c):(c.toNat<128/\qj s i=(c.toNat,1))\/(128<=c.toNat/\128<=(qj s i).1):=by
 by_cases h:c.toNat<128
 .exact .inl ⟨h,O5 hc h⟩
 .exact .inr ⟨by omega,WB hc h⟩
theorem q4k {i x}(h:128<=x):qX i x=Ha:=by
 unfold qX;simp (disch:=omega) only[decide_eq_false,Bool.or_self,Jw]
def zfo:Nat->Option Nat
 |0=>I5|i+1=>Gb (i+1)
theorem Xr {s:aj}:f105 s=Gb (Ky s):=by
 unfold f105
 obtain⟨d,g1,g2⟩:=J4 s.length zfo (Kz s) (fun d=>match d with | .inl _=>Ha | .inr _=>H2) (fun i=>vW i (s.drop i)) (by
   rw[I1 (Ix _)]
   cases hn:s.length with
   |zero=>
    refine⟨.inr 0,?_,rfl⟩;show Ad s=_;unfold Ad;rw[hn];rfl
   |succ n=>
    refine⟨.inr (n+1),?_,rfl⟩;show Ae s (n+1)=_;unfold Ae
    rw[hn,decide_eq_false (by omega)];rfl) (fun i hi=>by
   obtain⟨c,hc⟩:∃c,s[i]?=Gb c:=⟨_,Ip hi⟩;rw[qtt hc]
   cases i with
   |zero=>
    show(Ad s=_/\_)\/(∃d,Ad s=_/\_);unfold Ad;rw[decide_eq_true hi,cond_true];rcases q2o hc with⟨aW,he⟩|⟨sZ,Q⟩
    ·rw[he];simp only[]
     have M:0<=(c.toNat:Int):=by omega
     unfold qX;generalize (c.toNat:Int)=x at M ⊢
     rcases kinds x with h|h|h|h|h|h|h|h|h <;>
      simp (disch:=omega) only[decide_eq_true,decide_eq_false,cond_true,cond_false,Jg,Jf,Oh,Iu,Ik,Jb] <;>
      first
       |exact .inl ⟨trivial,trivial⟩
       |exact .inl ⟨rfl,trivial⟩
       |exact .inl ⟨rfl,rfl⟩
       |exact .inr ⟨_,rfl,rfl⟩
    ·rw[q4k (by omega)];generalize hd:qj s 0=dd at Q ⊢
     have lh:(128:Int)<=(dd.1:Int):=by omega
     generalize (dd.1:Int)=x at lh ⊢;simp (disch:=omega) only[decide_eq_true,decide_eq_false,cond_true,cond_false,Jb];exact .inr ⟨_,rfl,rfl⟩
   |succ i=>
    show(Ae s (i+1)=_/\_)\/(∃d,Ae s (i+1)=_/\_);unfold Ae;rw[decide_eq_true hi,cond_true];rcases q2o hc with⟨aW,he⟩|⟨sZ,Q⟩
    ·rw[he];simp only[]
     have M:0<=(c.toNat:Int):=by omega
     unfold qX;generalize (c.toNat:Int)=x at M ⊢;have e0:decide (((i+1:Nat):Int)=0)=Ha:=decide_eq_false (by omega)
     rcases kinds x with h|h|h|h|h|h|h|h|h <;>
      simp (disch:=omega) only[e0,decide_eq_true,decide_eq_false,cond_true,cond_false,Jg,Lm,Jf,Oh,Iu,Ik,Jb] <;>
      first
       |exact .inl ⟨trivial,trivial⟩
       |exact .inl ⟨rfl,trivial⟩
       |exact .inl ⟨rfl,rfl⟩
       |exact .inr ⟨_,rfl,rfl⟩
    ·rw[q4k (by omega)];generalize hd:qj s (i+1)=dd at Q ⊢
     have lh:(128:Int)<=(dd.1:Int):=by omega
     have e0:decide (((i+1:Nat):Int)=0)=Ha:=decide_eq_false (by omega);generalize (dd.1:Int)=x at lh ⊢;simp (disch:=omega) only[e0,decide_eq_true,decide_eq_false,cond_true,cond_false,Jb]
     exact .inr ⟨_,rfl,rfl⟩)
 have g1:bd (Kz s) I5=Gb d:=g1;rw[g1,qe];unfold Ky;rw[Jx]at g2
 cases d with
 |inl d=>simp only[]at g2;rw[<-g2];simp
 |inr d=>
  simp only[]at g2;rw[<-g2];by_cases h0:s=[]
  .subst h0;rfl
  .have e:decide ((s.length:Int)<=24)=decide (s.length<=24):=by by_cases h:s.length<=24<;>simp[h]<;>omega
   rw[e];simp[h0]
theorem jct {c}:qX 0 (c.toNat:Int)=vX c:=by
 unfold qX vX
 have h:∀a b:Nat,(decide ((a:Int)<=(c.toNat:Int)/\(c.toNat:Int)<=(b:Int)))=(decide (a<=c.toNat)&&decide (c.toNat<=b)):=by
  intro a b;by_cases Y:a<=c.toNat<;>by_cases I:c.toNat<=b<;>simp[Y,I]<;>omega
 rw[show(65:Int)=((65:Nat):Int)from rfl,show(90:Int)=((90:Nat):Int)from rfl,show(97:Int)=((97:Nat):Int)from rfl,show(122:Int)=((122:Nat):Int)from rfl,h,h];simp
theorem j20 {c i}:qX (i+1) (c.toNat:Int)=(vX c||GI c):=by
 rw[<-jct];unfold qX GI
 have h:(decide ((48:Int)<=(c.toNat:Int)/\(c.toNat:Int)<=(57:Int)))=(decide (48<=c.toNat)&&decide (c.toNat<=57)):=by
  by_cases Y:48<=c.toNat<;>by_cases I:c.toNat<=57<;>simp[Y,I]<;>omega
 have h3:decide ((c.toNat:Int)=95)=decide (c.toNat=95):=by
  by_cases Y:c.toNat=95
  .rw[decide_eq_true Y];exact decide_eq_true (by omega)
  .rw[decide_eq_false Y];exact decide_eq_false (by omega)
 rw[h,h3];simp
theorem q9k:∀ (s:aj) (i:Nat),vW (i+1) s=s.all fun c=>vX c||GI c
 | [],_=>rfl
 |c::s,i=>by
  show(qX (i+1) c.toNat&&vW (i+1+1) s)=_;rw[j20,q9k s (i+1)];rfl
theorem Ps {s}:Ky s=Go.W.cu s:=by
 cases s with
 |nil=>rfl
 |cons c t=>
  show(decide (c::t≠[])&&decide ((c::t).length<=24)&&(qX 0 c.toNat&&vW 1 t))=(vX c&&t.all (fun c=>vX c||GI c)&&decide ((c::t).length<=24));rw[jct,q9k t 0,show decide (c::t≠[])=H2 from decide_eq_true (by simp)];cases vX c<;>cases t.all (fun c=>vX c||GI c)<;>cases decide ((c::t).length<=24)<;>rfl
variable {e:aC}
theorem juj {s}:GJ s=Gb (if Go.W.cu s then 0 else 8):=by
 unfold GJ;rw[Xr,Ps];simp only[qa,ym];cases Go.W.cu s<;>rfl
theorem Xt {α:Type}{p c}(hc:c≠0):∀l:List α,iV (l.map fun x=>if p x then 0 else c)=if l.all p then 0 else c
 | []=>rfl
 |x::l=>by
  rw[Iy,N6]
  cases p x with
  |true=>simp only[if_true,iV,Ik];exact Xt hc l|false=>simp[iV,hc]
theorem jcw {o}(hl:(o.getD []).length<=SM):f35 o=Gb (iV (o.getD [])):=by
 cases o with
 |none=>exact jX (l:=[]) (L2 _)|some l=>exact jX hl
theorem jsm {o}(hl:(o.getD []).length<=SM):∃w,f125 o=Gb (jd ((o.getD []).map fun s=>if Go.W.cu s then 0 else 8),w):=by
 unfold f125;rw[BS (f:=KA o) (l:=o.getD []) (g:=fun s=>if Go.W.cu s then(0:Int)else 8) (q:=GJ) hl (fun x _=>juj) (fun s=>rfl)];exact⟨_,rfl⟩
def tR (n:Int):Bool:=decide (0<=n)&&decide (n<=999999999)
theorem jsa {n}:GK n=Gb (if tR n then 0 else 3):=by
 unfold GK;rw[Pm];simp only[qa];unfold tR;by_cases Y:n<0
 .rw[if_pos (Or.inl Y),decide_eq_false (by omega)];rfl
 .by_cases I:999999999<n
  .rw[if_pos (Or.inr I),decide_eq_true (by omega),decide_eq_false (by omega)];rfl
  .rw[if_neg (by omega),decide_eq_true (by omega),decide_eq_true (by omega)];rfl
theorem juu {o}(hl:(o.getD []).length<=SM):∃w,f127 o=Gb (jd ((o.getD []).map fun s=>if tR s then 0 else 3),w):=by
 unfold f127;rw[BS (f:=KB o) (l:=o.getD []) (g:=fun s=>if tR s then(0:Int)else 3) (q:=GK) hl (fun x _=>jsa) (fun s=>rfl)];exact⟨_,rfl⟩
theorem Pt:∀ (k:aj),qU k=I5/\z7 k=I5\/∃f,qU k=Gb f/\z7 k=Gb (f.2.1.length,f.2.2.1.toNat)/\0<=f.2.2.1:=by
 intro k;unfold qU z7 jP cC;simp only[U5,List.find?_nil,eq_comm (a:=k)];by_cases Y:oc=k
 .simp[Y]
 by_cases I:oP=k
 .simp[Y,I]
 by_cases h3:od=k
 .simp[Y,I,h3]
 by_cases h4:lW=k
 .simp[Y,I,h3,h4]
 by_cases h5:sg=k
 .simp[Y,I,h3,h4,h5]
 by_cases h6:qS=k
 .simp[Y,I,h3,h4,h5,h6]
 by_cases h7:oe=k
 .simp[Y,I,h3,h4,h5,h6,h7]
 by_cases h8:qT=k
 .simp[Y,I,h3,h4,h5,h6,h7,h8]
 by_cases h9:si=k
 .simp[Y,I,h3,h4,h5,h6,h7,h8,h9]
 by_cases eh:oQ=k
 .simp[Y,I,h3,h4,h5,h6,h7,h8,h9,eh]
 by_cases ei:pP=k
 .simp[Y,I,h3,h4,h5,h6,h7,h8,h9,eh,ei]
 by_cases kN:tK=k
 .simp[Y,I,h3,h4,h5,h6,h7,h8,h9,eh,ei,kN]
 by_cases fX:lX=k
 .simp[Y,I,h3,h4,h5,h6,h7,h8,h9,eh,ei,kN,fX]
 by_cases fF:zO=k
 .simp[Y,I,h3,h4,h5,h6,h7,h8,h9,eh,ei,kN,fX,fF]
 by_cases l4:oR=k
 .simp[Y,I,h3,h4,h5,h6,h7,h8,h9,eh,ei,kN,fX,fF,l4]
 .simp[Y,I,h3,h4,h5,h6,h7,h8,h9,eh,ei,kN,fX,fF,l4]
theorem Pu (Y:(e.names.getD []).length<=SM)(I:(e.values.getD []).length<=SM):f41 e=Gb (jj e.er):=by
 obtain⟨w1,g1⟩:=jsm Y;obtain⟨w2,g2⟩:=juu I
 have q1:f35 (jd ((e.names.getD []).map fun s=>if Go.W.cu s then(0:Int)else 8))=Gb (if(e.names.getD []).all Go.W.cu then 0 else 8):=by
  rw[jcw (by rw[zb,If];exact Y),zb,Xt (by decide)]
 have q2:f35 (jd ((e.values.getD []).map fun s=>if tR s then(0:Int)else 3))=Gb (if(e.values.getD []).all tR then 0 else 3):=by
  rw[jcw (by rw[zb,If];exact I),zb,Xt (by decide)]
 unfold f41;simp only[Pm,ym,qa,g1,g2,q1,q2];rw[jX (by simp[SM])];simp only[];rw[jX (by simp[SM])];unfold jj;rw[show e.er.number=e.number from rfl,show e.er.kind=e.kind from rfl,show e.er.names=e.names.getD []from rfl,show e.er.values=e.values.getD []from rfl,show e.er.text=e.text from rfl,show(fun n=>decide (0<=n)&&decide (n<=999999999))=tR from rfl];by_cases c1:e.number<1\/1000<e.number
 .rw[if_pos c1,if_pos c1];rfl
 rw[if_neg c1,if_neg c1];rcases Pt e.kind with⟨c2,cZ⟩|⟨f,c2,cZ,ft⟩
 .rw[cZ];simp only[lY,j9,mN,c2];simp[iV]
 rw[cZ];simp only[lY,j9,mN,c2,I9,Ir,Gd,if_false];by_cases dz:(e.names.getD []).length≠f.2.1.length\/(e.values.getD []).length≠f.2.2.1.toNat
 .have:(!(decide (((e.names.getD []).length:Int)=(f.2.1.length:Int))&&decide (((e.values.getD []).length:Int)=f.2.2.1)))=H2:=by
   rcases dz with dz|dz
   .rw[decide_eq_false (by omega)];rfl
   .rw[decide_eq_false (p:=((e.values.getD []).length:Int)=f.2.2.1) (by omega),Jw];rfl
  rw[this,if_pos dz];rfl
 .have:(!(decide (((e.names.getD []).length:Int)=(f.2.1.length:Int))&&decide (((e.values.getD []).length:Int)=f.2.2.1)))=Ha:=by
   rw[decide_eq_true (by omega),decide_eq_true (p:=((e.values.getD []).length:Int)=f.2.2.1) (by omega)];rfl
  rw[this,if_neg dz];simp only[iV,Gd,if_false,if_true,decide_true,cond_true];cases (e.names.getD []).all Go.W.cu<;>cases (e.values.getD []).all tR<;>by_cases ep:e.text=[]<;>simp[ep]
end Go.Z
namespace Go.Z
open Go Go.Abs Go.W
variable {e:aC}
theorem Xu:∀ (k:aj),(f75 k=Gb ⟨0,0,Ha⟩/\z7 k=I5)\/∃a b:Nat,f75 k=Gb ⟨(a:Int),(b:Int),H2⟩/\z7 k=Gb (a,b):=by
 intro k;by_cases Y:k=oc
 .subst Y;exact .inr ⟨2,2,rfl,rfl⟩
 by_cases I:k=oP
 .subst I;exact .inr ⟨1,1,rfl,rfl⟩
 by_cases h3:k=sg
 .subst h3;exact .inr ⟨1,1,rfl,rfl⟩
 by_cases h4:k=si
 .subst h4;exact .inr ⟨1,1,rfl,rfl⟩
 by_cases h5:k=pP
 .subst h5;exact .inr ⟨1,1,rfl,rfl⟩
 by_cases h6:k=tK
 .subst h6;exact .inr ⟨1,1,rfl,rfl⟩
 by_cases h7:k=lX
 .subst h7;exact .inr ⟨1,1,rfl,rfl⟩
 by_cases h8:k=zO
 .subst h8;exact .inr ⟨1,1,rfl,rfl⟩
 by_cases h9:k=od
 .subst h9;exact .inr ⟨2,2,rfl,rfl⟩
 by_cases eh:k=oe
 .subst eh;exact .inr ⟨2,2,rfl,rfl⟩
 by_cases ei:k=qT
 .subst ei;exact .inr ⟨2,2,rfl,rfl⟩
 by_cases kN:k=lW
 .subst kN;exact .inr ⟨2,3,rfl,rfl⟩
 by_cases fX:k=qS
 .subst fX;exact .inr ⟨2,1,rfl,rfl⟩
 by_cases fF:k=oQ
 .subst fF;exact .inr ⟨2,1,rfl,rfl⟩
 by_cases l4:k=oR
 .subst l4;exact .inr ⟨0,0,rfl,rfl⟩
 refine .inl ⟨?_,?_⟩
 .unfold f75;simp only[decide_eq_false (p:=k=([108,111,116]:aj)) Y,decide_eq_false (p:=k=([112,114,111,100,117,99,116]:aj)) I,decide_eq_false (p:=k=([105,115,115,117,101]:aj)) h3,decide_eq_false (p:=k=([117,112,100,97,116,101]:aj)) h4,decide_eq_false (p:=k=([104,111,108,100]:aj)) h5,decide_eq_false (p:=k=([102,114,101,101]:aj)) h6,decide_eq_false (p:=k=([115,104,105,112]:aj)) h7,decide_eq_false (p:=k=([99,111,109,112,108,97,105,110]:aj)) h8,decide_eq_false (p:=k=([110,101,101,100]:aj)) h9,decide_eq_false (p:=k=([117,115,101]:aj)) eh,decide_eq_false (p:=k=([109,101,97,115,117,114,101]:aj)) ei,decide_eq_false (p:=k=([116,101,115,116]:aj)) kN,decide_eq_false (p:=k=([98,117,105,108,100]:aj)) fX,decide_eq_false (p:=k=([112,97,105,114]:aj)) fF,decide_eq_false (p:=k=([117,110,100,111]:aj)) l4,cond_false]
 .unfold z7 cC;simp[U5,Jc Y,Jc I,Jc h3,Jc h4,Jc h5,Jc h6,Jc h7,Jc h8,Jc h9,Jc eh,Jc ei,Jc kN,Jc fX,Jc fF,Jc l4]
theorem jc8 {s}:f78 s=Gb (Go.W.cu s):=by rw[jxg,Ps]
theorem q8h {α:Type}{l:List α}{p:α->Bool}{f:Int->Option (Int⊕(Unit⊕Int))}{n}(hn:n=(l.length:Int))(hl:l.length<=SM)
  (dh:f n=Gb (.inr (.inr n))) (hf:∀(i:Nat) x,l[i]?=Gb x->i<l.length->f (i:Int)=Gb (if p x then .inl (qd .i64 ((i:Int)+1))else .inr (.inl ()))):
  ∃d,bd f 0=Gb d/\(match d with | .inl _=>Ha | .inr _=>H2)=l.all p:=by
 subst hn
 obtain⟨d,Y,I⟩:=Pe l f p (fun d=>match d with | .inl _=>Ha | .inr _=>H2) ⟨_,dh,rfl⟩ (fun i x M hi=>by
  have h3:=hf i x M hi
  cases hp:p x with
  |true=>rw[hp,za (by unfold SM at hl;omega)]at h3;exact .inl ⟨rfl,h3⟩
  |false=>rw[hp]at h3;exact .inr ⟨rfl,_,h3,rfl⟩)
 exact⟨d,Y,I⟩
theorem Xv (Y:(e.names.getD []).length<=SM)(I:(e.values.getD []).length<=SM):f73 e=Gb (jj e.er):=by
 unfold f73 jj;rw[Xj];simp only[qa];rw[show e.er.number=e.number from rfl,show e.er.kind=e.kind from rfl,show e.er.names=e.names.getD []from rfl,show e.er.values=e.values.getD []from rfl,show e.er.text=e.text from rfl,show(fun n=>decide (0<=n)&&decide (n<=999999999))=tR from rfl];by_cases c1:e.number<1\/1000<e.number
 .rw[decide_eq_true c1,if_pos c1];rfl
 rw[decide_eq_false c1,if_neg c1];simp only[cond_false];rcases Xu e.kind with⟨c2,cZ⟩|⟨a,b,c2,cZ⟩
 .rw[c2,cZ];rfl
 rw[c2,cZ];simp only[cond_true];by_cases dz:(e.names.getD []).length=a
 case neg=>rw[decide_eq_false (by omega),if_pos (.inl dz)];rfl
 by_cases ep:(e.values.getD []).length=b
 case neg=>rw[decide_eq_true (by omega),decide_eq_false (p:=((e.values.getD []).length:Int)=(b:Int)) (by omega),if_pos (.inr ep)];rfl
 rw[decide_eq_true (by omega),decide_eq_true (p:=((e.values.getD []).length:Int)=(b:Int)) (by omega),if_neg (by omega)];simp only[cond_true]
 obtain⟨d,g1,g2⟩:=q8h (l:=e.names.getD []) (p:=Go.W.cu) (f:=B9 e ⟨(a:Int),(b:Int),H2⟩) (n:=(a:Int)) (by omega) Y (by unfold B9;simp only[z4];rfl) (fun i x M hi=>by
  unfold B9;simp only[show decide ((i:Int)<(a:Int))=H2 from decide_eq_true (by omega),cond_true,qa,ja M,jc8]
  cases Go.W.cu x<;>rfl)
 obtain⟨d2,g3,g4⟩:=q8h (l:=e.values.getD []) (p:=tR) (f:=Cb e ⟨(a:Int),(b:Int),H2⟩) (n:=(b:Int)) (by omega) I (by unfold Cb;simp only[z4];rfl) (fun i x M hi=>by
  unfold Cb;simp only[show decide ((i:Int)<(b:Int))=H2 from decide_eq_true (by omega),cond_true,qa,ja M,Xj];unfold tR;by_cases k1:x<0
  ·rw[decide_eq_true (Or.inl k1),decide_eq_false (p:=0<=x) (by omega)];rfl
  ·by_cases k2:999999999<x
   ·rw[decide_eq_true (Or.inr k2),decide_eq_false (p:=x<=999999999) (by omega),Jw];rfl
   ·rw[decide_eq_false (p:=x<0\/999999999<x) (by omega),decide_eq_true (p:=0<=x) (by omega),decide_eq_true (p:=x<=999999999) (by omega)];rfl)
 rw[g1,<-g2,<-g4]
 cases d with
 |inl d=>rfl
 |inr d=>
  simp only[];rw[g3]
  cases d2 with
  |inl d2=>rfl
  |inr d2=>
   by_cases tO:e.text=[]
   .rw[decide_eq_true tO];simp[tO]
   .rw[decide_eq_false tO];simp[tO]
end Go.Z
namespace Go.Z
open Go Go.Abs Go.W
structure SB (n:Nat)(r:z8):Prop where
 L:r.ay.length<=n
 P:r.ah.length<=n
 U:r.units.length<=n
 D:∀p∈r.ah,p.bm.length<=n/\p.b6.bh.length<=n/\p.b6.aS.length<=n/\∀d∈p.bm,d.bh.length<=n/\d.aS.length<=n
 N:∀u∈r.units,u.uses.length<=n/\u.results.length<=n
theorem SB.mono {n m r}(h:SB n r)(hm:n<=m):SB m r:=
 ⟨Ij h.L hm,Ij h.P hm,Ij h.U hm,fun p hp=>⟨Ij (h.D p hp).1 hm,Ij (h.D p hp).2.1 hm,Ij (h.D p hp).2.2.1 hm,fun d hd=>⟨Ij ((h.D p hp).2.2.2 d hd).1 hm,Ij ((h.D p hp).2.2.2 d hd).2 hm⟩⟩,fun u hu=>⟨Ij (h.N u hu).1 hm,Ij (h.N u hu).2 hm⟩⟩
theorem SB.empty:SB 0 mO:=⟨Ix _,Ix _,Ix _,fun p (hp:p∈([]:List xr))=>absurd hp Jn,fun u (hu:u∈([]:List lx))=>absurd hu Jn⟩
theorem SB.gb {n r}(h:SB n r.er)(hn:n<=BB):GB r:=by
 refine⟨Ij h.L hn,?_,?_,fun p hp=>?_,fun u hu=>?_⟩
 .have:=h.P;rw[zP,If]at this;exact Ij this hn
 .have:=h.U;rw[vN,If]at this;exact Ij this hn
 .obtain⟨Y,I,h3,h4⟩:=h.D p.er (by rw[zP];exact I0 hp)
  have qY:(p.bm.getD []).length<=n:=by
   have:((p.bm.getD []).map cn.er).length<=n:=Y;rwa [If]at this
  refine⟨Ij qY hn,Ij I hn,Ij h3 hn,fun d hd=>?_⟩;obtain⟨h5,h6⟩:=h4 d.er (I0 hd);exact⟨Ij h5 hn,Ij h6 hn⟩
 .obtain⟨Y,I⟩:=h.N u.er (by rw[vN];exact I0 hu);exact⟨Ij Y hn,Ij I hn⟩
theorem SB.bM {n r}(h:SB n r){i p}(hp:p.bm.length<=n/\p.b6.bh.length<=n/\p.b6.aS.length<=n/\∀d∈p.bm,d.bh.length<=n/\d.aS.length<=n):SB n (bM r i p):=
 ⟨h.L,by show(r.ah.set i p).length<=n;rw[I7];exact h.P,h.U,fun q hq=>by
  rcases tS hq with hq|rfl
  ·exact h.D q hq
  ·exact hp,h.N⟩
theorem SB.aJ {n r}(h:SB n r){i u}(hu:u.uses.length<=n/\u.results.length<=n):SB n (aJ r i u):=
 ⟨h.L,h.P,by show(r.units.set i u).length<=n;rw[I7];exact h.U,h.D,fun q hq=>by
  rcases tS hq with hq|rfl
  ·exact h.N q hq
  ·exact hu⟩
theorem SB.cA {n r}(h:SB n r){i x}:SB n (cA r i x):=
 ⟨by show(r.ay.set i x).length<=n;rw[I7];exact h.L,h.P,h.U,h.D,h.N⟩
theorem q4s {α:Type}{p:α->Bool}{x l n}(h:l.length<=n):(kc p x l).length<=n+1:=by
 unfold kc;split
 .rw[I7];omega
 .rw[Ig,Hc];omega
theorem jez {w l k x n}(h:l.length<=n):(oS w l k x).length<=n+1:=by
 unfold oS;split
 .split
  .rw[I7];omega
  .omega
 .rw[Ig,Hc];omega
theorem jle {w:Int->Int}{n:Nat}{r r' e}(h:SB n r)(ha:apply w r e=.ok r'):SB (n+1) r':=by
 have h':=h.mono (Nat.le_succ n);unfold apply at ha;split at ha
 .unfold pS at ha;split at ha
  .repeat' split at ha
   all_goals first|(cases ha;done)|skip
   cases ha;exact⟨by show(r.ay++[_]).length<=_;rw[Ig,Hc];have:=h.L;omega,h'.P,h'.U,h'.D,h'.N⟩
  split at ha
  .repeat' split at ha
   all_goals first|(cases ha;done)|skip
   cases ha;refine⟨h'.L,by show(r.ah++[_]).length<=_;rw[Ig,Hc];have:=h.P;omega,h'.U,fun p hp=>?_,h'.N⟩;rcases Ld.1 hp with hp|hp
   .exact h'.D p hp
   .simp at hp;subst hp;simp
  .split at ha
   .cases ha
   repeat' split at ha
   all_goals first|(cases ha;done)|skip
   cases ha;refine⟨h'.L,h'.P,by show(r.units++[_]).length<=_;rw[Ig,Hc];have:=h.U;omega,h'.D,fun p hp=>?_⟩;rcases Ld.1 hp with hp|hp
   .exact h'.N p hp
   .simp at hp;subst hp;simp
 split at ha
 .unfold pT at ha;split at ha
  .cases ha
  split at ha
  .cases ha
  rename_i p hp;have hD:=h.D p (Hq hp);have pV:=h'.D p (Hq hp)
  repeat' split at ha
  all_goals first|(cases ha;done)|skip
  .cases ha;refine h'.bM ⟨pV.1,?_,pV.2.2.1,pV.2.2.2⟩;show(kM p.b6.bh _ _).length<=_;unfold kM;split
   .exact Ij (J0 _ _) pV.2.1
   .exact q4s hD.2.1
  .cases ha;exact h'.bM ⟨pV.1,pV.2.1,q4s hD.2.2.1,pV.2.2.2⟩
  .cases ha;refine h'.bM ⟨by show(p.bm++[_]).length<=_;rw[Ig,Hc];have:=hD.1;omega,pV.2.1,pV.2.2.1,fun d hd=>?_⟩;rcases Ld.1 hd with hd|hd
   .exact pV.2.2.2 d hd
   .simp at hd;subst hd;exact⟨pV.2.1,pV.2.2.1⟩
 split at ha
 .unfold vR at ha;split at ha
  .cases ha
  split at ha
  .cases ha
  repeat' split at ha
  all_goals first|(cases ha;done)|skip
  all_goals (cases ha;exact h'.cA)
 .unfold pU at ha;split at ha
  .cases ha
  split at ha
  .cases ha
  rename_i u hu;have hN:=h.N u (Hq hu);have sw:=h'.N u (Hq hu);split at ha
  .unfold xE at ha;split at ha
   .cases ha
   split at ha
   .cases ha
   repeat' split at ha
   all_goals first|(cases ha;done)|skip
   cases ha;exact h'.cA.aJ ⟨jez hN.1,sw.2⟩
  split at ha
  .unfold xF at ha;split at ha
   .cases ha
   split at ha
   .cases ha
   rename_i v hv;have hV':=h'.N v (Hq hv)
   repeat' split at ha
   all_goals first|(cases ha;done)|skip
   cases ha;exact(h'.aJ (u:={ u with partner:=v.name }) ⟨sw.1,sw.2⟩).aJ (u:={ v with partner:=u.name }) ⟨hV'.1,hV'.2⟩
  split at ha
  .repeat' split at ha
   all_goals first|(cases ha;done)|skip
   cases ha;exact h'.aJ ⟨sw.1,by show(u.results++[_]).length<=_;rw[Ig,Hc];have:=hN.2;omega⟩
  split at ha
  .split at ha
   .cases ha
   split at ha
   .cases ha
   split at ha
   .cases ha
   .cases ha;exact h'.aJ ⟨sw.1,sw.2⟩
  split at ha
  .split at ha
   .cases ha
   .cases ha;exact h'.aJ ⟨sw.1,sw.2⟩
  .split at ha
   .cases ha
   .cases ha;exact h'.aJ ⟨sw.1,sw.2⟩
theorem jrc {w n r r' e}(h:SB n r)(ha:after w r e=.ok r'):SB (n+1) r':=by
 unfold after at ha;split at ha
 .cases ha
 split at ha
 .cases ha
 rename_i r1 Y;cases ha;have:=jle h Y;exact⟨this.L,this.P,this.U,this.D,this.N⟩
def HB (h:y6):Prop:=∀(j:Nat) (r:z8),h.2[j]?=Gb r->SB j r
theorem HB.empty:HB ([],[mO]):=by
 intro j r Q
 cases j with
 |zero=>simp at Q;subst Q;exact SB.empty|succ j=>simp at Q
theorem HB.accept {w h h' k e}(o:iW w h)(b:HB h)(ha:Go.W.accept w h k e=.ok h'):HB h':=by
 unfold Go.W.accept at ha;split at ha
 .cases ha
 split at ha
 .split at ha
  .cases ha
  split at ha
  .cases ha
  .cases ha;intro j r Q;simp only[List.getElem?_dropLast]at Q;split at Q
   .exact b j r Q
   .cases Q
 .split at ha
  .cases ha
  .rename_i r' Y;cases ha;intro j r Q;have hn:=o.now;have hlen:=o.len;simp only at Q;by_cases hj:j<h.2.length
   .rw[List.getElem?_append_left hj]at Q;exact b j r Q
   .rw[List.getElem?_append_right (by omega)]at Q
    have hj2:j=h.1.length+1:=by
     cases hd:j-h.2.length with
     |zero=>omega|succ d=>rw[hd]at Q;simp at Q
    subst hj2;rw[hlen,Nat.sub_self]at Q;simp at Q;subst Q;exact jrc (b _ _ hn) Y
end Go.Z
namespace Go.Z
open Go Go.Abs Go.W
def sx (n:Nat)(h:y6):Option HV->Prop
 |none=>h=([],[mO])/\n=0|some v=>v.lc<=v.cs.length/\v.ls<=v.ss.length/\h.1=(v.cs.take v.lc).map aC.er/\h.2=(v.ss.take v.ls).map av.er/\v.ev.length=n/\v.lc<=n
def Xw (n:Nat)(h:y6)(c:Int)(s:Option HV):Except Int y6->Prop
 | .error x=>c=x/\x≠0/\sx n h s| .ok h'=>c=0/\sx (n+1) h' s
theorem Xx {α:Type}{xs:List α}{len x}(Y:len<=xs.length)(I:len<=BB):qZ xs len x=Gb (xs.take len++[x]):=by
 unfold qZ;rw[if_pos ⟨Y,by unfold BB at I;omega⟩]
theorem Xy {n}(h:n<=BB):qd .i64 ((n:Int)+1)=((n+1:Nat):Int):=za (by unfold BB at h;omega)
theorem Pv {n}(h:n<=BB)(h0:0<n):qd .i64 ((n:Int)-1)=((n-1:Nat):Int):=by
 obtain⟨m,rfl⟩:∃m,n=m+1:=⟨n-1,by omega⟩;have:=q5e (i:=m) (by unfold BB at h;omega);rw[this];rfl
theorem qw6 {α:Type}{l:List α}{k}(h:k<=l.length):(l.take k).dropLast=l.take (k-1):=by
 rw[J1,Iz,List.take_take]
 congr 1;omega
theorem vY {a b}:f35 (Gb [a,b])=Gb (iV [a,b]):=jX (by simp[SM])
theorem jmo {e}(hc:jj e.er=0):∃c s',Cc e=Gb (c,s')/\Xw 0 ([],[mO]) c s' (Go.W.accept (qd .i64) ([],[mO]) (0+1) e.er):=by
 unfold Cc Go.W.accept;rw[show qd .i64 1=1 from rfl,show e.er.number=e.number from rfl,show e.er.kind=e.kind from rfl,show((0:Int)+1)=1 from rfl];by_cases Y:e.number=1
 .rw[decide_eq_true Y,if_neg (fun h=>h Y)];simp only[cond_true];by_cases I:e.kind=oR
  .rw[show decide (e.kind=([117,110,100,111]:aj))=H2 from decide_eq_true I,if_pos I];simp only[cond_true,ym,qa,vY];exact⟨_,_,rfl,rfl,by decide,rfl,rfl⟩
  .rw[show decide (e.kind=([117,110,100,111]:aj))=Ha from decide_eq_false I,if_neg I];have hw:WF eb.er:=WF.empty 0;obtain⟨r',c,g1,g2⟩:=jds (r:=eb) (SB.empty.gb (r:=eb) (L2 _)) hw hc I;simp only[cond_false,g1,qa];rw[show now ([],[mO])=eb.er from rfl]
   cases ha:after (qd .i64) eb.er e.er with
   |error k=>
    rw[ha]at g2;obtain⟨rfl,g3⟩:=g2;rw[decide_eq_false g3];exact⟨_,_,rfl,rfl,g3,rfl,rfl⟩
   |ok s=>
    rw[ha]at g2;obtain⟨rfl,rfl⟩:=g2;exact⟨_,_,rfl,rfl,Ix _,Ix _,rfl,rfl,rfl,Ix _⟩
 .rw[decide_eq_false Y,if_pos Y];exact⟨_,_,rfl,rfl,by decide,rfl,rfl⟩
theorem jvi {v:HV}{n:Nat}{h e}(Q:sx n h (Gb v))(o:iW (qd .i64) h)(b:HB h)(hn:n<BB)(hc:jj e.er=0):∃c s',sA (Gb v) e=Gb (c,s')/\Xw n h c s' (Go.W.accept (qd .i64) h ((n:Int)+1) e.er):=by
 obtain⟨r1,r2,r3,r4,r5,r6⟩:=Q
 have eu:h.1.length=v.lc:=by rw[r3,If,Iz];omega
 have eA:h.2.length=v.ls:=by rw[r4,If,Iz];omega
 have GL:v.ls=v.lc+1:=by rw[<-eu,<-eA];exact o.len
 have eO:qZ v.ev v.ev.length e=Gb (v.ev++[e]):=by rw[Xx (Ix _) (by omega),Um]
 show ∃c s',(qa (Cd v e) fun q=>Gb (q.1,Gb q.2))=Gb (c,s')/\_;unfold Cd Go.W.accept;rw[show e.er.number=e.number from rfl,show e.er.kind=e.kind from rfl,r5,Xy (by omega)];by_cases Y:e.number=((n+1:Nat):Int)
 case neg=>
  rw[decide_eq_false Y,if_pos (show e.number≠(n:Int)+1 from Y)];exact⟨_,_,rfl,rfl,by decide,r1,r2,r3,r4,r5,r6⟩
 rw[decide_eq_true Y,if_neg (show ¬e.number≠(n:Int)+1 from fun hh=>hh Y)];simp only[cond_true];by_cases I:e.kind=oR
 .rw[show decide (e.kind=([117,110,100,111]:aj))=H2 from decide_eq_true I,if_pos I];simp only[cond_true,ym,qa];by_cases h3:v.lc=0
  .have h4:h.1=[]:=Ji (by rw[eu,h3]);rw[h4];simp only[h3,show decide (((0:Nat):Int)=0)=H2 from rfl,show decide ((0:Int)<((0:Nat):Int))=Ha from rfl,cond_false,vY];exact⟨_,_,rfl,rfl,by decide,r1,r2,r3,r4,r5,r6⟩
  .have iO:0<v.lc:=by omega
   rw[decide_eq_false (show ¬(v.lc:Int)=0 by omega),decide_eq_true (show(0:Int)<(v.lc:Int) by omega),Pv (by omega) iO];obtain⟨x,M⟩:∃x,(v.cs.take v.lc)[v.lc-1]?=Gb x:=⟨_,Ip (by rw[Iz];omega)⟩
   have nT:max 0 ((v.lc-1:Nat):Int)=((v.lc-1:Nat):Int):=by omega
   have tT:h.1.getLast?=Gb x.er:=by
    rw[Od,eu,r3,Io,M];rfl
   rw[nT,tT];simp only[cond_true,ja M,vY];by_cases h5:x.kind=lX
   .rw[if_pos (show x.er.kind=lX from h5),show decide (x.kind=([115,104,105,112]:aj))=H2 from decide_eq_true h5];exact⟨_,_,rfl,rfl,by decide,r1,r2,r3,r4,r5,r6⟩
   .rw[if_neg (show ¬x.er.kind=lX from h5),show decide (x.kind=([115,104,105,112]:aj))=Ha from decide_eq_false h5];rw[r5]at eO;simp only[Gd,if_false,show decide (iV [0,0]=0)=H2 from rfl,cond_true];rw[decide_eq_true (show(0:Int)<=((v.lc-1:Nat):Int)/\((v.lc-1:Nat):Int)<=(v.lc:Int)/\v.lc<=v.ls by omega)];simp only[cond_true,eO];have Xz:((v.lc-1:Nat):Int).toNat=v.lc-1:=Jy _;refine⟨_,_,rfl,rfl,by show((v.lc-1:Nat):Int).toNat<=v.cs.length;rw[Xz];omega,by show v.lc<=v.ss.length;omega,?_,?_,by show(v.ev++[e]).length=_;rw[Ig,r5];rfl,by show((v.lc-1:Nat):Int).toNat<=n+1;rw[Xz];omega⟩
    .show h.1.dropLast=(v.cs.take ((v.lc-1:Nat):Int).toNat).map aC.er;rw[Xz,r3,<-Ty,qw6 r1]
    .show h.2.dropLast=(v.ss.take v.lc).map av.er;rw[r4,<-Ty,qw6 r2,GL];rfl
 .rw[show decide (e.kind=([117,110,100,111]:aj))=Ha from decide_eq_false I,if_neg I];have dH:=o.now;rw[eu,r4,Io]at dH
  cases Q:(v.ss.take v.ls)[v.lc]? with
  |none=>rw[Q]at dH;cases dH
  |some r=>
   rw[Q]at dH
   have xe:r.er=now h:=by simpa using dH
   have Ce:SB v.lc r.er:=b v.lc r.er (by rw[r4,Io,Q];rfl)
   have hwf:WF r.er:=by rw[xe];exact o.tU
   obtain⟨r',c,g1,g2⟩:=jds (Ce.gb (by omega)) hwf hc I
   have hi:qd .i64 ((v.ls:Int)-1)=(v.lc:Int):=by rw[Pv (by omega) (by omega),GL];rfl
   rw[hi];simp only[cond_false,ja Q,g1,qa];rw[xe]at g2
   cases ha:after (qd .i64) (now h) e.er with
   |error k=>
    rw[ha]at g2;obtain⟨rfl,g3⟩:=g2;rw[decide_eq_false g3];exact⟨_,_,rfl,rfl,g3,r1,r2,r3,r4,r5,r6⟩
   |ok s=>
    rw[ha]at g2;obtain⟨rfl,rfl⟩:=g2;rw[r5]at eO;rw[Xx r1 (by omega),Xx r2 (by omega)];simp only[eO,show decide ((0:Int)=0)=H2 from rfl,cond_true];refine⟨_,_,rfl,rfl,?_,?_,?_,?_,by show(v.ev++[e]).length=_;rw[Ig,r5];rfl,by show v.lc+1<=n+1;omega⟩
    .show v.lc+1<=(v.cs.take v.lc++[e]).length;rw[Ig,Iz,Hc];omega
    .show v.ls+1<=(v.ss.take v.ls++[r']).length;rw[Ig,Iz,Hc];omega
    .show h.1++[e.er]=((v.cs.take v.lc++[e]).take (v.lc+1)).map aC.er;rw[Oj (by rw[Ig,Iz,Hc];omega),I6,r3];rfl
    .show h.2++[r'.er]=((v.ss.take v.ls++[r']).take (v.ls+1)).map av.er;rw[Oj (by rw[Ig,Iz,Hc];omega),I6,r4];rfl
theorem jci {s n h e}(Q:sx n h s)(o:iW (qd .i64) h)(b:HB h)(hn:n<BB)(hc:jj e.er=0):∃c s',sA s e=Gb (c,s')/\Xw n h c s' (Go.W.accept (qd .i64) h ((n:Int)+1) e.er):=by
 cases s with
 |some v=>exact jvi Q o b hn hc
 |none=>
  obtain⟨rfl,rfl⟩:=Q;exact jmo hc
end Go.Z
namespace Go.Z
open Go Go.Abs Go.W
def iX (e:aC):Prop:=(e.names.getD []).length<=SM/\(e.values.getD []).length<=SM
theorem jjk {α:Type}{o:Option (List α)}(h:(o.getD []).length<=SM):∃q b,(cond o.isNone (Gb (I5,Ha)) (qa (bB (Gb []) (o.getD [])) fun v2=>Gb (v2,H2)):Option (Option (List α)×Bool))=Gb (q,b)/\q.getD []=o.getD []:=by
 cases o with
 |none=>exact⟨I5,Ha,rfl,rfl⟩
 |some l=>
  have:bB (Gb []) l=Gb (Gb l):=by
   unfold bB;simp only[Hb,J2];rw[if_pos (by simpa using h)];rfl
  exact⟨Gb l,H2,by simp only[Lu,cond_false,Hb,this,qa],rfl⟩
theorem KC {e:aC}(h:iX e):∃e',f46 e=Gb e'/\e'.er=e.er/\iX e':=by
 obtain⟨q1,b1,Y,k1⟩:=jjk (o:=e.names) h.1;obtain⟨q2,b2,I,k2⟩:=jjk (o:=e.values) h.2;refine⟨⟨e.number,e.kind,q1,q2,e.text⟩,?_,?_,?_⟩
 .unfold f46;rw[show f120 e.names=Gb (q1,b1)from Y,show f131 e.values=Gb (q2,b2)from I];cases b1<;>cases b2<;>rfl
 .show cQ.mk _ _ _ _ _=cQ.mk _ _ _ _ _;simp only[k1,k2]
 .exact⟨by show(q1.getD []).length<=_;rw[k1];exact h.1,by show(q2.getD []).length<=_;rw[k2];exact h.2⟩
def zgl (n:Nat):Except (Int×Int) y6->(Int×Int×Option HV)⊕(Int×Option HV)->Prop
 | .error x,d=>∃s,d=.inl (x.1,x.2,s)/\x.2≠0| .ok h,d=>∃o,d=.inr ((n:Int),o)/\sx n h o/\iW (qd .i64) h/\HB h
theorem jii {l}(hb:∀e∈l.getD [],iX e)(hl:(l.getD []).length<=BB):∀(m:List aC) (i:Nat) (h:y6) (s:Option HV),(l.getD []).drop i=m->i<=(l.getD []).length->sx i h s->iW (qd .i64) h->HB h->∃d,bd (sB l) ((i:Int),s)=Gb d/\zgl (l.getD []).length (ya (qd .i64) i h (m.map aC.er)) d
 | [],i,h,s,hm,hi,Q,o,b=>by
  have he:i=(l.getD []).length:=by
   have:=Oo.1 hm;omega
  subst he;refine⟨.inr (((l.getD []).length:Int),s),ju ?_,s,rfl,Q,o,b⟩;unfold sB;rw[z4];rfl
 |e::m,i,h,s,hm,hi,Q,o,b=>by
  have M:(l.getD [])[i]?=Gb e:=by
   have:=congrArg List.head? hm;rwa [Va]at this
  have aW:i<(l.getD []).length:=(Ii.1 M).1
  have tQ:(l.getD []).drop (i+1)=m:=by rw[qR M]at hm;exact(List.cons.inj hm).2
  have vZ:=hb e (Hq M);have hw:qd .i64 ((i:Int)+1)=((i+1:Nat):Int):=Xy (by omega)
  have cm:sB l ((i:Int),s)=cond (decide (jj e.er=0)) (qa (f46 e) fun e2=>qa (sA s e2) fun q=>cond (decide (q.1=0)) (Gb (.inl (((i+1:Nat):Int),q.2))) (Gb (.inr (.inl (((i+1:Nat):Int),q.1,q.2))))) (Gb (.inr (.inl (((i+1:Nat):Int),jj e.er,s)))):=by
   unfold sB;simp only[yn aW,cond_true,ja M,qa,Pu vZ.1 vZ.2,hw]
  rw[Iy];simp only[ya];by_cases hc:jj e.er=0
  case neg=>
   rw[if_pos hc];refine⟨.inl (((i+1:Nat):Int),jj e.er,s),ju ?_,s,rfl,hc⟩;rw[cm,decide_eq_false hc];rfl
  rw[if_neg (fun h=>h hc)];obtain⟨e',g1,g2,g3⟩:=KC vZ;obtain⟨c,s',k1,k2⟩:=jci (e:=e') Q o b (by omega) (by rw[g2];exact hc);rw[g2]at k2;rw[decide_eq_true hc,cond_true,g1]at cm;simp only[qa,k1]at cm
  cases ha:Go.W.accept (qd .i64) h ((i:Int)+1) e.er with
  |error x=>
   rw[ha]at k2;obtain⟨rfl,k3,k4⟩:=k2;rw[decide_eq_false k3]at cm;exact⟨.inl (((i+1:Nat):Int),c,s'),ju cm,s',rfl,k3⟩
  |ok h'=>
   rw[ha]at k2;obtain⟨rfl,k4⟩:=k2;rw[decide_eq_true (rfl:(0:Int)=0)]at cm;obtain⟨d,d1,d2⟩:=jii hb hl m (i+1) h' s' tQ aW k4 (o.accept hc ha) (b.accept o ha);exact⟨d,by rw[z9 cm];exact d1,d2⟩
def zkn (n:Nat):Except (Int×Int) y6->(Int×Int)⊕Option HV->Prop
 | .error x,d=>d=.inl x/\x.2≠0| .ok h,d=>∃o,d=.inr o/\sx n h o/\iW (qd .i64) h/\HB h/\n<=1000
theorem j21 {l}(hb:∀e∈l.getD [],iX e):∃d,f27 l=Gb d/\zkn (l.getD []).length (run (qd .i64) ((l.getD []).map aC.er)) d:=by
 unfold f27 run;rw[If];by_cases h:1000<(l.getD []).length
 .rw[decide_eq_true (by omega),if_pos h];exact⟨_,rfl,rfl,by decide⟩
 .rw[decide_eq_false (by omega),if_neg h,cond_false];obtain⟨d,d1,d2⟩:=jii hb (by unfold BB;omega) (l.getD []) 0 ([],[mO]) I5 rfl (L2 _) ⟨rfl,rfl⟩ iW.empty HB.empty;rw[show(0:Int)=((0:Nat):Int)from rfl,d1]
  cases Q:ya (qd .i64) 0 ([],[mO]) ((l.getD []).map aC.er)with
  |error x=>
   rw[Q]at d2;obtain⟨s,rfl,k⟩:=d2;exact⟨_,rfl,rfl,k⟩
  |ok h'=>
   rw[Q]at d2;obtain⟨o,rfl,k1,k2,k3⟩:=d2;exact⟨_,rfl,o,rfl,k1,k2,k3,by omega⟩
theorem jsp {n h o}(Q:sx n h o)(k:iW (qd .i64) h)(hn:n<=1000):∃r,Px o=Gb r/\r.er=now h:=by
 cases o with
 |none=>
  obtain⟨rfl,rfl⟩:=Q;exact⟨eb,rfl,rfl⟩
 |some v=>
  obtain⟨r1,r2,r3,r4,r5,r6⟩:=Q
  have eu:h.1.length=v.lc:=by rw[r3,If,Iz];omega
  have eA:h.2.length=v.ls:=by rw[r4,If,Iz];omega
  have GL:v.ls=v.lc+1:=by rw[<-eu,<-eA];exact k.len
  have hi:qd .i64 ((v.ls:Int)-1)=(v.lc:Int):=by rw[Pv (by unfold BB;omega) (by omega),GL];rfl
  have dH:=k.now;rw[eu,r4,Io]at dH
  cases hq:(v.ss.take v.ls)[v.lc]? with
  |none=>rw[hq]at dH;cases dH
  |some r=>
   rw[hq]at dH;exact⟨r,by show ql (v.ss.take v.ls) (qd .i64 ((v.ls:Int)-1))=Gb r;rw[hi];exact ja hq,by simpa using dH⟩
def XA:Except (Int×Int) y6->z8×Int×Int
 | .error x=>(mO,x.1,x.2)| .ok h=>(now h,0,0)
def GM (r:Except (Int×Int) y6)(n:Nat)(e:cQ):Int:=match r with
 | .error x=>x.2
 | .ok h=>if jj e≠0 then jj e else if 1000<=n then 5 else match Go.W.accept (qd .i64) h ((n:Int)+1) e with
  | .error x=>x| .ok _=>0
end Go.Z
namespace Go.Z
open Go Go.Abs Go.W
theorem q8a {α:Type}{o:Option (List α)}{k}(h:k<=(o.getD []).length):∃q,n8 o I5 (Gb (k:Int))=Gb q/\q.getD []=(o.getD []).take k:=by
 have hc:fY (o.getD []) I5 (Gb (k:Int))=Gb ((o.getD []).take k):=by
  unfold fY
  have Y:lz (o.getD []).length (o.getD []).length (Gb (k:Int))=Gb k:=by
   unfold lz;simp only[];rw[if_pos ⟨by omega,by omega⟩,Jy]
  rw[Y];rfl
 unfold n8;rw[hc]
 cases o with
 |none=>exact⟨I5,rfl,by simp⟩|some l=>exact⟨_,rfl,rfl⟩
theorem XB {α:Type}{o:Option (List α)}{x}(h:(o.getD []).length<SM):∃q,bB (Gb []) (o.getD [])=Gb (Gb (o.getD []))/\bB (Gb (o.getD [])) [x]=Gb q/\q.getD []=o.getD []++[x]:=by
 refine⟨Gb (o.getD []++[x]),?_,?_,rfl⟩
 .unfold bB;rw[if_pos (by simp only[Hb,Js];unfold SM at h;omega)];rfl
 .unfold bB;rw[if_pos (by simp only[Hb,Hc];unfold SM at h;omega)];rfl
theorem jje {e:aC}(hc:jj e.er=0):∀v∈e.values.getD [],0<=v:=by
 intro v hv;unfold jj at hc;split at hc
 .simp at hc
 split at hc
 .simp at hc
 split at hc
 .simp at hc
 split at hc
 .simp at hc
 split at hc
 .simp at hc
 rename_i h;simp only[Bool.not_eq_true',Bool.not_eq_false]at h;have:=List.all_eq_true.1 h v hv;simp at this;exact this.1
def XD (i:Nat)(h:y6)(s:ak aC×ak av):Prop:=h.1=(s.1.getD []).map aC.er/\h.2=(s.2.getD []).map av.er/\h.1.length<=i
def XE (n:Nat):Except (Int×Int) y6->(Int×Int×Int×(ak jk)×(ak bw)×(ak bz))⊕((ak aC)×Bool×(ak av)×Bool×Int)->Prop
 | .error x,d=>∃s,d=.inl (x.1,x.2,s)/\x.2≠0| .ok h,d=>∃s w1 w2,d=.inr (s.1,w1,s.2,w2,(n:Int))/\XD n h s/\iW (qd .i64) h/\HB h
theorem jka {l:ak aC}(hb:∀e∈l.getD [],iX e)(hl:(l.getD []).length<=BB):∀(m:List aC) (i:Nat) (h:y6) (s:ak aC×ak av) (w1 w2:Bool),(l.getD []).drop i=m->i<=(l.getD []).length->XD i h s->iW (qd .i64) h->HB h->∃d,bd (rh l) (s.1,s.2,(i:Int),w1,w2)=Gb d/\XE (l.getD []).length (ya (qd .i64) i h (m.map aC.er)) d
 | [],i,h,s,w1,w2,hm,hi,Q,o,b=>by
  have he:i=(l.getD []).length:=by
   have:=Oo.1 hm;omega
  subst he;refine⟨.inr (s.1,w1,s.2,w2,((l.getD []).length:Int)),ju ?_,s,w1,w2,rfl,Q,o,b⟩;unfold rh;rw[z4];rfl
 |e::m,i,h,s,w1,w2,hm,hi,Q,o,b=>by
  have M:(l.getD [])[i]?=Gb e:=by
   have:=congrArg List.head? hm;rwa [Va]at this
  have aW:i<(l.getD []).length:=(Ii.1 M).1
  have tQ:(l.getD []).drop (i+1)=m:=by rw[qR M]at hm;exact(List.cons.inj hm).2
  have vZ:=hb e (Hq M);have hw:qd .i64 ((i:Int)+1)=((i+1:Nat):Int):=Xy (by omega);obtain⟨r1,r2,r3⟩:=Q
  have eu:h.1.length=(s.1.getD []).length:=by rw[r1,If]
  have eA:h.2.length=(s.2.getD []).length:=by rw[r2,If]
  have hlen:=o.len;rw[Iy];simp only[ya];obtain⟨F,hF⟩:∃F,rh l (s.1,s.2,(i:Int),w1,w2)=F:=⟨_,rfl⟩;have hG:=hF;unfold rh at hG;simp only[yn aW,cond_true,ja M,qa,Xv vZ.1 vZ.2,hw]at hG;subst hG;by_cases hc:jj e.er=0
  case neg=>
   rw[decide_eq_false hc,cond_false]at hF;rw[if_pos hc];exact⟨_,ju hF,_,rfl,hc⟩
  rw[if_neg (fun h=>h hc)];rw[decide_eq_true hc,cond_true]at hF
  have xH:∀(h':y6) (q:ak aC×ak av) (v1 v2:Bool),rh l (s.1,s.2,(i:Int),w1,w2)=Gb (.inl (q.1,q.2,((i+1:Nat):Int),v1,v2))->Go.W.accept (qd .i64) h ((i:Int)+1) e.er=.ok h'->XD (i+1) h' q->∃d,bd (rh l) (s.1,s.2,(i:Int),w1,w2)=Gb d/\XE (l.getD []).length (match Go.W.accept (qd .i64) h ((i:Int)+1) e.er with
    | .error x=>.error ((i:Int)+1,x)
    | .ok h'=>ya (qd .i64) (i+1) h' (m.map aC.er)) d:=by
   intro h' q v1 v2 g1 g2 g3;obtain⟨d,d1,d2⟩:=jka hb hl m (i+1) h' q v1 v2 tQ aW g3 (o.accept hc g2) (b.accept o g2);rw[g2];exact⟨d,by rw[z9 g1];exact d1,d2⟩
  have xI:∀(x:Int) (q),rh l (s.1,s.2,(i:Int),w1,w2)=Gb (.inr (.inl (((i+1:Nat):Int),x,q)))->Go.W.accept (qd .i64) h ((i:Int)+1) e.er=.error x->x≠0->∃d,bd (rh l) (s.1,s.2,(i:Int),w1,w2)=Gb d/\XE (l.getD []).length (match Go.W.accept (qd .i64) h ((i:Int)+1) e.er with
    | .error x=>.error ((i:Int)+1,x)
    | .ok h'=>ya (qd .i64) (i+1) h' (m.map aC.er)) d:=by
   intro x q g1 g2 g3;rw[g2];exact⟨_,ju g1,q,rfl,g3⟩
  have hA:∀y,Go.W.accept (qd .i64) h ((i:Int)+1) e.er=y->Go.W.accept (qd .i64) h ((i:Int)+1) e.er=y:=fun _ h=>h;by_cases Y:e.number=((i+1:Nat):Int)
  case neg=>
   rw[decide_eq_false Y]at hF;refine xI 11 _ hF ?_ (by decide);unfold Go.W.accept;rw[if_pos (show e.er.number≠(i:Int)+1 from Y)]
  rw[decide_eq_true Y,cond_true]at hF;have hn1:¬e.er.number≠(i:Int)+1:=fun hh=>hh Y;by_cases I:e.kind=oR
  .rw[show decide (e.kind=([117,110,100,111]:aj))=H2 from decide_eq_true I,cond_true]at hF
   have ha:Go.W.accept (qd .i64) h ((i:Int)+1) e.er=(match h.1.getLast? with
     |none=>.error 12
     |some c=>if c.kind=lX then .error 19 else .ok (h.1.dropLast,h.2.dropLast)):=by
    unfold Go.W.accept;rw[if_neg hn1,if_pos (show e.er.kind=oR from I)];cases h.1.getLast?<;>rfl
   by_cases h3:(s.1.getD []).length=0
   .rw[decide_eq_true (by omega),cond_true]at hF;refine xI 12 _ hF ?_ (by decide);rw[ha,show h.1=[]from Ji (by omega)];rfl
   .rw[decide_eq_false (by omega),cond_false,Pv (by omega) (by omega)]at hF;obtain⟨x,M⟩:∃x,(s.1.getD [])[(s.1.getD []).length-1]?=Gb x:=⟨_,Ip (by omega)⟩
    have tT:h.1.getLast?=Gb x.er:=by
     rw[Od,eu,r1,Io,M];rfl
    rw[tT]at ha;simp only[ja M]at hF;by_cases h5:x.kind=lX
    .rw[show decide (x.kind=([115,104,105,112]:aj))=H2 from decide_eq_true h5,cond_true]at hF;refine xI 19 _ hF ?_ (by decide);rw[ha];exact if_pos (show x.er.kind=lX from h5)
    .rw[show decide (x.kind=([115,104,105,112]:aj))=Ha from decide_eq_false h5,cond_false]at hF;obtain⟨q1,c1,c2⟩:=q8a (o:=s.1) (k:=(s.1.getD []).length-1) (by omega);obtain⟨q2,cZ,ft⟩:=q8a (o:=s.2) (k:=(s.1.getD []).length) (by omega);simp only[c1,cZ]at hF;refine xH (h.1.dropLast,h.2.dropLast) (q1,q2) _ _ hF ?_ ⟨?_,?_,?_⟩
     .rw[ha];exact if_neg (show ¬x.er.kind=lX from h5)
     .show h.1.dropLast=_;rw[c2,J1,eu,r1,Ve]
     .show h.2.dropLast=_;rw[ft,J1,r2,Ve,<-r2,hlen,eu];rfl
     .show h.1.dropLast.length<=_;rw[List.length_dropLast];omega
  .rw[show decide (e.kind=([117,110,100,111]:aj))=Ha from decide_eq_false I,cond_false]at hF
   have ha:Go.W.accept (qd .i64) h ((i:Int)+1) e.er=(match after (qd .i64) (now h) e.er with
     | .error x=>.error x
     | .ok r=>.ok (h.1++[e.er],h.2++[r])):=by
    unfold Go.W.accept;rw[if_neg hn1,if_neg (show ¬e.er.kind=oR from I)];cases after (qd .i64) (now h) e.er<;>rfl
   have dH:=o.now;rw[eu,r2,Io]at dH
   cases hq:(s.2.getD [])[(s.1.getD []).length]? with
   |none=>rw[hq]at dH;cases dH
   |some r=>
    rw[hq]at dH
    have xe:r.er=now h:=by simpa using dH
    have Ce:SB (s.1.getD []).length r.er:=b _ r.er (by rw[r2,Io,hq];rfl);obtain⟨r',c,g1,g2⟩:=jxc (e:=e) (Ce.gb (by omega)) (by rw[xe];exact o.tU) hc I (jje hc);simp only[ja hq,g1]at hF;rw[xe]at g2
    cases hat:after (qd .i64) (now h) e.er with
    |error k=>
     rw[hat]at g2 ha;obtain⟨rfl,g3⟩:=g2;rw[decide_eq_false g3,cond_false]at hF;exact xI _ _ hF ha g3
    |ok t=>
     rw[hat]at g2 ha;obtain⟨rfl,rfl⟩:=g2;obtain⟨q1,c1,c2,cZ⟩:=XB (o:=s.1) (x:=e) (by unfold BB at hl;unfold SM;omega);obtain⟨q2,ft,dz,ep⟩:=XB (o:=s.2) (x:=r') (by unfold BB at hl;unfold SM;omega);rw[decide_eq_true (rfl:(0:Int)=0),cond_true]at hF;simp only[c1,c2,ft,dz]at hF;refine xH _ (q1,q2) _ _ hF ha ⟨?_,?_,?_⟩
     .show h.1++[e.er]=_;rw[cZ,r1,I6];rfl
     .show h.2++[r'.er]=_;rw[ep,r2,I6];rfl
     .show(h.1++[e.er]).length<=_;rw[Ig,Hc];omega
def zdr:Except (Int×Int) y6->ak aC×av×Int×Int->Prop
 | .error x,d=>d=(I5,⟨0,I5,I5,I5⟩,x.1,x.2)/\x.2≠0| .ok h,d=>∃s r,d=(s,r,0,0)/\h.1=(s.getD []).map aC.er/\r.er=now h/\iW (qd .i64) h/\HB h/\h.1.length<=1000
theorem jir {l}(hb:∀e∈l.getD [],iX e):∃d,f28 l=Gb d/\zdr (run (qd .i64) ((l.getD []).map aC.er)) d:=by
 unfold f28 run;rw[If];by_cases h:1000<(l.getD []).length
 .rw[decide_eq_true (by omega),if_pos h];exact⟨_,rfl,rfl,by decide⟩
 .rw[decide_eq_false (by omega),if_neg h,cond_false];obtain⟨d,d1,d2⟩:=jka hb (by unfold BB;omega) (l.getD []) 0 ([],[mO]) (I5,Gb [⟨0,I5,I5,I5⟩]) Ha H2 rfl (L2 _) ⟨rfl,rfl,L2 _⟩ iW.empty HB.empty;have d1':bd (rh l) (I5,Gb [⟨0,I5,I5,I5⟩],0,Ha,H2)=Gb d:=d1;rw[d1']
  cases Q:ya (qd .i64) 0 ([],[mO]) ((l.getD []).map aC.er)with
  |error x=>
   rw[Q]at d2;obtain⟨s,rfl,k⟩:=d2;exact⟨_,rfl,rfl,k⟩
  |ok h'=>
   rw[Q]at d2;obtain⟨s,w1,w2,rfl,⟨k1,k2,k3⟩,k4,k5⟩:=d2;have dH:=k4.now;rw[k2,Io,k1,If]at dH
   cases hq:(s.2.getD [])[(s.1.getD []).length]? with
   |none=>rw[hq]at dH;cases dH
   |some r=>
    rw[hq]at dH;refine⟨(s.1,r,0,0),?_,s.1,r,rfl,k1,by simpa using dH,k4,k5,by omega⟩;simp only[qa,ja hq]
theorem Py {l}(hb:∀e∈l.getD [],iX e):∃r,f8 l=Gb r/\(r.1.er,r.2)=XA (run (qd .i64) ((l.getD []).map aC.er)):=by
 obtain⟨d,d1,d2⟩:=jir hb;unfold f8;rw[d1];refine⟨_,rfl,?_⟩
 cases Q:run (qd .i64) ((l.getD []).map aC.er)with
 |error x=>
  rw[Q]at d2;obtain⟨rfl,k⟩:=d2;rfl
 |ok h=>
  rw[Q]at d2;obtain⟨s,r,rfl,k1,k2,k3⟩:=d2;show(r.er,((0:Int),(0:Int)))=_;rw[k2];rfl
theorem jw5 {l:ak aC}{e:aC}(hb:∀e∈l.getD [],iX e)(he:iX e):f33 l e=Gb (GM (run (qd .i64) ((l.getD []).map aC.er)) (l.getD []).length e.er):=by
 obtain⟨r,Y,I⟩:=Py hb;unfold f33 GM;rw[Y]
 have h3:r.2.2=(XA (run (qd .i64) ((l.getD []).map aC.er))).2.2:=by rw[<-I]
 cases Q:run (qd .i64) ((l.getD []).map aC.er)with
 |error x=>
  rw[Q]at h3
  have M:x.2≠0:=by
   obtain⟨d,d1,d2⟩:=jir hb;rw[Q]at d2;exact d2.2
  have oW:r.2.2=x.2:=h3;simp only[qa,oW];rw[decide_eq_false M];rfl
 |ok h=>
  rw[Q]at h3;have oW:r.2.2=0:=h3;simp only[qa,oW,Xv he.1 he.2];simp only[decide_true,cond_true];by_cases hc:jj e.er=0
  case neg=>
   rw[decide_eq_false hc,if_pos hc];rfl
  rw[decide_eq_true hc,if_neg (fun h=>h hc),cond_true];by_cases hn:1000<=(l.getD []).length
  .rw[decide_eq_true (by omega),if_pos hn];rfl
  rw[decide_eq_false (by omega),if_neg hn,cond_false];obtain⟨q,c1,c2,cZ⟩:=XB (o:=l) (x:=e) (by unfold SM;omega)
  obtain⟨r2,k1,k2⟩:=Py (l:=q) (fun x M=>by
   rw[cZ]at M;rcases Ld.1 M with M|M
   ·exact hb x M
   ·simp at M;subst M;exact he)
  simp only[c1,c2,k1]
  have k3:r2.2.2=(XA (run (qd .i64) ((q.getD []).map aC.er))).2.2:=by rw[<-k2]
  rw[k3,cZ,I6]
  have vB:ya (qd .i64) 0 ([],[mO]) ((l.getD []).map aC.er)=.ok h:=by
   have:=Q;unfold run at this;rwa [if_neg (by rw[If];omega)]at this
  have bJ:run (qd .i64) ((l.getD []).map aC.er++List.map aC.er [e])=match Go.W.accept (qd .i64) h (((l.getD []).length:Int)+1) e.er with
    | .error x=>.error (((l.getD []).length:Int)+1,x)
    | .ok h'=>.ok h':=by
   unfold run;rw[if_neg (by rw[Ig,If,If,Hc];omega),XF,vB];simp only[Iy,Jj,ya,If,Nat.zero_add];rw[if_neg (fun h=>h hc)];cases Go.W.accept (qd .i64) h (((l.getD []).length:Int)+1) e.er<;>rfl
  rw[bJ]
  cases Go.W.accept (qd .i64) h (((l.getD []).length:Int)+1) e.er with
  |error x=>rfl|ok h'=>rfl
end Go.Z
namespace Go.Z
open Go Go.Abs Go.W
theorem zgo {f:Int->Option (Int⊕(Unit⊕Int))}{n}(hn:n<=SM)(dh:f (n:Int)=Gb (.inr (.inr (n:Int))))(h:∀i:Nat,i<n->f (i:Int)=Gb (.inl (qd .i64 ((i:Int)+1)))):∃d,bd f 0=Gb (.inr d):=
 ⟨_,jni n f dh fun i hi=>by rw[h i hi,za (by unfold SM at hn;omega)]⟩
theorem joo {α:Type}{l:List α}{i}(h:i<l.length):∃x,l[i]?=Gb x:=⟨_,Ip h⟩
theorem ob {α β:Type}{x:α}{f:α->Option β}:qa (Gb x) f=f x:=rfl
end Go.Z
namespace Go.Z
open Go Go.Abs Go.W
theorem jne {a b}(h:a.getD []=b.getD [])(hl:(a.getD []).length<=SM):f24 a b=Gb H2:=by
 unfold f24;rw[show((a.getD []).length:Int)=((b.getD []).length:Int) by rw[h],decide_eq_true rfl,cond_true]
 obtain⟨d,hd⟩:=zgo (f:=Cf a b) (n:=(a.getD []).length) hl (by unfold Cf;simp only[z4];rfl) (fun i hi=>by
  obtain⟨x,M⟩:=joo hi;unfold Cf
  simp only[yn hi,cond_true,qa,ja M,ja (show(b.getD [])[i]?=Gb x by rw[<-h];exact M),decide_true])
 rw[hd];rfl
variable {r:av}{u:bz}
theorem ji8 (hl:(u.uses.getD []).length<=SM):∃w,f61 u=Gb (jd (u.er.uses.map (·.k)),w):=by
 unfold f61 f147;rw[BS (f:=KD u.uses) (l:=u.uses.getD []) (g:=fun x:bG=>x.k) (q:=f148) hl (fun x _=>rfl) (fun s=>rfl)];exact⟨_,rfl⟩
theorem j1z (hl:(u.uses.getD []).length<=SM):∃w,f84 u=Gb (jd (u.er.uses.map (·.k)),w):=by
 unfold f84
 have:=BR (l:=u.uses.getD []) (p:=fun _=>H2) (g:=fun x:bG=>x.k) (f:=Cg u) hl (fun o w=>by unfold Cg;simp only[z4,cond_false]) (fun i x o w M=>by
  have hi:=(Ii.1 M).1;unfold Cg;simp only[yn hi,cond_true,qa,ja M]
  rw[za (by unfold SM at hl;omega)])
 rw[this,Ot.2 (fun _ _=>rfl)];exact⟨_,rfl⟩
theorem XG {a:ak aj}{n:aj}(hl:(a.getD []).length<=SM):f63 a n=Gb ((a.getD []).any fun x=>decide (n=x)):=by
 have h:f149 a n=Gb (ea ((a.getD []).findIdx? fun x=>decide (n=x))):=oh (p:=fun x=>decide (n=x)) hl fun i=>rfl;unfold f63;rw[h,ob,xu,cE]
theorem juo {n:aj}(hl:(u.uses.getD []).length<=SM):f159 u n=Gb (qA u.er n):=by
 obtain⟨w,h⟩:=ji8 hl;unfold f159;rw[h,ob,XG (by rw[zb,If];exact hl),ob,zb,List.any_map];unfold qA
 congr 2
 funext x;by_cases e:x.k=n<;>simp[e,Jc,eq_comm]
theorem jvf {n:aj}(hl:(u.uses.getD []).length<=SM):f156 u n=Gb (qA u.er n):=by
 obtain⟨d,Y,I⟩:=Pe (u.uses.getD []) (Ch u n) (fun x=>!decide (x.k=n)) (fun d=>match d with | .inl _=>Ha | .inr _=>H2) ⟨.inr ((u.uses.getD []).length:Int),by unfold Ch;simp only[z4];rfl,rfl⟩ (fun i x M hi=>by
  unfold Ch;simp only[yn hi,cond_true,qa,ja M];rw[za (by unfold SM at hl;omega)];by_cases e:x.k=n
  ·rw[decide_eq_true e];exact .inr ⟨rfl,.inl (),rfl,rfl⟩
  ·rw[decide_eq_false e];exact .inl ⟨rfl,rfl⟩)
 have h3:qA u.er n=!((u.uses.getD []).all fun x=>!decide (x.k=n)):=by
  unfold qA;rw[show u.er.uses=u.uses.getD []from rfl]
  induction u.uses.getD []with
  |nil=>rfl|cons x l ih=>rw[Jo,N6,ih,Vf,Vg]
 unfold f156;rw[Y,ob,h3,<-I];cases d<;>rfl
def wc (S:z8)(n:aj):List aj:=(S.units.filter fun u=>qA u n).map (·.name)
theorem q8k {n}:wc r.er n=((r.units.getD []).filter fun u=>qA u.er n).map (·.name):=by
 unfold wc;rw[vN,List.filter_map,List.map_map];rfl
theorem jyd {n:aj}(b:GB r):∃w,f89 r n=Gb (jd (wc r.er n),w):=by
 have Y:f64 r.units n=Gb (jd ((r.units.getD []).filter fun u=>qA u.er n),fE ((r.units.getD []).filter fun u=>qA u.er n)):=by
  unfold f64;rw[Gs (f:=KE r.units n) (l:=r.units.getD []) (p:=fun u=>qA u.er n) (q:=fun u=>f159 u n) (jg b.U) (fun x M=>juo (jg (b.N x M).1)) (fun s=>rfl)];rfl
 have I:f65 (jd ((r.units.getD []).filter fun u=>qA u.er n))=Gb (jd (wc r.er n),fE (wc r.er n)):=by
  unfold f65;rw[BS (f:=GN (jd ((r.units.getD []).filter fun u=>qA u.er n))) (l:=((jd ((r.units.getD []).filter fun u=>qA u.er n)).getD [])) (g:=fun u:bz=>u.name) (q:=f67) (by rw[zb];exact qzc (jg b.U)) (fun x _=>rfl) (fun s=>rfl),zb,q8k];rfl
 unfold f89;rw[Y,ob,I];exact⟨_,rfl⟩
theorem j2u {n}(b:GB r):∃w,f81 r n=Gb (jd (wc r.er n),w):=by
 unfold f81;have hl:=jg b.U
 have:=BR (l:=r.units.getD []) (p:=fun u=>qA u.er n) (g:=fun u:bz=>u.name) (f:=Ci r n) hl (fun o w=>by unfold Ci;simp only[z4,cond_false]) (fun i x o w M=>by
  have hi:=(Ii.1 M).1;unfold Ci;simp only[yn hi,cond_true,qa,ja M,jvf (jg (b.N x (Hq M)).1)]
  rw[za (by unfold SM at hl;omega)])
 rw[this,q8k];exact⟨_,rfl⟩
def Cj (S:z8)(k:aj):Int:=S.ay.foldl (fun n x=>if decide (x.kind=k)&&!x.held then qd .i64 (n+x.left)else n) 0
theorem jks {k}(b:GB r):f93 r k=Gb (Cj r.er k):=by
 unfold f93 Cj;have hl:=jg b.L
 have:=Gr (r.ay.getD []) (xJ r k) (fun i (c:Int)=>(c,(i:Int))) (fun n x=>if decide (x.kind=k)&&!x.held then qd .i64 (n+x.left)else n) (fun c=>(c,((r.ay.getD []).length:Int))) 0 (fun c=>by unfold xJ;simp only[z4];rfl)
  (fun i c x M hi=>by
   unfold xJ;simp only[yn hi,cond_true,qa,ja M];rw[za (by unfold SM at hl;omega)]
   cases decide (x.kind=k)<;>cases x.held<;>rfl)
 have h:bd (xJ r k) (0,0)=_:=this;rw[h];rfl
theorem jxr {k}(b:GB r):f79 r k=Gb (Cj r.er k):=by
 have:KF r k=xJ r k:=rfl;unfold f79;rw[this];exact jks b
theorem Pz {o}:decide (ea o<0)=!o.isSome:=by
 cases o with
 |none=>rfl|some k=>exact decide_eq_false (show ¬(k:Int)<0 by omega)
end Go.Z
namespace Go.Z
open Go Go.Abs Go.W
theorem jvw {a b:Int}:f35 (Gb [a,b])=Gb (iV [a,b]):=jX (by simp[SM])
end Go.Z
end
