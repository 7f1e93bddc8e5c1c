/- Chapter 10, plain. -/
import Derived.Test.YtlhfdilpecnjeaaGreatDoorW12
set_option linter.unusedVariables false
set_option linter.unusedSimpArgs false
set_option maxRecDepth 100000
noncomputable section
open Option renaming some->E6,getD_some->Hc,any_some->Ij,isSome_iff_exists->Ip,none->Iw,bind_some->I7,isNone_some->Ld
open Bool renaming false_eq_true->Ha,true->H2,false->H3,true_and->H8,and_true->H9,not_true->Io,not_false->Jv,or_false->Jx,or_true->Lf,and_eq_true->Nh,and_false->Nk,false_and->Np,and_self->Nu
open List renaming mem_of_getElem?->Hb,getElem?_eq_some_iff->H4,map_cons->Ib,getElem?_eq_getElem->Ic,drop_eq_nil_of_le->If,length_map->Ig,getElem?_map->Ik,length_cons->Il,length_singleton->Iq,foldl_cons->Ix,mem_map_of_mem->I1,flatMap_cons->I3,any_cons->I6,map_nil->I9,map_set->Ja,nil_append->Jb,map_append->Jc,length_nil->Jd,drop_zero->Jl,mem_cons_of_mem->Jw,findIdx?_cons->Jy,mem_cons_self->Jz,length_append->Le,findIdx?_map->Lg,append_assoc->Ll,filter_cons->Lm,nodup_cons->Ni,all_cons->Nw
open Nat renaming le_refl->Ia,le_of_lt->Iy,lt_of_le_of_lt->I2,succ_le_succ->Ng
open Sum renaming inl->I5
namespace Go.Z
open Go Go.Abs Go.W
def ek:Option Nat->Int
 |some k=>(k:Int)|none=>-1
theorem jnq {α:Type}(l:List α)(p:α->Bool)(f:Int->Option (Int⊕(Int⊕Int)))(da:f (l.length:Int)=E6 (.inr (.inr (l.length:Int))))
  (cn:∀(i:Nat) x,l[i]?=E6 x->i<l.length->f (i:Int)=E6 (if p x then .inr (.inl (i:Int))else .inl ((i+1:Nat):Int))):
  ∃d,bq f 0=E6 d/\(match d with | .inl k=>k | .inr _=>-1)=ek (l.findIdx? p):=by
 have:=JB l.length (fun i=>(i:Int)) f (fun d=>match d with | .inl k=>k | .inr _=>(-1:Int)) (fun i=>ek (((l.drop i).findIdx? p).map (· + i))) ⟨_,da,by rw[If (Ia _)];rfl⟩ (fun i hi=>by
  obtain⟨x,M⟩:∃x,l[i]?=E6 x:=⟨_,Ic hi⟩;have Y:=cn i x M hi;simp only[rF M,Jy]
  cases hp:p x with
  |true=>
   rw[hp,if_pos rfl]at Y;exact .inr ⟨_,Y,by simp[ek]⟩
  |false=>
   rw[hp]at Y;refine .inl ⟨by simpa using Y,?_⟩;simp only[Ha,if_false,Option.map_map]
   congr 1
   congr 1
   funext n
   simp only[Function.comp];omega)
 obtain⟨d,Y,I⟩:=this;refine⟨d,Y,?_⟩;rw[I];simp
abbrev SM:Nat:=1073741824
theorem nK {α:Type}{l:List α}{p:α->Bool}{f:Int->Option (Int⊕(Int⊕Int))}(hl:l.length<=SM)
  (hf:∀i:Int,f i=cond (decide (i<(l.length:Int))) (qa (qm l i) fun x=>cond (p x) (E6 (.inr (.inl i))) (E6 (.inl (qd .i64 (i+1))))) (E6 (.inr (.inr i)))):
  (qa (bq f 0) fun d=>match d with | .inl k=>E6 k | .inr _=>E6 (-1))=E6 (ek (l.findIdx? p)):=by
 obtain⟨d,Y,I⟩:=jnq l p f (by rw[hf,yd];rfl) (fun i x M hi=>by
  rw[hf,kj hi];simp only[cond_true,qa,q9 M]
  cases p x with
  |true=>rfl
  |false=>simp only[cond_false];rw[zd (by unfold SM at hl;omega)];rfl)
 rw[Y];simp only[qa];rw[<-I];cases d<;>rfl
variable {r:aw}{n:aj}
theorem JD (hl:(r.az.getD []).length<=SM):f80 r n=E6 (ek (z7 r.er n)):=by
 unfold f80 z7;exact nK (p:=fun x=>decide (x.name=n)) hl fun i=>rfl
theorem F6 (hl:(r.az.getD []).length<=SM):f58 r n=E6 (ek (z7 r.er n)):=by
 have:JE ((r.az.getD []).length:Int) r n=E6 (ek (z7 r.er n)):=by
  unfold JE z7;refine nK (p:=fun x=>decide (x.name=n)) hl fun i=>?_;unfold JF f145
  congr 1
  cases qm (r.az.getD []) i<;>rfl
 unfold f58;rw[this];rfl
theorem yL:r.er.ah=(r.ah.getD []).map bp.er:=rfl
theorem wS:r.er.units=(r.units.getD []).map bw.er:=rfl
theorem Oy:z4 r.er n=(r.ah.getD []).findIdx? fun x=>decide (x.name=n):=by
 unfold z4;rw[yL,Lg];rfl
theorem VU:zq r.er n=(r.units.getD []).findIdx? fun x=>decide (x.name=n):=by
 unfold zq;rw[wS,Lg];rfl
theorem F7 (hl:(r.ah.getD []).length<=SM):f82 r n=E6 (ek (z4 r.er n)):=by
 rw[Oy];unfold f82;exact nK (p:=fun x=>decide (x.name=n)) hl fun i=>rfl
theorem tq (hl:(r.ah.getD []).length<=SM):f95 r n=E6 (ek (z4 r.er n)):=by
 have:JG ((r.ah.getD []).length:Int) r n=E6 (ek (z4 r.er n)):=by
  rw[Oy];unfold JG;refine nK (p:=fun x=>decide (x.name=n)) hl fun i=>?_;unfold JH f166
  congr 1
  cases qm (r.ah.getD []) i<;>rfl
 unfold f95;rw[this];rfl
theorem Oz (hl:(r.units.getD []).length<=SM):f83 r n=E6 (ek (zq r.er n)):=by
 rw[VU];unfold f83;exact nK (p:=fun x=>decide (x.name=n)) hl fun i=>rfl
theorem vo (hl:(r.units.getD []).length<=SM):f69 r n=E6 (ek (zq r.er n)):=by
 have:JI ((r.units.getD []).length:Int) r n=E6 (ek (zq r.er n)):=by
  rw[VU];unfold JI;refine nK (p:=fun x=>decide (x.name=n)) hl fun i=>?_;unfold JJ f150
  congr 1
  cases qm (r.units.getD []) i<;>rfl
 unfold f69;rw[this];rfl
end Go.Z
namespace Go.Z
open Go Go.Abs Go.W
theorem q4c {i}(h:i<9223372036854775807):qd .i64 (((i+1:Nat):Int)-1)=(i:Int):=by
 have:=zd (i:=i) h;rw[show(((i+1:Nat):Int)-1)=(i:Int) by omega]
 cases i with
 |zero=>rfl
 |succ j=>
  have:=zd (i:=j) (by omega);rw[show((j+1:Nat):Int)=(j:Int)+1 by omega,this];omega
variable {r:aw}{n:aj}
theorem VW {sp}(h:iC r.er n=E6 sp):∃k p,z4 r.er n=E6 k/\(r.ah.getD [])[k]?=E6 p/\p.er=sp/\p.name=n:=by
 unfold iC at h
 cases hk:z4 r.er n with
 |none=>rw[hk]at h;cases h
 |some k=>
  rw[hk]at h;simp only[I7,yL,Ik]at h
  cases hp:(r.ah.getD [])[k]? with
  |none=>rw[hp]at h;cases h
  |some p=>
   rw[hp]at h;rw[Oy]at hk;obtain⟨x,Y,I,_⟩:=bV hk;rw[hp]at Y;cases Y;exact⟨k,p,rfl,hp,by simpa using h,of_decide_eq_true I⟩
theorem jwa {u d}(hP:(r.ah.getD []).length<=SM)(hB:∀p∈r.ah.getD [],(p.bm.getD []).length<=SM)(hd:gD r.er u.er=E6 d):∃D,f161 r u=E6 D/\f157 r u=E6 D/\D.er=d:=by
 unfold gD at hd
 cases hp:iC r.er u.er.product with
 |none=>rw[hp]at hd;cases hd
 |some sp=>
  rw[hp]at hd;obtain⟨k,p,Y,I,rfl,_⟩:=VW hp;simp only[I7,BD]at hd;have hB:=hB p (Hb I);split at hd
  .rename_i hv;obtain⟨i,hi⟩:∃i:Nat,u.version=((i+1:Nat):Int):=⟨(u.version-1).toNat,by have:1<=u.version:=hv;omega⟩
   have he:(u.er.version-1).toNat=i:=by show(u.version-1).toNat=i;omega
   rw[he]at hd;have pY:((p.bm.getD []).map cg.er)[i]?=E6 d:=hd;rw[Ik]at pY
   cases hD:(p.bm.getD [])[i]? with
   |none=>rw[hD]at pY;cases pY
   |some D=>
    rw[hD]at pY;have bg:=(H4.1 hD).1
    have hw:qd .i64 (u.version-1)=(i:Int):=by rw[hi];exact q4c (by unfold SM at hB;omega)
    refine⟨D,?_,?_,by simpa using pY⟩
    .unfold f161;rw[tq hP,show z4 r.er u.product=E6 k from Y];simp only[qa,ek,q9 I,hw,q9 hD]
    .unfold f157;rw[F7 hP,show z4 r.er u.product=E6 k from Y];simp only[qa,ek,q9 I,hw,q9 hD]
  .cases hd
theorem OA {u v}(hP:(r.ah.getD []).length<=SM)(hd:rI r.er u.er=E6 v):f198 r u=E6 v/\f223 r u=E6 v:=by
 unfold rI at hd
 cases hp:iC r.er u.er.product with
 |none=>rw[hp]at hd;cases hd
 |some sp=>
  rw[hp]at hd;obtain⟨k,p,Y,I,rfl,_⟩:=VW hp
  have hv:v=((p.bm.getD []).length:Int):=by
   simp only[Option.map_some,E6.injEq]at hd;rw[<-hd];show((((p.bm.getD []).map cg.er).length:Nat):Int)=_;rw[Ig]
  subst hv;refine⟨?_,?_⟩
  .unfold f198 f96;rw[tq hP,show z4 r.er u.product=E6 k from Y];simp only[qa,ek,q9 I]
  .unfold f223;rw[F7 hP,show z4 r.er u.product=E6 k from Y];simp only[qa,ek,q9 I]
theorem VX {α γ ε:Type}(g:γ->α->γ):∀(l:List α) (i:Nat) (c:γ),F1 (fun _ c x=>(.inl (g c x):γ⊕ε)) i c l=.inl (l.foldl g c)
 | [],i,c=>rfl
 |x::l,i,c=>by simp only[F1,Ix];exact VX g l (i+1) (g c x)
theorem F8 {α γ σ δ:Type}(l:List α)(f:σ->Option (σ⊕δ))(mk:Nat->γ->σ)(g:γ->α->γ)(En:γ->δ)(c:γ)(da:∀c,f (mk l.length c)=E6 (.inr (En c)))
  (cn:∀i c x,l[i]?=E6 x->i<l.length->f (mk i c)=E6 (.inl (mk (i+1) (g c x)))):bq f (mk 0 c)=E6 (En (l.foldl g c)):=by
 have:=q6m (ε:=Empty) l f mk (fun _ c x=>.inl (g c x)) En (fun e=>nomatch e) (fun _ _=>True) c (fun c _=>da c) (fun i c x M hi _=>⟨trivial,cn i c x M hi⟩) trivial;rw[this,VX]
theorem jun {u t}(hl:(u.results.getD []).length<=SM):f158 u t=E6 (tr u.er t):=by
 unfold f158
 have:=F8 (u.results.getD []) (BE u t) (fun i (c:Bool)=>(c,(i:Int))) (fun is x=>if decide (x.k=t.k)&&decide (x.a=u.version)then decide (t.a<=x.b)&&decide (x.b<=t.b)else is) (fun c=>(c,((u.results.getD []).length:Int))) H3 (fun c=>by unfold BE;simp only[yd];rfl)
  (fun i c x M hi=>by
   unfold BE;simp only[kj hi,cond_true,qa,q9 M];rw[zd (by unfold SM at hl;omega)]
   by_cases Y:x.k=t.k<;>by_cases I:x.a=u.version<;>by_cases h3:t.a<=x.b<;>simp[Y,I,h3])
 rw[show((H3,(0:Int)):Bool×Int)=(H3,((0:Nat):Int))from rfl,this];rfl
theorem jr7 {u t}(hl:(u.results.getD []).length<=SM)(hv:u.version≠-1):f163 u t=E6 (tr u.er t):=by
 unfold f163
 have:=F8 (u.results.getD []) (BF u t) (fun i (c:jg)=>((i:Int),c.k,c.a,c.b)) (fun c x=>if decide (x.k=t.k)&&decide (x.a=u.version)then x else c) (fun c=>(((u.results.getD []).length:Int),c.k,c.a,c.b)) ⟨[],-1,0⟩ (fun c=>by unfold BF;simp only[yd];rfl)
  (fun i c x M hi=>by
   unfold BF;simp only[kj hi,cond_true,qa,q9 M];rw[zd (by unfold SM at hl;omega)]
   by_cases Y:x.k=t.k<;>by_cases I:x.a=u.version<;>simp[Y,I])
 rw[show(((0:Int),([]:aj),(-1:Int),(0:Int)):Int×aj×Int×Int)=(((0:Nat):Int),[],-1,0)from rfl];simp only[]at this;rw[this];simp only[qa]
 have key:∀(l:List jg) (c:jg) (b:Bool),(c=⟨[],-1,0⟩/\b=H3\/c.a=u.version/\b=(decide (t.a<=c.b)&&decide (c.b<=t.b))) ->
   (let c':=l.foldl (fun c x=>if decide (x.k=t.k)&&decide (x.a=u.version)then x else c) c
    let b':=l.foldl (fun is x=>if decide (x.k=t.k)&&decide (x.a=u.version)then decide (t.a<=x.b)&&decide (x.b<=t.b)else is) b
    c'=⟨[],-1,0⟩/\b'=H3\/c'.a=u.version/\b'=(decide (t.a<=c'.b)&&decide (c'.b<=t.b))):=by
  intro l
  induction l with
  |nil=>intro c b h;exact h
  |cons x l ih=>
   intro c b h;simp only[Ix];apply ih;by_cases Y:x.k=t.k<;>by_cases I:x.a=u.version
   .simp only[Y,I,decide_true,Nu,if_true];right;trivial
   all_goals simpa only[Y,I,decide_true,decide_false,Nk,Np,Nu,Ha,if_false]using h
 have k:=key (u.results.getD []) ⟨[],-1,0⟩ H3 (.inl ⟨rfl,rfl⟩);simp only at k;show _=E6 ((u.results.getD []).foldl (fun is x=>if decide (x.k=t.k)&&decide (x.a=u.version)then decide (t.a<=x.b)&&decide (x.b<=t.b)else is) H3);rcases k with⟨Y,I⟩|⟨Y,I⟩
 .rw[I,Y];rfl
 .rw[I];generalize (u.results.getD []).foldl (fun c x=>if decide (x.k=t.k)&&decide (x.a=u.version)then x else c) ⟨[],-1,0⟩=c at Y;have:decide (c.a=-1)=H3:=decide_eq_false (by rw[Y];exact hv);simp only[this,Nk,Np,cond_false];by_cases h3:t.a<=c.b<;>simp[h3]
end Go.Z
namespace Go.Z
open Go Go.Abs Go.W
theorem VY {α β:Type}(p:α->Bool)(g:α->β):∀l:List α,(l.flatMap fun x=>if p x then [g x]else [])=(l.filter p).map g
 | []=>rfl
 |x::l=>by
  rw[I3,VY p g l,Lm];cases p x<;>rfl
theorem VZ {α β:Type}{l:List α}{p:α->Bool}{g:α->β}{f}(hl:l.length<=SM)
  (da:∀o w,f (o,(l.length:Int),w)=E6 (.inr (o,w,(l.length:Int))))
  (hf:∀(i:Nat) x o w,l[i]?=E6 x->f (o,(i:Int),w)=cond (p x) (cond w (qa (bC o [g x]) fun v=>E6 (.inl (v,((i+1:Nat):Int),H2))) (cond o.isNone (qa (bC o [g x]) fun v=>E6 (.inl (v,((i+1:Nat):Int),H2))) Iw)) (E6 (.inl (o,((i+1:Nat):Int),w)))):
  bq f (Iw,0,H3)=E6 (jh ((l.filter p).map g),fS ((l.filter p).map g),(l.length:Int)):=by
 have:=q9a l (fun i=>(i:Int)) f (fun x=>if p x then [g x]else []) [] (fun i a=>a.length<=i) (Ia _) (fun a=>da _ _) (fun i x a M hi ha=>by
  cases hp:p x with
  |true=>
   refine⟨by simp;omega,?_⟩;rw[hf i x _ _ M,hp];simp only[cond_true,if_true];rw[wQ];exact vn (x:=g x) (k:=fun v=>E6 (I5 (v,((i+1:Nat):Int),H2))) (by unfold SM at hl;omega)
  |false=>
   refine⟨by simp;omega,?_⟩;rw[hf i x _ _ M,hp]
   simp)
 rw[VY,Jb]at this;exact this
theorem F9 {α:Type}{l:List α}{p:α->Bool}{q:α->Option Bool}{f}(hl:l.length<=SM)(hq:∀x∈l,q x=E6 (p x))
  (hf:∀s,f s=cond (decide (s.2.1<(l.length:Int))) (qa (qm l s.2.1) fun x=>qa (q x) fun b=>cond b (cond s.2.2 (qa (bC s.1 [x]) fun v=>E6 (.inl (v,qd .i64 (s.2.1+1),H2))) (cond s.1.isNone (qa (bC s.1 [x]) fun v=>E6 (.inl (v,qd .i64 (s.2.1+1),H2))) Iw)) (E6 (.inl (s.1,qd .i64 (s.2.1+1),s.2.2)))) (E6 (.inr (s.1,s.2.2,s.2.1)))):
  bq f (Iw,0,H3)=E6 (jh (l.filter p),fS (l.filter p),(l.length:Int)):=by
 have:=VZ (l:=l) (p:=p) (g:=fun x=>x) (f:=f) hl (fun o w=>by rw[hf];simp only[yd,cond_false]) (fun i x o w M=>by
  have hi:=(H4.1 M).1;rw[hf];simp only[kj hi,cond_true,qa,q9 M,hq x (Hb M)]
  rw[zd (by unfold SM at hl;omega)])
 simpa using this
theorem BG {α β:Type}{l:List α}{g:α->β}{q:α->Option β}{f}(hl:l.length<=SM)(hq:∀x∈l,q x=E6 (g x))
  (hf:∀s,f s=cond (decide (s.2.1<(l.length:Int))) (qa (qm l s.2.1) fun x=>qa (q x) fun b=>cond s.2.2 (qa (bC s.1 [b]) fun v=>E6 (.inl (v,qd .i64 (s.2.1+1),H2))) (cond s.1.isNone (qa (bC s.1 [b]) fun v=>E6 (.inl (v,qd .i64 (s.2.1+1),H2))) Iw)) (E6 (.inr (s.1,s.2.2,s.2.1)))):
  bq f (Iw,0,H3)=E6 (jh (l.map g),fS (l.map g),(l.length:Int)):=by
 have:=VZ (l:=l) (p:=fun _=>H2) (g:=g) (f:=f) hl (fun o w=>by rw[hf];simp only[yd,cond_false]) (fun i x o w M=>by
  have hi:=(H4.1 M).1;rw[hf];simp only[kj hi,cond_true,qa,q9 M,hq x (Hb M)]
  rw[zd (by unfold SM at hl;omega)])
 rw[List.filter_eq_self.2 (fun _ _=>rfl)]at this;exact this
variable {r:aw}{u:bw}{D:cg}
theorem qyk {α:Type}{l:List α}{p}(hl:l.length<=SM):(l.filter p).length<=SM:=Nat.le_trans (List.length_filter_le _ _) hl
theorem jhx (hd:f161 r u=E6 D)(Q:(u.results.getD []).length<=SM)(ht:(D.aS.getD []).length<=SM)(hv:u.version≠-1):∃w,f91 r u=E6 (jh (rJ D.er u.er),w):=by
 unfold f91;rw[hd];simp only[qa]
 have Y:f160 D.aS u=E6 (jh ((D.aS.getD []).filter fun t=>!tr u.er t),fS ((D.aS.getD []).filter fun t=>!tr u.er t)):=by
  unfold f160;rw[F9 (f:=JK D.aS u) (l:=D.aS.getD []) (p:=fun t=>!tr u.er t) (q:=fun t=>f162 t u) ht (fun x _=>by unfold f162;rw[jr7 Q hv];rfl) (fun s=>rfl)];rfl
 rw[Y];simp only[]
 have I:f164 (jh ((D.aS.getD []).filter fun t=>!tr u.er t))=E6 (jh (rJ D.er u.er),fS (rJ D.er u.er)):=by
  unfold f164;rw[BG (f:=JL (jh ((D.aS.getD []).filter fun t=>!tr u.er t))) (l:=((jh ((D.aS.getD []).filter fun t=>!tr u.er t)).getD [])) (g:=fun t:jg=>t.k) (q:=f165) (by rw[zc];exact qyk ht) (fun x _=>rfl) (fun s=>rfl),zc];rfl
 rw[I];exact⟨_,rfl⟩
theorem j1a (hd:f157 r u=E6 D)(Q:(u.results.getD []).length<=SM)(ht:(D.aS.getD []).length<=SM):∃w,f85 r u=E6 (jh (rJ D.er u.er),w):=by
 unfold f85;rw[hd];simp only[qa]
 have:=VZ (l:=D.aS.getD []) (p:=fun t=>!tr u.er t) (g:=fun t:jg=>t.k) (f:=BH u D) ht (fun o w=>by unfold BH;simp only[yd,cond_false]) (fun i x o w M=>by
  have hi:=(H4.1 M).1;unfold BH;simp only[kj hi,cond_true,qa,q9 M,jun Q];rw[zd (by unfold SM at ht;omega)]
  cases tr u.er x<;>rfl)
 rw[this];exact⟨_,rfl⟩
theorem V0 {n x}(h:pj r.er n=E6 x):∃k:Nat,z7 r.er n=E6 k/\(r.az.getD [])[k]?=E6 x:=by
 unfold pj at h
 cases hk:z7 r.er n with
 |none=>rw[hk]at h;cases h|some k=>rw[hk]at h;exact⟨k,rfl,h⟩
theorem JM {n}(h:(z7 r.er n).isSome=H2):∃x,pj r.er n=E6 x:=by
 unfold pj
 cases hk:z7 r.er n with
 |none=>rw[hk]at h;cases h
 |some k=>
  obtain⟨x,Y,_⟩:=bV hk;exact⟨x,Y⟩
def OB (r:yc)(kind:Str)(n:Int)(x:bD):Int:=if(pj r x.k).any (fun l=>decide (l.kind=kind))then qd .i64 (n+x.n)else n
theorem jto {kind}(hL:(r.az.getD []).length<=SM)(hu:(u.uses.getD []).length<=SM)(hw:∀x∈u.uses.getD [],(z7 r.er x.k).isSome=H2):f277 r u kind=E6 (Ga (qd .i64) r.er u.er kind):=by
 unfold f277
 have:=F8 (u.uses.getD []) (BI r u kind) (fun i (c:Int)=>(c,(i:Int))) (OB r.er kind) (fun c=>(c,((u.uses.getD []).length:Int))) 0 (fun c=>by unfold BI;simp only[yd];rfl)
  (fun i c x M hi=>by
   obtain⟨y,hy⟩:=JM (hw x (Hb M));obtain⟨k,Y,I⟩:=V0 hy;unfold BI OB;simp only[kj hi,cond_true,qa,q9 M,JD hL,Y,ek,q9 I,hy,Ij];rw[zd (by unfold SM at hu;omega)]
   by_cases h3:y.kind=kind<;>simp[h3])
 rw[show(((0:Int),(0:Int)):Int×Int)=((0:Int),((0:Nat):Int))from rfl,this];rfl
theorem jb8 {σ:Type}{step g}(aah:Nat->σ->Prop)(hL:(r.az.getD []).length<=SM)(hu:(u.uses.getD []).length<=SM)
  (hg:∀i x c,(u.uses.getD [])[i]?=E6 x->aah i c->aah (i+1) (g c x)/\∃y,pj r.er x.k=E6 y/\step c y x.n=E6 (g c x)) (c:σ) (hI:aah 0 c):bq (pZ r u step) (0,c)=E6 (((u.uses.getD []).length:Int),(u.uses.getD []).foldl g c):=by
 have:=q6m (ε:=Empty) (u.uses.getD []) (pZ r u step) (fun i (c:σ)=>((i:Int),c)) (fun _ c x=>.inl (g c x)) (fun c=>(((u.uses.getD []).length:Int),c)) (fun e=>nomatch e) aah c (fun c _=>by unfold pZ;simp only[yd];rfl)
  (fun i c x M hi hI=>by
   obtain⟨hI',y,Y,I⟩:=hg i x c M hI;obtain⟨k,h3,h4⟩:=V0 Y;refine⟨hI',?_⟩;unfold pZ;simp only[kj hi,cond_true,qa,q9 M,F6 hL,h3,ek,q9 h4,I]
   rw[zd (by unfold SM at hu;omega)]) hI
 rw[show((0:Int),c)=(((0:Nat):Int),c)from rfl,this,VX]
end Go.Z
namespace Go.Z
open Go Go.Abs Go.W
variable {r:aw}{u:bw}{D:cg}
theorem q92 {k v}:∀l:List (aj×Int),(lQ l k v).length<=l.length+1
 | []=>Ia _
 |p::l=>by
  unfold lQ;split
  .simp
  .simp only[Il];exact Ng (q92 l)
theorem jei {α γ:Type}{l:List α}{i x}(M:l[i]?=E6 x)(g:γ->α->γ)(c:γ):(l.take (i+1)).foldl g c=g ((l.take i).foldl g c) x:=by
 rw[List.take_add_one,M,List.foldl_append];rfl
theorem jsq (hL:(r.az.getD []).length<=SM)(hu:(u.uses.getD []).length<=SM)(hw:∀x∈u.uses.getD [],(z7 r.er x.k).isSome=H2):∃aai,bq (pZ r u wT) (0,[])=E6 (((u.uses.getD []).length:Int),aai)/\∀kind,nJ aai kind=Ga (qd .i64) r.er u.er kind:=by
 let g:List (aj×Int)->bD->List (aj×Int):=fun c x=>match pj r.er x.k with
  |some y=>lQ c y.kind (qd .i64 (nJ c y.kind+x.n))|none=>c
 let aah:Nat->List (aj×Int)->Prop:=fun i aai=>aai.length<=i/\∀kind,nJ aai kind=((u.uses.getD []).take i).foldl (OB r.er kind) 0
 have hg:∀i x c,(u.uses.getD [])[i]?=E6 x->aah i c->aah (i+1) (g c x)/\∃y,pj r.er x.k=E6 y/\wT c y x.n=E6 (g c x):=by
  intro i x c M hI;obtain⟨y,hy⟩:=JM (hw x (Hb M));have hi:=(H4.1 M).1
  have TN:g c x=lQ c y.kind (qd .i64 (nJ c y.kind+x.n)):=by simp only[g,hy]
  rw[TN];refine⟨⟨Nat.le_trans (q92 _) (Ng hI.1),fun kind=>?_⟩,y,hy,?_⟩
  .rw[jei M,jlo,<-hI.2 kind];unfold OB;rw[hy];simp only[Ij];by_cases hk:kind=y.kind
   .subst hk;simp
   .have dw:¬y.kind=kind:=fun h=>hk h.symm;simp[hk,dw]
  .unfold wT Ox;rw[if_pos (by have:=hI.1;unfold SM at hu;omega)]
 have:=jb8 (step:=wT) (g:=g) aah hL hu hg [] ⟨Ia _,fun kind=>rfl⟩
 have hI:∀(k i:Nat) (c:List (aj×Int)),i+k=(u.uses.getD []).length->aah i c->aah (u.uses.getD []).length (((u.uses.getD []).drop i).foldl g c):=by
  intro k
  induction k with
  |zero=>
   intro i c hi hc
   have:i=(u.uses.getD []).length:=by omega
   subst this;rw[If (Ia _)];exact hc
  |succ k ih=>
   intro i c hi hc;obtain⟨x,M⟩:∃x,(u.uses.getD [])[i]?=E6 x:=⟨_,Ic (by omega)⟩;rw[rF M,Ix];exact ih (i+1) _ (by omega) (hg i x c M hc).1
 have I:=hI _ 0 [] (Nat.zero_add _) ⟨Ia _,fun kind=>rfl⟩;rw[Jl]at I;refine⟨_,this,fun kind=>?_⟩;rw[I.2 kind,List.take_length];rfl
theorem wU (o:Option Nat):decide (0<=ek o)=o.isSome:=by
 cases o with
 |none=>rfl|some k=>exact decide_eq_true (by show(0:Int)<=(k:Int);omega)
theorem cC {α:Type}{p:α->Bool}{l:List α}:(l.findIdx? p).isSome=l.any p:=by rw[Gb]
theorem jnx {l:ak bD}{aai:List (aj×Int)}(hl:(l.getD []).length<=SM):JN l aai=E6 ((l.getD []).any fun n=>decide (nJ aai n.k<n.n)):=by
 have:JO l aai=E6 (ek ((l.getD []).findIdx? fun n=>decide (nJ aai n.k<n.n))):=by
  unfold JO;exact nK (p:=fun n=>decide (nJ aai n.k<n.n)) hl fun i=>rfl
 unfold JN;rw[this];simp only[qa,wU,cC]
theorem jul (hL:(r.az.getD []).length<=SM)(hu:(u.uses.getD []).length<=SM)(hw:∀x∈u.uses.getD [],(z7 r.er x.k).isSome=H2)(hd:f161 r u=E6 D)(hn:(D.bd.getD []).length<=SM):f246 r u=E6 (yM (qd .i64) r.er D.er u.er):=by
 obtain⟨aai,Y,I⟩:=jsq hL hu hw;unfold f246;rw[Y,hd];simp only[qa,jnx hn,E6.injEq];unfold yM;rw[show D.er.bd=D.bd.getD []from rfl]
 induction D.bd.getD []with
 |nil=>rfl
 |cons n l ih=>
  rw[I6,Nw,Bool.not_or,ih,I]
  congr 1
  by_cases h:Ga (qd .i64) r.er u.er n.k<n.n
  .rw[decide_eq_true h,decide_eq_false (by omega)];rfl
  .rw[decide_eq_false h,decide_eq_true (by omega)];rfl
theorem jtm (hL:(r.az.getD []).length<=SM)(hu:(u.uses.getD []).length<=SM)(hw:∀x∈u.uses.getD [],(z7 r.er x.k).isSome=H2)(hd:f157 r u=E6 D)(hn:(D.bd.getD []).length<=SM):f263 r u=E6 (yM (qd .i64) r.er D.er u.er):=by
 unfold f263;rw[hd];simp only[qa]
 obtain⟨d,Y,I⟩:=VQ (D.bd.getD []) (BJ r u D) (fun n=>decide (n.n<=Ga (qd .i64) r.er u.er n.k)) (fun d=>match d with | .inl _=>H3 | .inr _=>H2) ⟨.inr ((D.bd.getD []).length:Int),by unfold BJ;simp only[yd];rfl,rfl⟩ (fun i x M hi=>by
  unfold BJ;simp only[kj hi,cond_true,qa,q9 M,jto hL hu hw];rw[zd (by unfold SM at hn;omega)];by_cases h:Ga (qd .i64) r.er u.er x.k<x.n
  ·exact .inr ⟨decide_eq_false (by omega),.inl (),by rw[decide_eq_true h];rfl,rfl⟩
  ·exact .inl ⟨decide_eq_true (by omega),by rw[decide_eq_false h];rfl⟩)
 rw[Y];unfold yM;rw[show D.er.bd=D.bd.getD []from rfl,<-I];cases d<;>rfl
def Gc (r:yc)(us:List bD):List ji:=us.map fun x=>(pj r x.k).getD ⟨[],[],0,0,H3⟩
theorem jk6 (hL:(r.az.getD []).length<=SM)(hu:(u.uses.getD []).length<=SM)(hw:∀x∈u.uses.getD [],(z7 r.er x.k).isSome=H2):bq (pZ r u yN) (0,Iw)=E6 (((u.uses.getD []).length:Int),jh (Gc r.er (u.uses.getD []))):=by
 let gx:bD->ji:=fun x=>(pj r.er x.k).getD ⟨[],[],0,0,H3⟩
 let g:ak ji->bD->ak ji:=fun c x=>jh (c.getD []++[gx x])
 have:=jb8 (step:=yN) (g:=g) (fun i c=>∃a:List ji,c=jh a/\a.length=i) hL hu (fun i x c M hI=>by
  obtain⟨a,rfl,ha⟩:=hI;have hi:=(H4.1 M).1;obtain⟨y,hy⟩:=JM (hw x (Hb M))
  have hgx:gx x=y:=by simp only[gx,hy,Hc]
  refine⟨⟨a++[y],by simp only[g,hgx,zc],by simp[ha]⟩,y,hy,?_⟩;unfold yN;rw[q1a (by unfold SM at hu;omega)]
  simp only[g,hgx,zc]) Iw ⟨[],rfl,rfl⟩
 rw[this]
 congr 2
 have key:∀(l:List bD) (a:List ji),l.foldl g (jh a)=jh (a++l.map gx):=by
  intro l
  induction l with
  |nil=>intro a;simp
  |cons x l ih=>
   intro a;rw[Ix,show g (jh a) x=jh (a++[gx x]) by simp only[g,zc],ih,Ib,Ll];rfl
 have:=key (u.uses.getD []) [];rw[Jb]at this;exact this
theorem jbi (hw:∀x∈u.uses.getD [],(z7 r.er x.k).isSome=H2):BK r.er u.er=!((Gc r.er (u.uses.getD [])).filter (·.held)).isEmpty:=by
 unfold BK Gc;rw[show u.er.uses=u.uses.getD []from rfl]
 revert hw
 generalize u.uses.getD []=us;intro hw
 induction us with
 |nil=>rfl
 |cons x l ih=>
  obtain⟨y,hy⟩:=JM (hw x (Jz ..));rw[I6,ih (fun x M=>hw x (Jw _ M)),Ib,Lm,hy];simp only[Ij,Hc];cases y.held<;>rfl
theorem yn {b e}:f36 b e=E6 (if b then e else 0):=by unfold f36;cases b<;>rfl
theorem jsv {l}(hl:l.length<=SM):f101 (jh l)=E6 (jh (l.filter (·.held)),fS (l.filter (·.held))):=by
 unfold f101;rw[F9 (f:=Gd (jh l)) (l:=(jh l).getD []) (p:=fun x:ji=>x.held) (q:=fun x=>f102 x) (by rw[zc];exact hl) (fun x _=>rfl) (fun s=>rfl),zc];rfl
def fW:List Int->Int
 | []=>0
 |e::l=>if e=0 then fW l else e
theorem jD {l}(hl:l.length<=SM):f35 (E6 l)=E6 (fW l):=by
 unfold f35
 have:=JB l.length (fun i=>(i:Int)) (BL (E6 l)) (fun d=>match d with | .inl k=>k | .inr _=>(0:Int)) (fun i=>fW (l.drop i)) ⟨.inr (l.length:Int),by unfold BL;simp only[Hc,yd];rfl,by rw[If (Ia _)];rfl⟩ (fun i hi=>by
  obtain⟨x,M⟩:∃x,l[i]?=E6 x:=⟨_,Ic hi⟩;unfold BL;simp only[Hc,kj hi,cond_true,qa,q9 M,rF M,fW];by_cases h0:x=0
  ·simp only[h0,decide_true,cond_true,if_true];rw[zd (by unfold SM at hl;omega)]
   left;constructor<;>first|rfl|trivial
  ·simp only[h0,decide_false,cond_false,if_false]
   exact .inr ⟨_,rfl,rfl⟩)
 obtain⟨d,Y,I⟩:=this;rw[show((0:Int))=((0:Nat):Int)from rfl,Y];rw[Jl]at I;simp only[qa];rw[<-I];cases d<;>rfl
theorem qy0 {α:Type}{l:List α}:decide (0<(((jh l).getD []).length:Int))=!l.isEmpty:=by
 rw[zc]
 cases l with
 |nil=>rfl|cons x l=>simp
theorem q37 {w r u d v}(hd:gD r u=E6 d)(hv:rI r u=E6 v):vp w r u=if u.ax then 21 else if u.version≠v then 32 else if !yM w r d u then 20 else if !(rJ d u).isEmpty then 31 else if BK r u then 34 else 0:=by
 unfold vp;rw[hd,hv];cases u.ax
 .by_cases h:u.version=v
  .simp[h]
  .simp[h,Ne.symm h]
 .rfl
theorem ju7 {v:Int}(hP:(r.ah.getD []).length<=SM)(iL:rI r.er u.er=E6 v)(hL:(r.az.getD []).length<=SM)(hu:(u.uses.getD []).length<=SM)(hw:∀x∈u.uses.getD [],(z7 r.er x.k).isSome=H2)(hd:f161 r u=E6 D)(hp:gD r.er u.er=E6 D.er)(hn:(D.bd.getD []).length<=SM)(Q:(u.results.getD []).length<=SM)(ht:(D.aS.getD []).length<=SM)(hv:u.version≠-1):f204 r u=E6 (vp (qd .i64) r.er u.er):=by
 obtain⟨w,hm⟩:=jhx hd Q ht hv
 have hll:(Gc r.er (u.uses.getD [])).length<=SM:=by unfold Gc;rw[Ig];exact hu
 unfold f204;rw[jk6 hL hu hw];simp only[qa,yn,(OA hP iL).1,jul hL hu hw hd hn,hm,jsv hll,qy0];rw[jD (by simp[SM]),q37 hp iL,jbi hw]
 congr 1
 show fW _=if u.ax then 21 else if u.version≠v then 32 else _
 cases u.ax<;>by_cases Y:u.version=v<;>cases yM (qd .i64) r.er D.er u.er<;>cases (rJ D.er u.er).isEmpty<;>cases ((Gc r.er (u.uses.getD [])).filter (·.held)).isEmpty<;>simp[fW,Y]
theorem jkn (hL:(r.az.getD []).length<=SM)(hu:(u.uses.getD []).length<=SM)(hw:∀x∈u.uses.getD [],(z7 r.er x.k).isSome=H2):(qa (bq (yO r u) 0) fun d=>match d with | .inl _=>E6 (34:Int) | .inr _=>E6 0)=E6 (if BK r.er u.er then 34 else 0):=by
 obtain⟨d,Y,I⟩:=VQ (u.uses.getD []) (yO r u) (fun x=>!(pj r.er x.k).any (·.held)) (fun d=>match d with | .inl _=>H3 | .inr _=>H2) ⟨.inr ((u.uses.getD []).length:Int),by unfold yO;simp only[yd];rfl,rfl⟩ (fun i x M hi=>by
  obtain⟨y,hy⟩:=JM (hw x (Hb M));obtain⟨k,h3,h4⟩:=V0 hy;unfold yO;simp only[kj hi,cond_true,qa,q9 M,JD hL,h3,ek,q9 h4,hy,Ij];rw[zd (by unfold SM at hu;omega)]
  cases y.held with
  |true=>exact .inr ⟨rfl,.inl (),rfl,rfl⟩
  |false=>exact .inl ⟨rfl,rfl⟩)
 rw[Y]
 have h3:BK r.er u.er=!((u.uses.getD []).all fun x=>!(pj r.er x.k).any (·.held)):=by
  unfold BK;rw[show u.er.uses=u.uses.getD []from rfl]
  induction u.uses.getD []with
  |nil=>rfl|cons x l ih=>rw[I6,Nw,ih,Bool.not_and,Bool.not_not]
 rw[h3,<-I];cases d<;>rfl
theorem jvd {v:Int}(hP:(r.ah.getD []).length<=SM)(iL:rI r.er u.er=E6 v)(hL:(r.az.getD []).length<=SM)(hu:(u.uses.getD []).length<=SM)(hw:∀x∈u.uses.getD [],(z7 r.er x.k).isSome=H2)(hd:f157 r u=E6 D)(hp:gD r.er u.er=E6 D.er)(hn:(D.bd.getD []).length<=SM)(Q:(u.results.getD []).length<=SM)(ht:(D.aS.getD []).length<=SM):f224 r u=E6 (vp (qd .i64) r.er u.er):=by
 rw[q37 hp iL];unfold f224
 cases G:u.ax with
 |true=>rw[show u.er.ax=H2 from G];rfl
 |false=>
  have rm:(⟨u.name,u.product,u.version,u.uses,u.results,u.partner,H3,u.au⟩:bw)=u:=by cases u;simp only at G;rw[G]
  rw[show u.er.ax=H3 from G,rm];obtain⟨w,hm⟩:=j1a (r:=r) (u:=u) hd Q ht;simp only[cond_false,qa,(OA hP iL).2,jtm hL hu hw hd hn,hm,qy0,Ha,if_false];have hh:=jkn hL hu hw;simp only[qa]at hh;by_cases Y:u.version=v
  .rw[decide_eq_true Y,if_neg (show ¬u.er.version≠v from fun h=>h Y)];simp only[cond_true];cases yM (qd .i64) r.er D.er u.er
   .rfl
   .simp only[cond_true,Io,Ha,if_false];cases (rJ D.er u.er).isEmpty
    .rfl
    .simp only[Io,cond_false,Ha,if_false];exact hh
  .rw[decide_eq_false Y,if_pos (show u.er.version≠v from Y)];rfl
end Go.Z
namespace Go.Z
open Go Go.Abs Go.W
theorem Ge {α:Type}{o:Option (List α)}{ys}(h:(o.getD []).length+ys.length<=SM)(hy:ys≠[]):bC o ys=E6 (E6 (o.getD []++ys)):=by
 unfold bC yP;rw[if_pos h]
 cases o<;>cases ys<;>first|exact absurd rfl hy|rfl
theorem yQ {α:Type}{ys:List α}(h:ys.length<=SM):bC (E6 []) ys=E6 (E6 ys):=by
 unfold bC yP;rw[if_pos (by simpa using h)];cases ys<;>rfl
theorem yR {α:Type}{o:Option (List α)}{x}(h:(o.getD []).length<SM):(qa (cond o.isNone (E6 (Iw,H3)) (qa (bC (E6 []) (o.getD [])) fun v=>E6 (v,H2))) fun v1=>cond v1.2 (qa (bC v1.1 [x]) fun v4=>E6 v4) (cond v1.1.isNone (qa (bC v1.1 [x]) fun v7=>E6 v7) Iw))=E6 (E6 (o.getD []++[x])):=by
 cases o with
 |none=>rfl
 |some l=>
  have h':l.length<SM:=h;simp only[Ld,cond_false,Hc];rw[yQ (by omega)];simp only[qa,cond_true];rw[Ge (o:=E6 l) (by simp only[Hc,Iq];omega) (by simp)];rfl
theorem juf {o:ak ji}{x:ji}(h:(o.getD []).length<SM):f169 o x=E6 (E6 (o.getD []++[x])):=yR h
theorem jt3 {o:ak bp}{x:bp}(h:(o.getD []).length<SM):f170 o x=E6 (E6 (o.getD []++[x])):=yR h
theorem jty {o:ak bw}{x:bw}(h:(o.getD []).length<SM):f186 o x=E6 (E6 (o.getD []++[x])):=yR h
theorem jtp {o:ak cg}{x:cg}(h:(o.getD []).length<SM):f184 o x=E6 (E6 (o.getD []++[x])):=yR h
theorem jtq {o:ak bD}{x:bD}(h:(o.getD []).length<SM):f232 o x=E6 (E6 (o.getD []++[x])):=yR h
theorem juy {o:ak jg}{x:jg}(h:(o.getD []).length<SM):f236 o x=E6 (E6 (o.getD []++[x])):=yR h
theorem jsl {o:ak bD}{x:bD}(h:(o.getD []).length<SM):f243 o x=E6 (E6 (o.getD []++[x])):=yR h
theorem jsw {o:ak jg}{x:jg}(h:(o.getD []).length<SM):f197 o x=E6 (E6 (o.getD []++[x])):=yR h
theorem pk {α:Type}{o:Option (List α)}{i:Nat}{x y:α}{g}(hl:(o.getD []).length<=SM)(M:(o.getD [])[i]?=E6 x)(hg:g x=E6 y):gu o (i:Int) g=E6 (E6 ((o.getD []).set i y)):=by
 unfold gu;rw[if_pos ⟨hl,by omega⟩,Int.toNat_natCast,M];simp only[hg]
theorem V1 {α:Type}{o:Option (List α)}{i x}(hl:(o.getD []).length<=SM)(M:i<(o.getD []).length):BM o (i:Int) x=E6 (E6 ((o.getD []).set i x)):=by
 unfold BM;rw[if_pos ⟨hl,by omega,by omega⟩,Int.toNat_natCast]
theorem V2 {α:Type}{o:Option (List α)}{x:α}{p:α->Bool}{g}(hl:(o.getD []).length<SM)(hg:∀y,g y=E6 x):
  ∃v w,(cond (decide (0<=ek ((o.getD []).findIdx? p))) (qa (gu o (ek ((o.getD []).findIdx? p)) g) fun v4=>E6 (v4,H3)) (qa (E6 (E6 (o.getD []++[x]))) fun v6=>E6 (v6,H2)))=E6 (v,w)/\v.getD []=ki p x (o.getD []):=by
 unfold ki
 cases h:(o.getD []).findIdx? p with
 |none=>exact⟨_,_,rfl,rfl⟩
 |some k=>
  obtain⟨y,Y,_⟩:=bV h;rw[show decide (0<=ek (E6 k))=H2 from wU (E6 k)];simp only[cond_true,ek];rw[pk (Iy hl) Y (hg y)];exact⟨_,_,rfl,rfl⟩
theorem jvi {o:ak bD}{x:bD}{k}(hl:(o.getD []).length<SM):∃v w,f177 o x k=E6 (v,w)/\v.getD []=ki (di k) x (o.getD []):=by
 unfold f177
 have:JP o k=E6 (ek ((o.getD []).findIdx? (di k))):=by unfold JP;exact nK (p:=di k) (Iy hl) fun i=>rfl
 rw[this];simp only[qa];rw[jtq hl];exact V2 (p:=di k) (g:=fun _=>E6 x) hl fun _=>rfl
theorem juk {o:ak jg}{x s:jg}(hl:(o.getD []).length<SM):∃v w,f181 o x s=E6 (v,w)/\v.getD []=ki (eL s.k) x (o.getD []):=by
 unfold f181
 have:yS o s=E6 (ek ((o.getD []).findIdx? (eL s.k))):=by unfold yS;exact nK (p:=eL s.k) (Iy hl) fun i=>rfl
 rw[this];simp only[qa];rw[juy hl];exact V2 (p:=eL s.k) (g:=fun _=>E6 x) hl fun _=>rfl
theorem jti {o:ak bD}{x:bD}{t}(hl:(o.getD []).length<SM):∃v w,f194 o x t=E6 (v,w)/\v.getD []=ki (di t.name) x (o.getD []):=by
 unfold f194
 have:f191 o t=E6 (ek ((o.getD []).findIdx? (di t.name))):=by unfold f191;exact nK (p:=di t.name) (Iy hl) fun i=>rfl
 rw[this];simp only[qa];rw[jsl hl];exact V2 (p:=di t.name) (g:=fun _=>E6 x) hl fun _=>rfl
theorem ju2 {o t}(hl:(o.getD []).length<=SM):f191 o t=E6 (ek ((o.getD []).findIdx? (di t.name))):=by
 unfold f191;exact nK (p:=di t.name) hl fun i=>rfl
theorem juz {o k}(hl:(o.getD []).length<=SM):f175 o k=E6 (jh ((o.getD []).filter fun x=>!di k x),fS ((o.getD []).filter fun x=>!di k x)):=by
 unfold f175;rw[F9 (f:=JQ o k) (l:=o.getD []) (p:=fun x=>!di k x) (q:=fun x=>f176 x k) hl (fun x _=>rfl) (fun s=>rfl)];rfl
theorem jp4 {o k}(hl:(o.getD []).length<=SM):JR o k=E6 ((o.getD []).any (di k)):=by
 have:JS o k=E6 (ek ((o.getD []).findIdx? (di k))):=by unfold JS;exact nK (p:=di k) hl fun i=>rfl
 unfold JR;rw[this];simp only[qa,wU,cC]
theorem jot {o t}(hl:(o.getD []).length<=SM):JT o t=E6 ((o.getD []).any (di t.kind)):=by
 have:JU o t=E6 (ek ((o.getD []).findIdx? (di t.kind))):=by unfold JU;exact nK (p:=di t.kind) hl fun i=>rfl
 unfold JT;rw[this];simp only[qa,wU,cC]
theorem jmy {o s}(hl:(o.getD []).length<=SM):JV o s=E6 ((o.getD []).any (eL s.k)):=by
 have:yS o s=E6 (ek ((o.getD []).findIdx? (eL s.k))):=by unfold yS;exact nK (p:=eL s.k) hl fun i=>rfl
 unfold JV;rw[this];simp only[qa,wU,cC]
theorem jll {o e n}(hn:qm (e.names.getD []) 1=E6 n)(hl:(o.getD []).length<=SM):JW o e=E6 ((o.getD []).any (eL n)):=by
 have:JX o e=E6 (ek ((o.getD []).findIdx? (eL n))):=by
  unfold JX;refine nK (p:=eL n) hl fun i=>?_;unfold JY f195;rw[hn];rfl
 unfold JW;rw[this];simp only[qa,wU,cC]
theorem V3 {α β:Type}{l:List α}{h q f}(hh:∀x,(h x).length<=1)
  (da:∀o b w,f (o,b,(l.length:Int),w)=E6 (.inr (o,w,b,(l.length:Int))))
  (hf:∀(i:Nat) x (a:List β) b,l[i]?=E6 x->i<l.length->a.length<=i->f (jh a,b,(i:Int),fS a)=E6 (.inl (jh (a++h x),b||q x,((i+1:Nat):Int),fS (a++h x)))):
  bq f (Iw,H3,0,H3)=E6 (jh (l.flatMap h),fS (l.flatMap h),l.any q,(l.length:Int)):=by
 have key:∀(k i:Nat),i+k=l.length->∀a b,a.length<=i->bq f (jh a,b,(i:Int),fS a)=E6 (jh (a++(l.drop i).flatMap h),fS (a++(l.drop i).flatMap h),b||(l.drop i).any q,(l.length:Int)):=by
  intro k
  induction k with
  |zero=>
   intro i hi a b _
   have:i=l.length:=by omega
   subst this;rw[If (Ia _),List.flatMap_nil,List.append_nil,zj (da _ _ _)];simp
  |succ k ih=>
   intro i hi a b ha;obtain⟨x,M⟩:∃x,l[i]?=E6 x:=⟨_,Ic (by omega)⟩;rw[km (hf i x a b M (by omega) ha),ih (i+1) (by omega) _ _ (by rw[Le];have:=hh x;omega),rF M,I3,Ll,I6,Bool.or_assoc]
 have:=key l.length 0 (by omega) [] H3 (Ia _);rw[Jl,Jb,Bool.false_or]at this;exact this
theorem V4 {α:Type}{a:List α}{x}(h:a.length<SM):cond (fS a) (qa (bC (jh a) [x]) fun v=>E6 (v,H2)) (cond (jh a).isNone (qa (bC (jh a) [x]) fun v=>E6 (v,H2)) Iw)=E6 (jh (a++[x]),H2):=vn (k:=fun v=>E6 (v,H2)) h
theorem yv {α β:Type}{h:α->List β}(hh:∀x,(h x).length<=1):∀l:List α,(l.flatMap h).length<=l.length
 | []=>Ia _
 |x::l=>by rw[I3,Le,Il];have:=hh x;have:=yv hh l;omega
theorem ju4 {o x}(hl:(o.getD []).length<SM)(hk:ku (·.k) (o.getD []))(h0:0<=x.n):∃v w,f217 o x=E6 (v,w)/\v.getD []=kE (o.getD []) x.k x.n:=by
 let h:bD->List bD:=fun y=>if di x.k y then(if 0<x.n then [x]else [])else [y]
 have hh:∀y,(h y).length<=1:=by intro y;simp only[h];split<;>(try split)<;>simp
 have L:=V3 (l:=o.getD []) (h:=h) (q:=di x.k) (f:=BN o x) hh (fun o b w=>by unfold BN;simp only[yd];rfl) (fun i y a b hy hi ha=>by
  unfold BN;simp only[kj hi,cond_true,qa,q9 hy];rw[zd (by unfold SM at hl;omega)];simp only[h,di];by_cases Y:y.k=x.k
  ·by_cases I:0<x.n
   ·simp only[Y,I,decide_true,cond_true,if_true,Lf];rw[wQ];exact vn (x:=x) (k:=fun v=>E6 (I5 (v,H2,((i+1:Nat):Int),H2))) (by unfold SM at hl;omega)
   ·simp[Y,I]
  ·simp only[Y,decide_false,cond_false,Ha,if_false,Jx];rw[wQ]
   exact vn (x:=y) (k:=fun v=>E6 (I5 (v,b,((i+1:Nat):Int),H2))) (by unfold SM at hl;omega))
 unfold f217;rw[L];simp only[qa];have hlen:((o.getD []).flatMap h).length<SM:=I2 (yv hh _) hl;by_cases hn:x.n=0
 .have hp:decide (0<x.n)=H3:=by rw[hn];rfl
  have hf:(o.getD []).flatMap h=(o.getD []).filter fun y=>!di x.k y:=by
   rw[show h=fun y=>if(!di x.k y)then [id y]else [] by funext y;simp only[h,hn];cases di x.k y<;>rfl,VY,List.map_id]
  unfold kE;rw[if_pos hn,hp,<-hf];cases (o.getD []).any (di x.k)<;>exact⟨_,_,rfl,zc _⟩
 .have hp:decide (0<x.n)=H2:=decide_eq_true (by omega)
  have hf:(o.getD []).flatMap h=(o.getD []).map fun y=>if di x.k y then x else y:=by
   rw[<-JC]
   congr 1
   funext y
   have:0<x.n:=by omega
   simp only[h,this,if_true];cases di x.k y<;>rfl
  have uq:=q33 (key:=fun y:bD=>y.k) (k:=x.k) (x:=x) hk;unfold kE;rw[if_neg hn,hp,show(⟨x.k,x.n⟩:bD)=x from rfl,show ki (di x.k) x (o.getD [])=Gf (di x.k) x (o.getD [])from uq.symm];unfold Gf;rw[<-hf]
  cases ha:(o.getD []).any (di x.k)with
  |true=>exact⟨_,_,rfl,by rw[zc];simp⟩
  |false=>
   simp only[cond_false,cond_true,Ha,if_false];have:=V4 (x:=x) hlen;simp only[qa]at this;rw[this];exact⟨_,_,rfl,zc _⟩
theorem ju6 {o x}(hl:(o.getD []).length<SM)(hk:ku (·.k) (o.getD [])):∃v w,f218 o x=E6 (v,w)/\v.getD []=ki (eL x.k) x (o.getD []):=by
 let h:jg->List jg:=fun y=>if eL x.k y then [x]else [y]
 have hh:∀y,(h y).length<=1:=by intro y;simp only[h];split<;>simp
 have L:=V3 (l:=o.getD []) (h:=h) (q:=eL x.k) (f:=BO o x) hh (fun o b w=>by unfold BO;simp only[yd];rfl) (fun i y a b hy hi ha=>by
  unfold BO;simp only[kj hi,cond_true,qa,q9 hy];rw[zd (by unfold SM at hl;omega)];simp only[h,eL];by_cases Y:y.k=x.k
  ·simp only[Y,decide_true,cond_true,if_true,Lf];rw[wQ];exact vn (x:=x) (k:=fun v=>E6 (I5 (v,H2,((i+1:Nat):Int),H2))) (by unfold SM at hl;omega)
  ·simp only[Y,decide_false,cond_false,Ha,if_false,Jx];rw[wQ]
   exact vn (x:=y) (k:=fun v=>E6 (I5 (v,b,((i+1:Nat):Int),H2))) (by unfold SM at hl;omega))
 unfold f218;rw[L];simp only[qa];have hlen:((o.getD []).flatMap h).length<SM:=I2 (yv hh _) hl
 have hf:(o.getD []).flatMap h=(o.getD []).map fun y=>if eL x.k y then x else y:=by
  rw[<-JC]
  congr 1
  funext y;simp only[h];cases eL x.k y<;>rfl
 have uq:=q33 (key:=fun y:jg=>y.k) (k:=x.k) (x:=x) hk;rw[show ki (eL x.k) x (o.getD [])=Gf (eL x.k) x (o.getD [])from uq.symm];unfold Gf;rw[<-hf]
 cases ha:(o.getD []).any (eL x.k)with
 |true=>exact⟨_,_,rfl,by rw[zc];simp⟩
 |false=>
  simp only[cond_false,Ha,if_false];have:=V4 (x:=x) hlen;simp only[qa]at this;rw[this];exact⟨_,_,rfl,zc _⟩
theorem q4f {α:Type}{f}:∀ {l:List α},(∀x∈l,f x=x)->l.map f=l
 | [],_=>rfl
 |x::l,h=>by rw[Ib,h x (Jz ..),q4f fun y hy=>h y (Jw _ hy)]
theorem jb9 {k:aj}{F:bD->bD}:∀ {l:List bD},ku (·.k) l->(l.map fun y=>if di k y then F y else y)=(match l.findIdx? (di k)with
  |some i=>(match l[i]? with
   |some x=>l.set i (F x)
   |none=>l)
  |none=>l)
 | [],_=>rfl
 |y::l,h=>by
  have h':ku (·.k) l:=(Ni.1 h).2;have hn:¬y.k∈l.map (·.k):=(Ni.1 h).1;rw[Ib,Jy]
  cases hy:di k y with
  |true=>
   have hk:y.k=k:=of_decide_eq_true hy;simp only[if_true]
   rw[q4f fun x M=>by
    have:di k x=H3:=decide_eq_false fun hxk=>hn (by rw[hk,<-hxk];exact I1 M)
    rw[this];rfl]
   rfl
  |false=>
   simp only[Ha,if_false];rw[jb9 h']
   cases hi:l.findIdx? (di k)with
   |none=>rfl
   |some i=>
    obtain⟨x,Y,_⟩:=bV hi;simp[Y]
theorem jua {o k n}(hl:(o.getD []).length<SM)(hk:ku (·.k) (o.getD [])):∃v w,f262 o k n=E6 (v,w)/\v.getD []=oi (qd .i64) (o.getD []) k n:=by
 let h:bD->List bD:=fun y=>if di k y then [⟨y.k,qd .i64 (y.n+n)⟩]else [y]
 have hh:∀y,(h y).length<=1:=by intro y;simp only[h];split<;>simp
 have L:=V3 (l:=o.getD []) (h:=h) (q:=di k) (f:=BP o k n) hh (fun o b w=>by unfold BP;simp only[yd];rfl) (fun i y a b hy hi ha=>by
  unfold BP;simp only[kj hi,cond_true,qa,q9 hy];rw[zd (by unfold SM at hl;omega)];simp only[h,di];by_cases Y:y.k=k
  ·simp only[Y,decide_true,cond_true,if_true,Lf];rw[wQ];exact vn (x:=(⟨k,qd .i64 (y.n+n)⟩:bD)) (k:=fun v=>E6 (I5 (v,H2,((i+1:Nat):Int),H2))) (by unfold SM at hl;omega)
  ·simp only[Y,decide_false,cond_false,Ha,if_false,Jx];rw[wQ]
   exact vn (x:=y) (k:=fun v=>E6 (I5 (v,b,((i+1:Nat):Int),H2))) (by unfold SM at hl;omega))
 unfold f262;rw[L];simp only[qa];have hlen:((o.getD []).flatMap h).length<SM:=I2 (yv hh _) hl
 have hf:(o.getD []).flatMap h=(o.getD []).map fun y=>if di k y then(⟨k,qd .i64 (n+y.n)⟩:bD)else y:=by
  rw[<-JC]
  congr 1
  funext y;simp only[h]
  cases hy:di k y with
  |false=>rfl|true=>rw[show y.k=k from of_decide_eq_true hy,Int.add_comm];rfl
 rw[jb9 hk]at hf;unfold oi
 cases hi:(o.getD []).findIdx? (di k)with
 |some i=>
  obtain⟨x,Y,_⟩:=bV hi
  have ha:(o.getD []).any (di k)=H2:=by rw[Gb,hi];rfl
  rw[hi]at hf;simp only[Y]at hf ⊢;rw[ha,hf];exact⟨_,_,rfl,zc _⟩
 |none=>
  have ha:(o.getD []).any (di k)=H3:=by rw[Gb,hi];rfl
  rw[hi]at hf;simp only at hf ⊢;rw[ha];have:=V4 (x:=(⟨k,n⟩:bD)) hlen;simp only[qa]at this;simp only[cond_false];rw[this,hf];exact⟨_,_,rfl,zc _⟩
end Go.Z
namespace Go.Z
open Go Go.Abs Go.W
abbrev BB:Nat:=1000000
structure GB (r:aw):Prop where
 L:(r.az.getD []).length<=BB
 P:(r.ah.getD []).length<=BB
 U:(r.units.getD []).length<=BB
 D:∀p∈r.ah.getD [],(p.bm.getD []).length<=BB/\(p.dn.getD []).length<=BB/\(p.dt.getD []).length<=BB/\∀d∈p.bm.getD [],(d.bd.getD []).length<=BB/\(d.aS.getD []).length<=BB
 N:∀u∈r.units.getD [],(u.uses.getD []).length<=BB/\(u.results.getD []).length<=BB
theorem jo {n}(h:n<=BB):n<=SM:=by unfold BB at h;unfold SM;omega
theorem nL {n}(h:n<=BB):n<SM:=by unfold BB at h;unfold SM;omega
def oj (x:Option (Int×aw))(y:rK):Prop:=∃c r',x=E6 (c,r')/\match y with
 | .error k=>c=k/\k≠0| .ok s=>c=0/\r'.er=s
variable {r:aw}{e:GEv}
theorem OC {a lo hi}:f124 a lo hi=E6 (if a<lo\/hi<a then 3 else 0):=by
 unfold f124;by_cases Y:a<lo
 .simp[Y,yn,qa]
 .by_cases I:hi<a<;>simp[Y,I,yn,qa]
theorem kg {k}:ek (E6 k)=(k:Int):=rfl
theorem wV {o}:decide (0<=ek o)=o.isSome:=wU o
theorem JZ {n k}(h:z7 r.er n=E6 k):∃x,(r.az.getD [])[k]?=E6 x/\x.name=n:=by
 obtain⟨x,Y,I,_⟩:=bV h;exact⟨x,Y,of_decide_eq_true I⟩
theorem BQ {n k}(h:z4 r.er n=E6 k):∃p,(r.ah.getD [])[k]?=E6 p/\p.name=n/\r.er.ah[k]?=E6 p.er:=by
 rw[Oy]at h;obtain⟨x,Y,I,_⟩:=bV h;exact⟨x,Y,of_decide_eq_true I,by rw[yL,Ik,Y];rfl⟩
theorem qA {n k}(h:zq r.er n=E6 k):∃u,(r.units.getD [])[k]?=E6 u/\u.name=n/\r.er.units[k]?=E6 u.er:=by
 rw[VU]at h;obtain⟨x,Y,I,_⟩:=bV h;exact⟨x,Y,of_decide_eq_true I,by rw[wS,Ik,Y];rfl⟩
theorem ie {α:Type}{l:List α}{a t}(h:l=a::t):qm l 0=E6 a:=by subst h;rfl
theorem gW {α:Type}{l:List α}{a b t}(h:l=a::b::t):qm l 1=E6 b:=by subst h;rfl
theorem j0t {α:Type}{l:List α}{a b c t}(h:l=a::b::c::t):qm l 2=E6 c:=by subst h;rfl
theorem fh {a t}(h:e.names.getD []=a::t):nm e.er 0=a:=by unfold nm;rw[show e.er.names=e.names.getD []from rfl,h];rfl
theorem mY {a b t}(h:e.names.getD []=a::b::t):nm e.er 1=b:=by unfold nm;rw[show e.er.names=e.names.getD []from rfl,h];rfl
theorem vl0 {a t}(h:e.values.getD []=a::t):vl e.er 0=a:=by unfold vl;rw[show e.er.values=e.values.getD []from rfl,h];rfl
theorem vq {a b t}(h:e.values.getD []=a::b::t):vl e.er 1=b:=by unfold vl;rw[show e.er.values=e.values.getD []from rfl,h];rfl
theorem vl2 {a b c t}(h:e.values.getD []=a::b::c::t):vl e.er 2=c:=by unfold vl;rw[show e.er.values=e.values.getD []from rfl,h];rfl
theorem wW:r.er.az=r.az.getD []:=rfl
theorem aw.eta (r:aw):(⟨r.day,r.az,r.ah,r.units⟩:aw)=r:=rfl
theorem zix (b:GB r){n0 n1:aj}{v0 v1:Int}(hk:e.kind=nG)(hn:e.names.getD []=[n0,n1])(hv:e.values.getD []=[v0,v1]):
  oj (fB 106 r e) (apply (qd .i64) r.er e.er):=by
 have hR:apply (qd .i64) r.er e.er=pn r.er e.er:=by unfold apply;rw[if_pos (.inl hk)]
 rw[hR];unfold pn;rw[if_pos (show e.er.kind=nG from hk),fh hn,mY hn,vq hv,wW];have hA:fB 106 r e=qa (f106 e r.day r.az r.ah r.units) fun v=>E6 (v.1,{ r with az:=v.2.1 }):=rfl;rw[hA];unfold f106;simp only[aw.eta,ie hn,gW hn,gW hv,qa,F6 (jo b.L),yn,OC,wV];rw[jD (by simp[SM])];simp only[juf (nL b.L)]
 cases (z7 r.er n0).isSome with
 |true=>exact⟨_,_,rfl,rfl,by decide⟩
 |false=>
  by_cases Y:v1<1\/10000<v1
  .simp only[Ha,if_false,Y,if_true,fW];exact⟨_,_,rfl,rfl,by decide⟩
  .by_cases I:64<=(r.az.getD []).length
   .have kC:decide (64<=((r.az.getD []).length:Int))=H2:=decide_eq_true (by omega);simp only[Ha,if_false,Y,I,kC,if_true,fW];exact⟨_,_,rfl,rfl,by decide⟩
   .have kC:decide (64<=((r.az.getD []).length:Int))=H3:=decide_eq_false (by omega);simp only[Ha,if_false,Y,I,kC,if_true,fW];exact⟨_,_,rfl,rfl,rfl⟩
theorem q0z {o p}(h:o=E6 (r.ah.getD []++[p])):({ r with ah:=o }:aw).er={ r.er with ah:=r.er.ah++[p.er] }:=by
 subst h;simp only[aw.er,Hc,Jc,Ib,I9]
theorem qz0 {o p}(h:o=E6 (r.units.getD []++[p])):({ r with units:=o }:aw).er={ r.er with units:=r.er.units++[p.er] }:=by
 subst h;simp only[aw.er,Hc,Jc,Ib,I9]
theorem Gg {o p k}(h:o=E6 ((r.ah.getD []).set k p)):({ r with ah:=o }:aw).er=bI r.er k p.er:=by
 subst h;simp only[aw.er,bI,Hc,Ja]
theorem yT {o p k}(h:o=E6 ((r.units.getD []).set k p)):({ r with units:=o }:aw).er=aH r.er k p.er:=by
 subst h;simp only[aw.er,aH,Hc,Ja]
theorem OD {o p k}(h:o=E6 ((r.az.getD []).set k p)):({ r with az:=o }:aw).er=cy r.er k p:=by
 subst h;simp only[aw.er,cy,Hc]
theorem zcx (b:GB r){n0:aj}{v0:Int}(hk:e.kind=oe)(hn:e.names.getD []=[n0])(hv:e.values.getD []=[v0]):
  oj (fB 107 r e) (apply (qd .i64) r.er e.er):=by
 have hR:apply (qd .i64) r.er e.er=pn r.er e.er:=by unfold apply;rw[if_pos (.inr (.inl hk))]
 rw[hR];unfold pn;rw[if_neg (show ¬e.er.kind=nG from fun h=>by rw[show e.er.kind=e.kind from rfl,hk]at h;exact absurd h (by decide)),if_pos (show e.er.kind=oe from hk),fh hn];have hA:fB 107 r e=qa (f107 e r.day r.az r.ah r.units) fun v=>E6 (v.1,{ r with ah:=v.2.1 }):=rfl;rw[hA];unfold f107;simp only[aw.eta,ie hn,qa,tq (jo b.P),yn,wV];rw[jD (by simp[SM])];simp only[jt3 (nL b.P)]
 have hl:r.er.ah.length=(r.ah.getD []).length:=by rw[yL,Ig]
 rw[hl]
 cases (z4 r.er n0).isSome with
 |true=>exact⟨_,_,rfl,rfl,by decide⟩
 |false=>
  by_cases I:16<=(r.ah.getD []).length
  .have kC:decide (16<=((r.ah.getD []).length:Int))=H2:=decide_eq_true (by omega);simp only[Ha,if_false,I,kC,if_true,fW];exact⟨_,_,rfl,rfl,by decide⟩
  .have kC:decide (16<=((r.ah.getD []).length:Int))=H3:=decide_eq_false (by omega);simp only[Ha,if_false,I,kC,if_true,fW];exact⟨_,_,rfl,rfl,q0z rfl⟩
theorem zdb (b:GB r){n0 n1:aj}{v0:Int}{k}(hk:e.kind=pV)(hn:e.names.getD []=[n0,n1])(hv:e.values.getD []=[v0])(hp:z4 r.er n1=E6 k):
  oj (fB 111 r e) (apply (qd .i64) r.er e.er):=by
 have hR:apply (qd .i64) r.er e.er=pn r.er e.er:=by unfold apply;rw[if_pos (.inr (.inr hk))]
 rw[hR];obtain⟨p,Y,_,h3⟩:=BQ hp
 have hpo:iC r.er n1=E6 p.er:=by unfold iC;rw[hp];exact h3
 unfold pn;rw[if_neg (show ¬e.er.kind=nG from fun h=>by rw[show e.er.kind=e.kind from rfl,hk]at h;exact absurd h (by decide)),if_neg (show ¬e.er.kind=oe from fun h=>by rw[show e.er.kind=e.kind from rfl,hk]at h;exact absurd h (by decide)),fh hn,mY hn,hpo];have hA:fB 111 r e=qa (f111 e r.day r.az r.ah r.units) fun v=>E6 (v.1,{ r with units:=v.2.1 }):=rfl;rw[hA];unfold f111 f96;simp only[aw.eta,ie hn,gW hn,qa,tq (jo b.P),vo (jo b.U),yn,wV,hp,kg,q9 Y];rw[jD (by simp[SM])];simp only[jty (nL b.U)]
 have hl:r.er.units.length=(r.units.getD []).length:=by rw[wS,Ig]
 have hd:p.er.bm.isEmpty=decide (((p.bm.getD []).length:Int)=0):=by
  show((p.bm.getD []).map cg.er).isEmpty=_
  cases p.bm.getD []with
  |nil=>rfl|cons x l=>simp;omega
 have pY:p.er.bm.length=(p.bm.getD []).length:=by show((p.bm.getD []).map cg.er).length=_;rw[Ig]
 simp only[hl,hd,pY]
 cases (zq r.er n0).isSome with
 |true=>exact⟨_,_,rfl,rfl,by decide⟩
 |false=>
  cases hz:decide (((p.bm.getD []).length:Int)=0)with
  |true=>exact⟨_,_,rfl,rfl,by decide⟩
  |false=>
   by_cases I:256<=(r.units.getD []).length
   .have kC:decide (256<=((r.units.getD []).length:Int))=H2:=decide_eq_true (by omega);simp only[Ha,if_false,I,kC,if_true,fW];exact⟨_,_,rfl,rfl,by decide⟩
   .have kC:decide (256<=((r.units.getD []).length:Int))=H3:=decide_eq_false (by omega);simp only[Ha,if_false,I,kC,if_true,fW];exact⟨_,_,rfl,rfl,qz0 rfl⟩
theorem jtz {p c n}(hl:(p.dn.getD []).length<SM):∃v,J0 c n n p=E6 { p with dn:=v }/\v.getD []=kE (p.dn.getD []) n c:=by
 unfold J0 kE;by_cases h:c=0
 .simp only[h,decide_true,cond_true,if_true,juz (Iy hl),qa];exact⟨_,rfl,zc _⟩
 .obtain⟨v,w,Y,I⟩:=jvi (x:=⟨n,c⟩) (k:=n) hl;simp only[h,decide_false,cond_false,if_false,Y,qa];exact⟨_,rfl,I⟩
theorem jlt (b:GB r){n0 n1 c k p}(hp:z4 r.er n0=E6 k)(M:(r.ah.getD [])[k]?=E6 p):∃v,BR n0 c n1 n1 r.day r.az r.ah r.units=E6 (E6 ((r.ah.getD []).set k { p with dn:=v }))/\v.getD []=kE (p.dn.getD []) n1 c:=by
 obtain⟨v,Y,I⟩:=jtz (c:=c) (n:=n1) (nL (b.D p (Hb M)).2.1);refine⟨v,?_,I⟩;unfold BR V5;simp only[aw.eta,tq (jo b.P),hp,kg,qa];rw[pk (jo b.P) M Y]
theorem jlb (b:GB r){n0 t k p}(hp:z4 r.er n0=E6 k)(M:(r.ah.getD [])[k]?=E6 p):∃v,Gh n0 t t r.day r.az r.ah r.units=E6 (E6 ((r.ah.getD []).set k { p with dt:=v }))/\v.getD []=ki (eL t.k) t (p.dt.getD []):=by
 obtain⟨v,w,Y,I⟩:=juk (x:=t) (s:=t) (o:=p.dt) (nL (b.D p (Hb M)).2.2.1);refine⟨v,?_,I⟩;unfold Gh V6;simp only[aw.eta,tq (jo b.P),hp,kg,qa];rw[pk (jo b.P) M (show J1 t t p=E6 { p with dt:=v } by unfold J1;rw[Y];rfl)]
theorem OE {n0:aj}{k:Nat}{p:bp}(hn:nm e.er 0=n0)(hp:z4 r.er n0=E6 k)(h3:r.er.ah[k]?=E6 p.er):po r.er e.er =
   if e.kind=nH then
    (if vl e.er 1<0\/10000<vl e.er 1 then .error 3 else if 0<vl e.er 1/\!((p.dn.getD []).any (di (nm e.er 1)))/\16<=(p.dn.getD []).length then .error 5 else
     .ok (bI r.er k { p.er with bW:={ p.er.bW with bd:=kE (p.dn.getD []) (nm e.er 1) (vl e.er 1) } }))
   else if e.kind=lO then
    (if vl e.er 2<vl e.er 1 then .error 11 else if !((p.dt.getD []).any (eL (nm e.er 1)))/\16<=(p.dt.getD []).length then .error 5 else
     .ok (bI r.er k { p.er with bW:={ p.er.bW with aS:=ki (eL (nm e.er 1)) ⟨nm e.er 1,vl e.er 1,vl e.er 2⟩ (p.dt.getD []) } }))
   else(if(p.dn.getD []).isEmpty then .error 12 else if 100<=p.er.bm.length then .error 5 else .ok (bI r.er k { p.er with bm:=p.er.bm++[p.er.bW] })):=by
 unfold po;rw[hn,hp];simp only[h3];rfl
theorem zge (b:GB r){n0 n1:aj}{v0 v1:Int}{k:Nat}(hk:e.kind=nH)(hn:e.names.getD []=[n0,n1])(hv:e.values.getD []=[v0,v1])(hp:z4 r.er n0=E6 k):
  oj (fB 108 r e) (apply (qd .i64) r.er e.er):=by
 have hR:apply (qd .i64) r.er e.er=po r.er e.er:=by
  unfold apply;rw[show e.er.kind=nH from hk,if_neg (by decide),if_pos (.inl rfl)]
 obtain⟨p,Y,_,h3⟩:=BQ hp;rw[hR,OE (fh hn) hp h3,if_pos hk,mY hn,vq hv];have hA:fB 108 r e=qa (f108 e r.day r.az r.ah r.units) fun v=>E6 (v.1,{ r with ah:=v.2 }):=rfl;rw[hA];obtain⟨v,g1,g2⟩:=jlt b (n1:=n1) (c:=v1) hp Y;have AX:=(b.D p (Hb Y)).2.1
 have dF:({ r with ah:=E6 ((r.ah.getD []).set k { p with dn:=v }) }:aw).er=bI r.er k { p.er with bW:={ p.er.bW with bd:=kE (p.dn.getD []) n1 v1 } }:=by
  rw[Gg rfl]
  congr 1
  simp only[bp.er,g2]
 unfold f108;simp only[aw.eta,ie hn,gW hn,gW hv,qa,tq (jo b.P),hp,kg,q9 Y,OC,yn,jp4 (jo AX),g1];by_cases hz:v1<0\/10000<v1
 .simp only[hz,if_true,if_false,Ha];cases decide (0<v1)<;>cases (p.dn.getD []).any (di n1)<;>(simp only[cond_true,cond_false];rw[jD (by simp[SM])];exact⟨_,_,rfl,rfl,by decide⟩)
 .simp only[hz,if_false,if_true,Ha];by_cases h0:0<v1
  .rw[decide_eq_true h0]
   cases ha:(p.dn.getD []).any (di n1)with
   |true=>
    simp only[cond_true,Io,Ha,false_and,and_false,if_false];rw[jD (by simp[SM])];exact⟨_,_,rfl,rfl,dF⟩
   |false=>
    simp only[cond_true,cond_false,Jv,true_and,h0];rw[jD (by simp[SM])];by_cases I:16<=(p.dn.getD []).length
    .rw[show decide (16<=((p.dn.getD []).length:Int))=H2 from decide_eq_true (by omega),if_pos I];exact⟨_,_,rfl,rfl,by decide⟩
    .rw[show decide (16<=((p.dn.getD []).length:Int))=H3 from decide_eq_false (by omega),if_neg I];exact⟨_,_,rfl,rfl,dF⟩
  .rw[decide_eq_false h0,if_neg (show ¬(0<v1/\(!(p.dn.getD []).any (di n1))=H2/\16<=(p.dn.getD []).length)from fun h=>h0 h.1)];simp only[cond_false];rw[jD (by simp[SM])];exact⟨_,_,rfl,rfl,dF⟩
theorem zec (b:GB r){n0 n1:aj}{v0 v1 v2:Int}{k:Nat}(hk:e.kind=lO)(hn:e.names.getD []=[n0,n1])(hv:e.values.getD []=[v0,v1,v2])(hp:z4 r.er n0=E6 k):
  oj (fB 109 r e) (apply (qd .i64) r.er e.er):=by
 have hR:apply (qd .i64) r.er e.er=po r.er e.er:=by
  unfold apply;rw[show e.er.kind=lO from hk,if_neg (by decide),if_pos (.inr (.inl rfl))]
 obtain⟨p,Y,_,h3⟩:=BQ hp;rw[hR,OE (fh hn) hp h3,if_neg (by rw[hk];decide),if_pos hk,mY hn,vq hv,vl2 hv];have hA:fB 109 r e=qa (f109 e r.day r.az r.ah r.units) fun v=>E6 (v.1,{ r with ah:=v.2 }):=rfl;rw[hA];obtain⟨v,g1,g2⟩:=jlb b (t:=⟨n1,v1,v2⟩) hp Y;have AX:=(b.D p (Hb Y)).2.2.1
 have dF:({ r with ah:=E6 ((r.ah.getD []).set k { p with dt:=v }) }:aw).er=bI r.er k { p.er with bW:={ p.er.bW with aS:=ki (eL n1) ⟨n1,v1,v2⟩ (p.dt.getD []) } }:=by
  rw[Gg rfl]
  congr 1
  simp only[bp.er,g2]
 unfold f109;simp only[aw.eta,ie hn,gW hn,gW hv,j0t hv,qa,tq (jo b.P),hp,kg,q9 Y,yn,jmy (jo AX),g1];by_cases hz:v2<v1
 .rw[decide_eq_true hz,if_pos hz];cases (p.dt.getD []).any (eL n1)<;>(simp only[cond_true,cond_false];rw[jD (by simp[SM])];exact⟨_,_,rfl,rfl,by decide⟩)
 .rw[decide_eq_false hz,if_neg hz]
  cases ha:(p.dt.getD []).any (eL n1)with
  |true=>
   simp only[cond_true,Io,Ha,false_and,if_false];rw[jD (by simp[SM])];exact⟨_,_,rfl,rfl,dF⟩
  |false=>
   simp only[cond_false,Jv,true_and];rw[jD (by simp[SM])];by_cases I:16<=(p.dt.getD []).length
   .rw[show decide (16<=((p.dt.getD []).length:Int))=H2 from decide_eq_true (by omega),if_pos I];exact⟨_,_,rfl,rfl,by decide⟩
   .rw[show decide (16<=((p.dt.getD []).length:Int))=H3 from decide_eq_false (by omega),if_neg I];exact⟨_,_,rfl,rfl,dF⟩
theorem q8i {α:Type}{o:Option (List α)}(h:(o.getD []).length<=SM):∃v w,(cond o.isNone (E6 (Iw,H3)) (qa (bC (E6 []) (o.getD [])) fun v=>E6 (v,H2)))=E6 (v,w)/\v.getD []=o.getD []:=by
 cases o with
 |none=>exact⟨Iw,H3,rfl,rfl⟩
 |some l=>
  have h':l.length<=SM:=h;simp only[Ld,cond_false,Hc];rw[yQ h'];exact⟨_,_,rfl,rfl⟩
theorem jt7 {d:cg}(Y:(d.bd.getD []).length<=SM)(I:(d.aS.getD []).length<=SM):∃d',f185 d=E6 d'/\d'.er=d.er:=by
 obtain⟨v,w,g1,g2⟩:=q8i Y;obtain⟨v',w',g3,g4⟩:=q8i I;unfold f185;rw[show f238 d.bd=E6 (v,w)from g1,show f239 d.aS=E6 (v',w')from g3];exact⟨⟨v,v'⟩,rfl,by simp only[cg.er,g2,g4]⟩
theorem zhs (b:GB r){n0:aj}{v0:Int}{k:Nat}(hk:e.kind=rG)(hn:e.names.getD []=[n0])(hv:e.values.getD []=[v0])(hp:z4 r.er n0=E6 k):
  oj (fB 110 r e) (apply (qd .i64) r.er e.er):=by
 have hR:apply (qd .i64) r.er e.er=po r.er e.er:=by
  unfold apply;rw[show e.er.kind=rG from hk,if_neg (by decide),if_pos (.inr (.inr rfl))]
 obtain⟨p,Y,_,h3⟩:=BQ hp;rw[hR,OE (fh hn) hp h3,if_neg (by rw[hk];decide),if_neg (by rw[hk];decide)];have hA:fB 110 r e=qa (f110 e r.day r.az r.ah r.units) fun v=>E6 (v.1,{ r with ah:=v.2 }):=rfl;rw[hA];have hD:=b.D p (Hb Y);obtain⟨d',g1,g2⟩:=jt7 (d:=⟨p.dn,p.dt⟩) (jo hD.2.1) (jo hD.2.2.1)
 have g3:OG r.ah (k:Int)=E6 (E6 ((r.ah.getD []).set k { p with bm:=E6 (p.bm.getD []++[d']) })):=by
  unfold OG;exact pk (jo b.P) Y (by unfold OH;rw[g1];simp only[qa];rw[jtp (nL hD.1)])
 have dF:({ r with ah:=E6 ((r.ah.getD []).set k { p with bm:=E6 (p.bm.getD []++[d']) }) }:aw).er=bI r.er k { p.er with bm:=p.er.bm++[p.er.bW] }:=by
  rw[Gg rfl]
  congr 1
  simp only[bp.er,Hc,Jc,Ib,I9,g2];rfl
 have pY:p.er.bm.length=(p.bm.getD []).length:=by show((p.bm.getD []).map cg.er).length=_;rw[Ig]
 have hd:(p.dn.getD []).isEmpty=decide (((p.dn.getD []).length:Int)=0):=by
  cases p.dn.getD []with
  |nil=>rfl|cons x l=>simp;omega
 unfold f110;simp only[aw.eta,ie hn,qa,tq (jo b.P),hp,kg,q9 Y,yn,g3,hd,pY];rw[jD (by simp[SM])]
 cases decide (((p.dn.getD []).length:Int)=0)with
 |true=>exact⟨_,_,rfl,rfl,by decide⟩
 |false=>
  by_cases I:100<=(p.bm.getD []).length
  .rw[show decide (100<=((p.bm.getD []).length:Int))=H2 from decide_eq_true (by omega),if_pos I];exact⟨_,_,rfl,rfl,by decide⟩
  .rw[show decide (100<=((p.bm.getD []).length:Int))=H3 from decide_eq_false (by omega),if_neg I];exact⟨_,_,rfl,rfl,dF⟩
end Go.Z
namespace Go.Z
open Go Go.Abs Go.W
variable {r:aw}{e:GEv}
theorem ll {k}(hk:e.kind=k)(h:¬(k=nG\/k=oe\/k=pV))(I:¬(k=nH\/k=lO\/k=rG)):apply (qd .i64) r.er e.er=if k=pi\/k=tm then vr r.er e.er else pq (qd .i64) r.er e.er:=by
 unfold apply;rw[show e.er.kind=k from hk,if_neg h,if_neg I]
theorem zhj (b:GB r){n0 v0 k}(hk:e.kind=pi)(hn:e.names.getD []=[n0])(hv:e.values.getD []=[v0])(hp:z7 r.er n0=E6 k):
  oj (fB 116 r e) (apply (qd .i64) r.er e.er):=by
 rw[ll hk (by decide) (by decide),if_pos (.inl rfl)];obtain⟨x,Y,_⟩:=JZ hp;have hA:fB 116 r e=qa (f116 e r.day r.az r.ah r.units) fun v=>E6 (v.1,{ r with az:=v.2 }):=rfl;rw[hA];have g1:V7 r.az (k:Int)=E6 (E6 ((r.az.getD []).set k { x with held:=H2 })):=pk (jo b.L) Y rfl;unfold vr;rw[fh hn,hp];simp only[wW,Y];rw[if_pos (show e.er.kind=pi from hk)];unfold f116;simp only[aw.eta,ie hn,qa,F6 (jo b.L),hp,kg,q9 Y,g1]
 cases x.held with
 |true=>exact⟨_,_,rfl,rfl,by decide⟩|false=>exact⟨_,_,rfl,rfl,OD rfl⟩
theorem zf7 (b:GB r){n0 v0 k}(hk:e.kind=tm)(hn:e.names.getD []=[n0])(hv:e.values.getD []=[v0])(hp:z7 r.er n0=E6 k):
  oj (fB 117 r e) (apply (qd .i64) r.er e.er):=by
 rw[ll hk (by decide) (by decide),if_pos (.inr rfl)];obtain⟨x,Y,_⟩:=JZ hp;have hA:fB 117 r e=qa (f117 e r.day r.az r.ah r.units) fun v=>E6 (v.1,{ r with az:=v.2 }):=rfl;rw[hA];have g1:V8 r.az (k:Int)=E6 (E6 ((r.az.getD []).set k { x with held:=H3 })):=pk (jo b.L) Y rfl;unfold vr;rw[fh hn,hp];simp only[wW,Y];rw[if_neg (show ¬e.er.kind=pi from fun h=>by rw[show e.er.kind=e.kind from rfl,hk]at h;exact absurd h (by decide))];unfold f117;simp only[aw.eta,ie hn,qa,F6 (jo b.L),hp,kg,q9 Y,g1]
 cases x.held with
 |true=>exact⟨_,_,rfl,rfl,OD rfl⟩|false=>exact⟨_,_,rfl,rfl,by decide⟩
structure UOk (r:aw)(u:bw)(D:cg)(v:Int):Prop where
 doc:f161 r u=E6 D
 BS:f157 r u=E6 D
 yU:gD r.er u.er=E6 D.er
 new:rI r.er u.er=E6 v
 bd:(D.bd.getD []).length<=BB
 aS:(D.aS.getD []).length<=BB
 uses:(u.uses.getD []).length<=BB
 results:(u.results.getD []).length<=BB
 az:∀x∈u.uses.getD [],(z7 r.er x.k).isSome=H2
 keyed:ku (·.k) (u.uses.getD [])
 bN:u.version≠-1
theorem jix {u:bw}{d}(h:gD r.er u.er=E6 d):∃(k:Nat) (p:bp),(r.ah.getD [])[k]?=E6 p/\1<=u.version/\∃D:cg,D∈p.bm.getD []/\D.er=d:=by
 unfold gD at h
 cases hp:iC r.er u.er.product with
 |none=>rw[hp]at h;cases h
 |some sp=>
  rw[hp]at h;obtain⟨k,p,_,I,rfl,_⟩:=VW hp;simp only[I7,BD]at h;split at h
  .rename_i hv;refine⟨k,p,I,hv,?_⟩;have h3:((p.bm.getD []).map cg.er)[(u.er.version-1).toNat]?=E6 d:=h;rw[Ik]at h3
   cases hD:(p.bm.getD [])[(u.er.version-1).toNat]? with
   |none=>rw[hD]at h3;cases h3|some D=>rw[hD]at h3;exact⟨D,Hb hD,by simpa using h3⟩
  .cases h
theorem BT (b:GB r)(w:WF r.er){i:Nat}{u}(hu:(r.units.getD [])[i]?=E6 u):∃D v,UOk r u D v:=by
 have hm:=Hb hu
 have V9:u.er∈r.er.units:=by rw[wS];exact I1 hm
 obtain⟨d,hd⟩:=Ip.1 (w.en _ V9);obtain⟨D,g1,g2,rfl⟩:=jwa (jo b.P) (fun p hp=>jo (b.D p hp).1) hd;obtain⟨k,p,hp,hv,D',pu,he⟩:=jix hd;have hb:=(b.D p (Hb hp)).2.2.2 D' pu;have Y:D.bd.getD []=D'.bd.getD []:=congrArg kD.bd he.symm;have I:D.aS.getD []=D'.aS.getD []:=congrArg kD.aS he.symm
 have dx:(rI r.er u.er).isSome=H2:=by
  unfold rI;unfold gD at hd
  cases hq:iC r.er u.er.product with
  |none=>rw[hq]at hd;cases hd|some sp=>rfl
 obtain⟨v,Uo⟩:=Ip.1 dx;exact⟨D,v,g1,g2,hd,Uo,by rw[Y];exact hb.1,by rw[I];exact hb.2,(b.N u hm).1,(b.N u hm).2,(w.uses _ V9).2,(w.uses _ V9).1,by omega⟩
theorem wX {n0:aj}{k:Nat}{u:bw}(hn:nm e.er 0=n0)(hp:zq r.er n0=E6 k)(h3:r.er.units[k]?=E6 u.er):pq (qd .i64) r.er e.er =
   if e.kind=nI then wY (qd .i64) r.er k u.er e.er
   else if e.kind=og then wZ r.er k u.er e.er
   else if e.kind=pW then
    (if u.ax then .error 21 else if !((gD r.er u.er).any fun d=>d.aS.any (eL (nm e.er 1)))then .error 7 else if 64<=(u.results.getD []).length then .error 5 else
     .ok (aH r.er k { u.er with results:=u.results.getD []++[⟨nm e.er 1,u.version,vl e.er 1⟩] }))
   else if e.kind=rH then
    (if u.ax then .error 21 else match rI r.er u.er with
     |none=>.error 32
     |some v=>if u.version=v then .error 32 else .ok (aH r.er k { u.er with version:=v }))
   else if e.kind=lP then(if vp (qd .i64) r.er u.er≠0 then .error (vp (qd .i64) r.er u.er)else .ok (aH r.er k { u.er with ax:=H2 }))
   else(if !u.ax then .error 20 else .ok (aH r.er k { u.er with au:=qd .i64 (u.au+1) })):=by
 unfold pq;rw[hn,hp];simp only[h3];rfl
theorem zg5 (b:GB r)(w:WF r.er){n0:aj}{v0:Int}{k:Nat}(hk:e.kind=rH)(hn:e.names.getD []=[n0])(hv:e.values.getD []=[v0])(hp:zq r.er n0=E6 k):
  oj (fB 114 r e) (apply (qd .i64) r.er e.er):=by
 rw[ll hk (by decide) (by decide),if_neg (by decide)];obtain⟨u,Y,_,h3⟩:=qA hp;obtain⟨D,v,o⟩:=BT b w Y;rw[wX (fh hn) hp h3,if_neg (by rw[hk];decide),if_neg (by rw[hk];decide),if_neg (by rw[hk];decide),if_pos hk,o.new];have hA:fB 114 r e=qa (f114 e r.day r.az r.ah r.units) fun v=>E6 (v.1,{ r with units:=v.2 }):=rfl;rw[hA];have g1:Wa r.units (k:Int) v=E6 (E6 ((r.units.getD []).set k { u with version:=v })):=pk (jo b.U) Y rfl;generalize hU:({ u with version:=v }:bw)=U' at g1
 have dF:({ r with units:=E6 ((r.units.getD []).set k U') }:aw).er=aH r.er k { u.er with version:=v }:=by rw[yT rfl,<-hU];rfl
 unfold f114;simp only[aw.eta,ie hn,qa,vo (jo b.U),hp,kg,q9 Y,(OA (jo b.P) o.new).1,yn,g1];rw[jD (by simp[SM])]
 cases u.ax with
 |true=>exact⟨_,_,rfl,rfl,by decide⟩
 |false=>
  by_cases h:u.version=v
  .rw[decide_eq_true h,if_pos h];exact⟨_,_,rfl,rfl,by decide⟩
  .rw[decide_eq_false h,if_neg h];exact⟨_,_,rfl,rfl,dF⟩
theorem zf5 (b:GB r)(w:WF r.er){n0:aj}{v0:Int}{k:Nat}(hk:e.kind=lP)(hn:e.names.getD []=[n0])(hv:e.values.getD []=[v0])(hp:zq r.er n0=E6 k):
  oj (fB 118 r e) (apply (qd .i64) r.er e.er):=by
 rw[ll hk (by decide) (by decide),if_neg (by decide)];obtain⟨u,Y,_,h3⟩:=qA hp;obtain⟨D,v,o⟩:=BT b w Y;rw[wX (fh hn) hp h3,if_neg (by rw[hk];decide),if_neg (by rw[hk];decide),if_neg (by rw[hk];decide),if_neg (by rw[hk];decide),if_pos hk];have hA:fB 118 r e=qa (f118 e r.day r.az r.ah r.units) fun v=>E6 (v.1,{ r with units:=v.2 }):=rfl;rw[hA];have g1:Wb r.units (k:Int)=E6 (E6 ((r.units.getD []).set k { u with ax:=H2 })):=pk (jo b.U) Y rfl;have g2:=ju7 (jo b.P) o.new (jo b.L) (jo o.uses) o.az o.doc o.yU (jo o.bd) (jo o.results) (jo o.aS) o.bN;unfold f118;simp only[aw.eta,ie hn,qa,vo (jo b.U),hp,kg,q9 Y,g2,g1];by_cases h:vp (qd .i64) r.er u.er=0
 .rw[decide_eq_true h,if_neg (fun hh=>hh h)];exact⟨_,_,rfl,rfl,yT rfl⟩
 .rw[decide_eq_false h,if_pos h];exact⟨_,_,rfl,rfl,h⟩
theorem ze0 (b:GB r){n0:aj}{v0:Int}{k:Nat}(hk:e.kind=yK)(hn:e.names.getD []=[n0])(hv:e.values.getD []=[v0])(hp:zq r.er n0=E6 k):
  oj (fB 119 r e) (apply (qd .i64) r.er e.er):=by
 rw[ll hk (by decide) (by decide),if_neg (by decide)];obtain⟨u,Y,_,h3⟩:=qA hp;rw[wX (fh hn) hp h3,if_neg (by rw[hk];decide),if_neg (by rw[hk];decide),if_neg (by rw[hk];decide),if_neg (by rw[hk];decide),if_neg (by rw[hk];decide)];have hA:fB 119 r e=qa (f119 e r.day r.az r.ah r.units) fun v=>E6 (v.1,{ r with units:=v.2 }):=rfl;rw[hA];have g1:Wc r.units (k:Int)=E6 (E6 ((r.units.getD []).set k { u with au:=qd .i64 (u.au+1) })):=pk (jo b.U) Y rfl;generalize hU:({ u with au:=qd .i64 (u.au+1) }:bw)=U' at g1
 have dF:({ r with units:=E6 ((r.units.getD []).set k U') }:aw).er=aH r.er k { u.er with au:=qd .i64 (u.au+1) }:=by rw[yT rfl,<-hU];rfl
 unfold f119;simp only[aw.eta,ie hn,qa,vo (jo b.U),hp,kg,q9 Y,g1]
 cases u.ax with
 |true=>exact⟨_,_,rfl,rfl,dF⟩|false=>exact⟨_,_,rfl,rfl,by decide⟩
theorem zjs (b:GB r)(w:WF r.er){n0 n1:aj}{v0 v1:Int}{k:Nat}(hk:e.kind=pW)(hn:e.names.getD []=[n0,n1])(hv:e.values.getD []=[v0,v1])(hp:zq r.er n0=E6 k):
  oj (fB 113 r e) (apply (qd .i64) r.er e.er):=by
 rw[ll hk (by decide) (by decide),if_neg (by decide)];obtain⟨u,Y,_,h3⟩:=qA hp;obtain⟨D,v,o⟩:=BT b w Y;rw[wX (fh hn) hp h3,if_neg (by rw[hk];decide),if_neg (by rw[hk];decide),if_pos hk,mY hn,vq hv,o.yU];have hA:fB 113 r e=qa (f113 e r.day r.az r.ah r.units) fun v=>E6 (v.1,{ r with units:=v.2 }):=rfl;rw[hA]
 have g1:Wd r.units (k:Int) e=E6 (E6 ((r.units.getD []).set k { u with results:=E6 (u.results.getD []++[⟨n1,u.version,v1⟩]) })):=pk (jo b.U) Y (by
  unfold OI;rw[gW hn,gW hv];simp only[qa]
  rw[jsw (nL o.results)])
 generalize hU:({ u with results:=E6 (u.results.getD []++[⟨n1,u.version,v1⟩]) }:bw)=U' at g1
 have dF:({ r with units:=E6 ((r.units.getD []).set k U') }:aw).er=aH r.er k { u.er with results:=u.results.getD []++[⟨n1,u.version,v1⟩] }:=by rw[yT rfl,<-hU];rfl
 unfold f113;simp only[aw.eta,ie hn,qa,vo (jo b.U),hp,kg,q9 Y,o.doc,jll (gW hn) (jo o.aS),yn,g1,Ij];rw[jD (by simp[SM]),show D.er.aS=D.aS.getD []from rfl]
 cases u.ax with
 |true=>exact⟨_,_,rfl,rfl,by decide⟩
 |false=>
  cases (D.aS.getD []).any (eL n1)with
  |false=>exact⟨_,_,rfl,rfl,by decide⟩
  |true=>
   by_cases I:64<=(u.results.getD []).length
   .rw[show decide (64<=((u.results.getD []).length:Int))=H2 from decide_eq_true (by omega),if_pos I];exact⟨_,_,rfl,rfl,by decide⟩
   .rw[show decide (64<=((u.results.getD []).length:Int))=H3 from decide_eq_false (by omega),if_neg I];exact⟨_,_,rfl,rfl,dF⟩
theorem zf3 (b:GB r)(w:WF r.er){n0 n1:aj}{v0 v1:Int}{k j:Nat}(hk:e.kind=nI)(hn:e.names.getD []=[n0,n1])(hv:e.values.getD []=[v0,v1])(hp:zq r.er n0=E6 k)(hq:z7 r.er n1=E6 j):
  oj (fB 112 r e) (apply (qd .i64) r.er e.er):=by
 rw[ll hk (by decide) (by decide),if_neg (by decide)];obtain⟨u,Y,_,h3⟩:=qA hp;obtain⟨x,h4,FT⟩:=JZ hq;obtain⟨D,v,o⟩:=BT b w Y;rw[wX (fh hn) hp h3,if_pos hk];unfold wY;rw[mY hn,hq,vq hv,o.yU];simp only[wW,h4];have hA:fB 112 r e=qa (f112 e r.day r.az r.ah r.units) fun v=>E6 (v.1,{ r with az:=v.2.1,units:=v.2.2 }):=rfl;rw[hA];have g1:Wf r.az (j:Int) v1=E6 (E6 ((r.az.getD []).set j { x with left:=qd .i64 (x.left-v1) })):=pk (jo b.L) h4 rfl;unfold f112;simp only[aw.eta,ie hn,gW hn,gW hv,qa,vo (jo b.U),F6 (jo b.L),hp,hq,kg,q9 Y,q9 h4,o.doc,jot (jo o.bd),yn,g1,ju2 (jo o.uses),Ij];rw[jD (by simp[SM])];have hdn:D.er.bd=D.bd.getD []:=rfl;simp only[hdn]
 have mW:∀(s:bD),oi (qd .i64) (u.uses.getD []) x.name v1=ki (di x.name) s (u.uses.getD [])->∃us,gu r.units (k:Int) (Gi s x)=E6 us/\({ r with az:=E6 ((r.az.getD []).set j { x with left:=qd .i64 (x.left-v1) }),units:=us }:aw).er=aH (cy r.er j { x with left:=qd .i64 (x.left-v1) }) k { u.er with uses:=oi (qd .i64) u.er.uses x.name v1 }:=by
  intro s G;obtain⟨q,wq,q1,q2⟩:=jti (x:=s) (t:=x) (o:=u.uses) (nL o.uses);refine⟨_,pk (y:={ u with uses:=q }) (jo b.U) Y (by unfold Gi;rw[q1];rfl),?_⟩;simp only[aw.er,aH,cy,Hc,Ja]
  congr 2
  simp only[bw.er,q2,G]
 by_cases G:u.ax=H2
 .simp only[if_pos G,if_pos (show u.er.ax=H2 from G)];exact⟨_,_,rfl,rfl,by decide⟩
 simp only[if_neg G,if_neg (show ¬u.er.ax=H2 from G)];by_cases hz:v1=0
 .simp only[if_pos hz,decide_eq_true hz,if_true];exact⟨_,_,rfl,rfl,by decide⟩
 simp only[if_neg hz,decide_eq_false hz,Ha,if_false];by_cases hh:x.held=H2
 .simp only[if_pos hh];exact⟨_,_,rfl,rfl,by decide⟩
 simp only[if_neg hh]
 cases (D.bd.getD []).any (di x.kind)with
 |false=>exact⟨_,_,rfl,rfl,by decide⟩
 |true=>
 simp only[Io,Ha,if_false];by_cases hl:x.left<v1
 .simp only[if_pos hl,decide_eq_true hl,if_true];exact⟨_,_,rfl,rfl,by decide⟩
 simp only[if_neg hl,decide_eq_false hl,Ha,if_false];have J2:∀ {α:Type} (A B:Option α),cond (decide (fW [0,0,0,0,0]=0)) A B=A:=fun A B=>rfl
 cases hi:(u.uses.getD []).findIdx? (di x.name)with
 |none=>
  obtain⟨us,q1,q2⟩:=mW ⟨x.name,v1⟩ (by unfold oi ki;rw[hi]);rw[J2];rw[show decide (0<=ek Iw)=H3 from rfl];simp only[cond_false,q1];exact⟨_,_,rfl,rfl,q2⟩
 |some i=>
  obtain⟨y,hy,_⟩:=bV hi;obtain⟨us,q1,q2⟩:=mW ⟨x.name,qd .i64 (v1+y.n)⟩ (by unfold oi ki;rw[hi];simp only[hy]);rw[J2];rw[show decide (0<=ek (E6 i))=H2 from wU (E6 i)];simp only[cond_true,kg,q9 hy,q1];exact⟨_,_,rfl,rfl,q2⟩
end Go.Z
set_option maxHeartbeats 4000000
namespace Go.Z
open Go Go.Abs Go.W
variable {r:aw}{e:GEv}
theorem j8v {a b c d}:f35 (E6 [a,b,c,d])=E6 (fW [a,b,c,d]):=jD (by simp[SM])
theorem zja (b:GB r){n0 n1 v0 k j}(hk:e.kind=og)(hn:e.names.getD []=[n0,n1])(hv:e.values.getD []=[v0])(hp:zq r.er n0=E6 k)(hq:zq r.er n1=E6 j):
  oj (fB 115 r e) (apply (qd .i64) r.er e.er):=by
 rw[ll hk (by decide) (by decide),if_neg (by decide)];obtain⟨u,Y,_,h3⟩:=qA hp;obtain⟨v,h4,_,h5⟩:=qA hq;rw[wX (fh hn) hp h3,if_neg (by rw[hk];decide),if_pos hk];unfold wZ;rw[mY hn,hq];simp only[h5];have hA:fB 115 r e=qa (f115 e r.day r.az r.ah r.units) fun v=>E6 (v.1,{ r with units:=v.2 }):=rfl;rw[hA];have g1:vt r.units (k:Int) v=E6 (E6 ((r.units.getD []).set k { u with partner:=v.name })):=pk (jo b.U) Y rfl
 have g2:k≠j->∀bb,vu (E6 ((r.units.getD []).set k { u with partner:=v.name })) (j:Int) ⟨u.name,u.product,u.version,u.uses,u.results,u.partner,bb,u.au⟩=E6 (E6 (((r.units.getD []).set k { u with partner:=v.name }).set j { v with partner:=u.name })):=by
  intro hkj bb;exact pk (x:=v) (by rw[Hc,List.length_set];exact jo b.U) (by rw[Hc,List.getElem?_set_ne hkj];exact h4) rfl
 have dF:({ r with units:=E6 (((r.units.getD []).set k { u with partner:=v.name }).set j { v with partner:=u.name }) }:aw).er=aH (aH r.er k { u.er with partner:=v.er.name }) j { v.er with partner:=u.er.name }:=by
  simp only[aw.er,aH,Hc,Ja];rfl
 generalize hz:aH (aH r.er k { u.er with partner:=v.er.name }) j { v.er with partner:=u.er.name }=Z at dF ⊢;generalize hX:E6 (E6 (((r.units.getD []).set k { u with partner:=v.name }).set j { v with partner:=u.name }))=X at g2;generalize hY:E6 ((r.units.getD []).set k { u with partner:=v.name })=aad at g1 g2;unfold f115;simp only[aw.eta,ie hn,gW hn,qa,vo (jo b.U),hp,hq,kg,q9 Y,q9 h4,yn,j8v,g1]
 have e1:decide ((k:Int)=(j:Int))=decide (k=j):=by
  by_cases h:k=j
  .rw[decide_eq_true h];exact decide_eq_true (by omega)
  .rw[decide_eq_false h];exact decide_eq_false (by omega)
 have e2:u.er.product=u.product:=rfl;have e3:v.er.product=v.product:=rfl;have e4:u.er.version=u.version:=rfl;have e5:v.er.version=v.version:=rfl;have e6:u.er.ax=u.ax:=rfl;have e7:v.er.ax=v.ax:=rfl;have e8:u.er.partner=u.partner:=rfl;have e9:v.er.partner=v.partner:=rfl;simp only[e1,e2,e3,e4,e5,e6,e7,e8,e9]
 by_cases c1:k=j<;>by_cases c2:u.product=v.product<;>by_cases du:u.version=v.version<;>cases fi:u.ax<;>cases dv:v.ax<;>by_cases ei:u.partner=[]<;>by_cases ol:v.partner=[] <;>
  simp only[c1,c2,du,ei,ol,decide_true,decide_false,cond_true,cond_false,Io,Jv,if_true,if_false,Ha,ne_eq,not_true_eq_false,not_false_eq_true,or_true,true_or,or_false,false_or,or_self] <;>
  first
  |exact⟨_,_,rfl,rfl,by decide⟩
  |(have g3:=g2 c1 H3
    simp only[c2,du,ei]at g3;rw[g3,<-hX]
    exact⟨_,_,rfl,rfl,dF⟩)
end Go.Z
namespace Go.Z
open Go Go.Abs Go.W
variable {r:aw}{e:GEv}
def oo (r:yc)(c:Int)(n:aj):Bool:=if c=108 then(z7 r n).isSome else if c=112 then(z4 r n).isSome else if c=117 then(zq r n).isSome else H2
theorem BU (b:GB r){c n}:f104 r c n=E6 (oo r.er c n):=by
 unfold f104 oo;by_cases Y:c=108
 .simp only[Y,decide_true,cond_true,if_true,F6 (jo b.L),qa,wV]
 .by_cases I:c=112
  .simp only[Y,I,decide_true,decide_false,cond_true,cond_false,if_true,if_false,tq (jo b.P),qa,wV];rfl
  .by_cases h3:c=117
   .simp only[Y,I,h3,decide_true,decide_false,cond_true,cond_false,if_true,if_false,vo (jo b.U),qa,wV];rfl
   .simp only[Y,I,h3,decide_false,cond_false,if_false]
def kh (r:yc)(c:UInt8)(n:aj):Bool:=decide ((c.toNat:Int)=45)||oo r (c.toNat:Int) n
theorem BV (b:GB r){a n0 t}(Q:zb e.kind=[a])(hd:qj [a] 0=(a.toNat,1))(hn:e.names.getD []=n0::t):
  ∃d,bq (Gj r e) Iw=E6 (if kh r.er a n0 then .inr d else .inl d):=by
 have z:BW r e=E6 (if kh r.er a n0 then .inl (E6 1)else .inr (.inl 1)):=by
  unfold BW kh;simp only[Q,hd,qa,ie hn,BU b];simp only[Iq,Nat.lt_irrefl,show decide (0<1)=H2 from rfl,cond_true];cases decide ((a.toNat:Int)=45)<;>cases oo r.er (a.toNat:Int) n0<;>rfl
 cases hk:kh r.er a n0 with
 |true=>
  rw[hk]at z;refine⟨1,?_⟩;rw[km (s':=E6 1) z];refine zj (d:=(Sum.inr 1:Nat⊕Nat)) ?_;show xa r e 1=_;unfold xa;simp only[Q,Iq];rfl
 |false=>
  rw[hk]at z;exact⟨1,zj z⟩
theorem BX (b:GB r){a c n0 n1 t}(Q:zb e.kind=[a,c])(hd:qj [a,c] 0=(a.toNat,1))(hd1:qj [a,c] 1=(c.toNat,1))(hn:e.names.getD []=n0::n1::t):
  ∃d,bq (Gj r e) Iw=E6 (if kh r.er a n0&&kh r.er c n1 then .inr d else .inl d):=by
 have z:BW r e=E6 (if kh r.er a n0 then .inl (E6 1)else .inr (.inl 1)):=by
  unfold BW kh;simp only[Q,hd,qa,ie hn,BU b];simp only[Il,Jd,show decide (0<0+1+1)=H2 from rfl,cond_true];cases decide ((a.toNat:Int)=45)<;>cases oo r.er (a.toNat:Int) n0<;>rfl
 have y:xa r e 1=E6 (if kh r.er c n1 then .inl (E6 2)else .inr (.inl 2)):=by
  unfold xa kh;simp only[Q,hd1,qa,show((1:Nat):Int)=1 from rfl,gW hn,BU b];simp only[Il,Jd,show decide (1<0+1+1)=H2 from rfl,cond_true];cases decide ((c.toNat:Int)=45)<;>cases oo r.er (c.toNat:Int) n1<;>rfl
 cases hk:kh r.er a n0 with
 |false=>
  rw[hk]at z;exact⟨1,zj z⟩
 |true=>
  rw[hk]at z
  cases dw:kh r.er c n1 with
  |false=>
   rw[dw]at y;refine⟨2,?_⟩;rw[km (s':=E6 1) z];exact zj (d:=(I5 2:Nat⊕Nat)) y
  |true=>
   rw[dw]at y;refine⟨2,?_⟩;rw[km (s':=E6 1) z,km (s':=E6 2) y];refine zj (d:=(Sum.inr 2:Nat⊕Nat)) ?_;show xa r e 2=_;unfold xa;simp only[Q,Il,Jd];rfl
def gX (x:Option (aw×Int))(y:rK):Prop:=∃r' c,x=E6 (r',c)/\match y with
 | .error k=>c=k/\k≠0| .ok s=>c=0/\r'.er=s
theorem pv {v0 t K}(hv:e.values.getD []=v0::t)(hl:∃d,bq (Gj r e) Iw=E6 (if K then .inr d else .inl d))(hK:K=H3->apply (qd .i64) r.er e.er=.error 10)(hA:K=H2->oj (fB (J3 e.kind) r e) (apply (qd .i64) r.er e.er)):
  gX (f129 r e) (after (qd .i64) r.er e.er):=by
 unfold f129 after;rw[ie hv,vl0 hv];simp only[qa];by_cases h:v0<r.day
 .rw[decide_eq_true h,if_pos (show v0<r.er.day from h)];exact⟨_,_,rfl,rfl,by decide⟩
 .rw[decide_eq_false h,if_neg (show ¬v0<r.er.day from h)];obtain⟨d,hd⟩:=hl;rw[hd]
  cases K with
  |false=>
   rw[hK rfl];exact⟨_,_,rfl,rfl,by decide⟩
  |true=>
   obtain⟨c,r',Y,I⟩:=hA rfl;simp only[if_true,cond_false];rw[Y];simp only[]
   cases ha:apply (qd .i64) r.er e.er with
   |error k=>
    rw[ha]at I;obtain⟨rfl,h3⟩:=I;rw[decide_eq_false h3];exact⟨_,_,rfl,rfl,h3⟩
   |ok s=>
    rw[ha]at I;obtain⟨rfl,rfl⟩:=I;exact⟨_,_,rfl,rfl,rfl⟩
theorem pw {α:Type}{o:Option α}(h:o.isSome=H2):∃x,o=E6 x:=Ip.1 h
theorem rL {α:Type}{o:Option α}(h:o.isSome=H3):o=Iw:=by cases o<;>simp at h ⊢
theorem kx {k a c}(hk:e.kind=k)(hf:ye k=E6 (a,c))(hc:qz e.er=0):(e.names.getD []).length=a/\(e.values.getD []).length=c:=by
 obtain⟨_,f,Y,I,h3⟩:=Wg hc;rw[show e.er.kind=k from hk,hf]at Y;cases Y;exact⟨I,h3⟩
theorem jR {α:Type}{l:List α}(h:l.length=1):∃a,l=[a]:=List.length_eq_one_iff.1 h
theorem gY {α:Type}{l:List α}(h:l.length=2):∃a b,l=[a,b]:=by
 match l,h with
 | [a,b],_=>exact⟨a,b,rfl⟩
theorem j3i {α:Type}{l:List α}(h:l.length=3):∃a b c,l=[a,b,c]:=by
 match l,h with
 | [a,b,c],_=>exact⟨a,b,c,rfl⟩
theorem px {r n}:kh r 45 n=H2:=rfl
theorem rl {r n}:kh r 108 n=(z7 r n).isSome:=rfl
theorem rp {r n}:kh r 112 n=(z4 r n).isSome:=rfl
theorem ru {r n}:kh r 117 n=(zq r n).isSome:=rfl
theorem j07 (b:GB r)(hk:e.kind=nG)(hc:qz e.er=0):gX (f129 r e) (after (qd .i64) r.er e.er):=by
 obtain⟨Y,I⟩:=kx hk (show ye nG=E6 (2,2)from rfl) hc;obtain⟨n0,n1,hn⟩:=gY Y;obtain⟨v0,v1,hv⟩:=gY I;refine pv (K:=true) hv (by have:=BX (a:=45) (c:=45) b (by rw[hk];rfl) rfl rfl hn;simpa[px]using this) (fun h=>by cases h) (fun _=>?_);rw[hk];exact zix b hk hn hv
theorem jer (b:GB r)(hk:e.kind=oe)(hc:qz e.er=0):gX (f129 r e) (after (qd .i64) r.er e.er):=by
 obtain⟨Y,I⟩:=kx hk (show ye oe=E6 (1,1)from rfl) hc;obtain⟨n0,hn⟩:=jR Y;obtain⟨v0,hv⟩:=jR I;refine pv (K:=true) hv (by have:=BV (a:=45) b (by rw[hk];rfl) rfl hn;simpa[px]using this) (fun h=>by cases h) (fun _=>?_);rw[hk];exact zcx b hk hn hv
theorem jtj (b:GB r)(hk:e.kind=nH)(hc:qz e.er=0):gX (f129 r e) (after (qd .i64) r.er e.er):=by
 obtain⟨Y,I⟩:=kx hk (show ye nH=E6 (2,2)from rfl) hc;obtain⟨n0,n1,hn⟩:=gY Y;obtain⟨v0,v1,hv⟩:=gY I;refine pv (K:=(z4 r.er n0).isSome) hv (by have:=BX (a:=112) (c:=45) b (by rw[hk];rfl) rfl rfl hn;rw[show(kh r.er 112 n0&&kh r.er 45 n1)=((z4 r.er n0).isSome)from by simp only[px,rl,rp,ru,H8,H9]]at this;exact this) (fun h=>?_) (fun h=>?_)
 .have h:=rL h;unfold apply po;rw[show e.er.kind=nH from hk,if_neg (by decide),if_pos (by decide),fh hn,h]
 .obtain⟨k,hp⟩:=pw h;rw[hk];exact zge b hk hn hv hp
theorem js8 (b:GB r)(hk:e.kind=lO)(hc:qz e.er=0):gX (f129 r e) (after (qd .i64) r.er e.er):=by
 obtain⟨Y,I⟩:=kx hk (show ye lO=E6 (2,3)from rfl) hc;obtain⟨n0,n1,hn⟩:=gY Y;obtain⟨v0,v1,v2,hv⟩:=j3i I;refine pv (K:=(z4 r.er n0).isSome) hv (by have:=BX (a:=112) (c:=45) b (by rw[hk];rfl) rfl rfl hn;rw[show(kh r.er 112 n0&&kh r.er 45 n1)=((z4 r.er n0).isSome)from by simp only[px,rl,rp,ru,H8,H9]]at this;exact this) (fun h=>?_) (fun h=>?_)
 .have h:=rL h;unfold apply po;rw[show e.er.kind=lO from hk,if_neg (by decide),if_pos (by decide),fh hn,h]
 .obtain⟨k,hp⟩:=pw h;rw[hk];exact zec b hk hn hv hp
theorem jkr (b:GB r)(hk:e.kind=rG)(hc:qz e.er=0):gX (f129 r e) (after (qd .i64) r.er e.er):=by
 obtain⟨Y,I⟩:=kx hk (show ye rG=E6 (1,1)from rfl) hc;obtain⟨n0,hn⟩:=jR Y;obtain⟨v0,hv⟩:=jR I;refine pv (K:=(z4 r.er n0).isSome) hv (by have:=BV (a:=112)  b (by rw[hk];rfl) rfl hn;rw[show(kh r.er 112 n0)=((z4 r.er n0).isSome)from by simp only[px,rl,rp,ru,H8,H9]]at this;exact this) (fun h=>?_) (fun h=>?_)
 .have h:=rL h;unfold apply po;rw[show e.er.kind=rG from hk,if_neg (by decide),if_pos (by decide),fh hn,h]
 .obtain⟨k,hp⟩:=pw h;rw[hk];exact zhs b hk hn hv hp
theorem jmp (b:GB r)(hk:e.kind=pV)(hc:qz e.er=0):gX (f129 r e) (after (qd .i64) r.er e.er):=by
 obtain⟨Y,I⟩:=kx hk (show ye pV=E6 (2,1)from rfl) hc;obtain⟨n0,n1,hn⟩:=gY Y;obtain⟨v0,hv⟩:=jR I;refine pv (K:=(z4 r.er n1).isSome) hv (by have:=BX (a:=45) (c:=112) b (by rw[hk];rfl) rfl rfl hn;rw[show(kh r.er 45 n0&&kh r.er 112 n1)=((z4 r.er n1).isSome)from by simp only[px,rl,rp,ru,H8,H9]]at this;exact this) (fun h=>?_) (fun h=>?_)
 .have h:=rL h;unfold apply pn;rw[show e.er.kind=pV from hk,if_pos (by decide),if_neg (by decide),if_neg (by decide),mY hn];unfold iC;rw[h];rfl
 .obtain⟨k,hp⟩:=pw h;rw[hk];exact zdb b hk hn hv hp
theorem jxh (b:GB r)(w:WF r.er)(hk:e.kind=nI)(hc:qz e.er=0):gX (f129 r e) (after (qd .i64) r.er e.er):=by
 obtain⟨Y,I⟩:=kx hk (show ye nI=E6 (2,2)from rfl) hc;obtain⟨n0,n1,hn⟩:=gY Y;obtain⟨v0,v1,hv⟩:=gY I;refine pv (K:=(zq r.er n0).isSome&&(z7 r.er n1).isSome) hv (by have:=BX (a:=117) (c:=108) b (by rw[hk];rfl) rfl rfl hn;rw[show(kh r.er 117 n0&&kh r.er 108 n1)=((zq r.er n0).isSome&&(z7 r.er n1).isSome)from by simp only[px,rl,rp,ru,H8,H9]]at this;exact this) (fun h=>?_) (fun h=>?_)
 .cases Y:zq r.er n0 with
  |none=>
   rw[ll hk (by decide) (by decide),if_neg (by decide)];unfold pq;rw[fh hn,Y]
  |some k=>
   rw[Y]at h;have h:=rL (show(z7 r.er n1).isSome=H3 from h);obtain⟨u,g1,_,g3⟩:=qA Y;rw[ll hk (by decide) (by decide),if_neg (by decide),wX (fh hn) Y g3,if_pos hk];unfold wY;rw[mY hn,h]
 .rw[Nh]at h;obtain⟨k,hp⟩:=pw h.1;obtain⟨j,hq⟩:=pw h.2;rw[hk];exact zf3 b w hk hn hv hp hq
theorem jew (b:GB r)(w:WF r.er)(hk:e.kind=pW)(hc:qz e.er=0):gX (f129 r e) (after (qd .i64) r.er e.er):=by
 obtain⟨Y,I⟩:=kx hk (show ye pW=E6 (2,2)from rfl) hc;obtain⟨n0,n1,hn⟩:=gY Y;obtain⟨v0,v1,hv⟩:=gY I;refine pv (K:=(zq r.er n0).isSome) hv (by have:=BX (a:=117) (c:=45) b (by rw[hk];rfl) rfl rfl hn;rw[show(kh r.er 117 n0&&kh r.er 45 n1)=((zq r.er n0).isSome)from by simp only[px,rl,rp,ru,H8,H9]]at this;exact this) (fun h=>?_) (fun h=>?_)
 .have h:=rL h;rw[ll hk (by decide) (by decide),if_neg (by decide)];unfold pq;rw[fh hn,h]
 .obtain⟨k,hp⟩:=pw h;rw[hk];exact zjs b w hk hn hv hp
theorem jiw (b:GB r)(w:WF r.er)(hk:e.kind=rH)(hc:qz e.er=0):gX (f129 r e) (after (qd .i64) r.er e.er):=by
 obtain⟨Y,I⟩:=kx hk (show ye rH=E6 (1,1)from rfl) hc;obtain⟨n0,hn⟩:=jR Y;obtain⟨v0,hv⟩:=jR I;refine pv (K:=(zq r.er n0).isSome) hv (by have:=BV (a:=117)  b (by rw[hk];rfl) rfl hn;rw[show(kh r.er 117 n0)=((zq r.er n0).isSome)from by simp only[px,rl,rp,ru,H8,H9]]at this;exact this) (fun h=>?_) (fun h=>?_)
 .have h:=rL h;rw[ll hk (by decide) (by decide),if_neg (by decide)];unfold pq;rw[fh hn,h]
 .obtain⟨k,hp⟩:=pw h;rw[hk];exact zg5 b w hk hn hv hp
theorem jsd (b:GB r)(hk:e.kind=og)(hc:qz e.er=0):gX (f129 r e) (after (qd .i64) r.er e.er):=by
 obtain⟨Y,I⟩:=kx hk (show ye og=E6 (2,1)from rfl) hc;obtain⟨n0,n1,hn⟩:=gY Y;obtain⟨v0,hv⟩:=jR I;refine pv (K:=(zq r.er n0).isSome&&(zq r.er n1).isSome) hv (by have:=BX (a:=117) (c:=117) b (by rw[hk];rfl) rfl rfl hn;rw[show(kh r.er 117 n0&&kh r.er 117 n1)=((zq r.er n0).isSome&&(zq r.er n1).isSome)from by simp only[px,rl,rp,ru,H8,H9]]at this;exact this) (fun h=>?_) (fun h=>?_)
 .cases Y:zq r.er n0 with
  |none=>
   rw[ll hk (by decide) (by decide),if_neg (by decide)];unfold pq;rw[fh hn,Y]
  |some k=>
   rw[Y]at h;have h:=rL (show(zq r.er n1).isSome=H3 from h);obtain⟨u,g1,_,g3⟩:=qA Y;rw[ll hk (by decide) (by decide),if_neg (by decide),wX (fh hn) Y g3,if_neg (by rw[hk];decide),if_pos hk];unfold wZ;rw[mY hn,h]
 .rw[Nh]at h;obtain⟨k,hp⟩:=pw h.1;obtain⟨j,hq⟩:=pw h.2;rw[hk];exact zja b hk hn hv hp hq
theorem jrx (b:GB r)(hk:e.kind=pi)(hc:qz e.er=0):gX (f129 r e) (after (qd .i64) r.er e.er):=by
 obtain⟨Y,I⟩:=kx hk (show ye pi=E6 (1,1)from rfl) hc;obtain⟨n0,hn⟩:=jR Y;obtain⟨v0,hv⟩:=jR I;refine pv (K:=(z7 r.er n0).isSome) hv (by have:=BV (a:=108)  b (by rw[hk];rfl) rfl hn;rw[show(kh r.er 108 n0)=((z7 r.er n0).isSome)from by simp only[px,rl,rp,ru,H8,H9]]at this;exact this) (fun h=>?_) (fun h=>?_)
 .have h:=rL h;rw[ll hk (by decide) (by decide),if_pos (by decide)];unfold vr;rw[fh hn,h]
 .obtain⟨k,hp⟩:=pw h;rw[hk];exact zhj b hk hn hv hp
theorem jsa (b:GB r)(hk:e.kind=tm)(hc:qz e.er=0):gX (f129 r e) (after (qd .i64) r.er e.er):=by
 obtain⟨Y,I⟩:=kx hk (show ye tm=E6 (1,1)from rfl) hc;obtain⟨n0,hn⟩:=jR Y;obtain⟨v0,hv⟩:=jR I;refine pv (K:=(z7 r.er n0).isSome) hv (by have:=BV (a:=108)  b (by rw[hk];rfl) rfl hn;rw[show(kh r.er 108 n0)=((z7 r.er n0).isSome)from by simp only[px,rl,rp,ru,H8,H9]]at this;exact this) (fun h=>?_) (fun h=>?_)
 .have h:=rL h;rw[ll hk (by decide) (by decide),if_pos (by decide)];unfold vr;rw[fh hn,h]
 .obtain⟨k,hp⟩:=pw h;rw[hk];exact zf7 b hk hn hv hp
theorem ju9 (b:GB r)(w:WF r.er)(hk:e.kind=lP)(hc:qz e.er=0):gX (f129 r e) (after (qd .i64) r.er e.er):=by
 obtain⟨Y,I⟩:=kx hk (show ye lP=E6 (1,1)from rfl) hc;obtain⟨n0,hn⟩:=jR Y;obtain⟨v0,hv⟩:=jR I;refine pv (K:=(zq r.er n0).isSome) hv (by have:=BV (a:=117)  b (by rw[hk];rfl) rfl hn;rw[show(kh r.er 117 n0)=((zq r.er n0).isSome)from by simp only[px,rl,rp,ru,H8,H9]]at this;exact this) (fun h=>?_) (fun h=>?_)
 .have h:=rL h;rw[ll hk (by decide) (by decide),if_neg (by decide)];unfold pq;rw[fh hn,h]
 .obtain⟨k,hp⟩:=pw h;rw[hk];exact zf5 b w hk hn hv hp
theorem ja7 (b:GB r)(hk:e.kind=yK)(hc:qz e.er=0):gX (f129 r e) (after (qd .i64) r.er e.er):=by
 obtain⟨Y,I⟩:=kx hk (show ye yK=E6 (1,1)from rfl) hc;obtain⟨n0,hn⟩:=jR Y;obtain⟨v0,hv⟩:=jR I;refine pv (K:=(zq r.er n0).isSome) hv (by have:=BV (a:=117)  b (by rw[hk];rfl) rfl hn;rw[show(kh r.er 117 n0)=((zq r.er n0).isSome)from by simp only[px,rl,rp,ru,H8,H9]]at this;exact this) (fun h=>?_) (fun h=>?_)
 .have h:=rL h;rw[ll hk (by decide) (by decide),if_neg (by decide)];unfold pq;rw[fh hn,h]
 .obtain⟨k,hp⟩:=pw h;rw[hk];exact ze0 b hk hn hv hp
theorem jb1 (b:GB r)(w:WF r.er)(hc:qz e.er=0)(hu:e.kind≠oh):gX (f129 r e) (after (qd .i64) r.er e.er):=by
 obtain⟨_,f,Y,_,_⟩:=Wg hc
 have hm:e.kind∈cA.map (·.1):=by
  unfold ye at Y
  cases hf:cA.find? (fun x=>decide (x.1=e.er.kind))with
  |none=>rw[hf]at Y;cases Y
  |some x=>
   have I:=List.find?_some hf;have h3:=List.mem_of_find?_eq_some hf;rw[show e.kind=x.1 from(of_decide_eq_true I).symm];exact I1 h3
 simp only[cA,Ib,I9,List.mem_cons,List.mem_singleton,List.not_mem_nil,or_false]at hm;rcases hm with h|h|h|h|h|h|h|h|h|h|h|h|h|h|h
 .exact j07 b h hc
 .exact jer b h hc
 .exact jtj b h hc
 .exact js8 b h hc
 .exact jkr b h hc
 .exact jmp b h hc
 .exact jxh b w h hc
 .exact jew b w h hc
 .exact jiw b w h hc
 .exact jsd b h hc
 .exact jrx b h hc
 .exact jsa b h hc
 .exact ju9 b w h hc
 .exact ja7 b h hc
 .exact absurd h hu
end Go.Z
end
