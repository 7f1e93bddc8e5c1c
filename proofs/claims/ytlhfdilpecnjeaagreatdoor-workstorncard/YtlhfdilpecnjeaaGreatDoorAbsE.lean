/- Each operation by itself, third part. -/
import Derived.Test.YtlhfdilpecnjeaaGreatDoorAbsC
import Derived.RangeFuncLeaves
import Derived.OrdersIn
set_option linter.unusedVariables false
set_option linter.unusedSimpArgs false
open Option renaming some->En,map_eq_some_iff->Ia,none->Ik,getD_some->Jz,isSome_none->J2,isNone_some->Zn,bind_some->Eaa,getD_none->Eab,map->Eam
open Bool renaming and_eq_true->E6,true->H3,false->Ig,false_eq_true->Ij,cond_eq_ite->Jl,or_eq_true->Le,false_or->Lm,not_true->V9,xor->Eal
open Nat renaming eq_of_beq_eq_true->Hc,le_of_ble_eq_true->H9,beq->If,blt->Il,blt_eq->I5,ble->I7,le_trans->Jd,lt_of_lt_of_le->Ld,zero_add->Nh,beq_refl->Zw
open List renaming getElem?_set_ne->H2,getElem?_eq_some_iff->Ic,all_eq_true->I6,set_comm->Ja,length_set->Jb,getElem?_set_self->Jc,getElem?_eq_getElem->Jv,mem_of_getElem?->Jw,mem_zipIdx_iff_getElem?->Jx,getElem?_map->Lf,length_take->Lg,mem_append->Ng,getElem?_set->Ni,mem_cons->Qc,ext_getElem?->Qf,isEmpty_iff->R2,length_eq_zero_iff->St,length_map->S0,mem_append_right->S8,getElem?_eq_none->Tl,mem_append_left->Tn,pairwise_append->Tv,zip_cons_cons->Y9,pairwise_cons->Zo,flatMap_cons->Z2,length_drop->Z4,cons_append->Z9,foldl_cons->Ead,replicate->Eae,mem_range->Eaf,all_cons->Eag,map_cons->Eah,mem_map->Eai,map_nil->Eaj,Sublist->Eak
open Array renaming getElem?_eq_some_iff->Ib,getD_eq_getD_getElem?->Io,getElem?_eq_getElem->Jy,getElem?_setIfInBounds_ne->Ll,getElem?_replicate->Qm,ext'->Tz,replicate->Eac
open Ne renaming symm->I9
open Prod renaming mk->Nk
namespace Go.Abs
section
variable {P:Program}{p:j8}{xc:XC}{C C0:aQ}{ω:Nat->Option Loc}{w w0:World}{hp:qf}{env:Env}{a:Act}{o:Oper}{d:Loc}{h:jx}{md:eN}{r h0:Nat}{dst:Option Nat}{al:ak Nat}{cM:cG}{res:bu}
theorem jji (m:aA P C ω w0 C0 hp w)(e:ar C ω w w0.heap.size env a.tmps){t:TypeId}{ps}(ho:o.op=.build t ps)(hc:cS P h md r dst (.build t ps)=En cM)(G:qe p xc h0 al env hp cM=En res):yr P C C0 w0 a d env o w res:=by
 simp only[cS]at hc;split at hc
 .rename_i fs z ht hz;split at hc
  .rename_i hall;obtain⟨fU,nv,rfl⟩:=Ia.1 hc;simp only[qe,ql]at G;split at G
   .rename_i qs hq;split at G
    .rename_i cs hf;obtain rfl:=qx G;exact jl m e (qzl e.cw ho ht hz (fun f hf=>I6.1 hall f hf) nv hq hf)
    .cases G
   .cases G
  .cases hc
 .rename_i len el z ht hz;split at hc
  .rename_i n hn;obtain⟨fU,nv,rfl⟩:=Ia.1 hc;simp only[qe,ql]at G;split at G
   .rename_i qs hq;split at G
    .rename_i cs hf;obtain rfl:=qx G;exact jl m e (q2d e.cw ho ht hz hn nv hq hf)
    .cases G
   .cases G
  .cases hc
 .cases hc
theorem q2l (m:aA P C ω w0 C0 hp w)(e:ar C ω w w0.heap.size env a.tmps){t:TypeId}{n ps}(ho:o.op=.buildSlice t n ps)(hc:cS P h md r dst (.buildSlice t n ps)=En cM)(G:qe p xc h0 al env hp cM=En res):yr P C C0 w0 a d env o w res:=by
 simp only[cS]at hc;split at hc
 .rename_i el ht;split at hc
  .rename_i sz z ag es hn hz dh nv;split at hc
   .rename_i hb;cases hc;simp only[E6,decide_eq_true_eq,beq_iff_eq]at hb;generalize (dst.map (h.vec.contains ·)).getD Ig=bb at G
    cases bb with
    |true=>
     simp only[if_true,qe,qn]at G;split at G
     .rename_i qs hq;split at G
      .rename_i xs M
       cases A8:qo 0 xs with
       |false=>rw[A8]at G;cases G
       |true=>
        rw[A8]at G;simp only[cond_true]at G;split at G
        .rename_i h' dx;obtain rfl:=qx G;exact .inl (jqa m e ho ht hn hz hb.1.1.1.1 hb.1.1.1.2 hb.1.1.2 nv hq M A8 dx)
        .cases G
      .cases G
     .cases G
    |false=>
    simp only[Ij,if_false,qe,ql]at G;split at G
    .rename_i qs hq;split at G
     .rename_i xs M;cases G;exact .inl (q3e m e ho ht hn hz hb.1.1.1.1 hb.1.1.1.2 hb.1.1.2 nv hq M)
     .cases G
    .cases G
   .cases hc
  .cases hc
 .cases hc
theorem q4x (m:aA P C ω w0 C0 hp w)(e:ar C ω w w0.heap.size env a.tmps){t:TypeId}{x y}(ho:o.op=.makeSlice t x y)(hc:cS P h md r dst (.makeSlice t x y)=En cM)(G:qe p xc h0 al env hp cM=En res):yr P C C0 w0 a d env o w res:=by
 simp only[cS]at hc;split at hc
 .rename_i el ht;split at hc
  .rename_i sz b z ag x' y' hn hb hz dh Y I;split at hc
   .cases hc;generalize hR:(if(Eam (fun x=>h.gf.contains x) dst).getD Ig=H3 then En r else Ik)=R at G
    cases R with
    |some rr=>
     simp only[qe,qn]at G;split at G
     .rename_i n c e1 e2
      cases hk:(If n c&&I7 n 1073741824&&I7 b 4096&&If z.length sz&&Il 0 sz&&z.all qk)with
      |false=>simp[hk]at G
      |true=>
       simp only[hk,cond_true]at G;split at G
       .rename_i h' dx;obtain rfl:=qx G;simp only[E6]at hk;obtain⟨⟨⟨⟨⟨k1,k2⟩,k3⟩,k4⟩,k5⟩,k6⟩:=hk;obtain rfl:=Hc k1;exact .inl (q3j m e ho ht hn hb hz (I5.mp k5) (Hc k4) Y I e1 e2 (H9 k2) (H9 k3) dx)
       .cases G
     .cases G
    |none=>
     simp only[qe,ql]at G;split at G
     .rename_i n c e1 e2
      cases hk:(If n c&&I7 n 1073741824&&I7 b 4096&&If z.length sz&&Il 0 sz&&z.all qk)with
      |false=>simp[hk]at G
      |true=>
       simp only[hk,cond_true]at G;cases G;simp only[E6]at hk;obtain⟨⟨⟨⟨⟨k1,k2⟩,k3⟩,k4⟩,k5⟩,k6⟩:=hk;obtain rfl:=Hc k1;exact .inl (jae m e ho ht hn hb hz (I5.mp k5) (Hc k4) Y I e1 e2 (H9 k2) (H9 k3))
     .cases G
   .cases hc
  .cases hc
 .cases hc
theorem jia (m:aA P C ω w0 C0 hp w)(e:ar C ω w w0.heap.size env a.tmps){t:TypeId}{x lo hi mx}(ho:o.op=.slice t x lo hi mx)(hc:cS P h md r dst (.slice t x lo hi mx)=En cM)(G:qe p xc h0 al env hp cM=En res):yr P C C0 w0 a d env o w res:=by
 cases mx with
 |some _=>simp[cS]at hc
 |none=>
  simp only[cS]at hc;split at hc
  .rename_i x' mJ gg Y I h3;split at hc
   .rename_i ht;cases hc;simp only[qe,ql]at G;split at G
    .rename_i s hv;split at G
     .rename_i j hj;split at G
      .rename_i i gg;obtain rfl:=qx G;exact jl m e (q6p e.cw ho ht Y I h3 hv hj gg)
      .cases G
     .cases G
    .cases G
   .rename_i el ht;obtain⟨sz,hn,rfl⟩:=Ia.1 hc;simp only[qe,ql]at G;split at G
    .rename_i n df xs hv
     cases hk:(If sz df||xs.isEmpty)with
     |false=>simp[hk]at G
     |true=>
      simp only[hk,cond_true]at G;split at G
      .rename_i j hj;split at G
       .rename_i i gg;obtain rfl:=qx G;refine jl m e (q3y e.cw ho ht hn Y I h3 hv (.inr ⟨n,df,xs,rfl,?_,hj,gg,rfl⟩));rcases Le _ _▸hk with hk|hk
        .exact .inl (Hc hk)
        .exact .inr (R2.1 hk)
       .cases G
      .cases G
    .rename_i b q len hv;split at G
     .rename_i j hj;split at G
      .rename_i i gg
       cases hk:(If i 0||Il i j)with
       |false=>simp[hk]at G
       |true=>
        simp only[hk,cond_true]at G;obtain rfl:=qx G;refine jl m e (q3y e.cw ho ht hn Y I h3 hv (.inl ⟨b,q,len,rfl,hj,gg,?_,rfl⟩));rcases Le _ _▸hk with hk|hk
        .exact .inl (Hc hk)
        .exact .inr (I5.mp hk)
      .cases G
     .cases G
    .rename_i b bN len hv;split at G
     .rename_i j hj;split at G
      .rename_i i gg
       cases hk:If i 0 with
       |false=>simp[hk]at G
       |true=>
        simp only[hk,cond_true]at G;obtain rfl:=qx G;obtain rfl:=Hc hk;exact jl m e (jez e.cw ho ht hn Y I h3 hv hj gg)
      .cases G
     .cases G
    .cases G
   .rename_i n el ht;obtain⟨sz,hn,rfl⟩:=Ia.1 hc;simp only[qe,ql]at G;split at G
    .rename_i b q hv;split at G
     .rename_i j hj;split at G
      .rename_i i gg
       cases hk:(If i 0||Il i j)with
       |false=>simp[hk]at G
       |true=>
        simp only[hk,cond_true]at G;obtain rfl:=qx G;refine jl m e (q6z e.cw ho ht hn Y I h3 hv hj gg ?_);rcases Le _ _▸hk with hk|hk
        .exact .inl (Hc hk)
        .exact .inr (I5.mp hk)
      .cases G
     .cases G
    .cases G
   .cases hc
  .cases hc
theorem q5a (m:aA P C ω w0 C0 hp w)(e:ar C ω w w0.heap.size env a.tmps){t:TypeId}{x i}(ho:o.op=.fieldAddr t x i)(hc:cS P h md r dst (.fieldAddr t x i)=En cM)(G:qe p xc h0 al env hp cM=En res):yr P C C0 w0 a d env o w res:=by
 simp only[cS]at hc;split at hc
 .rename_i fs ht;split at hc
  .rename_i f hf;split at hc
   .rename_i ag n x' dh hn Y;split at hc
    .rename_i hb;cases hc;simp only[E6,decide_eq_true_eq]at hb;simp only[qe,ql]at G;split at G
     .rename_i b q hv;obtain rfl:=qx G;exact jl m e (qr7 (ag:=ag) e.cw ho ht hf hn hb.1 Y hv (.inl ⟨b,q,rfl,rfl⟩))
     .rename_i cs hv;split at G
      .rename_i z hz
       cases hk:Eal ag z.isAgg with
       |true=>simp[hk]at G
       |false=>
        simp only[hk,cond_false]at G;obtain rfl:=qx G;exact jl m e (qr7 e.cw ho ht hf hn hb.1 Y hv (.inr ⟨cs,z,rfl,hz,hk,rfl⟩))
      .cases G
     .rename_i b bN q hv;obtain rfl:=qx G;exact jl m e (q23 e.cw ho ht hf hn hb.1 Y hv)
     .cases G
    .cases hc
   .cases hc
  .cases hc
 .cases hc
theorem jh3 (m:aA P C ω w0 C0 hp w)(e:ar C ω w w0.heap.size env a.tmps){t:TypeId}{x i}(ho:o.op=.field t x i)(hc:cS P h md r dst (.field t x i)=En cM)(G:qe p xc h0 al env hp cM=En res):yr P C C0 w0 a d env o w res:=by
 simp only[cS]at hc;split at hc
 .rename_i fs ht;split at hc
  .rename_i f hf;split at hc
   .rename_i ag n x' dh hn Y;cases hc;simp only[qe,ql]at G;split at G
    .rename_i cs hv;obtain⟨z,hz,rfl⟩:=uH G;exact jl m e (jhf e.cw ho ht hf dh hn Y hv hz)
    .cases G
   .cases hc
  .cases hc
 .cases hc
theorem q4z (m:aA P C ω w0 C0 hp w)(e:ar C ω w w0.heap.size env a.tmps){t:TypeId}{x i}(ho:o.op=.indexAddr t x i)(hc:cS P h md r dst (.indexAddr t x i)=En cM)(G:qe p xc h0 al env hp cM=En res):yr P C C0 w0 a d env o w res:=by
 simp only[cS]at hc;split at hc
 .rename_i x' i' Y I;split at hc
  .rename_i el ht;split at hc
   .rename_i sz hn;split at hc
    .cases hc;simp only[qe,ql]at G;split at G
     .rename_i nl df xs iv hv hi
      cases hk:(If sz df||xs.isEmpty)with
      |false=>simp[hk]at G
      |true=>
       simp only[hk,cond_true]at G;split at G
       .rename_i j hj;split at G
        .rename_i z hz;obtain rfl:=qx G
         have bG:xs.isEmpty=Ig:=by
          have:=(Ic.1 hz).1
          cases xs with
          |nil=>simp at this|cons _ _=>rfl
         rw[bG,Bool.or_false]at hk;obtain rfl:=Hc hk;exact jl m e (qr0 e.cw ho ht hn Y I hv hi (.inr ⟨nl,xs,z,j,rfl,hj,hz,rfl⟩))
        .cases G
       .cases G
     .rename_i b q len iv hv hi;split at G
      .rename_i j hj;obtain rfl:=qx G;exact jl m e (qr0 e.cw ho ht hn Y I hv hi (.inl ⟨b,q,len,j,rfl,hj,rfl⟩))
      .cases G
     .rename_i b bN len iv hv hi;split at G
      .rename_i j hj;obtain rfl:=qx G;exact jl m e (q29 e.cw ho ht hn Y I hv hi hj)
      .cases G
     .cases G
    .cases hc
   .cases hc
  .rename_i n el ht;split at hc
   .rename_i sz ag hn dh;split at hc
    .cases hc;simp only[qe,ql]at G;split at G
     .rename_i b q iv hv hi;split at G
      .rename_i j hj;obtain rfl:=qx G;exact jl m e (qs5 (ag:=ag) e.cw ho ht hn Y I hv hi hj (.inl ⟨b,q,rfl,rfl⟩))
      .cases G
     .rename_i cs iv hv hi;split at G
      .rename_i j hj;split at G
       .rename_i z hz
        cases hk:Eal ag z.isAgg with
        |true=>simp[hk]at G
        |false=>
         simp only[hk,cond_false]at G;obtain rfl:=qx G;exact jl m e (qs5 e.cw ho ht hn Y I hv hi hj (.inr ⟨cs,z,rfl,hz,hk,rfl⟩))
       .cases G
      .cases G
     .cases G
    .cases hc
   .cases hc
  .cases hc
 .cases hc
theorem jg8 (m:aA P C ω w0 C0 hp w)(e:ar C ω w w0.heap.size env a.tmps){t:TypeId}{x i}(ho:o.op=.index t x i)(hc:cS P h md r dst (.index t x i)=En cM)(G:qe p xc h0 al env hp cM=En res):yr P C C0 w0 a d env o w res:=by
 simp only[cS]at hc;split at hc
 .rename_i x' i' Y I;split at hc
  .rename_i ht;cases hc;simp only[qe,ql]at G;split at G
   .rename_i s iv hv hi;split at G
    .rename_i j hj;split at G
     .rename_i c dC;obtain rfl:=qx G;exact jl m e (q6n e.cw ho ht Y I hv hi hj dC)
     .cases G
    .cases G
   .cases G
  .rename_i n el ht;split at hc
   .rename_i sz ag hn dh;cases hc;simp only[qe,ql]at G;split at G
    .rename_i cs iv hv hi;split at G
     .rename_i j hj;obtain⟨z,hz,rfl⟩:=uH G;exact jl m e (ji1 e.cw ho ht dh hn Y I hv hi hj hz)
     .cases G
    .cases G
   .cases hc
  .cases hc
 .cases hc
theorem ja1 (m:aA P C ω w0 C0 hp w)(e:ar C ω w w0.heap.size env a.tmps){c}(ho:o.op=.call c)(pK:∀f,c.callee≠.value f)(hc:AG P h md r dst c=En cM)(G:qe p xc h0 al env hp cM=En res):yr P C C0 w0 a d env o w res:=by
 unfold AG at hc;split at hc
 .rename_i f hf;exact absurd hf (pK f)
 .rename_i ea;split at hc
  .rename_i x t ep eQ;split at hc
   .rename_i ht;obtain⟨x',M,rfl⟩:=Ia.1 hc;simp only[qe,ql]at G
    split at G<;>first|(exfalso;omega)|skip
    .rename_i s _ hv;obtain rfl:=qx G;exact jl m e (Tr e.cw ho ea ep eQ M hv (.inl ⟨ht,s,rfl,rfl⟩))
    .cases G
   .rename_i el ht;obtain⟨x',M,rfl⟩:=Ia.1 hc;simp only[qe,ql]at G
    split at G<;>first|(exfalso;omega)|skip
    .rename_i n sz xs _ hv;obtain rfl:=qx G;exact jl m e (Tr e.cw ho ea ep eQ M hv (.inr ⟨⟨el,ht⟩,.inl ⟨n,sz,xs,rfl,rfl⟩⟩))
    .rename_i b q n _ hv;obtain rfl:=qx G;exact jl m e (Tr e.cw ho ea ep eQ M hv (.inr ⟨⟨el,ht⟩,.inr ⟨b,q,rfl⟩⟩))
    .rename_i b bN n _ hv;obtain rfl:=qx G;exact jl m e (joo e.cw ho ea ep eQ M hv ht)
    .cases G
   .cases hc
  .cases hc
 .rename_i ea;split at hc
  .rename_i x t ep eQ;split at hc
   .rename_i el ht;obtain⟨x',M,rfl⟩:=Ia.1 hc;simp only[qe,ql]at G
    split at G<;>first|(exfalso;omega)|skip
    .rename_i sz xs _ hv;obtain rfl:=qx G;refine jl m e ?_
     have ha:c.args=#[x]:=by apply Tz;simpa using ep
     have mK:c.argTypes=#[t]:=by apply Tz;simpa using eQ
     refine⟨.int .i64 0,?_,.int _ _⟩
     have hq:∃b,a.eval x=.slice b 0 0:=by
      rcases(qt e.cw M hv).cQ with⟨_,_,h⟩|⟨h,_⟩|⟨h,_⟩
      .exact⟨_,h⟩
      .cases h
      .cases h
     obtain⟨b,hq⟩:=hq;simp[execOp,ho,resolve,ea,ha,mK,invoke,builtin,Builtin.cap_,run_underlying ht,hq,goInt]
    .cases G
   .cases hc
  .cases hc
 .rename_i ea;split at hc
  .rename_i x y t u ep eQ;split at hc
   .rename_i el ut ht hu;split at hc
    .rename_i jX;split at hc
     .rename_i sz b x' y' hn hb Y I;cases hc
      have hzero:∃z,y7 P el=En z/\z.length=sz:=by
       have hz:=(E6 _ _▸jX).2;rw[hn]at hz
       cases xZ:y7 P el with
       |none=>simp[xZ]at hz|some z=>exact⟨z,rfl,by simpa[xZ]using hz⟩
      generalize (dst.map (h.vec.contains ·)).getD Ig=bb at G
      cases bb with
      |true=>
       simp only[if_true,qe,qn]at G;split at G
       .rename_i TQ vy e1 e2;split at G
        .rename_i ys cT
         cases hk:(I7 ys.length 1073741824&&I7 b 4096&&Il 0 sz&&!ys.isEmpty&&qo 0 ys&&Il r 1000)with
         |false=>rw[hk]at G;cases G
         |true=>
          rw[hk]at G;simp only[cond_true]at G;split at G
          .rename_i h' dx;obtain rfl:=qx G;simp only[E6]at hk jX;obtain⟨⟨⟨⟨⟨k1,k2⟩,k3⟩,k4⟩,k5⟩,_⟩:=hk;exact .inl (jky m e ho ea ep eQ ht hu jX.1 hn hb Y I e1 e2 cT (H9 k1) (by intro h;rw[h]at k4;cases k4) (H9 k2) k5 hzero dx)
          .cases G
        .cases G
       .rename_i bx bN len vy e1 e2;split at G
        .rename_i df dJ xs gR;split at G
         .rename_i ys cT
          cases hk:(If bN dJ&&If sz df&&I7 len xs.length&&I7 (len+ys.length) 1073741824&&I7 b 4096&&Il 0 sz&&qo 0 ys&&Il r 1000)with
          |false=>rw[hk]at G;cases G
          |true=>
           rw[hk]at G;simp only[cond_true]at G;split at G
           .rename_i h' bK;obtain rfl:=qx G;simp only[E6]at hk jX;obtain⟨⟨⟨⟨⟨⟨⟨k1,k2⟩,k3⟩,k4⟩,k5⟩,k6⟩,k7⟩,_⟩:=hk;obtain rfl:=Hc k1;obtain rfl:=Hc k2;exact .inl (jqh m e ho ea ep eQ ht hu jX.1 hn hb Y I e1 e2 cT gR (H9 k3) (H9 k4) (H9 k5) k7 hzero bK)
           .cases G
         .cases G
        .cases G
       .cases G
      |false=>
      simp only[Ij,if_false]at G;generalize hR:(if(Eam (fun x=>h.gf.contains x) dst).getD Ig=H3 then En r else Ik)=R at G
      cases R with
      |some rr=>
       simp only[qe,qn]at G;split at G
       .rename_i df vy e1 e2
        cases gN:((z5 env x').isSome&&If sz df)with
        |false=>simp[gN]at G
        |true=>
         simp only[gN,cond_true]at G;split at G
         .rename_i ys cT
          cases dw:(I7 ys.length 1073741824&&I7 b 4096&&Il 0 sz)with
          |false=>simp[dw]at G
          |true=>
           simp only[dw,cond_true]at G;split at G
           .rename_i h' dx;cases G;simp only[E6]at dw jX gN;obtain⟨⟨k2,k3⟩,k4⟩:=dw;refine .inl (q4y m e ho ea ep eQ ht hu jX.1 hn hb Y I e1 e2 cT gN.1 rfl (H9 k2) (H9 k3) ?_ (Hc gN.2) dx);have hz:=jX.2;rw[hn]at hz
            cases xZ:y7 P el with
            |none=>simp[xZ]at hz|some z=>exact⟨z,rfl,by simpa[xZ]using hz⟩
           .cases G
         .cases G
       .cases G
      |none=>
       simp only[qe,ql]at G;split at G
       .rename_i n df xs vy e1 e2
        cases gN:(n||(z5 env x').isSome)with
        |false=>simp[gN]at G
        |true=>
         simp only[gN,cond_true]at G;split at G
         .rename_i ys cT
          cases dw:((If sz df||(xs.isEmpty&&n))&&I7 (xs.length+ys.length) 1073741824&&I7 b 4096&&Il 0 sz)with
          |false=>simp[dw]at G
          |true=>
           simp only[dw,cond_true]at G;cases G;simp only[E6]at dw jX;obtain⟨⟨⟨k1,k2⟩,k3⟩,k4⟩:=dw;refine .inl (jdu m e ho ea ep eQ ht hu jX.1 hn hb Y I e1 e2 cT (by simpa using gN) ?_ (H9 k2) (H9 k3) ?_)
           .rcases Le _ _▸k1 with k1|k1
            .exact .inl (Hc k1)
            .simp only[E6,R2]at k1;exact .inr k1
           .have hz:=jX.2;rw[hn]at hz
            cases xZ:y7 P el with
            |none=>simp[xZ]at hz|some z=>exact⟨z,rfl,by simpa[xZ]using hz⟩
         .cases G
       .cases G
     .cases hc
    .cases hc
   .cases hc
  .cases hc
 .rename_i ea;split at hc
  .rename_i x y t ts ep eQ;split at hc
   .rename_i el ht;split at hc
    .rename_i sz x' y' hn Y I;cases hc;simp only[qe,qn]at G;split at G
     .rename_i b q len vy e1 e2
      cases hk:zf h0 al b with
      |false=>simp[hk]at G
      |true=>
       simp only[hk,cond_true]at G;split at G
       .rename_i cs hcs;split at G
        .rename_i n us cT;split at G
         .rename_i eF ct
          cases dw:If us.length (n*sz)with
          |false=>simp[dw]at G
          |true=>
           simp only[dw,cond_true]at G;split at G
           .rename_i h' bK;obtain rfl:=qx G;exact .inl (jkq m e ho ea ep eQ ht hn Y I e1 e2 hcs cT ct (Hc dw) bK)
           .cases G
         .cases G
        .cases G
       .cases G
     .cases G
    .cases hc
   .cases hc
  .cases hc
 .rename_i ea;split at hc
  .rename_i x y t ts ep eQ;split at hc
   .rename_i kt el ht;split at hc
    .rename_i kd x' y' iP Y I;cases hc;simp only[qe,qn]at G;split at G
     .rename_i b kv e1 e2
      cases hk:zf h0 al b with
      |false=>simp[hk]at G
      |true=>
       simp only[hk,cond_true]at G;split at G
       .rename_i es hb;split at G
        .rename_i r hf;split at G
         .rename_i h' bK;obtain rfl:=qx G;exact .inl (jdf m e ho ea ep eQ ht iP Y I e1 e2 hb hf bK)
         .cases G
        .cases G
       .cases G
     .cases G
    .cases hc
   .cases hc
  .cases hc
 .rename_i ea;obtain⟨l,hl,rfl⟩:=Ia.1 hc;simp only[qe,ql]at G;split at G
  .rename_i v vs hv;obtain⟨z,hz,rfl⟩:=uH G;exact jl m e (jgz (mx:=true) e.cw ho ea hl hv hz)
  .cases G
 .rename_i ea;obtain⟨l,hl,rfl⟩:=Ia.1 hc;simp only[qe,ql]at G;split at G
  .rename_i v vs hv;obtain⟨z,hz,rfl⟩:=uH G;exact jl m e (jgz (mx:=false) e.cw ho ea hl hv hz)
  .cases G
 .cases hc
end
def aQ.cut (C:aQ)(n:Nat):aQ:={ C with β:=fun b=>if b<n then C.β b else Ik }
theorem aQ.fe (C:aQ)(n:Nat):(C.cut n).le C where
 k _ _ _ h:=h
 b b r h:=by
  simp only[aQ.cut]at h;split at h
  .exact h
  .cases h
 w:=rfl
 d _ h:=h
theorem aQ.iY {C C':aQ}{n}(h:C.le C')(hn:∀b r,C.β b=En r->b<n):C.le (C'.cut n):=
 ⟨h.1,fun b r hb=>by simp only[aQ.cut];rw[if_pos (hn b r hb)];exact h.2 b r hb,h.w,h.d,h.t⟩
section
variable {P:Program}{p:j8}{xc:XC}{C C0:aQ}{ω:Nat->Option Loc}{w w0:World}{hp:qf}{env:Env}{tmps:Array Value}{B:Nat}
theorem aW.cut {ℓ x v}(n:Nat)(ho:aW C ω w B ℓ x v):aW (C.cut n) ω w B ℓ x v:=by
 unfold aW at *;split at ho
 .obtain⟨Y,I,h3,h4,h5⟩:=ho;exact⟨Y,I,fun b hb=>h3 b ((aQ.fe C n).2 b _ hb),h4,h5⟩
 .obtain⟨Y,I,h3,h4,h5⟩:=ho;exact⟨Y,I,fun b hb=>h3 b ((aQ.fe C n).2 b _ hb),h4,h5⟩
 .trivial
theorem bS.cut {x v n}(h:bS C x v)(hb:below n x=H3):bS (C.cut n) x v:=
 aM.shift (C:=C) (C':=C.cut n) n (fun _ _ _ h=>h) (fun b r bg hb=>by simp only[aQ.cut];rw[if_pos bg];exact hb) h hb
theorem TX {n}:∀ {e:Env} {s:Nat} {x:AVal×Bool},mF n e=H3->jn s e=En x->below n x.1=H3
 | [],_,_,_,h=>by simp[jn]at h
 |(t,y)::e,s,x,hb,h=>by
  simp only[mF,E6]at hb;simp only[jn]at h
  cases mN:If t s with
  |true=>simp only[mN,cond_true,En.injEq]at h;subst h;exact hb.1|false=>simp only[mN,cond_false]at h;exact TX hb.2 h
theorem qrx {n}:∀ {l:qf} {b:Nat} {x:aK},qr n l=H3->l[b]?=En x->zn n x=H3
 | [],_,_,_,h=>by simp at h
 |y::l,b,x,hb,h=>by
  simp only[qr,E6]at hb
  cases b with
  |zero=>simp at h;subst h;exact hb.1|succ b=>simp at h;exact qrx hb.2 h
theorem qox {n}:∀ {l:List (AVal×Bool)} {j:Nat} {c:AVal×Bool},zw n l=H3->l[j]?=En c->below n c.1=H3
 | [],_,_,_,h=>by simp at h
 |(y,o)::l,j,c,hb,h=>by
  simp only[zw,E6]at hb
  cases j with
  |zero=>simp at h;subst h;exact hb.1|succ j=>simp at h;exact qox hb.2 h
theorem cI.cut {n es ms}(Q:cI C es ms):kr n es=H3->cI (C.cut n) es ms:=by
 induction Q with
 |nil=>exact fun _=>.nil
 |cons k v es m ms hk hv _ ih=>
  intro hb;simp only[kr,E6]at hb;exact .cons k v es m ms (bS.cut hk hb.1.1) (bS.cut hv hb.1.2) (ih hb.2)
theorem bM.cut {b r n x}(h:bM P C ω w B b r x)(hb:zn n x=H3):bM P (C.cut n) ω w B b r x:=by
 cases x with
 |hole=>exact h
 |cells cs=>
  obtain⟨vs,el,Y,I,h3⟩:=h;exact⟨vs,el,Y,I,fun j c hc=>let ⟨v,a,q,b,d⟩:=h3 j c hc; ⟨v,a,q,bS.cut b (qox hb hc),fun e=>(d e).cut n⟩⟩
 |map es=>obtain⟨cr,clock,Y,I⟩:=h;exact⟨cr,clock,Y,I.cut hb⟩|iter s pos=>exact h|loop l=>obtain⟨lp,Y,I⟩:=h;exact⟨lp,Y,{ I with env:=fun s x M=>let ⟨v,a,b⟩:=I.env s x M; ⟨v,a,bS.cut b (TX hb M)⟩ }⟩|fZ t e l=>obtain⟨p,v,Y,I,h3,h4⟩:=h;exact⟨p,v,Y,I,h3,h4.cut n⟩|dead=>exact h|vec sz bN xs=>exact ej.imp (C:=C) (C':=C.cut n) (ω:=ω) (ω':=ω) (B':=B) (fun _ _ _ h=>h) (fun _ h=>h) (fun _ h _=>h) rfl (fun q n' cap k=>⟨rfl,aW.cut (C:=C) n k⟩) h
theorem aA.gc (m:aA P C ω w0 C0 hp w){n:Nat}(hn:n<=hp.length)(hb:qr n (hp.take n)=H3)(h0:∀b r,C0.β b=En r->b<n):aA P (C.cut n) ω w0 C0 (hp.take n) w where
 base:=m.base
 know:=m.know
 dk:=m.dk
 apart b r o hb:=m.apart b r o ((aQ.fe C n).2 b r hb)
 inj b b' r Y I:=m.inj b b' r ((aQ.fe C n).2 _ _ Y) ((aQ.fe C n).2 _ _ I)
 lt b r h:=by
  have Y:=m.lt b r ((aQ.fe C n).2 _ _ h);refine⟨Y.1,?_⟩;simp only[aQ.cut]at h;split at h
  .rw[Lg];omega
  .cases h
 size:=m.size
 frame:=m.frame
 fA:=m.fA
 os:=m.os
 output:=m.output
 fresh b r h:=m.fresh b r ((aQ.fe C n).2 _ _ h)
 grown:=aQ.iY m.grown h0
 old:=m.old
 box b x r M Q:=by
  have bg:b<n:=by
   have:=(Ic.1 M).1;rw[Lg]at this;omega
  have fp:hp[b]?=En x:=by rwa [List.getElem?_take_of_lt bg]at M
  exact(m.box b x r fp ((aQ.fe C n).2 _ _ Q)).cut (qrx hb M)
 iJ:=m.iJ
theorem ar.cut {n}(e:ar C ω w B env tmps)(hb:mF n env=H3):ar (C.cut n) ω w B env tmps:=
 fun s x M=>let ⟨v,Y,I,h3⟩:=e s x M; ⟨v,Y,bS.cut I (TX hb M),fun h=>(h3 h).cut n⟩
def j6l (env:Env)(hp:qf)(r:nN)(ℓ:Loc)(x:AVal×Bool):Prop:=
 (∃s,ℓ=.slot s)\/∃t n b j ow cs,r=.cell t Ig n/\jn t env=En (.ptr b j,ow)/\ℓ=.cell b j/\qw hp b=En cs/\cs[j]?=En x
def TY (C:aQ)(ω:Nat->Option Loc)(w:World)(B:Nat)(env:Env)(hp:qf)(r:nN)(x:AVal×Bool)(v:Value):Prop:=bS C x.1 v/\(x.2=H3->∃ℓ,aW C ω w B ℓ x.1 v/\j6l env hp r ℓ x)
theorem q9j {B'}(m:aA P C ω w0 C0 hp w)(hB:B'=w0.heap.size)(e:ar C ω w B' env tmps){rv r x}(hc:M2 P rv=En r)(Q:ul ⟨env,hp⟩ r=En x):
  ∃v,((match rv with | .tmp t=>pure (tmps.getD t undef) | .cell a t=>do loadVar t (<-asAddr (tmps.getD a undef)):Sem Value)).run P w=.ok v w/\TY C ω w B' env hp r x v:=by
 subst hB
 cases rv with
 |tmp t=>
  simp only[M2]at hc;cases hc;simp only[ul]at Q;obtain⟨v,Y,I,h3⟩:=e t x Q;refine⟨v,?_,I,fun h=>⟨_,h3 h,.inl ⟨_,rfl⟩⟩⟩;simp[Io,Y]
 |cell t ty=>
  simp only[M2]at hc
  have key:∀ {ag:Bool} {n:Nat},y5 P ty=En ag->js P ty=En n->(ag=Ig->n=1)->ul ⟨env,hp⟩ (.cell t ag n)=En x->∃v,((do loadVar ty (<-asAddr (tmps.getD t undef)):Sem Value)).run P w=.ok v w/\TY C ω w w0.heap.size env hp (.cell t ag n) x v:=by
   intro ag n hg hn H4 Q;simp only[ul]at Q;split at Q
   .rename_i b q ow hl;obtain⟨u,Y,I,_⟩:=e t _ hl;obtain⟨r,iN,rfl⟩:=I.dr
    have hu:tmps.getD t undef=.pointer (En ⟨r,q,Ik⟩):=by simp[Io,Y]
    split at Q
    .rename_i cs hcs;have gQ:=m.box b _ r (wm hcs) iN;split at Q
     .rename_i us hO
      cases ag with
      |true=>
       simp only[cond_true,En.injEq]at Q;subst Q;obtain⟨vs,k1,_,k2,k3,_⟩:=gQ.read hO;refine⟨.agg ⟨vs⟩,?_,.agg _ _ k1,by simp⟩;simp[hu,asAddr,HZ hg hn k2 k3]
      |false=>
       simp only[cond_false]at Q;split at Q
       .rename_i c hc;cases Q;obtain⟨vs,te,g1,g2,g3⟩:=gQ;obtain⟨v,J,a2,a3,a4⟩:=g3 q _ hc
        have eh:w.cell? ⟨r,q,Ik⟩=En v:=by
         simp only[World.cell?,g1];simpa using J
        refine⟨v,?_,a3,fun h=>⟨_,a4 h,.inr ⟨_,_,_,_,_,_,rfl,hl,rfl,hcs,hc⟩⟩⟩;simp[hu,asAddr,H0 hg eh]
       .cases Q
     .cases Q
    .cases Q
   .cases Q
  split at hc
  .rename_i n hg hn;cases hc;exact key hg hn (by simp) Q
  .rename_i hg hn;cases hc;exact key hg hn (fun _=>rfl) Q
  .cases hc
inductive lH (P:Program)(C:aQ)(ω:Nat->Option Loc)(w:World)(B:Nat)(env:Env)(hp:qf):List nN->List (AVal×Bool)->List Value->Prop where
 |nil:lH P C ω w B env hp [] [] []
 |cons {r:nN} {x:AVal×Bool} {v:Value} {rs:List nN} {xs:List (AVal×Bool)} {vs:List Value} (h:TY C ω w B env hp r x v) (t:lH P C ω w B env hp rs xs vs):lH P C ω w B env hp (r::rs) (x::xs) (v::vs)
theorem lH.cw {rs xs vs}(h:lH P C ω w B env hp rs xs vs):bj C (xs.map (·.1)) vs:=by
 induction h with
 |nil=>exact .nil|cons h _ ih=>exact .cons _ _ _ _ h.1 ih
theorem qrw {B'}(m:aA P C ω w0 C0 hp w)(hB:B'=w0.heap.size)(e:ar C ω w B' env tmps):∀ {l:List ResultVar} {rs:List nN} {xs:List (AVal×Bool)},vX P l=En rs->ky ⟨env,hp⟩ rs=En xs ->
  ∃vs,(l.mapM fun(rv:ResultVar)=>(match rv with | .tmp t=>pure (tmps.getD t undef) | .cell a t=>do loadVar t (<-asAddr (tmps.getD a undef)):Sem Value)).run P w=.ok vs w/\lH P C ω w B' env hp rs xs vs
 | [],rs,xs,hc,Q=>by
  simp[vX]at hc;subst hc;simp[ky]at Q;subst Q;exact⟨[],rfl,.nil⟩
 |rv::l,rs,xs,hc,Q=>by
  simp only[vX]at hc;split at hc
  .rename_i r Fu Y I;cases hc;simp only[ky]at Q;split at Q
   .rename_i x M;split at Q
    .rename_i ys nS;cases Q;obtain⟨v,k1,k2⟩:=q9j m hB e Y M;obtain⟨vs,j1,j2⟩:=qrw m hB e I nS;refine⟨v::vs,?_,.cons k2 j2⟩;simp only[List.mapM_cons,Sem.run_bind,k1,Result.andThen_ok,j1,Sem.run_pure]
    .cases Q
   .cases Q
  .cases hc
def FG:List Value->Value
 | [v]=>v|vs=>.tuple ⟨vs⟩
theorem q0p (m:aA P C ω w0 C0 hp w){ω' b j v ow cs}(jN:qw hp b=En cs)(hc:cs[j]?=En (v,ow))(hω:∀b' j' y u,(b'≠b\/j'≠j)->aW C ω w w0.heap.size (.cell b' j') y u->aW C ω' w w0.heap.size (.cell b' j') y u):
  aA P C ω' w0 C0 (hp.set b (.cells (cs.set j (v,Ig)))) w:=by
 by_cases hb:∃r,C.β b=En r
 .obtain⟨r,Q⟩:=hb;obtain⟨vs,te,hg,db,hold⟩:=m.box b _ r (wm jN) Q;obtain⟨cv,k1,k2,k3,k4⟩:=hold j _ hc;have hu:nZ w w r:=⟨rfl,fun _ _=>rfl,fun c t fr h=>by rw[hg]at h;cases h;rfl,rfl,rfl⟩;refine m.dX hu Q _ (fun b' j' y u fq hz=>hω b' j' y u (.inl fq) hz) ⟨vs,te,hg,by simpa using db,fun i c hi=>?_⟩;rw[Ni]at hi;split at hi
  .rename_i Iq;subst Iq;split at hi
   .cases hi;exact⟨cv,k1,k2,k3,by simp⟩
   .cases hi
  .rename_i Iq;obtain⟨u,J,a2,a3,a4⟩:=hold i c hi;exact⟨u,J,a2,a3,fun h=>hω b i _ _ (.inr (I9 Iq)) (a4 h)⟩
 .refine { m with lt:=fun k r hk=>by rw[Jb];exact m.lt k r hk,box:=fun k x r M hk=>?_ };have mO:k≠b:=fun h=>hb ⟨r,h▸hk⟩;rw[H2 (I9 mO)]at M;exact(m.box k x r M hk).mono (aQ.le_refl C) fun j' y u ho=>hω k j' y u (.inl mO) ho
theorem jpj (m:aA P C ω w0 C0 hp w){rs xs vs}(h:lH P C ω w w0.heap.size env hp rs xs vs):
  ∃ω',aA P C ω' w0 C0 (l8 ⟨env,hp⟩ rs) w/\bS C (ze xs).1 (FG vs)/\((ze xs).2=H3->aW C ω' w w0.heap.size (.slot 0) (ze xs).1 (FG vs)):=by
 have same:∃ω',aA P C ω' w0 C0 hp w:=⟨ω,m⟩
 cases h with
 |nil=>exact⟨ω,m,by simpa[ze,FG]using aM.aJ _ _ (aM.nil),by simp[ze]⟩
 |cons M ht=>
  cases ht with
  |cons hy ht=>
   have:=(lH.cons M (lH.cons hy ht)).cw;exact⟨ω,by simpa[l8]using m,by simpa[ze,FG]using aM.aJ _ _ this,by simp[ze]⟩
  |nil=>
   rename_i r x v;obtain⟨Y,I⟩:=M;simp only[ze]
   -- without the flag
   have plain:aA P C ω w0 C0 (l8 ⟨env,hp⟩ [r]) w:=by
    unfold l8;split
    .split
     .split
      .rename_i cs hcs;split
       .rename_i u hu;exact q0p m hcs hu (fun _ _ _ _ _ h=>h)
       .exact m
      .exact m
     .exact m
    .exact m
   by_cases hk:x.2=H3
   .have gN:=hk;obtain⟨ℓ,h3,h4⟩:=I gN;refine⟨ux ω x.1 v (.slot 0),?_,Y,fun _=>Nj h3⟩;rcases h4 with⟨s,rfl⟩|⟨t,n,b,j,ow,cs,rfl,g1,rfl,g2,g3⟩
    .exact { plain with box:=fun b x r M hb=>(plain.box b x r M hb).mono (aQ.le_refl C) fun j y u hz=>xW h3 (by simp) hz }
    .obtain⟨xv,xo⟩:=x;simp only at gN;subst gN
     have:l8 ⟨env,hp⟩ [.cell t Ig n]=hp.set b (.cells (cs.set j (xv,Ig))):=by
      simp only[l8,g1,g2,g3]
     rw[this]
     exact q0p m g2 g3 fun b' j' y u bG hz=>xW h3 (by
      rcases bG with bG|bG
      ·simp[bG]
      ·simp[bG]) hz
   .exact⟨ω,plain,Y,fun h=>absurd h hk⟩
theorem jbg {fn}(m:aA P C ω w0 C0 hp w)(e:ar C ω w w0.heap.size env tmps){rs xs}(hc:vX P fn.results.toList=En rs)(Q:ky ⟨env,hp⟩ rs=En xs):
  ∃v ω',(results fn tmps).run P w=.ok v w/\aA P C ω' w0 C0 (l8 ⟨env,hp⟩ rs) w/\bS C (ze xs).1 v/\((ze xs).2=H3->aW C ω' w w0.heap.size (.slot 0) (ze xs).1 v):=by
 obtain⟨vs,Y,I⟩:=qrw m rfl e hc Q
 have mL:(fn.results.mapM fun(rv:ResultVar)=>(match rv with | .tmp t=>pure (tmps.getD t undef) | .cell a t=>do loadVar t (<-asAddr (tmps.getD a undef)):Sem Value)).run P w=.ok vs.toArray w:=by
  rw[Array.mapM_eq_mapM_toList];simp only[Sem.run_map];rw[Y];rfl
 have bF:(results fn tmps).run P w=.ok (if h:vs.toArray.size=1 then vs.toArray[0]else .tuple vs.toArray) w:=by
  unfold results;rw[Sem.run_bind];exact congrArg (fun z=>Result.andThen z fun(a:Array Value) w'=>Sem.run P (pure (if h:a.size=1 then a[0]else Value.tuple a)) w') mL
 have hval:(if h:vs.toArray.size=1 then vs.toArray[0]else .tuple vs.toArray)=(FG vs):=by
  match vs with
  | []=>rfl| [v]=>rfl|v::u::vs=>simp[FG]
 rw[hval]at bF;obtain⟨ω',q1,q2,q3⟩:=jpj m I;exact⟨_,ω',bF,q1,q2,q3⟩
end
section
variable {P:Program}{C C0:aQ}{ω:Nat->Option Loc}{w w0:World}{hp:qf}
def sO (C:aQ)(hp:qf)(r:Nat):Prop:=∃b sz bN xs r0 cap,hp[b]?=En (.vec sz bN xs)/\C.β b=En r0/\C.T (r0,bN,r,cap)
def Hid (C:aQ)(hp:qf)(r:Nat):Prop:=(∃b,C.β b=En r)\/sO C hp r
theorem sO.is (m:aA P C ω w0 C0 hp w){r}(h:sO C hp r):(∃b,C.β b=En r)\/∃b sz bN xs n cap,hp[b]?=En (.vec sz bN xs)/\xP C ω w w0.heap.size b r n cap:=by
 obtain⟨b,sz,bN,xs,r0,cap,Y,I,h3⟩:=h;obtain⟨q,lF,k1,k2,k3,k4,_⟩:=m.box b _ r0 Y I;have:=(k2 _ h3 rfl).2 rfl;simp only[Nk.injEq]at this;obtain⟨rfl,rfl⟩:=this;rcases k4 with rfl|k4
 .exact .inl ⟨b,I⟩
 .exact .inr ⟨b,sz,bN,xs,_,_,Y,k4⟩
theorem T0 (m:aA P C ω w0 C0 hp w){r}(h:Hid C hp r)(o:Nat):C.K r o=Ik:=by
 rcases h with⟨b,hb⟩|h
 .exact m.apart b r o hb
 .rcases h.is m with⟨b,hb⟩|⟨b,sz,bN,xs,n,cap,_,I⟩
  .exact m.apart b r o hb
  .exact I.2.2.2.2.2.2 o (by simp)
theorem jg5 {K}(hW:C.W=fun _=>False)(m:aA P C ω w0 (.bZ K) hp w){r}(h:Hid C hp r):w0.heap.size<=r:=by
 have key:∀b,C.β b=En r->w0.heap.size<=r:=fun b hb=>by
  rcases m.fresh b r hb with h|h|h
  .cases h
  .exact h
  .exact h.elim
 rcases h with⟨b,hb⟩|h
 .exact key b hb
 .rcases h.is m with⟨b,hb⟩|⟨b,sz,bN,xs,n,cap,_,I⟩
  .exact key b hb
  .rcases I.2.1 with h|h
   .exact h
   .rw[hW]at h;exact h.elim
theorem jx2 (m:aA P C ω w0 C0 hp w){r}(h:Hid C hp r):r<w.heap.size:=by
 rcases h with⟨b,hb⟩|h
 .exact(m.lt b r hb).1
 .rcases h.is m with⟨b,hb⟩|⟨b,sz,bN,xs,n,cap,_,I⟩
  .exact(m.lt b r hb).1
  .obtain⟨_,_,_,_,_,⟨cells,elem,h5,_⟩,_⟩:=I;exact(Ib.1 h5).1
open Classical in
noncomputable def zy (C:aQ)(hp:qf)(w:World):Nat->Nat->Option Value:=fun r o=>if Hid C hp r then(w.cell? ⟨r,o,Ik⟩).filter (·.oneCell')else C.K r o
theorem Ir (m:aA P C ω w0 C0 hp w){r o x}(h:C.K r o=En x):zy C hp w r o=En x:=by
 unfold zy;rw[if_neg]
 .exact h
 .intro hh;rw[T0 m hh o]at h;cases h
theorem Nt (m:aA P C ω w0 C0 hp w){r o x}(h:zy C hp w r o=En x):w.cell? ⟨r,o,Ik⟩=En x/\x.oneCell'=H3:=by
 unfold zy at h;split at h
 .rw[Option.filter_eq_some_iff]at h;exact h
 .exact⟨m.know r o x h,m.dk r o x h⟩
theorem qwc {r o x}(hb:Hid C hp r)(hc:w.cell? ⟨r,o,Ik⟩=En x)(Y:x.oneCell'=H3):zy C hp w r o=En x:=by
 unfold zy;rw[if_pos hb,hc];simp[Y]
theorem T1 {b r o x}(hb:C.β b=En r)(hc:w.cell? ⟨r,o,Ik⟩=En x)(Y:x.oneCell'=H3):zy C hp w r o=En x:=
 qwc (.inl ⟨b,hb⟩) hc Y
theorem T2 (m:aA P C ω w0 C0 hp w){x v}(h:bS C x v)(hb:below 0 x=H3):bS (.bZ (zy C hp w)) x v:=
 aM.shift (C:=C) (C':=.bZ (zy C hp w)) 0 (fun _ _ _ h=>Ir m h) (fun b r bg=>by omega) h hb
theorem qwn {x v}(h:bS C x v)(Y:v.oneCell'=H3):x.isAgg=Ig:=by
 cases h<;>first|rfl|(simp[Value.oneCell']at Y)
theorem T3 {C r}:∀ {ys:List AVal} {o:Nat},(∀j x,ys[j]?=En x->∃v,C.K r (o+j)=En v/\bS C x v)->cD C r ys o
 | [],o,_=>.ik _ _
 |x::ys,o,h=>by
  obtain⟨v,Y,I⟩:=h 0 x rfl;refine .dz _ _ _ _ v (by simpa using Y) I (T3 fun j y hy=>?_);obtain⟨v,k1,k2⟩:=h (j+1) y (by simpa using hy);exact⟨v,by rw[show o+1+j=o+(j+1) by omega];exact k1,k2⟩
theorem T4 {C r sz}(hz:0<sz):∀ {n:Nat} {xs:List AVal} {o:Nat},xs.length=n*sz->(∀x∈xs,x.isAgg=Ig)->(∀j x,xs[j]?=En x->∃v,C.K r (o+j)=En v/\bS C x v)->bB C r sz (nu sz n xs) o
 |0,xs,o,_,_,_=>.fO _ _ _
 |n+1,xs,o,hl,hp,h=>by
  rw[Nat.succ_mul]at hl
  have hf:(bif If sz 1 then xs.headD .undef else AVal.agg (xs.take sz)).flat=xs.take sz:=by
   cases hb:If sz 1 with
   |false=>rfl
   |true=>
    have:=Hc hb;subst this
    match xs,hl with
    |x::xs,_=>simp only[cond_true,List.headD_cons];rw[qcg (hp x (List.mem_cons_self ..))];rfl
  refine .dp _ _ _ _ _ ?_ ?_ (T4 hz ?_ (fun x M=>hp x (List.mem_of_mem_drop M)) fun j x M=>?_)
  .rw[hf,Lg];omega
  .rw[hf];refine T3 fun j x M=>h j x ?_;rw[List.getElem?_take]at M;split at M
   .exact M
   .cases M
  .rw[Z4];omega
  .rw[List.getElem?_drop]at M;obtain⟨v,k1,k2⟩:=h _ x M;exact⟨v,by rw[Nat.add_assoc];exact k1,k2⟩
theorem Iu {sz}:∀ {n:Nat} {xs:List AVal},(nu sz n xs).length=n
 |0,_=>rfl
 |n+1,xs=>by simp only[nu,List.length_cons];rw[Iu]
theorem qsi {sz}(hz:1<sz):∀ {n:Nat} {xs:List AVal},xs.length=n*sz->qo 0 (nu sz n xs)=H3->∀x∈xs,below 0 x=H3
 |0,xs,hl,_=>by
  rw[Nat.zero_mul]at hl;rw[St.1 hl];intro x M;cases M
 |n+1,xs,hl,h=>by
  have hb:If sz 1=Ig:=by
   cases hc:If sz 1 with
   |false=>rfl|true=>have:=Hc hc;omega
  simp only[nu,hb,cond_false,qo,below,E6]at h;have ih:=qsi hz (n:=n) (xs:=xs.drop sz) (by rw[Z4,hl,Nat.succ_mul];omega) h.2
  have ht:∀(ys:List AVal),qo 0 ys=H3->∀x∈ys,below 0 x=H3:=by
   intro ys
   induction ys with
   |nil=>intro _ x M;cases M
   |cons y ys ih=>
    intro hh x M;simp only[qo,E6]at hh;rcases Qc.1 M with rfl|M
    .exact hh.1
    .exact ih hh.2 x M
  intro x M;rw[<-List.take_append_drop sz xs]at M;rcases Ng.1 M with M|M
  .exact ht _ h.1 x M
  .exact ih x M
theorem T5 (m:aA P C ω w0 C0 hp w){x x' v}(hf:jL hp x=En x')(h:bS C x v)(hb:below 0 x'=H3):bS (.bZ (zy C hp w)) x' v:=by
 unfold jL at hf;split at hf
 .rename_i b off len;split at hf
  .rename_i cs hcs
   cases cY:Fp off len cs with
   |true=>
    rw[cY]at hf;simp only[cond_true,En.injEq]at hf;subst hf;simp only[Fp,E6]at cY;obtain⟨⟨⟨r0,r1⟩,r2⟩,_⟩:=cY;have r0:=Hc r0;have r2:=Hc r2
    have r1:1<cs.length / len:=by simpa using r1
    subst r0;obtain⟨r,cap,iN,hle,rfl⟩:=h.eZ;obtain⟨vs,elem,k1,k2,k3⟩:=m.box b _ r (wm hcs) iN
    have iq:qo 0 (nu (cs.length / len) len (cs.map (·.1)))=H3:=by simpa[below]using hb
    have pN:=qsi r1 (by rw[S0];exact r2.symm) iq
    have hrr:bB (.bZ (zy C hp w)) r (cs.length / len) (nu (cs.length / len) len (cs.map (·.1))) 0:=by
     refine T4 (by omega) (by rw[S0];exact r2.symm) (fun x M=>?_) fun j x M=>?_
     .obtain⟨j,hj⟩:=List.getElem?_of_mem M;rw[Lf,Ia]at hj;obtain⟨c,hc,rfl⟩:=hj;obtain⟨u,q1,q2,q3,_⟩:=k3 j c hc;exact qwn q3 q2
     .have dl:=Jw M;rw[Lf,Ia]at M;obtain⟨c,hc,rfl⟩:=M;obtain⟨u,q1,q2,q3,_⟩:=k3 j c hc
      have eh:w.cell? ⟨r,0+j,Ik⟩=En u:=by
       unfold World.cell?;rw[k1];simp only[J2,Ij,if_false,Nh];exact q1
      exact⟨u,T1 iN eh q2,T2 m q3 (pN _ dl)⟩
    have:=aM.list (C:=.bZ (zy C hp w)) (cs.length / len) (nu (cs.length / len) len (cs.map (·.1))) r 0 cap (by rw[Iu];exact hle) hrr;rw[Iu]at this;exact this
   |false=>
   rw[cY]at hf;simp only[cond_false]at hf;split at hf
   .rename_i us hO;cases hf;obtain⟨r,cap,iN,hle,rfl⟩:=h.eZ;obtain⟨vs,k1,k0,k2,k3,k4⟩:=(m.box b _ r (wm hcs) iN).read hO
    have iq:qo 0 us=H3:=by simpa[below]using hb
    have gi:bj (.bZ (zy C hp w)) us vs:=aM.shift (C:=C) (C':=.bZ (zy C hp w)) 0 (fun _ _ _ h=>Ir m h) (fun b r bg=>by omega) k1 iq
    have kY:∀(us:List AVal) (vs:List Value),bj C us vs->(∀v∈vs,v.oneCell'=H3)->us.flatMap AVal.flat=us/\∀u∈us,u.flat.length=1:=by
     intro us
     induction us with
     |nil=>intro _ _ _;exact⟨rfl,by simp⟩
     |cons u us ih=>
      intro vs h Y
      cases h with
      |cons _ _ v vs M h=>
       obtain⟨i1,i2⟩:=ih vs h (fun v hv=>Y v (by simp[hv]));have xT:=qwn M (Y v (by simp));rw[Z2,qcg xT,i1];refine⟨rfl,fun u' rm=>?_⟩;rcases Qc.1 rm with rfl|rm
       .rw[qcg xT];rfl
       .exact i2 u' rm
    obtain⟨f1,f2⟩:=kY us vs k1 k4
    have hcells:cD (.bZ (zy C hp w)) r (us.flatMap AVal.flat) off:=by
     rw[f1];exact cD.iK gi fun j u hj=>T1 iN (k3 j u hj) (k4 u (Jw hj))
    have hl:us.length=len:=k0;have:=aM.list (C:=.bZ (zy C hp w)) 1 us r off cap (by omega) (bB.eX hcells f2);rw[hl]at this;exact this
   .cases hf
  .cases hf
 .rename_i b bN len;split at hf
  .rename_i sz dJ xs gR
   cases hk:(If bN dJ&&I7 len xs.length)with
   |false=>rw[hk]at hf;cases hf
   |true=>
    rw[hk]at hf;simp only[cond_true,En.injEq]at hf;subst hf;simp only[E6]at hk;obtain rfl:=Hc hk.1;have hlen:=H9 hk.2
    cases h with
    |ay _ _ _ r0 q cap hβ hT hl=>
     obtain⟨q',lF,k1,k2,k3,k4,_⟩:=m.box b _ r0 gR hβ;have heq:=(k2 _ hT rfl).2 rfl;simp only[Nk.injEq]at heq;obtain⟨rfl,rfl⟩:=heq;obtain⟨cells,t,vs,g1,g2,g3,g4,g5,g6,g7⟩:=k3;have T6:Hid C hp q:=.inr ⟨b,sz,bN,xs,r0,cap,gR,hβ,hT⟩
     have hall:cD (.bZ (zy C hp w)) q (xs.flatMap AVal.flat) 0:=by
      refine cD.iK (aM.imp (C:=.bZ C.K) (C':=.bZ (zy C hp w)) ⟨fun _ _ _ h=>Ir m h,fun _ _ h=>h⟩ g5) fun j u hj=>?_;refine qwc T6 ?_ (g7 u (Jw hj));unfold World.cell?;rw[g1];simp only[J2,Ij,if_false,Nh];exact g6 j u hj
     have cY:bB (.bZ (zy C hp w)) q sz xs 0:=bB.eX hall g4;have:=aM.list (C:=.bZ (zy C hp w)) sz (xs.take len) q 0 cap (by rw[Lg];omega) (cY.take len);rw[Lg,Nat.min_eq_left hlen]at this;exact this
  .cases hf
 .cases hf;exact T2 m h hb
theorem T7 (m:aA P C ω w0 C0 hp w):∀ {xs fT:List AVal} {vs:List Value},mG hp xs=En fT->bj C xs vs->qo 0 fT=H3->bj (.bZ (zy C hp w)) fT vs
 | [],fT,vs,hf,h,_=>by
  simp only[mG,En.injEq]at hf;subst hf;cases h;exact .nil
 |x::xs,fT,vs,hf,h,hb=>by
  simp only[mG]at hf;split at hf
  .rename_i y hy;split at hf
   .rename_i ys nS;cases hf;simp only[qo,E6]at hb
    cases h with
    |cons _ _ v vs M h=>exact .cons _ _ _ _ (T5 m hy M hb.1) (T7 m nS h hb.2)
   .cases hf
  .cases hf
theorem T8 (m:aA P C ω w0 C0 hp w):∀ {xs fT:List AVal} {vs:List Value},aX.bO hp xs=En fT->bj C xs vs->qo 0 fT=H3->bj (.bZ (zy C hp w)) fT vs
 | [],fT,vs,hf,h,_=>by
  simp only[aX.bO,En.injEq]at hf;subst hf;cases h;exact .nil
 |x::xs,fT,vs,hf,h,hb=>by
  cases h with
  |cons _ _ v vs M h=>
   unfold aX.bO at hf;split at hf
   .cases ‹_::_=[]›
   .rename_i cs sL heq;cases heq;split at hf
    .rename_i y hy;split at hf
     .rename_i ys nS;cases hf;simp only[qo,below,E6]at hb;obtain⟨us,rfl,hu⟩:=bS.eH M;exact .cons _ _ _ _ (.agg _ _ (T7 m hy hu hb.1)) (T8 m nS h hb.2)
     .cases hf
    .cases hf
   .rename_i heq;cases heq;split at hf
    .rename_i y hy;split at hf
     .rename_i ys nS;cases hf;simp only[qo,E6]at hb;exact .cons _ _ _ _ (T5 m hy M hb.1) (T8 m nS h hb.2)
     .cases hf
    .cases hf
theorem jbc (m:aA P C ω w0 C0 hp w){x x' v}(hf:aX hp x=En x')(h:bS C x v)(hb:below 0 x'=H3):bS (.bZ (zy C hp w)) x' v:=by
 unfold aX at hf;split at hf
 .split at hf
  .rename_i ys nS;cases hf;obtain⟨us,rfl,hu⟩:=h.eH;exact .agg _ _ (T7 m nS hu (by simpa[below]using hb))
  .cases hf
 .split at hf
  .rename_i ys nS;cases hf
   cases h with
   |aJ _ vs hu=>exact .aJ _ _ (T8 m nS hu (by simpa[below]using hb))
  .cases hf
 .exact T5 m hf h hb
end
def Bb:jb->Exit
 | .normal=>.normal| .exit id=>.exit id| .ret=>.ret
def jO (ρ:Option Nat):Fence:={ Fence.wide with round:=ρ }
theorem q0o {ρ n P f args w R}:CallsIn (jO ρ) n P f args w R↔CallsIn Fence.wide n P f args w R:=Iff.rfl
def Marks (C:aQ)(B:Nat)(ds:List Deferred):Prop:=∃rs:List Nat,ds=rs.map (fun r=>{ target:=.collected r,args:=#[] })/\rs.Nodup/\∀r∈rs,C.D r/\B<=r
theorem Marks.mono {C C' B ds}(h:Marks C B ds)(hle:C.le C'):Marks C' B ds:=
 let ⟨rs,Y,I,h3⟩:=h; ⟨rs,Y,I,fun r Q=>⟨hle.d r (h3 r Q).1,(h3 r Q).2⟩⟩
theorem Marks.nil {C B}:Marks C B []:=⟨[],rfl,List.nodup_nil,by simp⟩
def cJ (P:Program)(xc:XC):Prop:=
 ∀(ρ:Option Nat) (nt:Nat) (c:Code) (ca:aV) (st bP:bn) (x:jb),HI P nt c ca->(ρ≠Ik->zx ca=H3)->xc ca st=En (x,bP) ->
  ∀(C:aQ) (ω:Nat->Option Loc) (w0:World) (C0:aQ) (a:Act) (w:World),aA P C ω w0 C0 st.heap w->ar C ω w w0.heap.size st.env a.tmps->a.tmps.size=nt->Marks C w0.heap.size a.defers ->
   c.wpIn (jO ρ) 0 P (fun e a' w'=>e=Bb x/\a'.tmps.size=nt/\∃C' ω',C.le C'/\Marks C' w0.heap.size a'.defers/\aA P C' ω' w0 C0 bP.heap w'/\ar C' ω' w' w0.heap.size bP.env a'.tmps) a w
def IsoCall (P:Program)(k:Nat)(args:List AVal)(v:AVal)(ow:Bool):Prop:=
 ∀(K:Nat->Nat->Option Value) (w:World) (vs:List Value),Tabs P w ->
  (∀r o u,K r o=En u->w.cell? ⟨r,o,Ik⟩=En u)->(∀r o u,K r o=En u->u.oneCell'=H3)->bj (.bZ K) args vs ->
  CallsIn Fence.wide 0 P k ⟨vs⟩ w fun e w'=>∃u K',e=.returned u/\Ext w w'/\(∀r o x,K r o=En x->K' r o=En x)/\(∀r o,r<w.heap.size->K' r o=K r o) /\
   (∀r o x,K' r o=En x->w'.cell? ⟨r,o,Ik⟩=En x)/\(∀r o x,K' r o=En x->x.oneCell'=H3)/\bS (.bZ K') v u /\
   (ow=H3->∃ℓ ω',aW (.bZ K') ω' w' w.heap.size ℓ v u)
def Enters (P : Program) (k : Nat) : Prop := ∃ fn, P.funcs[k]? = En fn ∧ fn.name ≠ "runtime.NumGoroutine" ∧ fn.body.isSome
def Bc (P:Program)(k:Nat)(args:List AVal)(h:qf)(v:AVal)(ow:Bool)(h':qf):Prop:=
 ∀(C:aQ) (ω:Nat->Option Loc) (w:World) (vs:List Value),bj C args vs->aA P C ω w C h w ->
  CallsIn Fence.wide 0 P k ⟨vs⟩ w fun e w'=>∃u C' ω',e=.returned u/\C.le C'/\aA P C' ω' w C h' w'/\bS C' v u/\(ow=H3->aW C' ω' w' w.heap.size (.slot 0) v u)
def T9 (P:Program)(k:Nat)(es:List (AVal×AVal)):Prop:=
 ∀(K:Nat->Nat->Option Value) (w:World),Tabs P w ->
  (∀r o u,K r o=En u->w.cell? ⟨r,o,Ik⟩=En u)->(∀r o u,K r o=En u->u.oneCell'=H3) ->
  CallsIn Fence.wide 0 P k ⟨[]⟩ w fun e w'=>∃q K' cr clock,e=.returned (.map (En q))/\Ext w w'/\(∀r o x,K r o=En x->K' r o=En x)/\(∀r o,r<w.heap.size->K' r o=K r o) /\
   (∀r o x,K' r o=En x->w'.cell? ⟨r,o,Ik⟩=En x)/\(∀r o x,K' r o=En x->x.oneCell'=H3)/\w.heap.size<=q/\w'.heap[q]?=En (.map cr clock)/\cI (.bZ K') es cr.toList
structure bX (P:Program)(p:j8):Prop where
 fn:∀k f,p.br k=En f->∃fn h,P.funcs[k]?=En fn/\xO P h fn=En f
 fM:∀k f,p.cB k=En f->Enters P k/\∀args v o,f args=En (v,o)->l7 v=H3->qo 0 args=H3->IsoCall P k args v o
 mixed:P.follows .mixedOrders=H3
 eU:∀k f,p.cF k=En f->Enters P k/\∀args h v o h',f args h=En (v,o,h')->Bc P k args h v o h':=by intro k f h;cases h
 maps:∀k es,p.maps k=En es->Enters P k/\T9 P k es:=by intro k f h;cases h
theorem Ua {P h fn f} (hc : xO P h fn = En f) : ∃ c, fn.body = En c ∧ hM P h fn.ntmps c = En f.body ∧ vX P fn.results.toList = En f.results ∧ f.ntmps = fn.ntmps ∧ fn.name ≠ "runtime.NumGoroutine" := by
 unfold xO at hc;split at hc
 .rename_i c hb;split at hc
  .rename_i b rs Y I;split at hc
   .cases hc
   .rename_i hn;cases hc;exact⟨c,hb,Y,I,rfl,by simpa using hn⟩
  .cases hc
 .cases hc
theorem bX.enters {P p}(h:bX P p){k f}(hf:p.br k=En f):Enters P k:=by
 obtain⟨fn,hh,Y,I⟩:=h.fn k f hf;obtain⟨c,hb,_,_,_,hn⟩:=Ua I;exact⟨fn,Y,hn,by simp[hb]⟩
theorem qsc {P k}(h:Enters P k)(args:Array Value)(w:World):(callFunc k args).run P w=.ok (.enter k args) w:=by
 obtain⟨fn,Y,I,h3⟩:=h;simp[callFunc,Y,I,Option.isNone_iff_eq_none,Option.isSome_iff_ne_none.1 h3]
section
variable {P:Program}{p:j8}{xc:XC}{C C0:aQ}{ω:Nat->Option Loc}{w w0:World}{hp:qf}{env:Env}{tmps:Array Value}{B:Nat}{a:Act}{o:Oper}{d:Loc}
theorem qv9:∀ {args:List AVal} {i s:Nat} {x:AVal×Bool},jn s (pH i args)=En x->∃j,s=i+j/\args[j]?=En x.1/\x.2=Ig
 | [],_,_,_,h=>by simp[pH,jn]at h
 |v::args,i,s,x,h=>by
  simp only[pH,jn]at h
  cases hb:If i s with
  |true=>
   simp only[hb,cond_true,En.injEq]at h;subst h;exact⟨0,(Hc hb).symm,rfl,rfl⟩
  |false=>
   simp only[hb,cond_false]at h;obtain⟨j,Y,I,h3⟩:=qv9 h;exact⟨j+1,by omega,by simpa using I,h3⟩
theorem jdr {r o v}(h:w.cell? ⟨r,o,Ik⟩=En v):∃cs t fr,w.heap[r]?=En (.cells cs t fr):=by
 unfold World.cell? at h;split at h
 .rename_i cs t fr hg;exact⟨cs,t,fr,hg⟩
 .cases h
theorem aA.other {D'}(m:aA P C ω w0 C0 hp w){r w'}(hu:nZ w w' r)(hβ:∀b,C.β b≠En r)(Q:w0.heap.size<=r)(mg:∀cs t fr,w.heap[r]?≠En (.cells cs t fr))(hD:∀k,D' k->C.D k/\k≠r)(h0:∀k,C0.D k->D' k):
  aA P { C with D:=D' } ω w0 C0 hp w':=by
 have cZ:∀ {B:Nat} {ℓ:Loc} {x:AVal} {v:Value},aW C ω w B ℓ x v->aW { C with D:=D' } ω w' B ℓ x v:=by
  intro B ℓ x v ho;unfold aW at *;split at ho
  .obtain⟨Y,I,h3,h4,h8,⟨cells,elem,h5,h6⟩,h7⟩:=ho;refine⟨Y,I,h3,h4,h8,⟨cells,elem,?_,h6⟩,h7⟩;rw[hu.other _ (fun h=>mg _ _ _ (h▸h5))];exact h5
  .obtain⟨Y,I,h3,h4,h8,⟨cells,elem,h5,h6⟩,h7⟩:=ho;refine⟨Y,I,h3,h4,h8,⟨cells,elem,?_,h6⟩,h7⟩;rw[hu.other _ (fun h=>mg _ _ _ (h▸h5))];exact h5
  .trivial
 refine { base:=m.base,know:=?_,dk:=m.dk,apart:=m.apart,inj:=m.inj,lt:=?_,size:=?_,frame:=?_,fA:=?_,os:=hu.os.trans m.os,output:=hu.output.trans m.output,fresh:=m.fresh,grown:=⟨m.grown.k,m.grown.b,m.grown.w,h0,m.grown.t⟩,old:=m.old,box:=?_,iJ:=fun q hq=>by rw[hu.size];exact m.iJ q hq }
 .intro k p v hk;have hc:=m.know _ _ _ hk
  have bG:k≠r:=fun h=>by
   obtain⟨cs,t,fr,hg⟩:=jdr hc;exact mg cs t fr (h▸hg)
  simp only[World.cell?]at hc ⊢;rw[hu.other k bG];exact hc
 .intro b p hb;rw[hu.size];exact m.lt b p hb
 .rw[hu.size];exact m.size
 .intro k hk hn hw;rw[hu.other k (by omega)];exact m.frame k hk hn hw
 .intro k hk;obtain⟨Y,I⟩:=hD k hk;rw[hu.other k I];exact m.fA k Y
 .intro b x p M hb
  refine bM.imp (C:=C) (C':={ C with D:=D' }) ⟨fun _ _ _ h=>h,fun _ _ h=>h⟩ (hu.other p (fun h=>hβ b (h▸hb))) (fun j y v ho=>cZ ho) (m.box b x p M hb) (hq:=fun q n cap k=>by
   obtain⟨_,_,_,_,_,⟨cells,elem,h5,_⟩,_⟩:=k
   exact hu.other q (fun h=>mg _ _ _ (h▸h5)))
theorem aW.lI {D' r w'}(hu:nZ w w' r)(mg:∀cs t fr,w.heap[r]?≠En (.cells cs t fr)){ℓ x v}(ho:aW C ω w B ℓ x v):aW { C with D:=D' } ω w' B ℓ x v:=by
 unfold aW at *;split at ho
 .obtain⟨Y,I,h3,h4,h8,⟨cells,elem,h5,h6⟩,h7⟩:=ho;refine⟨Y,I,h3,h4,h8,⟨cells,elem,?_,h6⟩,h7⟩;rw[hu.other _ (fun h=>mg _ _ _ (h▸h5))];exact h5
 .obtain⟨Y,I,h3,h4,h8,⟨cells,elem,h5,h6⟩,h7⟩:=ho;refine⟨Y,I,h3,h4,h8,⟨cells,elem,?_,h6⟩,h7⟩;rw[hu.other _ (fun h=>mg _ _ _ (h▸h5))];exact h5
 .trivial
theorem bS.sP {D' x v}(h:bS C x v):bS { C with D:=D' } x v:=aM.imp (C:=C) (C':={ C with D:=D' }) ⟨fun _ _ _ h=>h,fun _ _ h=>h⟩ h
theorem ar.lI {D' r w'}(hu:nZ w w' r)(mg:∀cs t fr,w.heap[r]?≠En (.cells cs t fr))(e:ar C ω w B env tmps):ar { C with D:=D' } ω w' B env tmps:=
 fun s x G=>let ⟨v,Y,I,h3⟩:=e s x G; ⟨v,Y,bS.sP I,fun h=>(h3 h).lI hu mg⟩
theorem q3s {fn R}:∀(rs:List Nat) (C':aQ) (w:World),C.le C'->aA P C' ω w0 C hp w->ar C' ω w w0.heap.size env tmps->rs.Nodup->(∀r∈rs,C'.D r/\w0.heap.size<=r)->(∀k,C.D k->k<w0.heap.size) ->
  (∀(C2:aQ) (w2:World),C.le C2->C2.D=C.D->aA P C2 ω w0 C hp w2->ar C2 ω w2 w0.heap.size env tmps->∃v,(results fn tmps).run P w2=.ok v w2/\R (.returned v) w2) ->
  LeavesInM Fence.wide 0 P fn tmps R (rs.map fun r=>{ target:=.collected r,args:=#[] }) .returning w
 | [],C',w,hle,m,e,_,_,hD,eE=>by
  have Nu:∀ {k},C.D k->C'.D k:=fun h=>hle.d _ h
  -- the marks are forgotten
  have m2:aA P { C' with D:=C.D } ω w0 C hp w:={ m with
   fA:=fun r Q=>m.fA r (Nu Q)
   grown:=⟨m.grown.k,m.grown.b,m.grown.w,fun _ h=>h,m.grown.t⟩
   box:=fun b x r M hb=>bM.imp (C:=C') (C':={ C' with D:=C.D }) ⟨fun _ _ _ h=>h,fun _ _ h=>h⟩ rfl (fun j y v ho=>ho) (m.box b x r M hb) }
  have e2:ar { C' with D:=C.D } ω w w0.heap.size env tmps:=fun s x G=>let ⟨v,Y,I,h3⟩:=e s x G; ⟨v,Y,bS.sP I,h3⟩
  exact eE { C' with D:=C.D } w ⟨hle.k,hle.b,hle.w,fun _ h=>h,hle.t⟩ rfl m2 e2
 |r::rs,C',w,hle,m,e,FB,Iw,hD,eE=>by
  obtain⟨hDr,hBr⟩:=Iw r (by simp);have hg:=m.fA r hDr;have bg:=(Ib.1 hg).1
  have mg:∀cs t fr,w.heap[r]?≠En (.cells cs t fr):=fun cs t fr h=>by rw[hg]at h;cases h
  have hu:nZ w (ko w r (.deferred Ik)) r:=FD bg (by simp)
  have hβ:∀b,C'.β b≠En r:=by
   intro b hb;obtain⟨x,M⟩:=Jv (m.lt b r hb).2▸(⟨_,rfl⟩:∃x,En (hp[b]'(m.lt b r hb).2)=En x);have h0:=m.box b x r M hb
   cases x with
   |hole=>exact h0|cells cs=>obtain⟨vs,elem,Y,_⟩:=h0;rw[hg]at Y;cases Y|map es=>obtain⟨cr,clock,Y,_⟩:=h0;rw[hg]at Y;cases Y|iter s pos=>have Y:w.heap[r]?=_:=h0;rw[hg]at Y;cases Y|loop l=>obtain⟨lp,Y,_⟩:=h0;rw[hg]at Y;cases Y|fZ t e l=>obtain⟨p,v,Y,_⟩:=h0;rw[hg]at Y;cases Y|dead=>obtain⟨cs,t,Y⟩:=h0;rw[hg]at Y;cases Y|vec sz bN xs=>obtain⟨_,_,_,_,_,_,cs,t,Y⟩:=h0;rw[hg]at Y;cases Y
  have bF:(Instr.takeDeferred r).run P w=.ok [] (ko w r (.deferred Ik)):=by
   have G:=xY (P:=P) (x:=.deferred Ik) hg (by simp);simp only[Instr.takeDeferred,Sem.run_bind,rn hg (by simp),Result.andThen_ok,G,Sem.run_pure]
  refine⟨by simp,.inl ⟨r,_,rfl,bF,?_⟩⟩;have Ix:=List.nodup_cons.1 FB;have m2:=m.other (D':=fun k=>C'.D k/\k≠r) hu hβ hBr mg (fun k h=>h) (fun k h=>⟨hle.d k h,fun hk=>by have:=hD k h;omega⟩)
  exact q3s rs { C' with D:=fun k=>C'.D k/\k≠r } _ ⟨hle.k,hle.b,hle.w,fun k h=>⟨hle.d k h,fun hk=>by have:=hD k h;omega⟩,hle.t⟩ m2 (e.lI hu mg) Ix.2
   (fun k hk=>⟨⟨(Iw k (by simp[hk])).1,fun h=>Ix.1 (h▸hk)⟩,(Iw k (by simp[hk])).2⟩) hD eE
theorem ja0 (M:cJ P xc){k fn h f}(hfn:P.funcs[k]?=En fn)(hc:xO P h fn=En f){args v ow h'}(Q:rh xc f args hp=En (v,ow,h')){vs}(eA:bj C args vs)(m:aA P C ω w C hp w):
  CallsIn Fence.wide 0 P k ⟨vs⟩ w fun e w'=>∃u C' ω',e=.returned u/\C.le C'/\aA P C' ω' w C h' w'/\bS C' v u/\(ow=H3->aW C' ω' w' w.heap.size (.slot 0) v u):=by
 obtain⟨c,hb,Y,I,h3,_⟩:=Ua hc;unfold rh at Q;have hD:∀k,C.D k->k<w.heap.size:=fun k hk=>(Ib.1 (m.fA k hk)).1
 cases hle:I7 args.length f.ntmps with
 |false=>simp[hle]at Q
 |true=>
  simp only[hle,cond_true]at Q;have hlen:=H9 hle;have wh:=eA.length;refine callsIn_of_wp_marks hfn hb trivial ?_
  have db:((⟨vs⟩:Array Value)++Eac (fn.ntmps-(⟨vs⟩:Array Value).size) undef).size=fn.ntmps:=by
   simp;omega
  have Iy:ar C ω w w.heap.size (pH 0 args) ((⟨vs⟩:Array Value)++Eac (fn.ntmps-(⟨vs⟩:Array Value).size) undef):=by
   intro s x M;obtain⟨j,rfl,hj,hf⟩:=qv9 M;obtain⟨u,k1,k2⟩:=eA.get hj;have bg:j<vs.length:=(Ic.1 k1).1;refine⟨u,?_,k2,by simp[hf]⟩;rw[Nh,Array.getElem?_append_left (by simpa using bg)];simpa using k1
  have fin:∀(st:bn) (a':Act) (w':World) (C':aQ) (ω':Nat->Option Loc),C.le C'->Marks C' w.heap.size a'.defers->aA P C' ω' w C st.heap w'->ar C' ω' w' w.heap.size st.env a'.tmps ->
    (match ky st f.results with
     |some xs=>En ((ze xs).1,(ze xs).2,l8 st f.results)
     |none=>Ik)=En (v,ow,h') ->
    LeavesInM Fence.wide 0 P fn a'.tmps (fun e w'=>∃u C' ω',e=.returned u/\C.le C'/\aA P C' ω' w C h' w'/\bS C' v u/\(ow=H3->aW C' ω' w' w.heap.size (.slot 0) v u)) a'.defers .returning w':=by
   intro st a' w' C' ω' hle ⟨rs,hds,FB,Iw⟩ m' e' Q;rw[hds];refine q3s (C:=C) (ω:=ω') (w0:=w) (hp:=st.heap) (env:=st.env) rs C' w' hle m' e' FB Iw hD ?_;intro C2 w2 jZ _ m2 e2;split at Q
   .rename_i xs rj;cases Q;obtain⟨u,ω2,k1,k2,k3,k4⟩:=jbg (fn:=fn) m2 e2 I rj;exact⟨u,k1,u,C2,ω2,rfl,jZ,k2,k3,k4⟩
   .cases Q
  split at Q
  .rename_i st ct;refine wpIn_mono (M Ik fn.ntmps c f.body _ _ _ ⟨h,Y⟩ (fun h=>absurd rfl h) ct C ω w C _ w m Iy db Marks.nil) ?_;rintro e a' w' ⟨rfl,q1,C',ω',q3,q2,q4,q5⟩;exact fin st a' w' C' ω' q3 q2 q4 q5 Q
  .rename_i st ct;refine wpIn_mono (M Ik fn.ntmps c f.body _ _ _ ⟨h,Y⟩ (fun h=>absurd rfl h) ct C ω w C _ w m Iy db Marks.nil) ?_;rintro e a' w' ⟨rfl,q1,C',ω',q3,q2,q4,q5⟩;exact fin st a' w' C' ω' q3 q2 q4 q5 Q
  .cases Q
theorem q8a {K}(ht:Tabs P w)(Y:∀r o u,K r o=En u->w.cell? ⟨r,o,Ik⟩=En u)(I:∀r o u,K r o=En u->u.oneCell'=H3):aA P (.bZ K) (fun _=>Ik) w (.bZ K) [] w where
 base:=⟨ht,fun g _=>⟨fun b h=>(by cases h),fun h=>h⟩⟩
 know:=Y
 dk:=I
 apart:=by simp[aQ.bZ]
 inj:=by simp[aQ.bZ]
 lt:=by simp[aQ.bZ]
 size:=Nat.le_refl _
 frame _ _ _ _:=rfl
 fA _ h:=h.elim
 os:=rfl
 output:=rfl
 fresh:=by simp[aQ.bZ]
 grown:=aQ.le_refl _
 old _ _ _ _:=rfl
 box:=by simp
 iJ _ h:=h.elim
theorem Iz (hp:bX P p)(M:cJ P xc){k args h h' v ow}(Q:ai p xc k args h=En (v,ow,h')):Enters P k/\Bc P k args h v ow h':=by
 unfold ai at Q;split at Q
 .rename_i f hf;obtain⟨fn,hh,hfn,IA⟩:=hp.fn k f hf;exact⟨hp.enters hf,fun C ω w vs eA m=>ja0 M hfn IA Q eA m⟩
 .split at Q
  .rename_i f hf;obtain⟨he,G⟩:=hp.eU k f hf;exact⟨he,G _ _ _ _ _ Q⟩
  .cases Q
theorem cI.bZ {es ms}(h:cI C es ms):kr 0 es=H3->cI (.bZ C.K) es ms:=by
 induction h with
 |nil=>exact fun _=>.nil
 |cons k v es m ms hk hv _ ih=>
  intro hb;simp only[kr,E6]at hb;exact .cons _ _ _ _ _ (aM.shift (C:=C) (C':=.bZ C.K) 0 (fun _ _ _ h=>h) (fun b r bg=>by omega) hk hb.1.1) (aM.shift (C:=C) (C':=.bZ C.K) 0 (fun _ _ _ h=>h) (fun b r bg=>by omega) hv hb.1.2) (ih hb.2)
theorem jfa (hp:bX P p)(M:cJ P xc){k b ow Y es}(Q:ai p xc k [] []=En (.map b,ow,Y))(hb:Y[b]?=En (.map es))(he:kr 0 es=H3):Enters P k/\T9 P k es:=by
 obtain⟨mR,n8⟩:=Iz hp M Q;refine⟨mR,fun K w ht g1 g2=>?_⟩;refine CallsIn.mono (n8 _ _ _ [] .nil (q8a (P:=P) ht g1 g2)) ?_;rintro e w' ⟨u,C',ω',rfl,hle,m',gi,_⟩
 cases gi with
 |map _ q hq=>
  obtain⟨cr,clock,k1,k2⟩:=m'.box b _ q hb hq;refine⟨q,C'.K,cr,clock,rfl,⟨m'.size,fun r Q=>m'.frame r Q (by simp[aQ.bZ]) (by simp[aQ.bZ]),m'.os,m'.output⟩,hle.1,fun r o Q=>m'.old r o Q (by simp[aQ.bZ]),m'.know,m'.dk,?_,k1,k2.bZ he⟩;rcases m'.fresh b q hq with h|h|h
  .cases h
  .exact h
  .exact h.elim
theorem Nv (hp:bX P p)(M:cJ P xc){k args v ow}(Q:ae p xc k args=En (v,ow))(hb:qo 0 args=H3):Enters P k/\l7 v=H3/\IsoCall P k args v ow:=by
 unfold ae at Q;split at Q
 .rename_i f hf;obtain⟨he,IB⟩:=hp.fM k f hf;split at Q
  .rename_i v' o' IC
   cases lf:l7 v' with
   |false=>simp[lf]at Q
   |true=>
    simp only[lf,cond_true]at Q;cases Q;exact⟨he,lf,IB args _ _ IC lf hb⟩
  .cases Q
 .split at Q
  .rename_i v0 o' h' IC;split at Q
   .rename_i v' FH
    cases lf:l7 v' with
    |false=>simp[lf]at Q
    |true=>
     simp only[lf,cond_true]at Q;cases Q;obtain⟨mR,n8⟩:=Iz hp M IC
     .refine⟨mR,lf,?_⟩;intro K w vs ht Y I eA;have:=n8 _ _ _ _ eA (q8a (P:=P) ht Y I);refine CallsIn.mono this ?_;rintro e w' ⟨u,C',ω',rfl,hle,m',gi,cZ⟩;refine⟨u,zy C' h' w',rfl,?_,fun r o x Q=>Ir m' (hle.1 r o x Q),fun r o Q=>?_,fun r o x Q=>(Nt m' Q).1,fun r o x Q=>(Nt m' Q).2,jbc m' FH gi lf,?_⟩
      .exact⟨m'.size,fun r Q=>m'.frame r Q (by simp[aQ.bZ]) (by simp[aQ.bZ]),m'.os,m'.output⟩
      .have hold:=m'.old r o Q (by simp[aQ.bZ]);unfold zy;rw[if_neg]
       .exact hold
       intro hh;have:=jg5 hle.w m' hh;omega
      .intro ho;simp only[E6]at ho;have hℓ:=cZ ho.1;refine⟨.slot 0,ω',?_⟩
       cases v0 with
       |list n sz xs=>
        have IE:v=.list n sz xs:=by
         simp only[aX,jL,En.injEq]at FH;exact FH.symm
        subst IE;unfold aW at *;split at hℓ
        .obtain⟨g1,g2,g3,g4,g5,g6,g7⟩:=hℓ;refine⟨g1,.inl (g2.resolve_right (by rw[hle.w];exact fun h=>h)),by simp[aQ.bZ],g4,g5,g6,fun o x5=>?_⟩;show zy C' h' w' _ o=Ik;unfold zy;rw[if_neg]
         .exact g7 o x5
         .rintro (⟨b,hb⟩|hh)
          .exact g3 b hb
          .rcases hh.is m' with⟨b,hb⟩|⟨b,_,_,_,_,_,_,I⟩
           .exact g3 b hb
           .have:=I.1;rw[g1]at this;simp at this
        all_goals trivial
       |_=>exact absurd ho.2 (by simp[AVal.cP])
   .cases Q
  .cases Q
end
section
variable {P:Program}{p:j8}{xc:XC}{C C0 C1:aQ}{ω ω1:Nat->Option Loc}{w w' w0:World}{hp Y:qf}{env:Env}{tmps:Array Value}{B:Nat}{a:Act}{o:Oper}{d:Loc}
theorem aW.grow {K' ℓ x v}(M:Ext w w')(hK:∀r o,r<w.heap.size->K' r o=C.K r o)(ho:aW C ω w B ℓ x v):aW { C with K:=K' } ω w' B ℓ x v:=by
 unfold aW at *;split at ho
 .obtain⟨Y,I,h3,h4,h8,⟨cells,elem,h5,h6⟩,h7⟩:=ho;have bg:=(Ib.1 h5).1
  exact⟨Y,I,h3,h4,h8,⟨cells,elem,M.get h5,h6⟩,fun o ho=>by
   show K' _ o=Ik
   rw[hK _ o bg];exact h7 o ho⟩
 .obtain⟨Y,I,h3,h4,h8,⟨cells,elem,h5,h6⟩,h7⟩:=ho;have bg:=(Ib.1 h5).1
  exact⟨Y,I,h3,h4,h8,⟨cells,elem,M.get h5,h6⟩,fun o ho=>by
   show K' _ o=Ik
   rw[hK _ o bg];exact h7 o ho⟩
 .trivial
theorem aA.bZ {K'}(m:aA P C ω w0 C0 hp w)(M:Ext w w')(hle:∀r o x,C.K r o=En x->K' r o=En x)(hK:∀r o,r<w.heap.size->K' r o=C.K r o)(hk:∀r o x,K' r o=En x->w'.cell? ⟨r,o,Ik⟩=En x)(Y:∀r o x,K' r o=En x->x.oneCell'=H3):
  aA P { C with K:=K' } ω w0 C0 hp w' where
 base:=m.base
 know:=hk
 dk:=Y
 apart b r o hb:=by
  show K' r o=Ik;rw[hK r o (m.lt b r hb).1];exact m.apart b r o hb
 inj:=m.inj
 lt b r hb:=⟨Ld (m.lt b r hb).1 M.size,(m.lt b r hb).2⟩
 size:=Jd m.size M.size
 frame:=(m.ext M).frame
 fA:=(m.ext M).fA
 os:=(m.ext M).os
 output:=(m.ext M).output
 fresh:=m.fresh
 grown:=aQ.le_trans m.grown ⟨hle,fun _ _ h=>h,rfl,fun _ h=>h,fun _ h=>h⟩
 old r o Q hw:=by
  show K' r o=_;rw[hK r o (Ld Q m.size)];exact m.old r o Q hw
 box b x r hb Q:=by
  have h0:=m.box b x r hb Q
  -- in the new world first,then in the richer context
  cases x with
  |hole=>exact h0
  |cells cs=>
   obtain⟨vs,elem,g1,g2,g3⟩:=h0;exact⟨vs,elem,M.get g1,g2,fun j c hc=>let ⟨v,a,q,b,d⟩:=g3 j c hc; ⟨v,a,q,aM.mono (C':={ C with K:=K' }) ⟨hle,fun _ _ h=>h,rfl,fun _ h=>h,fun _ h=>h⟩ b,fun e=>(d e).grow M hK⟩⟩
  |map es=>obtain⟨cr,clock,g1,g2⟩:=h0;exact⟨cr,clock,M.get g1,cI.mono (C:=C) (C':={ C with K:=K' }) ⟨hle,fun _ _ h=>h,rfl,fun _ h=>h,fun _ h=>h⟩ g2⟩|iter s pos=>exact M.get h0|loop l=>obtain⟨lp,g1,g2⟩:=h0;exact⟨lp,M.get g1,cE.mono (C:=C) (C':={ C with K:=K' }) ⟨hle,fun _ _ h=>h,rfl,fun _ h=>h,fun _ h=>h⟩ g2⟩|fZ t e l=>obtain⟨p,v,g1,g2,g3,g4⟩:=h0;exact⟨p,v,M.get g1,g2,g3,g4.grow M hK⟩|dead=>obtain⟨cs,t,g1⟩:=h0;exact⟨cs,t,M.get g1⟩
  |vec sz bN xs=>
   have hg:∀ {k:Nat} {c:Array Value} {t:TypeId},w.heap[k]?=En (.cells c t (0,0))->w'.heap[k]?=w.heap[k]?:=fun hk=>by rw[M.get hk,hk]
   obtain⟨_,_,_,_,_,_,cs,t,g1⟩:=id h0;refine ej.imp hle (fun _ h=>h) (fun _ h _=>h) (hg g1) (fun q n cap k=>⟨?_,k.grow M hK⟩) h0;obtain⟨_,_,_,_,_,⟨cells,elem,h5,_⟩,_⟩:=k;exact hg h5
 iJ q hq:=Ld (m.iJ q hq) M.size
theorem ar.bZ {K'}(e:ar C ω w B env tmps)(M:Ext w w')(hle:∀r o x,C.K r o=En x->K' r o=En x)(hK:∀r o,r<w.heap.size->K' r o=C.K r o):ar { C with K:=K' } ω w' B env tmps:=
 fun s x G=>let ⟨v,Y,I,h3⟩:=e s x G; ⟨v,Y,aM.mono (C':={ C with K:=K' }) ⟨hle,fun _ _ h=>h,rfl,fun _ h=>h,fun _ h=>h⟩ I,fun h=>(h3 h).grow M hK⟩
theorem q9x (m:aA P C ω w0 C0 hp w)(e:ar C ω w w0.heap.size env tmps){v ow u K'}(M:Ext w w')(hle:∀r o x,C.K r o=En x->K' r o=En x)(hK:∀r o,r<w.heap.size->K' r o=C.K r o)(hk:∀r o x,K' r o=En x->w'.cell? ⟨r,o,Ik⟩=En x)(Y:∀r o x,K' r o=En x->x.oneCell'=H3)
  (lf:l7 v=H3) (Q:bS (.bZ K') v u) (ho:ow=H3->∃ℓ ω',aW (.bZ K') ω' w' w.heap.size ℓ v u):zu P C0 w0 C tmps d env ⟨v,ow,Ik,hp⟩ u w':=by
 have m':=m.bZ M hle hK hk Y;have e':=e.bZ M hle hK;have kT:bS { C with K:=K' } v u:=aM.shift (C:=.bZ K') (C':={ C with K:=K' }) 0 (fun _ _ _ h=>h) (fun b r bg=>by omega) Q lf;have cU:C.le { C with K:=K' }:=⟨hle,fun _ _ h=>h,rfl,fun _ h=>h,fun _ h=>h⟩;by_cases hkL:∃(n:Bool) (sz:Nat) (xs:List AVal) (ad:Addr) (len cap:Nat),v=.list n sz xs/\u=.slice (En ad) len cap/\ow=H3
 .obtain⟨n,sz,xs,ad,len,cap,rfl,rfl,rfl⟩:=hkL;obtain⟨ℓ,ω',g1,Ub,g3,g4,g5,g6,g7⟩:=ho rfl;have g2:w.heap.size<=ad.block:=Ub.resolve_right (fun h=>h)
  have Bd:∀ℓ x v,aW C ω w w0.heap.size ℓ x v->aW { C with K:=K' } (cO ω ad.block d) w' w0.heap.size ℓ x v:=fun ℓ x v h=>by
   have I:=(h.fresh (ℓ':=d) g2).grow M hK;exact I
  refine⟨{ C with K:=K' },cO ω ad.block d,cU,?_,?_,kT,fun _=>?_⟩
  .have:=(m.lB ad.block d g2).bZ M hle hK hk Y;exact this
  .exact fun s x G=>let ⟨v,Y,I,h3⟩:=e s x G; ⟨v,Y,aM.mono cU I,fun h=>Bd _ _ _ (h3 h)⟩
  .refine⟨by simp[cO],.inl (Jd m.size g2),fun b hb=>?_,g4,g5,g6,g7⟩;have:=(m.lt b _ hb).1;omega
 by_cases dw:∃(n:Nat) (ad:Addr),v=.cW n/\u=.pointer (En ad)/\ow=H3
 .obtain⟨n,ad,rfl,rfl,rfl⟩:=dw;obtain⟨ℓ,ω',g1,Ub,g3,g4,g5,g6,g7⟩:=ho rfl;have g2:w.heap.size<=ad.block:=Ub.resolve_right (fun h=>h)
  have Bd:∀ℓ x v,aW C ω w w0.heap.size ℓ x v->aW { C with K:=K' } (cO ω ad.block d) w' w0.heap.size ℓ x v:=fun ℓ x v h=>by
   have I:=(h.fresh (ℓ':=d) g2).grow M hK;exact I
  refine⟨{ C with K:=K' },cO ω ad.block d,cU,?_,?_,kT,fun _=>?_⟩
  .have:=(m.lB ad.block d g2).bZ M hle hK hk Y;exact this
  .exact fun s x G=>let ⟨v,Y,I,h3⟩:=e s x G; ⟨v,Y,aM.mono cU I,fun h=>Bd _ _ _ (h3 h)⟩
  .refine⟨by simp[cO],.inl (Jd m.size g2),fun b hb=>?_,g4,g5,g6,g7⟩;have:=(m.lt b _ hb).1;omega
 .refine⟨{ C with K:=K' },ω,cU,m',e',kT,fun h=>?_⟩
  cases v with
  |list n sz xs=>
   cases u with
   |slice q len cap=>
    cases q with
    |some ad=>exact absurd ⟨_,_,_,_,_,_,rfl,rfl,h⟩ hkL|none=>trivial
   |_=>trivial
  |cW n=>
   cases u with
   |pointer q=>
    cases q with
    |some ad=>exact absurd ⟨_,_,rfl,rfl,h⟩ dw|none=>trivial
   |_=>trivial
  |_=>trivial
theorem jnl (m:aA P C ω w0 C0 hp w)(e:ar C ω w w0.heap.size env tmps){b q K' es cr clock}(M:Ext w w')(hle:∀r o x,C.K r o=En x->K' r o=En x)(hK:∀r o,r<w.heap.size->K' r o=C.K r o)(hk:∀r o x,K' r o=En x->w'.cell? ⟨r,o,Ik⟩=En x)(Y:∀r o x,K' r o=En x->x.oneCell'=H3)
  (hh:hp[b]?=En .hole) (hq:w.heap.size<=q) (hg:w'.heap[q]?=En (.map cr clock)) (Q:cI (.bZ K') es cr.toList):zu P C0 w0 C tmps d env ⟨.map b,Ig,Ik,hp.set b (.map es)⟩ (.map (En q)) w':=by
 have m':=m.bZ M hle hK hk Y;have e':=e.bZ M hle hK;have cU:C.le { C with K:=K' }:=⟨hle,fun _ _ h=>h,rfl,fun _ h=>h,fun _ h=>h⟩;obtain⟨m2,e2,jZ⟩:=m'.H7 e' hh hg (fun k hk=>by have:=(m.lt k q hk).1;omega) (Jd m.size hq) (cI.imp (C:=.bZ K') (C':={ C with K:=K' }) ⟨fun _ _ _ h=>h,fun b r h=>by simp[aQ.bZ]at h⟩ Q);exact⟨_,ω,aQ.le_trans cU jZ,m2,e2,.map _ _ (by simp[aQ.box]),by simp⟩
theorem IF {C C' x v}(hp:oJ x=H3)(h:bS C x v):bS C' x v:=by
 cases x<;>simp only[oJ,Ij]at hp<;>cases h<;>constructor
theorem aA.Uc (m:aA P C ω w0 C0 hp w)(e:ar C ω w w0.heap.size env tmps){b q K' cells}{t:TypeId}{cs}(M:Ext w w')(hle:∀r o x,C.K r o=En x->K' r o=En x)(hK:∀r o,r<w.heap.size->K' r o=C.K r o)(hk:∀r o x,K' r o=En x->w'.cell? ⟨r,o,Ik⟩=En x)(Y:∀r o x,K' r o=En x->x.oneCell'=H3)
  (hq:w.heap.size<=q) (hn:∀o,K' q o=Ik) (hh:hp[b]?=En .hole) (hg:w'.heap[q]?=En (.cells cells t (0,0))) (hl:cs.length<=cells.size)
  (hcs:∀(j:Nat) (c:AVal×Bool),cs[j]?=En c->∃v,cells[j]?=En v/\v.oneCell'=H3/\bS (({ C with K:=K' }:aQ).box b q) c.1 v/\c.2=Ig):
  aA P (({ C with K:=K' }:aQ).box b q) ω w0 C0 (hp.set b (.cells cs)) w'/\ar (({ C with K:=K' }:aQ).box b q) ω w' w0.heap.size env tmps/\C.le (({ C with K:=K' }:aQ).box b q):=by
 have m':=m.bZ M hle hK hk Y;have hβ:=H5 m hh;have Ba:C.le { C with K:=K' }:=⟨hle,fun _ _ h=>h,rfl,fun _ h=>h,fun _ h=>h⟩;have jZ:({ C with K:=K' }:aQ).le (({ C with K:=K' }:aQ).box b q):=aQ.lE (C:={ C with K:=K' }) (r:=q) hβ;have cU:=aQ.le_trans Ba jZ;have bg:b<hp.length:=(Ic.1 hh).1
 have Nw:∀k,C.β k≠En q:=fun k hk=>by have:=(m.lt k q hk).1;omega
 have cZ:∀ℓ x v,aW C ω w w0.heap.size ℓ x v->aW (({ C with K:=K' }:aQ).box b q) ω w' w0.heap.size ℓ x v:=fun ℓ x v h=>aW.grow (C:=C.box b q) M hK (aW.box (.inl hq) h);refine⟨{ m' with apart:=?_,inj:=?_,lt:=?_,fresh:=?_,grown:=aQ.le_trans m'.grown jZ,box:=?_ },?_,cU⟩
 .intro k r o hk;simp only[aQ.box]at hk;split at hk
  .cases hk;exact hn o
  .exact m'.apart k r o hk
 .intro k k' r hk fc;simp only[aQ.box]at hk fc;split at hk<;>split at fc
  .rename_i Y I;rw[Y,I]
  .cases hk;exact absurd fc (Nw k')
  .cases fc;exact absurd hk (Nw k)
  .exact m.inj k k' r hk fc
 .intro k r hk;rw[Jb];simp only[aQ.box]at hk;split at hk
  .rename_i Y;cases hk;subst Y;exact⟨(Ib.1 hg).1,bg⟩
  .exact m'.lt k r hk
 .intro k r hk;simp only[aQ.box]at hk;split at hk
  .cases hk;exact .inr (.inl (Jd m.size hq))
  .exact m.fresh k r hk
 .intro k y r hy hk;simp only[aQ.box]at hk;split at hk
  .rename_i Y;subst Y;cases hk;rw[Jc bg]at hy;cases hy;refine⟨cells,t,hg,hl,fun j c hc=>?_⟩;obtain⟨v,J,a2,a3,a4⟩:=hcs j c hc;exact⟨v,J,a2,a3,fun h=>by rw[a4]at h;cases h⟩
  .rename_i Y;rw[H2 (I9 Y)]at hy;have h0:=m.box k y r hy hk
   cases y with
   |hole=>exact h0
   |cells cs=>
    obtain⟨vs,elem,g1,g2,g3⟩:=h0;exact⟨vs,elem,M.get g1,g2,fun j c hc=>let ⟨v,a,q,b,d⟩:=g3 j c hc; ⟨v,a,q,aM.mono cU b,fun e=>cZ _ _ _ (d e)⟩⟩
   |map es=>obtain⟨cr,clock,g1,g2⟩:=h0;exact⟨cr,clock,M.get g1,cI.mono cU g2⟩|iter s pos=>exact M.get h0|loop l=>obtain⟨lp,g1,g2⟩:=h0;exact⟨lp,M.get g1,cE.mono cU g2⟩|fZ t e l=>obtain⟨p,v,g1,g2,g3,g4⟩:=h0;exact⟨p,v,M.get g1,g2,g3,cZ _ _ _ g4⟩|dead=>obtain⟨cs,t,g1⟩:=h0;exact⟨cs,t,M.get g1⟩
   |vec sz bN xs=>
    have Nx:∀ {k:Nat} {c:Array Value} {t:TypeId},w.heap[k]?=En (.cells c t (0,0))->w'.heap[k]?=w.heap[k]?:=fun hk=>by rw[M.get hk,hk]
    obtain⟨_,_,_,_,_,_,cs,t,g1⟩:=id h0;refine ej.imp hle (fun _ h=>h) (fun _ h _=>h) (Nx g1) (fun q n cap k'=>⟨?_,cZ _ _ _ k'⟩) h0;obtain⟨_,_,_,_,_,⟨cells,elem,h5,_⟩,_⟩:=k';exact Nx h5
 .exact fun s y hy=>let ⟨v,Y,I,h3⟩:=e s y hy; ⟨v,Y,aM.mono cU I,fun h=>cZ _ _ _ (h3 h)⟩
theorem aA.IG (m:aA P C ω w0 C0 hp w){b x}(hh:hp[b]?=En .hole):aA P C ω w0 C0 (hp.set b x) w:=by
 have hβ:=H5 m hh;refine { m with lt:=fun k r hk=>by rw[Jb];exact m.lt k r hk,box:=fun k y r hy hk=>?_ };by_cases mO:k=b
 .subst mO;rw[hβ]at hk;cases hk
 .rw[H2 (I9 mO)]at hy;exact m.box k y r hy hk
theorem jjv (m:aA P C ω w0 C0 hp w)(e:ar C ω w w0.heap.size env tmps){v ow u h0 r res K'}(M:Ext w w')(hle:∀r o x,C.K r o=En x->K' r o=En x)(hK:∀r o,r<w.heap.size->K' r o=C.K r o)(hk:∀r o x,K' r o=En x->w'.cell? ⟨r,o,Ik⟩=En x)(Y:∀r o x,K' r o=En x->x.oneCell'=H3)
  (Q:bS (.bZ K') v u) (ho:ow=H3->∃ℓ ω',aW (.bZ K') ω' w' w.heap.size ℓ v u) (ht:sn h0 hp r v ow=En res):zu P C0 w0 C tmps d env res u w':=by
 unfold sn at ht;split at ht
 .rename_i sz _;split at ht
  .rename_i h' hn;have hv:=qx ht;obtain⟨hh,rfl⟩:=ke hn;subst hv;have cU:C.le { C with K:=K' }:=⟨hle,fun _ _ h=>h,rfl,fun _ h=>h,fun _ h=>h⟩;refine⟨{ C with K:=K' },ω,cU,(m.bZ M hle hK hk Y).IG hh,e.bZ M hle hK,aM.shift (C:=.bZ K') (C':={ C with K:=K' }) 0 (fun _ _ _ h=>h) (fun b r bg=>by omega) Q (by rfl),fun h=>by simp at h⟩
  .cases ht
 .rename_i sz xs
  cases hb:(xs.flatMap AVal.flat).all oJ with
  |false=>rw[hb]at ht;cases ht
  |true=>
   rw[hb]at ht;simp only[cond_true]at ht;split at ht
   .rename_i h' hn;have hv:=qx ht;obtain⟨hh,rfl⟩:=ke hn;subst hv;obtain⟨ℓ,ω',ho⟩:=ho rfl
    cases Q with
    |jW sz a kQ=>
     simp only[aW]at ho;exact absurd ho.2.2.2.1 kQ
    |list sz _ q o cap hl cY=>
     simp only[aW]at ho;obtain⟨o1,o2,o3,_,o5,⟨cells,elem,o6,o7,_⟩,o8⟩:=ho;subst o5;have hq:w.heap.size<=q:=o2.resolve_right (fun h=>h)
     let K2:Nat->Nat->Option Value:=fun r o=>if r=q then Ik else K' r o
     have IH:∀ {r o x},K2 r o=En x->K' r o=En x:=by
      intro r o x h;simp only[K2]at h;split at h
      .cases h
      .exact h
     have jZ:∀r o x,C.K r o=En x->K2 r o=En x:=by
      intro r o x h
      have bg:r<w.heap.size:=by
       have:=m.know r o x h;unfold World.cell? at this;split at this
       .rename_i c _ _ hc;exact(Ib.1 hc).1
       .cases this
      have bG:r≠q:=by omega
      simp only[K2,if_neg bG];exact hle r o x h
     have Ud:∀r o,r<w.heap.size->K2 r o=C.K r o:=by
      intro r o bg
      have bG:r≠q:=by omega
      simp only[K2,if_neg bG];exact hK r o bg
     have hcells:=bB.cells cY
     have hlen:(xs.flatMap AVal.flat).length<=cells.size:=by
      rcases Nat.eq_zero_or_pos (xs.flatMap AVal.flat).length with h0|h0
      .omega
      .obtain⟨y,hy⟩:∃y,(xs.flatMap AVal.flat)[(xs.flatMap AVal.flat).length-1]?=En y:=⟨_,Jv (by omega)⟩;obtain⟨v,hv,_⟩:=cD.get hcells hy;have h3:=hk _ _ _ hv;unfold World.cell? at h3;rw[o6]at h3;simp only[J2,Ij,if_false]at h3;have:=(Ib.1 h3).1;omega
     obtain⟨m2,e2,l2⟩:=m.Uc e (b:=h0+r) (q:=q) (K':=K2) (cells:=cells) (t:=elem) (cs:=cellsOf (xs.flatMap AVal.flat)) M jZ Ud (fun r o x h=>hk r o x (IH h)) (fun r o x h=>Y r o x (IH h)) hq (fun o=>by simp[K2]) hh o6 (by rw[show(cellsOf (xs.flatMap AVal.flat)).length=(xs.flatMap AVal.flat).length by simp[cellsOf]];exact hlen) (by
      intro j c hc;simp only[cellsOf,Lf,Ia]at hc;obtain⟨y,hy,rfl⟩:=hc;obtain⟨v,hv,rz⟩:=cD.get hcells hy;have h3:=hk _ _ _ hv;unfold World.cell? at h3;rw[o6]at h3;simp only[J2,Ij,if_false,Nh]at h3
      exact⟨v,h3,Y _ _ _ hv,IF (I6.1 hb y (Jw hy)) rz,rfl⟩)
     exact⟨_,ω,l2,m2,e2,.ms _ 0 _ q cap (by simp[aQ.box]) hl,fun h=>by simp at h⟩
   .cases ht
 .cases ht
theorem jfh (m:aA P C ω w0 C0 hp w){x x' v}(hf:S4 hp x=En x')(h:bS C x v)(hb:Abs.below 0 x'=H3):bS (.bZ (zy C hp w)) x' v:=by
 unfold S4 at hf;split at hf
 .rename_i b len;split at hf
  .rename_i cs hcs
   cases hc:(If (len*(cs.length / len)) cs.length&&Il 0 (cs.length / len)&&cs.all (fun c=>oJ c.1))with
   |false=>
    rw[hc,cond_false]at hf
    cases hl:If len 0 with
    |false=>rw[hl]at hf;cases hf
    |true=>
     rw[hl]at hf;have hl:=Hc hl;subst hl;simp only[cond_true,En.injEq]at hf;subst hf;obtain⟨r,cap,iN,hle,rfl⟩:=h.eZ;exact aM.list (C:=.bZ (zy C hp w)) 8 [] r 0 cap (Nat.zero_le _) (.fO _ _ _)
   |true=>
    rw[hc]at hf;simp only[cond_true,En.injEq]at hf;subst hf;simp only[E6]at hc;obtain⟨⟨c1,c2⟩,c3⟩:=hc;have c1:=Hc c1
    have c2:0<cs.length / len:=by simpa using c2
    obtain⟨r,cap,iN,hle,rfl⟩:=h.eZ;obtain⟨vs,elem,k1,k2,k3⟩:=m.box b _ r (wm hcs) iN
    have cY:bB (.bZ (zy C hp w)) r (cs.length / len) (nu (cs.length / len) len (cs.map (·.1))) 0:=by
     refine T4 c2 (by rw[S0];exact c1.symm) (fun x M=>?_) fun j x M=>?_
     .obtain⟨c,hc,rfl⟩:=Eai.1 M;have:=I6.1 c3 c hc
      cases hq:c.1<;>rw[hq]at this<;>first|rfl|cases this
     .rw[Lf,Ia]at M;obtain⟨c,hc,rfl⟩:=M;obtain⟨u,q1,q2,q3,_⟩:=k3 j c hc
      have eh:w.cell? ⟨r,0+j,Ik⟩=En u:=by
       unfold World.cell?;rw[k1];simp only[J2,Ij,if_false,Nh];exact q1
      exact⟨u,T1 iN eh q2,IF (I6.1 c3 c (Jw hc)) q3⟩
    have:=aM.list (C:=.bZ (zy C hp w)) (cs.length / len) (nu (cs.length / len) len (cs.map (·.1))) r 0 cap (by rw[Iu];exact hle) cY;rw[Iu]at this;exact this
  .cases hf
 .cases hf;exact T2 m h hb
theorem qwb (m:aA P C ω w0 C0 hp w):∀ {xs fT:List AVal} {vs:List Value},xI hp xs=En fT->bj C xs vs->qo 0 fT=H3->bj (.bZ (zy C hp w)) fT vs
 | [],fT,vs,hf,h,_=>by
  simp only[xI,En.injEq]at hf;subst hf;cases h;exact .nil
 |x::xs,fT,vs,hf,h,hb=>by
  simp only[xI]at hf;split at hf
  .rename_i y ys Y I;cases hf
   cases h with
   |cons _ _ v vs M h=>
    simp only[qo,E6]at hb;exact .cons _ _ _ _ (jfh m Y M hb.1) (qwb m I h hb.2)
  .cases hf
theorem q1c {C C' x v}(hp:xJ x=H3)(h:bS C x v):bS C' x v:=by
 cases x with
 |agg cs=>
  obtain⟨vs,rfl,hl⟩:=h.eH;refine .agg _ _ ?_;simp only[xJ]at hp;clear h
  induction cs generalizing vs with
  |nil=>cases hl;exact .nil
  |cons c cs ih=>
   cases hl with
   |cons _ _ v vs M hl=>
    simp only[Eag,E6]at hp;exact .cons _ _ _ _ (IF hp.1 M) (ih hp.2 vs hl)
 |_=>exact IF hp h
theorem jpk {C C' x v}(h:bS C x v):bS C' (Fq x) v:=by
 unfold Fq
 cases hp:xJ x with
 |true=>exact q1c hp h|false=>exact .any _
theorem q38 {C C'}:∀ {xs:List AVal} {vs:List Value},bj C xs vs->bj C' (xs.map Fq) vs
 | [],_,h=>by cases h;exact .nil
 |x::xs,_,h=>by
  cases h with
  |cons _ _ v vs M h=>exact .cons _ _ _ _ (jpk M) (q38 h)
open Classical in
theorem jlj (m:aA P C ω w0 C0 hp w)(e:ar C ω w w0.heap.size env tmps){v v' ow II u K'}(M:Ext w w')(hle:∀r o x,zy C hp w r o=En x->K' r o=En x)(hK:∀r o,r<w.heap.size->K' r o=zy C hp w r o)(hk:∀r o x,K' r o=En x->w'.cell? ⟨r,o,Ik⟩=En x)(Y:∀r o x,K' r o=En x->x.oneCell'=H3)
  (Q:bS (.bZ K') v u) (ho:ow=H3->∃ℓ ω',aW (.bZ K') ω' w' w.heap.size ℓ v u) (ht:MX v ow=En (v',II)):zu P C0 w0 C tmps d env ⟨v',II,Ik,hp⟩ u w':=by
 let K2:Nat->Nat->Option Value:=fun r o=>if Hid C hp r then Ik else K' r o
 have IH:∀ {r o x},K2 r o=En x->K' r o=En x:=by
  intro r o x h;simp only[K2]at h;split at h
  .cases h
  .exact h
 have jZ:∀r o x,C.K r o=En x->K2 r o=En x:=by
  intro r o x h
  have hn:¬Hid C hp r:=by
   intro hh;rw[T0 m hh o]at h;cases h
  simp only[K2,if_neg hn];exact hle r o x (Ir m h)
 have Ud:∀r o,r<w.heap.size->K2 r o=C.K r o:=by
  intro r o bg;by_cases hb:Hid C hp r
  .simp only[K2,if_pos hb];exact(T0 m hb o).symm
  .simp only[K2,if_neg hb];rw[hK r o bg];unfold zy;rw[if_neg hb]
 have fin:∀(lf:l7 v'=H3) (kT:bS (.bZ K2) v' u) (x5:II=H3->∃ℓ ω',aW (.bZ K2) ω' w' w.heap.size ℓ v' u),zu P C0 w0 C tmps d env ⟨v',II,Ik,hp⟩ u w':=fun lf kT x5=>
  q9x m e M jZ Ud (fun r o x h=>hk r o x (IH h)) (fun r o x h=>Y r o x (IH h)) lf kT x5
 have ia:∀y,oJ y=H3->Abs.below 0 y=H3:=fun y hy=>by cases y<;>first|rfl|cases hy
 have sQ:∀ys:List AVal,ys.all oJ=H3->qo 0 ys=H3:=by
  intro ys
  induction ys with
  |nil=>intro _;rfl
  |cons y ys ih=>
   intro h;simp only[Eag,E6]at h;simp only[qo,E6];exact⟨ia y h.1,ih h.2⟩
 have oU:∀y,xJ y=H3->Abs.below 0 y=H3:=fun y hy=>by
  cases y with
  |agg cs=>simp only[Abs.below];exact sQ cs hy|_=>exact ia _ hy
 unfold MX at ht;split at ht
 .rename_i sz xs
  cases hb:(xs.flatMap AVal.flat).all oJ with
  |false=>rw[hb]at ht;cases ht
  |true=>
   rw[hb]at ht;simp only[cond_true,En.injEq,Nk.injEq]at ht;obtain⟨rfl,rfl⟩:=ht;obtain⟨ℓ,ω',ho⟩:=ho rfl
   cases Q with
   |jW sz a kQ=>
    simp only[aW]at ho;exact absurd ho.2.2.2.1 kQ
   |list sz _ q o cap hl cY=>
    simp only[aW]at ho;obtain⟨o1,o2,o3,o4,o5,o6,o8⟩:=ho;have hq:w.heap.size<=q:=o2.resolve_right (fun h=>h)
    have FI:¬Hid C hp q:=by
     intro hh;have:=jx2 m hh;omega
    have hKq:∀o,K2 q o=K' q o:=fun o=>by simp only[K2,if_neg FI]
    have hcells:=bB.cells cY
    have sF:bB (.bZ K2) q sz xs o:=by
     refine bB.eX (T3 fun j x M=>?_) (bB.sized cY);obtain⟨u,hu,hxu⟩:=cD.get hcells M;exact⟨u,by rw[show(aQ.bZ K2).K=K2 from rfl,hKq];exact hu,IF (I6.1 hb x (Jw M)) hxu⟩
    refine fin ?_ (.list sz _ q o cap hl sF) fun _=>⟨ℓ,ω',?_⟩
    .show l7 _=H3;unfold l7
     have iq:∀ys:List AVal,(ys.flatMap AVal.flat).all oJ=H3->qo 0 ys=H3:=by
      intro ys
      induction ys with
      |nil=>intro _;rfl
      |cons y ys ih=>
       intro h;rw[Z2,List.all_append,E6]at h;simp only[qo,E6];exact⟨by rw[<-M3];exact sQ _ h.1,ih h.2⟩
     simp only[Abs.below];exact iq xs hb
    .simp only[aW];exact⟨o1,o2,o3,o4,o5,o6,fun o' x5=>by rw[show(aQ.bZ K2).K=K2 from rfl,hKq];exact o8 o' x5⟩
 .simp only[En.injEq,Nk.injEq]at ht;obtain⟨rfl,rfl⟩:=ht;refine fin rfl ?_ (fun h=>by cases h);cases Q;exact .jV _
 .rename_i vs _;simp only[En.injEq,Nk.injEq]at ht;obtain⟨rfl,rfl⟩:=ht;obtain⟨us,rfl,hl⟩:=Q.oP;refine fin ?_ (.aJ _ _ (q38 hl)) (fun h=>by cases h);show Abs.below 0 _=H3;simp only[Abs.below]
  have:∀ys:List AVal,qo 0 (ys.map Fq)=H3:=by
   intro ys
   induction ys with
   |nil=>rfl
   |cons y ys ih=>
    simp only[Eah,qo,E6];refine⟨?_,ih⟩;unfold Fq
    cases hp:xJ y with
    |true=>exact oU y hp|false=>rfl
  exact this _
 .cases hb:xJ v with
  |false=>rw[hb]at ht;cases ht
  |true=>
   rw[hb]at ht;simp only[cond_true,En.injEq,Nk.injEq]at ht;obtain⟨rfl,rfl⟩:=ht;exact fin (oU v hb) (q1c hb Q) (fun h=>by cases h)
def aQ.shared (C:aQ)(ω:Nat->Option Loc)(w0:World):aQ:={ C with W:=fun r=>(∃b j,ω r=En (.cell b j))/\(w0.heap.size<=r\/C.W r) }
def sR (ω:Nat->Option Loc):Nat->Option Loc:=fun r=>match ω r with
 |some (.cell b j)=>En (.cell b j)|_=>Ik
theorem aW.shared {b j x v}(ho:aW C ω w w0.heap.size (.cell b j) x v):aW (C.shared ω w0) (sR ω) w w.heap.size (.cell b j) x v:=by
 unfold aW at *;split at ho
 .obtain⟨g1,g2,g3⟩:=ho;exact⟨by simp[sR,g1],.inr ⟨⟨b,j,g1⟩,g2⟩,g3⟩
 .obtain⟨g1,g2,g3⟩:=ho;exact⟨by simp[sR,g1],.inr ⟨⟨b,j,g1⟩,g2⟩,g3⟩
 .trivial
theorem Ue (m:aA P C ω w0 C0 hp w):aA P (C.shared ω w0) (sR ω) w (C.shared ω w0) hp w where
 base:=⟨m.tabs,fun g hg=>by
  obtain⟨Y,I⟩:=m.base.2 g hg;have bg:=(m.base.1 g hg).1;refine⟨fun b hb=>?_,fun h=>?_⟩
  ·rcases m.fresh b g hb with h|h|h
   ·exact Y b h
   ·omega
   ·exact I h
  ·rcases h.2 with h|h
   ·omega
   ·rw[m.grown.w]at h;exact I h⟩
 know:=m.know
 dk:=m.dk
 apart:=m.apart
 inj:=m.inj
 lt:=m.lt
 size:=Nat.le_refl _
 frame _ _ _ _:=rfl
 fA:=m.fA
 os:=rfl
 output:=rfl
 fresh _ _ h:=.inl h
 grown:=aQ.le_refl _
 old _ _ _ _:=rfl
 box b x r M hb:=bM.imp (C:=C) (C':=C.shared ω w0) ⟨fun _ _ _ h=>h,fun _ _ h=>h⟩ rfl (fun _ _ _ ho=>ho.shared) (m.box b x r M hb)
 iJ:=m.iJ
def n9 (ω ω1:Nat->Option Loc)(n:Nat):Nat->Option Loc:=fun r=>match decide (r<n),ω r with
 |true,En (.slot s)=>En (.slot s)|_,_=>sR ω1 r
def aQ.back (C1 C:aQ):aQ:={ C1 with W:=C.W }
theorem Ny (hle:(C.shared ω w0).le C1):C.le (C1.back C):=⟨hle.k,hle.b,rfl,hle.d,hle.t⟩
theorem aW.sS {s x v}(m1:aA P C1 ω1 w (C.shared ω w0) Y w')(ho:aW C ω w w0.heap.size (.slot s) x v):aW (C1.back C) (n9 ω ω1 w.heap.size) w' w0.heap.size (.slot s) x v:=by
 unfold aW at *;split at ho
 .rename_i ad len cap;obtain⟨g1,g2,g3,g4,g8,⟨cells,elem,g5,g6⟩,g7⟩:=ho;have bg:=(Ib.1 g5).1
  have Be:¬(C.shared ω w0).W ad.block:=fun h=>by
   obtain⟨⟨b,j,h⟩,_⟩:=h;rw[g1]at h;cases h
  refine⟨by simp[n9,bg,g1],g2,fun b hb=>?_,g4,g8,⟨cells,elem,?_,g6⟩,fun o ho=>?_⟩
  .rcases m1.fresh b _ hb with h|h|h
   .exact g3 b h
   .omega
   .exact Be h
  .rw[m1.frame _ bg g3 Be];exact g5
  .have:=m1.old _ o bg Be;show C1.K _ o=Ik;rw[this];exact g7 o ho
 .rename_i ad;obtain⟨g1,g2,g3,g4,g8,⟨cells,elem,g5,g6⟩,g7⟩:=ho;have bg:=(Ib.1 g5).1
  have Be:¬(C.shared ω w0).W ad.block:=fun h=>by
   obtain⟨⟨b,j,h⟩,_⟩:=h;rw[g1]at h;cases h
  refine⟨by simp[n9,bg,g1],g2,fun b hb=>?_,g4,g8,⟨cells,elem,?_,g6⟩,fun o ho=>?_⟩
  .rcases m1.fresh b _ hb with h|h|h
   .exact g3 b h
   .omega
   .exact Be h
  .rw[m1.frame _ bg g3 Be];exact g5
  .have:=m1.old _ o bg Be;show C1.K _ o=Ik;rw[this];exact g7 o ho
 .trivial
theorem aW.sT {b j x v}(m:aA P C ω w0 C0 hp w)(hW:C1.W=(C.shared ω w0).W)(ho:aW C1 ω1 w' w.heap.size (.cell b j) x v):aW (C1.back C) (n9 ω ω1 w.heap.size) w' w0.heap.size (.cell b j) x v:=by
 unfold aW at *;split at ho
 .rename_i ad len cap;obtain⟨g1,g2,g3⟩:=ho;rw[hW]at g2;refine⟨?_,?_,g3⟩
  .unfold n9;split
   .rename_i s bg G;have bg:=of_decide_eq_true bg;rcases g2 with g2|⟨⟨b',j',g2⟩,_⟩
    .omega
    .rw[G]at g2;cases g2
   .simp[sR,g1]
  .rcases g2 with g2|⟨_,g2⟩
   .exact .inl (Jd m.size g2)
   .exact g2
 .rename_i ad;obtain⟨g1,g2,g3⟩:=ho;rw[hW]at g2;refine⟨?_,?_,g3⟩
  .unfold n9;split
   .rename_i s bg G;have bg:=of_decide_eq_true bg;rcases g2 with g2|⟨⟨b',j',g2⟩,_⟩
    .omega
    .rw[G]at g2;cases g2
   .simp[sR,g1]
  .rcases g2 with g2|⟨_,g2⟩
   .exact .inl (Jd m.size g2)
   .exact g2
 .trivial
theorem qwm (m:aA P C ω w0 C0 hp w)(e:ar C ω w w0.heap.size env tmps)(m1:aA P C1 ω1 w (C.shared ω w0) Y w')(hle:(C.shared ω w0).le C1):
  aA P (C1.back C) (n9 ω ω1 w.heap.size) w0 C0 Y w'/\ar (C1.back C) (n9 ω ω1 w.heap.size) w' w0.heap.size env tmps:=by
 have hsh:∀r,r<w0.heap.size->¬C0.W r->¬(C.shared ω w0).W r:=fun r Q hw h=>by
  rcases h.2 with h|h
  .omega
  .rw[m.grown.w]at h;exact hw h
 constructor
 .refine { base:=m.base,know:=m1.know,dk:=m1.dk,apart:=m1.apart,inj:=m1.inj,lt:=m1.lt,size:=Jd m.size m1.size,frame:=?_,fA:=m1.fA,os:=m1.os.trans m.os,output:=m1.output.trans m.output,fresh:=?_,grown:=aQ.le_trans m.grown (Ny hle),old:=?_,box:=?_,iJ:=m1.iJ }
  .intro r Q hn hw
   have jY:∀b,C.β b≠En r:=fun b hb=>by
    rcases m.fresh b r hb with h|h|h
    .exact hn b h
    .omega
    .exact hw h
   rw[m1.frame r (Ld Q m.size) jY (hsh r Q hw)];exact m.frame r Q hn hw
  .intro b r hb;rcases m1.fresh b r hb with h|h|h
   .exact m.fresh b r h
   .exact .inr (.inl (Jd m.size h))
   .exact .inr (h.2.imp id (fun h=>by rw[<-m.grown.w];exact h))
  .intro r o Q hw;show C1.K r o=_;rw[m1.old r o (Ld Q m.size) (hsh r Q hw)];exact m.old r o Q hw
  .intro b x r M hb;exact bM.imp (C:=C1) (C':=C1.back C) ⟨fun _ _ _ h=>h,fun _ _ h=>h⟩ rfl (fun _ _ _ ho=>ho.sT m hle.w) (m1.box b x r M hb)
 .exact fun s x G=>let ⟨v,k1,k2,k3⟩:=e s x G; ⟨v,k1,aM.mono (Ny hle) k2,fun h=>(k3 h).sS m1⟩
theorem bS.back {x v}(h:bS C1 x v):bS (C1.back C) x v:=aM.imp (C:=C1) (C':=C1.back C) ⟨fun _ _ _ h=>h,fun _ _ h=>h⟩ h
theorem qv8 (m:aA P C ω w0 C0 hp w)(e:ar C ω w w0.heap.size env tmps)(m1:aA P C1 ω1 w (C.shared ω w0) Y w')(hle:(C.shared ω w0).le C1){v ow u}(Q:bS C1 v u)(ho:ow=H3->aW C1 ω1 w' w.heap.size (.slot 0) v u):
  zu P C0 w0 C tmps d env ⟨v,ow,Ik,qy hp.length v Y⟩ u w':=by
 have hC:∀b r,C.β b=En r->b<hp.length:=fun b r h=>(m.lt b r h).2;have cU:=Ny hle;have kT:bS (C1.back C) v u:=Q.back
 -- the result's ownership first
 have step:∃ω',aA P (C1.back C) ω' w0 C0 Y w'/\ar (C1.back C) ω' w' w0.heap.size env tmps/\(ow=H3->aW (C1.back C) ω' w' w0.heap.size d v u):=by
  obtain⟨m2,e2⟩:=qwm m e m1 hle
  cases ow with
  |false=>exact⟨_,m2,e2,by simp⟩
  |true=>
   by_cases hk:∃(n:Bool) (sz:Nat) (xs:List AVal) (ad:Addr) (len cap:Nat),v=.list n sz xs/\u=.slice (En ad) len cap
   .obtain⟨n,sz,xs,ad,len,cap,rfl,rfl⟩:=hk;obtain⟨g1,g2,g3,g4⟩:=ho rfl;rw[hle.w]at g2
    have iZ:n9 ω ω1 w.heap.size ad.block=Ik:=by
     unfold n9;split
     .rename_i s bg G;have bg:=of_decide_eq_true bg;rcases g2 with g2|⟨⟨b',j',g2⟩,_⟩
      .omega
      .rw[G]at g2;cases g2
     .simp[sR,g1]
    refine⟨cO (n9 ω ω1 w.heap.size) ad.block d,m2.cO _ _ (by simp[iZ]),?_,fun _=>?_⟩
    .exact fun s x G=>let ⟨v,k1,k2,k3⟩:=e2 s x G; ⟨v,k1,k2,fun h=>(k3 h).other (.inl (by simp[iZ]))⟩
    .refine⟨by simp[cO],?_,g3,g4⟩;rcases g2 with g2|⟨_,g2⟩
     .exact .inl (Jd m.size g2)
     .exact g2
   by_cases dw:∃(n:Nat) (ad:Addr),v=.cW n/\u=.pointer (En ad)
   .obtain⟨n,ad,rfl,rfl⟩:=dw;obtain⟨g1,g2,g3,g4⟩:=ho rfl;rw[hle.w]at g2
    have iZ:n9 ω ω1 w.heap.size ad.block=Ik:=by
     unfold n9;split
     .rename_i s bg G;have bg:=of_decide_eq_true bg;rcases g2 with g2|⟨⟨b',j',g2⟩,_⟩
      .omega
      .rw[G]at g2;cases g2
     .simp[sR,g1]
    refine⟨cO (n9 ω ω1 w.heap.size) ad.block d,m2.cO _ _ (by simp[iZ]),?_,fun _=>?_⟩
    .exact fun s x G=>let ⟨v,k1,k2,k3⟩:=e2 s x G; ⟨v,k1,k2,fun h=>(k3 h).other (.inl (by simp[iZ]))⟩
    .refine⟨by simp[cO],?_,g3,g4⟩;rcases g2 with g2|⟨_,g2⟩
     .exact .inl (Jd m.size g2)
     .exact g2
   .refine⟨_,m2,e2,fun h=>?_⟩;unfold aW;split
    .exact absurd ⟨_,_,_,_,_,_,rfl,rfl⟩ hk
    .exact absurd ⟨_,_,rfl,rfl⟩ dw
    .trivial
 obtain⟨ω',m2,e2,o2⟩:=step;unfold qy
 cases hb:I7 Y.length hp.length with
 |true=>simp only[cond_true];exact⟨_,ω',cU,m2,e2,kT,o2⟩
 |false=>
  simp only[cond_false]
  cases nx:(below hp.length v&&qr hp.length (Y.take hp.length))with
  |false=>simp only[cond_false];exact⟨_,ω',cU,m2,e2,kT,o2⟩
  |true=>
   simp only[cond_true];simp only[E6]at nx
   have bg:hp.length<=Y.length:=by
    rcases Nat.lt_or_ge hp.length Y.length with h|h
    .omega
    .rw[Nat.ble_eq_true_of_le h]at hb;cases hb
   have h0:∀b r,C0.β b=En r->b<hp.length:=fun b r h=>hC b r (m.grown.2 b r h);have m3:=m2.gc bg nx.2 h0;refine⟨(C1.back C).cut hp.length,ω',aQ.iY cU hC,m3,?_,bS.cut kT nx.1,fun h=>(o2 h).cut _⟩;intro s x G;obtain⟨y,k1,k2,k3⟩:=e s x G;obtain⟨y',j1,j2,j3⟩:=e2 s x G;rw[k1]at j1;cases j1;exact⟨y,k1,aM.mono (aQ.iY cU hC) k2,fun h=>(j3 h).cut _⟩
theorem bz.fF {e}(h:bz C e tmps):ar C ω w B (fF e) tmps:=by
 intro s x M
 have key:∀ {e:Env} {x:AVal×Bool},jn s (Abs.fF e)=En x->∃o,jn s e=En (x.1,o)/\x.2=Ig:=by
  intro e
  induction e with
  |nil=>intro x h;simp[Abs.fF,jn]at h
  |cons y e ih=>
   intro x h;obtain⟨t,v,o⟩:=y;simp only[Abs.fF,Eah,jn]at h ⊢
   cases hb:If t s with
   |true=>simp only[hb,cond_true,En.injEq]at h ⊢;subst h;exact⟨o,rfl,rfl⟩|false=>simp only[hb,cond_false]at h ⊢;exact ih h
 obtain⟨o,Y,I⟩:=key M;obtain⟨v,h3,h4⟩:=h s _ Y;exact⟨v,h3,h4,by simp[I]⟩
theorem qwa:∀ {ts:List Nat} {vs:List AVal} {us:List Value} {e e':Env} {tmps:Array Value},vV e ts vs=En e'->bj C vs us->(∀t∈ts,t<tmps.size)->ar C ω w B e tmps ->
  ts.length=us.length/\((ts.zip us).foldl (fun(tmps:Array Value) (x:Nat×Value)=>tmps.setIfInBounds x.1 x.2) tmps).size=tmps.size/\ar C ω w B e' ((ts.zip us).foldl (fun(tmps:Array Value) (x:Nat×Value)=>tmps.setIfInBounds x.1 x.2) tmps)
 | [],[],us,e,e',tmps,h,Q,_,he=>by
  simp only[vV,En.injEq]at h;subst h;cases Q;exact⟨rfl,rfl,he⟩
 |t::ts,v::vs,us,e,e',tmps,h,Q,hf,he=>by
  simp only[vV]at h
  cases Q with
  |cons _ _ u us hu Q=>
   have Nz:ar C ω w B ((t,v,Ig)::e) (tmps.setIfInBounds t u):=by
    intro s x M;simp only[jn]at M
    cases hb:If t s with
    |true=>
     have:=Hc hb;subst this;simp only[hb,cond_true,En.injEq]at M;subst M;exact⟨u,by simp[hf t (by simp)],hu,by simp⟩
    |false=>
     simp only[hb,cond_false]at M;obtain⟨y,Y,I,h3⟩:=he s x M;refine⟨y,?_,I,h3⟩;rw[Ll (fun hh=>by subst hh;simp at hb)];exact Y
   have ih:=qwa h Q (tmps:=tmps.setIfInBounds t u) (fun t' HT=>by simpa using hf t' (by simp[HT])) Nz;refine⟨by simp[ih.1],?_,?_⟩
   .simp only[Y9,Ead];rw[ih.2.1];simp
   .simp only[Y9,Ead];exact ih.2.2
 | [],_::_,_,_,_,_,h,_,_,_=>by simp[vV]at h
 |_::_,[],_,_,_,_,h,_,_,_=>by simp[vV]at h
theorem NA {b r l}(m:aA P C ω w0 C0 hp w)(hb:zm hp b=En (.loop l))(Q:C.β b=En r):∃lp,w.heap[r]?=En (.loop lp)/\cE P C l lp:=
 m.box b _ r hb Q
theorem IJ {b r l' lp Bf}(m:aA P C ω w0 C0 hp w)(Q:C.β b=En r)(hg:w.heap[r]?=En (.loop lp))(hl:cE P C l' Bf):
  (setObj r (.loop Bf)).run P w=.ok () (ko w r (.loop Bf))/\nZ w (ko w r (.loop Bf)) r/\aA P C ω w0 C0 (hp.set b (.loop l')) (ko w r (.loop Bf)):=by
 have bg:=(Ib.1 hg).1;have hu:nZ w (ko w r (.loop Bf)) r:=FD bg (by simp);exact⟨xY hg (by simp),hu,m.dX hu Q _ (fun _ _ _ _ _ h=>h) ⟨Bf,Ie bg,hl⟩⟩
theorem jk7 (M:cJ P xc)(m:aA P C ω w0 C0 hp w)(e:ar C ω w w0.heap.size env tmps){b r}(Q:C.β b=En r){args us}(ha:bj C args us){v h'}(hy:lz xc b args hp=En (v,h')):
  ∃f oV assign body,(Instr.yield r ⟨us⟩).run P w=.ok (.round r f oV assign body) w/\RoundIn Fence.wide 0 P r f oV assign body w fun ee w'=>∃u,ee=.returned u/\zu P C0 w0 C tmps d env ⟨v,Ig,Ik,h'⟩ u w':=by
 unfold lz at hy;split at hy
 .rename_i l hl;split at hy
  .rename_i e0 hpend bK;obtain⟨lp,hg,lr⟩:=NA m hl Q;have ms:=Ue m;have hO:bj (C.shared ω w0) args us:=aM.imp (C:=C) (C':=C.shared ω w0) ⟨fun _ _ _ h=>h,fun _ _ h=>h⟩ ha;have hel:ar (C.shared ω w0) (sR ω) w w.heap.size (fF l.env) lp.tmps:=bz.fF (fun s x G=>let ⟨v,Y,I⟩:=lr.env s x G; ⟨v,Y,aM.imp (C:=C) (C':=C.shared ω w0) ⟨fun _ _ _ h=>h,fun _ _ h=>h⟩ I⟩);obtain⟨hlen,db,he0⟩:=qwa bK hO lr.fits hel
   have sB:(lp.params.zip (⟨us⟩:Array Value)).foldl (fun(tmps:Array Value) (x:Nat×Value)=>tmps.setIfInBounds x.1 x.2) lp.tmps=(l.params.zip us).foldl (fun(tmps:Array Value) (x:Nat×Value)=>tmps.setIfInBounds x.1 x.2) lp.tmps:=by
    rw[<-Array.foldl_toList,Array.toList_zip,lr.params]
   have Uf:lp.params.size=us.length:=by rw[<-Array.length_toList,lr.params];exact hlen
   refine⟨lp.fn,(l.params.zip us).foldl (fun(tmps:Array Value) (x:Nat×Value)=>tmps.setIfInBounds x.1 x.2) lp.tmps,lp.assign,lp.body,?_,?_⟩
   .have Bg:(Instr.getLoop r).run P w=.ok lp w:=by simp[Instr.getLoop,rn hg (by simp)]
    have bG:¬((⟨us⟩:Array Value).size≠lp.params.size):=by simp[Uf]
    simp only[Instr.yield,Sem.run_bind,Bg,Result.andThen_ok,bG,if_false,Sem.run_pure,Sem.run_ite];rw[show((lp.params.zip (⟨us⟩:Array Value)).foldl (fun tmps (x:Nat×Value)=>match x with|(t,a)=>tmps.setIfInBounds t a) lp.tmps)=_ from sB]
   .refine roundIn_of_wpIn trivial ?_;split at hy
    .rename_i st ct;split at hy
     .rename_i l1 dQ
      cases kX:l1.pending.isNone with
      |false=>simp[kX]at hy
      |true=>
       simp only[kX,cond_true]at hy
       have IK:l1.pending=Ik:=by simpa using kX
       split at hy
       .rename_i x bP iz;split at hy
        .rename_i l2 dW;cases hy;refine wpIn_mono (M (En r) lp.tmps.size lp.assign l.assign _ _ _ lr.assign (fun _=>lr.nr.1) ct (C.shared ω w0) (sR ω) w (C.shared ω w0) { tmps:=_,defers:=[] } w ms he0 db Marks.nil) ?_;rintro ee J w1 ⟨rfl,q1,C1,ω1,q2,q3,q4,q5⟩;have iO:=q2.b b r Q;obtain⟨NC,hg1,Ug⟩:=NA q4 dQ iO
         have x6:NC.state=.ready:=by rw[Ug.state,IK]
         have Uh:cE P C1 { l1 with pending:=En .normal } { NC with state:=.busy }:={ Ug with state:=rfl,pending:=by rw[Ug.pending,IK] };obtain⟨IL,H8,m1⟩:=IJ q4 iO hg1 Uh
         have iN:(Instr.beginRound r).run P w1=.ok () (ko w1 r (.loop { NC with state:=.busy })):=by
          have Bg:(Instr.getLoop r).run P w1=.ok NC w1:=by simp[Instr.getLoop,rn hg1 (by simp)]
          simp only[Instr.beginRound,Sem.run_bind,Bg,Result.andThen_ok,IL,x6,Sem.run_pure]
         refine⟨_,iN,?_⟩;refine wpIn_mono (M (En r) lp.tmps.size lp.body l.body _ _ _ lr.body (fun _=>lr.nr.2) iz C1 ω1 w (C.shared ω w0) J _ m1 (q5.dK H8 iO) q1 q3) ?_;rintro ee a2 w2 ⟨rfl,p1,C2,ω2,p2,p3,p4,p5⟩;have sU:=p2.b b r iO;obtain⟨mS,sV,uP⟩:=NA p4 dW sU
         have Bh:(Instr.getLoop r).run P w2=.ok mS w2:=by simp[Instr.getLoop,rn sV (by simp)]
         have fin:∀(Ui:LoopState) (pd:Option Code) (ap:Option jb) (bb:Bool),cE P C2 { l2 with pending:=ap } { mS with state:=Ui,pending:=pd } ->
           zu P C0 w0 C tmps d env ⟨.bool bb,Ig,Ik,qy hp.length (.bool H3) (bP.heap.set b (.loop { l2 with pending:=ap }))⟩ (.bool bb) (ko w2 r (.loop { mS with state:=Ui,pending:=pd })):=by
          intro Ui pd ap bb pP;obtain⟨lg,hu2,m2⟩:=IJ p4 sU sV pP;have:=qv8 (d:=d) (v:=.bool bb) (ow:=false) (u:=.bool bb) m e m2 (aQ.le_trans q2 p2) (.bool bb) (by simp);exact this
         cases x with
         |normal=>
          have pP:cE P C2 { l2 with pending:=Ik } { mS with state:=.ready,pending:=Ik }:={ uP with state:=rfl,pending:=rfl };obtain⟨lg,_,_⟩:=IJ p4 sU sV pP;exact⟨.bool H3,_,by simp only[Instr.endRound,Sem.run_bind,Bh,Result.andThen_ok,Option.isNone_none,if_true,lg,Sem.run_pure],_,rfl,fin _ _ _ H3 pP⟩
         |ret=>
          have pP:cE P C2 { l2 with pending:=En .ret } { mS with state:=.done,pending:=En .ret }:={ uP with state:=rfl,pending:=rfl };obtain⟨lg,_,_⟩:=IJ p4 sU sV pP;exact⟨.bool Ig,_,by simp only[Instr.endRound,Sem.run_bind,Bh,Result.andThen_ok,Zn,Ij,if_false,lg,Sem.run_pure],_,rfl,fin _ _ _ Ig pP⟩
         |exit id=>
          have pP:cE P C2 { l2 with pending:=En (.exit id) } { mS with state:=.done,pending:=En (.exit id) }:={ uP with state:=rfl,pending:=rfl };obtain⟨lg,_,_⟩:=IJ p4 sU sV pP;exact⟨.bool Ig,_,by simp only[Instr.endRound,Sem.run_bind,Bh,Result.andThen_ok,Zn,Ij,if_false,lg,Sem.run_pure],_,rfl,fin _ _ _ Ig pP⟩
        .cases hy
       .cases hy
     .cases hy
    .cases hy
  .cases hy
 .cases hy
theorem jk0 {h md r h0 dst al cM res}(eP:bX P p)(M:cJ P xc)(m:aA P C ω w0 C0 hp w)(e:ar C ω w w0.heap.size env a.tmps){c}(ho:o.op=.call c){f}(pK:c.callee=.value f)
  (hc:AG P h md r dst c=En cM) (G:qe p xc h0 al env hp cM=En res):yr P C C0 w0 a d env o w res:=by
 unfold AG at hc;rw[pK]at hc;simp only[]at hc;split at hc
 .rename_i f' args' Y I;cases hc;generalize md.at r=md at G;simp only[qe,yo]at G;split at G
  .rename_i k first captured vs e1 e2
   have x9:=qt e.cw Y e1;have Uj:=Fx e.cw I e2;generalize eR:a.eval f=fv at x9
   cases x9 with
   |fn g g' _ _ as bs hf ha hb=>
    simp only[fJ]at hf;subst hf;have hall:bj C (first++vs++captured) (as++c.args.toList.map a.eval++bs):=bj.append (bj.append ha Uj) hb
    have jA:Enters P k->(execOp a.eval o).run P w=.ok (.enter k ⟨as++c.args.toList.map a.eval++bs⟩) w:=by
     intro mR
     have eA:(⟨as⟩:Array Value)++Array.map a.eval c.args++(⟨bs⟩:Array Value)=⟨as++c.args.toList.map a.eval++bs⟩:=by
      apply Tz;simp
     simp[execOp,ho,resolve,pK,eR,Deferred.ofValue,invoke,eA,qsc mR]
    cases md with
    |ft rk=>
     simp only[]at G
     cases uw:(first++vs++captured).isEmpty with
     |false=>
      rw[uw]at G;simp only[cond_false]at G
      cases jM:qo 0 (first++vs++captured)with
      |false=>rw[jM]at G;cases G
      |true=>
       rw[jM]at G;simp only[cond_true]at G;split at G
       .rename_i v ow wx;obtain⟨mR,lf,sW⟩:=Nv eP M wx jM
        have mT:bj (.bZ C.K) (first++vs++captured) (as++c.args.toList.map a.eval++bs):=
         aM.shift (C:=C) (C':=.bZ C.K) 0 (fun _ _ _ h=>h) (fun b r bg=>by omega) hall jM
        refine .inr (.inr (.inl ⟨k,_,jA mR,CallsIn.mono (sW C.K w _ m.tabs m.know m.dk mT) ?_⟩));rintro ee w' ⟨u,K',rfl,q1,q2,q3,q4,q5,q6,q7⟩;exact⟨u,rfl,jjv m e q1 q2 q3 q4 q5 q6 q7 G⟩
       .cases G
     |true=>
      rw[uw]at G;simp only[cond_true]at G;split at G
      .rename_i es hm;split at G
       .rename_i h' hn;obtain rfl:=qx G;obtain⟨hh,rfl⟩:=ke hn;obtain⟨mR,mL⟩:=eP.maps k es hm
        have lC:as++c.args.toList.map a.eval++bs=[]:=by
         have Y:first++vs++captured=[]:=R2.1 uw
         have I:=hall.length;rw[Y]at I;exact List.eq_nil_of_length_eq_zero I
        refine .inr (.inr (.inl ⟨k,_,jA mR,?_⟩));rw[lC];refine CallsIn.mono (mL C.K w m.tabs m.know m.dk) ?_;rintro ee w' ⟨q,K',cr,clock,rfl,q1,q2,q3,q4,q5,q6,q7,q8⟩;exact⟨_,rfl,jnl m e q1 q2 q3 q4 q5 hh q6 q7 q8⟩
       .cases G
      .cases G
    |bZ=>
     simp only[]at G
     cases uw:qo 0 (first++vs++captured)with
     |false=>rw[uw]at G;cases G
     |true=>
      rw[uw]at G;simp only[cond_true]at G;split at G
      .rename_i v ow wx;cases G;obtain⟨mR,lf,sW⟩:=Nv eP M wx uw
       have mT:bj (.bZ C.K) (first++vs++captured) (as++c.args.toList.map a.eval++bs):=
        aM.shift (C:=C) (C':=.bZ C.K) 0 (fun _ _ _ h=>h) (fun b r bg=>by omega) hall uw
       refine .inr (.inr (.inl ⟨k,_,jA mR,CallsIn.mono (sW C.K w _ m.tabs m.know m.dk mT) ?_⟩));rintro ee w' ⟨u,K',rfl,q1,q2,q3,q4,q5,q6,q7⟩;exact⟨u,rfl,q9x m e q1 q2 q3 q4 q5 lf q6 q7⟩
      .cases G
    |red=>
     simp only[]at G;split at G
     .rename_i xs FH
      cases jM:qo 0 xs with
      |false=>rw[jM]at G;cases G
      |true=>
       rw[jM]at G;simp only[cond_true]at G;split at G
       .rename_i v ow wx;split at G
        .rename_i v' II hrd;cases G;obtain⟨mR,lf,sW⟩:=Nv eP M wx jM;refine .inr (.inr (.inl ⟨k,_,jA mR,CallsIn.mono (sW (zy C hp w) w _ m.tabs (fun r o u h=>(Nt m h).1) (fun r o u h=>(Nt m h).2) (qwb m FH hall jM)) ?_⟩));rintro ee w' ⟨u,K',rfl,q1,q2,q3,q4,q5,q6,q7⟩;exact⟨u,rfl,jlj m e q1 q2 q3 q4 q5 q6 q7 hrd⟩
        .cases G
       .cases G
     .cases G
    |shr=>
     simp only[]at G;split at G
     .rename_i v ow h' IA;cases G
      .obtain⟨mR,n8⟩:=Iz eP M IA;have mT:bj (C.shared ω w0) (first++vs++captured) (as++c.args.toList.map a.eval++bs):=aM.imp (C:=C) (C':=C.shared ω w0) ⟨fun _ _ _ h=>h,fun _ _ h=>h⟩ hall;refine .inr (.inr (.inl ⟨k,_,jA mR,CallsIn.mono (n8 _ _ _ _ mT (Ue m)) ?_⟩));rintro ee w' ⟨u,C',ω',rfl,q1,q2,q3,q4⟩;exact⟨u,rfl,qv8 m e q2 q1 q3 q4⟩
     .cases G
  .rename_i b vs e1 e2;have x9:=qt e.cw Y e1;have Uj:=Fx e.cw I e2;generalize eR:a.eval f=fv at x9
   cases md with
   |bZ=>simp at G|ft _=>simp at G|red=>simp at G
   |shr=>
    simp only[]at G;split at G
    .rename_i v h' hy;obtain rfl:=qx G
     cases x9 with
     |fn g g' _ _ as bs hf ha hb=>
      obtain⟨q,pM,rfl⟩:=hf;cases ha;cases hb;obtain⟨ff,oV,assign,body,k1,k2⟩:=jk7 (d:=d) M m e pM Uj hy;refine .inr (.inr (.inr ⟨q,ff,oV,assign,body,?_,k2⟩))
      have eA:Array.map a.eval c.args=⟨c.args.toList.map a.eval⟩:=by
       apply Tz;simp
      rw[<-eA]at k1;simp[execOp,ho,resolve,pK,eR,Deferred.ofValue,invoke,k1]
    .cases G
  .cases G
 .cases hc
theorem jwz {h md r h0 dst al cM res}(eP:bX P p)(M:cJ P xc)(m:aA P C ω w0 C0 hp w)(e:ar C ω w w0.heap.size env a.tmps)
  (n6:cM.ij=Ik) (hc:cS P h md r dst o.op=En cM) (G:qe p xc h0 al env hp cM=En res):yr P C C0 w0 a d env o w res:=by
 cases ho:o.op<;>rw[ho]at hc
 case move x=>exact jpd m e ho hc G
 case assign x=>exact jdy m e ho hc G
 case pick=>exact joc m e ho hc G
 case alloc=>exact jh1 m e ho hc G
 case box=>exact jtx m e ho hc G
 case build=>exact jji m e ho hc G
 case buildSlice=>exact q2l m e ho hc G
 case load=>exact jn8 m e ho hc G
 case store=>exact jka m e ho n6 hc G
 case nilCheck=>exact q74 m e ho hc G
 case binOp=>exact jvh m e ho hc G
 case unOp=>exact jv9 m e ho hc G
 case convert=>exact jpx m e ho hc G
 case makeFunc=>exact q6r m e ho hc G
 case makeMap=>exact jan m e ho hc G
 case makeSlice=>exact q4x m e ho hc G
 case slice=>exact jia m e ho hc G
 case fieldAddr=>exact q5a m e ho hc G
 case field=>exact jh3 m e ho hc G
 case indexAddr=>exact q4z m e ho hc G
 case index=>exact jg8 m e ho hc G
 case range=>exact ji0 m e ho hc G
 case extract=>exact jav m e ho hc G
 case call c=>
  have eb:AG P h md r dst c=En cM:=hc;by_cases hv:∃f,c.callee=.value f
  .obtain⟨f,hf⟩:=hv;exact jk0 eP M m e ho hf eb G
  .exact ja1 m e ho (fun f hf=>hv ⟨f,hf⟩) eb G
 case lookup=>exact jc8 m e ho hc G
 case mapUpdate=>exact qr8 m e (.inl ho) hc G
 case insert t x y z=>exact qr8 (h:=h) (md:=md) (r:=r) (dst:=dst) m e (.inr ho) (show cS P h md r dst (.mapUpdate t x y z)=En cM from hc) G
 case next it b=>exact Nr m e ho hc G
 all_goals (simp[cS]at hc;done)
end
section
variable {p:j8}{xc:XC}{h0:Nat}{al:ak Nat}
def Agree (l:List Nat)(e e':Env):Prop:=∀s∈l,jn s e=jn s e'
theorem Agree.app {l l' e e'}(h:Agree (l++l') e e'):Agree l e e'/\Agree l' e e':=
 ⟨fun s G=>h s (Tn _ G),fun s G=>h s (S8 _ G)⟩
theorem qp {e e' x}(h:Agree (zi x) e e'):qh e x=qh e' x:=by
 cases x with
 |tmp t=>simp only[qh,h t (by simp[zi])]|const v=>rfl
theorem FJ {e e'}:∀ {l:List ju},Agree (xN l) e e'->gJ e l=gJ e' l
 | [],_=>rfl
 |x::l,h=>by
  have h':Agree (zi x++xN l) e e':=by simpa[xN]using h
  simp only[gJ,qp h'.app.1,FJ h'.app.2]
theorem FK {e e' x}(d n:Nat)(h:Agree (AJ x) e e'):fG e d n x=fG e' d n x:=by
 cases x with
 |none=>rfl|some x=>simp only[fG,qp (x:=x) h]
theorem Uk {e e' x}(h:Agree (zi x) e e'):z5 e x=z5 e' x:=by
 cases x with
 |tmp t=>simp only[z5,h t (by simp[zi])]|const v=>rfl
theorem qm1 {e e'}:∀ {l:List (Nat×Nat×ju)},Agree (l.flatMap fun p=>zi p.2.2) e e'->kz e l=kz e' l
 | [],_=>rfl
 |(i,n,x)::l,h=>by
  have h':Agree (zi x++l.flatMap fun p=>zi p.2.2) e e':=by simpa using h
  simp only[kz,qp h'.app.1,qm1 h'.app.2]
theorem Ul {e e' sz}:∀ {l:List (Nat×ju)},Agree (l.flatMap fun p=>zi p.2) e e'->yi e sz l=yi e' sz l
 | [],_=>rfl
 |(i,x)::l,h=>by
  have h':Agree (zi x++l.flatMap fun p=>zi p.2) e e':=by simpa using h
  simp only[yi,qp h'.app.1,Ul h'.app.2]
theorem q9g {e e' h op}(ha:Agree op.reads e e'):qe p xc h0 al e h op=qe p xc h0 al e' h op:=by
 cases op with
 |move x=>simp only[qe,ql,qp (x:=x) ha]|take s=>simp only[qe,ql,ha s (by simp[cG.reads])]|pick c x y=>simp only[cG.reads]at ha;simp only[qe,ql,qp ha.app.1.app.1,qp ha.app.1.app.2,qp ha.app.2]|build z ps=>simp only[qe,ql,qm1 (l:=ps) ha]|buildSlice sz n z ps=>simp only[qe,ql,Ul (l:=ps) ha]|nilCheck x=>simp only[qe,ql,qp (x:=x) ha]|gH n=>rfl
 |dm n s x=>
  simp only[cG.reads]at ha;have Y:jn s e=jn s e':=ha s (by simp);have I:Agree (zi x) e e':=fun t ht=>ha t (by simp[ht]);simp only[qe,ql,Y,qp I]
 |ly n x=>simp only[qe,ql,qp (x:=x) ha]|eV ag n x=>simp only[qe,ql,qp (x:=x) ha]|bin op x y=>simp only[cG.reads]at ha;simp only[qe,ql,qp ha.app.1,qp ha.app.2]|eqs ks n x y=>simp only[cG.reads]at ha;simp only[qe,ql,qp ha.app.1,qp ha.app.2]|beq n x y=>simp only[cG.reads]at ha;simp only[qe,ql,qp ha.app.1,qp ha.app.2]|fD k n x=>simp only[qe,ql,qp (x:=x) ha]|un op x=>simp only[qe,ql,qp (x:=x) ha]|conv k x=>simp only[qe,ql,qp (x:=x) ha]|eG x=>simp only[qe,ql,qp (x:=x) ha]|ew x=>simp only[qe,ql,qp (x:=x) ha]|field ag off n x=>simp only[qe,ql,qp (x:=x) ha]|index ag l n x i=>simp only[cG.reads]at ha;simp only[qe,ql,qp ha.app.1,qp ha.app.2]|dH x i=>simp only[cG.reads]at ha;simp only[qe,ql,qp ha.app.1,qp ha.app.2]|fieldAddr ag off n x=>simp only[qe,ql,qp (x:=x) ha]|indexAddr sz x i=>simp only[cG.reads]at ha;simp only[qe,ql,qp ha.app.1,qp ha.app.2]|ey ag l sz x i=>simp only[cG.reads]at ha;simp only[qe,ql,qp ha.app.1,qp ha.app.2]|slice sz x lo hi=>simp only[cG.reads]at ha;simp only[qe,ql,qp ha.app.1.app.1,FK _ _ ha.app.1.app.2,FK _ _ ha.app.2]|dI x lo hi=>simp only[cG.reads]at ha;simp only[qe,ql,qp ha.app.1.app.1,FK _ _ ha.app.1.app.2,FK _ _ ha.app.2]|ga l sz x lo hi=>simp only[cG.reads]at ha;simp only[qe,ql,qp ha.app.1.app.1,FK _ _ ha.app.1.app.2,FK _ _ ha.app.2]|eW f x y=>simp only[cG.reads]at ha;simp only[qe,ql,FJ ha.app.1,FJ ha.app.2]|len k x=>simp only[qe,ql,qp (x:=x) ha]
 |append r sz b x y=>
  simp only[cG.reads]at ha
  cases r with
  |none=>simp only[qe,ql,qp ha.app.1,qp ha.app.2,Uk ha.app.1]|some r=>simp only[qe,qn,qp ha.app.1,qp ha.app.2,Uk ha.app.1]
 |gI r sz b x y=>simp only[cG.reads]at ha;simp only[qe,qn,qp ha.app.1,qp ha.app.2]|gd r sz n z ps=>simp only[qe,qn,Ul (l:=ps) ha]
 |b9 r sz b z n c=>
  simp only[cG.reads]at ha
  cases r with
  |none=>simp only[qe,ql,qp ha.app.1,qp ha.app.2]|some r=>simp only[qe,qn,qp ha.app.1,qp ha.app.2]
 |mx l=>simp only[qe,ql,FJ (l:=l) ha]|mn l=>simp only[qe,ql,FJ (l:=l) ha]|extract x i=>simp only[qe,ql,qp (x:=x) ha]|load ag n x=>simp only[qe,yt,qp (x:=x) ha]|alloc r z=>rfl|fZ r t e=>rfl|box r n x=>simp only[qe,qn,qp (x:=x) ha]|cx off x=>simp only[qe,qn,qp (x:=x) ha]|store n x y=>simp only[cG.reads]at ha;simp only[qe,qn,qp ha.app.1,qp ha.app.2,Uk ha.app.2]|eO r=>rfl|dB r x=>simp only[qe,qn,qp (x:=x) ha]|call md f l=>simp only[cG.reads]at ha;simp only[qe,yo,qp ha.app.1,FJ ha.app.2]|lookup kd z ok x y=>simp only[cG.reads]at ha;simp only[qe,yt,qp ha.app.1,qp ha.app.2]|mapUpdate kd x y z=>simp only[cG.reads]at ha;simp only[qe,qn,qp ha.app.1.app.1,qp ha.app.1.app.2,qp ha.app.2]|delete kd x y=>simp only[cG.reads]at ha;simp only[qe,qn,qp ha.app.1,qp ha.app.2]|copy sz x y=>simp only[cG.reads]at ha;simp only[qe,qn,qp ha.app.1,qp ha.app.2]|fE x=>simp only[qe,qn,qp (x:=x) ha]|bad=>rfl
def bu.at (r:bu)(h:qf):bu:={ r with heap:=h }
theorem ny {h h' x r}(G:val h x=En r):r.heap=h/\val h' x=En (r.at h'):=by
 simp only[val,En.injEq]at G;subst G;exact⟨rfl,rfl⟩
theorem jki (h:qf)(x:Option AVal):gK h x=(gK [] x).map (·.at h):=by cases x<;>rfl
theorem Um {α β:Type}(c:Bool)(x y:Option α)(f:α->β):(bif c then x else y).map f=bif c then x.map f else y.map f:=by cases c<;>rfl
theorem qs3 (e:Env)(h:qf)(op:cG):ql e h op=(ql e [] op).map (·.at h):=by
 cases op with
 |append r sz b x y=>
  cases r with
  |some r=>rfl
  |none=>
   simp only[ql]
   repeat' split
   all_goals first
    |rfl
    |(simp only[Um];repeat' split)<;>rfl
 |b9 r sz b z n c=>
  cases r with
  |some r=>rfl
  |none=>
   simp only[ql]
   repeat' split
   all_goals first
    |rfl
    |(simp only[Um];rfl)
 |_=>
  simp only[ql]
  repeat' split
  all_goals first
   |rfl
   |exact jki _ _
   |(simp only[Um];first|rfl|(repeat' split)<;>rfl)
theorem qwk {e h}(h':qf){op r}(G:ql e h op=En r):r.heap=h/\ql e h' op=En (r.at h'):=by
 rw[qs3]at G;obtain⟨r0,Y,rfl⟩:=Ia.1 G;refine⟨rfl,?_⟩;rw[qs3,Y];rfl
end
section
variable {p:j8}{xc:XC}{h0:Nat}{al:ak Nat}
def nV:Option aK->Bool
 |some (.vec ..)=>Ig|some .hole=>Ig|_=>H3
theorem IP {h b cs}(hc:qw h b=En cs):nV h[b]?=H3:=by
 unfold qw at hc;split at hc
 .rename_i Y;rw[Y];rfl
 .cases hc
theorem FL {h b x}(hb:zm h b=En x)(M:nV (En x)=H3):nV h[b]?=H3:=by
 unfold zm at hb;rw[hb];exact M
def Un:aK->Option Nat
 | .vec sz _ _=>En sz|_=>Ik
def HB (h0:Nat)(al:ak Nat)(F:qf->Option bu)(h:qf)(r:bu):AK->Nat->Prop
 | .pure,_=>r.heap=h/\∀h',F h'=En (r.at h')| .read,_=>r.heap=h/\∀h':qf,(∀b,zf h0 al b=H3->(pG al=H3->nV h[b]?=H3)->h'[b]?=h[b]?)->F h'=En (r.at h')| .alloc,k=>∃x,aO h0 h k x=En r.heap/\∀h' h3,aO h0 h' k x=En h3->F h'=En (r.at h3)| .write,_=>∃b x,zf h0 al b=H3/\nV h[b]?=H3/\nV (En x)=H3/\j0 h b x=En r.heap/\∀h' h3:qf,h'[b]?=h[b]?->j0 h' b x=En h3->F h'=En (r.at h3)
 | .take,k=>∃b cs v o,zf h0 al b=H3/\h[b]?=En (.cells cs)/\cs[k]?=En (v,o)/\r.heap=h.set b (.cells (cs.set k (v,Ig))) /\
   ∀(h':qf) (eF:List (AVal×Bool)),h'[b]?=En (.cells eF)->eF[k]?=En (v,o)->F h'=En (r.at (h'.set b (.cells (eF.set k (v,Ig)))))
 | .ft,_=>False| .shr,_=>True| .oM,k=>∃q x y,(q=h0+k % 1000/\y=.hole\/Un y=En (k / 1000))/\h[q]?=En y/\r.heap=h.set q x/\Un x=En (k / 1000)/\∀h':qf,h'[q]?=En y->F h'=En (r.at (h'.set q x))
theorem IQ {h h' b}(hb:h'[b]?=h[b]?):qw h' b=qw h b:=by simp only[qw,hb]
theorem jjl {e h op r}(G:qe p xc h0 al e h op=En r):HB h0 al (fun h=>qe p xc h0 al e h op) h r op.cl op.cX:=by
 have gk:(∀h,qe p xc h0 al e h op=ql e h op)->op.cl=.pure->HB h0 al (fun h=>qe p xc h0 al e h op) h r op.cl op.cX:=by
  intro heq dU;rw[dU];rw[heq]at G;exact⟨(qwk h G).1,fun h'=>(heq h').trans (qwk h' G).2⟩
 cases op with
 |load ag n x=>
  simp only[qe,yt]at G;split at G
  .rename_i b o hv
   cases hk:zf h0 al b with
   |false=>simp[hk]at G
   |true=>
    simp only[hk,cond_true]at G;split at G
    .rename_i cs hcs;split at G
     .rename_i vs Np
      have key:r.heap=h/\∀h':qf,qw h' b=qw h b->yt h0 al e h' (.load ag n x)=En (r.at h'):=by
       cases ag with
       |true=>
        simp only[cond_true]at G;refine⟨(ny (h':=h) G).1,fun h' hb=>?_⟩;simp only[yt,hv,hk,cond_true,hb,hcs,Np];exact(ny (h':=h') G).2
       |false=>
        simp only[cond_false]at G;split at G
        .refine⟨(ny (h':=h) G).1,fun h' hb=>?_⟩;simp only[yt,hv,hk,cond_true,hb,hcs,Np,cond_false];exact(ny (h':=h') G).2
        .cases G
      exact⟨key.1,fun h' dh=>key.2 h' (IQ (dh b hk fun _=>IP hcs))⟩
     .cases G
    .cases G
  .rename_i v hv
   cases hk:(Eal ag v.isAgg||!(If v.flat.length n))with
   |true=>simp[hk]at G
   |false=>
    simp only[hk,cond_false]at G;refine⟨(ny (h':=h) G).1,fun h' _=>?_⟩;simp only[qe,yt,hv,hk,cond_false];exact(ny (h':=h') G).2
  .rename_i b bN q hv
   cases hk:sj h0 al b with
   |false=>simp[hk]at G
   |true=>
    simp only[hk,cond_true]at G;have iy:=hk;simp only[sj,E6,Bool.not_eq_true']at iy;split at G
    .rename_i sz dJ xs gR
     have kA:∀h':qf,(∀b,zf h0 al b=H3->(pG al=H3->nV h[b]?=H3)->h'[b]?=h[b]?)->zm h' b=En (.vec sz dJ xs):=fun h' dh=>by
      unfold zm at gR ⊢;rw[dh b iy.1 (fun ho=>by rw[iy.2]at ho;cases ho),gR]
     cases dw:(If bN dJ&&I7 (q+n) (xs.flatMap AVal.flat).length)with
     |false=>rw[dw]at G;cases G
     |true=>
      rw[dw]at G;simp only[cond_true]at G
      cases ag with
      |true=>
       simp only[cond_true]at G;refine⟨(ny (h':=h) G).1,fun h' dh=>?_⟩;simp only[qe,yt,hv,hk,cond_true,kA h' dh,dw];exact(ny (h':=h') G).2
      |false=>
       simp only[cond_false]at G;split at G
       .rename_i z hz;refine⟨(ny (h':=h) G).1,fun h' dh=>?_⟩;simp only[qe,yt,hv,hk,cond_true,kA h' dh,dw,cond_false,hz];exact(ny (h':=h') G).2
       .cases G
    .cases G
  .cases G
 |len k x=>exact gk (fun _=>rfl) rfl
 |alloc rk z=>
  simp only[qe,qn]at G
  cases hk:z.all qk with
  |false=>simp[hk]at G
  |true=>
   simp only[hk,cond_true]at G;split at G
   .rename_i h' hn;have Y:=qx G;refine⟨_,by rw[Y];exact hn,fun g g3 hg=>?_⟩;simp only[qe,qn,hk,cond_true];rw[show cG.cX (.alloc rk z)=rk from rfl]at hg;rw[hg,Y];rfl
   .cases G
 |box rk n x=>
  simp only[qe,qn]at G;split at G
  .rename_i v hv
   cases hk:(If v.flat.length n&&v.flat.all qk)with
   |false=>simp[hk]at G
   |true=>
    simp only[hk,cond_true]at G;split at G
    .rename_i h' hn;have Y:=qx G;refine⟨_,by rw[Y];exact hn,fun g g3 hg=>?_⟩;simp only[qe,qn,hv,hk,cond_true];rw[show cG.cX (.box rk n x)=rk from rfl]at hg;rw[hg,Y];rfl
    .cases G
  .cases G
 |fZ rk t e'=>
  simp only[qe,qn]at G;split at G
  .rename_i h' hn;have Y:=qx G;refine⟨_,by rw[Y];exact hn,fun g g3 hg=>?_⟩;simp only[qe,qn];rw[show cG.cX (.fZ rk t e')=rk from rfl]at hg;rw[hg,Y];rfl
  .cases G
 |eO rk=>
  simp only[qe,qn]at G;split at G
  .rename_i h' hn;have Y:=qx G;refine⟨_,by rw[Y];exact hn,fun g g3 hg=>?_⟩;simp only[qe,qn];rw[show cG.cX (.eO rk)=rk from rfl]at hg;rw[hg,Y];rfl
  .cases G
 |dB rk x=>
  simp only[qe,qn]at G;split at G
  .rename_i s hv;split at G
   .rename_i h' hn;have Y:=qx G;refine⟨_,by rw[Y];exact hn,fun g g3 hg=>?_⟩;simp only[qe,qn,hv];rw[show cG.cX (.dB rk x)=rk from rfl]at hg;rw[hg,Y];rfl
   .cases G
  .cases G
 |cx off x=>
  simp only[qe,qn]at G;split at G
  .rename_i b o hv
   cases hk:zf h0 al b&&xH off o with
   |false=>simp[hk]at G
   |true=>
    simp only[hk,cond_true]at G
    have fc:zf h0 al b=H3:=by simp only[E6]at hk;exact hk.1
    split at G
    .rename_i cs hcs;split at G
     .rename_i v ow hq;split at G
      .rename_i h' bK;cases G;have oW:=bK;unfold j0 at oW
       cases bg:Il b h.length with
       |false=>simp[bg]at oW
       |true=>
        simp only[bg,cond_true,En.injEq]at oW
        cases off with
        |none=>
         refine⟨b,_,fc,IP hcs,rfl,bK,fun g g3 hb hg=>?_⟩;simp only[qe,qn,hv,hk,cond_true,IQ hb,hcs,hq,hg];rfl
        |some k=>
         have hko:k=o:=by
          simp only[E6,xH]at hk;exact Hc hk.2
         subst hko
         have hhb:h[b]?=En (.cells cs):=by
          unfold qw at hcs;split at hcs
          .rename_i eF h';cases hcs;exact h'
          .cases hcs
         refine⟨b,cs,v,ow,fc,hhb,hq,oW.symm,fun g eF hg eb=>?_⟩;have eb:eF[k]?=En (v,ow):=eb;have hlg:b<g.length:=(Ic.1 hg).1
         have jN:qw g b=En eF:=by simp only[qw,hg]
         have hsg:j0 g b (.cells (eF.set k (v,Ig)))=En (g.set b (.cells (eF.set k (v,Ig)))):=by
          unfold j0;rw[I5.mpr hlg];rfl
         simp only[qe,qn,hv,hk,cond_true,jN,eb,hsg];rfl
      .cases G
     .cases G
    .cases G
  .cases G
 |store n x y=>
  simp only[qe,qn]at G;split at G
  .rename_i b o v hv hy
   cases hk:zf h0 al b with
   |false=>simp[hk]at G
   |true=>
    simp only[hk,cond_true]at G;split at G
    .rename_i cs hcs;split at G
     .rename_i t ht
      cases dw:(If n 1&&v.cP&&Il o cs.length)with
      |false=>simp[dw]at G
      |true=>
       simp only[dw,cond_true]at G;split at G
       .rename_i h' bK;cases G;refine⟨b,_,hk,IP hcs,rfl,bK,fun g g3 hb hg=>?_⟩;simp only[qe,qn,hv,hy,hk,cond_true,IQ hb,hcs,ht,dw,hg];rfl
       .cases G
     .rename_i ht
      cases dw:If v.flat.length n with
      |false=>simp[dw]at G
      |true=>
       simp only[dw,cond_true]at G;split at G
       .rename_i eF ct;split at G
        .rename_i h' bK;have Y:=qx G;refine⟨b,_,hk,IP hcs,rfl,by rw[Y];exact bK,fun g g3 hb hg=>?_⟩;simp only[qe,qn,hv,hy,hk,cond_true,IQ hb,hcs,ht,dw,ct,hg,Y];rfl
        .cases G
       .cases G
    .cases G
  .cases G
 |call md f l=>
  cases md with
  |shr=>trivial|red=>trivial
  |ft rk=>
   simp only[qe,yo]at G;split at G
   .rename_i k first captured vs e1 e2
    cases hb:(first++vs++captured).isEmpty with
    |false=>
     rw[hb]at G;simp only[cond_false]at G
     cases nx:qo 0 (first++vs++captured)with
     |false=>rw[nx]at G;cases G
     |true=>
      rw[nx]at G;simp only[cond_true]at G;split at G
      .rename_i v o wx
       have goal:∃x,aO h0 h rk x=En r.heap/\∀g g3,aO h0 g rk x=En g3->sn h0 g rk v o=En (r.at g3):=by
        unfold sn at G;split at G
        .split at G
         .rename_i h' hn;have Y:=qx G;refine⟨_,by rw[Y];exact hn,fun g g3 hg=>?_⟩;simp only[sn,hg,Y];rfl
         .cases G
        .rename_i sz xs
         cases Ip:(xs.flatMap AVal.flat).all oJ with
         |false=>rw[Ip]at G;cases G
         |true=>
          rw[Ip]at G;simp only[cond_true]at G;split at G
          .rename_i h' hn;have Y:=qx G;refine⟨_,by rw[Y];exact hn,fun g g3 hg=>?_⟩;simp only[sn,Ip,cond_true,hg,Y];rfl
          .cases G
        .cases G
       obtain⟨x,g1,g2⟩:=goal;refine⟨x,g1,fun g g3 hg=>?_⟩;simp only[qe,yo,e1,e2,wx];rw[hb,nx];exact g2 g g3 hg
      .cases G
    |true=>
     rw[hb]at G;simp only[cond_true]at G;split at G
     .rename_i es hm;split at G
      .rename_i h' hn;have Y:=qx G;refine⟨_,by rw[Y];exact hn,fun g g3 hg=>?_⟩;simp only[qe,yo,e1,e2,hm];rw[hb];simp only[cond_true];rw[show cG.cX (.call (.ft rk) f l)=rk from rfl]at hg;rw[hg,Y];rfl
      .cases G
     .cases G
   .cases G
   .cases G
  |bZ=>
   simp only[qe,yo]at G;split at G
   .rename_i k first captured vs e1 e2
    cases hb:qo 0 (first++vs++captured)with
    |false=>rw[hb]at G;cases G
    |true=>
     rw[hb]at G;simp only[cond_true]at G;split at G
     .rename_i v o wx;cases G;refine⟨rfl,fun h'=>?_⟩;simp only[qe,yo,e1,e2,wx];rw[hb];rfl
     .cases G
   .cases G
   .cases G
 |append rk sz b x y=>
  cases rk with
  |none=>exact gk (fun _=>rfl) rfl
  |some rk=>
   simp only[qe,qn]at G;split at G
   .rename_i df vy e1 e2
    cases gN:((z5 e x).isSome&&If sz df)with
    |false=>simp[gN]at G
    |true=>
     simp only[gN,cond_true]at G;split at G
     .rename_i ys cT
      cases dw:(I7 ys.length 1073741824&&I7 b 4096&&Il 0 sz)with
      |false=>simp[dw]at G
      |true=>
       simp only[dw,cond_true]at G;split at G
       .rename_i h' hn;cases G;refine⟨_,hn,fun g g3 hg=>?_⟩;simp only[qe,qn,e1,e2,gN,cT,dw,cond_true];rw[show cG.cX (.append (En rk) sz b x y)=rk from rfl]at hg;rw[hg];rfl
       .cases G
     .cases G
   .cases G
 |gI rk sz bt x y=>
  simp only[qe,qn]at G;split at G
  .rename_i TQ vy e1 e2;split at G
   .rename_i ys cT
    cases hk:(I7 ys.length 1073741824&&I7 bt 4096&&Il 0 sz&&!ys.isEmpty&&qo 0 ys&&Il rk 1000)with
    |false=>rw[hk]at G;cases G
    |true=>
     rw[hk]at G;simp only[cond_true]at G;split at G
     .rename_i h' dx;obtain rfl:=qx G;obtain⟨i1,i2⟩:=ke dx
      have hrk:rk<1000:=by simp only[E6]at hk;exact I5.mp hk.2
      have m1:(rk+1000*sz) % 1000=rk:=by omega
      have m2:(rk+1000*sz) / 1000=sz:=by omega
      refine⟨h0+rk,.vec sz 0 ys,.hole,.inl ⟨by show _=h0+(rk+1000*sz) % 1000;rw[m1],rfl⟩,i1,i2,by show En sz=En ((rk+1000*sz) / 1000);rw[m2],fun g hg=>?_⟩;simp only[qe,qn,e1,e2,cT,hk,cond_true,aO,hg];rfl
     .cases G
   .cases G
  .rename_i b bN len vy e1 e2;split at G
   .rename_i df dJ xs gR;split at G
    .rename_i ys cT
     cases hk:(If bN dJ&&If sz df&&I7 len xs.length&&I7 (len+ys.length) 1073741824&&I7 bt 4096&&Il 0 sz&&qo 0 ys&&Il rk 1000)with
     |false=>rw[hk]at G;cases G
     |true=>
      rw[hk]at G;simp only[cond_true]at G;split at G
      .rename_i h' bK;obtain rfl:=qx G;have fc:=hk;simp only[E6]at fc;obtain⟨⟨⟨⟨⟨⟨⟨_,k2⟩,_⟩,_⟩,_⟩,_⟩,_⟩,k8⟩:=fc;have db:=Hc k2;have hrk:rk<1000:=I5.mp k8
       have m2:(rk+1000*sz) / 1000=sz:=by omega
       have bg:b<h.length:=by unfold zm at gR;exact(Ic.1 gR).1
       have hh:h'=h.set b (.vec sz (bN+1) (xs.take len++ys)):=by
        unfold j0 at bK;rw[I5.mpr bg]at bK;simpa using bK.symm
       refine⟨b,.vec sz (bN+1) (xs.take len++ys),.vec df dJ xs,.inr (by show En df=En ((rk+1000*sz) / 1000);rw[m2,db]),gR,hh,by show En sz=En ((rk+1000*sz) / 1000);rw[m2],fun g hg=>?_⟩;have kA:zm g b=En (.vec df dJ xs):=hg;have wy:b<g.length:=(Ic.1 hg).1;simp only[qe,qn,e1,e2,kA,cT,hk,cond_true,j0,I5.mpr wy];rfl
      .cases G
    .cases G
   .cases G
  .cases G
 |gd rk sz n z ps=>trivial
 |b9 rk sz b z n c=>
  cases rk with
  |none=>exact gk (fun _=>rfl) rfl
  |some rk=>
   simp only[qe,qn]at G;split at G
   .rename_i n' c' e1 e2
    cases hk:(If n' c'&&I7 n' 1073741824&&I7 b 4096&&If z.length sz&&Il 0 sz&&z.all qk)with
    |false=>simp[hk]at G
    |true=>
     simp only[hk,cond_true]at G;split at G
     .rename_i h' hn;have Y:=qx G;refine⟨_,by rw[Y];exact hn,fun g g3 hg=>?_⟩;simp only[qe,qn,e1,e2,hk,cond_true];rw[show cG.cX (.b9 (En rk) sz b z n c)=rk from rfl]at hg;rw[hg,Y];rfl
     .cases G
   .cases G
 |lookup kd z ok x y=>
  simp only[qe,yt]at G;split at G
  .rename_i b kv e1 e2
   cases hk:zf h0 al b with
   |false=>simp[hk]at G
   |true=>
    simp only[hk,cond_true]at G;split at G
    .rename_i es hb
     have kA:∀h':qf,(∀b,zf h0 al b=H3->(pG al=H3->nV h[b]?=H3)->h'[b]?=h[b]?)->zm h' b=En (.map es):=fun h' dh=>by
      have Uo:=FL hb rfl;unfold zm at hb ⊢;rw[dh b hk fun _=>Uo,hb]
     split at G
     .rename_i i v hf;refine⟨(ny (h':=h) G).1,fun h' dh=>?_⟩;simp only[qe,yt,e1,e2,hk,cond_true,kA h' dh,hf];exact(ny (h':=h') G).2
     .rename_i hf;refine⟨(ny (h':=h) G).1,fun h' dh=>?_⟩;simp only[qe,yt,e1,e2,hk,cond_true,kA h' dh,hf];exact(ny (h':=h') G).2
     .cases G
    .cases G
  .rename_i kv e1 e2;refine⟨(ny (h':=h) G).1,fun h' dh=>?_⟩;simp only[qe,yt,e1,e2];exact(ny (h':=h') G).2
  .cases G
 |mapUpdate kd x y z=>
  simp only[qe,qn]at G;split at G
  .rename_i b kv v e1 e2 e3
   cases hk:zf h0 al b with
   |false=>simp[hk]at G
   |true=>
    simp only[hk,cond_true]at G;split at G
    .rename_i es hb
     have kA:∀h':qf,h'[b]?=h[b]?->zm h' b=En (.map es):=fun h' dh=>by
      unfold zm at hb ⊢;rw[dh,hb]
     split at G
     .rename_i i u hf;split at G
      .rename_i h' bK;have Y:=qx G;refine⟨b,_,hk,FL hb rfl,rfl,by rw[Y];exact bK,fun g g3 fq hg=>?_⟩;simp only[qe,qn,e1,e2,e3,hk,cond_true,kA g fq,hf,hg,Y];rfl
      .cases G
     .rename_i hf
      cases hl:I7 es.length 1073741824 with
      |false=>simp[hl]at G
      |true=>
       simp only[hl,cond_true]at G;split at G
       .rename_i h' bK;have Y:=qx G;refine⟨b,_,hk,FL hb rfl,rfl,by rw[Y];exact bK,fun g g3 fq hg=>?_⟩;simp only[qe,qn,e1,e2,e3,hk,cond_true,kA g fq,hf,hl,hg,Y];rfl
       .cases G
     .cases G
    .cases G
  .cases G
 |delete kd x y=>
  simp only[qe,qn]at G;split at G
  .rename_i b kv e1 e2
   cases hk:zf h0 al b with
   |false=>simp[hk]at G
   |true=>
    simp only[hk,cond_true]at G;split at G
    .rename_i es hb
     have kA:∀h':qf,h'[b]?=h[b]?->zm h' b=En (.map es):=fun h' dh=>by
      unfold zm at hb ⊢;rw[dh,hb]
     split at G
     .rename_i rr hf;split at G
      .rename_i h' bK;have Y:=qx G;refine⟨b,_,hk,FL hb rfl,rfl,by rw[Y];exact bK,fun g g3 fq hg=>?_⟩;simp only[qe,qn,e1,e2,hk,cond_true,kA g fq,hf,hg,Y];rfl
      .cases G
     .cases G
    .cases G
  .cases G
 |copy sz x y=>
  simp only[qe,qn]at G;split at G
  .rename_i b o len vy e1 e2
   cases hk:zf h0 al b with
   |false=>simp[hk]at G
   |true=>
    simp only[hk,cond_true]at G;split at G
    .rename_i cs hcs;split at G
     .rename_i n us cT;split at G
      .rename_i eF ct
       cases dw:If us.length (n*sz)with
       |false=>simp[dw]at G
       |true=>
        simp only[dw,cond_true]at G;split at G
        .rename_i h' bK;have Y:=qx G;refine⟨b,_,hk,IP hcs,rfl,by rw[Y];exact bK,fun g g3 hb hg=>?_⟩;simp only[qe,qn,e1,e2,hk,cond_true,IQ hb,hcs,cT,ct,dw,hg,Y];rfl
        .cases G
      .cases G
     .cases G
    .cases G
  .cases G
 |fE x=>
  simp only[qe,qn]at G;split at G
  .rename_i b hv
   cases hk:zf h0 al b with
   |false=>simp[hk]at G
   |true=>
    simp only[hk,cond_true]at G;split at G
    .rename_i s pos hb
     have bg:b<h.length:=by unfold zm at hb;exact(Ic.1 hb).1
     cases hp:Il pos s.length with
     |true=>
      simp only[hp,cond_true]at G;split at G
      .rename_i h' bK;have Y:=qx G;refine⟨b,_,hk,FL hb rfl,rfl,by rw[Y];exact bK,fun g g3 fq hg=>?_⟩
       have kA:zm g b=En (.iter s pos):=by unfold zm at hb ⊢;rw[fq,hb]
       simp only[qe,qn,hv,hk,cond_true,kA,hp,hg,Y];rfl
      .cases G
     |false=>
      simp only[hp,cond_false]at G;have Y:=qx G
      have IU:h.set b (.iter s pos)=h:=by
       unfold zm at hb;apply Qf;intro k;rw[Ni];split
       .rename_i hbk;subst hbk;first|exact hb.symm|rw[if_pos bg,hb]
       .rfl
      refine⟨b,.iter s pos,hk,FL hb rfl,rfl,by rw[Y];unfold j0;rw[I5.mpr bg];simp[IU],fun g g3 fq hg=>?_⟩
      have kA:zm g b=En (.iter s pos):=by unfold zm at hb ⊢;rw[fq,hb]
      have wy:b<g.length:=by unfold zm at kA;exact(Ic.1 kA).1
      have Bi:g3=g:=by
       unfold j0 at hg;rw[I5.mpr wy]at hg;simp only[cond_true,En.injEq]at hg;rw[<-hg];unfold zm at kA;apply Qf;intro k;rw[Ni];split
       .rename_i hbk;subst hbk;first|exact kA.symm|rw[if_pos wy,kA]
       .rfl
      simp only[qe,qn,hv,hk,cond_true,kA,hp,cond_false,Y,Bi];rfl
    .cases G
  .cases G
 |_=>exact gk (fun _=>rfl) rfl
theorem yA {h h' b x}(G:j0 h b x=En h'):b<h.length/\h'=h.set b x:=by
 unfold j0 at G
 cases hb:Il b h.length with
 |false=>simp[hb]at G|true=>exact⟨I5.mp hb,by simpa[hb]using G.symm⟩
theorem Bj {h b x}(hb:b<h.length):j0 h b x=En (h.set b x):=by
 unfold j0;rw[I5.mpr hb];rfl
theorem FM {h k x}(hh:h[h0+k]?=En .hole):aO h0 h k x=En (h.set (h0+k) x):=by
 unfold aO;rw[hh]
theorem FN {b k}(h:zf h0 al b=H3)(hk:nR al k=Ig):b≠h0+k:=by
 intro hb;subst hb
 cases al with
 |none=>simp[nR]at hk
 |some l=>
  simp only[zf,nR]at h hk
  have Y:Il (h0+k) h0=Ig:=by
   cases hh:Il (h0+k) h0 with
   |false=>rfl|true=>have:=I5.mp hh;omega
  cases he:oI l with
  |false=>
   rw[he]at h hk;simp only[cond_false]at h hk;rw[Y,Lm,show h0+k-h0=k from by omega,hk]at h;cases h
  |true=>
   rw[he]at h hk;simp only[cond_true]at h hk
   cases l with
   |nil=>cases he
   |cons x l=>
    simp only[Ax]at h
    cases M:Il x 2000 with
    |true=>rw[M]at h;simp only[cond_true,Y,Bool.and_false]at h;cases h
    |false=>
     rw[M]at h;simp only[cond_false]at h
     cases hx4:Il x 4000 with
     |false=>rw[hx4]at h;simp only[cond_false,Y]at h;cases h
     |true=>
      rw[hx4]at h;simp only[cond_true]at h;have I:=Hc h
      have h3:¬x<2000:=fun hh=>by rw[I5.mpr hh]at M;cases M
      have h4:x=2000+k:=by omega
      rw[show(x::l).headD 0=x from rfl,h4,Zw]at hk;cases hk
theorem qtj {l:List Nat}{x}(h:(!(l.contains x))=H3):l.contains x=Ig:=by
 cases hc:l.contains x with
 |false=>rfl|true=>rw[hc]at h;cases h
theorem Up {Uq Ur:ak Nat}{b b'}(h:Fv Uq Ur=H3)(Y:zf h0 Uq b=H3)(I:zf h0 Ur b'=H3):b≠b':=by
 intro hb;subst hb
 cases Uq with
 |none=>cases h
 |some l=>
  cases Ur with
  |none=>cases h
  |some m=>
   simp only[Fv,zf]at h Y I
   have inv:∀ {k:List Nat},oI k=H3->Il (k.headD 0) 4000=H3->Ax h0 k b=H3->(1000<=k.headD 0)/\((k.headD 0<2000/\b=k.headD 0-1000/\b<h0)\/(2000<=k.headD 0/\b=h0+(k.headD 0-2000))):=by
    intro k he h4 hq
    cases k with
    |nil=>cases he
    |cons x k=>
     refine⟨H9 he,?_⟩;simp only[Ax]at hq
     cases M:Il x 2000 with
     |true=>
      rw[M]at hq;simp only[cond_true,E6]at hq;exact .inl ⟨I5.mp M,Hc hq.1,I5.mp hq.2⟩
     |false=>
      rw[M,show Il x 4000=H3 from h4]at hq;simp only[cond_false,cond_true]at hq
      have h3:¬x<2000:=fun hh=>by rw[I5.mpr hh]at M;cases M
      exact .inr ⟨by show 2000<=x;omega,Hc hq⟩
   have old:∀ {k:List Nat} {r:Nat},b=h0+r->k.contains r=Ig->(Il b h0||k.contains (b-h0))=H3->False:=by
    intro k r iN hc hq
    have h3:Il b h0=Ig:=by
     cases hh:Il b h0 with
     |false=>rfl|true=>have:=I5.mp hh;omega
    rw[h3,Lm,show b-h0=r by omega,hc]at hq;cases hq
   cases hl:oI l with
   |true=>
    rw[hl]at h Y;simp only[cond_true]at h Y
    cases hm:oI m with
    |true=>
     rw[hm]at h I;simp only[cond_true,E6]at h I;obtain⟨i1,i2⟩:=inv hl h.1.2 Y;obtain⟨i3,i4⟩:=inv hm h.2 I
     have bG:l.headD 0≠m.headD 0:=fun e=>by rw[e,Zw]at h;exact absurd h.1.1 (by simp)
     omega
    |false=>
     rw[hm]at h I;simp only[cond_false,E6]at h I;obtain⟨i1,i2⟩:=inv hl h.1.2 Y;have h3:=H9 h.1.1;exact old (by omega) (qtj h.2) I
   |false=>
    rw[hl]at h Y;simp only[cond_false,E6]at h Y;obtain⟨⟨⟨h3,h4⟩,h6⟩,h5⟩:=h;rw[h3]at I;simp only[cond_true]at I;obtain⟨i3,i4⟩:=inv h3 h6 I;have h4:=H9 h4;exact old (by omega) (qtj h5) Y
theorem Us {F h r k}(H:HB h0 al F h r .take k):HB h0 al F h r .write k:=by
 obtain⟨b,cs,v,o,hb,hc,hv,G,h4⟩:=H;have bg:b<h.length:=(Ic.1 hc).1;refine⟨b,.cells (cs.set k (v,Ig)),hb,by rw[hc];rfl,rfl,by rw[G];exact Bj bg,fun h' h3 hh bK=>?_⟩;rw[h4 h' cs (by rw[hh];exact hc) hv];obtain⟨_,s2⟩:=yA bK;rw[s2]
theorem jom {ca cb ka kb rA rB Fa Fb h ra rb}(yB:Fb h=En rb)(IV:Fa rb.heap=En ra)(Hb:HB h0 rB Fb h rb cb kb)(Ha:HB h0 rA Fa rb.heap ra ca ka)
  (ea:cb=.read\/cb=.write\/cb=.take) (ep:ca=.read\/ca=.write\/ca=.take) (lh:Fv rB rA=H3):
  ∃Y,Fa h=En (ra.at Y)/\Fb Y=En (rb.at ra.heap):=by
 have hat:∀r:bu,r.at r.heap=r:=fun _=>rfl
 have wb:(cb=.read/\HB h0 rB Fb h rb .read kb)\/HB h0 rB Fb h rb .write kb:=by
  rcases ea with rfl|rfl|rfl
  .exact .inl ⟨rfl,Hb⟩
  .exact .inr Hb
  .exact .inr (Us Hb)
 have wa:(ca=.read/\HB h0 rA Fa rb.heap ra .read ka)\/HB h0 rA Fa rb.heap ra .write ka:=by
  rcases ep with rfl|rfl|rfl
  .exact .inl ⟨rfl,Ha⟩
  .exact .inr Ha
  .exact .inr (Us Ha)
 rcases wb with⟨_,Y,I⟩|⟨b,x,hb,_,_,G,I⟩
 .rcases wa with⟨_,h3,h4⟩|⟨b',y,fq,_,_,gC,h4⟩
  .exact⟨h,h4 h (fun b _ _=>by rw[Y]),by rw[h3,hat];exact yB⟩
  .rw[Y]at gC;obtain⟨s1,s2⟩:=yA gC;refine⟨ra.heap,by rw[hat,<-IV,Y],I _ (fun b hb _=>?_)⟩;rw[s2,H2 (I9 (Up lh hb fq))]
 .obtain⟨s1,s2⟩:=yA G;rcases wa with⟨_,h3,h4⟩|⟨b',y,fq,_,_,gC,h4⟩
  .refine⟨h,h4 h (fun b' fq _=>?_),by rw[h3,hat];exact yB⟩;rw[s2,H2 (Up lh hb fq)]
  .obtain⟨s3,s4⟩:=yA gC;have bG:=Up lh hb fq;rw[s2,Jb]at s3;refine⟨h.set b' y,h4 _ _ (by rw[s2,H2 bG]) (Bj s3),I _ _ (by rw[H2 (I9 bG)]) ?_⟩;rw[Bj (by rw[Jb];exact s1),s4,s2,Ja _ _ (I9 bG)]
def ND (ca cb:AK)(ka kb:Nat)(rA rB:ak Nat):Prop:=
 (cb=.oM/\ca=.oM/\kb % 1000≠ka % 1000/\kb / 1000≠ka / 1000)\/(cb=.oM/\(ca=.read\/ca=.write\/ca=.take)/\pG rA=H3)\/((cb=.read\/cb=.write\/cb=.take)/\ca=.oM/\pG rB=H3)
theorem jw9 {ca cb ka kb rA rB Fa Fb h ra rb}(yB:Fb h=En rb)(IV:Fa rb.heap=En ra)(Hb:HB h0 rB Fb h rb cb kb)(Ha:HB h0 rA Fa rb.heap ra ca ka)
  (dF:ND ca cb ka kb rA rB):∃Y,Fa h=En (ra.at Y)/\Fb Y=En (rb.at ra.heap):=by
 have hat:∀r:bu,r.at r.heap=r:=fun _=>rfl
 have IW:∀ {c:AK} {k:Nat} {al:ak Nat} {F:qf->Option bu} {g:qf} {r:bu},HB h0 al F g r c k->(c=.read\/c=.write\/c=.take)->HB h0 al F g r .read k\/HB h0 al F g r .write k:=by
  intro c k al F g r H hc;rcases hc with rfl|rfl|rfl
  .exact .inl H
  .exact .inr H
  .exact .inr (Us H)
 have nvs:∀ {x:aK} {z:Nat},Un x=En z->nV (En x)=Ig:=fun {x z} h=>by cases x<;>first|rfl|cases h
 rcases dF with⟨rfl,rfl,n1,n2⟩|⟨rfl,ep,G⟩|⟨ea,rfl,G⟩
 .obtain⟨q,x,y,hq,hy,hh,M,hF⟩:=Hb;obtain⟨q',x',y',Nw,A4,FO,fp,hF'⟩:=Ha;have bg:q<h.length:=(Ic.1 hy).1
  have bG:q≠q':=by
   intro he;subst he;rw[hh,Jc bg]at A4;cases A4;rcases Nw with⟨_,rfl⟩|h4
   .cases M
   .rw[M]at h4;exact n2 (En.inj h4)
  rw[hh,H2 bG]at A4;refine⟨h.set q' x',hF' h A4,?_⟩;rw[hF _ (by rw[H2 (I9 bG)];exact hy),FO,hh,Ja _ _ bG]
 .obtain⟨q,x,y,hq,hy,hh,M,hF⟩:=Hb;have bg:q<h.length:=(Ic.1 hy).1
  -- the box that the append wrote is a vector now
  have dx:nV rb.heap[q]?=Ig:=by rw[hh,Jc bg];exact nvs M
  rcases IW Ha ep with⟨h3,h4⟩|⟨b,z,hb,hn,Ut,hz,h4⟩
  .refine⟨h,h4 h (fun b hb hn=>?_),by rw[h3,hat];exact yB⟩
   have bG:b≠q:=fun e=>by subst e;rw[hn G]at dx;cases dx
   rw[hh,H2 (I9 bG)]
  .have bG:b≠q:=fun e=>by subst e;rw[hn]at dx;cases dx
   obtain⟨s1,s2⟩:=yA hz;rw[hh,Jb]at s1;refine⟨h.set b z,h4 _ _ (by rw[hh,H2 (I9 bG)]) (Bj s1),?_⟩;rw[hF _ (by rw[H2 bG];exact hy),s2,hh,Ja _ _ bG]
 .obtain⟨q,x,y,hq,hy,hh,M,hF⟩:=Ha
  have hold:nV (En y)=Ig:=by
   rcases hq with⟨_,rfl⟩|Y
   .rfl
   .exact nvs Y
  rcases IW Hb ea with⟨h3,h4⟩|⟨b,z,hb,hn,Ut,hz,h4⟩
  .rw[h3]at hy hh;refine⟨h.set q x,hF h hy,?_⟩
   rw[h4 (h.set q x) (fun b hb hn=>by
    have bG:b≠q:=fun e=>by subst e;rw[hy]at hn;rw[hold]at hn;exact absurd (hn G) (by simp)
    rw[H2 (I9 bG)]),hh]
  .obtain⟨s1,s2⟩:=yA hz
   have bG:b≠q:=by
    intro e;subst e;rw[s2,Jc s1]at hy;rw[En.inj hy,hold]at Ut;cases Ut
   rw[s2,H2 bG]at hy;refine⟨h.set q x,hF h hy,h4 _ _ (by rw[H2 (I9 bG)]) ?_⟩;rw[Bj (by rw[Jb];exact s1),hh,s2,Ja _ _ (I9 bG)]
theorem jtn {ca cb ka kb rA rB Fa Fb h ra rb}(yB:Fb h=En rb)(IV:Fa rb.heap=En ra)(Hb:HB h0 rB Fb h rb cb kb)(Ha:HB h0 rA Fa rb.heap ra ca ka)
  (dF:cb=.pure\/ca=.pure\/(cb=.read/\ca=.read)\/(cb=.alloc/\ca=.alloc/\kb≠ka)\/(cb=.alloc/\(ca=.read\/ca=.write\/ca=.take)/\nR rA kb=Ig)\/((cb=.read\/cb=.write\/cb=.take)/\ca=.alloc/\nR rB ka=Ig)\/(cb=.take/\ca=.take/\kb≠ka)):
  ∃Y,Fa h=En (ra.at Y)/\Fb Y=En (rb.at ra.heap):=by
 have hat:∀r:bu,r.at r.heap=r:=fun _=>rfl;rcases dF with rfl|rfl|⟨rfl,rfl⟩|⟨rfl,rfl,bG⟩|⟨rfl,ep,oX⟩|⟨ea,rfl,oX⟩|⟨rfl,rfl,bG⟩
 .obtain⟨Y,I⟩:=Hb;exact⟨ra.heap,by rw[hat,<-IV,Y],I _⟩
 .obtain⟨Y,I⟩:=Ha;exact⟨h,I _,by rw[Y,hat];exact yB⟩
 .obtain⟨Y,I⟩:=Hb;obtain⟨h3,h4⟩:=Ha;exact⟨h,h4 h (fun b _ _=>by rw[Y]),by rw[h3,hat];exact yB⟩
 .obtain⟨x,n1,n2⟩:=Hb;obtain⟨y,n3,n4⟩:=Ha;obtain⟨i1,i2⟩:=ke n1;obtain⟨i3,i4⟩:=ke n3;rw[i2,H2 (by omega)]at i3;refine⟨h.set (h0+ka) y,n4 _ _ (FM i3),n2 _ _ ?_⟩;rw[FM (by rw[H2 (by omega)];exact i1),i4,i2,Ja _ _ (by omega)]
 .obtain⟨x,n1,n2⟩:=Hb;obtain⟨i1,i2⟩:=ke n1;rcases ep with rfl|rfl|rfl
  .obtain⟨h3,h4⟩:=Ha;refine⟨h,h4 h (fun b hb _=>?_),by rw[h3,hat];exact yB⟩;rw[i2,H2 (I9 (FN hb oX))]
  .obtain⟨b,y,hb,_,_,G,h4⟩:=Ha;obtain⟨s1,s2⟩:=yA G;have bG:=FN hb oX;rw[i2,Jb]at s1;refine⟨h.set b y,h4 _ _ (by rw[i2,H2 (I9 bG)]) (Bj s1),n2 _ _ ?_⟩;rw[FM (by rw[H2 bG];exact i1),s2,i2,Ja _ _ bG]
  .obtain⟨b,cs,v,o,hb,hc,hv,G,h4⟩:=Ha;have bG:=FN hb oX;rw[i2,H2 (I9 bG)]at hc;refine⟨_,h4 _ _ hc hv,n2 _ _ ?_⟩;rw[FM (by rw[H2 bG];exact i1),G,i2,Ja _ _ bG]
 .obtain⟨y,n3,n4⟩:=Ha;obtain⟨i3,i4⟩:=ke n3;rcases ea with rfl|rfl|rfl
  .obtain⟨Y,I⟩:=Hb;refine⟨ra.heap,by rw[hat,<-IV,Y],I _ (fun b hb _=>?_)⟩;rw[i4,Y,H2 (I9 (FN hb oX))]
  .obtain⟨b,x,hb,_,_,G,I⟩:=Hb;obtain⟨s1,s2⟩:=yA G;have bG:=FN hb oX;rw[s2,H2 bG]at i3;refine⟨h.set (h0+ka) y,n4 _ _ (FM i3),I _ _ (by rw[H2 (I9 bG)]) ?_⟩;rw[Bj (by rw[Jb];exact s1),i4,s2,Ja _ _ (I9 bG)]
  .obtain⟨b,cs,v,o,hb,hc,hv,G,I⟩:=Hb;have bG:=FN hb oX;rw[G,H2 bG]at i3;refine⟨h.set (h0+ka) y,n4 _ _ (FM i3),?_⟩;rw[I _ cs (by rw[H2 (I9 bG)];exact hc) hv,i4,G,Ja _ _ (I9 bG)]
 .obtain⟨b,cs,v,o,hb,hc,hv,G,I⟩:=Hb;obtain⟨b',eF,v',o',fq,eb,wE,gC,h4⟩:=Ha;have bg:b<h.length:=(Ic.1 hc).1;by_cases Bk:b'=b
  .subst Bk;rw[G,Jc bg]at eb;cases eb;rw[H2 bG]at wE;refine⟨h.set b' (.cells (cs.set ka (v',Ig))),h4 h cs hc wE,?_⟩;rw[I _ (cs.set ka (v',Ig)) (by rw[Jc bg]) (by rw[H2 (I9 bG)];exact hv),gC,G];simp only[List.set_set];rw[Ja _ _ bG]
  .rw[G,H2 (I9 Bk)]at eb;refine⟨h.set b' (.cells (eF.set ka (v',Ig))),h4 h eF eb wE,?_⟩;rw[I _ cs (by rw[H2 Bk];exact hc) hv,gC,G,Ja _ _ Bk]
end
section
variable {p:j8}{xc:XC}{h0:Nat}
def mU (p:j8)(xc:XC)(h0:Nat)(o:bT)(e:Env)(h:qf):Option bu:=
 match nP e o.guard with
 |some H3=>qe p xc h0 o.al e h o.op|some Ig=>En ⟨.undef,Ig,Ik,h⟩|none=>Ik
def rC (o:bT)(e:Env)(r:bu):Env:=oK (yh e r.strip) o.dst r.v r.own
theorem FP (o:bT)(st:bn):yp p xc h0 o st=(mU p xc h0 o st.env st.heap).map fun r=>⟨rC o st.env r,r.heap⟩:=by
 unfold yp mU
 cases hg:nP st.env o.guard with
 |none=>rfl
 |some b=>
  cases b with
  |false=>rfl
  |true=>
   simp only[];cases qe p xc h0 o.al st.env st.heap o.op<;>rfl
theorem q5f {e e' g}(h:Agree (match g with|some g=>[g.1]|none=>[]) e e'):nP e g=nP e' g:=by
 cases g with
 |none=>rfl|some g=>simp only[nP,h g.1 (by simp)]
theorem Uu {o e e' h}(ha:Agree o.reads e e'):mU p xc h0 o e h=mU p xc h0 o e' h:=by
 have Y:Agree o.op.reads e e':=(Agree.app ha).1;have I:=(Agree.app ha).2;simp only[mU,q5f I,q9g Y]
theorem ja4 {h0 r h v o res}(G:sn h0 h r v o=En res):res.strip=Ik:=by
 unfold sn at G;simp only[Jl,val]at G
 repeat' split at G
 all_goals first
  |(cases G;done)
  |(cases G;rfl)
theorem q5e {al e h op r}(G:qe p xc h0 al e h op=En r){s}(Q:r.strip=En s):s∈op.fN:=by
 have own:∀ {x:ju},z5 e x=En s->s∈zi x:=by
  intro x h;obtain⟨rfl,_⟩:=HU h;simp[zi]
 have oY:∀ {x:AVal},val h x=En r->False:=fun hv=>by rw[qx hv]at Q;cases Q
 have Bl:∀ {x:Option AVal},gK h x=En r->False:=fun hv=>by obtain⟨_,_,Y⟩:=uH hv;rw[Y]at Q;cases Q
 cases op with
 |take t=>
  simp only[qe,ql]at G;split at G
  .cases G;simp at Q;simp[cG.fN,Q]
  .cases G
 |append rk sz b x y=>
  cases rk with
  |some rk=>
   simp only[qe,qn,Jl]at G
   repeat' split at G
   all_goals first
    |(cases G;done)
    |(cases G;exact own Q)
  |none=>
   simp only[qe,ql,Jl]at G
   repeat' split at G
   all_goals first
    |(cases G;done)
    |(cases G;exact own Q)
 |store n x y=>
  simp only[qe,qn,Jl]at G
  repeat' split at G
  all_goals first
   |(cases G;done)
   |exact(oY G).elim
   |(rename_i ht _ _ _ _;cases G;simp only[En.injEq]at Q;subst Q;exact own ht)
   |(unfold val at G;cases G;cases Q;done)
   |skip
 |b9 rk sz b z n c=>
  cases rk with
  |some rk=>
   simp only[qe,qn,Jl]at G
   repeat' split at G
   all_goals first
    |(cases G;done)
    |exact(oY G).elim
    |(unfold val at G;cases G;cases Q;done)
  |none=>
   simp only[qe,ql,Jl]at G
   repeat' split at G
   all_goals first
    |(cases G;done)
    |(cases G;cases Q;done)
 |call md f l=>
  cases md<;>simp only[qe,yo,Jl]at G
  all_goals
   repeat' split at G
  all_goals first
   |(cases G;done)
   |exact(oY G).elim
   |(cases G;cases Q;done)
   |(rw[ja4 G]at Q;cases Q;done)
 |_=>
  simp only[qe,ql,yt,qn,Jl]at G
  repeat' split at G
  all_goals first
   |(cases G;done)
   |exact(oY G).elim
   |exact(Bl G).elim
   |(cases G;cases Q;done)
   |(unfold val at G;cases G;cases Q;done)
theorem qz3 {o e h r}(G:mU p xc h0 o e h=En r){s}(Q:r.strip=En s):s∈o.op.fN:=by
 unfold mU at G;split at G
 .exact q5e G Q
 .cases G;cases Q
 .cases G
theorem FQ {s x e}:jn s ((s,x)::e)=En x:=by
 simp only[jn,Zw,cond_true]
theorem NE {s t x e}(h:s≠t):jn s ((t,x)::e)=jn s e:=by
 have:If t s=Ig:=by
  cases hb:If t s with
  |false=>rfl|true=>exact absurd (Hc hb).symm h
 simp only[jn,this,cond_false]
theorem Uv {s e x}(h:∀t,x=En t->s≠t):jn s (yh e x)=jn s e:=by
 cases x with
 |none=>rfl
 |some t=>
  simp only[yh];split
  .exact NE (h t rfl)
  .rfl
theorem qw0 {s e e' x}(h:jn s e=jn s e'):jn s (yh e x)=jn s (yh e' x):=by
 cases x with
 |none=>exact h
 |some t=>
  by_cases ct:s=t
  .subst ct;simp only[yh];rw[<-h]
   cases hl:jn s e with
   |none=>simp only[];rw[hl,<-h,hl]|some y=>simp only[];rw[FQ,FQ]
  .rw[Uv (fun u hu=>by cases hu;exact ct),Uv (fun u hu=>by cases hu;exact ct)];exact h
theorem Uw {s e d v o}(h:∀t,d=En t->s≠t):jn s (oK e d v o)=jn s e:=by
 cases d with
 |none=>rfl|some t=>exact NE (h t rfl)
theorem q3k {s e e' d v o}(h:jn s e=jn s e'):jn s (oK e d v o)=jn s (oK e' d v o):=by
 cases d with
 |none=>exact h
 |some t=>
  by_cases ct:s=t
  .subst ct;simp only[oK];rw[FQ,FQ]
  .rw[Uw (fun u hu=>by cases hu;exact ct),Uw (fun u hu=>by cases hu;exact ct)];exact h
theorem Ux {o s e e' r}(h:jn s e=jn s e'):jn s (rC o e r)=jn s (rC o e' r):=q3k (qw0 h)
theorem FR {o s e r}(Q:∀t,r.strip=En t->t∈o.op.fN)(h:s ∉ o.writes):jn s (rC o e r)=jn s e:=by
 unfold rC;rw[Uw,Uv]
 .intro t ht ct;exact h (S8 _ (ct▸Q t ht))
 .intro t ht ct;exact h (Tn _ (by rw[ht,ct];simp))
theorem jho {o e r h}:rC o e (r.at h)=rC o e r:=rfl
def kB (a b:bn):Prop:=a.heap=b.heap/\∀s,jn s a.env=jn s b.env
theorem kB.refl (a:bn):kB a a:=⟨rfl,fun _=>rfl⟩
theorem kB.trans {a b c}(h:kB a b)(k:kB b c):kB a c:=⟨h.1.trans k.1,fun s=>(h.2 s).trans (k.2 s)⟩
theorem q2i {o a b a'}(h:kB a b)(G:yp p xc h0 o a=En a'):∃b',yp p xc h0 o b=En b'/\kB a' b':=by
 rw[FP]at G;obtain⟨r,Q,rfl⟩:=Ia.1 G;rw[Uu (e':=b.env) (fun s _=>h.2 s),h.1]at Q;refine⟨⟨rC o b.env r,r.heap⟩,by rw[FP,Q];rfl,rfl,fun s=>Ux (h.2 s)⟩
theorem qz7:∀ {l:List bT} {a b a':bn},kB a b->fH p xc h0 l a=En a'->∃b',fH p xc h0 l b=En b'/\kB a' b'
 | [],a,b,a',h,G=>by simp only[fH,En.injEq]at G ⊢;subst G;exact⟨b,rfl,h⟩
 |o::l,a,b,a',h,G=>by
  simp only[fH]at G;split at G
  .rename_i J Y;obtain⟨b1,k1,k2⟩:=q2i h Y;obtain⟨b',k3,k4⟩:=qz7 k2 G;exact⟨b',by simp only[fH,k1,k3],k4⟩
  .cases G
theorem jjk {o e h r}(G:mU p xc h0 o e h=En r):∃c k,HB h0 o.al (mU p xc h0 o e) h r c k/\(c=.pure\/(c=o.op.cl/\k=o.op.cX)):=by
 unfold mU at G
 cases hg:nP e o.guard with
 |none=>rw[hg]at G;cases G
 |some b=>
  cases b with
  |false=>
   rw[hg]at G;cases G;exact⟨.pure,0,⟨rfl,fun h'=>by simp only[mU,hg];rfl⟩,.inl rfl⟩
  |true=>
   rw[hg]at G;have:=jjl G
   have heq:(fun h=>qe p xc h0 o.al e h o.op)=mU p xc h0 o e:=by
    funext h;simp only[mU,hg]
   rw[heq]at this;exact⟨_,_,this,.inr ⟨rfl,rfl⟩⟩
theorem jc9 {a b}(h:S9 a b=H3):a.op.cl=.pure\/b.op.cl=.pure\/a.op.cl=.ft\/b.op.cl=.ft\/(a.op.cl=.read/\b.op.cl=.read)\/(a.op.cl=.alloc/\b.op.cl=.alloc/\a.op.cX≠b.op.cX) \/
  (a.op.cl=.alloc/\(b.op.cl=.read\/b.op.cl=.write\/b.op.cl=.take)/\nR b.al a.op.cX=Ig)\/((a.op.cl=.read\/a.op.cl=.write\/a.op.cl=.take)/\b.op.cl=.alloc/\nR a.al b.op.cX=Ig)\/(a.op.cl=.take/\b.op.cl=.take/\a.op.cX≠b.op.cX)\/((a.op.cl=.read\/a.op.cl=.write\/a.op.cl=.take)/\(b.op.cl=.read\/b.op.cl=.write\/b.op.cl=.take)/\Fv a.al b.al=H3)\/ND b.op.cl a.op.cl b.op.cX a.op.cX b.al a.al:=by
 unfold S9 at h;rw[Le]at h;rcases h with h|h
 .simp only[E6]at h;obtain⟨⟨Y,I⟩,h3⟩:=h
  have hb:∀ {c:AK},c.box=H3->c=.read\/c=.write\/c=.take:=fun {c} hc=>by cases c<;>first|(cases hc;done)|simp
  simp only[hb Y,hb I,h3,and_self,or_true,true_or]
 unfold ND;cases ha:a.op.cl<;>cases hb:b.op.cl<;>simp_all
theorem Uy {a b}(h:HD a b=H3){s}(G:s∈a):s ∉ b:=by
 unfold HD at h;rw[I6]at h;have:=h s G;simpa using this
theorem zhw {a b st s1 s2}(hm:AL b a=H3)(Y:yp p xc h0 b st=En s1)(I:yp p xc h0 a s1=En s2):
  ∃t1 t2,yp p xc h0 a st=En t1/\yp p xc h0 b t1=En t2/\kB s2 t2:=by
 rw[FP]at Y;obtain⟨rb,hb,rfl⟩:=Ia.1 Y;rw[FP]at I;obtain⟨ra,ha,rfl⟩:=Ia.1 I;simp only[AL,E6]at hm;obtain⟨⟨⟨hc,d1⟩,d2⟩,d3⟩:=hm;have sb:∀t,rb.strip=En t->t∈b.op.fN:=fun t ht=>qz3 hb ht;have sa:∀t,ra.strip=En t->t∈a.op.fN:=fun t ht=>qz3 ha ht
 -- the later one reads nothing that the earlier one writes
 have NF:mU p xc h0 a st.env rb.heap=En ra:=by
  rw[<-ha];refine Uu fun s G=>(FR sb ?_).symm;exact fun hw=>Uy d1 hw G
 obtain⟨cb,kb,Hb,ob⟩:=jjk hb;obtain⟨ca,ka,Ha,oa⟩:=jjk NF
 have lh:((cb=.read\/cb=.write\/cb=.take)/\(ca=.read\/ca=.write\/ca=.take)/\Fv b.al a.al=H3)\/(cb=.pure\/ca=.pure\/(cb=.read/\ca=.read)\/(cb=.alloc/\ca=.alloc/\kb≠ka)\/(cb=.alloc/\(ca=.read\/ca=.write\/ca=.take)/\nR a.al kb=Ig)\/((cb=.read\/cb=.write\/cb=.take)/\ca=.alloc/\nR b.al ka=Ig)\/(cb=.take/\ca=.take/\kb≠ka))\/ND ca cb ka kb a.al b.al:=by
  rcases ob with rfl|⟨rfl,rfl⟩
  .exact .inr (.inl (.inl rfl))
  rcases oa with rfl|⟨rfl,rfl⟩
  .exact .inr (.inl (.inr (.inl rfl)))
  rcases jc9 hc with h|h|h|h|h|h|h|h|h|h|h
  .exact .inr (.inl (.inl h))
  .exact .inr (.inl (.inr (.inl h)))
  .rw[h]at Hb;exact Hb.elim
  .rw[h]at Ha;exact Ha.elim
  .exact .inr (.inl (.inr (.inr (.inl h))))
  .exact .inr (.inl (.inr (.inr (.inr (.inl h)))))
  .exact .inr (.inl (.inr (.inr (.inr (.inr (.inl h))))))
  .exact .inr (.inl (.inr (.inr (.inr (.inr (.inr (.inl h)))))))
  .exact .inr (.inl (.inr (.inr (.inr (.inr (.inr (.inr h)))))))
  .exact .inl h
  .exact .inr (.inr h)
 have hsw:∃Y,mU p xc h0 a st.env st.heap=En (ra.at Y)/\mU p xc h0 b st.env Y=En (rb.at ra.heap):=by
  rcases lh with⟨q1,q2,q3⟩|dF|dF
  .exact jom hb NF Hb Ha q1 q2 q3
  .exact jtn hb NF Hb Ha dF
  .exact jw9 hb NF Hb Ha dF
 obtain⟨h3,k1,k2⟩:=hsw
 have k2':mU p xc h0 b (rC a st.env (ra.at h3)) h3=En (rb.at ra.heap):=by
  rw[<-k2];refine Uu fun s G=>FR (fun t ht=>sa t ht) ?_;exact fun hw=>Uy d3 hw G
 refine⟨⟨rC a st.env (ra.at h3),h3⟩,⟨rC b (rC a st.env (ra.at h3)) (rb.at ra.heap),ra.heap⟩,by rw[FP,k1];rfl,by rw[FP];simp only[k2'];rfl,rfl,fun s=>?_⟩;simp only[jho];by_cases hw:s∈a.writes
 .have FI:s ∉ b.writes:=fun h=>Uy d2 h hw;rw[FR sb FI];exact Ux (FR sb FI)
 .rw[FR sa hw];exact Ux (FR sa hw).symm
theorem qz9:∀ {l1 l2:List bT} {a:bT} {st s2:bn},(∀b∈l1,AL b a=H3)->fH p xc h0 (l1++a::l2) st=En s2 ->
  ∃t1 t2,yp p xc h0 a st=En t1/\fH p xc h0 (l1++l2) t1=En t2/\kB s2 t2
 | [],l2,a,st,s2,_,G=>by
  simp only[List.nil_append,fH]at G;split at G
  .rename_i t1 Y;exact⟨t1,s2,Y,G,kB.refl _⟩
  .cases G
 |b::l1,l2,a,st,s2,hm,G=>by
  simp only[Z9,fH]at G;split at G
  .rename_i s Y;obtain⟨u1,u2,I,h3,h4⟩:=qz9 (fun c hc=>hm c (by simp[hc])) G;obtain⟨t1,t2,h5,h6,h7⟩:=zhw (hm b (by simp)) Y I;obtain⟨u3,h8,h9⟩:=qz7 h7 h3;exact⟨t1,u3,h5,by simp only[Z9,fH,h6,h8],h4.trans h9⟩
  .cases G
end
def dy (P:Program)(w0:World)(C0 C:aQ)(nt:Nat)(st:bn)(a:Act)(w:World):Prop:=
 a.tmps.size=nt/\∃C' ω',C.le C'/\Marks C' w0.heap.size a.defers/\aA P C' ω' w0 C0 st.heap w/\ar C' ω' w w0.heap.size st.env a.tmps
structure IX (P:Program)(nt:Nat)(ops:Array Oper)(o:Oper)(ao:bT):Prop where
 op:∃h md r,(cS P h md r o.dst o.op).getD .bad=ao.op
 guard:AH ops o.guard=En ao.guard
 dst:ao.dst=ao.op.sw o.dst
 fits:∀d,o.dst=En d->d<nt
 vfits:∀d,ao.op.ij=En d->d<nt
 IY:∀d,ao.op.ij=En d->o.dst=Ik/\o.guard=Ik
section
variable {P:Program}{p:j8}{xc:XC}{C C0:aQ}{w0:World}{nt h0:Nat}{ops:Array Oper}{ρ:Option Nat}
theorem dy.eqv {st bP a w}(h:dy P w0 C0 C nt st a w)(he:kB st bP):dy P w0 C0 C nt bP a w:=by
 obtain⟨Y,C',ω',h3,I,h4,h5⟩:=h;exact⟨Y,C',ω',h3,I,he.1▸h4,fun s x M=>h5 s x (by rw[he.2 s];exact M)⟩
theorem ar.putAt {ω w B d e tmps v u o}(he:ar C ω w B e tmps)(hd:d<tmps.size)(Q:bS C v u)(ho:o=H3->aW C ω w B (.slot d) v u):ar C ω w B ((d,v,o)::e) (tmps.setIfInBounds d u):=by
 intro s x M;by_cases Uz:s=d
 .subst Uz;rw[FQ]at M;cases M;exact⟨u,by simp[hd],Q,ho⟩
 .rw[NE Uz]at M;obtain⟨y,Y,I,h3⟩:=he s x M;exact⟨y,by rw[Ll (I9 Uz)];exact Y,I,h3⟩
theorem jj5 {ao:bT}{st:bn}{a:Act}{w:World}{C1:aQ}{ω1:Nat->Option Loc}{e:Env}{h:qf}{v:AVal}{u:Value}{own:Bool}{o:Oper}(hd:ao.dst=o.dst)(hf:∀d,o.dst=En d->d<nt)(G:a.tmps.size=nt)(lJ:Marks C1 w0.heap.size a.defers)(hle:C.le C1)(m:aA P C1 ω1 w0 C0 h w)(he:ar C1 ω1 w w0.heap.size e a.tmps)(Q:bS C1 v u)(ho:own=H3->aW C1 ω1 w w0.heap.size (.slot (o.dst.getD 0)) v u):
  dy P w0 C0 C nt ⟨oK e ao.dst v own,h⟩ (a.put o.dst u) w:=by
 rw[hd]
 cases NG:o.dst with
 |none=>exact⟨G,C1,ω1,hle,lJ,m,he⟩
 |some d=>
  rw[NG]at ho;refine⟨by simpa[Act.put]using G,C1,ω1,hle,lJ,m,?_⟩;exact he.putAt (G▸hf d NG) Q ho
theorem q4b {o:Oper}{ao:bT}{e tmps ω w B b}(he:ar C ω w B e tmps)(hg:AH ops o.guard=En ao.guard)(hb:nP e ao.guard=En b):Region.wanted o (yielded ops tmps)=b:=by
 unfold Region.wanted
 cases hog:o.guard with
 |none=>
  rw[hog]at hg;simp only[AH,En.injEq]at hg;rw[<-hg]at hb;simp only[nP,En.injEq]at hb;exact hb
 |some g=>
  obtain⟨j,want⟩:=g;rw[hog]at hg;simp only[AH]at hg;split at hg
  .rename_i d hd;have hgd:=En.inj hg;rw[<-hgd]at hb;simp only[nP]at hb;split at hb
   .rename_i c ow hl;cases hb;obtain⟨v,Y,I,_⟩:=he d _ hl;have:=I.dq;subst this;simp only[yielded,hd,Eaa,Y];cases c<;>cases want<;>rfl
   .rename_i ow hl;cases hb;obtain⟨v,Y,I,_⟩:=he d _ hl
    have hv:v=.tuple #[]:=by cases I;rfl
    subst hv;simp only[yielded,hd,Eaa,Y];rfl
   .cases hb
  .cases hg
theorem ja3 {h md r d op n s y}(sX:∀t x z,op≠.store t x z):(cS P h md r d op).getD .bad≠.dm n s y:=by
 intro hc
 cases lK:cS P h md r d op with
 |none=>rw[lK]at hc;cases hc
 |some a=>
  rw[lK]at hc;simp only[Jz]at hc;subst hc;cases op<;>simp only[cS,cond_eq_ite]at lK<;>(try exact sX _ _ _ rfl)<;>(repeat' split at lK)<;>(try split at lK)<;>(try contradiction)<;>(try simp at lK)<;>(try (split at lK<;>simp at lK))<;>(try (unfold MZ at lK; (repeat' split at lK)<;>simp at lK))<;>(try (simp only[jpg,Ft]at lK; (repeat' split at lK)<;>simp at lK))<;>(try (simp only[AG]at lK; (repeat' split at lK)<;>(try contradiction)<;>(try simp at lK)<;>(try (split at lK<;>simp at lK))))
theorem jbn (eP:bX P p)(M:cJ P xc){i:Nat}{o:Oper}{ao:bT}{st bP:bn}{a:Act}{w:World}{aaj:Exit->Act->World->Prop}{K:Act->World->Prop}(hi:ops[i]?=En o)(Q:IX P nt ops o ao)(G:yp p xc h0 ao st=En bP)(ct:dy P w0 C0 C nt st a w)
  (hK:∀a' w',dy P w0 C0 C nt bP a' w'->K a' w'):wpOpIn (jO ρ) 0 P ops aaj i K a w:=by
 obtain⟨db,C1,ω1,hle,lJ,m,he⟩:=ct;unfold wpOpIn;rw[hi];simp only[];unfold yp at G;split at G
 .rename_i hg;rw[q4b he Q.guard hg];simp only[if_true];split at G
  .rename_i res eE;cases G;obtain⟨h,md,r,hop⟩:=Q.op
   cases n6:ao.op.ij with
   |some sv=>
    -- the one write of a variable
    have Bm:∃n y',ao.op=.dm n sv y':=by
     cases yC:ao.op<;>rw[yC]at n6<;>simp[cG.ij]at n6;subst n6;exact⟨_,_,rfl⟩
    obtain⟨n,y',yC⟩:=Bm
    have hdd:ao.dst=En sv:=by rw[Q.dst,yC];rfl
    rw[yC]at eE hop
    have ct:∃t x y,o.op=.store t x y/\js P t=En n/\qq x=En (.tmp sv)/\qq y=En y':=by
     cases hoo:o.op<;>rw[hoo]at hop
     case store t x y=>
      simp only[cS]at hop;split at hop
      .rename_i n' x' yy hn Y I;simp only[Jz]at hop
       cases mQ:M0 h x' with
       |none=>rw[mQ]at hop;cases hop
       |some s'=>
        rw[mQ]at hop;simp only[cG.dm.injEq]at hop;obtain⟨rfl,rfl,rfl⟩:=hop;refine⟨t,x,y,rfl,hn,?_,I⟩;unfold M0 at mQ;split at mQ
        .split at mQ
         .cases mQ;exact Y
         .cases mQ
        .cases mQ
      .cases hop
     all_goals exact absurd hop (ja3 (by simp))
    obtain⟨t,x,y,ho,hn,Y,I⟩:=ct;simp only[qe,ql]at eE;split at eE
    .rename_i mm v hl e2
     cases hk:(If mm n&&If v.flat.length n&&v.flat.all qk)with
     |false=>rw[hk]at eE;cases eE
     |true=>
      rw[hk]at eE;simp only[cond_true,val,En.injEq]at eE;subst eE;simp only[E6]at hk;obtain⟨⟨k1,k2⟩,k3⟩:=hk;obtain rfl:=Hc k1;obtain⟨w',C',ω',bF,cU,m',e'⟩:=jc5 m he ho hn Y I hl e2 (Hc k2) k3;refine⟨fun _ _=>trivial,?_⟩;rw[Oper.semAt_eq _ _ _ (fun c hc=>by rw[ho]at hc;cases hc),bF];have NG:o.dst=Ik:=(Q.IY sv n6).1;refine hK _ _ ?_;rw[NG,hdd];exact⟨db,C',ω',aQ.le_trans hle cU,lJ.mono cU,m',e'⟩
    .cases eE
   |none=>
   have sY:ao.dst=o.dst:=by rw[Q.dst];cases yC:ao.op<;>rw[yC]at n6<;>first|rfl|simp[cG.ij]at n6
   have bF:yr P C1 C0 w0 a (.slot (o.dst.getD 0)) st.env o w res:=by
    cases hc:cS P h md r o.dst o.op with
    |none=>rw[hc]at hop;simp only[Eab]at hop;rw[<-hop]at eE;simp[qe,ql]at eE|some cM=>rw[hc]at hop;simp only[Jz]at hop;subst hop;exact jwz eP M m he n6 hc eE
   have fin:∀v w',zu P C0 w0 C1 a.tmps (.slot (o.dst.getD 0)) st.env res v w'->K (a.put o.dst v) w':=by
    rintro v w' ⟨C2,ω2,Y,I,h3,h4,h5⟩;exact hK _ _ (jj5 (st:=st) sY Q.fits db (lJ.mono Y) (aQ.le_trans hle Y) I h3 h4 h5)
   refine⟨fun _ _=>trivial,?_⟩
   rw[Oper.semAt_eq _ _ _ (fun c hc=>by
    rw[hc]at hop;simp only[cS,Eab]at hop;rw[<-hop]at eE
    simp[qe,ql]at eE)]
   rcases bF with⟨v,w',Y,I⟩|⟨w',Y,I⟩|⟨f,args,Y,I⟩|⟨l,f,tmps,assign,body,Y,I⟩
   .rw[Y];exact fin v w' I
   .rw[Y];exact fin undef w' I
   .rw[Y];refine⟨fun h=>by simp[jO,Fence.wide]at h,CallsIn.mono (q0o.2 I) ?_⟩;rintro e w' ⟨v,rfl,ib⟩;exact fin v w' ib
   .rw[Y];have kC:RoundIn (jO ρ) 0 P l f tmps assign body w _:=I;refine⟨fun h=>by simp[jO,Fence.wide]at h,RoundIn.mono kC ?_⟩;rintro e w' ⟨v,rfl,ib⟩;exact fin v w' ib
  .cases G
 .rename_i hg;cases G;rw[q4b he Q.guard hg];simp only[Ij,if_false]
  have sY:ao.dst=o.dst:=by
   cases n6:ao.op.ij with
   |none=>rw[Q.dst];cases yC:ao.op<;>rw[yC]at n6<;>first|rfl|simp[cG.ij]at n6
   |some sv=>
    have Y:=Q.guard;rw[(Q.IY sv n6).2]at Y;simp only[AH,En.injEq]at Y;rw[<-Y]at hg;simp[nP]at hg
  exact⟨fun _ _=>trivial,hK _ _ (jj5 (st:=st) sY Q.fits db lJ hle m he .undef (by simp))⟩
 .cases G
inductive mV (P:Program)(nt:Nat)(ops:Array Oper):List Nat->List bT->Prop where
 |nil:mV P nt ops [] []
 |cons {i:Nat} {o:Oper} {ao:bT} {l:List Nat} {lo:List bT} (hi:ops[i]?=En o) (h:IX P nt ops o ao) (t:mV P nt ops l lo):mV P nt ops (i::l) (ao::lo)
theorem jch (eP:bX P p)(M:cJ P xc){aaj bP}(hQ:∀a' w',dy P w0 C0 C nt bP a' w'->aaj .normal a' w'):∀ {l:List Nat} {lo:List bT} {st:bn} {a:Act} {w:World},mV P nt ops l lo->fH p xc h0 lo st=En bP->dy P w0 C0 C nt st a w->wpOpsIn (jO ρ) 0 P ops aaj l a w
 | [],_,st,a,w,.nil,G,ct=>by
  simp only[fH,En.injEq]at G;subst G;exact hQ _ _ ct
 |i::l,_,st,a,w,.cons hi h t,G,ct=>by
  simp only[fH]at G;split at G
  .rename_i s1 Y;rw[wpOpsIn_cons];exact jbn eP M hi h Y ct fun a' w' iz=>jch eP M hQ t G iz
  .cases G
theorem q4h {h id iI draw}:∀ {os:List Oper} {i:Nat} {rs Fu:List (Nat×Nat)} {l:List bT},HC P h nt id ops iI draw os i rs=En (l,Fu)->(∀j,os[j]?=ops[i+j]?)->mV P nt ops (List.range' i os.length) l
 | [],i,rs,Fu,l,hc,_=>by
  simp only[HC,En.injEq,Nk.injEq]at hc;rw[<-hc.1];exact .nil
 |o::os,i,rs,Fu,l,hc,hos=>by
  simp only[HC]at hc;split at hc
  .rename_i g hg;split at hc
   .rename_i cH;split at hc
    .rename_i l1 rs1 IZ;simp only[En.injEq,Nk.injEq]at hc;rw[<-hc.1];simp only[E6]at cH;obtain⟨⟨hf1,hf2⟩,hf3⟩:=cH;refine .cons (o:=o) (by rw[<-Nat.add_zero i,<-hos 0];rfl) ⟨⟨h,S7 h id i,rs.length,rfl⟩,hg,rfl,fun d hd=>?_,fun d hd=>?_,fun d hd=>?_⟩ ?_
     .rw[hd]at hf1;simpa using hf1
     .simp only at hd;rw[hd]at hf2;simpa using hf2
     .simp only at hd;rw[hd]at hf3;simpa using hf3
     .exact q4h IZ (fun j=>by rw[show i+1+j=i+(j+1)from by omega,<-hos (j+1)];rfl)
    .cases hc
   .cases hc
  .cases hc
theorem aA.holes {ω w hp}(m:aA P C ω w0 C0 hp w)(n:Nat):aA P C ω w0 C0 (hp++Eae n .hole) w:=
 { m with
  lt:=fun b r hb=>⟨(m.lt b r hb).1,by rw[List.length_append];have:=(m.lt b r hb).2;omega⟩
  box:=fun b x r M hb=>m.box b x r (by rw[List.getElem?_append_left (m.lt b r hb).2]at M;exact M) hb }
theorem q95 {l e s x}:jn s (sg e l)=En x->jn s e=En x:=by
 induction l with
 |nil=>simp[sg,jn]
 |cons t l ih=>
  intro h;simp only[sg]at h;split at h
  .rename_i y hy;by_cases ct:s=t
   .subst ct;rw[FQ]at h;rw[hy];exact h
   .rw[NE ct]at h;exact ih h
  .exact ih h
theorem dy.keep {st a w k}(h:dy P w0 C0 C nt st a w):dy P w0 C0 C nt (AB st k) a w:=by
 cases k with
 |none=>exact h
 |some l=>
  obtain⟨Y,C',ω',h3,I,h4,h5⟩:=h;exact⟨Y,C',ω',h3,I,h4,fun s x M=>h5 s x (q95 M)⟩
theorem qwo {listed:Array Bool}{i j d}:(listed.setIfInBounds i H3).getD j d=if i=j/\j<listed.size then H3 else listed.getD j d:=by
 simp only[Io,Array.getElem?_setIfInBounds];by_cases wi:i=j
 .subst wi;by_cases hl:i<listed.size
  .simp[hl]
  .simp[hl]
 .simp[wi]
theorem kB.I0 {a b}(h:kB a b):kB b a:=⟨h.1.symm,fun s=>(h.2 s).symm⟩
def pick (full:List bT)(l:List Nat):List bT:=l.map fun i=>full.getD i default
theorem mV.get {l lo}(h:mV P nt ops l lo):l.length=lo.length/\∀k i,l[k]?=En i->∃o,ops[i]?=En o/\IX P nt ops o (lo.getD k default):=by
 induction h with
 |nil=>exact⟨rfl,by simp⟩
 |cons hi h t ih=>
  refine⟨by simp[ih.1],fun k i hk=>?_⟩
  cases k with
  |zero=>simp at hk;subst hk;exact⟨_,hi,h⟩|succ k=>simp at hk;obtain⟨o,Y,I⟩:=ih.2 k i hk;exact⟨o,Y,by simpa using I⟩
theorem j12 {full:List bT}{iI:Array Nat}(eP:bX P p)(M:cJ P xc){aaj bP}(hQ:∀a' w',dy P w0 C0 C nt bP a' w'->aaj .normal a' w')
  (sZ:∀i o,ops[i]?=En o->IX P nt ops o (full.getD i default)) (I1:∀i j,i<j->j<ops.size->(iI.getD j 0).testBit i=Ig->AL (full.getD i default) (full.getD j default)=H3)
  (UA:∀j o i,ops[j]?=En o->i<ops.size->(iI.getD j 0).testBit i=H3->∃e∈o.after,Region.binds .any e=H3/\(e.on=i\/(iI.getD e.on 0).testBit i=H3))
  (I2:∀i o,ops[i]?=En o->∀e∈o.after,Region.binds .any e=H3->e.on<i):
  ∀(fuel:Nat) (listed:Array Bool) (l:List Nat) (st s2:bn) (a:Act) (w:World),listed.size=ops.size->l.Pairwise (· < ·)->(∀i,i∈l↔i<ops.size/\listed.getD i H3=Ig)->l.length<=fuel ->
   (∀k i,i<ops.size->listed.getD k Ig=H3->(iI.getD k 0).testBit i=H3->listed.getD i Ig=H3)->fH p xc h0 (pick full l) st=En s2->kB s2 bP->dy P w0 C0 C nt st a w->wpAnyIn (jO ρ) 0 P .any ops aaj fuel listed a w:=by
 intro fuel
 induction fuel with
 |zero=>
  intro listed l st s2 a w db gm dl hlen lL G heq ct;have hl:l=[]:=St.1 (by omega);subst hl;simp only[pick,Eaj,fH,En.injEq]at G;subst G;refine⟨?_,hQ _ _ (ct.eqv heq)⟩
  cases Q:Region.ready .any ops listed with
  |nil=>rfl
  |cons i rs=>
   have hi:i∈Region.ready .any ops listed:=by rw[Q];simp
   obtain⟨Y,o,ho,_⟩:=mem_ready.1 hi;have:=(dl i).2 ⟨(Ib.1 ho).1,Y⟩;cases this
 |succ fuel ih=>
  intro listed l st s2 a w db gm dl hlen lL G heq ct;refine⟨fun Q=>?_,fun i hi=>?_⟩
  .cases l with
   |nil=>
    simp only[pick,Eaj,fH,En.injEq]at G;subst G;exact hQ _ _ (ct.eqv heq)
   |cons i l=>
    exfalso;obtain⟨Y,I⟩:=(dl i).1 (by simp)
    have hi:i∈Region.ready .any ops listed:=by
     refine mem_ready.2 ⟨I,ops[i],Jy Y,fun e he hb=>?_⟩;have bg:=I2 i _ (Jy Y) e he hb
     have bG:e.on ∉ i::l:=fun hm=>by
      rcases Qc.1 hm with h|h
      .omega
      .have:=(Zo.1 gm).1 _ h;omega
     have h3:¬(listed.getD e.on H3=Ig):=fun h=>bG ((dl e.on).2 ⟨by omega,h⟩)
     have s5:e.on<listed.size:=by omega
     simp only[Io,Jy s5,Jz]at h3 ⊢;simpa using h3
    rw[Q]at hi;cases hi
  .obtain⟨Y,o,ho,hall⟩:=mem_ready.1 hi;have bg:=(Ib.1 ho).1;have him:i∈l:=(dl i).2 ⟨bg,Y⟩;obtain⟨l1,l2,rfl⟩:=List.append_of_mem him
   have UB:∀k,k∈l1++i::l2->listed.getD k Ig=H3->False:=fun k hk hl=>by
    obtain⟨k1,k2⟩:=(dl k).1 hk
    have s5:k<listed.size:=by omega
    simp only[Io,Jy s5,Jz]at hl k2;rw[hl]at k2;cases k2
   have hbi:∀k,k<ops.size->(iI.getD i 0).testBit k=H3->listed.getD k Ig=H3:=fun k hk hb=>by
    obtain⟨e,he,jM,I|I⟩:=UA i o k ho hk hb
    .rw[<-I];exact hall e he jM
    .exact lL e.on k hk (hall e he jM) I
   have hm:∀b∈pick full l1,AL b (full.getD i default)=H3:=by
    intro b hb;obtain⟨k,hk,rfl⟩:=Eai.1 hb;have Bn:k<i:=(Tv.1 gm).2.2 k hk i (by simp);refine I1 k i Bn bg ?_
    cases UC:(iI.getD i 0).testBit k with
    |false=>rfl|true=>exact(UB k (by simp[hk]) (hbi k (by omega) UC)).elim
   have UD:pick full (l1++i::l2)=pick full l1++full.getD i default::pick full l2:=by simp[pick]
   rw[UD]at G;obtain⟨t1,t2,g1,g2,g3⟩:=qz9 hm G;refine jbn eP M ho (sZ i o ho) g1 ct fun a' w' iz=>?_;refine ih (listed.setIfInBounds i H3) (l1++l2) t1 t2 a' w' (by simpa using db) ?_ ?_ ?_ ?_ (by rw[show pick full (l1++l2)=pick full l1++pick full l2 from by simp[pick]];exact g2) (kB.trans (kB.I0 g3) heq) iz
   .exact gm.sublist (Eak.append (Eak.refl _) (List.sublist_cons_self _ _))
   .intro k;rw[qwo]
    have I3:i ∉ l1/\i ∉ l2:=by
     have h:=Tv.1 gm;refine⟨fun hi1=>?_,fun hi2=>?_⟩
     .have:=h.2.2 i hi1 i (by simp);omega
     .have:=(Zo.1 h.2.1).1 i hi2;omega
    constructor
    .intro hk
     have Bn:k≠i:=fun h=>by
      subst h;rcases Ng.1 hk with h|h
      .exact I3.1 h
      .exact I3.2 h
     have:=(dl k).1 (by rcases Ng.1 hk with h|h<;>simp[h]);rw[if_neg (by omega)];exact this
    .rintro ⟨k1,k2⟩;split at k2
     .cases k2
     .rename_i bG;have Bn:k≠i:=fun h=>bG ⟨h.symm,by omega⟩;have:=(dl k).2 ⟨k1,k2⟩;rcases Ng.1 this with h|h
      .simp[h]
      .rcases Qc.1 h with h|h
       .exact absurd h Bn
       .simp[h]
   .simp at hlen ⊢;omega
   .intro k j hj hk hb;rw[qwo]at hk ⊢;split
    .rfl
    .split at hk
     .rename_i UE;rw[<-UE.1]at hb;exact hbi j hj hb
     .exact lL k j hj hk hb
theorem jak {iI l}(h:Ta iI l=H3){i j}(wi:i<j)(hj:j<l.length)(hb:(iI.getD j 0).testBit i=Ig):AL (l.getD i default) (l.getD j default)=H3:=by
 unfold Ta at h;rw[I6]at h;have Y:=h (l[j],j) (Jx.2 (by simp[hj]));simp only[]at Y;rw[I6]at Y;have I:=Y (l[i]'(by omega),i) (Jx.2 (by simp));simp only[wi,hb,decide_true,V9,Lm]at I;simp only[List.getD_eq_getElem?_getD,Jv hj,Jv (show i<l.length by omega),Jz];exact I
theorem jd8 {iI}(h:Tc iI ops=H3){j i o}(ho:ops[j]?=En o)(hi:i<ops.size)(hb:(iI.getD j 0).testBit i=H3):∃e∈o.after,Region.binds .any e=H3/\(e.on=i\/(iI.getD e.on 0).testBit i=H3):=by
 unfold Tc at h;rw[I6]at h;have Y:=h (o,j) (Jx.2 (by simpa using ho));simp only[]at Y;rw[I6]at Y;have I:=Y i (Eaf.2 hi);rw[hb]at I;simp only[V9,Lm,Array.any_eq_true']at I;obtain⟨e,he,h3⟩:=I;simp only[E6,Le,beq_iff_eq]at h3;exact⟨e,he,h3.1,h3.2⟩
theorem q86 (h:Tb ops=H3){i o}(ho:ops[i]?=En o):∀e∈o.after,Region.binds .any e=H3->e.on<i:=by
 intro e he hb;unfold Tb at h;rw[I6]at h;have Y:=h (o,i) (Jx.2 (by simpa using ho));simp only[Array.all_eq_true']at Y;have:=Y e he;simpa[hb]using this
theorem ji6 (eP:bX P p)(M:cJ P xc){id:Nat}{draw:Bool}{ca h na l keep}(hc:HE P h nt id ops draw=En ca)(ep:ca=.region na l keep){st bP x}(G:l9 p xc na l keep st=En (x,bP)){ω a w}
  (m:aA P C ω w0 C0 st.heap w) (he:ar C ω w w0.heap.size st.env a.tmps) (db:a.tmps.size=nt) (lJ:Marks C w0.heap.size a.defers):
  (Code.region id ops draw).wpIn (jO ρ) 0 P (fun e a' w'=>e=Bb x/\dy P w0 C0 C nt bP a' w') a w:=by
 subst ep;unfold HE at hc;split at hc
 .rename_i l' rs hl;split at hc
  .rename_i hd;simp only[En.injEq,aV.region.injEq]at hc;obtain⟨rfl,rfl,oS⟩:=hc;unfold l9 at G;split at G
   .rename_i s1 Y;cases G
    have yD:mV P nt ops (List.range' 0 ops.size) l':=by
     have:=q4h hl (ops:=ops) (fun j=>by simp);simpa using this
    have hQ:∀a' w',dy P w0 C0 C nt s1 a' w'->(fun e a' w'=>e=Bb .normal/\dy P w0 C0 C nt (AB s1 keep) a' w') Exit.normal a' w':=fun a' w' ct=>⟨rfl,ct.keep⟩
    cases draw with
    |false=>
     refine wpIn_region ?_;rw[List.range_eq_range'];exact jch eP M hQ yD Y ⟨db,C,ω,aQ.le_refl C,lJ,m.holes _,he⟩
    |true=>
     simp only[V9,Lm,E6]at hd;obtain⟨⟨d1,d2⟩,d3⟩:=hd;refine wpIn_region_any eP.mixed ?_;obtain⟨hlen,UF⟩:=yD.get
     have hlen':l'.length=ops.size:=by rw[<-hlen];simp
     have sZ:∀i o,ops[i]?=En o->IX P nt ops o (l'.getD i default):=by
      intro i o ho;have hi:=(Ib.1 ho).1;obtain⟨o',I,h3⟩:=UF i i (by rw[List.getElem?_range' hi];simp);rw[ho]at I;cases I;exact h3
     have UD:pick l' (List.range ops.size)=l':=by
      apply Qf;intro k;simp only[pick,Lf];by_cases hk:k<ops.size
      .rw[List.getElem?_range hk];simp[Jv (show k<l'.length by omega)]
      .rw[Tl (by simpa using hk),Tl (by omega)];rfl
     refine j12 (iI:=Region.before ops) (full:=l') eP M hQ sZ (fun i j I h3 h4=>jak d1 I (by omega) h4) (fun j o i I h3 h4=>jd8 d3 I h3 h4) (fun i o I=>q86 d2 I) ops.size _ (List.range ops.size) ⟨st.env,st.heap++Eae rs.length .hole⟩ s1 a _ (by simp) List.pairwise_lt_range ?_ (by simp) ?_ (by rw[UD];exact Y) (kB.refl _) ⟨db,C,ω,aQ.le_refl C,lJ,(m.holes _).ext (Ext.drew w),he.ext (Ext.drew w)⟩
     .intro i;simp only[Eaf,Io,Qm];constructor
      .intro hi;exact⟨hi,by simp[hi]⟩
      .exact fun hi=>hi.1
     .intro k i hi hk;simp only[Io,Qm]at hk;split at hk<;>simp at hk
   .cases G
  .cases hc
 .cases hc
end
end Go.Abs
