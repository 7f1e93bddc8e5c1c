/- Each operation by itself, third part. -/
import Derived.Test.YtoaianfagfampaaGreatDoorAbsA
import Derived.RangeFuncLeaves
import Derived.OrdersIn
import Derived.Lib.AppendZeros
import Derived.ProofKit
import Derived.OpenShut
import Derived.ShutString
set_option linter.all false
open Option renaming some->Eb,none->G0,map_eq_some_iff->G1,getD_some->Rh,isSome_none->Rj,bind_some->Uw,filter_eq_some_iff->U9,isNone_some->Xv,getD_none->Eae,map->Eap
open Bool renaming and_eq_true->Eg,true->En,false->Hd,false_eq_true->Hp,cond_eq_ite->Jq,or_eq_true->Rq,false_or->Uv,not_true->Xn,xor->Eao
open Nat renaming eq_of_beq_eq_true->Eh,le_of_ble_eq_true->G7,beq->Hf,blt->Hg,ble->Hr,blt_eq->Hu,le_trans->H0,lt_of_lt_of_le->Rm,le_max_right->Rz,le_max_left->St,zero_add->Um,succ_mul->Ux,le_refl->U6,ble_eq_true_of_le->V9,beq_refl->Yu,add_zero->Yv
open List renaming getElem?_set_ne->Ep,getElem?_eq_some_iff->Hc,all_eq_true->Hs,mem_of_getElem?->Hx,getElem?_eq_getElem->Hz,set_comm->H2,length_set->H3,getElem?_set_self->H4,getElem?_range->If,getElem?_map->J5,length_eq_zero_iff->L5,mem_zipIdx_iff_getElem?->L8,range->Nt,mem_append->Ru,length_take->Rw,mem_cons->R2,replicate->Uy,getElem?_set->U8,all_cons->Va,map_cons->Vb,ext_getElem?->Vf,isEmpty_iff->Vj,length_map->Vw,take_append_drop->V6,mem_append_right->Xa,getElem?_eq_none->Xb,mem_append_left->Xk,pairwise_append->Xl,mem_cons_self->Xo,zip_cons_cons->Xp,pairwise_cons->Xy,flatMap_cons->Yw,flatten_cons->Eaa,length_range->Eab,length_drop->Eac,cons_append->Ead,nodup_cons->Eaf,foldl_cons->Eah,mapM_cons->Eai,mem_range->Eaj,drop_drop->Eak,mem_map->Eal,map_nil->Eam,Sublist->Ean
open Array renaming getElem?_eq_some_iff->G4,getD_eq_getD_getElem?->He,ext'->L6,getElem?_eq_getElem->Ov,getElem?_setIfInBounds_ne->Q0,getElem?_replicate->Vg,length_toList->Xm,all_eq_true'->Yd,replicate->Eag
open Ne renaming symm->Hy
open Prod renaming mk->Oz
namespace Go.Abs
section
variable {P:Program}{p:j8}{xc:XC}{C C0:aM}{ω:Nat->Option Loc}{w w0:World}{hp:qi}{env:Env}{a:Act}{o:Oper}{d:Loc}{h:jt}{md:eO}{r h0:Nat}{dst:Option Nat}{al:ak Nat}{cM:cF}{res:br}
variable (m:aA P C ω w0 C0 hp w)(e:ar C ω w w0.heap.size env a.tmps)
section
include m e
theorem jhy {t:TypeId}{ps}(ho:o.op=.build t ps)(hc:cT P h md r dst (.build t ps)=Eb cM)(G:qg p xc h0 al env hp cM=Eb res):yg P C C0 w0 a d env o w res:=by
 simp only[cT]at hc;split at hc
 .rename_i fs z ht hz;split at hc
  .rename_i hall;obtain⟨fV,nf,rfl⟩:=G1.1 hc;simp only[qg,qn]at G;split at G
   .rename_i qs hq;split at G
    .rename_i cs hf;obtain rfl:=q9 G;exact jk m e (qyx e.cu ho ht hz (fun f hf=>Hs.1 hall f hf) nf hq hf)
    .cases G
   .cases G
  .cases hc
 .rename_i len el z ht hz;split at hc
  .rename_i n hn;obtain⟨fV,nf,rfl⟩:=G1.1 hc;simp only[qg,qn]at G;split at G
   .rename_i qs hq;split at G
    .rename_i cs hf;obtain rfl:=q9 G;exact jk m e (q05 e.cu ho ht hz hn nf hq hf)
    .cases G
   .cases G
  .cases hc
 .cases hc
theorem q09 {t:TypeId}{n ps}(ho:o.op=.buildSlice t n ps)(hc:cT P h md r dst (.buildSlice t n ps)=Eb cM)(G:qg p xc h0 al env hp cM=Eb res):yg P C C0 w0 a d env o w res:=by
 simp only[cT]at hc;split at hc
 .rename_i el ht;split at hc
  .rename_i sz z ag es hn hz df nf;split at hc
   .rename_i hb;cases hc;simp only[Eg,decide_eq_true_eq,beq_iff_eq]at hb;generalize (dst.map (h.vec.contains ·)).getD Hd=bb at G
    cases bb with
    |true=>
     simp only[if_true,qg,qq]at G;split at G
     .rename_i qs hq;split at G
      .rename_i xs M
       cases AF:qt 0 xs with
       |false=>rw[AF]at G;cases G
       |true=>
        rw[AF]at G;simp only[cond_true]at G;split at G
        .rename_i h' dy;obtain rfl:=q9 G;exact .inl (jkr m e ho ht hn hz hb.1.1.1.1 hb.1.1.1.2 hb.1.1.2 nf hq M AF dy)
        .cases G
      .cases G
     .cases G
    |false=>
    simp only[Hp,if_false,qg,qn]at G;split at G
    .rename_i qs hq;split at G
     .rename_i xs M;cases G;exact .inl (q16 m e ho ht hn hz hb.1.1.1.1 hb.1.1.1.2 hb.1.1.2 nf hq M)
     .cases G
    .cases G
   .cases hc
  .cases hc
 .cases hc
theorem q34 {t:TypeId}{x y}(ho:o.op=.makeSlice t x y)(hc:cT P h md r dst (.makeSlice t x y)=Eb cM)(G:qg p xc h0 al env hp cM=Eb res):yg P C C0 w0 a d env o w res:=by
 simp only[cT]at hc;split at hc
 .rename_i el ht;split at hc
  .rename_i sz b z ag x' y' hn hb hz df Y I;split at hc
   .cases hc;generalize hR:(if(Eap (fun x=>h.fZ.contains x) dst).getD Hd=En then Eb r else G0)=R at G
    cases R with
    |some rr=>
     simp only[qg,qq]at G;split at G
     .rename_i n c e1 e2
      cases hk:(Hf n c&&Hr n 1073741824&&Hr b 4096&&Hf z.length sz&&Hg 0 sz&&z.all qm)with
      |false=>simp[hk]at G
      |true=>
       simp only[hk,cond_true]at G;split at G
       .rename_i h' dy;obtain rfl:=q9 G;simp only[Eg]at hk;obtain⟨⟨⟨⟨⟨k1,k2⟩,k3⟩,k4⟩,k5⟩,k6⟩:=hk;obtain rfl:=Eh k1;exact .inl (q0z m e ho ht hn hb hz (Hu.mp k5) (Eh k4) Y I e1 e2 (G7 k2) (G7 k3) dy)
       .cases G
     .cases G
    |none=>
     simp only[qg,qn]at G;split at G
     .rename_i n c e1 e2
      cases hk:(Hf n c&&Hr n 1073741824&&Hr b 4096&&Hf z.length sz&&Hg 0 sz&&z.all qm)with
      |false=>simp[hk]at G
      |true=>
       simp only[hk,cond_true]at G;cases G;simp only[Eg]at hk;obtain⟨⟨⟨⟨⟨k1,k2⟩,k3⟩,k4⟩,k5⟩,k6⟩:=hk;obtain rfl:=Eh k1;exact .inl (q9i m e ho ht hn hb hz (Hu.mp k5) (Eh k4) Y I e1 e2 (G7 k2) (G7 k3))
     .cases G
   .cases hc
  .cases hc
 .cases hc
theorem jhi {t:TypeId}{x lo hi mx}(ho:o.op=.slice t x lo hi mx)(hc:cT P h md r dst (.slice t x lo hi mx)=Eb cM)(G:qg p xc h0 al env hp cM=Eb res):yg P C C0 w0 a d env o w res:=by
 cases mx with
 |some _=>simp[cT]at hc
 |none=>
  simp only[cT]at hc;split at hc
  .rename_i x' lZ gf Y I h3;split at hc
   .rename_i ht;cases hc;simp only[qg,qn]at G;split at G
    .rename_i s hv;split at G
     .rename_i j hj;split at G
      .rename_i i gf;obtain rfl:=q9 G;exact jk m e (q6p e.cu ho ht Y I h3 hv hj gf)
      .cases G
     .cases G
    .cases G
   .rename_i el ht;obtain⟨sz,hn,rfl⟩:=G1.1 hc;simp only[qg,qn]at G;split at G
    .rename_i n de xs hv
     cases hk:(Hf sz de||xs.isEmpty)with
     |false=>simp[hk]at G
     |true=>
      simp only[hk,cond_true]at G;split at G
      .rename_i j hj;split at G
       .rename_i i gf;obtain rfl:=q9 G;refine jk m e (Yc e.cu ho ht hn Y I h3 hv (.inr ⟨n,de,xs,rfl,?_,hj,gf,rfl⟩));rcases Rq _ _▸hk with hk|hk
        .exact .inl (Eh hk)
        .exact .inr (Vj.1 hk)
       .cases G
      .cases G
    .rename_i b q len hv;split at G
     .rename_i j hj;split at G
      .rename_i i gf
       cases hk:(Hf i 0||Hg i j)with
       |false=>simp[hk]at G
       |true=>
        simp only[hk,cond_true]at G;obtain rfl:=q9 G;refine jk m e (Yc e.cu ho ht hn Y I h3 hv (.inl ⟨b,q,len,rfl,hj,gf,?_,rfl⟩));rcases Rq _ _▸hk with hk|hk
        .exact .inl (Eh hk)
        .exact .inr (Hu.mp hk)
      .cases G
     .cases G
    .rename_i b bO len hv;split at G
     .rename_i j hj;split at G
      .rename_i i gf
       cases hk:Hf i 0 with
       |false=>simp[hk]at G
       |true=>
        simp only[hk,cond_true]at G;obtain rfl:=q9 G;obtain rfl:=Eh hk;exact jk m e (jbp e.cu ho ht hn Y I h3 hv hj gf)
      .cases G
     .cases G
    .cases G
   .rename_i n el ht;obtain⟨sz,hn,rfl⟩:=G1.1 hc;simp only[qg,qn]at G;split at G
    .rename_i b q hv;split at G
     .rename_i j hj;split at G
      .rename_i i gf
       cases hk:(Hf i 0||Hg i j)with
       |false=>simp[hk]at G
       |true=>
        simp only[hk,cond_true]at G;obtain rfl:=q9 G;refine jk m e (q7v e.cu ho ht hn Y I h3 hv hj gf ?_);rcases Rq _ _▸hk with hk|hk
        .exact .inl (Eh hk)
        .exact .inr (Hu.mp hk)
      .cases G
     .cases G
    .cases G
   .cases hc
  .cases hc
theorem q3w {t:TypeId}{x i}(ho:o.op=.fieldAddr t x i)(hc:cT P h md r dst (.fieldAddr t x i)=Eb cM)(G:qg p xc h0 al env hp cM=Eb res):yg P C C0 w0 a d env o w res:=by
 simp only[cT]at hc;split at hc
 .rename_i fs ht;split at hc
  .rename_i f hf;split at hc
   .rename_i ag n x' df hn Y;split at hc
    .rename_i hb;cases hc;simp only[Eg,decide_eq_true_eq]at hb;simp only[qg,qn]at G;split at G
     .rename_i b q hv;obtain rfl:=q9 G;exact jk m e (X9 (ag:=ag) e.cu ho ht hf hn hb.1 Y hv (.inl ⟨b,q,rfl,rfl⟩))
     .rename_i cs hv;split at G
      .rename_i z hz
       cases hk:Eao ag z.isAgg with
       |true=>simp[hk]at G
       |false=>
        simp only[hk,cond_false]at G;obtain rfl:=q9 G;exact jk m e (X9 e.cu ho ht hf hn hb.1 Y hv (.inr ⟨cs,z,rfl,hz,hk,rfl⟩))
      .cases G
     .rename_i b bO q hv;obtain rfl:=q9 G;exact jk m e (q1m e.cu ho ht hf hn hb.1 Y hv)
     .cases G
    .cases hc
   .cases hc
  .cases hc
 .cases hc
theorem jgh {t:TypeId}{x i}(ho:o.op=.field t x i)(hc:cT P h md r dst (.field t x i)=Eb cM)(G:qg p xc h0 al env hp cM=Eb res):yg P C C0 w0 a d env o w res:=by
 simp only[cT]at hc;split at hc
 .rename_i fs ht;split at hc
  .rename_i f hf;split at hc
   .rename_i ag n x' df hn Y;cases hc;simp only[qg,qn]at G;split at G
    .rename_i cs hv;obtain⟨z,hz,rfl⟩:=ud G;exact jk m e (jha e.cu ho ht hf df hn Y hv hz)
    .cases G
   .cases hc
  .cases hc
 .cases hc
theorem q3p {t:TypeId}{x i}(ho:o.op=.indexAddr t x i)(hc:cT P h md r dst (.indexAddr t x i)=Eb cM)(G:qg p xc h0 al env hp cM=Eb res):yg P C C0 w0 a d env o w res:=by
 simp only[cT]at hc;split at hc
 .rename_i x' i' Y I;split at hc
  .rename_i el ht;split at hc
   .rename_i sz hn;split at hc
    .cases hc;simp only[qg,qn]at G;split at G
     .rename_i nl de xs iv hv hi
      cases hk:(Hf sz de||xs.isEmpty)with
      |false=>simp[hk]at G
      |true=>
       simp only[hk,cond_true]at G;split at G
       .rename_i j hj;split at G
        .rename_i z hz;obtain rfl:=q9 G
         have bI:xs.isEmpty=Hd:=by
          have:=(Hc.1 hz).1
          cases xs with
          |nil=>simp at this|cons _ _=>rfl
         rw[bI,Bool.or_false]at hk;obtain rfl:=Eh hk;exact jk m e (Ya e.cu ho ht hn Y I hv hi (.inr ⟨nl,xs,z,j,rfl,hj,hz,rfl⟩))
        .cases G
       .cases G
     .rename_i b q len iv hv hi;split at G
      .rename_i j hj;obtain rfl:=q9 G;exact jk m e (Ya e.cu ho ht hn Y I hv hi (.inl ⟨b,q,len,j,rfl,hj,rfl⟩))
      .cases G
     .rename_i b bO len iv hv hi;split at G
      .rename_i j hj;obtain rfl:=q9 G;exact jk m e (q04 e.cu ho ht hn Y I hv hi hj)
      .cases G
     .cases G
    .cases hc
   .cases hc
  .rename_i n el ht;split at hc
   .rename_i sz ag hn df;split at hc
    .cases hc;simp only[qg,qn]at G;split at G
     .rename_i b q iv hv hi;split at G
      .rename_i j hj;obtain rfl:=q9 G;exact jk m e (Yb (ag:=ag) e.cu ho ht hn Y I hv hi hj (.inl ⟨b,q,rfl,rfl⟩))
      .cases G
     .rename_i cs iv hv hi;split at G
      .rename_i j hj;split at G
       .rename_i z hz
        cases hk:Eao ag z.isAgg with
        |true=>simp[hk]at G
        |false=>
         simp only[hk,cond_false]at G;obtain rfl:=q9 G;exact jk m e (Yb e.cu ho ht hn Y I hv hi hj (.inr ⟨cs,z,rfl,hz,hk,rfl⟩))
       .cases G
      .cases G
     .cases G
    .cases hc
   .cases hc
  .cases hc
 .cases hc
theorem jf6 {t:TypeId}{x i}(ho:o.op=.index t x i)(hc:cT P h md r dst (.index t x i)=Eb cM)(G:qg p xc h0 al env hp cM=Eb res):yg P C C0 w0 a d env o w res:=by
 simp only[cT]at hc;split at hc
 .rename_i x' i' Y I;split at hc
  .rename_i ht;cases hc;simp only[qg,qn]at G;split at G
   .rename_i s iv hv hi;split at G
    .rename_i j hj;split at G
     .rename_i c dM;obtain rfl:=q9 G;exact jk m e (q59 e.cu ho ht Y I hv hi hj dM)
     .cases G
    .cases G
   .cases G
  .rename_i n el ht;split at hc
   .rename_i sz ag hn df;cases hc;simp only[qg,qn]at G;split at G
    .rename_i cs iv hv hi;split at G
     .rename_i j hj;obtain⟨z,hz,rfl⟩:=ud G;exact jk m e (jes e.cu ho ht df hn Y I hv hi hj hz)
     .cases G
    .cases G
   .cases hc
  .cases hc
 .cases hc
theorem q88 {c}(ho:o.op=.call c)(pw:∀f,c.callee≠.value f)(hc:Af P h md r dst c=Eb cM)(G:qg p xc h0 al env hp cM=Eb res):yg P C C0 w0 a d env o w res:=by
 unfold Af at hc;split at hc
 .rename_i f hf;exact absurd hf (pw f)
 .rename_i dW;split at hc
  .rename_i x t eo eS;split at hc
   .rename_i ht;obtain⟨x',M,rfl⟩:=G1.1 hc;simp only[qg,qn]at G
    split at G<;>first|(exfalso;omega)|skip
    .rename_i s _ hv;obtain rfl:=q9 G;exact jk m e (Rn e.cu ho dW eo eS M hv (.inl ⟨ht,s,rfl,rfl⟩))
    .cases G
   .rename_i el ht;obtain⟨x',M,rfl⟩:=G1.1 hc;simp only[qg,qn]at G
    split at G<;>first|(exfalso;omega)|skip
    .rename_i n sz xs _ hv;obtain rfl:=q9 G;exact jk m e (Rn e.cu ho dW eo eS M hv (.inr ⟨⟨el,ht⟩,.inl ⟨n,sz,xs,rfl,rfl⟩⟩))
    .rename_i b q n _ hv;obtain rfl:=q9 G;exact jk m e (Rn e.cu ho dW eo eS M hv (.inr ⟨⟨el,ht⟩,.inr ⟨b,q,rfl⟩⟩))
    .rename_i b bO n _ hv;obtain rfl:=q9 G;exact jk m e (jjt e.cu ho dW eo eS M hv ht)
    .cases G
   .cases hc
  .cases hc
 .rename_i dW;split at hc
  .rename_i x t eo eS;split at hc
   .rename_i el ht;obtain⟨x',M,rfl⟩:=G1.1 hc;simp only[qg,qn]at G
    split at G<;>first|(exfalso;omega)|skip
    .rename_i sz xs _ hv;obtain rfl:=q9 G;refine jk m e ?_
     have ha:c.args=#[x]:=by apply L6;simpa using eo
     have l4:c.argTypes=#[t]:=by apply L6;simpa using eS
     refine⟨.int .i64 0,?_,.int _ _⟩
     have hq:∃b,a.eval x=.slice b 0 0:=by
      rcases(qx e.cu M hv).cQ with⟨_,_,h⟩|⟨h,_⟩|⟨h,_⟩
      .exact⟨_,h⟩
      .cases h
      .cases h
     obtain⟨b,hq⟩:=hq;simp[execOp,ho,resolve,dW,ha,l4,invoke,builtin,Builtin.cap_,run_underlying ht,hq,goInt]
    .cases G
   .cases hc
  .cases hc
 .rename_i dW;split at hc
  .rename_i x y t u eo eS;split at hc
   .rename_i el ut ht hu;split at hc
    .rename_i jC;split at hc
     .rename_i sz b x' y' hn hb Y I;cases hc
      have hzero:∃z,yu P el=Eb z/\z.length=sz:=by
       have hz:=(Eg _ _▸jC).2;rw[hn]at hz
       cases xJ:yu P el with
       |none=>simp[xJ]at hz|some z=>exact⟨z,rfl,by simpa[xJ]using hz⟩
      generalize (dst.map (h.vec.contains ·)).getD Hd=bb at G
      cases bb with
      |true=>
       simp only[if_true,qg,qq]at G;split at G
       .rename_i RM vy e1 e2;split at G
        .rename_i ys cU
         cases hk:(Hr ys.length 1073741824&&Hr b 4096&&Hg 0 sz&&!ys.isEmpty&&qt 0 ys&&Hg r 1000)with
         |false=>rw[hk]at G;cases G
         |true=>
          rw[hk]at G;simp only[cond_true]at G;split at G
          .rename_i h' dy;obtain rfl:=q9 G;simp only[Eg]at hk jC;obtain⟨⟨⟨⟨⟨k1,k2⟩,k3⟩,k4⟩,k5⟩,_⟩:=hk;exact .inl (ji2 m e ho dW eo eS ht hu jC.1 hn hb Y I e1 e2 cU (G7 k1) (by intro h;rw[h]at k4;cases k4) (G7 k2) k5 hzero dy)
          .cases G
        .cases G
       .rename_i bx bO len vy e1 e2;split at G
        .rename_i de dJ xs gM;split at G
         .rename_i ys cU
          cases hk:(Hf bO dJ&&Hf sz de&&Hr len xs.length&&Hr (len+ys.length) 1073741824&&Hr b 4096&&Hg 0 sz&&qt 0 ys&&Hg r 1000)with
          |false=>rw[hk]at G;cases G
          |true=>
           rw[hk]at G;simp only[cond_true]at G;split at G
           .rename_i h' bK;obtain rfl:=q9 G;simp only[Eg]at hk jC;obtain⟨⟨⟨⟨⟨⟨⟨k1,k2⟩,k3⟩,k4⟩,k5⟩,k6⟩,k7⟩,_⟩:=hk;obtain rfl:=Eh k1;obtain rfl:=Eh k2;exact .inl (jla m e ho dW eo eS ht hu jC.1 hn hb Y I e1 e2 cU gM (G7 k3) (G7 k4) (G7 k5) k7 hzero bK)
           .cases G
         .cases G
        .cases G
       .cases G
      |false=>
      simp only[Hp,if_false]at G;generalize hR:(if(Eap (fun x=>h.fZ.contains x) dst).getD Hd=En then Eb r else G0)=R at G
      cases R with
      |some rr=>
       simp only[qg,qq]at G;split at G
       .rename_i de vy e1 e2
        cases gI:((zw env x').isSome&&Hf sz de)with
        |false=>simp[gI]at G
        |true=>
         simp only[gI,cond_true]at G;split at G
         .rename_i ys cU
          cases dx:(Hr ys.length 1073741824&&Hr b 4096&&Hg 0 sz)with
          |false=>simp[dx]at G
          |true=>
           simp only[dx,cond_true]at G;split at G
           .rename_i h' dy;cases G;simp only[Eg]at dx jC gI;obtain⟨⟨k2,k3⟩,k4⟩:=dx;refine .inl (q3u m e ho dW eo eS ht hu jC.1 hn hb Y I e1 e2 cU gI.1 rfl (G7 k2) (G7 k3) ?_ (Eh gI.2) dy);have hz:=jC.2;rw[hn]at hz
            cases xJ:yu P el with
            |none=>simp[xJ]at hz|some z=>exact⟨z,rfl,by simpa[xJ]using hz⟩
           .cases G
         .cases G
       .cases G
      |none=>
       simp only[qg,qn]at G;split at G
       .rename_i n de xs vy e1 e2
        cases gI:(n||(zw env x').isSome)with
        |false=>simp[gI]at G
        |true=>
         simp only[gI,cond_true]at G;split at G
         .rename_i ys cU
          cases dx:((Hf sz de||(xs.isEmpty&&n))&&Hr (xs.length+ys.length) 1073741824&&Hr b 4096&&Hg 0 sz)with
          |false=>simp[dx]at G
          |true=>
           simp only[dx,cond_true]at G;cases G;simp only[Eg]at dx jC;obtain⟨⟨⟨k1,k2⟩,k3⟩,k4⟩:=dx;refine .inl (jcp m e ho dW eo eS ht hu jC.1 hn hb Y I e1 e2 cU (by simpa using gI) ?_ (G7 k2) (G7 k3) ?_)
           .rcases Rq _ _▸k1 with k1|k1
            .exact .inl (Eh k1)
            .simp only[Eg,Vj]at k1;exact .inr k1
           .have hz:=jC.2;rw[hn]at hz
            cases xJ:yu P el with
            |none=>simp[xJ]at hz|some z=>exact⟨z,rfl,by simpa[xJ]using hz⟩
         .cases G
       .cases G
     .cases hc
    .cases hc
   .cases hc
  .cases hc
 .rename_i dW;split at hc
  .rename_i x y t ts eo eS;split at hc
   .rename_i el ht;split at hc
    .rename_i sz x' y' hn Y I;cases hc;simp only[qg,qq]at G;split at G
     .rename_i b q len vy e1 e2
      cases hk:j9 h0 al b with
      |false=>simp[hk]at G
      |true=>
       simp only[hk,cond_true]at G;split at G
       .rename_i cs hcs;split at G
        .rename_i n us cU;split at G
         .rename_i eE cq
          cases dx:Hf us.length (n*sz)with
          |false=>simp[dx]at G
          |true=>
           simp only[dx,cond_true]at G;split at G
           .rename_i h' bK;obtain rfl:=q9 G;exact .inl (ji4 m e ho dW eo eS ht hn Y I e1 e2 hcs cU cq (Eh dx) bK)
           .cases G
         .cases G
        .cases G
       .cases G
     .cases G
    .cases hc
   .cases hc
  .cases hc
 .rename_i dW;split at hc
  .rename_i x y t ts eo eS;split at hc
   .rename_i kt el ht;split at hc
    .rename_i kd x' y' iI Y I;cases hc;simp only[qg,qq]at G;split at G
     .rename_i b kv e1 e2
      cases hk:j9 h0 al b with
      |false=>simp[hk]at G
      |true=>
       simp only[hk,cond_true]at G;split at G
       .rename_i es hb;split at G
        .rename_i r hf;split at G
         .rename_i h' bK;obtain rfl:=q9 G;exact .inl (jca m e ho dW eo eS ht iI Y I e1 e2 hb hf bK)
         .cases G
        .cases G
       .cases G
     .cases G
    .cases hc
   .cases hc
  .cases hc
 .rename_i dW;obtain⟨l,hl,rfl⟩:=G1.1 hc;simp only[qg,qn]at G;split at G
  .rename_i v vs hv;obtain⟨z,hz,rfl⟩:=ud G;exact jk m e (Ye (mx:=true) e.cu ho dW hl hv hz)
  .cases G
 .rename_i dW;obtain⟨l,hl,rfl⟩:=G1.1 hc;simp only[qg,qn]at G;split at G
  .rename_i v vs hv;obtain⟨z,hz,rfl⟩:=ud G;exact jk m e (Ye (mx:=false) e.cu ho dW hl hv hz)
  .cases G
 .cases hc
end
end
def aM.cut (C:aM)(n:Nat):aM:={ C with β:=fun b=>if b<n then C.β b else G0 }
theorem aM.fg (C:aM)(n:Nat):(C.cut n).le C where
 k _ _ _ h:=h
 b b r h:=by
  simp only[aM.cut]at h;split at h
  .exact h
  .cases h
 w:=rfl
 d _ h:=h
theorem aM.iN {C C':aM}{n}(h:C.le C')(hn:∀b r,C.β b=Eb r->b<n):C.le (C'.cut n):=
 ⟨h.1,fun b r hb=>by simp only[aM.cut];rw[if_pos (hn b r hb)];exact h.2 b r hb,h.w,h.d,h.t⟩
section
variable {P:Program}{p:j8}{xc:XC}{C C0:aM}{ω:Nat->Option Loc}{w w0:World}{hp:qi}{env:Env}{tmps:Array Value}{B:Nat}
theorem aS.cut {ℓ x v}(n:Nat)(ho:aS C ω w B ℓ x v):aS (C.cut n) ω w B ℓ x v:=by
 unfold aS at *;split at ho
 .obtain⟨Y,I,h3,h4,h5⟩:=ho;exact⟨Y,I,fun b hb=>h3 b ((aM.fg C n).2 b _ hb),h4,h5⟩
 .obtain⟨Y,I,h3,h4,h5⟩:=ho;exact⟨Y,I,fun b hb=>h3 b ((aM.fg C n).2 b _ hb),h4,h5⟩
 .trivial
theorem bS.cut {x v n}(h:bS C x v)(hb:below n x=En):bS (C.cut n) x v:=
 aJ.shift (C:=C) (C':=C.cut n) n (fun _ _ _ h=>h) (fun b r bh hb=>by simp only[aM.cut];rw[if_pos bh];exact hb) h hb
theorem RT {n}:∀ {e:Env} {s:Nat} {x:AVal×Bool},lU n e=En->jm s e=Eb x->below n x.1=En
 | [],_,_,_,h=>by simp[jm]at h
 |(t,y)::e,s,x,hb,h=>by
  simp only[lU,Eg]at hb;simp only[jm]at h
  cases l8:Hf t s with
  |true=>simp only[l8,cond_true,Eb.injEq]at h;subst h;exact hb.1|false=>simp only[l8,cond_false]at h;exact RT hb.2 h
theorem YN {n}:∀ {l:qi} {b:Nat} {x:bG},qr n l=En->l[b]?=Eb x->ze n x=En
 | [],_,_,_,h=>by simp at h
 |y::l,b,x,hb,h=>by
  simp only[qr,Eg]at hb
  cases b with
  |zero=>simp at h;subst h;exact hb.1|succ b=>simp at h;exact YN hb.2 h
theorem YO {n}:∀ {l:List (AVal×Bool)} {j:Nat} {c:AVal×Bool},zn n l=En->l[j]?=Eb c->below n c.1=En
 | [],_,_,_,h=>by simp at h
 |(y,o)::l,j,c,hb,h=>by
  simp only[zn,Eg]at hb
  cases j with
  |zero=>simp at h;subst h;exact hb.1|succ j=>simp at h;exact YO hb.2 h
theorem cI.cut {n es ms}(Q:cI C es ms):y8 n es=En->cI (C.cut n) es ms:=by
 induction Q with
 |nil=>exact fun _=>.nil
 |cons k v es m ms hk hv _ ih=>
  intro hb;simp only[y8,Eg]at hb;exact .cons k v es m ms (bS.cut hk hb.1.1) (bS.cut hv hb.1.2) (ih hb.2)
theorem bM.cut {b r n x}(h:bM P C ω w B b r x)(hb:ze n x=En):bM P (C.cut n) ω w B b r x:=by
 cases x with
 |hole=>exact h
 |cells cs=>
  obtain⟨vs,el,Y,I,h3⟩:=h;exact⟨vs,el,Y,I,fun j c hc=>let ⟨v,a,q,b,d⟩:=h3 j c hc; ⟨v,a,q,bS.cut b (YO hb hc),fun e=>(d e).cut n⟩⟩
 |map es=>obtain⟨cj,clock,Y,I⟩:=h;exact⟨cj,clock,Y,I.cut hb⟩|iter s pos=>exact h|loop l=>obtain⟨lp,Y,I⟩:=h;exact⟨lp,Y,{ I with env:=fun s x M=>let ⟨v,a,b⟩:=I.env s x M; ⟨v,a,bS.cut b (RT hb M)⟩ }⟩|fW t e l=>obtain⟨p,v,Y,I,h3,h4⟩:=h;exact⟨p,v,Y,I,h3,h4.cut n⟩|dead=>exact h|vec sz bO xs=>exact eg.imp (C:=C) (C':=C.cut n) (ω:=ω) (ω':=ω) (B':=B) (fun _ _ _ h=>h) (fun _ h=>h) (fun _ h _=>h) rfl (fun q n' cap k=>⟨rfl,aS.cut (C:=C) n k⟩) h
theorem aA.gc (m:aA P C ω w0 C0 hp w){n:Nat}(hn:n<=hp.length)(hb:qr n (hp.take n)=En)(h0:∀b r,C0.β b=Eb r->b<n):aA P (C.cut n) ω w0 C0 (hp.take n) w where
 base:=m.base
 know:=m.know
 dj:=m.dj
 apart b r o hb:=m.apart b r o ((aM.fg C n).2 b r hb)
 inj b b' r Y I:=m.inj b b' r ((aM.fg C n).2 _ _ Y) ((aM.fg C n).2 _ _ I)
 lt b r h:=by
  have Y:=m.lt b r ((aM.fg C n).2 _ _ h);refine⟨Y.1,?_⟩;simp only[aM.cut]at h;split at h
  .rw[Rw];omega
  .cases h
 size:=m.size
 frame:=m.frame
 fA:=m.fA
 os:=m.os
 output:=m.output
 fresh b r h:=m.fresh b r ((aM.fg C n).2 _ _ h)
 grown:=aM.iN m.grown h0
 old:=m.old
 box b x r M Q:=by
  have bh:b<n:=by
   have:=(Hc.1 M).1;rw[Rw]at this;omega
  have fp:hp[b]?=Eb x:=by rwa [List.getElem?_take_of_lt bh]at M
  exact(m.box b x r fp ((aM.fg C n).2 _ _ Q)).cut (YN hb M)
 iD:=m.iD
theorem ar.cut {n}(e:ar C ω w B env tmps)(hb:lU n env=En):ar (C.cut n) ω w B env tmps:=
 fun s x M=>let ⟨v,Y,I,h3⟩:=e s x M; ⟨v,Y,bS.cut I (RT hb M),fun h=>(h3 h).cut n⟩
def j1a (env:Env)(hp:qi)(r:nF)(ℓ:Loc)(x:AVal×Bool):Prop:=
 (∃s,ℓ=.slot s)\/∃t n b j ow cs,r=.cell t Hd n/\jm t env=Eb (.ptr b j,ow)/\ℓ=.cell b j/\qy hp b=Eb cs/\cs[j]?=Eb x
def RU (C:aM)(ω:Nat->Option Loc)(w:World)(B:Nat)(env:Env)(hp:qi)(r:nF)(x:AVal×Bool)(v:Value):Prop:=bS C x.1 v/\(x.2=En->∃ℓ,aS C ω w B ℓ x.1 v/\j1a env hp r ℓ x)
theorem q50 {B'}(m:aA P C ω w0 C0 hp w)(hB:B'=w0.heap.size)(e:ar C ω w B' env tmps){rv r x}(hc:LM P rv=Eb r)(Q:tR ⟨env,hp⟩ r=Eb x):
  ∃v,((match rv with | .tmp t=>pure (tmps.getD t undef) | .cell a t=>do loadVar t (<-asAddr (tmps.getD a undef)):Sem Value)).run P w=.ok v w/\RU C ω w B' env hp r x v:=by
 subst hB
 cases rv with
 |tmp t=>
  simp only[LM]at hc;cases hc;simp only[tR]at Q;obtain⟨v,Y,I,h3⟩:=e t x Q;refine⟨v,?_,I,fun h=>⟨_,h3 h,.inl ⟨_,rfl⟩⟩⟩;simp[He,Y]
 |cell t ty=>
  simp only[LM]at hc
  have key:∀ {ag:Bool} {n:Nat},yq P ty=Eb ag->jp P ty=Eb n->(ag=Hd->n=1)->tR ⟨env,hp⟩ (.cell t ag n)=Eb x->∃v,((do loadVar ty (<-asAddr (tmps.getD t undef)):Sem Value)).run P w=.ok v w/\RU C ω w w0.heap.size env hp (.cell t ag n) x v:=by
   intro ag n hg hn Hk Q;simp only[tR]at Q;split at Q
   .rename_i b q ow hl;obtain⟨u,Y,I,_⟩:=e t _ hl;obtain⟨r,iG,rfl⟩:=I.dv
    have hu:tmps.getD t undef=.pointer (Eb ⟨r,q,G0⟩):=by simp[He,Y]
    split at Q
    .rename_i cs hcs;have gL:=m.box b _ r (vI hcs) iG;split at Q
     .rename_i us gY
      cases ag with
      |true=>
       simp only[cond_true,Eb.injEq]at Q;subst Q;obtain⟨vs,k1,_,k2,k3,_⟩:=gL.read gY;refine⟨.agg ⟨vs⟩,?_,.agg _ _ k1,by simp⟩;simp[hu,asAddr,Hh hg hn k2 k3]
      |false=>
       simp only[cond_false]at Q;split at Q
       .rename_i c hc;cases Q;obtain⟨vs,te,g1,g2,g3⟩:=gL;obtain⟨v,J,a2,a3,a4⟩:=g3 q _ hc
        have ec:w.cell? ⟨r,q,G0⟩=Eb v:=by
         simp only[World.cell?,g1];simpa using J
        refine⟨v,?_,a3,fun h=>⟨_,a4 h,.inr ⟨_,_,_,_,_,_,rfl,hl,rfl,hcs,hc⟩⟩⟩;simp[hu,asAddr,Hj hg ec]
       .cases Q
     .cases Q
    .cases Q
   .cases Q
  split at hc
  .rename_i n hg hn;cases hc;exact key hg hn (by simp) Q
  .rename_i hg hn;cases hc;exact key hg hn (fun _=>rfl) Q
  .cases hc
inductive lg (P:Program)(C:aM)(ω:Nat->Option Loc)(w:World)(B:Nat)(env:Env)(hp:qi):List nF->List (AVal×Bool)->List Value->Prop where
 |nil:lg P C ω w B env hp [] [] []
 |cons {r:nF} {x:AVal×Bool} {v:Value} {rs:List nF} {xs:List (AVal×Bool)} {vs:List Value} (h:RU C ω w B env hp r x v) (t:lg P C ω w B env hp rs xs vs):lg P C ω w B env hp (r::rs) (x::xs) (v::vs)
theorem lg.cu {rs xs vs}(h:lg P C ω w B env hp rs xs vs):bf C (xs.map (·.1)) vs:=by
 induction h with
 |nil=>exact .nil|cons h _ ih=>exact .cons _ _ _ _ h.1 ih
theorem YP {B'}(m:aA P C ω w0 C0 hp w)(hB:B'=w0.heap.size)(e:ar C ω w B' env tmps):∀ {l:List ResultVar} {rs:List nF} {xs:List (AVal×Bool)},vC P l=Eb rs->ko ⟨env,hp⟩ rs=Eb xs ->
  ∃vs,(l.mapM fun(rv:ResultVar)=>(match rv with | .tmp t=>pure (tmps.getD t undef) | .cell a t=>do loadVar t (<-asAddr (tmps.getD a undef)):Sem Value)).run P w=.ok vs w/\lg P C ω w B' env hp rs xs vs
 | [],rs,xs,hc,Q=>by
  simp[vC]at hc;subst hc;simp[ko]at Q;subst Q;exact⟨[],rfl,.nil⟩
 |rv::l,rs,xs,hc,Q=>by
  simp only[vC]at hc;split at hc
  .rename_i r EH Y I;cases hc;simp only[ko]at Q;split at Q
   .rename_i x M;split at Q
    .rename_i ys nK;cases Q;obtain⟨v,k1,k2⟩:=q50 m hB e Y M;obtain⟨vs,j1,j2⟩:=YP m hB e I nK;refine⟨v::vs,?_,.cons k2 j2⟩;simp only[Eai,Sem.run_bind,k1,Result.andThen_ok,j1,Sem.run_pure]
    .cases Q
   .cases Q
  .cases hc
def EV:List Value->Value
 | [v]=>v|vs=>.tuple ⟨vs⟩
theorem YQ (m:aA P C ω w0 C0 hp w){ω' b j v ow cs}(iU:qy hp b=Eb cs)(hc:cs[j]?=Eb (v,ow))(hω:∀b' j' y u,(b'≠b\/j'≠j)->aS C ω w w0.heap.size (.cell b' j') y u->aS C ω' w w0.heap.size (.cell b' j') y u):
  aA P C ω' w0 C0 (hp.set b (.cells (cs.set j (v,Hd)))) w:=by
 by_cases hb:∃r,C.β b=Eb r
 .obtain⟨r,Q⟩:=hb;obtain⟨vs,te,hg,da,hold⟩:=m.box b _ r (vI iU) Q;obtain⟨cv,k1,k2,k3,k4⟩:=hold j _ hc;have hu:nQ w w r:=⟨rfl,fun _ _=>rfl,fun c t fr h=>by rw[hg]at h;cases h;rfl,rfl,rfl⟩;refine m.dV hu Q _ (fun b' j' y u fq hz=>hω b' j' y u (.inl fq) hz) ⟨vs,te,hg,by simpa using da,fun i c hi=>?_⟩;rw[U8]at hi;split at hi
  .rename_i HD;subst HD;split at hi
   .cases hi;exact⟨cv,k1,k2,k3,by simp⟩
   .cases hi
  .rename_i HD;obtain⟨u,J,a2,a3,a4⟩:=hold i c hi;exact⟨u,J,a2,a3,fun h=>hω b i _ _ (.inr (Hy HD)) (a4 h)⟩
 .refine { m with lt:=fun k r hk=>by rw[H3];exact m.lt k r hk,box:=fun k x r M hk=>?_ };have l9:k≠b:=fun h=>hb ⟨r,h▸hk⟩;rw[Ep (Hy l9)]at M;exact(m.box k x r M hk).mono (aM.le_refl C) fun j' y u ho=>hω k j' y u (.inl l9) ho
theorem jk3 (m:aA P C ω w0 C0 hp w){rs xs vs}(h:lg P C ω w w0.heap.size env hp rs xs vs):
  ∃ω',aA P C ω' w0 C0 (lH ⟨env,hp⟩ rs) w/\bS C (za xs).1 (EV vs)/\((za xs).2=En->aS C ω' w w0.heap.size (.slot 0) (za xs).1 (EV vs)):=by
 have same:∃ω',aA P C ω' w0 C0 hp w:=⟨ω,m⟩
 cases h with
 |nil=>exact⟨ω,m,by simpa[za,EV]using aJ.bq _ _ (aJ.nil),by simp[za]⟩
 |cons M ht=>
  cases ht with
  |cons hy ht=>
   have:=(lg.cons M (lg.cons hy ht)).cu;exact⟨ω,by simpa[lH]using m,by simpa[za,EV]using aJ.bq _ _ this,by simp[za]⟩
  |nil=>
   rename_i r x v;obtain⟨Y,I⟩:=M;simp only[za]
   -- without the flag
   have plain:aA P C ω w0 C0 (lH ⟨env,hp⟩ [r]) w:=by
    unfold lH;split
    .split
     .split
      .rename_i cs hcs;split
       .rename_i u hu;exact YQ m hcs hu (fun _ _ _ _ _ h=>h)
       .exact m
      .exact m
     .exact m
    .exact m
   by_cases hk:x.2=En
   .have gI:=hk;obtain⟨ℓ,h3,h4⟩:=I gI;refine⟨tY ω x.1 v (.slot 0),?_,Y,fun _=>L7 h3⟩;rcases h4 with⟨s,rfl⟩|⟨t,n,b,j,ow,cs,rfl,g1,rfl,g2,g3⟩
    .exact { plain with box:=fun b x r M hb=>(plain.box b x r M hb).mono (aM.le_refl C) fun j y u hz=>xF h3 (by simp) hz }
    .obtain⟨xv,xo⟩:=x;simp only at gI;subst gI
     have:lH ⟨env,hp⟩ [.cell t Hd n]=hp.set b (.cells (cs.set j (xv,Hd))):=by
      simp only[lH,g1,g2,g3]
     rw[this]
     exact YQ m g2 g3 fun b' j' y u bI hz=>xF h3 (by
      rcases bI with bI|bI
      ·simp[bI]
      ·simp[bI]) hz
   .exact⟨ω,plain,Y,fun h=>absurd h hk⟩
theorem q9g {fn}(m:aA P C ω w0 C0 hp w)(e:ar C ω w w0.heap.size env tmps){rs xs}(hc:vC P fn.results.toList=Eb rs)(Q:ko ⟨env,hp⟩ rs=Eb xs):
  ∃v ω',(results fn tmps).run P w=.ok v w/\aA P C ω' w0 C0 (lH ⟨env,hp⟩ rs) w/\bS C (za xs).1 v/\((za xs).2=En->aS C ω' w w0.heap.size (.slot 0) (za xs).1 v):=by
 obtain⟨vs,Y,I⟩:=YP m rfl e hc Q
 have l6:(fn.results.mapM fun(rv:ResultVar)=>(match rv with | .tmp t=>pure (tmps.getD t undef) | .cell a t=>do loadVar t (<-asAddr (tmps.getD a undef)):Sem Value)).run P w=.ok vs.toArray w:=by
  rw[Array.mapM_eq_mapM_toList];simp only[Sem.run_map];rw[Y];rfl
 have bE:(results fn tmps).run P w=.ok (if h:vs.toArray.size=1 then vs.toArray[0]else .tuple vs.toArray) w:=by
  unfold results;rw[Sem.run_bind];exact congrArg (fun z=>Result.andThen z fun(a:Array Value) w'=>Sem.run P (pure (if h:a.size=1 then a[0]else Value.tuple a)) w') l6
 have hval:(if h:vs.toArray.size=1 then vs.toArray[0]else .tuple vs.toArray)=(EV vs):=by
  match vs with
  | []=>rfl| [v]=>rfl|v::u::vs=>simp[EV]
 rw[hval]at bE;obtain⟨ω',q1,q2,q3⟩:=jk3 m I;exact⟨_,ω',bE,q1,q2,q3⟩
end
section
variable {P:Program}{C C0:aM}{ω:Nat->Option Loc}{w w0:World}{hp:qi}
variable (m:aA P C ω w0 C0 hp w)
def r9 (C:aM)(hp:qi)(r:Nat):Prop:=∃b sz bO xs r0 cap,hp[b]?=Eb (.vec sz bO xs)/\C.β b=Eb r0/\C.T (r0,bO,r,cap)
def Hid (C:aM)(hp:qi)(r:Nat):Prop:=(∃b,C.β b=Eb r)\/r9 C hp r
section
include m
theorem r9.is {r}(h:r9 C hp r):(∃b,C.β b=Eb r)\/∃b sz bO xs n cap,hp[b]?=Eb (.vec sz bO xs)/\xA C ω w w0.heap.size b r n cap:=by
 obtain⟨b,sz,bO,xs,r0,cap,Y,I,h3⟩:=h;obtain⟨q,kY,k1,k2,k3,k4,_⟩:=m.box b _ r0 Y I;have:=(k2 _ h3 rfl).2 rfl;simp only[Oz.injEq]at this;obtain⟨rfl,rfl⟩:=this;rcases k4 with rfl|k4
 .exact .inl ⟨b,I⟩
 .exact .inr ⟨b,sz,bO,xs,_,_,Y,k4⟩
theorem RV {r}(h:Hid C hp r)(o:Nat):C.K r o=G0:=by
 rcases h with⟨b,hb⟩|h
 .exact m.apart b r o hb
 .rcases h.is m with⟨b,hb⟩|⟨b,sz,bO,xs,n,cap,_,I⟩
  .exact m.apart b r o hb
  .exact I.2.2.2.2.2.2 o (by simp)
end
theorem jhr {K}(hW:C.W=fun _=>False)(m:aA P C ω w0 (.bZ K) hp w){r}(h:Hid C hp r):w0.heap.size<=r:=by
 have key:∀b,C.β b=Eb r->w0.heap.size<=r:=fun b hb=>by
  rcases m.fresh b r hb with h|h|h
  .cases h
  .exact h
  .exact h.elim
 rcases h with⟨b,hb⟩|h
 .exact key b hb
 .rcases h.is m with⟨b,hb⟩|⟨b,sz,bO,xs,n,cap,_,I⟩
  .exact key b hb
  .rcases I.2.1 with h|h
   .exact h
   .rw[hW]at h;exact h.elim
include m in
theorem ju0 {r}(h:Hid C hp r):r<w.heap.size:=by
 rcases h with⟨b,hb⟩|h
 .exact(m.lt b r hb).1
 .rcases h.is m with⟨b,hb⟩|⟨b,sz,bO,xs,n,cap,_,I⟩
  .exact(m.lt b r hb).1
  .obtain⟨_,_,_,_,_,⟨cells,elem,h5,_⟩,_⟩:=I;exact(G4.1 h5).1
open Classical in
noncomputable def zt (C:aM)(hp:qi)(w:World):Nat->Nat->Option Value:=fun r o=>if Hid C hp r then(w.cell? ⟨r,o,G0⟩).filter (·.oneCell')else C.K r o
section
include m
theorem HE {r o x}(h:C.K r o=Eb x):zt C hp w r o=Eb x:=by
 unfold zt;rw[if_neg]
 .exact h
 .intro hh;rw[RV m hh o]at h;cases h
theorem Md {r o x}(h:zt C hp w r o=Eb x):w.cell? ⟨r,o,G0⟩=Eb x/\x.oneCell'=En:=by
 unfold zt at h;split at h
 .rw[U9]at h;exact h
 .exact⟨m.know r o x h,m.dj r o x h⟩
end
theorem YR {r o x}(hb:Hid C hp r)(hc:w.cell? ⟨r,o,G0⟩=Eb x)(Y:x.oneCell'=En):zt C hp w r o=Eb x:=by
 unfold zt;rw[if_pos hb,hc];simp[Y]
theorem RW {b r o x}(hb:C.β b=Eb r)(hc:w.cell? ⟨r,o,G0⟩=Eb x)(Y:x.oneCell'=En):zt C hp w r o=Eb x:=
 YR (.inl ⟨b,hb⟩) hc Y
include m in
theorem RX {x v}(h:bS C x v)(hb:below 0 x=En):bS (.bZ (zt C hp w)) x v:=
 aJ.shift (C:=C) (C':=.bZ (zt C hp w)) 0 (fun _ _ _ h=>HE m h) (fun b r bh=>by omega) h hb
theorem YS {x v}(h:bS C x v)(Y:v.oneCell'=En):x.isAgg=Hd:=by
 cases h<;>first|rfl|(simp[Value.oneCell']at Y)
theorem RY {C r}:∀ {ys:List AVal} {o:Nat},(∀j x,ys[j]?=Eb x->∃v,C.K r (o+j)=Eb v/\bS C x v)->cB C r ys o
 | [],o,_=>.ik _ _
 |x::ys,o,h=>by
  obtain⟨v,Y,I⟩:=h 0 x rfl;refine .dC _ _ _ _ v (by simpa using Y) I (RY fun j y hy=>?_);obtain⟨v,k1,k2⟩:=h (j+1) y (by simpa using hy);exact⟨v,by rw[show o+1+j=o+(j+1) by omega];exact k1,k2⟩
theorem RZ {C r sz}(hz:0<sz):∀ {n:Nat} {xs:List AVal} {o:Nat},xs.length=n*sz->(∀x∈xs,x.isAgg=Hd)->(∀j x,xs[j]?=Eb x->∃v,C.K r (o+j)=Eb v/\bS C x v)->bA C r sz (nc sz n xs) o
 |0,xs,o,_,_,_=>.fN _ _ _
 |n+1,xs,o,hl,hp,h=>by
  rw[Ux]at hl
  have hf:(bif Hf sz 1 then xs.headD .undef else AVal.agg (xs.take sz)).flat=xs.take sz:=by
   cases hb:Hf sz 1 with
   |false=>rfl
   |true=>
    have:=Eh hb;subst this
    match xs,hl with
    |x::xs,_=>simp only[cond_true,List.headD_cons];rw[qbk (hp x (Xo ..))];rfl
  refine .dr _ _ _ _ _ ?_ ?_ (RZ hz ?_ (fun x M=>hp x (List.mem_of_mem_drop M)) fun j x M=>?_)
  .rw[hf,Rw];omega
  .rw[hf];refine RY fun j x M=>h j x ?_;rw[List.getElem?_take]at M;split at M
   .exact M
   .cases M
  .rw[Eac];omega
  .rw[List.getElem?_drop]at M;obtain⟨v,k1,k2⟩:=h _ x M;exact⟨v,by rw[Nat.add_assoc];exact k1,k2⟩
theorem HF {sz}:∀ {n:Nat} {xs:List AVal},(nc sz n xs).length=n
 |0,_=>rfl
 |n+1,xs=>by simp only[nc,List.length_cons];rw[HF]
theorem YT {sz}(hz:1<sz):∀ {n:Nat} {xs:List AVal},xs.length=n*sz->qt 0 (nc sz n xs)=En->∀x∈xs,below 0 x=En
 |0,xs,hl,_=>by
  rw[Nat.zero_mul]at hl;rw[L5.1 hl];intro x M;cases M
 |n+1,xs,hl,h=>by
  have hb:Hf sz 1=Hd:=by
   cases hc:Hf sz 1 with
   |false=>rfl|true=>have:=Eh hc;omega
  simp only[nc,hb,cond_false,qt,below,Eg]at h;have ih:=YT hz (n:=n) (xs:=xs.drop sz) (by rw[Eac,hl,Ux];omega) h.2
  have ht:∀(ys:List AVal),qt 0 ys=En->∀x∈ys,below 0 x=En:=by
   intro ys
   induction ys with
   |nil=>intro _ x M;cases M
   |cons y ys ih=>
    intro hh x M;simp only[qt,Eg]at hh;rcases R2.1 M with rfl|M
    .exact hh.1
    .exact ih hh.2 x M
  intro x M;rw[<-V6 sz xs]at M;rcases Ru.1 M with M|M
  .exact ht _ h.1 x M
  .exact ih x M
include m in
theorem R0 {x x' v}(hf:kr hp x=Eb x')(h:bS C x v)(hb:below 0 x'=En):bS (.bZ (zt C hp w)) x' v:=by
 unfold kr at hf;split at hf
 .rename_i b off len;split at hf
  .rename_i cs hcs
   cases cY:EC off len cs with
   |true=>
    rw[cY]at hf;simp only[cond_true,Eb.injEq]at hf;subst hf;simp only[EC,Eg]at cY;obtain⟨⟨⟨r0,r1⟩,r2⟩,_⟩:=cY;have r0:=Eh r0;have r2:=Eh r2
    have r1:1<cs.length / len:=by simpa using r1
    subst r0;obtain⟨r,cap,iG,hle,rfl⟩:=h.fa;obtain⟨vs,elem,k1,k2,k3⟩:=m.box b _ r (vI hcs) iG
    have jB:qt 0 (nc (cs.length / len) len (cs.map (·.1)))=En:=by simpa[below]using hb
    have pz:=YT r1 (by rw[Vw];exact r2.symm) jB
    have hrr:bA (.bZ (zt C hp w)) r (cs.length / len) (nc (cs.length / len) len (cs.map (·.1))) 0:=by
     refine RZ (by omega) (by rw[Vw];exact r2.symm) (fun x M=>?_) fun j x M=>?_
     .obtain⟨j,hj⟩:=List.getElem?_of_mem M;rw[J5,G1]at hj;obtain⟨c,hc,rfl⟩:=hj;obtain⟨u,q1,q2,q3,_⟩:=k3 j c hc;exact YS q3 q2
     .have dk:=Hx M;rw[J5,G1]at M;obtain⟨c,hc,rfl⟩:=M;obtain⟨u,q1,q2,q3,_⟩:=k3 j c hc
      have ec:w.cell? ⟨r,0+j,G0⟩=Eb u:=by
       unfold World.cell?;rw[k1];simp only[Rj,Hp,if_false,Um];exact q1
      exact⟨u,RW iG ec q2,RX m q3 (pz _ dk)⟩
    have:=aJ.list (C:=.bZ (zt C hp w)) (cs.length / len) (nc (cs.length / len) len (cs.map (·.1))) r 0 cap (by rw[HF];exact hle) hrr;rw[HF]at this;exact this
   |false=>
   rw[cY]at hf;simp only[cond_false]at hf;split at hf
   .rename_i us gY;cases hf;obtain⟨r,cap,iG,hle,rfl⟩:=h.fa;obtain⟨vs,k1,k0,k2,k3,k4⟩:=(m.box b _ r (vI hcs) iG).read gY
    have jB:qt 0 us=En:=by simpa[below]using hb
    have gg:bf (.bZ (zt C hp w)) us vs:=aJ.shift (C:=C) (C':=.bZ (zt C hp w)) 0 (fun _ _ _ h=>HE m h) (fun b r bh=>by omega) k1 jB
    have jZ:∀(us:List AVal) (vs:List Value),bf C us vs->(∀v∈vs,v.oneCell'=En)->us.flatMap AVal.flat=us/\∀u∈us,u.flat.length=1:=by
     intro us
     induction us with
     |nil=>intro _ _ _;exact⟨rfl,by simp⟩
     |cons u us ih=>
      intro vs h Y
      cases h with
      |cons _ _ v vs M h=>
       obtain⟨i1,i2⟩:=ih vs h (fun v hv=>Y v (by simp[hv]));have xC:=YS M (Y v (by simp));rw[Yw,qbk xC,i1];refine⟨rfl,fun u' qH=>?_⟩;rcases R2.1 qH with rfl|qH
       .rw[qbk xC];rfl
       .exact i2 u' qH
    obtain⟨f1,f2⟩:=jZ us vs k1 k4
    have hcells:cB (.bZ (zt C hp w)) r (us.flatMap AVal.flat) off:=by
     rw[f1];exact cB.iE gg fun j u hj=>RW iG (k3 j u hj) (k4 u (Hx hj))
    have hl:us.length=len:=k0;have:=aJ.list (C:=.bZ (zt C hp w)) 1 us r off cap (by omega) (bA.eY hcells f2);rw[hl]at this;exact this
   .cases hf
  .cases hf
 .rename_i b bO len;split at hf
  .rename_i sz dJ xs gM
   cases hk:(Hf bO dJ&&Hr len xs.length)with
   |false=>rw[hk]at hf;cases hf
   |true=>
    rw[hk]at hf;simp only[cond_true,Eb.injEq]at hf;subst hf;simp only[Eg]at hk;obtain rfl:=Eh hk.1;have hlen:=G7 hk.2
    cases h with
    |az _ _ _ r0 q cap hβ hT hl=>
     obtain⟨q',kY,k1,k2,k3,k4,_⟩:=m.box b _ r0 gM hβ;have heq:=(k2 _ hT rfl).2 rfl;simp only[Oz.injEq]at heq;obtain⟨rfl,rfl⟩:=heq;obtain⟨cells,t,vs,g1,g2,g3,g4,g5,g6,g7⟩:=k3;have R1:Hid C hp q:=.inr ⟨b,sz,bO,xs,r0,cap,gM,hβ,hT⟩
     have hall:cB (.bZ (zt C hp w)) q (xs.flatMap AVal.flat) 0:=by
      refine cB.iE (aJ.imp (C:=.bZ C.K) (C':=.bZ (zt C hp w)) ⟨fun _ _ _ h=>HE m h,fun _ _ h=>h⟩ g5) fun j u hj=>?_;refine YR R1 ?_ (g7 u (Hx hj));unfold World.cell?;rw[g1];simp only[Rj,Hp,if_false,Um];exact g6 j u hj
     have cY:bA (.bZ (zt C hp w)) q sz xs 0:=bA.eY hall g4;have:=aJ.list (C:=.bZ (zt C hp w)) sz (xs.take len) q 0 cap (by rw[Rw];omega) (cY.take len);rw[Rw,Nat.min_eq_left hlen]at this;exact this
  .cases hf
 .cases hf;exact RX m h hb
theorem R3 (m:aA P C ω w0 C0 hp w):∀ {xs fU:List AVal} {vs:List Value},lW hp xs=Eb fU->bf C xs vs->qt 0 fU=En->bf (.bZ (zt C hp w)) fU vs
 | [],fU,vs,hf,h,_=>by
  simp only[lW,Eb.injEq]at hf;subst hf;cases h;exact .nil
 |x::xs,fU,vs,hf,h,hb=>by
  simp only[lW]at hf;split at hf
  .rename_i y hy;split at hf
   .rename_i ys nK;cases hf;simp only[qt,Eg]at hb
    cases h with
    |cons _ _ v vs M h=>exact .cons _ _ _ _ (R0 m hy M hb.1) (R3 m nK h hb.2)
   .cases hf
  .cases hf
theorem R4 (m:aA P C ω w0 C0 hp w):∀ {xs fU:List AVal} {vs:List Value},aV.bP hp xs=Eb fU->bf C xs vs->qt 0 fU=En->bf (.bZ (zt C hp w)) fU vs
 | [],fU,vs,hf,h,_=>by
  simp only[aV.bP,Eb.injEq]at hf;subst hf;cases h;exact .nil
 |x::xs,fU,vs,hf,h,hb=>by
  cases h with
  |cons _ _ v vs M h=>
   unfold aV.bP at hf;split at hf
   .cases ‹_::_=[]›
   .rename_i cs rY heq;cases heq;split at hf
    .rename_i y hy;split at hf
     .rename_i ys nK;cases hf;simp only[qt,below,Eg]at hb;obtain⟨us,rfl,hu⟩:=bS.eH M;exact .cons _ _ _ _ (.agg _ _ (R3 m hy hu hb.1)) (R4 m nK h hb.2)
     .cases hf
    .cases hf
   .rename_i heq;cases heq;split at hf
    .rename_i y hy;split at hf
     .rename_i ys nK;cases hf;simp only[qt,Eg]at hb;exact .cons _ _ _ _ (R0 m hy M hb.1) (R4 m nK h hb.2)
     .cases hf
    .cases hf
include m in
theorem q83 {x x' v}(hf:aV hp x=Eb x')(h:bS C x v)(hb:below 0 x'=En):bS (.bZ (zt C hp w)) x' v:=by
 unfold aV at hf;split at hf
 .split at hf
  .rename_i ys nK;cases hf;obtain⟨us,rfl,hu⟩:=h.eH;exact .agg _ _ (R3 m nK hu (by simpa[below]using hb))
  .cases hf
 .split at hf
  .rename_i ys nK;cases hf
   cases h with
   |bq _ vs hu=>exact .bq _ _ (R4 m nK hu (by simpa[below]using hb))
  .cases hf
 .exact R0 m hf h hb
end
def AH:jc->Exit
 | .normal=>.normal| .exit id=>.exit id| .ret=>.ret
def iV (ρ:Option Nat):Fence:={ Fence.wide with round:=ρ }
theorem YU {ρ n P f args w R}:CallsIn (iV ρ) n P f args w R↔CallsIn Fence.wide n P f args w R:=Iff.rfl
def Marks (C:aM)(B:Nat)(ds:List Deferred):Prop:=∃rs:List Nat,ds=rs.map (fun r=>{ target:=.collected r,args:=#[] })/\rs.Nodup/\∀r∈rs,C.D r/\B<=r
theorem Marks.mono {C C' B ds}(h:Marks C B ds)(hle:C.le C'):Marks C' B ds:=
 let ⟨rs,Y,I,h3⟩:=h; ⟨rs,Y,I,fun r Q=>⟨hle.d r (h3 r Q).1,(h3 r Q).2⟩⟩
theorem Marks.nil {C B}:Marks C B []:=⟨[],rfl,List.nodup_nil,by simp⟩
def cL (P:Program)(xc:XC):Prop:=
 ∀(ρ:Option Nat) (nt:Nat) (c:Code) (ca:aQ) (st bN:bj) (x:jc),GY P nt c ca->(ρ≠G0->zu ca=En)->xc ca st=Eb (x,bN) ->
  ∀(C:aM) (ω:Nat->Option Loc) (w0:World) (C0:aM) (a:Act) (w:World),aA P C ω w0 C0 st.heap w->ar C ω w w0.heap.size st.env a.tmps->a.tmps.size=nt->Marks C w0.heap.size a.defers ->
   c.wpIn (iV ρ) 0 P (fun e a' w'=>e=AH x/\a'.tmps.size=nt/\∃C' ω',C.le C'/\Marks C' w0.heap.size a'.defers/\aA P C' ω' w0 C0 bN.heap w'/\ar C' ω' w' w0.heap.size bN.env a'.tmps) a w
def IsoCall (P:Program)(k:Nat)(args:List AVal)(v:AVal)(ow:Bool):Prop:=
 ∀(K:Nat->Nat->Option Value) (w:World) (vs:List Value),Tabs P w ->
  (∀r o u,K r o=Eb u->w.cell? ⟨r,o,G0⟩=Eb u)->(∀r o u,K r o=Eb u->u.oneCell'=En)->bf (.bZ K) args vs ->
  CallsIn Fence.wide 0 P k ⟨vs⟩ w fun e w'=>∃u K',e=.returned u/\Ext w w'/\(∀r o x,K r o=Eb x->K' r o=Eb x)/\(∀r o,r<w.heap.size->K' r o=K r o) /\
   (∀r o x,K' r o=Eb x->w'.cell? ⟨r,o,G0⟩=Eb x)/\(∀r o x,K' r o=Eb x->x.oneCell'=En)/\bS (.bZ K') v u /\
   (ow=En->∃ℓ ω',aS (.bZ K') ω' w' w.heap.size ℓ v u)
def Enters (P : Program) (k : Nat) : Prop := ∃ fn, P.funcs[k]? = Eb fn ∧ fn.name ≠ "runtime.NumGoroutine" ∧ fn.body.isSome
def Me (P:Program)(k:Nat)(args:List AVal)(h:qi)(v:AVal)(ow:Bool)(h':qi):Prop:=
 ∀(C:aM) (ω:Nat->Option Loc) (w:World) (vs:List Value),bf C args vs->aA P C ω w C h w ->
  CallsIn Fence.wide 0 P k ⟨vs⟩ w fun e w'=>∃u C' ω',e=.returned u/\C.le C'/\aA P C' ω' w C h' w'/\bS C' v u/\(ow=En->aS C' ω' w' w.heap.size (.slot 0) v u)
def R5 (P:Program)(k:Nat)(es:List (AVal×AVal)):Prop:=
 ∀(K:Nat->Nat->Option Value) (w:World),Tabs P w ->
  (∀r o u,K r o=Eb u->w.cell? ⟨r,o,G0⟩=Eb u)->(∀r o u,K r o=Eb u->u.oneCell'=En) ->
  CallsIn Fence.wide 0 P k ⟨[]⟩ w fun e w'=>∃q K' cj clock,e=.returned (.map (Eb q))/\Ext w w'/\(∀r o x,K r o=Eb x->K' r o=Eb x)/\(∀r o,r<w.heap.size->K' r o=K r o) /\
   (∀r o x,K' r o=Eb x->w'.cell? ⟨r,o,G0⟩=Eb x)/\(∀r o x,K' r o=Eb x->x.oneCell'=En)/\w.heap.size<=q/\w'.heap[q]?=Eb (.map cj clock)/\cI (.bZ K') es cj.toList
structure ct (P:Program)(p:j8):Prop where
 fn:∀k f,p.bn k=Eb f->∃fn h,P.funcs[k]?=Eb fn/\xy P h fn=Eb f
 mf:∀k f,p.di k=Eb f->Enters P k/\∀args v o,f args=Eb (v,o)->lV v=En->qt 0 args=En->IsoCall P k args v o
 mixed:P.follows .mixedOrders=En
 oM:∀k f,p.dO k=Eb f->Enters P k/\∀args h v o h',f args h=Eb (v,o,h')->Me P k args h v o h':=by intro k f h;cases h
 maps:∀k es,p.maps k=Eb es->Enters P k/\R5 P k es:=by intro k f h;cases h
theorem R6 {P h fn f} (hc : xy P h fn = Eb f) : ∃ c, fn.body = Eb c ∧ gX P h fn.ntmps c = Eb f.body ∧ vC P fn.results.toList = Eb f.results ∧ f.ntmps = fn.ntmps ∧ fn.name ≠ "runtime.NumGoroutine" := by
 unfold xy at hc;split at hc
 .rename_i c hb;split at hc
  .rename_i b rs Y I;split at hc
   .cases hc
   .rename_i hn;cases hc;exact⟨c,hb,Y,I,rfl,by simpa using hn⟩
  .cases hc
 .cases hc
theorem ct.enters {P p}(h:ct P p){k f}(hf:p.bn k=Eb f):Enters P k:=by
 obtain⟨fn,hh,Y,I⟩:=h.fn k f hf;obtain⟨c,hb,_,_,_,hn⟩:=R6 I;exact⟨fn,Y,hn,by simp[hb]⟩
theorem YV {P k}(h:Enters P k)(args:Array Value)(w:World):(callFunc k args).run P w=.ok (.enter k args) w:=by
 obtain⟨fn,Y,I,h3⟩:=h;simp[callFunc,Y,I,Option.isNone_iff_eq_none,Option.isSome_iff_ne_none.1 h3]
section
variable {P:Program}{p:j8}{xc:XC}{C C0:aM}{ω:Nat->Option Loc}{w w0:World}{hp:qi}{env:Env}{tmps:Array Value}{B:Nat}{a:Act}{o:Oper}{d:Loc}
theorem YW:∀ {args:List AVal} {i s:Nat} {x:AVal×Bool},jm s (pq i args)=Eb x->∃j,s=i+j/\args[j]?=Eb x.1/\x.2=Hd
 | [],_,_,_,h=>by simp[pq,jm]at h
 |v::args,i,s,x,h=>by
  simp only[pq,jm]at h
  cases hb:Hf i s with
  |true=>
   simp only[hb,cond_true,Eb.injEq]at h;subst h;exact⟨0,(Eh hb).symm,rfl,rfl⟩
  |false=>
   simp only[hb,cond_false]at h;obtain⟨j,Y,I,h3⟩:=YW h;exact⟨j+1,by omega,by simpa using I,h3⟩
theorem jb7 {r o v}(h:w.cell? ⟨r,o,G0⟩=Eb v):∃cs t fr,w.heap[r]?=Eb (.cells cs t fr):=by
 unfold World.cell? at h;split at h
 .rename_i cs t fr hg;exact⟨cs,t,fr,hg⟩
 .cases h
theorem aA.other {D'}(m:aA P C ω w0 C0 hp w){r w'}(hu:nQ w w' r)(hβ:∀b,C.β b≠Eb r)(Q:w0.heap.size<=r)(lN:∀cs t fr,w.heap[r]?≠Eb (.cells cs t fr))(hD:∀k,D' k->C.D k/\k≠r)(h0:∀k,C0.D k->D' k):
  aA P { C with D:=D' } ω w0 C0 hp w':=by
 have cZ:∀ {B:Nat} {ℓ:Loc} {x:AVal} {v:Value},aS C ω w B ℓ x v->aS { C with D:=D' } ω w' B ℓ x v:=by
  intro B ℓ x v ho;unfold aS at *;split at ho
  .obtain⟨Y,I,h3,h4,h8,⟨cells,elem,h5,h6⟩,h7⟩:=ho;refine⟨Y,I,h3,h4,h8,⟨cells,elem,?_,h6⟩,h7⟩;rw[hu.other _ (fun h=>lN _ _ _ (h▸h5))];exact h5
  .obtain⟨Y,I,h3,h4,h8,⟨cells,elem,h5,h6⟩,h7⟩:=ho;refine⟨Y,I,h3,h4,h8,⟨cells,elem,?_,h6⟩,h7⟩;rw[hu.other _ (fun h=>lN _ _ _ (h▸h5))];exact h5
  .trivial
 refine { base:=m.base,know:=?_,dj:=m.dj,apart:=m.apart,inj:=m.inj,lt:=?_,size:=?_,frame:=?_,fA:=?_,os:=hu.os.trans m.os,output:=hu.output.trans m.output,fresh:=m.fresh,grown:=⟨m.grown.k,m.grown.b,m.grown.w,h0,m.grown.t⟩,old:=m.old,box:=?_,iD:=fun q hq=>by rw[hu.size];exact m.iD q hq }
 .intro k p v hk;have hc:=m.know _ _ _ hk
  have bI:k≠r:=fun h=>by
   obtain⟨cs,t,fr,hg⟩:=jb7 hc;exact lN cs t fr (h▸hg)
  simp only[World.cell?]at hc ⊢;rw[hu.other k bI];exact hc
 .intro b p hb;rw[hu.size];exact m.lt b p hb
 .rw[hu.size];exact m.size
 .intro k hk hn hw;rw[hu.other k (by omega)];exact m.frame k hk hn hw
 .intro k hk;obtain⟨Y,I⟩:=hD k hk;rw[hu.other k I];exact m.fA k Y
 .intro b x p M hb
  refine bM.imp (C:=C) (C':={ C with D:=D' }) ⟨fun _ _ _ h=>h,fun _ _ h=>h⟩ (hu.other p (fun h=>hβ b (h▸hb))) (fun j y v ho=>cZ ho) (m.box b x p M hb) (hq:=fun q n cap k=>by
   obtain⟨_,_,_,_,_,⟨cells,elem,h5,_⟩,_⟩:=k
   exact hu.other q (fun h=>lN _ _ _ (h▸h5)))
theorem aS.lh {D' r w'}(hu:nQ w w' r)(lN:∀cs t fr,w.heap[r]?≠Eb (.cells cs t fr)){ℓ x v}(ho:aS C ω w B ℓ x v):aS { C with D:=D' } ω w' B ℓ x v:=by
 unfold aS at *;split at ho
 .obtain⟨Y,I,h3,h4,h8,⟨cells,elem,h5,h6⟩,h7⟩:=ho;refine⟨Y,I,h3,h4,h8,⟨cells,elem,?_,h6⟩,h7⟩;rw[hu.other _ (fun h=>lN _ _ _ (h▸h5))];exact h5
 .obtain⟨Y,I,h3,h4,h8,⟨cells,elem,h5,h6⟩,h7⟩:=ho;refine⟨Y,I,h3,h4,h8,⟨cells,elem,?_,h6⟩,h7⟩;rw[hu.other _ (fun h=>lN _ _ _ (h▸h5))];exact h5
 .trivial
theorem bS.sd {D' x v}(h:bS C x v):bS { C with D:=D' } x v:=aJ.imp (C:=C) (C':={ C with D:=D' }) ⟨fun _ _ _ h=>h,fun _ _ h=>h⟩ h
theorem ar.lh {D' r w'}(hu:nQ w w' r)(lN:∀cs t fr,w.heap[r]?≠Eb (.cells cs t fr))(e:ar C ω w B env tmps):ar { C with D:=D' } ω w' B env tmps:=
 fun s x G=>let ⟨v,Y,I,h3⟩:=e s x G; ⟨v,Y,bS.sd I,fun h=>(h3 h).lh hu lN⟩
theorem YX {fn R}:∀(rs:List Nat) (C':aM) (w:World),C.le C'->aA P C' ω w0 C hp w->ar C' ω w w0.heap.size env tmps->rs.Nodup->(∀r∈rs,C'.D r/\w0.heap.size<=r)->(∀k,C.D k->k<w0.heap.size) ->
  (∀(C2:aM) (w2:World),C.le C2->C2.D=C.D->aA P C2 ω w0 C hp w2->ar C2 ω w2 w0.heap.size env tmps->∃v,(results fn tmps).run P w2=.ok v w2/\R (.returned v) w2) ->
  LeavesInM Fence.wide 0 P fn tmps R (rs.map fun r=>{ target:=.collected r,args:=#[] }) .returning w
 | [],C',w,hle,m,e,_,_,hD,eC=>by
  have YY:∀ {k},C.D k->C'.D k:=fun h=>hle.d _ h
  -- the marks are forgotten
  have m2:aA P { C' with D:=C.D } ω w0 C hp w:={ m with
   fA:=fun r Q=>m.fA r (YY Q)
   grown:=⟨m.grown.k,m.grown.b,m.grown.w,fun _ h=>h,m.grown.t⟩
   box:=fun b x r M hb=>bM.imp (C:=C') (C':={ C' with D:=C.D }) ⟨fun _ _ _ h=>h,fun _ _ h=>h⟩ rfl (fun j y v ho=>ho) (m.box b x r M hb) }
  have e2:ar { C' with D:=C.D } ω w w0.heap.size env tmps:=fun s x G=>let ⟨v,Y,I,h3⟩:=e s x G; ⟨v,Y,bS.sd I,h3⟩
  exact eC { C' with D:=C.D } w ⟨hle.k,hle.b,hle.w,fun _ h=>h,hle.t⟩ rfl m2 e2
 |r::rs,C',w,hle,m,e,EQ,HG,hD,eC=>by
  obtain⟨hDr,hBr⟩:=HG r (by simp);have hg:=m.fA r hDr;have bh:=(G4.1 hg).1
  have lN:∀cs t fr,w.heap[r]?≠Eb (.cells cs t fr):=fun cs t fr h=>by rw[hg]at h;cases h
  have hu:nQ w (kg w r (.deferred G0)) r:=ES bh (by simp)
  have hβ:∀b,C'.β b≠Eb r:=by
   intro b hb;obtain⟨x,M⟩:=Hz (m.lt b r hb).2▸(⟨_,rfl⟩:∃x,Eb (hp[b]'(m.lt b r hb).2)=Eb x);have h0:=m.box b x r M hb
   cases x with
   |hole=>exact h0|cells cs=>obtain⟨vs,elem,Y,_⟩:=h0;rw[hg]at Y;cases Y|map es=>obtain⟨cj,clock,Y,_⟩:=h0;rw[hg]at Y;cases Y|iter s pos=>have Y:w.heap[r]?=_:=h0;rw[hg]at Y;cases Y|loop l=>obtain⟨lp,Y,_⟩:=h0;rw[hg]at Y;cases Y|fW t e l=>obtain⟨p,v,Y,_⟩:=h0;rw[hg]at Y;cases Y|dead=>obtain⟨cs,t,Y⟩:=h0;rw[hg]at Y;cases Y|vec sz bO xs=>obtain⟨_,_,_,_,_,_,cs,t,Y⟩:=h0;rw[hg]at Y;cases Y
  have bE:(Instr.takeDeferred r).run P w=.ok [] (kg w r (.deferred G0)):=by
   have G:=xI (P:=P) (x:=.deferred G0) hg (by simp);simp only[Instr.takeDeferred,Sem.run_bind,qI hg (by simp),Result.andThen_ok,G,Sem.run_pure]
  refine⟨by simp,.inl ⟨r,_,rfl,bE,?_⟩⟩;have HI:=Eaf.1 EQ;have m2:=m.other (D':=fun k=>C'.D k/\k≠r) hu hβ hBr lN (fun k h=>h) (fun k h=>⟨hle.d k h,fun hk=>by have:=hD k h;omega⟩)
  exact YX rs { C' with D:=fun k=>C'.D k/\k≠r } _ ⟨hle.k,hle.b,hle.w,fun k h=>⟨hle.d k h,fun hk=>by have:=hD k h;omega⟩,hle.t⟩ m2 (e.lh hu lN) HI.2
   (fun k hk=>⟨⟨(HG k (by simp[hk])).1,fun h=>HI.1 (h▸hk)⟩,(HG k (by simp[hk])).2⟩) hD eC
theorem q89 (M:cL P xc){k fn h f}(hfn:P.funcs[k]?=Eb fn)(hc:xy P h fn=Eb f){args v ow h'}(Q:qE xc f args hp=Eb (v,ow,h')){vs}(ez:bf C args vs)(m:aA P C ω w C hp w):
  CallsIn Fence.wide 0 P k ⟨vs⟩ w fun e w'=>∃u C' ω',e=.returned u/\C.le C'/\aA P C' ω' w C h' w'/\bS C' v u/\(ow=En->aS C' ω' w' w.heap.size (.slot 0) v u):=by
 obtain⟨c,hb,Y,I,h3,_⟩:=R6 hc;unfold qE at Q;have hD:∀k,C.D k->k<w.heap.size:=fun k hk=>(G4.1 (m.fA k hk)).1
 cases hle:Hr args.length f.ntmps with
 |false=>simp[hle]at Q
 |true=>
  simp only[hle,cond_true]at Q;have hlen:=G7 hle;have vG:=ez.length;refine callsIn_of_wp_marks hfn hb trivial ?_
  have da:((⟨vs⟩:Array Value)++Eag (fn.ntmps-(⟨vs⟩:Array Value).size) undef).size=fn.ntmps:=by
   simp;omega
  have HJ:ar C ω w w.heap.size (pq 0 args) ((⟨vs⟩:Array Value)++Eag (fn.ntmps-(⟨vs⟩:Array Value).size) undef):=by
   intro s x M;obtain⟨j,rfl,hj,hf⟩:=YW M;obtain⟨u,k1,k2⟩:=ez.get hj;have bh:j<vs.length:=(Hc.1 k1).1;refine⟨u,?_,k2,by simp[hf]⟩;rw[Um,Array.getElem?_append_left (by simpa using bh)];simpa using k1
  have fin:∀(st:bj) (a':Act) (w':World) (C':aM) (ω':Nat->Option Loc),C.le C'->Marks C' w.heap.size a'.defers->aA P C' ω' w C st.heap w'->ar C' ω' w' w.heap.size st.env a'.tmps ->
    (match ko st f.results with
     |some xs=>Eb ((za xs).1,(za xs).2,lH st f.results)
     |none=>G0)=Eb (v,ow,h') ->
    LeavesInM Fence.wide 0 P fn a'.tmps (fun e w'=>∃u C' ω',e=.returned u/\C.le C'/\aA P C' ω' w C h' w'/\bS C' v u/\(ow=En->aS C' ω' w' w.heap.size (.slot 0) v u)) a'.defers .returning w':=by
   intro st a' w' C' ω' hle ⟨rs,hds,EQ,HG⟩ m' e' Q;rw[hds];refine YX (C:=C) (ω:=ω') (w0:=w) (hp:=st.heap) (env:=st.env) rs C' w' hle m' e' EQ HG hD ?_;intro C2 w2 jE _ m2 e2;split at Q
   .rename_i xs qG;cases Q;obtain⟨u,ω2,k1,k2,k3,k4⟩:=q9g (fn:=fn) m2 e2 I qG;exact⟨u,k1,u,C2,ω2,rfl,jE,k2,k3,k4⟩
   .cases Q
  split at Q
  .rename_i st cq;refine wpIn_mono (M G0 fn.ntmps c f.body _ _ _ ⟨h,Y⟩ (fun h=>absurd rfl h) cq C ω w C _ w m HJ da Marks.nil) ?_;rintro e a' w' ⟨rfl,q1,C',ω',q3,q2,q4,q5⟩;exact fin st a' w' C' ω' q3 q2 q4 q5 Q
  .rename_i st cq;refine wpIn_mono (M G0 fn.ntmps c f.body _ _ _ ⟨h,Y⟩ (fun h=>absurd rfl h) cq C ω w C _ w m HJ da Marks.nil) ?_;rintro e a' w' ⟨rfl,q1,C',ω',q3,q2,q4,q5⟩;exact fin st a' w' C' ω' q3 q2 q4 q5 Q
  .cases Q
theorem YZ {K}(ht:Tabs P w)(Y:∀r o u,K r o=Eb u->w.cell? ⟨r,o,G0⟩=Eb u)(I:∀r o u,K r o=Eb u->u.oneCell'=En):aA P (.bZ K) (fun _=>G0) w (.bZ K) [] w where
 base:=⟨ht,fun g _=>⟨fun b h=>(by cases h),fun h=>h⟩⟩
 know:=Y
 dj:=I
 apart:=by simp[aM.bZ]
 inj:=by simp[aM.bZ]
 lt:=by simp[aM.bZ]
 size:=U6 _
 frame _ _ _ _:=rfl
 fA _ h:=h.elim
 os:=rfl
 output:=rfl
 fresh:=by simp[aM.bZ]
 grown:=aM.le_refl _
 old _ _ _ _:=rfl
 box:=by simp
 iD _ h:=h.elim
theorem Mf (hp:ct P p)(M:cL P xc){k args h h' v ow}(Q:ai p xc k args h=Eb (v,ow,h')):Enters P k/\Me P k args h v ow h':=by
 unfold ai at Q;split at Q
 .rename_i f hf;obtain⟨fn,hh,hfn,HK⟩:=hp.fn k f hf;exact⟨hp.enters hf,fun C ω w vs ez m=>q89 M hfn HK Q ez m⟩
 .split at Q
  .rename_i f hf;obtain⟨he,G⟩:=hp.oM k f hf;exact⟨he,G _ _ _ _ _ Q⟩
  .cases Q
theorem cI.bZ {es ms}(h:cI C es ms):y8 0 es=En->cI (.bZ C.K) es ms:=by
 induction h with
 |nil=>exact fun _=>.nil
 |cons k v es m ms hk hv _ ih=>
  intro hb;simp only[y8,Eg]at hb;exact .cons _ _ _ _ _ (aJ.shift (C:=C) (C':=.bZ C.K) 0 (fun _ _ _ h=>h) (fun b r bh=>by omega) hk hb.1.1) (aJ.shift (C:=C) (C':=.bZ C.K) 0 (fun _ _ _ h=>h) (fun b r bh=>by omega) hv hb.1.2) (ih hb.2)
theorem jdj (hp:ct P p)(M:cL P xc){k b ow Y es}(Q:ai p xc k [] []=Eb (.map b,ow,Y))(hb:Y[b]?=Eb (.map es))(he:y8 0 es=En):Enters P k/\R5 P k es:=by
 obtain⟨mg,nS⟩:=Mf hp M Q;refine⟨mg,fun K w ht g1 g2=>?_⟩;refine CallsIn.mono (nS _ _ _ [] .nil (YZ (P:=P) ht g1 g2)) ?_;rintro e w' ⟨u,C',ω',rfl,hle,m',gg,_⟩
 cases gg with
 |map _ q hq=>
  obtain⟨cj,clock,k1,k2⟩:=m'.box b _ q hb hq;refine⟨q,C'.K,cj,clock,rfl,⟨m'.size,fun r Q=>m'.frame r Q (by simp[aM.bZ]) (by simp[aM.bZ]),m'.os,m'.output⟩,hle.1,fun r o Q=>m'.old r o Q (by simp[aM.bZ]),m'.know,m'.dj,?_,k1,k2.bZ he⟩;rcases m'.fresh b q hq with h|h|h
  .cases h
  .exact h
  .exact h.elim
theorem Mg (hp:ct P p)(M:cL P xc){k args v ow}(Q:ae p xc k args=Eb (v,ow))(hb:qt 0 args=En):Enters P k/\lV v=En/\IsoCall P k args v ow:=by
 unfold ae at Q;split at Q
 .rename_i f hf;obtain⟨he,HL⟩:=hp.mf k f hf;split at Q
  .rename_i v' o' HM
   cases kA:lV v' with
   |false=>simp[kA]at Q
   |true=>
    simp only[kA,cond_true]at Q;cases Q;exact⟨he,kA,HL args _ _ HM kA hb⟩
  .cases Q
 .split at Q
  .rename_i v0 o' h' HM;split at Q
   .rename_i v' EW
    cases kA:lV v' with
    |false=>simp[kA]at Q
    |true=>
     simp only[kA,cond_true]at Q;cases Q;obtain⟨mg,nS⟩:=Mf hp M HM
     .refine⟨mg,kA,?_⟩;intro K w vs ht Y I ez;have:=nS _ _ _ _ ez (YZ (P:=P) ht Y I);refine CallsIn.mono this ?_;rintro e w' ⟨u,C',ω',rfl,hle,m',gg,cZ⟩;refine⟨u,zt C' h' w',rfl,?_,fun r o x Q=>HE m' (hle.1 r o x Q),fun r o Q=>?_,fun r o x Q=>(Md m' Q).1,fun r o x Q=>(Md m' Q).2,q83 m' EW gg kA,?_⟩
      .exact⟨m'.size,fun r Q=>m'.frame r Q (by simp[aM.bZ]) (by simp[aM.bZ]),m'.os,m'.output⟩
      .have hold:=m'.old r o Q (by simp[aM.bZ]);unfold zt;rw[if_neg]
       .exact hold
       intro hh;have:=jhr hle.w m' hh;omega
      .intro ho;simp only[Eg]at ho;have hℓ:=cZ ho.1;refine⟨.slot 0,ω',?_⟩
       cases v0 with
       |list n sz xs=>
        have HO:v=.list n sz xs:=by
         simp only[aV,kr,Eb.injEq]at EW;exact EW.symm
        subst HO;unfold aS at *;split at hℓ
        .obtain⟨g1,g2,g3,g4,g5,g6,g7⟩:=hℓ;refine⟨g1,.inl (g2.resolve_right (by rw[hle.w];exact fun h=>h)),by simp[aM.bZ],g4,g5,g6,fun o xK=>?_⟩;show zt C' h' w' _ o=G0;unfold zt;rw[if_neg]
         .exact g7 o xK
         .rintro (⟨b,hb⟩|hh)
          .exact g3 b hb
          .rcases hh.is m' with⟨b,hb⟩|⟨b,_,_,_,_,_,_,I⟩
           .exact g3 b hb
           .have:=I.1;rw[g1]at this;simp at this
        all_goals trivial
       |_=>exact absurd ho.2 (by simp[AVal.cP])
   .cases Q
  .cases Q
end
section
variable {P:Program}{p:j8}{xc:XC}{C C0 C1:aM}{ω ω1:Nat->Option Loc}{w w' w0:World}{hp Y:qi}{env:Env}{tmps:Array Value}{B:Nat}{a:Act}{o:Oper}{d:Loc}
variable (m:aA P C ω w0 C0 hp w)(e:ar C ω w w0.heap.size env tmps)
theorem aS.grow {K' ℓ x v}(M:Ext w w')(hK:∀r o,r<w.heap.size->K' r o=C.K r o)(ho:aS C ω w B ℓ x v):aS { C with K:=K' } ω w' B ℓ x v:=by
 unfold aS at *;split at ho
 .obtain⟨Y,I,h3,h4,h8,⟨cells,elem,h5,h6⟩,h7⟩:=ho;have bh:=(G4.1 h5).1
  exact⟨Y,I,h3,h4,h8,⟨cells,elem,M.get h5,h6⟩,fun o ho=>by
   show K' _ o=G0
   rw[hK _ o bh];exact h7 o ho⟩
 .obtain⟨Y,I,h3,h4,h8,⟨cells,elem,h5,h6⟩,h7⟩:=ho;have bh:=(G4.1 h5).1
  exact⟨Y,I,h3,h4,h8,⟨cells,elem,M.get h5,h6⟩,fun o ho=>by
   show K' _ o=G0
   rw[hK _ o bh];exact h7 o ho⟩
 .trivial
theorem aA.bZ {K'}(m:aA P C ω w0 C0 hp w)(M:Ext w w')(hle:∀r o x,C.K r o=Eb x->K' r o=Eb x)(hK:∀r o,r<w.heap.size->K' r o=C.K r o)(hk:∀r o x,K' r o=Eb x->w'.cell? ⟨r,o,G0⟩=Eb x)(Y:∀r o x,K' r o=Eb x->x.oneCell'=En):
  aA P { C with K:=K' } ω w0 C0 hp w' where
 base:=m.base
 know:=hk
 dj:=Y
 apart b r o hb:=by
  show K' r o=G0;rw[hK r o (m.lt b r hb).1];exact m.apart b r o hb
 inj:=m.inj
 lt b r hb:=⟨Rm (m.lt b r hb).1 M.size,(m.lt b r hb).2⟩
 size:=H0 m.size M.size
 frame:=(m.ext M).frame
 fA:=(m.ext M).fA
 os:=(m.ext M).os
 output:=(m.ext M).output
 fresh:=m.fresh
 grown:=aM.le_trans m.grown ⟨hle,fun _ _ h=>h,rfl,fun _ h=>h,fun _ h=>h⟩
 old r o Q hw:=by
  show K' r o=_;rw[hK r o (Rm Q m.size)];exact m.old r o Q hw
 box b x r hb Q:=by
  have h0:=m.box b x r hb Q
  -- in the new world first,then in the richer context
  cases x with
  |hole=>exact h0
  |cells cs=>
   obtain⟨vs,elem,g1,g2,g3⟩:=h0;exact⟨vs,elem,M.get g1,g2,fun j c hc=>let ⟨v,a,q,b,d⟩:=g3 j c hc; ⟨v,a,q,aJ.mono (C':={ C with K:=K' }) ⟨hle,fun _ _ h=>h,rfl,fun _ h=>h,fun _ h=>h⟩ b,fun e=>(d e).grow M hK⟩⟩
  |map es=>obtain⟨cj,clock,g1,g2⟩:=h0;exact⟨cj,clock,M.get g1,cI.mono (C:=C) (C':={ C with K:=K' }) ⟨hle,fun _ _ h=>h,rfl,fun _ h=>h,fun _ h=>h⟩ g2⟩|iter s pos=>exact M.get h0|loop l=>obtain⟨lp,g1,g2⟩:=h0;exact⟨lp,M.get g1,cE.mono (C:=C) (C':={ C with K:=K' }) ⟨hle,fun _ _ h=>h,rfl,fun _ h=>h,fun _ h=>h⟩ g2⟩|fW t e l=>obtain⟨p,v,g1,g2,g3,g4⟩:=h0;exact⟨p,v,M.get g1,g2,g3,g4.grow M hK⟩|dead=>obtain⟨cs,t,g1⟩:=h0;exact⟨cs,t,M.get g1⟩
  |vec sz bO xs=>
   have hg:∀ {k:Nat} {c:Array Value} {t:TypeId},w.heap[k]?=Eb (.cells c t (0,0))->w'.heap[k]?=w.heap[k]?:=fun hk=>by rw[M.get hk,hk]
   obtain⟨_,_,_,_,_,_,cs,t,g1⟩:=id h0;refine eg.imp hle (fun _ h=>h) (fun _ h _=>h) (hg g1) (fun q n cap k=>⟨?_,k.grow M hK⟩) h0;obtain⟨_,_,_,_,_,⟨cells,elem,h5,_⟩,_⟩:=k;exact hg h5
 iD q hq:=Rm (m.iD q hq) M.size
theorem ar.bZ {K'}(e:ar C ω w B env tmps)(M:Ext w w')(hle:∀r o x,C.K r o=Eb x->K' r o=Eb x)(hK:∀r o,r<w.heap.size->K' r o=C.K r o):ar { C with K:=K' } ω w' B env tmps:=
 fun s x G=>let ⟨v,Y,I,h3⟩:=e s x G; ⟨v,Y,aJ.mono (C':={ C with K:=K' }) ⟨hle,fun _ _ h=>h,rfl,fun _ h=>h,fun _ h=>h⟩ I,fun h=>(h3 h).grow M hK⟩
section
include m e
theorem Y0 {v ow u K'}(M:Ext w w')(hle:∀r o x,C.K r o=Eb x->K' r o=Eb x)(hK:∀r o,r<w.heap.size->K' r o=C.K r o)(hk:∀r o x,K' r o=Eb x->w'.cell? ⟨r,o,G0⟩=Eb x)(Y:∀r o x,K' r o=Eb x->x.oneCell'=En)
  (kA:lV v=En) (Q:bS (.bZ K') v u) (ho:ow=En->∃ℓ ω',aS (.bZ K') ω' w' w.heap.size ℓ v u):zo P C0 w0 C tmps d env ⟨v,ow,G0,hp⟩ u w':=by
 have m':=m.bZ M hle hK hk Y;have e':=e.bZ M hle hK;have jV:bS { C with K:=K' } v u:=aJ.shift (C:=.bZ K') (C':={ C with K:=K' }) 0 (fun _ _ _ h=>h) (fun b r bh=>by omega) Q kA;have cV:C.le { C with K:=K' }:=⟨hle,fun _ _ h=>h,rfl,fun _ h=>h,fun _ h=>h⟩;by_cases Y1:∃(n:Bool) (sz:Nat) (xs:List AVal) (ad:Addr) (len cap:Nat),v=.list n sz xs/\u=.slice (Eb ad) len cap/\ow=En
 .obtain⟨n,sz,xs,ad,len,cap,rfl,rfl,rfl⟩:=Y1;obtain⟨ℓ,ω',g1,R7,g3,g4,g5,g6,g7⟩:=ho rfl;have g2:w.heap.size<=ad.block:=R7.resolve_right (fun h=>h)
  have AJ:∀ℓ x v,aS C ω w w0.heap.size ℓ x v->aS { C with K:=K' } (cN ω ad.block d) w' w0.heap.size ℓ x v:=fun ℓ x v h=>by
   have I:=(h.fresh (ℓ':=d) g2).grow M hK;exact I
  refine⟨{ C with K:=K' },cN ω ad.block d,cV,?_,?_,jV,fun _=>?_⟩
  .have:=(m.kU ad.block d g2).bZ M hle hK hk Y;exact this
  .exact fun s x G=>let ⟨v,Y,I,h3⟩:=e s x G; ⟨v,Y,aJ.mono cV I,fun h=>AJ _ _ _ (h3 h)⟩
  .refine⟨by simp[cN],.inl (H0 m.size g2),fun b hb=>?_,g4,g5,g6,g7⟩;have:=(m.lt b _ hb).1;omega
 by_cases dx:∃(n:Nat) (ad:Addr),v=.dG n/\u=.pointer (Eb ad)/\ow=En
 .obtain⟨n,ad,rfl,rfl,rfl⟩:=dx;obtain⟨ℓ,ω',g1,R7,g3,g4,g5,g6,g7⟩:=ho rfl;have g2:w.heap.size<=ad.block:=R7.resolve_right (fun h=>h)
  have AJ:∀ℓ x v,aS C ω w w0.heap.size ℓ x v->aS { C with K:=K' } (cN ω ad.block d) w' w0.heap.size ℓ x v:=fun ℓ x v h=>by
   have I:=(h.fresh (ℓ':=d) g2).grow M hK;exact I
  refine⟨{ C with K:=K' },cN ω ad.block d,cV,?_,?_,jV,fun _=>?_⟩
  .have:=(m.kU ad.block d g2).bZ M hle hK hk Y;exact this
  .exact fun s x G=>let ⟨v,Y,I,h3⟩:=e s x G; ⟨v,Y,aJ.mono cV I,fun h=>AJ _ _ _ (h3 h)⟩
  .refine⟨by simp[cN],.inl (H0 m.size g2),fun b hb=>?_,g4,g5,g6,g7⟩;have:=(m.lt b _ hb).1;omega
 .refine⟨{ C with K:=K' },ω,cV,m',e',jV,fun h=>?_⟩
  cases v with
  |list n sz xs=>
   cases u with
   |slice q len cap=>
    cases q with
    |some ad=>exact absurd ⟨_,_,_,_,_,_,rfl,rfl,h⟩ Y1|none=>trivial
   |_=>trivial
  |dG n=>
   cases u with
   |pointer q=>
    cases q with
    |some ad=>exact absurd ⟨_,_,rfl,rfl,h⟩ dx|none=>trivial
   |_=>trivial
  |_=>trivial
theorem jmb {b q K' es cj clock}(M:Ext w w')(hle:∀r o x,C.K r o=Eb x->K' r o=Eb x)(hK:∀r o,r<w.heap.size->K' r o=C.K r o)(hk:∀r o x,K' r o=Eb x->w'.cell? ⟨r,o,G0⟩=Eb x)(Y:∀r o x,K' r o=Eb x->x.oneCell'=En)
  (hh:hp[b]?=Eb .hole) (hq:w.heap.size<=q) (hg:w'.heap[q]?=Eb (.map cj clock)) (Q:cI (.bZ K') es cj.toList):zo P C0 w0 C tmps d env ⟨.map b,Hd,G0,hp.set b (.map es)⟩ (.map (Eb q)) w':=by
 have m':=m.bZ M hle hK hk Y;have e':=e.bZ M hle hK;have cV:C.le { C with K:=K' }:=⟨hle,fun _ _ h=>h,rfl,fun _ h=>h,fun _ h=>h⟩;obtain⟨m2,e2,jE⟩:=m'.Hn e' hh hg (fun k hk=>by have:=(m.lt k q hk).1;omega) (H0 m.size hq) (cI.imp (C:=.bZ K') (C':={ C with K:=K' }) ⟨fun _ _ _ h=>h,fun b r h=>by simp[aM.bZ]at h⟩ Q);exact⟨_,ω,aM.le_trans cV jE,m2,e2,.map _ _ (by simp[aM.box]),by simp⟩
end
theorem HP {C C' x v}(hp:oB x=En)(h:bS C x v):bS C' x v:=by
 cases x<;>simp only[oB,Hp]at hp<;>cases h<;>constructor
include m e in
theorem aA.R8 {b q K' cells}{t:TypeId}{cs}(M:Ext w w')(hle:∀r o x,C.K r o=Eb x->K' r o=Eb x)(hK:∀r o,r<w.heap.size->K' r o=C.K r o)(hk:∀r o x,K' r o=Eb x->w'.cell? ⟨r,o,G0⟩=Eb x)(Y:∀r o x,K' r o=Eb x->x.oneCell'=En)
  (hq:w.heap.size<=q) (hn:∀o,K' q o=G0) (hh:hp[b]?=Eb .hole) (hg:w'.heap[q]?=Eb (.cells cells t (0,0))) (hl:cs.length<=cells.size)
  (hcs:∀(j:Nat) (c:AVal×Bool),cs[j]?=Eb c->∃v,cells[j]?=Eb v/\v.oneCell'=En/\bS (({ C with K:=K' }:aM).box b q) c.1 v/\c.2=Hd):
  aA P (({ C with K:=K' }:aM).box b q) ω w0 C0 (hp.set b (.cells cs)) w'/\ar (({ C with K:=K' }:aM).box b q) ω w' w0.heap.size env tmps/\C.le (({ C with K:=K' }:aM).box b q):=by
 have m':=m.bZ M hle hK hk Y;have hβ:=Hl m hh;have AG:C.le { C with K:=K' }:=⟨hle,fun _ _ h=>h,rfl,fun _ h=>h,fun _ h=>h⟩;have jE:({ C with K:=K' }:aM).le (({ C with K:=K' }:aM).box b q):=aM.kX (C:={ C with K:=K' }) (r:=q) hβ;have cV:=aM.le_trans AG jE;have bh:b<hp.length:=(Hc.1 hh).1
 have Mh:∀k,C.β k≠Eb q:=fun k hk=>by have:=(m.lt k q hk).1;omega
 have cZ:∀ℓ x v,aS C ω w w0.heap.size ℓ x v->aS (({ C with K:=K' }:aM).box b q) ω w' w0.heap.size ℓ x v:=fun ℓ x v h=>aS.grow (C:=C.box b q) M hK (aS.box (.inl hq) h);refine⟨{ m' with apart:=?_,inj:=?_,lt:=?_,fresh:=?_,grown:=aM.le_trans m'.grown jE,box:=?_ },?_,cV⟩
 .intro k r o hk;simp only[aM.box]at hk;split at hk
  .cases hk;exact hn o
  .exact m'.apart k r o hk
 .intro k k' r hk fe;simp only[aM.box]at hk fe;split at hk<;>split at fe
  .rename_i Y I;rw[Y,I]
  .cases hk;exact absurd fe (Mh k')
  .cases fe;exact absurd hk (Mh k)
  .exact m.inj k k' r hk fe
 .intro k r hk;rw[H3];simp only[aM.box]at hk;split at hk
  .rename_i Y;cases hk;subst Y;exact⟨(G4.1 hg).1,bh⟩
  .exact m'.lt k r hk
 .intro k r hk;simp only[aM.box]at hk;split at hk
  .cases hk;exact .inr (.inl (H0 m.size hq))
  .exact m.fresh k r hk
 .intro k y r hy hk;simp only[aM.box]at hk;split at hk
  .rename_i Y;subst Y;cases hk;rw[H4 bh]at hy;cases hy;refine⟨cells,t,hg,hl,fun j c hc=>?_⟩;obtain⟨v,J,a2,a3,a4⟩:=hcs j c hc;exact⟨v,J,a2,a3,fun h=>by rw[a4]at h;cases h⟩
  .rename_i Y;rw[Ep (Hy Y)]at hy;have h0:=m.box k y r hy hk
   cases y with
   |hole=>exact h0
   |cells cs=>
    obtain⟨vs,elem,g1,g2,g3⟩:=h0;exact⟨vs,elem,M.get g1,g2,fun j c hc=>let ⟨v,a,q,b,d⟩:=g3 j c hc; ⟨v,a,q,aJ.mono cV b,fun e=>cZ _ _ _ (d e)⟩⟩
   |map es=>obtain⟨cj,clock,g1,g2⟩:=h0;exact⟨cj,clock,M.get g1,cI.mono cV g2⟩|iter s pos=>exact M.get h0|loop l=>obtain⟨lp,g1,g2⟩:=h0;exact⟨lp,M.get g1,cE.mono cV g2⟩|fW t e l=>obtain⟨p,v,g1,g2,g3,g4⟩:=h0;exact⟨p,v,M.get g1,g2,g3,cZ _ _ _ g4⟩|dead=>obtain⟨cs,t,g1⟩:=h0;exact⟨cs,t,M.get g1⟩
   |vec sz bO xs=>
    have Mi:∀ {k:Nat} {c:Array Value} {t:TypeId},w.heap[k]?=Eb (.cells c t (0,0))->w'.heap[k]?=w.heap[k]?:=fun hk=>by rw[M.get hk,hk]
    obtain⟨_,_,_,_,_,_,cs,t,g1⟩:=id h0;refine eg.imp hle (fun _ h=>h) (fun _ h _=>h) (Mi g1) (fun q n cap k'=>⟨?_,cZ _ _ _ k'⟩) h0;obtain⟨_,_,_,_,_,⟨cells,elem,h5,_⟩,_⟩:=k';exact Mi h5
 .exact fun s y hy=>let ⟨v,Y,I,h3⟩:=e s y hy; ⟨v,Y,aJ.mono cV I,fun h=>cZ _ _ _ (h3 h)⟩
theorem aA.HQ (m:aA P C ω w0 C0 hp w){b x}(hh:hp[b]?=Eb .hole):aA P C ω w0 C0 (hp.set b x) w:=by
 have hβ:=Hl m hh;refine { m with lt:=fun k r hk=>by rw[H3];exact m.lt k r hk,box:=fun k y r hy hk=>?_ };by_cases l9:k=b
 .subst l9;rw[hβ]at hk;cases hk
 .rw[Ep (Hy l9)]at hy;exact m.box k y r hy hk
include m e in
theorem je4 {v ow u h0 r res K'}(M:Ext w w')(hle:∀r o x,C.K r o=Eb x->K' r o=Eb x)(hK:∀r o,r<w.heap.size->K' r o=C.K r o)(hk:∀r o x,K' r o=Eb x->w'.cell? ⟨r,o,G0⟩=Eb x)(Y:∀r o x,K' r o=Eb x->x.oneCell'=En)
  (Q:bS (.bZ K') v u) (ho:ow=En->∃ℓ ω',aS (.bZ K') ω' w' w.heap.size ℓ v u) (ht:rK h0 hp r v ow=Eb res):zo P C0 w0 C tmps d env res u w':=by
 unfold rK at ht;split at ht
 .rename_i sz _;split at ht
  .rename_i h' hn;have hv:=q9 ht;obtain⟨hh,rfl⟩:=yz hn;subst hv;have cV:C.le { C with K:=K' }:=⟨hle,fun _ _ h=>h,rfl,fun _ h=>h,fun _ h=>h⟩;refine⟨{ C with K:=K' },ω,cV,(m.bZ M hle hK hk Y).HQ hh,e.bZ M hle hK,aJ.shift (C:=.bZ K') (C':={ C with K:=K' }) 0 (fun _ _ _ h=>h) (fun b r bh=>by omega) Q (by rfl),fun h=>by simp at h⟩
  .cases ht
 .rename_i sz xs
  cases hb:(xs.flatMap AVal.flat).all oB with
  |false=>rw[hb]at ht;cases ht
  |true=>
   rw[hb]at ht;simp only[cond_true]at ht;split at ht
   .rename_i h' hn;have hv:=q9 ht;obtain⟨hh,rfl⟩:=yz hn;subst hv;obtain⟨ℓ,ω',ho⟩:=ho rfl
    cases Q with
    |jA sz a l0=>
     simp only[aS]at ho;exact absurd ho.2.2.2.1 l0
    |list sz _ q o cap hl cY=>
     simp only[aS]at ho;obtain⟨o1,o2,o3,_,o5,⟨cells,elem,o6,o7,_⟩,o8⟩:=ho;subst o5;have hq:w.heap.size<=q:=o2.resolve_right (fun h=>h)
     let K2:Nat->Nat->Option Value:=fun r o=>if r=q then G0 else K' r o
     have HR:∀ {r o x},K2 r o=Eb x->K' r o=Eb x:=by
      intro r o x h;simp only[K2]at h;split at h
      .cases h
      .exact h
     have jE:∀r o x,C.K r o=Eb x->K2 r o=Eb x:=by
      intro r o x h
      have bh:r<w.heap.size:=by
       have:=m.know r o x h;unfold World.cell? at this;split at this
       .rename_i c _ _ hc;exact(G4.1 hc).1
       .cases this
      have bI:r≠q:=by omega
      simp only[K2,if_neg bI];exact hle r o x h
     have R9:∀r o,r<w.heap.size->K2 r o=C.K r o:=by
      intro r o bh
      have bI:r≠q:=by omega
      simp only[K2,if_neg bI];exact hK r o bh
     have hcells:=bA.cells cY
     have hlen:(xs.flatMap AVal.flat).length<=cells.size:=by
      rcases Nat.eq_zero_or_pos (xs.flatMap AVal.flat).length with h0|h0
      .omega
      .obtain⟨y,hy⟩:∃y,(xs.flatMap AVal.flat)[(xs.flatMap AVal.flat).length-1]?=Eb y:=⟨_,Hz (by omega)⟩;obtain⟨v,hv,_⟩:=cB.get hcells hy;have h3:=hk _ _ _ hv;unfold World.cell? at h3;rw[o6]at h3;simp only[Rj,Hp,if_false]at h3;have:=(G4.1 h3).1;omega
     obtain⟨m2,e2,l2⟩:=m.R8 e (b:=h0+r) (q:=q) (K':=K2) (cells:=cells) (t:=elem) (cs:=cellsOf (xs.flatMap AVal.flat)) M jE R9 (fun r o x h=>hk r o x (HR h)) (fun r o x h=>Y r o x (HR h)) hq (fun o=>by simp[K2]) hh o6 (by rw[show(cellsOf (xs.flatMap AVal.flat)).length=(xs.flatMap AVal.flat).length by simp[cellsOf]];exact hlen) (by
      intro j c hc;simp only[cellsOf,J5,G1]at hc;obtain⟨y,hy,rfl⟩:=hc;obtain⟨v,hv,qJ⟩:=cB.get hcells hy;have h3:=hk _ _ _ hv;unfold World.cell? at h3;rw[o6]at h3;simp only[Rj,Hp,if_false,Um]at h3
      exact⟨v,h3,Y _ _ _ hv,HP (Hs.1 hb y (Hx hy)) qJ,rfl⟩)
     exact⟨_,ω,l2,m2,e2,.ms _ 0 _ q cap (by simp[aM.box]) hl,fun h=>by simp at h⟩
   .cases ht
 .cases ht
theorem jej (m:aA P C ω w0 C0 hp w){x x' v}(hf:QV hp x=Eb x')(h:bS C x v)(hb:Abs.below 0 x'=En):bS (.bZ (zt C hp w)) x' v:=by
 unfold QV at hf;split at hf
 .rename_i b len;split at hf
  .rename_i cs hcs
   cases hc:(Hf (len*(cs.length / len)) cs.length&&Hg 0 (cs.length / len)&&cs.all (fun c=>oB c.1))with
   |false=>
    rw[hc,cond_false]at hf
    cases hl:Hf len 0 with
    |false=>rw[hl]at hf;cases hf
    |true=>
     rw[hl]at hf;have hl:=Eh hl;subst hl;simp only[cond_true,Eb.injEq]at hf;subst hf;obtain⟨r,cap,iG,hle,rfl⟩:=h.fa;exact aJ.list (C:=.bZ (zt C hp w)) 8 [] r 0 cap (Nat.zero_le _) (.fN _ _ _)
   |true=>
    rw[hc]at hf;simp only[cond_true,Eb.injEq]at hf;subst hf;simp only[Eg]at hc;obtain⟨⟨c1,c2⟩,c3⟩:=hc;have c1:=Eh c1
    have c2:0<cs.length / len:=by simpa using c2
    obtain⟨r,cap,iG,hle,rfl⟩:=h.fa;obtain⟨vs,elem,k1,k2,k3⟩:=m.box b _ r (vI hcs) iG
    have cY:bA (.bZ (zt C hp w)) r (cs.length / len) (nc (cs.length / len) len (cs.map (·.1))) 0:=by
     refine RZ c2 (by rw[Vw];exact c1.symm) (fun x M=>?_) fun j x M=>?_
     .obtain⟨c,hc,rfl⟩:=Eal.1 M;have:=Hs.1 c3 c hc
      cases hq:c.1<;>rw[hq]at this<;>first|rfl|cases this
     .rw[J5,G1]at M;obtain⟨c,hc,rfl⟩:=M;obtain⟨u,q1,q2,q3,_⟩:=k3 j c hc
      have ec:w.cell? ⟨r,0+j,G0⟩=Eb u:=by
       unfold World.cell?;rw[k1];simp only[Rj,Hp,if_false,Um];exact q1
      exact⟨u,RW iG ec q2,HP (Hs.1 c3 c (Hx hc)) q3⟩
    have:=aJ.list (C:=.bZ (zt C hp w)) (cs.length / len) (nc (cs.length / len) len (cs.map (·.1))) r 0 cap (by rw[HF];exact hle) cY;rw[HF]at this;exact this
  .cases hf
 .cases hf;exact RX m h hb
theorem Y2 (m:aA P C ω w0 C0 hp w):∀ {xs fU:List AVal} {vs:List Value},xq hp xs=Eb fU->bf C xs vs->qt 0 fU=En->bf (.bZ (zt C hp w)) fU vs
 | [],fU,vs,hf,h,_=>by
  simp only[xq,Eb.injEq]at hf;subst hf;cases h;exact .nil
 |x::xs,fU,vs,hf,h,hb=>by
  simp only[xq]at hf;split at hf
  .rename_i y ys Y I;cases hf
   cases h with
   |cons _ _ v vs M h=>
    simp only[qt,Eg]at hb;exact .cons _ _ _ _ (jej m Y M hb.1) (Y2 m I h hb.2)
  .cases hf
theorem Y3 {C C' x v}(hp:xr x=En)(h:bS C x v):bS C' x v:=by
 cases x with
 |agg cs=>
  obtain⟨vs,rfl,hl⟩:=h.eH;refine .agg _ _ ?_;simp only[xr]at hp;clear h
  induction cs generalizing vs with
  |nil=>cases hl;exact .nil
  |cons c cs ih=>
   cases hl with
   |cons _ _ v vs M hl=>
    simp only[Va,Eg]at hp;exact .cons _ _ _ _ (HP hp.1 M) (ih hp.2 vs hl)
 |_=>exact HP hp h
theorem jl5 {C C' x v}(h:bS C x v):bS C' (EE x) v:=by
 unfold EE
 cases hp:xr x with
 |true=>exact Y3 hp h|false=>exact .any _
theorem Y4 {C C'}:∀ {xs:List AVal} {vs:List Value},bf C xs vs->bf C' (xs.map EE) vs
 | [],_,h=>by cases h;exact .nil
 |x::xs,_,h=>by
  cases h with
  |cons _ _ v vs M h=>exact .cons _ _ _ _ (jl5 M) (Y4 h)
open Classical in
include m e in
theorem jkn {v v' ow HS u K'}(M:Ext w w')(hle:∀r o x,zt C hp w r o=Eb x->K' r o=Eb x)(hK:∀r o,r<w.heap.size->K' r o=zt C hp w r o)(hk:∀r o x,K' r o=Eb x->w'.cell? ⟨r,o,G0⟩=Eb x)(Y:∀r o x,K' r o=Eb x->x.oneCell'=En)
  (Q:bS (.bZ K') v u) (ho:ow=En->∃ℓ ω',aS (.bZ K') ω' w' w.heap.size ℓ v u) (ht:LH v ow=Eb (v',HS)):zo P C0 w0 C tmps d env ⟨v',HS,G0,hp⟩ u w':=by
 let K2:Nat->Nat->Option Value:=fun r o=>if Hid C hp r then G0 else K' r o
 have HR:∀ {r o x},K2 r o=Eb x->K' r o=Eb x:=by
  intro r o x h;simp only[K2]at h;split at h
  .cases h
  .exact h
 have jE:∀r o x,C.K r o=Eb x->K2 r o=Eb x:=by
  intro r o x h
  have hn:¬Hid C hp r:=by
   intro hh;rw[RV m hh o]at h;cases h
  simp only[K2,if_neg hn];exact hle r o x (HE m h)
 have R9:∀r o,r<w.heap.size->K2 r o=C.K r o:=by
  intro r o bh;by_cases hb:Hid C hp r
  .simp only[K2,if_pos hb];exact(RV m hb o).symm
  .simp only[K2,if_neg hb];rw[hK r o bh];unfold zt;rw[if_neg hb]
 have fin:∀(kA:lV v'=En) (jV:bS (.bZ K2) v' u) (xK:HS=En->∃ℓ ω',aS (.bZ K2) ω' w' w.heap.size ℓ v' u),zo P C0 w0 C tmps d env ⟨v',HS,G0,hp⟩ u w':=fun kA jV xK=>
  Y0 m e M jE R9 (fun r o x h=>hk r o x (HR h)) (fun r o x h=>Y r o x (HR h)) kA jV xK
 have hM:∀y,oB y=En->Abs.below 0 y=En:=fun y hy=>by cases y<;>first|rfl|cases hy
 have sg:∀ys:List AVal,ys.all oB=En->qt 0 ys=En:=by
  intro ys
  induction ys with
  |nil=>intro _;rfl
  |cons y ys ih=>
   intro h;simp only[Va,Eg]at h;simp only[qt,Eg];exact⟨hM y h.1,ih h.2⟩
 have oN:∀y,xr y=En->Abs.below 0 y=En:=fun y hy=>by
  cases y with
  |agg cs=>simp only[Abs.below];exact sg cs hy|_=>exact hM _ hy
 unfold LH at ht;split at ht
 .rename_i sz xs
  cases hb:(xs.flatMap AVal.flat).all oB with
  |false=>rw[hb]at ht;cases ht
  |true=>
   rw[hb]at ht;simp only[cond_true,Eb.injEq,Oz.injEq]at ht;obtain⟨rfl,rfl⟩:=ht;obtain⟨ℓ,ω',ho⟩:=ho rfl
   cases Q with
   |jA sz a l0=>
    simp only[aS]at ho;exact absurd ho.2.2.2.1 l0
   |list sz _ q o cap hl cY=>
    simp only[aS]at ho;obtain⟨o1,o2,o3,o4,o5,o6,o8⟩:=ho;have hq:w.heap.size<=q:=o2.resolve_right (fun h=>h)
    have EX:¬Hid C hp q:=by
     intro hh;have:=ju0 m hh;omega
    have Y5:∀o,K2 q o=K' q o:=fun o=>by simp only[K2,if_neg EX]
    have hcells:=bA.cells cY
    have rT:bA (.bZ K2) q sz xs o:=by
     refine bA.eY (RY fun j x M=>?_) (bA.sized cY);obtain⟨u,hu,hxu⟩:=cB.get hcells M;exact⟨u,by rw[show(aM.bZ K2).K=K2 from rfl,Y5];exact hu,HP (Hs.1 hb x (Hx M)) hxu⟩
    refine fin ?_ (.list sz _ q o cap hl rT) fun _=>⟨ℓ,ω',?_⟩
    .show lV _=En;unfold lV
     have jB:∀ys:List AVal,(ys.flatMap AVal.flat).all oB=En->qt 0 ys=En:=by
      intro ys
      induction ys with
      |nil=>intro _;rfl
      |cons y ys ih=>
       intro h;rw[Yw,List.all_append,Eg]at h;simp only[qt,Eg];exact⟨by rw[<-LP];exact sg _ h.1,ih h.2⟩
     simp only[Abs.below];exact jB xs hb
    .simp only[aS];exact⟨o1,o2,o3,o4,o5,o6,fun o' xK=>by rw[show(aM.bZ K2).K=K2 from rfl,Y5];exact o8 o' xK⟩
 .simp only[Eb.injEq,Oz.injEq]at ht;obtain⟨rfl,rfl⟩:=ht;refine fin rfl ?_ (fun h=>by cases h);cases Q;exact .iZ _
 .rename_i vs _;simp only[Eb.injEq,Oz.injEq]at ht;obtain⟨rfl,rfl⟩:=ht;obtain⟨us,rfl,hl⟩:=Q.oH;refine fin ?_ (.bq _ _ (Y4 hl)) (fun h=>by cases h);show Abs.below 0 _=En;simp only[Abs.below]
  have:∀ys:List AVal,qt 0 (ys.map EE)=En:=by
   intro ys
   induction ys with
   |nil=>rfl
   |cons y ys ih=>
    simp only[Vb,qt,Eg];refine⟨?_,ih⟩;unfold EE
    cases hp:xr y with
    |true=>exact oN y hp|false=>rfl
  exact this _
 .cases hb:xr v with
  |false=>rw[hb]at ht;cases ht
  |true=>
   rw[hb]at ht;simp only[cond_true,Eb.injEq,Oz.injEq]at ht;obtain⟨rfl,rfl⟩:=ht;exact fin (oN v hb) (Y3 hb Q) (fun h=>by cases h)
def aM.shared (C:aM)(ω:Nat->Option Loc)(w0:World):aM:={ C with W:=fun r=>(∃b j,ω r=Eb (.cell b j))/\(w0.heap.size<=r\/C.W r) }
def si (ω:Nat->Option Loc):Nat->Option Loc:=fun r=>match ω r with
 |some (.cell b j)=>Eb (.cell b j)|_=>G0
theorem aS.shared {b j x v}(ho:aS C ω w w0.heap.size (.cell b j) x v):aS (C.shared ω w0) (si ω) w w.heap.size (.cell b j) x v:=by
 unfold aS at *;split at ho
 .obtain⟨g1,g2,g3⟩:=ho;exact⟨by simp[si,g1],.inr ⟨⟨b,j,g1⟩,g2⟩,g3⟩
 .obtain⟨g1,g2,g3⟩:=ho;exact⟨by simp[si,g1],.inr ⟨⟨b,j,g1⟩,g2⟩,g3⟩
 .trivial
theorem Sb (m:aA P C ω w0 C0 hp w):aA P (C.shared ω w0) (si ω) w (C.shared ω w0) hp w where
 base:=⟨m.tabs,fun g hg=>by
  obtain⟨Y,I⟩:=m.base.2 g hg;have bh:=(m.base.1 g hg).1;refine⟨fun b hb=>?_,fun h=>?_⟩
  ·rcases m.fresh b g hb with h|h|h
   ·exact Y b h
   ·omega
   ·exact I h
  ·rcases h.2 with h|h
   ·omega
   ·rw[m.grown.w]at h;exact I h⟩
 know:=m.know
 dj:=m.dj
 apart:=m.apart
 inj:=m.inj
 lt:=m.lt
 size:=U6 _
 frame _ _ _ _:=rfl
 fA:=m.fA
 os:=rfl
 output:=rfl
 fresh _ _ h:=.inl h
 grown:=aM.le_refl _
 old _ _ _ _:=rfl
 box b x r M hb:=bM.imp (C:=C) (C':=C.shared ω w0) ⟨fun _ _ _ h=>h,fun _ _ h=>h⟩ rfl (fun _ _ _ ho=>ho.shared) (m.box b x r M hb)
 iD:=m.iD
def nT (ω ω1:Nat->Option Loc)(n:Nat):Nat->Option Loc:=fun r=>match decide (r<n),ω r with
 |true,Eb (.slot s)=>Eb (.slot s)|_,_=>si ω1 r
def aM.back (C1 C:aM):aM:={ C1 with W:=C.W }
theorem Mj (hle:(C.shared ω w0).le C1):C.le (C1.back C):=⟨hle.k,hle.b,rfl,hle.d,hle.t⟩
theorem aS.sj {s x v}(m1:aA P C1 ω1 w (C.shared ω w0) Y w')(ho:aS C ω w w0.heap.size (.slot s) x v):aS (C1.back C) (nT ω ω1 w.heap.size) w' w0.heap.size (.slot s) x v:=by
 unfold aS at *;split at ho
 .rename_i ad len cap;obtain⟨g1,g2,g3,g4,g8,⟨cells,elem,g5,g6⟩,g7⟩:=ho;have bh:=(G4.1 g5).1
  have AK:¬(C.shared ω w0).W ad.block:=fun h=>by
   obtain⟨⟨b,j,h⟩,_⟩:=h;rw[g1]at h;cases h
  refine⟨by simp[nT,bh,g1],g2,fun b hb=>?_,g4,g8,⟨cells,elem,?_,g6⟩,fun o ho=>?_⟩
  .rcases m1.fresh b _ hb with h|h|h
   .exact g3 b h
   .omega
   .exact AK h
  .rw[m1.frame _ bh g3 AK];exact g5
  .have:=m1.old _ o bh AK;show C1.K _ o=G0;rw[this];exact g7 o ho
 .rename_i ad;obtain⟨g1,g2,g3,g4,g8,⟨cells,elem,g5,g6⟩,g7⟩:=ho;have bh:=(G4.1 g5).1
  have AK:¬(C.shared ω w0).W ad.block:=fun h=>by
   obtain⟨⟨b,j,h⟩,_⟩:=h;rw[g1]at h;cases h
  refine⟨by simp[nT,bh,g1],g2,fun b hb=>?_,g4,g8,⟨cells,elem,?_,g6⟩,fun o ho=>?_⟩
  .rcases m1.fresh b _ hb with h|h|h
   .exact g3 b h
   .omega
   .exact AK h
  .rw[m1.frame _ bh g3 AK];exact g5
  .have:=m1.old _ o bh AK;show C1.K _ o=G0;rw[this];exact g7 o ho
 .trivial
theorem aS.sk {b j x v}(m:aA P C ω w0 C0 hp w)(hW:C1.W=(C.shared ω w0).W)(ho:aS C1 ω1 w' w.heap.size (.cell b j) x v):aS (C1.back C) (nT ω ω1 w.heap.size) w' w0.heap.size (.cell b j) x v:=by
 unfold aS at *;split at ho
 .rename_i ad len cap;obtain⟨g1,g2,g3⟩:=ho;rw[hW]at g2;refine⟨?_,?_,g3⟩
  .unfold nT;split
   .rename_i s bh G;have bh:=of_decide_eq_true bh;rcases g2 with g2|⟨⟨b',j',g2⟩,_⟩
    .omega
    .rw[G]at g2;cases g2
   .simp[si,g1]
  .rcases g2 with g2|⟨_,g2⟩
   .exact .inl (H0 m.size g2)
   .exact g2
 .rename_i ad;obtain⟨g1,g2,g3⟩:=ho;rw[hW]at g2;refine⟨?_,?_,g3⟩
  .unfold nT;split
   .rename_i s bh G;have bh:=of_decide_eq_true bh;rcases g2 with g2|⟨⟨b',j',g2⟩,_⟩
    .omega
    .rw[G]at g2;cases g2
   .simp[si,g1]
  .rcases g2 with g2|⟨_,g2⟩
   .exact .inl (H0 m.size g2)
   .exact g2
 .trivial
include m e in
theorem Y6 (m1:aA P C1 ω1 w (C.shared ω w0) Y w')(hle:(C.shared ω w0).le C1):
  aA P (C1.back C) (nT ω ω1 w.heap.size) w0 C0 Y w'/\ar (C1.back C) (nT ω ω1 w.heap.size) w' w0.heap.size env tmps:=by
 have hsh:∀r,r<w0.heap.size->¬C0.W r->¬(C.shared ω w0).W r:=fun r Q hw h=>by
  rcases h.2 with h|h
  .omega
  .rw[m.grown.w]at h;exact hw h
 constructor
 .refine { base:=m.base,know:=m1.know,dj:=m1.dj,apart:=m1.apart,inj:=m1.inj,lt:=m1.lt,size:=H0 m.size m1.size,frame:=?_,fA:=m1.fA,os:=m1.os.trans m.os,output:=m1.output.trans m.output,fresh:=?_,grown:=aM.le_trans m.grown (Mj hle),old:=?_,box:=?_,iD:=m1.iD }
  .intro r Q hn hw
   have jD:∀b,C.β b≠Eb r:=fun b hb=>by
    rcases m.fresh b r hb with h|h|h
    .exact hn b h
    .omega
    .exact hw h
   rw[m1.frame r (Rm Q m.size) jD (hsh r Q hw)];exact m.frame r Q hn hw
  .intro b r hb;rcases m1.fresh b r hb with h|h|h
   .exact m.fresh b r h
   .exact .inr (.inl (H0 m.size h))
   .exact .inr (h.2.imp id (fun h=>by rw[<-m.grown.w];exact h))
  .intro r o Q hw;show C1.K r o=_;rw[m1.old r o (Rm Q m.size) (hsh r Q hw)];exact m.old r o Q hw
  .intro b x r M hb;exact bM.imp (C:=C1) (C':=C1.back C) ⟨fun _ _ _ h=>h,fun _ _ h=>h⟩ rfl (fun _ _ _ ho=>ho.sk m hle.w) (m1.box b x r M hb)
 .exact fun s x G=>let ⟨v,k1,k2,k3⟩:=e s x G; ⟨v,k1,aJ.mono (Mj hle) k2,fun h=>(k3 h).sj m1⟩
theorem bS.back {x v}(h:bS C1 x v):bS (C1.back C) x v:=aJ.imp (C:=C1) (C':=C1.back C) ⟨fun _ _ _ h=>h,fun _ _ h=>h⟩ h
include m e in
theorem Y7 (m1:aA P C1 ω1 w (C.shared ω w0) Y w')(hle:(C.shared ω w0).le C1){v ow u}(Q:bS C1 v u)(ho:ow=En->aS C1 ω1 w' w.heap.size (.slot 0) v u):
  zo P C0 w0 C tmps d env ⟨v,ow,G0,qp hp.length v Y⟩ u w':=by
 have hC:∀b r,C.β b=Eb r->b<hp.length:=fun b r h=>(m.lt b r h).2;have cV:=Mj hle;have jV:bS (C1.back C) v u:=Q.back
 -- the result's ownership first
 have step:∃ω',aA P (C1.back C) ω' w0 C0 Y w'/\ar (C1.back C) ω' w' w0.heap.size env tmps/\(ow=En->aS (C1.back C) ω' w' w0.heap.size d v u):=by
  obtain⟨m2,e2⟩:=Y6 m e m1 hle
  cases ow with
  |false=>exact⟨_,m2,e2,by simp⟩
  |true=>
   by_cases hk:∃(n:Bool) (sz:Nat) (xs:List AVal) (ad:Addr) (len cap:Nat),v=.list n sz xs/\u=.slice (Eb ad) len cap
   .obtain⟨n,sz,xs,ad,len,cap,rfl,rfl⟩:=hk;obtain⟨g1,g2,g3,g4⟩:=ho rfl;rw[hle.w]at g2
    have iO:nT ω ω1 w.heap.size ad.block=G0:=by
     unfold nT;split
     .rename_i s bh G;have bh:=of_decide_eq_true bh;rcases g2 with g2|⟨⟨b',j',g2⟩,_⟩
      .omega
      .rw[G]at g2;cases g2
     .simp[si,g1]
    refine⟨cN (nT ω ω1 w.heap.size) ad.block d,m2.cN _ _ (by simp[iO]),?_,fun _=>?_⟩
    .exact fun s x G=>let ⟨v,k1,k2,k3⟩:=e2 s x G; ⟨v,k1,k2,fun h=>(k3 h).other (.inl (by simp[iO]))⟩
    .refine⟨by simp[cN],?_,g3,g4⟩;rcases g2 with g2|⟨_,g2⟩
     .exact .inl (H0 m.size g2)
     .exact g2
   by_cases dx:∃(n:Nat) (ad:Addr),v=.dG n/\u=.pointer (Eb ad)
   .obtain⟨n,ad,rfl,rfl⟩:=dx;obtain⟨g1,g2,g3,g4⟩:=ho rfl;rw[hle.w]at g2
    have iO:nT ω ω1 w.heap.size ad.block=G0:=by
     unfold nT;split
     .rename_i s bh G;have bh:=of_decide_eq_true bh;rcases g2 with g2|⟨⟨b',j',g2⟩,_⟩
      .omega
      .rw[G]at g2;cases g2
     .simp[si,g1]
    refine⟨cN (nT ω ω1 w.heap.size) ad.block d,m2.cN _ _ (by simp[iO]),?_,fun _=>?_⟩
    .exact fun s x G=>let ⟨v,k1,k2,k3⟩:=e2 s x G; ⟨v,k1,k2,fun h=>(k3 h).other (.inl (by simp[iO]))⟩
    .refine⟨by simp[cN],?_,g3,g4⟩;rcases g2 with g2|⟨_,g2⟩
     .exact .inl (H0 m.size g2)
     .exact g2
   .refine⟨_,m2,e2,fun h=>?_⟩;unfold aS;split
    .exact absurd ⟨_,_,_,_,_,_,rfl,rfl⟩ hk
    .exact absurd ⟨_,_,rfl,rfl⟩ dx
    .trivial
 obtain⟨ω',m2,e2,o2⟩:=step;unfold qp
 cases hb:Hr Y.length hp.length with
 |true=>simp only[cond_true];exact⟨_,ω',cV,m2,e2,jV,o2⟩
 |false=>
  simp only[cond_false]
  cases nh:(below hp.length v&&qr hp.length (Y.take hp.length))with
  |false=>simp only[cond_false];exact⟨_,ω',cV,m2,e2,jV,o2⟩
  |true=>
   simp only[cond_true];simp only[Eg]at nh
   have bh:hp.length<=Y.length:=by
    rcases Nat.lt_or_ge hp.length Y.length with h|h
    .omega
    .rw[V9 h]at hb;cases hb
   have h0:∀b r,C0.β b=Eb r->b<hp.length:=fun b r h=>hC b r (m.grown.2 b r h);have m3:=m2.gc bh nh.2 h0;refine⟨(C1.back C).cut hp.length,ω',aM.iN cV hC,m3,?_,bS.cut jV nh.1,fun h=>(o2 h).cut _⟩;intro s x G;obtain⟨y,k1,k2,k3⟩:=e s x G;obtain⟨y',j1,j2,j3⟩:=e2 s x G;rw[k1]at j1;cases j1;exact⟨y,k1,aJ.mono (aM.iN cV hC) k2,fun h=>(j3 h).cut _⟩
theorem bw.fF {e}(h:bw C e tmps):ar C ω w B (fF e) tmps:=by
 intro s x M
 have key:∀ {e:Env} {x:AVal×Bool},jm s (Abs.fF e)=Eb x->∃o,jm s e=Eb (x.1,o)/\x.2=Hd:=by
  intro e
  induction e with
  |nil=>intro x h;simp[Abs.fF,jm]at h
  |cons y e ih=>
   intro x h;obtain⟨t,v,o⟩:=y;simp only[Abs.fF,Vb,jm]at h ⊢
   cases hb:Hf t s with
   |true=>simp only[hb,cond_true,Eb.injEq]at h ⊢;subst h;exact⟨o,rfl,rfl⟩|false=>simp only[hb,cond_false]at h ⊢;exact ih h
 obtain⟨o,Y,I⟩:=key M;obtain⟨v,h3,h4⟩:=h s _ Y;exact⟨v,h3,h4,by simp[I]⟩
theorem Y8:∀ {ts:List Nat} {vs:List AVal} {us:List Value} {e e':Env} {tmps:Array Value},vz e ts vs=Eb e'->bf C vs us->(∀t∈ts,t<tmps.size)->ar C ω w B e tmps ->
  ts.length=us.length/\((ts.zip us).foldl (fun(tmps:Array Value) (x:Nat×Value)=>tmps.setIfInBounds x.1 x.2) tmps).size=tmps.size/\ar C ω w B e' ((ts.zip us).foldl (fun(tmps:Array Value) (x:Nat×Value)=>tmps.setIfInBounds x.1 x.2) tmps)
 | [],[],us,e,e',tmps,h,Q,_,he=>by
  simp only[vz,Eb.injEq]at h;subst h;cases Q;exact⟨rfl,rfl,he⟩
 |t::ts,v::vs,us,e,e',tmps,h,Q,hf,he=>by
  simp only[vz]at h
  cases Q with
  |cons _ _ u us hu Q=>
   have Ml:ar C ω w B ((t,v,Hd)::e) (tmps.setIfInBounds t u):=by
    intro s x M;simp only[jm]at M
    cases hb:Hf t s with
    |true=>
     have:=Eh hb;subst this;simp only[hb,cond_true,Eb.injEq]at M;subst M;exact⟨u,by simp[hf t (by simp)],hu,by simp⟩
    |false=>
     simp only[hb,cond_false]at M;obtain⟨y,Y,I,h3⟩:=he s x M;refine⟨y,?_,I,h3⟩;rw[Q0 (fun hh=>by subst hh;simp at hb)];exact Y
   have ih:=Y8 h Q (tmps:=tmps.setIfInBounds t u) (fun t' G8=>by simpa using hf t' (by simp[G8])) Ml;refine⟨by simp[ih.1],?_,?_⟩
   .simp only[Xp,Eah];rw[ih.2.1];simp
   .simp only[Xp,Eah];exact ih.2.2
 | [],_::_,_,_,_,_,h,_,_,_=>by simp[vz]at h
 |_::_,[],_,_,_,_,h,_,_,_=>by simp[vz]at h
theorem Mm {b r l}(m:aA P C ω w0 C0 hp w)(hb:zi hp b=Eb (.loop l))(Q:C.β b=Eb r):∃lp,w.heap[r]?=Eb (.loop lp)/\cE P C l lp:=
 m.box b _ r hb Q
theorem HT {b r l' lp AL}(m:aA P C ω w0 C0 hp w)(Q:C.β b=Eb r)(hg:w.heap[r]?=Eb (.loop lp))(hl:cE P C l' AL):
  (setObj r (.loop AL)).run P w=.ok () (kg w r (.loop AL))/\nQ w (kg w r (.loop AL)) r/\aA P C ω w0 C0 (hp.set b (.loop l')) (kg w r (.loop AL)):=by
 have bh:=(G4.1 hg).1;have hu:nQ w (kg w r (.loop AL)) r:=ES bh (by simp);exact⟨xI hg (by simp),hu,m.dV hu Q _ (fun _ _ _ _ _ h=>h) ⟨AL,Ht bh,hl⟩⟩
theorem jh9 (M:cL P xc)(m:aA P C ω w0 C0 hp w)(e:ar C ω w w0.heap.size env tmps){b r}(Q:C.β b=Eb r){args us}(ha:bf C args us){v h'}(hy:kQ xc b args hp=Eb (v,h')):
  ∃f oO assign body,(Instr.yield r ⟨us⟩).run P w=.ok (.round r f oO assign body) w/\RoundIn Fence.wide 0 P r f oO assign body w fun ee w'=>∃u,ee=.returned u/\zo P C0 w0 C tmps d env ⟨v,Hd,G0,h'⟩ u w':=by
 unfold kQ at hy;split at hy
 .rename_i l hl;split at hy
  .rename_i e0 Y9 bK;obtain⟨lp,hg,lr⟩:=Mm m hl Q;have ms:=Sb m;have gY:bf (C.shared ω w0) args us:=aJ.imp (C:=C) (C':=C.shared ω w0) ⟨fun _ _ _ h=>h,fun _ _ h=>h⟩ ha;have hel:ar (C.shared ω w0) (si ω) w w.heap.size (fF l.env) lp.tmps:=bw.fF (fun s x G=>let ⟨v,Y,I⟩:=lr.env s x G; ⟨v,Y,aJ.imp (C:=C) (C':=C.shared ω w0) ⟨fun _ _ _ h=>h,fun _ _ h=>h⟩ I⟩);obtain⟨hlen,da,he0⟩:=Y8 bK gY lr.fits hel
   have rP:(lp.params.zip (⟨us⟩:Array Value)).foldl (fun(tmps:Array Value) (x:Nat×Value)=>tmps.setIfInBounds x.1 x.2) lp.tmps=(l.params.zip us).foldl (fun(tmps:Array Value) (x:Nat×Value)=>tmps.setIfInBounds x.1 x.2) lp.tmps:=by
    rw[<-Array.foldl_toList,Array.toList_zip,lr.params]
   have Sc:lp.params.size=us.length:=by rw[<-Xm,lr.params];exact hlen
   refine⟨lp.fn,(l.params.zip us).foldl (fun(tmps:Array Value) (x:Nat×Value)=>tmps.setIfInBounds x.1 x.2) lp.tmps,lp.assign,lp.body,?_,?_⟩
   .have AO:(Instr.getLoop r).run P w=.ok lp w:=by simp[Instr.getLoop,qI hg (by simp)]
    have bI:¬((⟨us⟩:Array Value).size≠lp.params.size):=by simp[Sc]
    simp only[Instr.yield,Sem.run_bind,AO,Result.andThen_ok,bI,if_false,Sem.run_pure,Sem.run_ite];rw[show((lp.params.zip (⟨us⟩:Array Value)).foldl (fun tmps (x:Nat×Value)=>match x with|(t,a)=>tmps.setIfInBounds t a) lp.tmps)=_ from rP]
   .refine roundIn_of_wpIn trivial ?_;split at hy
    .rename_i st cq;split at hy
     .rename_i l1 eh
      cases jY:l1.pending.isNone with
      |false=>simp[jY]at hy
      |true=>
       simp only[jY,cond_true]at hy
       have HU:l1.pending=G0:=by simpa using jY
       split at hy
       .rename_i x bN iw;split at hy
        .rename_i l2 en;cases hy;refine wpIn_mono (M (Eb r) lp.tmps.size lp.assign l.assign _ _ _ lr.assign (fun _=>lr.nr.1) cq (C.shared ω w0) (si ω) w (C.shared ω w0) { tmps:=_,defers:=[] } w ms he0 da Marks.nil) ?_;rintro ee J w1 ⟨rfl,q1,C1,ω1,q2,q3,q4,q5⟩;have iH:=q2.b b r Q;obtain⟨Mn,Za,Sd⟩:=Mm q4 eh iH
         have xL:Mn.state=.ready:=by rw[Sd.state,HU]
         have Se:cE P C1 { l1 with pending:=Eb .normal } { Mn with state:=.busy }:={ Sd with state:=rfl,pending:=by rw[Sd.pending,HU] };obtain⟨HW,Ho,m1⟩:=HT q4 iH Za Se
         have iG:(Instr.beginRound r).run P w1=.ok () (kg w1 r (.loop { Mn with state:=.busy })):=by
          have AO:(Instr.getLoop r).run P w1=.ok Mn w1:=by simp[Instr.getLoop,qI Za (by simp)]
          simp only[Instr.beginRound,Sem.run_bind,AO,Result.andThen_ok,HW,xL,Sem.run_pure]
         refine⟨_,iG,?_⟩;refine wpIn_mono (M (Eb r) lp.tmps.size lp.body l.body _ _ _ lr.body (fun _=>lr.nr.2) iw C1 ω1 w (C.shared ω w0) J _ m1 (q5.dK Ho iH) q1 q3) ?_;rintro ee a2 w2 ⟨rfl,p1,C2,ω2,p2,p3,p4,p5⟩;have sn:=p2.b b r iH;obtain⟨mr,su,uh⟩:=Mm p4 en sn
         have AP:(Instr.getLoop r).run P w2=.ok mr w2:=by simp[Instr.getLoop,qI su (by simp)]
         have fin:∀(Sf:LoopState) (pd:Option Code) (ap:Option jc) (bb:Bool),cE P C2 { l2 with pending:=ap } { mr with state:=Sf,pending:=pd } ->
           zo P C0 w0 C tmps d env ⟨.bool bb,Hd,G0,qp hp.length (.bool En) (bN.heap.set b (.loop { l2 with pending:=ap }))⟩ (.bool bb) (kg w2 r (.loop { mr with state:=Sf,pending:=pd })):=by
          intro Sf pd ap bb ui;obtain⟨kB,hu2,m2⟩:=HT p4 sn su ui;have:=Y7 (d:=d) (v:=.bool bb) (ow:=false) (u:=.bool bb) m e m2 (aM.le_trans q2 p2) (.bool bb) (by simp);exact this
         cases x with
         |normal=>
          have ui:cE P C2 { l2 with pending:=G0 } { mr with state:=.ready,pending:=G0 }:={ uh with state:=rfl,pending:=rfl };obtain⟨kB,_,_⟩:=HT p4 sn su ui;exact⟨.bool En,_,by simp only[Instr.endRound,Sem.run_bind,AP,Result.andThen_ok,Option.isNone_none,if_true,kB,Sem.run_pure],_,rfl,fin _ _ _ En ui⟩
         |ret=>
          have ui:cE P C2 { l2 with pending:=Eb .ret } { mr with state:=.done,pending:=Eb .ret }:={ uh with state:=rfl,pending:=rfl };obtain⟨kB,_,_⟩:=HT p4 sn su ui;exact⟨.bool Hd,_,by simp only[Instr.endRound,Sem.run_bind,AP,Result.andThen_ok,Xv,Hp,if_false,kB,Sem.run_pure],_,rfl,fin _ _ _ Hd ui⟩
         |exit id=>
          have ui:cE P C2 { l2 with pending:=Eb (.exit id) } { mr with state:=.done,pending:=Eb (.exit id) }:={ uh with state:=rfl,pending:=rfl };obtain⟨kB,_,_⟩:=HT p4 sn su ui;exact⟨.bool Hd,_,by simp only[Instr.endRound,Sem.run_bind,AP,Result.andThen_ok,Xv,Hp,if_false,kB,Sem.run_pure],_,rfl,fin _ _ _ Hd ui⟩
        .cases hy
       .cases hy
     .cases hy
    .cases hy
  .cases hy
 .cases hy
theorem ji1 {h md r h0 dst al cM res}(eQ:ct P p)(M:cL P xc)(m:aA P C ω w0 C0 hp w)(e:ar C ω w w0.heap.size env a.tmps){c}(ho:o.op=.call c){f}(pw:c.callee=.value f)
  (hc:Af P h md r dst c=Eb cM) (G:qg p xc h0 al env hp cM=Eb res):yg P C C0 w0 a d env o w res:=by
 unfold Af at hc;rw[pw]at hc;simp only[]at hc;split at hc
 .rename_i f' args' Y I;cases hc;generalize md.at r=md at G;simp only[qg,yd]at G;split at G
  .rename_i k first captured vs e1 e2
   have xM:=qx e.cu Y e1;have Sg:=EL e.cu I e2;generalize dY:a.eval f=fv at xM
   cases xM with
   |fn g g' _ _ as bs hf ha hb=>
    simp only[fJ]at hf;subst hf;have hall:bf C (first++vs++captured) (as++c.args.toList.map a.eval++bs):=bf.append (bf.append ha Sg) hb
    have iP:Enters P k->(execOp a.eval o).run P w=.ok (.enter k ⟨as++c.args.toList.map a.eval++bs⟩) w:=by
     intro mg
     have ez:(⟨as⟩:Array Value)++Array.map a.eval c.args++(⟨bs⟩:Array Value)=⟨as++c.args.toList.map a.eval++bs⟩:=by
      apply L6;simp
     simp[execOp,ho,resolve,pw,dY,Deferred.ofValue,invoke,ez,YV mg]
    cases md with
    |ft rk=>
     simp only[]at G
     cases tX:(first++vs++captured).isEmpty with
     |false=>
      rw[tX]at G;simp only[cond_false]at G
      cases lM:qt 0 (first++vs++captured)with
      |false=>rw[lM]at G;cases G
      |true=>
       rw[lM]at G;simp only[cond_true]at G;split at G
       .rename_i v ow vM;obtain⟨mg,kA,sw⟩:=Mg eQ M vM lM
        have mA:bf (.bZ C.K) (first++vs++captured) (as++c.args.toList.map a.eval++bs):=
         aJ.shift (C:=C) (C':=.bZ C.K) 0 (fun _ _ _ h=>h) (fun b r bh=>by omega) hall lM
        refine .inr (.inr (.inl ⟨k,_,iP mg,CallsIn.mono (sw C.K w _ m.tabs m.know m.dj mA) ?_⟩));rintro ee w' ⟨u,K',rfl,q1,q2,q3,q4,q5,q6,q7⟩;exact⟨u,rfl,je4 m e q1 q2 q3 q4 q5 q6 q7 G⟩
       .cases G
     |true=>
      rw[tX]at G;simp only[cond_true]at G;split at G
      .rename_i es hm;split at G
       .rename_i h' hn;obtain rfl:=q9 G;obtain⟨hh,rfl⟩:=yz hn;obtain⟨mg,l6⟩:=eQ.maps k es hm
        have iL:as++c.args.toList.map a.eval++bs=[]:=by
         have Y:first++vs++captured=[]:=Vj.1 tX
         have I:=hall.length;rw[Y]at I;exact List.eq_nil_of_length_eq_zero I
        refine .inr (.inr (.inl ⟨k,_,iP mg,?_⟩));rw[iL];refine CallsIn.mono (l6 C.K w m.tabs m.know m.dj) ?_;rintro ee w' ⟨q,K',cj,clock,rfl,q1,q2,q3,q4,q5,q6,q7,q8⟩;exact⟨_,rfl,jmb m e q1 q2 q3 q4 q5 hh q6 q7 q8⟩
       .cases G
      .cases G
    |bZ=>
     simp only[]at G
     cases tX:qt 0 (first++vs++captured)with
     |false=>rw[tX]at G;cases G
     |true=>
      rw[tX]at G;simp only[cond_true]at G;split at G
      .rename_i v ow vM;cases G;obtain⟨mg,kA,sw⟩:=Mg eQ M vM tX
       have mA:bf (.bZ C.K) (first++vs++captured) (as++c.args.toList.map a.eval++bs):=
        aJ.shift (C:=C) (C':=.bZ C.K) 0 (fun _ _ _ h=>h) (fun b r bh=>by omega) hall tX
       refine .inr (.inr (.inl ⟨k,_,iP mg,CallsIn.mono (sw C.K w _ m.tabs m.know m.dj mA) ?_⟩));rintro ee w' ⟨u,K',rfl,q1,q2,q3,q4,q5,q6,q7⟩;exact⟨u,rfl,Y0 m e q1 q2 q3 q4 q5 kA q6 q7⟩
      .cases G
    |red=>
     simp only[]at G;split at G
     .rename_i xs EW
      cases lM:qt 0 xs with
      |false=>rw[lM]at G;cases G
      |true=>
       rw[lM]at G;simp only[cond_true]at G;split at G
       .rename_i v ow vM;split at G
        .rename_i v' HS hrd;cases G;obtain⟨mg,kA,sw⟩:=Mg eQ M vM lM;refine .inr (.inr (.inl ⟨k,_,iP mg,CallsIn.mono (sw (zt C hp w) w _ m.tabs (fun r o u h=>(Md m h).1) (fun r o u h=>(Md m h).2) (Y2 m EW hall lM)) ?_⟩));rintro ee w' ⟨u,K',rfl,q1,q2,q3,q4,q5,q6,q7⟩;exact⟨u,rfl,jkn m e q1 q2 q3 q4 q5 q6 q7 hrd⟩
        .cases G
       .cases G
     .cases G
    |shr=>
     simp only[]at G;split at G
     .rename_i v ow h' HK;cases G
      .obtain⟨mg,nS⟩:=Mf eQ M HK;have mA:bf (C.shared ω w0) (first++vs++captured) (as++c.args.toList.map a.eval++bs):=aJ.imp (C:=C) (C':=C.shared ω w0) ⟨fun _ _ _ h=>h,fun _ _ h=>h⟩ hall;refine .inr (.inr (.inl ⟨k,_,iP mg,CallsIn.mono (nS _ _ _ _ mA (Sb m)) ?_⟩));rintro ee w' ⟨u,C',ω',rfl,q1,q2,q3,q4⟩;exact⟨u,rfl,Y7 m e q2 q1 q3 q4⟩
     .cases G
  .rename_i b vs e1 e2;have xM:=qx e.cu Y e1;have Sg:=EL e.cu I e2;generalize dY:a.eval f=fv at xM
   cases md with
   |bZ=>simp at G|ft _=>simp at G|red=>simp at G
   |shr=>
    simp only[]at G;split at G
    .rename_i v h' hy;obtain rfl:=q9 G
     cases xM with
     |fn g g' _ _ as bs hf ha hb=>
      obtain⟨q,py,rfl⟩:=hf;cases ha;cases hb;obtain⟨ff,oO,assign,body,k1,k2⟩:=jh9 (d:=d) M m e py Sg hy;refine .inr (.inr (.inr ⟨q,ff,oO,assign,body,?_,k2⟩))
      have ez:Array.map a.eval c.args=⟨c.args.toList.map a.eval⟩:=by
       apply L6;simp
      rw[<-ez]at k1;simp[execOp,ho,resolve,pw,dY,Deferred.ofValue,invoke,k1]
    .cases G
  .cases G
 .cases hc
theorem jsv {h md r h0 dst al cM res}(eQ:ct P p)(M:cL P xc)(m:aA P C ω w0 C0 hp w)(e:ar C ω w w0.heap.size env a.tmps)
  (nR:cM.ij=G0) (hc:cT P h md r dst o.op=Eb cM) (G:qg p xc h0 al env hp cM=Eb res):yg P C C0 w0 a d env o w res:=by
 cases ho:o.op<;>rw[ho]at hc
 case move x=>exact jl9 m e ho hc G
 case assign x=>exact jb3 m e ho hc G
 case pick=>exact jja m e ho hc G
 case alloc=>exact jeu m e ho hc G
 case box=>exact jn5 m e ho hc G
 case build=>exact jhy m e ho hc G
 case buildSlice=>exact q09 m e ho hc G
 case load=>exact jit m e ho hc G
 case store=>exact jhf m e ho nR hc G
 case nilCheck=>exact q5u m e ho hc G
 case binOp=>exact jn3 m e ho hc G
 case unOp=>exact jt2 m e ho hc G
 case convert=>exact jih m e ho hc G
 case makeFunc=>exact q7q m e ho hc G
 case makeMap=>exact q8m m e ho hc G
 case makeSlice=>exact q34 m e ho hc G
 case slice=>exact jhi m e ho hc G
 case fieldAddr=>exact q3w m e ho hc G
 case field=>exact jgh m e ho hc G
 case indexAddr=>exact q3p m e ho hc G
 case index=>exact jf6 m e ho hc G
 case range=>exact jgz m e ho hc G
 case extract=>exact q9c m e ho hc G
 case call c=>
  have dX:Af P h md r dst c=Eb cM:=hc;by_cases hv:∃f,c.callee=.value f
  .obtain⟨f,hf⟩:=hv;exact ji1 eQ M m e ho hf dX G
  .exact q88 m e ho (fun f hf=>hv ⟨f,hf⟩) dX G
 case lookup=>exact jcd m e ho hc G
 case mapUpdate=>exact YL m e (.inl ho) hc G
 case insert t x y z=>exact YL (h:=h) (md:=md) (r:=r) (dst:=dst) m e (.inr ho) (show cT P h md r dst (.mapUpdate t x y z)=Eb cM from hc) G
 case next it b=>exact HC m e ho hc G
 all_goals (simp[cT]at hc;done)
end
section
variable {p:j8}{xc:XC}{h0:Nat}{al:ak Nat}
def Agree (l:List Nat)(e e':Env):Prop:=∀s∈l,jm s e=jm s e'
theorem Agree.app {l l' e e'}(h:Agree (l++l') e e'):Agree l e e'/\Agree l' e e':=
 ⟨fun s G=>h s (Xk _ G),fun s G=>h s (Xa _ G)⟩
theorem qu {e e' x}(h:Agree (zb x) e e'):qj e x=qj e' x:=by
 cases x with
 |tmp t=>simp only[qj,h t (by simp[zb])]|const v=>rfl
theorem EY {e e'}:∀ {l:List jq},Agree (xw l) e e'->gE e l=gE e' l
 | [],_=>rfl
 |x::l,h=>by
  have h':Agree (zb x++xw l) e e':=by simpa[xw]using h
  simp only[gE,qu h'.app.1,EY h'.app.2]
theorem EZ {e e' x}(d n:Nat)(h:Agree (Ah x) e e'):fG e d n x=fG e' d n x:=by
 cases x with
 |none=>rfl|some x=>simp only[fG,qu (x:=x) h]
theorem Sh {e e' x}(h:Agree (zb x) e e'):zw e x=zw e' x:=by
 cases x with
 |tmp t=>simp only[zw,h t (by simp[zb])]|const v=>rfl
theorem Zb {e e'}:∀ {l:List (Nat×Nat×jq)},Agree (l.flatMap fun p=>zb p.2.2) e e'->km e l=km e' l
 | [],_=>rfl
 |(i,n,x)::l,h=>by
  have h':Agree (zb x++l.flatMap fun p=>zb p.2.2) e e':=by simpa using h
  simp only[km,qu h'.app.1,Zb h'.app.2]
theorem Si {e e' sz}:∀ {l:List (Nat×jq)},Agree (l.flatMap fun p=>zb p.2) e e'->z9 e sz l=z9 e' sz l
 | [],_=>rfl
 |(i,x)::l,h=>by
  have h':Agree (zb x++l.flatMap fun p=>zb p.2) e e':=by simpa using h
  simp only[z9,qu h'.app.1,Si h'.app.2]
theorem q6o {e e' h op}(ha:Agree op.reads e e'):qg p xc h0 al e h op=qg p xc h0 al e' h op:=by
 cases op with
 |move x=>simp only[qg,qn,qu (x:=x) ha]|take s=>simp only[qg,qn,ha s (by simp[cF.reads])]|pick c x y=>simp only[cF.reads]at ha;simp only[qg,qn,qu ha.app.1.app.1,qu ha.app.1.app.2,qu ha.app.2]|build z ps=>simp only[qg,qn,Zb (l:=ps) ha]|buildSlice sz n z ps=>simp only[qg,qn,Si (l:=ps) ha]|nilCheck x=>simp only[qg,qn,qu (x:=x) ha]|gC n=>rfl
 |dq n s x=>
  simp only[cF.reads]at ha;have Y:jm s e=jm s e':=ha s (by simp);have I:Agree (zb x) e e':=fun t ht=>ha t (by simp[ht]);simp only[qg,qn,Y,qu I]
 |kN n x=>simp only[qg,qn,qu (x:=x) ha]|eV ag n x=>simp only[qg,qn,qu (x:=x) ha]|bin op x y=>simp only[cF.reads]at ha;simp only[qg,qn,qu ha.app.1,qu ha.app.2]|eqs ks n x y=>simp only[cF.reads]at ha;simp only[qg,qn,qu ha.app.1,qu ha.app.2]|beq n x y=>simp only[cF.reads]at ha;simp only[qg,qn,qu ha.app.1,qu ha.app.2]|fD k n x=>simp only[qg,qn,qu (x:=x) ha]|un op x=>simp only[qg,qn,qu (x:=x) ha]|conv k x=>simp only[qg,qn,qu (x:=x) ha]|eG x=>simp only[qg,qn,qu (x:=x) ha]|fX x=>simp only[qg,qn,qu (x:=x) ha]|field ag off n x=>simp only[qg,qn,qu (x:=x) ha]|index ag l n x i=>simp only[cF.reads]at ha;simp only[qg,qn,qu ha.app.1,qu ha.app.2]|dH x i=>simp only[cF.reads]at ha;simp only[qg,qn,qu ha.app.1,qu ha.app.2]|fieldAddr ag off n x=>simp only[qg,qn,qu (x:=x) ha]|indexAddr sz x i=>simp only[cF.reads]at ha;simp only[qg,qn,qu ha.app.1,qu ha.app.2]|eW ag l sz x i=>simp only[cF.reads]at ha;simp only[qg,qn,qu ha.app.1,qu ha.app.2]|slice sz x lo hi=>simp only[cF.reads]at ha;simp only[qg,qn,qu ha.app.1.app.1,EZ _ _ ha.app.1.app.2,EZ _ _ ha.app.2]|dI x lo hi=>simp only[cF.reads]at ha;simp only[qg,qn,qu ha.app.1.app.1,EZ _ _ ha.app.1.app.2,EZ _ _ ha.app.2]|fY l sz x lo hi=>simp only[cF.reads]at ha;simp only[qg,qn,qu ha.app.1.app.1,EZ _ _ ha.app.1.app.2,EZ _ _ ha.app.2]|eX f x y=>simp only[cF.reads]at ha;simp only[qg,qn,EY ha.app.1,EY ha.app.2]|len k x=>simp only[qg,qn,qu (x:=x) ha]
 |append r sz b x y=>
  simp only[cF.reads]at ha
  cases r with
  |none=>simp only[qg,qn,qu ha.app.1,qu ha.app.2,Sh ha.app.1]|some r=>simp only[qg,qq,qu ha.app.1,qu ha.app.2,Sh ha.app.1]
 |gD r sz b x y=>simp only[cF.reads]at ha;simp only[qg,qq,qu ha.app.1,qu ha.app.2]|fL r sz n z ps=>simp only[qg,qq,Si (l:=ps) ha]
 |b8 r sz b z n c=>
  simp only[cF.reads]at ha
  cases r with
  |none=>simp only[qg,qn,qu ha.app.1,qu ha.app.2]|some r=>simp only[qg,qq,qu ha.app.1,qu ha.app.2]
 |mx l=>simp only[qg,qn,EY (l:=l) ha]|mn l=>simp only[qg,qn,EY (l:=l) ha]|extract x i=>simp only[qg,qn,qu (x:=x) ha]|load ag n x=>simp only[qg,yl,qu (x:=x) ha]|alloc r z=>rfl|fW r t e=>rfl|box r n x=>simp only[qg,qq,qu (x:=x) ha]|cw off x=>simp only[qg,qq,qu (x:=x) ha]|store n x y=>simp only[cF.reads]at ha;simp only[qg,qq,qu ha.app.1,qu ha.app.2,Sh ha.app.2]|eP r=>rfl|dD r x=>simp only[qg,qq,qu (x:=x) ha]|call md f l=>simp only[cF.reads]at ha;simp only[qg,yd,qu ha.app.1,EY ha.app.2]|lookup kd z ok x y=>simp only[cF.reads]at ha;simp only[qg,yl,qu ha.app.1,qu ha.app.2]|mapUpdate kd x y z=>simp only[cF.reads]at ha;simp only[qg,qq,qu ha.app.1.app.1,qu ha.app.1.app.2,qu ha.app.2]|delete kd x y=>simp only[cF.reads]at ha;simp only[qg,qq,qu ha.app.1,qu ha.app.2]|copy sz x y=>simp only[cF.reads]at ha;simp only[qg,qq,qu ha.app.1,qu ha.app.2]|fE x=>simp only[qg,qq,qu (x:=x) ha]|bad=>rfl
def br.at (r:br)(h:qi):br:={ r with heap:=h }
theorem ni {h h' x r}(G:val h x=Eb r):r.heap=h/\val h' x=Eb (r.at h'):=by
 simp only[val,Eb.injEq]at G;subst G;exact⟨rfl,rfl⟩
theorem jlz (h:qi)(x:Option AVal):gF h x=(gF [] x).map (·.at h):=by cases x<;>rfl
theorem Sj {α β:Type}(c:Bool)(x y:Option α)(f:α->β):(bif c then x else y).map f=bif c then x.map f else y.map f:=by cases c<;>rfl
theorem Zc (e:Env)(h:qi)(op:cF):qn e h op=(qn e [] op).map (·.at h):=by
 cases op with
 |append r sz b x y=>
  cases r with
  |some r=>rfl
  |none=>
   simp only[qn]
   repeat' split
   all_goals first
    |rfl
    |(simp only[Sj];repeat' split)<;>rfl
 |b8 r sz b z n c=>
  cases r with
  |some r=>rfl
  |none=>
   simp only[qn]
   repeat' split
   all_goals first
    |rfl
    |(simp only[Sj];rfl)
 |_=>
  simp only[qn]
  repeat' split
  all_goals first
   |rfl
   |exact jlz _ _
   |(simp only[Sj];first|rfl|(repeat' split)<;>rfl)
theorem Zd {e h}(h':qi){op r}(G:qn e h op=Eb r):r.heap=h/\qn e h' op=Eb (r.at h'):=by
 rw[Zc]at G;obtain⟨r0,Y,rfl⟩:=G1.1 G;refine⟨rfl,?_⟩;rw[Zc,Y];rfl
end
section
variable {p:j8}{xc:XC}{h0:Nat}{al:ak Nat}
def nV:Option bG->Bool
 |some (.vec ..)=>Hd|some .hole=>Hd|_=>En
theorem HX {h b cs}(hc:qy h b=Eb cs):nV h[b]?=En:=by
 unfold qy at hc;split at hc
 .rename_i Y;rw[Y];rfl
 .cases hc
theorem E0 {h b x}(hb:zi h b=Eb x)(M:nV (Eb x)=En):nV h[b]?=En:=by
 unfold zi at hb;rw[hb];exact M
def Sk:bG->Option Nat
 | .vec sz _ _=>Eb sz|_=>G0
def HB (h0:Nat)(al:ak Nat)(F:qi->Option br)(h:qi)(r:br):Ai->Nat->Prop
 | .pure,_=>r.heap=h/\∀h',F h'=Eb (r.at h')| .read,_=>r.heap=h/\∀h':qi,(∀b,j9 h0 al b=En->(po al=En->nV h[b]?=En)->h'[b]?=h[b]?)->F h'=Eb (r.at h')| .alloc,k=>∃x,aK h0 h k x=Eb r.heap/\∀h' h3,aK h0 h' k x=Eb h3->F h'=Eb (r.at h3)| .write,_=>∃b x,j9 h0 al b=En/\nV h[b]?=En/\nV (Eb x)=En/\jx h b x=Eb r.heap/\∀h' h3:qi,h'[b]?=h[b]?->jx h' b x=Eb h3->F h'=Eb (r.at h3)
 | .take,k=>∃b cs v o,j9 h0 al b=En/\h[b]?=Eb (.cells cs)/\cs[k]?=Eb (v,o)/\r.heap=h.set b (.cells (cs.set k (v,Hd))) /\
   ∀(h':qi) (eE:List (AVal×Bool)),h'[b]?=Eb (.cells eE)->eE[k]?=Eb (v,o)->F h'=Eb (r.at (h'.set b (.cells (eE.set k (v,Hd)))))
 | .ft,_=>False| .shr,_=>True| .oE,k=>∃q x y,(q=h0+k % 1000/\y=.hole\/Sk y=Eb (k / 1000))/\h[q]?=Eb y/\r.heap=h.set q x/\Sk x=Eb (k / 1000)/\∀h':qi,h'[q]?=Eb y->F h'=Eb (r.at (h'.set q x))
theorem HY {h h' b}(hb:h'[b]?=h[b]?):qy h' b=qy h b:=by simp only[qy,hb]
theorem je5 {e h op r}(G:qg p xc h0 al e h op=Eb r):HB h0 al (fun h=>qg p xc h0 al e h op) h r op.cl op.cX:=by
 have gi:(∀h,qg p xc h0 al e h op=qn e h op)->op.cl=.pure->HB h0 al (fun h=>qg p xc h0 al e h op) h r op.cl op.cX:=by
  intro heq dT;rw[dT];rw[heq]at G;exact⟨(Zd h G).1,fun h'=>(heq h').trans (Zd h' G).2⟩
 cases op with
 |load ag n x=>
  simp only[qg,yl]at G;split at G
  .rename_i b o hv
   cases hk:j9 h0 al b with
   |false=>simp[hk]at G
   |true=>
    simp only[hk,cond_true]at G;split at G
    .rename_i cs hcs;split at G
     .rename_i vs Ma
      have key:r.heap=h/\∀h':qi,qy h' b=qy h b->yl h0 al e h' (.load ag n x)=Eb (r.at h'):=by
       cases ag with
       |true=>
        simp only[cond_true]at G;refine⟨(ni (h':=h) G).1,fun h' hb=>?_⟩;simp only[yl,hv,hk,cond_true,hb,hcs,Ma];exact(ni (h':=h') G).2
       |false=>
        simp only[cond_false]at G;split at G
        .refine⟨(ni (h':=h) G).1,fun h' hb=>?_⟩;simp only[yl,hv,hk,cond_true,hb,hcs,Ma,cond_false];exact(ni (h':=h') G).2
        .cases G
      exact⟨key.1,fun h' df=>key.2 h' (HY (df b hk fun _=>HX hcs))⟩
     .cases G
    .cases G
  .rename_i v hv
   cases hk:(Eao ag v.isAgg||!(Hf v.flat.length n))with
   |true=>simp[hk]at G
   |false=>
    simp only[hk,cond_false]at G;refine⟨(ni (h':=h) G).1,fun h' _=>?_⟩;simp only[qg,yl,hv,hk,cond_false];exact(ni (h':=h') G).2
  .rename_i b bO q hv
   cases hk:rI h0 al b with
   |false=>simp[hk]at G
   |true=>
    simp only[hk,cond_true]at G;have iu:=hk;simp only[rI,Eg,Bool.not_eq_true']at iu;split at G
    .rename_i sz dJ xs gM
     have iQ:∀h':qi,(∀b,j9 h0 al b=En->(po al=En->nV h[b]?=En)->h'[b]?=h[b]?)->zi h' b=Eb (.vec sz dJ xs):=fun h' df=>by
      unfold zi at gM ⊢;rw[df b iu.1 (fun ho=>by rw[iu.2]at ho;cases ho),gM]
     cases dx:(Hf bO dJ&&Hr (q+n) (xs.flatMap AVal.flat).length)with
     |false=>rw[dx]at G;cases G
     |true=>
      rw[dx]at G;simp only[cond_true]at G
      cases ag with
      |true=>
       simp only[cond_true]at G;refine⟨(ni (h':=h) G).1,fun h' df=>?_⟩;simp only[qg,yl,hv,hk,cond_true,iQ h' df,dx];exact(ni (h':=h') G).2
      |false=>
       simp only[cond_false]at G;split at G
       .rename_i z hz;refine⟨(ni (h':=h) G).1,fun h' df=>?_⟩;simp only[qg,yl,hv,hk,cond_true,iQ h' df,dx,cond_false,hz];exact(ni (h':=h') G).2
       .cases G
    .cases G
  .cases G
 |len k x=>exact gi (fun _=>rfl) rfl
 |alloc rk z=>
  simp only[qg,qq]at G
  cases hk:z.all qm with
  |false=>simp[hk]at G
  |true=>
   simp only[hk,cond_true]at G;split at G
   .rename_i h' hn;have Y:=q9 G;refine⟨_,by rw[Y];exact hn,fun g g3 hg=>?_⟩;simp only[qg,qq,hk,cond_true];rw[show cF.cX (.alloc rk z)=rk from rfl]at hg;rw[hg,Y];rfl
   .cases G
 |box rk n x=>
  simp only[qg,qq]at G;split at G
  .rename_i v hv
   cases hk:(Hf v.flat.length n&&v.flat.all qm)with
   |false=>simp[hk]at G
   |true=>
    simp only[hk,cond_true]at G;split at G
    .rename_i h' hn;have Y:=q9 G;refine⟨_,by rw[Y];exact hn,fun g g3 hg=>?_⟩;simp only[qg,qq,hv,hk,cond_true];rw[show cF.cX (.box rk n x)=rk from rfl]at hg;rw[hg,Y];rfl
    .cases G
  .cases G
 |fW rk t e'=>
  simp only[qg,qq]at G;split at G
  .rename_i h' hn;have Y:=q9 G;refine⟨_,by rw[Y];exact hn,fun g g3 hg=>?_⟩;simp only[qg,qq];rw[show cF.cX (.fW rk t e')=rk from rfl]at hg;rw[hg,Y];rfl
  .cases G
 |eP rk=>
  simp only[qg,qq]at G;split at G
  .rename_i h' hn;have Y:=q9 G;refine⟨_,by rw[Y];exact hn,fun g g3 hg=>?_⟩;simp only[qg,qq];rw[show cF.cX (.eP rk)=rk from rfl]at hg;rw[hg,Y];rfl
  .cases G
 |dD rk x=>
  simp only[qg,qq]at G;split at G
  .rename_i s hv;split at G
   .rename_i h' hn;have Y:=q9 G;refine⟨_,by rw[Y];exact hn,fun g g3 hg=>?_⟩;simp only[qg,qq,hv];rw[show cF.cX (.dD rk x)=rk from rfl]at hg;rw[hg,Y];rfl
   .cases G
  .cases G
 |cw off x=>
  simp only[qg,qq]at G;split at G
  .rename_i b o hv
   cases hk:j9 h0 al b&&xp off o with
   |false=>simp[hk]at G
   |true=>
    simp only[hk,cond_true]at G
    have fe:j9 h0 al b=En:=by simp only[Eg]at hk;exact hk.1
    split at G
    .rename_i cs hcs;split at G
     .rename_i v ow hq;split at G
      .rename_i h' bK;cases G;have oP:=bK;unfold jx at oP
       cases bh:Hg b h.length with
       |false=>simp[bh]at oP
       |true=>
        simp only[bh,cond_true,Eb.injEq]at oP
        cases off with
        |none=>
         refine⟨b,_,fe,HX hcs,rfl,bK,fun g g3 hb hg=>?_⟩;simp only[qg,qq,hv,hk,cond_true,HY hb,hcs,hq,hg];rfl
        |some k=>
         have hko:k=o:=by
          simp only[Eg,xp]at hk;exact Eh hk.2
         subst hko
         have hhb:h[b]?=Eb (.cells cs):=by
          unfold qy at hcs;split at hcs
          .rename_i eE h';cases hcs;exact h'
          .cases hcs
         refine⟨b,cs,v,ow,fe,hhb,hq,oP.symm,fun g eE hg dX=>?_⟩;have dX:eE[k]?=Eb (v,ow):=dX;have Sl:b<g.length:=(Hc.1 hg).1
         have iU:qy g b=Eb eE:=by simp only[qy,hg]
         have hsg:jx g b (.cells (eE.set k (v,Hd)))=Eb (g.set b (.cells (eE.set k (v,Hd)))):=by
          unfold jx;rw[Hu.mpr Sl];rfl
         simp only[qg,qq,hv,hk,cond_true,iU,dX,hsg];rfl
      .cases G
     .cases G
    .cases G
  .cases G
 |store n x y=>
  simp only[qg,qq]at G;split at G
  .rename_i b o v hv hy
   cases hk:j9 h0 al b with
   |false=>simp[hk]at G
   |true=>
    simp only[hk,cond_true]at G;split at G
    .rename_i cs hcs;split at G
     .rename_i t ht
      cases dx:(Hf n 1&&v.cP&&Hg o cs.length)with
      |false=>simp[dx]at G
      |true=>
       simp only[dx,cond_true]at G;split at G
       .rename_i h' bK;cases G;refine⟨b,_,hk,HX hcs,rfl,bK,fun g g3 hb hg=>?_⟩;simp only[qg,qq,hv,hy,hk,cond_true,HY hb,hcs,ht,dx,hg];rfl
       .cases G
     .rename_i ht
      cases dx:Hf v.flat.length n with
      |false=>simp[dx]at G
      |true=>
       simp only[dx,cond_true]at G;split at G
       .rename_i eE cq;split at G
        .rename_i h' bK;have Y:=q9 G;refine⟨b,_,hk,HX hcs,rfl,by rw[Y];exact bK,fun g g3 hb hg=>?_⟩;simp only[qg,qq,hv,hy,hk,cond_true,HY hb,hcs,ht,dx,cq,hg,Y];rfl
        .cases G
       .cases G
    .cases G
  .cases G
 |call md f l=>
  cases md with
  |shr=>trivial|red=>trivial
  |ft rk=>
   simp only[qg,yd]at G;split at G
   .rename_i k first captured vs e1 e2
    cases hb:(first++vs++captured).isEmpty with
    |false=>
     rw[hb]at G;simp only[cond_false]at G
     cases nh:qt 0 (first++vs++captured)with
     |false=>rw[nh]at G;cases G
     |true=>
      rw[nh]at G;simp only[cond_true]at G;split at G
      .rename_i v o vM
       have goal:∃x,aK h0 h rk x=Eb r.heap/\∀g g3,aK h0 g rk x=Eb g3->rK h0 g rk v o=Eb (r.at g3):=by
        unfold rK at G;split at G
        .split at G
         .rename_i h' hn;have Y:=q9 G;refine⟨_,by rw[Y];exact hn,fun g g3 hg=>?_⟩;simp only[rK,hg,Y];rfl
         .cases G
        .rename_i sz xs
         cases HA:(xs.flatMap AVal.flat).all oB with
         |false=>rw[HA]at G;cases G
         |true=>
          rw[HA]at G;simp only[cond_true]at G;split at G
          .rename_i h' hn;have Y:=q9 G;refine⟨_,by rw[Y];exact hn,fun g g3 hg=>?_⟩;simp only[rK,HA,cond_true,hg,Y];rfl
          .cases G
        .cases G
       obtain⟨x,g1,g2⟩:=goal;refine⟨x,g1,fun g g3 hg=>?_⟩;simp only[qg,yd,e1,e2,vM];rw[hb,nh];exact g2 g g3 hg
      .cases G
    |true=>
     rw[hb]at G;simp only[cond_true]at G;split at G
     .rename_i es hm;split at G
      .rename_i h' hn;have Y:=q9 G;refine⟨_,by rw[Y];exact hn,fun g g3 hg=>?_⟩;simp only[qg,yd,e1,e2,hm];rw[hb];simp only[cond_true];rw[show cF.cX (.call (.ft rk) f l)=rk from rfl]at hg;rw[hg,Y];rfl
      .cases G
     .cases G
   .cases G
   .cases G
  |bZ=>
   simp only[qg,yd]at G;split at G
   .rename_i k first captured vs e1 e2
    cases hb:qt 0 (first++vs++captured)with
    |false=>rw[hb]at G;cases G
    |true=>
     rw[hb]at G;simp only[cond_true]at G;split at G
     .rename_i v o vM;cases G;refine⟨rfl,fun h'=>?_⟩;simp only[qg,yd,e1,e2,vM];rw[hb];rfl
     .cases G
   .cases G
   .cases G
 |append rk sz b x y=>
  cases rk with
  |none=>exact gi (fun _=>rfl) rfl
  |some rk=>
   simp only[qg,qq]at G;split at G
   .rename_i de vy e1 e2
    cases gI:((zw e x).isSome&&Hf sz de)with
    |false=>simp[gI]at G
    |true=>
     simp only[gI,cond_true]at G;split at G
     .rename_i ys cU
      cases dx:(Hr ys.length 1073741824&&Hr b 4096&&Hg 0 sz)with
      |false=>simp[dx]at G
      |true=>
       simp only[dx,cond_true]at G;split at G
       .rename_i h' hn;cases G;refine⟨_,hn,fun g g3 hg=>?_⟩;simp only[qg,qq,e1,e2,gI,cU,dx,cond_true];rw[show cF.cX (.append (Eb rk) sz b x y)=rk from rfl]at hg;rw[hg];rfl
       .cases G
     .cases G
   .cases G
 |gD rk sz bt x y=>
  simp only[qg,qq]at G;split at G
  .rename_i RM vy e1 e2;split at G
   .rename_i ys cU
    cases hk:(Hr ys.length 1073741824&&Hr bt 4096&&Hg 0 sz&&!ys.isEmpty&&qt 0 ys&&Hg rk 1000)with
    |false=>rw[hk]at G;cases G
    |true=>
     rw[hk]at G;simp only[cond_true]at G;split at G
     .rename_i h' dy;obtain rfl:=q9 G;obtain⟨i1,i2⟩:=yz dy
      have hrk:rk<1000:=by simp only[Eg]at hk;exact Hu.mp hk.2
      have m1:(rk+1000*sz) % 1000=rk:=by omega
      have m2:(rk+1000*sz) / 1000=sz:=by omega
      refine⟨h0+rk,.vec sz 0 ys,.hole,.inl ⟨by show _=h0+(rk+1000*sz) % 1000;rw[m1],rfl⟩,i1,i2,by show Eb sz=Eb ((rk+1000*sz) / 1000);rw[m2],fun g hg=>?_⟩;simp only[qg,qq,e1,e2,cU,hk,cond_true,aK,hg];rfl
     .cases G
   .cases G
  .rename_i b bO len vy e1 e2;split at G
   .rename_i de dJ xs gM;split at G
    .rename_i ys cU
     cases hk:(Hf bO dJ&&Hf sz de&&Hr len xs.length&&Hr (len+ys.length) 1073741824&&Hr bt 4096&&Hg 0 sz&&qt 0 ys&&Hg rk 1000)with
     |false=>rw[hk]at G;cases G
     |true=>
      rw[hk]at G;simp only[cond_true]at G;split at G
      .rename_i h' bK;obtain rfl:=q9 G;have fe:=hk;simp only[Eg]at fe;obtain⟨⟨⟨⟨⟨⟨⟨_,k2⟩,_⟩,_⟩,_⟩,_⟩,_⟩,k8⟩:=fe;have da:=Eh k2;have hrk:rk<1000:=Hu.mp k8
       have m2:(rk+1000*sz) / 1000=sz:=by omega
       have bh:b<h.length:=by unfold zi at gM;exact(Hc.1 gM).1
       have hh:h'=h.set b (.vec sz (bO+1) (xs.take len++ys)):=by
        unfold jx at bK;rw[Hu.mpr bh]at bK;simpa using bK.symm
       refine⟨b,.vec sz (bO+1) (xs.take len++ys),.vec de dJ xs,.inr (by show Eb de=Eb ((rk+1000*sz) / 1000);rw[m2,da]),gM,hh,by show Eb sz=Eb ((rk+1000*sz) / 1000);rw[m2],fun g hg=>?_⟩;have iQ:zi g b=Eb (.vec de dJ xs):=hg;have vN:b<g.length:=(Hc.1 hg).1;simp only[qg,qq,e1,e2,iQ,cU,hk,cond_true,jx,Hu.mpr vN];rfl
      .cases G
    .cases G
   .cases G
  .cases G
 |fL rk sz n z ps=>trivial
 |b8 rk sz b z n c=>
  cases rk with
  |none=>exact gi (fun _=>rfl) rfl
  |some rk=>
   simp only[qg,qq]at G;split at G
   .rename_i n' c' e1 e2
    cases hk:(Hf n' c'&&Hr n' 1073741824&&Hr b 4096&&Hf z.length sz&&Hg 0 sz&&z.all qm)with
    |false=>simp[hk]at G
    |true=>
     simp only[hk,cond_true]at G;split at G
     .rename_i h' hn;have Y:=q9 G;refine⟨_,by rw[Y];exact hn,fun g g3 hg=>?_⟩;simp only[qg,qq,e1,e2,hk,cond_true];rw[show cF.cX (.b8 (Eb rk) sz b z n c)=rk from rfl]at hg;rw[hg,Y];rfl
     .cases G
   .cases G
 |lookup kd z ok x y=>
  simp only[qg,yl]at G;split at G
  .rename_i b kv e1 e2
   cases hk:j9 h0 al b with
   |false=>simp[hk]at G
   |true=>
    simp only[hk,cond_true]at G;split at G
    .rename_i es hb
     have iQ:∀h':qi,(∀b,j9 h0 al b=En->(po al=En->nV h[b]?=En)->h'[b]?=h[b]?)->zi h' b=Eb (.map es):=fun h' df=>by
      have Sm:=E0 hb rfl;unfold zi at hb ⊢;rw[df b hk fun _=>Sm,hb]
     split at G
     .rename_i i v hf;refine⟨(ni (h':=h) G).1,fun h' df=>?_⟩;simp only[qg,yl,e1,e2,hk,cond_true,iQ h' df,hf];exact(ni (h':=h') G).2
     .rename_i hf;refine⟨(ni (h':=h) G).1,fun h' df=>?_⟩;simp only[qg,yl,e1,e2,hk,cond_true,iQ h' df,hf];exact(ni (h':=h') G).2
     .cases G
    .cases G
  .rename_i kv e1 e2;refine⟨(ni (h':=h) G).1,fun h' df=>?_⟩;simp only[qg,yl,e1,e2];exact(ni (h':=h') G).2
  .cases G
 |mapUpdate kd x y z=>
  simp only[qg,qq]at G;split at G
  .rename_i b kv v e1 e2 e3
   cases hk:j9 h0 al b with
   |false=>simp[hk]at G
   |true=>
    simp only[hk,cond_true]at G;split at G
    .rename_i es hb
     have iQ:∀h':qi,h'[b]?=h[b]?->zi h' b=Eb (.map es):=fun h' df=>by
      unfold zi at hb ⊢;rw[df,hb]
     split at G
     .rename_i i u hf;split at G
      .rename_i h' bK;have Y:=q9 G;refine⟨b,_,hk,E0 hb rfl,rfl,by rw[Y];exact bK,fun g g3 fq hg=>?_⟩;simp only[qg,qq,e1,e2,e3,hk,cond_true,iQ g fq,hf,hg,Y];rfl
      .cases G
     .rename_i hf
      cases hl:Hr es.length 1073741824 with
      |false=>simp[hl]at G
      |true=>
       simp only[hl,cond_true]at G;split at G
       .rename_i h' bK;have Y:=q9 G;refine⟨b,_,hk,E0 hb rfl,rfl,by rw[Y];exact bK,fun g g3 fq hg=>?_⟩;simp only[qg,qq,e1,e2,e3,hk,cond_true,iQ g fq,hf,hl,hg,Y];rfl
       .cases G
     .cases G
    .cases G
  .cases G
 |delete kd x y=>
  simp only[qg,qq]at G;split at G
  .rename_i b kv e1 e2
   cases hk:j9 h0 al b with
   |false=>simp[hk]at G
   |true=>
    simp only[hk,cond_true]at G;split at G
    .rename_i es hb
     have iQ:∀h':qi,h'[b]?=h[b]?->zi h' b=Eb (.map es):=fun h' df=>by
      unfold zi at hb ⊢;rw[df,hb]
     split at G
     .rename_i rr hf;split at G
      .rename_i h' bK;have Y:=q9 G;refine⟨b,_,hk,E0 hb rfl,rfl,by rw[Y];exact bK,fun g g3 fq hg=>?_⟩;simp only[qg,qq,e1,e2,hk,cond_true,iQ g fq,hf,hg,Y];rfl
      .cases G
     .cases G
    .cases G
  .cases G
 |copy sz x y=>
  simp only[qg,qq]at G;split at G
  .rename_i b o len vy e1 e2
   cases hk:j9 h0 al b with
   |false=>simp[hk]at G
   |true=>
    simp only[hk,cond_true]at G;split at G
    .rename_i cs hcs;split at G
     .rename_i n us cU;split at G
      .rename_i eE cq
       cases dx:Hf us.length (n*sz)with
       |false=>simp[dx]at G
       |true=>
        simp only[dx,cond_true]at G;split at G
        .rename_i h' bK;have Y:=q9 G;refine⟨b,_,hk,HX hcs,rfl,by rw[Y];exact bK,fun g g3 hb hg=>?_⟩;simp only[qg,qq,e1,e2,hk,cond_true,HY hb,hcs,cU,cq,dx,hg,Y];rfl
        .cases G
      .cases G
     .cases G
    .cases G
  .cases G
 |fE x=>
  simp only[qg,qq]at G;split at G
  .rename_i b hv
   cases hk:j9 h0 al b with
   |false=>simp[hk]at G
   |true=>
    simp only[hk,cond_true]at G;split at G
    .rename_i s pos hb
     have bh:b<h.length:=by unfold zi at hb;exact(Hc.1 hb).1
     cases hp:Hg pos s.length with
     |true=>
      simp only[hp,cond_true]at G;split at G
      .rename_i h' bK;have Y:=q9 G;refine⟨b,_,hk,E0 hb rfl,rfl,by rw[Y];exact bK,fun g g3 fq hg=>?_⟩
       have iQ:zi g b=Eb (.iter s pos):=by unfold zi at hb ⊢;rw[fq,hb]
       simp only[qg,qq,hv,hk,cond_true,iQ,hp,hg,Y];rfl
      .cases G
     |false=>
      simp only[hp,cond_false]at G;have Y:=q9 G
      have HZ:h.set b (.iter s pos)=h:=by
       unfold zi at hb;apply Vf;intro k;rw[U8];split
       .rename_i hbk;subst hbk;first|exact hb.symm|rw[if_pos bh,hb]
       .rfl
      refine⟨b,.iter s pos,hk,E0 hb rfl,rfl,by rw[Y];unfold jx;rw[Hu.mpr bh];simp[HZ],fun g g3 fq hg=>?_⟩
      have iQ:zi g b=Eb (.iter s pos):=by unfold zi at hb ⊢;rw[fq,hb]
      have vN:b<g.length:=by unfold zi at iQ;exact(Hc.1 iQ).1
      have AQ:g3=g:=by
       unfold jx at hg;rw[Hu.mpr vN]at hg;simp only[cond_true,Eb.injEq]at hg;rw[<-hg];unfold zi at iQ;apply Vf;intro k;rw[U8];split
       .rename_i hbk;subst hbk;first|exact iQ.symm|rw[if_pos vN,iQ]
       .rfl
      simp only[qg,qq,hv,hk,cond_true,iQ,hp,cond_false,Y,AQ];rfl
    .cases G
  .cases G
 |_=>exact gi (fun _=>rfl) rfl
theorem xN {h h' b x}(G:jx h b x=Eb h'):b<h.length/\h'=h.set b x:=by
 unfold jx at G
 cases hb:Hg b h.length with
 |false=>simp[hb]at G|true=>exact⟨Hu.mp hb,by simpa[hb]using G.symm⟩
theorem AR {h b x}(hb:b<h.length):jx h b x=Eb (h.set b x):=by
 unfold jx;rw[Hu.mpr hb];rfl
theorem E1 {h k x}(hh:h[h0+k]?=Eb .hole):aK h0 h k x=Eb (h.set (h0+k) x):=by
 unfold aK;rw[hh]
theorem E2 {b k}(h:j9 h0 al b=En)(hk:nJ al k=Hd):b≠h0+k:=by
 intro hb;subst hb
 cases al with
 |none=>simp[nJ]at hk
 |some l=>
  simp only[j9,nJ]at h hk
  have Y:Hg (h0+k) h0=Hd:=by
   cases hh:Hg (h0+k) h0 with
   |false=>rfl|true=>have:=Hu.mp hh;omega
  cases he:oA l with
  |false=>
   rw[he]at h hk;simp only[cond_false]at h hk;rw[Y,Uv,show h0+k-h0=k from by omega,hk]at h;cases h
  |true=>
   rw[he]at h hk;simp only[cond_true]at h hk
   cases l with
   |nil=>cases he
   |cons x l=>
    simp only[Aa]at h
    cases M:Hg x 2000 with
    |true=>rw[M]at h;simp only[cond_true,Y,Bool.and_false]at h;cases h
    |false=>
     rw[M]at h;simp only[cond_false]at h
     cases Ze:Hg x 4000 with
     |false=>rw[Ze]at h;simp only[cond_false,Y]at h;cases h
     |true=>
      rw[Ze]at h;simp only[cond_true]at h;have I:=Eh h
      have h3:¬x<2000:=fun hh=>by rw[Hu.mpr hh]at M;cases M
      have h4:x=2000+k:=by omega
      rw[show(x::l).headD 0=x from rfl,h4,Yu]at hk;cases hk
theorem Zf {l:List Nat}{x}(h:(!(l.contains x))=En):l.contains x=Hd:=by
 cases hc:l.contains x with
 |false=>rfl|true=>rw[hc]at h;cases h
theorem Sn {So Sp:ak Nat}{b b'}(h:EI So Sp=En)(Y:j9 h0 So b=En)(I:j9 h0 Sp b'=En):b≠b':=by
 intro hb;subst hb
 cases So with
 |none=>cases h
 |some l=>
  cases Sp with
  |none=>cases h
  |some m=>
   simp only[EI,j9]at h Y I
   have inv:∀ {k:List Nat},oA k=En->Hg (k.headD 0) 4000=En->Aa h0 k b=En->(1000<=k.headD 0)/\((k.headD 0<2000/\b=k.headD 0-1000/\b<h0)\/(2000<=k.headD 0/\b=h0+(k.headD 0-2000))):=by
    intro k he h4 hq
    cases k with
    |nil=>cases he
    |cons x k=>
     refine⟨G7 he,?_⟩;simp only[Aa]at hq
     cases M:Hg x 2000 with
     |true=>
      rw[M]at hq;simp only[cond_true,Eg]at hq;exact .inl ⟨Hu.mp M,Eh hq.1,Hu.mp hq.2⟩
     |false=>
      rw[M,show Hg x 4000=En from h4]at hq;simp only[cond_false,cond_true]at hq
      have h3:¬x<2000:=fun hh=>by rw[Hu.mpr hh]at M;cases M
      exact .inr ⟨by show 2000<=x;omega,Eh hq⟩
   have old:∀ {k:List Nat} {r:Nat},b=h0+r->k.contains r=Hd->(Hg b h0||k.contains (b-h0))=En->False:=by
    intro k r iG hc hq
    have h3:Hg b h0=Hd:=by
     cases hh:Hg b h0 with
     |false=>rfl|true=>have:=Hu.mp hh;omega
    rw[h3,Uv,show b-h0=r by omega,hc]at hq;cases hq
   cases hl:oA l with
   |true=>
    rw[hl]at h Y;simp only[cond_true]at h Y
    cases hm:oA m with
    |true=>
     rw[hm]at h I;simp only[cond_true,Eg]at h I;obtain⟨i1,i2⟩:=inv hl h.1.2 Y;obtain⟨i3,i4⟩:=inv hm h.2 I
     have bI:l.headD 0≠m.headD 0:=fun e=>by rw[e,Yu]at h;exact absurd h.1.1 (by simp)
     omega
    |false=>
     rw[hm]at h I;simp only[cond_false,Eg]at h I;obtain⟨i1,i2⟩:=inv hl h.1.2 Y;have h3:=G7 h.1.1;exact old (by omega) (Zf h.2) I
   |false=>
    rw[hl]at h Y;simp only[cond_false,Eg]at h Y;obtain⟨⟨⟨h3,h4⟩,h6⟩,h5⟩:=h;rw[h3]at I;simp only[cond_true]at I;obtain⟨i3,i4⟩:=inv h3 h6 I;have h4:=G7 h4;exact old (by omega) (Zf h5) Y
theorem Sr {F h r k}(H:HB h0 al F h r .take k):HB h0 al F h r .write k:=by
 obtain⟨b,cs,v,o,hb,hc,hv,G,h4⟩:=H;have bh:b<h.length:=(Hc.1 hc).1;refine⟨b,.cells (cs.set k (v,Hd)),hb,by rw[hc];rfl,rfl,by rw[G];exact AR bh,fun h' h3 hh bK=>?_⟩;rw[h4 h' cs (by rw[hh];exact hc) hv];obtain⟨_,s2⟩:=xN bK;rw[s2]
theorem jkg {ca cb ka kb qK qL Fa Fb h ra rb}(xO:Fb h=Eb rb)(H5:Fa rb.heap=Eb ra)(Hb:HB h0 qL Fb h rb cb kb)(Ha:HB h0 qK Fa rb.heap ra ca ka)
  (dW:cb=.read\/cb=.write\/cb=.take) (eo:ca=.read\/ca=.write\/ca=.take) (mC:EI qL qK=En):
  ∃Y,Fa h=Eb (ra.at Y)/\Fb Y=Eb (rb.at ra.heap):=by
 have hat:∀r:br,r.at r.heap=r:=fun _=>rfl
 have wb:(cb=.read/\HB h0 qL Fb h rb .read kb)\/HB h0 qL Fb h rb .write kb:=by
  rcases dW with rfl|rfl|rfl
  .exact .inl ⟨rfl,Hb⟩
  .exact .inr Hb
  .exact .inr (Sr Hb)
 have wa:(ca=.read/\HB h0 qK Fa rb.heap ra .read ka)\/HB h0 qK Fa rb.heap ra .write ka:=by
  rcases eo with rfl|rfl|rfl
  .exact .inl ⟨rfl,Ha⟩
  .exact .inr Ha
  .exact .inr (Sr Ha)
 rcases wb with⟨_,Y,I⟩|⟨b,x,hb,_,_,G,I⟩
 .rcases wa with⟨_,h3,h4⟩|⟨b',y,fq,_,_,gy,h4⟩
  .exact⟨h,h4 h (fun b _ _=>by rw[Y]),by rw[h3,hat];exact xO⟩
  .rw[Y]at gy;obtain⟨s1,s2⟩:=xN gy;refine⟨ra.heap,by rw[hat,<-H5,Y],I _ (fun b hb _=>?_)⟩;rw[s2,Ep (Hy (Sn mC hb fq))]
 .obtain⟨s1,s2⟩:=xN G;rcases wa with⟨_,h3,h4⟩|⟨b',y,fq,_,_,gy,h4⟩
  .refine⟨h,h4 h (fun b' fq _=>?_),by rw[h3,hat];exact xO⟩;rw[s2,Ep (Sn mC hb fq)]
  .obtain⟨s3,s4⟩:=xN gy;have bI:=Sn mC hb fq;rw[s2,H3]at s3;refine⟨h.set b' y,h4 _ _ (by rw[s2,Ep bI]) (AR s3),I _ _ (by rw[Ep (Hy bI)]) ?_⟩;rw[AR (by rw[H3];exact s1),s4,s2,H2 _ _ (Hy bI)]
def Mp (ca cb:Ai)(ka kb:Nat)(qK qL:ak Nat):Prop:=
 (cb=.oE/\ca=.oE/\kb % 1000≠ka % 1000/\kb / 1000≠ka / 1000)\/(cb=.oE/\(ca=.read\/ca=.write\/ca=.take)/\po qK=En)\/((cb=.read\/cb=.write\/cb=.take)/\ca=.oE/\po qL=En)
theorem jt4 {ca cb ka kb qK qL Fa Fb h ra rb}(xO:Fb h=Eb rb)(H5:Fa rb.heap=Eb ra)(Hb:HB h0 qL Fb h rb cb kb)(Ha:HB h0 qK Fa rb.heap ra ca ka)
  (dL:Mp ca cb ka kb qK qL):∃Y,Fa h=Eb (ra.at Y)/\Fb Y=Eb (rb.at ra.heap):=by
 have hat:∀r:br,r.at r.heap=r:=fun _=>rfl
 have H6:∀ {c:Ai} {k:Nat} {al:ak Nat} {F:qi->Option br} {g:qi} {r:br},HB h0 al F g r c k->(c=.read\/c=.write\/c=.take)->HB h0 al F g r .read k\/HB h0 al F g r .write k:=by
  intro c k al F g r H hc;rcases hc with rfl|rfl|rfl
  .exact .inl H
  .exact .inr H
  .exact .inr (Sr H)
 have Zg:∀ {x:bG} {z:Nat},Sk x=Eb z->nV (Eb x)=Hd:=fun {x z} h=>by cases x<;>first|rfl|cases h
 rcases dL with⟨rfl,rfl,n1,n2⟩|⟨rfl,eo,G⟩|⟨dW,rfl,G⟩
 .obtain⟨q,x,y,hq,hy,hh,M,hF⟩:=Hb;obtain⟨q',x',y',Mh,Az,E3,fp,hF'⟩:=Ha;have bh:q<h.length:=(Hc.1 hy).1
  have bI:q≠q':=by
   intro he;subst he;rw[hh,H4 bh]at Az;cases Az;rcases Mh with⟨_,rfl⟩|h4
   .cases M
   .rw[M]at h4;exact n2 (Eb.inj h4)
  rw[hh,Ep bI]at Az;refine⟨h.set q' x',hF' h Az,?_⟩;rw[hF _ (by rw[Ep (Hy bI)];exact hy),E3,hh,H2 _ _ bI]
 .obtain⟨q,x,y,hq,hy,hh,M,hF⟩:=Hb;have bh:q<h.length:=(Hc.1 hy).1
  -- the box that the append wrote is a vector now
  have dy:nV rb.heap[q]?=Hd:=by rw[hh,H4 bh];exact Zg M
  rcases H6 Ha eo with⟨h3,h4⟩|⟨b,z,hb,hn,Ss,hz,h4⟩
  .refine⟨h,h4 h (fun b hb hn=>?_),by rw[h3,hat];exact xO⟩
   have bI:b≠q:=fun e=>by subst e;rw[hn G]at dy;cases dy
   rw[hh,Ep (Hy bI)]
  .have bI:b≠q:=fun e=>by subst e;rw[hn]at dy;cases dy
   obtain⟨s1,s2⟩:=xN hz;rw[hh,H3]at s1;refine⟨h.set b z,h4 _ _ (by rw[hh,Ep (Hy bI)]) (AR s1),?_⟩;rw[hF _ (by rw[Ep bI];exact hy),s2,hh,H2 _ _ bI]
 .obtain⟨q,x,y,hq,hy,hh,M,hF⟩:=Ha
  have hold:nV (Eb y)=Hd:=by
   rcases hq with⟨_,rfl⟩|Y
   .rfl
   .exact Zg Y
  rcases H6 Hb dW with⟨h3,h4⟩|⟨b,z,hb,hn,Ss,hz,h4⟩
  .rw[h3]at hy hh;refine⟨h.set q x,hF h hy,?_⟩
   rw[h4 (h.set q x) (fun b hb hn=>by
    have bI:b≠q:=fun e=>by subst e;rw[hy]at hn;rw[hold]at hn;exact absurd (hn G) (by simp)
    rw[Ep (Hy bI)]),hh]
  .obtain⟨s1,s2⟩:=xN hz
   have bI:b≠q:=by
    intro e;subst e;rw[s2,H4 s1]at hy;rw[Eb.inj hy,hold]at Ss;cases Ss
   rw[s2,Ep bI]at hy;refine⟨h.set q x,hF h hy,h4 _ _ (by rw[Ep (Hy bI)]) ?_⟩;rw[AR (by rw[H3];exact s1),hh,s2,H2 _ _ (Hy bI)]
theorem jqg {ca cb ka kb qK qL Fa Fb h ra rb}(xO:Fb h=Eb rb)(H5:Fa rb.heap=Eb ra)(Hb:HB h0 qL Fb h rb cb kb)(Ha:HB h0 qK Fa rb.heap ra ca ka)
  (dL:cb=.pure\/ca=.pure\/(cb=.read/\ca=.read)\/(cb=.alloc/\ca=.alloc/\kb≠ka)\/(cb=.alloc/\(ca=.read\/ca=.write\/ca=.take)/\nJ qK kb=Hd)\/((cb=.read\/cb=.write\/cb=.take)/\ca=.alloc/\nJ qL ka=Hd)\/(cb=.take/\ca=.take/\kb≠ka)):
  ∃Y,Fa h=Eb (ra.at Y)/\Fb Y=Eb (rb.at ra.heap):=by
 have hat:∀r:br,r.at r.heap=r:=fun _=>rfl;rcases dL with rfl|rfl|⟨rfl,rfl⟩|⟨rfl,rfl,bI⟩|⟨rfl,eo,oQ⟩|⟨dW,rfl,oQ⟩|⟨rfl,rfl,bI⟩
 .obtain⟨Y,I⟩:=Hb;exact⟨ra.heap,by rw[hat,<-H5,Y],I _⟩
 .obtain⟨Y,I⟩:=Ha;exact⟨h,I _,by rw[Y,hat];exact xO⟩
 .obtain⟨Y,I⟩:=Hb;obtain⟨h3,h4⟩:=Ha;exact⟨h,h4 h (fun b _ _=>by rw[Y]),by rw[h3,hat];exact xO⟩
 .obtain⟨x,n1,n2⟩:=Hb;obtain⟨y,n3,n4⟩:=Ha;obtain⟨i1,i2⟩:=yz n1;obtain⟨i3,i4⟩:=yz n3;rw[i2,Ep (by omega)]at i3;refine⟨h.set (h0+ka) y,n4 _ _ (E1 i3),n2 _ _ ?_⟩;rw[E1 (by rw[Ep (by omega)];exact i1),i4,i2,H2 _ _ (by omega)]
 .obtain⟨x,n1,n2⟩:=Hb;obtain⟨i1,i2⟩:=yz n1;rcases eo with rfl|rfl|rfl
  .obtain⟨h3,h4⟩:=Ha;refine⟨h,h4 h (fun b hb _=>?_),by rw[h3,hat];exact xO⟩;rw[i2,Ep (Hy (E2 hb oQ))]
  .obtain⟨b,y,hb,_,_,G,h4⟩:=Ha;obtain⟨s1,s2⟩:=xN G;have bI:=E2 hb oQ;rw[i2,H3]at s1;refine⟨h.set b y,h4 _ _ (by rw[i2,Ep (Hy bI)]) (AR s1),n2 _ _ ?_⟩;rw[E1 (by rw[Ep bI];exact i1),s2,i2,H2 _ _ bI]
  .obtain⟨b,cs,v,o,hb,hc,hv,G,h4⟩:=Ha;have bI:=E2 hb oQ;rw[i2,Ep (Hy bI)]at hc;refine⟨_,h4 _ _ hc hv,n2 _ _ ?_⟩;rw[E1 (by rw[Ep bI];exact i1),G,i2,H2 _ _ bI]
 .obtain⟨y,n3,n4⟩:=Ha;obtain⟨i3,i4⟩:=yz n3;rcases dW with rfl|rfl|rfl
  .obtain⟨Y,I⟩:=Hb;refine⟨ra.heap,by rw[hat,<-H5,Y],I _ (fun b hb _=>?_)⟩;rw[i4,Y,Ep (Hy (E2 hb oQ))]
  .obtain⟨b,x,hb,_,_,G,I⟩:=Hb;obtain⟨s1,s2⟩:=xN G;have bI:=E2 hb oQ;rw[s2,Ep bI]at i3;refine⟨h.set (h0+ka) y,n4 _ _ (E1 i3),I _ _ (by rw[Ep (Hy bI)]) ?_⟩;rw[AR (by rw[H3];exact s1),i4,s2,H2 _ _ (Hy bI)]
  .obtain⟨b,cs,v,o,hb,hc,hv,G,I⟩:=Hb;have bI:=E2 hb oQ;rw[G,Ep bI]at i3;refine⟨h.set (h0+ka) y,n4 _ _ (E1 i3),?_⟩;rw[I _ cs (by rw[Ep (Hy bI)];exact hc) hv,i4,G,H2 _ _ (Hy bI)]
 .obtain⟨b,cs,v,o,hb,hc,hv,G,I⟩:=Hb;obtain⟨b',eE,v',o',fq,dX,vO,gy,h4⟩:=Ha;have bh:b<h.length:=(Hc.1 hc).1;by_cases E4:b'=b
  .subst E4;rw[G,H4 bh]at dX;cases dX;rw[Ep bI]at vO;refine⟨h.set b' (.cells (cs.set ka (v',Hd))),h4 h cs hc vO,?_⟩;rw[I _ (cs.set ka (v',Hd)) (by rw[H4 bh]) (by rw[Ep (Hy bI)];exact hv),gy,G];simp only[List.set_set];rw[H2 _ _ bI]
  .rw[G,Ep (Hy E4)]at dX;refine⟨h.set b' (.cells (eE.set ka (v',Hd))),h4 h eE dX vO,?_⟩;rw[I _ cs (by rw[Ep E4];exact hc) hv,gy,G,H2 _ _ E4]
end
section
variable {p:j8}{xc:XC}{h0:Nat}
def mE (p:j8)(xc:XC)(h0:Nat)(o:bT)(e:Env)(h:qi):Option br:=
 match nH e o.guard with
 |some En=>qg p xc h0 o.al e h o.op|some Hd=>Eb ⟨.undef,Hd,G0,h⟩|none=>G0
def qM (o:bT)(e:Env)(r:br):Env:=oC (ya e r.strip) o.dst r.v r.own
theorem E5 (o:bT)(st:bj):ye p xc h0 o st=(mE p xc h0 o st.env st.heap).map fun r=>⟨qM o st.env r,r.heap⟩:=by
 unfold ye mE
 cases hg:nH st.env o.guard with
 |none=>rfl
 |some b=>
  cases b with
  |false=>rfl
  |true=>
   simp only[];cases qg p xc h0 o.al st.env st.heap o.op<;>rfl
theorem q32 {e e' g}(h:Agree (match g with|some g=>[g.1]|none=>[]) e e'):nH e g=nH e' g:=by
 cases g with
 |none=>rfl|some g=>simp only[nH,h g.1 (by simp)]
theorem Sv {o e e' h}(ha:Agree o.reads e e'):mE p xc h0 o e h=mE p xc h0 o e' h:=by
 have Y:Agree o.op.reads e e':=(Agree.app ha).1;have I:=(Agree.app ha).2;simp only[mE,q32 I,q6o Y]
theorem q86 {h0 r h v o res}(G:rK h0 h r v o=Eb res):res.strip=G0:=by
 unfold rK at G;simp only[Jq,val]at G
 repeat' split at G
 all_goals first
  |(cases G;done)
  |(cases G;rfl)
theorem q3x {al e h op r}(G:qg p xc h0 al e h op=Eb r){s}(Q:r.strip=Eb s):s∈op.fM:=by
 have own:∀ {x:jq},zw e x=Eb s->s∈zb x:=by
  intro x h;obtain⟨rfl,_⟩:=G9 h;simp[zb]
 have oR:∀ {x:AVal},val h x=Eb r->False:=fun hv=>by rw[q9 hv]at Q;cases Q
 have AU:∀ {x:Option AVal},gF h x=Eb r->False:=fun hv=>by obtain⟨_,_,Y⟩:=ud hv;rw[Y]at Q;cases Q
 cases op with
 |take t=>
  simp only[qg,qn]at G;split at G
  .cases G;simp at Q;simp[cF.fM,Q]
  .cases G
 |append rk sz b x y=>
  cases rk with
  |some rk=>
   simp only[qg,qq,Jq]at G
   repeat' split at G
   all_goals first
    |(cases G;done)
    |(cases G;exact own Q)
  |none=>
   simp only[qg,qn,Jq]at G
   repeat' split at G
   all_goals first
    |(cases G;done)
    |(cases G;exact own Q)
 |store n x y=>
  simp only[qg,qq,Jq]at G
  repeat' split at G
  all_goals first
   |(cases G;done)
   |exact(oR G).elim
   |(rename_i ht _ _ _ _;cases G;simp only[Eb.injEq]at Q;subst Q;exact own ht)
   |(unfold val at G;cases G;cases Q;done)
   |skip
 |b8 rk sz b z n c=>
  cases rk with
  |some rk=>
   simp only[qg,qq,Jq]at G
   repeat' split at G
   all_goals first
    |(cases G;done)
    |exact(oR G).elim
    |(unfold val at G;cases G;cases Q;done)
  |none=>
   simp only[qg,qn,Jq]at G
   repeat' split at G
   all_goals first
    |(cases G;done)
    |(cases G;cases Q;done)
 |call md f l=>
  cases md<;>simp only[qg,yd,Jq]at G
  all_goals
   repeat' split at G
  all_goals first
   |(cases G;done)
   |exact(oR G).elim
   |(cases G;cases Q;done)
   |(rw[q86 G]at Q;cases Q;done)
 |_=>
  simp only[qg,qn,yl,qq,Jq]at G
  repeat' split at G
  all_goals first
   |(cases G;done)
   |exact(oR G).elim
   |exact(AU G).elim
   |(cases G;cases Q;done)
   |(unfold val at G;cases G;cases Q;done)
theorem Zh {o e h r}(G:mE p xc h0 o e h=Eb r){s}(Q:r.strip=Eb s):s∈o.op.fM:=by
 unfold mE at G;split at G
 .exact q3x G Q
 .cases G;cases Q
 .cases G
theorem E6 {s x e}:jm s ((s,x)::e)=Eb x:=by
 simp only[jm,Yu,cond_true]
theorem Mq {s t x e}(h:s≠t):jm s ((t,x)::e)=jm s e:=by
 have:Hf t s=Hd:=by
  cases hb:Hf t s with
  |false=>rfl|true=>exact absurd (Eh hb).symm h
 simp only[jm,this,cond_false]
theorem Sw {s e x}(h:∀t,x=Eb t->s≠t):jm s (ya e x)=jm s e:=by
 cases x with
 |none=>rfl
 |some t=>
  simp only[ya];split
  .exact Mq (h t rfl)
  .rfl
theorem qwj {s e e' x}(h:jm s e=jm s e'):jm s (ya e x)=jm s (ya e' x):=by
 cases x with
 |none=>exact h
 |some t=>
  by_cases cq:s=t
  .subst cq;simp only[ya];rw[<-h]
   cases hl:jm s e with
   |none=>simp only[];rw[hl,<-h,hl]|some y=>simp only[];rw[E6,E6]
  .rw[Sw (fun u hu=>by cases hu;exact cq),Sw (fun u hu=>by cases hu;exact cq)];exact h
theorem Sx {s e d v o}(h:∀t,d=Eb t->s≠t):jm s (oC e d v o)=jm s e:=by
 cases d with
 |none=>rfl|some t=>exact Mq (h t rfl)
theorem q08 {s e e' d v o}(h:jm s e=jm s e'):jm s (oC e d v o)=jm s (oC e' d v o):=by
 cases d with
 |none=>exact h
 |some t=>
  by_cases cq:s=t
  .subst cq;simp only[oC];rw[E6,E6]
  .rw[Sx (fun u hu=>by cases hu;exact cq),Sx (fun u hu=>by cases hu;exact cq)];exact h
theorem Sy {o s e e' r}(h:jm s e=jm s e'):jm s (qM o e r)=jm s (qM o e' r):=q08 (qwj h)
theorem E7 {o s e r}(Q:∀t,r.strip=Eb t->t∈o.op.fM)(h:s ∉ o.writes):jm s (qM o e r)=jm s e:=by
 unfold qM;rw[Sx,Sw]
 .intro t ht cq;exact h (Xa _ (cq▸Q t ht))
 .intro t ht cq;exact h (Xk _ (by rw[ht,cq];simp))
theorem je6 {o e r h}:qM o e (r.at h)=qM o e r:=rfl
def jF (a b:bj):Prop:=a.heap=b.heap/\∀s,jm s a.env=jm s b.env
theorem jF.refl (a:bj):jF a a:=⟨rfl,fun _=>rfl⟩
theorem jF.trans {a b c}(h:jF a b)(k:jF b c):jF a c:=⟨h.1.trans k.1,fun s=>(h.2 s).trans (k.2 s)⟩
theorem q2b {o a b a'}(h:jF a b)(G:ye p xc h0 o a=Eb a'):∃b',ye p xc h0 o b=Eb b'/\jF a' b':=by
 rw[E5]at G;obtain⟨r,Q,rfl⟩:=G1.1 G;rw[Sv (e':=b.env) (fun s _=>h.2 s),h.1]at Q;refine⟨⟨qM o b.env r,r.heap⟩,by rw[E5,Q];rfl,rfl,fun s=>Sy (h.2 s)⟩
theorem Zi:∀ {l:List bT} {a b a':bj},jF a b->fH p xc h0 l a=Eb a'->∃b',fH p xc h0 l b=Eb b'/\jF a' b'
 | [],a,b,a',h,G=>by simp only[fH,Eb.injEq]at G ⊢;subst G;exact⟨b,rfl,h⟩
 |o::l,a,b,a',h,G=>by
  simp only[fH]at G;split at G
  .rename_i J Y;obtain⟨b1,k1,k2⟩:=q2b h Y;obtain⟨b',k3,k4⟩:=Zi k2 G;exact⟨b',by simp only[fH,k1,k3],k4⟩
  .cases G
theorem Zj {o e h r}(G:mE p xc h0 o e h=Eb r):∃c k,HB h0 o.al (mE p xc h0 o e) h r c k/\(c=.pure\/(c=o.op.cl/\k=o.op.cX)):=by
 unfold mE at G
 cases hg:nH e o.guard with
 |none=>rw[hg]at G;cases G
 |some b=>
  cases b with
  |false=>
   rw[hg]at G;cases G;exact⟨.pure,0,⟨rfl,fun h'=>by simp only[mE,hg];rfl⟩,.inl rfl⟩
  |true=>
   rw[hg]at G;have:=je5 G
   have heq:(fun h=>qg p xc h0 o.al e h o.op)=mE p xc h0 o e:=by
    funext h;simp only[mE,hg]
   rw[heq]at this;exact⟨_,_,this,.inr ⟨rfl,rfl⟩⟩
theorem jdc {a b}(h:Q5 a b=En):a.op.cl=.pure\/b.op.cl=.pure\/a.op.cl=.ft\/b.op.cl=.ft\/(a.op.cl=.read/\b.op.cl=.read)\/(a.op.cl=.alloc/\b.op.cl=.alloc/\a.op.cX≠b.op.cX) \/
  (a.op.cl=.alloc/\(b.op.cl=.read\/b.op.cl=.write\/b.op.cl=.take)/\nJ b.al a.op.cX=Hd)\/((a.op.cl=.read\/a.op.cl=.write\/a.op.cl=.take)/\b.op.cl=.alloc/\nJ a.al b.op.cX=Hd)\/(a.op.cl=.take/\b.op.cl=.take/\a.op.cX≠b.op.cX)\/((a.op.cl=.read\/a.op.cl=.write\/a.op.cl=.take)/\(b.op.cl=.read\/b.op.cl=.write\/b.op.cl=.take)/\EI a.al b.al=En)\/Mp b.op.cl a.op.cl b.op.cX a.op.cX b.al a.al:=by
 unfold Q5 at h;rw[Rq]at h;rcases h with h|h
 .simp only[Eg]at h;obtain⟨⟨Y,I⟩,h3⟩:=h
  have hb:∀ {c:Ai},c.box=En->c=.read\/c=.write\/c=.take:=fun {c} hc=>by cases c<;>first|(cases hc;done)|simp
  simp only[hb Y,hb I,h3,and_self,or_true,true_or]
 unfold Mp;cases ha:a.op.cl<;>cases hb:b.op.cl<;>simp_all
theorem Sz {a b}(h:GR a b=En){s}(G:s∈a):s ∉ b:=by
 unfold GR at h;rw[Hs]at h;have:=h s G;simpa using this
theorem j4x {a b st s1 s2}(hm:Aj b a=En)(Y:ye p xc h0 b st=Eb s1)(I:ye p xc h0 a s1=Eb s2):
  ∃t1 t2,ye p xc h0 a st=Eb t1/\ye p xc h0 b t1=Eb t2/\jF s2 t2:=by
 rw[E5]at Y;obtain⟨rb,hb,rfl⟩:=G1.1 Y;rw[E5]at I;obtain⟨ra,ha,rfl⟩:=G1.1 I;simp only[Aj,Eg]at hm;obtain⟨⟨⟨hc,d1⟩,d2⟩,d3⟩:=hm;have sb:∀t,rb.strip=Eb t->t∈b.op.fM:=fun t ht=>Zh hb ht;have sa:∀t,ra.strip=Eb t->t∈a.op.fM:=fun t ht=>Zh ha ht
 -- the later one reads nothing that the earlier one writes
 have Mr:mE p xc h0 a st.env rb.heap=Eb ra:=by
  rw[<-ha];refine Sv fun s G=>(E7 sb ?_).symm;exact fun hw=>Sz d1 hw G
 obtain⟨cb,kb,Hb,ob⟩:=Zj hb;obtain⟨ca,ka,Ha,oa⟩:=Zj Mr
 have mC:((cb=.read\/cb=.write\/cb=.take)/\(ca=.read\/ca=.write\/ca=.take)/\EI b.al a.al=En)\/(cb=.pure\/ca=.pure\/(cb=.read/\ca=.read)\/(cb=.alloc/\ca=.alloc/\kb≠ka)\/(cb=.alloc/\(ca=.read\/ca=.write\/ca=.take)/\nJ a.al kb=Hd)\/((cb=.read\/cb=.write\/cb=.take)/\ca=.alloc/\nJ b.al ka=Hd)\/(cb=.take/\ca=.take/\kb≠ka))\/Mp ca cb ka kb a.al b.al:=by
  rcases ob with rfl|⟨rfl,rfl⟩
  .exact .inr (.inl (.inl rfl))
  rcases oa with rfl|⟨rfl,rfl⟩
  .exact .inr (.inl (.inr (.inl rfl)))
  rcases jdc hc with h|h|h|h|h|h|h|h|h|h|h
  .exact .inr (.inl (.inl h))
  .exact .inr (.inl (.inr (.inl h)))
  .rw[h]at Hb;exact Hb.elim
  .rw[h]at Ha;exact Ha.elim
  .exact .inr (.inl (.inr (.inr (.inl h))))
  .exact .inr (.inl (.inr (.inr (.inr (.inl h)))))
  .exact .inr (.inl (.inr (.inr (.inr (.inr (.inl h))))))
  .exact .inr (.inl (.inr (.inr (.inr (.inr (.inr (.inl h)))))))
  .exact .inr (.inl (.inr (.inr (.inr (.inr (.inr (.inr h)))))))
  .exact .inl h
  .exact .inr (.inr h)
 have hsw:∃Y,mE p xc h0 a st.env st.heap=Eb (ra.at Y)/\mE p xc h0 b st.env Y=Eb (rb.at ra.heap):=by
  rcases mC with⟨q1,q2,q3⟩|dL|dL
  .exact jkg hb Mr Hb Ha q1 q2 q3
  .exact jqg hb Mr Hb Ha dL
  .exact jt4 hb Mr Hb Ha dL
 obtain⟨h3,k1,k2⟩:=hsw
 have k2':mE p xc h0 b (qM a st.env (ra.at h3)) h3=Eb (rb.at ra.heap):=by
  rw[<-k2];refine Sv fun s G=>E7 (fun t ht=>sa t ht) ?_;exact fun hw=>Sz d3 hw G
 refine⟨⟨qM a st.env (ra.at h3),h3⟩,⟨qM b (qM a st.env (ra.at h3)) (rb.at ra.heap),ra.heap⟩,by rw[E5,k1];rfl,by rw[E5];simp only[k2'];rfl,rfl,fun s=>?_⟩;simp only[je6];by_cases hw:s∈a.writes
 .have EX:s ∉ b.writes:=fun h=>Sz d2 h hw;rw[E7 sb EX];exact Sy (E7 sb EX)
 .rw[E7 sa hw];exact Sy (E7 sa hw).symm
theorem Zk:∀ {l1 l2:List bT} {a:bT} {st s2:bj},(∀b∈l1,Aj b a=En)->fH p xc h0 (l1++a::l2) st=Eb s2 ->
  ∃t1 t2,ye p xc h0 a st=Eb t1/\fH p xc h0 (l1++l2) t1=Eb t2/\jF s2 t2
 | [],l2,a,st,s2,_,G=>by
  simp only[List.nil_append,fH]at G;split at G
  .rename_i t1 Y;exact⟨t1,s2,Y,G,jF.refl _⟩
  .cases G
 |b::l1,l2,a,st,s2,hm,G=>by
  simp only[Ead,fH]at G;split at G
  .rename_i s Y;obtain⟨u1,u2,I,h3,h4⟩:=Zk (fun c hc=>hm c (by simp[hc])) G;obtain⟨t1,t2,h5,h6,h7⟩:=j4x (hm b (by simp)) Y I;obtain⟨u3,h8,h9⟩:=Zi h7 h3;exact⟨t1,u3,h5,by simp only[Ead,fH,h6,h8],h4.trans h9⟩
  .cases G
end
def dz (P:Program)(w0:World)(C0 C:aM)(nt:Nat)(st:bj)(a:Act)(w:World):Prop:=
 a.tmps.size=nt/\∃C' ω',C.le C'/\Marks C' w0.heap.size a.defers/\aA P C' ω' w0 C0 st.heap w/\ar C' ω' w w0.heap.size st.env a.tmps
structure H7 (P:Program)(nt:Nat)(ops:Array Oper)(o:Oper)(ao:bT):Prop where
 op:∃h md r,(cT P h md r o.dst o.op).getD .bad=ao.op
 guard:Ag ops o.guard=Eb ao.guard
 dst:ao.dst=ao.op.rM o.dst
 fits:∀d,o.dst=Eb d->d<nt
 Zl:∀d,ao.op.ij=Eb d->d<nt
 H8:∀d,ao.op.ij=Eb d->o.dst=G0/\o.guard=G0
section
variable {P:Program}{p:j8}{xc:XC}{C C0:aM}{w0:World}{nt h0:Nat}{ops:Array Oper}{ρ:Option Nat}
theorem dz.eqv {st bN a w}(h:dz P w0 C0 C nt st a w)(he:jF st bN):dz P w0 C0 C nt bN a w:=by
 obtain⟨Y,C',ω',h3,I,h4,h5⟩:=h;exact⟨Y,C',ω',h3,I,he.1▸h4,fun s x M=>h5 s x (by rw[he.2 s];exact M)⟩
theorem ar.putAt {ω w B d e tmps v u o}(he:ar C ω w B e tmps)(hd:d<tmps.size)(Q:bS C v u)(ho:o=En->aS C ω w B (.slot d) v u):ar C ω w B ((d,v,o)::e) (tmps.setIfInBounds d u):=by
 intro s x M;by_cases SA:s=d
 .subst SA;rw[E6]at M;cases M;exact⟨u,by simp[hd],Q,ho⟩
 .rw[Mq SA]at M;obtain⟨y,Y,I,h3⟩:=he s x M;exact⟨y,by rw[Q0 (Hy SA)];exact Y,I,h3⟩
theorem Zm {ao:bT}{st:bj}{a:Act}{w:World}{C1:aM}{ω1:Nat->Option Loc}{e:Env}{h:qi}{v:AVal}{u:Value}{own:Bool}{o:Oper}(hd:ao.dst=o.dst)(hf:∀d,o.dst=Eb d->d<nt)(G:a.tmps.size=nt)(li:Marks C1 w0.heap.size a.defers)(hle:C.le C1)(m:aA P C1 ω1 w0 C0 h w)(he:ar C1 ω1 w w0.heap.size e a.tmps)(Q:bS C1 v u)(ho:own=En->aS C1 ω1 w w0.heap.size (.slot (o.dst.getD 0)) v u):
  dz P w0 C0 C nt ⟨oC e ao.dst v own,h⟩ (a.put o.dst u) w:=by
 rw[hd]
 cases Ms:o.dst with
 |none=>exact⟨G,C1,ω1,hle,li,m,he⟩
 |some d=>
  rw[Ms]at ho;refine⟨by simpa[Act.put]using G,C1,ω1,hle,li,m,?_⟩;exact he.putAt (G▸hf d Ms) Q ho
theorem Zn {o:Oper}{ao:bT}{e tmps ω w B b}(he:ar C ω w B e tmps)(hg:Ag ops o.guard=Eb ao.guard)(hb:nH e ao.guard=Eb b):Region.wanted o (yielded ops tmps)=b:=by
 unfold Region.wanted
 cases Zo:o.guard with
 |none=>
  rw[Zo]at hg;simp only[Ag,Eb.injEq]at hg;rw[<-hg]at hb;simp only[nH,Eb.injEq]at hb;exact hb
 |some g=>
  obtain⟨j,want⟩:=g;rw[Zo]at hg;simp only[Ag]at hg;split at hg
  .rename_i d hd;have hgd:=Eb.inj hg;rw[<-hgd]at hb;simp only[nH]at hb;split at hb
   .rename_i c ow hl;cases hb;obtain⟨v,Y,I,_⟩:=he d _ hl;have:=I.du;subst this;simp only[yielded,hd,Uw,Y];cases c<;>cases want<;>rfl
   .rename_i ow hl;cases hb;obtain⟨v,Y,I,_⟩:=he d _ hl
    have hv:v=.tuple #[]:=by cases I;rfl
    subst hv;simp only[yielded,hd,Uw,Y];rfl
   .cases hb
  .cases hg
theorem q8s {h md r d op n s y}(AV:∀t x z,op≠.store t x z):(cT P h md r d op).getD .bad≠.dq n s y:=by
 intro hc
 cases lj:cT P h md r d op with
 |none=>rw[lj]at hc;cases hc
 |some a=>
  rw[lj]at hc;simp only[Rh]at hc;subst hc;cases op<;>simp only[cT,cond_eq_ite]at lj<;>(try exact AV _ _ _ rfl)<;>(repeat' split at lj)<;>(try split at lj)<;>(try contradiction)<;>(try simp at lj)<;>(try (split at lj<;>simp at lj))<;>(try (unfold LJ at lj; (repeat' split at lj)<;>simp at lj))<;>(try (simp only[QY,EG]at lj; (repeat' split at lj)<;>simp at lj))<;>(try (simp only[Af]at lj; (repeat' split at lj)<;>(try contradiction)<;>(try simp at lj)<;>(try (split at lj<;>simp at lj))))
theorem Zp (eQ:ct P p)(M:cL P xc){i:Nat}{o:Oper}{ao:bT}{st bN:bj}{a:Act}{w:World}{aaj:Exit->Act->World->Prop}{K:Act->World->Prop}(hi:ops[i]?=Eb o)(Q:H7 P nt ops o ao)(G:ye p xc h0 ao st=Eb bN)(cq:dz P w0 C0 C nt st a w)
  (hK:∀a' w',dz P w0 C0 C nt bN a' w'->K a' w'):wpOpIn (iV ρ) 0 P ops aaj i K a w:=by
 obtain⟨da,C1,ω1,hle,li,m,he⟩:=cq;unfold wpOpIn;rw[hi];simp only[];unfold ye at G;split at G
 .rename_i hg;rw[Zn he Q.guard hg];simp only[if_true];split at G
  .rename_i res eC;cases G;obtain⟨h,md,r,hop⟩:=Q.op
   cases nR:ao.op.ij with
   |some sv=>
    -- the one write of a variable
    have AW:∃n y',ao.op=.dq n sv y':=by
     cases xP:ao.op<;>rw[xP]at nR<;>simp[cF.ij]at nR;subst nR;exact⟨_,_,rfl⟩
    obtain⟨n,y',xP⟩:=AW
    have hdd:ao.dst=Eb sv:=by rw[Q.dst,xP];rfl
    rw[xP]at eC hop
    have cq:∃t x y,o.op=.store t x y/\jp P t=Eb n/\qv x=Eb (.tmp sv)/\qv y=Eb y':=by
     cases hoo:o.op<;>rw[hoo]at hop
     case store t x y=>
      simp only[cT]at hop;split at hop
      .rename_i n' x' yy hn Y I;simp only[Rh]at hop
       cases mc:LK h x' with
       |none=>rw[mc]at hop;cases hop
       |some s'=>
        rw[mc]at hop;simp only[cF.dq.injEq]at hop;obtain⟨rfl,rfl,rfl⟩:=hop;refine⟨t,x,y,rfl,hn,?_,I⟩;unfold LK at mc;split at mc
        .split at mc
         .cases mc;exact Y
         .cases mc
        .cases mc
      .cases hop
     all_goals exact absurd hop (q8s (by simp))
    obtain⟨t,x,y,ho,hn,Y,I⟩:=cq;simp only[qg,qn]at eC;split at eC
    .rename_i mm v hl e2
     cases hk:(Hf mm n&&Hf v.flat.length n&&v.flat.all qm)with
     |false=>rw[hk]at eC;cases eC
     |true=>
      rw[hk]at eC;simp only[cond_true,val,Eb.injEq]at eC;subst eC;simp only[Eg]at hk;obtain⟨⟨k1,k2⟩,k3⟩:=hk;obtain rfl:=Eh k1;obtain⟨w',C',ω',bE,cV,m',e'⟩:=jb5 m he ho hn Y I hl e2 (Eh k2) k3;refine⟨fun _ _=>trivial,?_⟩;rw[Oper.semAt_eq _ _ _ (fun c hc=>by rw[ho]at hc;cases hc),bE];have Ms:o.dst=G0:=(Q.H8 sv nR).1;refine hK _ _ ?_;rw[Ms,hdd];exact⟨da,C',ω',aM.le_trans hle cV,li.mono cV,m',e'⟩
    .cases eC
   |none=>
   have sx:ao.dst=o.dst:=by rw[Q.dst];cases xP:ao.op<;>rw[xP]at nR<;>first|rfl|simp[cF.ij]at nR
   have bE:yg P C1 C0 w0 a (.slot (o.dst.getD 0)) st.env o w res:=by
    cases hc:cT P h md r o.dst o.op with
    |none=>rw[hc]at hop;simp only[Eae]at hop;rw[<-hop]at eC;simp[qg,qn]at eC|some cM=>rw[hc]at hop;simp only[Rh]at hop;subst hop;exact jsv eQ M m he nR hc eC
   have fin:∀v w',zo P C0 w0 C1 a.tmps (.slot (o.dst.getD 0)) st.env res v w'->K (a.put o.dst v) w':=by
    rintro v w' ⟨C2,ω2,Y,I,h3,h4,h5⟩;exact hK _ _ (Zm (st:=st) sx Q.fits da (li.mono Y) (aM.le_trans hle Y) I h3 h4 h5)
   refine⟨fun _ _=>trivial,?_⟩
   rw[Oper.semAt_eq _ _ _ (fun c hc=>by
    rw[hc]at hop;simp only[cT,Eae]at hop;rw[<-hop]at eC
    simp[qg,qn]at eC)]
   rcases bE with⟨v,w',Y,I⟩|⟨w',Y,I⟩|⟨f,args,Y,I⟩|⟨l,f,tmps,assign,body,Y,I⟩
   .rw[Y];exact fin v w' I
   .rw[Y];exact fin undef w' I
   .rw[Y];refine⟨fun h=>by simp[iV,Fence.wide]at h,CallsIn.mono (YU.2 I) ?_⟩;rintro e w' ⟨v,rfl,hO⟩;exact fin v w' hO
   .rw[Y];have jG:RoundIn (iV ρ) 0 P l f tmps assign body w _:=I;refine⟨fun h=>by simp[iV,Fence.wide]at h,RoundIn.mono jG ?_⟩;rintro e w' ⟨v,rfl,hO⟩;exact fin v w' hO
  .cases G
 .rename_i hg;cases G;rw[Zn he Q.guard hg];simp only[Hp,if_false]
  have sx:ao.dst=o.dst:=by
   cases nR:ao.op.ij with
   |none=>rw[Q.dst];cases xP:ao.op<;>rw[xP]at nR<;>first|rfl|simp[cF.ij]at nR
   |some sv=>
    have Y:=Q.guard;rw[(Q.H8 sv nR).2]at Y;simp only[Ag,Eb.injEq]at Y;rw[<-Y]at hg;simp[nH]at hg
  exact⟨fun _ _=>trivial,hK _ _ (Zm (st:=st) sx Q.fits da li hle m he .undef (by simp))⟩
 .cases G
inductive mF (P:Program)(nt:Nat)(ops:Array Oper):List Nat->List bT->Prop where
 |nil:mF P nt ops [] []
 |cons {i:Nat} {o:Oper} {ao:bT} {l:List Nat} {lo:List bT} (hi:ops[i]?=Eb o) (h:H7 P nt ops o ao) (t:mF P nt ops l lo):mF P nt ops (i::l) (ao::lo)
theorem Zq (eQ:ct P p)(M:cL P xc){aaj bN}(hQ:∀a' w',dz P w0 C0 C nt bN a' w'->aaj .normal a' w'):∀ {l:List Nat} {lo:List bT} {st:bj} {a:Act} {w:World},mF P nt ops l lo->fH p xc h0 lo st=Eb bN->dz P w0 C0 C nt st a w->wpOpsIn (iV ρ) 0 P ops aaj l a w
 | [],_,st,a,w,.nil,G,cq=>by
  simp only[fH,Eb.injEq]at G;subst G;exact hQ _ _ cq
 |i::l,_,st,a,w,.cons hi h t,G,cq=>by
  simp only[fH]at G;split at G
  .rename_i s1 Y;rw[wpOpsIn_cons];exact Zp eQ M hi h Y cq fun a' w' iw=>Zq eQ M hQ t G iw
  .cases G
theorem Zr {h id eF draw}:∀ {os:List Oper} {i:Nat} {rs EH:List (Nat×Nat)} {l:List bT},GQ P h nt id ops eF draw os i rs=Eb (l,EH)->(∀j,os[j]?=ops[i+j]?)->mF P nt ops (List.range' i os.length) l
 | [],i,rs,EH,l,hc,_=>by
  simp only[GQ,Eb.injEq,Oz.injEq]at hc;rw[<-hc.1];exact .nil
 |o::os,i,rs,EH,l,hc,Zs=>by
  simp only[GQ]at hc;split at hc
  .rename_i g hg;split at hc
   .rename_i cG;split at hc
    .rename_i l1 rs1 H9;simp only[Eb.injEq,Oz.injEq]at hc;rw[<-hc.1];simp only[Eg]at cG;obtain⟨⟨Zt,Zu⟩,Zv⟩:=cG;refine .cons (o:=o) (by rw[<-Yv i,<-Zs 0];rfl) ⟨⟨h,QZ h id i,rs.length,rfl⟩,hg,rfl,fun d hd=>?_,fun d hd=>?_,fun d hd=>?_⟩ ?_
     .rw[hd]at Zt;simpa using Zt
     .simp only at hd;rw[hd]at Zu;simpa using Zu
     .simp only at hd;rw[hd]at Zv;simpa using Zv
     .exact Zr H9 (fun j=>by rw[show i+1+j=i+(j+1)from by omega,<-Zs (j+1)];rfl)
    .cases hc
   .cases hc
  .cases hc
theorem aA.holes {ω w hp}(m:aA P C ω w0 C0 hp w)(n:Nat):aA P C ω w0 C0 (hp++Uy n .hole) w:=
 { m with
  lt:=fun b r hb=>⟨(m.lt b r hb).1,by rw[List.length_append];have:=(m.lt b r hb).2;omega⟩
  box:=fun b x r M hb=>m.box b x r (by rw[List.getElem?_append_left (m.lt b r hb).2]at M;exact M) hb }
theorem q63 {l e s x}:jm s (rG e l)=Eb x->jm s e=Eb x:=by
 induction l with
 |nil=>simp[rG,jm]
 |cons t l ih=>
  intro h;simp only[rG]at h;split at h
  .rename_i y hy;by_cases cq:s=t
   .subst cq;rw[E6]at h;rw[hy];exact h
   .rw[Mq cq]at h;exact ih h
  .exact ih h
theorem dz.keep {st a w k}(h:dz P w0 C0 C nt st a w):dz P w0 C0 C nt (Ad st k) a w:=by
 cases k with
 |none=>exact h
 |some l=>
  obtain⟨Y,C',ω',h3,I,h4,h5⟩:=h;exact⟨Y,C',ω',h3,I,h4,fun s x M=>h5 s x (q63 M)⟩
theorem Zw {listed:Array Bool}{i j d}:(listed.setIfInBounds i En).getD j d=if i=j/\j<listed.size then En else listed.getD j d:=by
 simp only[He,Array.getElem?_setIfInBounds];by_cases vH:i=j
 .subst vH;by_cases hl:i<listed.size
  .simp[hl]
  .simp[hl]
 .simp[vH]
theorem jF.Ia {a b}(h:jF a b):jF b a:=⟨h.1.symm,fun s=>(h.2 s).symm⟩
def pick (full:List bT)(l:List Nat):List bT:=l.map fun i=>full.getD i default
theorem mF.get {l lo}(h:mF P nt ops l lo):l.length=lo.length/\∀k i,l[k]?=Eb i->∃o,ops[i]?=Eb o/\H7 P nt ops o (lo.getD k default):=by
 induction h with
 |nil=>exact⟨rfl,by simp⟩
 |cons hi h t ih=>
  refine⟨by simp[ih.1],fun k i hk=>?_⟩
  cases k with
  |zero=>simp at hk;subst hk;exact⟨_,hi,h⟩|succ k=>simp at hk;obtain⟨o,Y,I⟩:=ih.2 k i hk;exact⟨o,Y,by simpa using I⟩
theorem jtl {full:List bT}{eF:Array Nat}(eQ:ct P p)(M:cL P xc){aaj bN}(hQ:∀a' w',dz P w0 C0 C nt bN a' w'->aaj .normal a' w')
  (sA:∀i o,ops[i]?=Eb o->H7 P nt ops o (full.getD i default)) (Ib:∀i j,i<j->j<ops.size->(eF.getD j 0).testBit i=Hd->Aj (full.getD i default) (full.getD j default)=En)
  (vP:∀j o i,ops[j]?=Eb o->i<ops.size->(eF.getD j 0).testBit i=En->∃e∈o.after,Region.binds .any e=En/\(e.on=i\/(eF.getD e.on 0).testBit i=En))
  (Ic:∀i o,ops[i]?=Eb o->∀e∈o.after,Region.binds .any e=En->e.on<i):
  ∀(fuel:Nat) (listed:Array Bool) (l:List Nat) (st s2:bj) (a:Act) (w:World),listed.size=ops.size->l.Pairwise (· < ·)->(∀i,i∈l↔i<ops.size/\listed.getD i En=Hd)->l.length<=fuel ->
   (∀k i,i<ops.size->listed.getD k Hd=En->(eF.getD k 0).testBit i=En->listed.getD i Hd=En)->fH p xc h0 (pick full l) st=Eb s2->jF s2 bN->dz P w0 C0 C nt st a w->wpAnyIn (iV ρ) 0 P .any ops aaj fuel listed a w:=by
 intro fuel
 induction fuel with
 |zero=>
  intro listed l st s2 a w da gj dk hlen ll G heq cq;have hl:l=[]:=L5.1 (by omega);subst hl;simp only[pick,Eam,fH,Eb.injEq]at G;subst G;refine⟨?_,hQ _ _ (cq.eqv heq)⟩
  cases Q:Region.ready .any ops listed with
  |nil=>rfl
  |cons i rs=>
   have hi:i∈Region.ready .any ops listed:=by rw[Q];simp
   obtain⟨Y,o,ho,_⟩:=mem_ready.1 hi;have:=(dk i).2 ⟨(G4.1 ho).1,Y⟩;cases this
 |succ fuel ih=>
  intro listed l st s2 a w da gj dk hlen ll G heq cq;refine⟨fun Q=>?_,fun i hi=>?_⟩
  .cases l with
   |nil=>
    simp only[pick,Eam,fH,Eb.injEq]at G;subst G;exact hQ _ _ (cq.eqv heq)
   |cons i l=>
    exfalso;obtain⟨Y,I⟩:=(dk i).1 (by simp)
    have hi:i∈Region.ready .any ops listed:=by
     refine mem_ready.2 ⟨I,ops[i],Ov Y,fun e he hb=>?_⟩;have bh:=Ic i _ (Ov Y) e he hb
     have bI:e.on ∉ i::l:=fun hm=>by
      rcases R2.1 hm with h|h
      .omega
      .have:=(Xy.1 gj).1 _ h;omega
     have h3:¬(listed.getD e.on En=Hd):=fun h=>bI ((dk e.on).2 ⟨by omega,h⟩)
     have sB:e.on<listed.size:=by omega
     simp only[He,Ov sB,Rh]at h3 ⊢;simpa using h3
    rw[Q]at hi;cases hi
  .obtain⟨Y,o,ho,hall⟩:=mem_ready.1 hi;have bh:=(G4.1 ho).1;have him:i∈l:=(dk i).2 ⟨bh,Y⟩;obtain⟨l1,l2,rfl⟩:=List.append_of_mem him
   have SC:∀k,k∈l1++i::l2->listed.getD k Hd=En->False:=fun k hk hl=>by
    obtain⟨k1,k2⟩:=(dk k).1 hk
    have sB:k<listed.size:=by omega
    simp only[He,Ov sB,Rh]at hl k2;rw[hl]at k2;cases k2
   have Zx:∀k,k<ops.size->(eF.getD i 0).testBit k=En->listed.getD k Hd=En:=fun k hk hb=>by
    obtain⟨e,he,lM,I|I⟩:=vP i o k ho hk hb
    .rw[<-I];exact hall e he lM
    .exact ll e.on k hk (hall e he lM) I
   have hm:∀b∈pick full l1,Aj b (full.getD i default)=En:=by
    intro b hb;obtain⟨k,hk,rfl⟩:=Eal.1 hb;have AX:k<i:=(Xl.1 gj).2.2 k hk i (by simp);refine Ib k i AX bh ?_
    cases SD:(eF.getD i 0).testBit k with
    |false=>rfl|true=>exact(SC k (by simp[hk]) (Zx k (by omega) SD)).elim
   have SE:pick full (l1++i::l2)=pick full l1++full.getD i default::pick full l2:=by simp[pick]
   rw[SE]at G;obtain⟨t1,t2,g1,g2,g3⟩:=Zk hm G;refine Zp eQ M ho (sA i o ho) g1 cq fun a' w' iw=>?_;refine ih (listed.setIfInBounds i En) (l1++l2) t1 t2 a' w' (by simpa using da) ?_ ?_ ?_ ?_ (by rw[show pick full (l1++l2)=pick full l1++pick full l2 from by simp[pick]];exact g2) (jF.trans (jF.Ia g3) heq) iw
   .exact gj.sublist (Ean.append (Ean.refl _) (List.sublist_cons_self _ _))
   .intro k;rw[Zw]
    have Ie:i ∉ l1/\i ∉ l2:=by
     have h:=Xl.1 gj;refine⟨fun hi1=>?_,fun SF=>?_⟩
     .have:=h.2.2 i hi1 i (by simp);omega
     .have:=(Xy.1 h.2.1).1 i SF;omega
    constructor
    .intro hk
     have AX:k≠i:=fun h=>by
      subst h;rcases Ru.1 hk with h|h
      .exact Ie.1 h
      .exact Ie.2 h
     have:=(dk k).1 (by rcases Ru.1 hk with h|h<;>simp[h]);rw[if_neg (by omega)];exact this
    .rintro ⟨k1,k2⟩;split at k2
     .cases k2
     .rename_i bI;have AX:k≠i:=fun h=>bI ⟨h.symm,by omega⟩;have:=(dk k).2 ⟨k1,k2⟩;rcases Ru.1 this with h|h
      .simp[h]
      .rcases R2.1 h with h|h
       .exact absurd h AX
       .simp[h]
   .simp at hlen ⊢;omega
   .intro k j hj hk hb;rw[Zw]at hk ⊢;split
    .rfl
    .split at hk
     .rename_i SG;rw[<-SG.1]at hb;exact Zx j hj hb
     .exact ll k j hj hk hb
theorem q8o {eF l}(h:Q6 eF l=En){i j}(vH:i<j)(hj:j<l.length)(hb:(eF.getD j 0).testBit i=Hd):Aj (l.getD i default) (l.getD j default)=En:=by
 unfold Q6 at h;rw[Hs]at h;have Y:=h (l[j],j) (L8.2 (by simp[hj]));simp only[]at Y;rw[Hs]at Y;have I:=Y (l[i]'(by omega),i) (L8.2 (by simp));simp only[vH,hb,decide_true,Xn,Uv]at I;simp only[List.getD_eq_getElem?_getD,Hz hj,Hz (show i<l.length by omega),Rh];exact I
theorem jce {eF}(h:Q8 eF ops=En){j i o}(ho:ops[j]?=Eb o)(hi:i<ops.size)(hb:(eF.getD j 0).testBit i=En):∃e∈o.after,Region.binds .any e=En/\(e.on=i\/(eF.getD e.on 0).testBit i=En):=by
 unfold Q8 at h;rw[Hs]at h;have Y:=h (o,j) (L8.2 (by simpa using ho));simp only[]at Y;rw[Hs]at Y;have I:=Y i (Eaj.2 hi);rw[hb]at I;simp only[Xn,Uv,Array.any_eq_true']at I;obtain⟨e,he,h3⟩:=I;simp only[Eg,Rq,beq_iff_eq]at h3;exact⟨e,he,h3.1,h3.2⟩
theorem q75 (h:Q7 ops=En){i o}(ho:ops[i]?=Eb o):∀e∈o.after,Region.binds .any e=En->e.on<i:=by
 intro e he hb;unfold Q7 at h;rw[Hs]at h;have Y:=h (o,i) (L8.2 (by simpa using ho));simp only[Yd]at Y;have:=Y e he;simpa[hb]using this
theorem jgy (eQ:ct P p)(M:cL P xc){id:Nat}{draw:Bool}{ca h na l keep}(hc:GU P h nt id ops draw=Eb ca)(eo:ca=.region na l keep){st bN x}(G:lI p xc na l keep st=Eb (x,bN)){ω a w}
  (m:aA P C ω w0 C0 st.heap w) (he:ar C ω w w0.heap.size st.env a.tmps) (da:a.tmps.size=nt) (li:Marks C w0.heap.size a.defers):
  (Code.region id ops draw).wpIn (iV ρ) 0 P (fun e a' w'=>e=AH x/\dz P w0 C0 C nt bN a' w') a w:=by
 subst eo;unfold GU at hc;split at hc
 .rename_i l' rs hl;split at hc
  .rename_i hd;simp only[Eb.injEq,aQ.region.injEq]at hc;obtain⟨rfl,rfl,oK⟩:=hc;unfold lI at G;split at G
   .rename_i s1 Y;cases G
    have xQ:mF P nt ops (List.range' 0 ops.size) l':=by
     have:=Zr hl (ops:=ops) (fun j=>by simp);simpa using this
    have hQ:∀a' w',dz P w0 C0 C nt s1 a' w'->(fun e a' w'=>e=AH .normal/\dz P w0 C0 C nt (Ad s1 keep) a' w') Exit.normal a' w':=fun a' w' cq=>⟨rfl,cq.keep⟩
    cases draw with
    |false=>
     refine wpIn_region ?_;rw[List.range_eq_range'];exact Zq eQ M hQ xQ Y ⟨da,C,ω,aM.le_refl C,li,m.holes _,he⟩
    |true=>
     simp only[Xn,Uv,Eg]at hd;obtain⟨⟨d1,d2⟩,d3⟩:=hd;refine wpIn_region_any eQ.mixed ?_;obtain⟨hlen,SH⟩:=xQ.get
     have Zy:l'.length=ops.size:=by rw[<-hlen];simp
     have sA:∀i o,ops[i]?=Eb o->H7 P nt ops o (l'.getD i default):=by
      intro i o ho;have hi:=(G4.1 ho).1;obtain⟨o',I,h3⟩:=SH i i (by rw[List.getElem?_range' hi];simp);rw[ho]at I;cases I;exact h3
     have SE:pick l' (Nt ops.size)=l':=by
      apply Vf;intro k;simp only[pick,J5];by_cases hk:k<ops.size
      .rw[If hk];simp[Hz (show k<l'.length by omega)]
      .rw[Xb (by simpa using hk),Xb (by omega)];rfl
     refine jtl (eF:=Region.before ops) (full:=l') eQ M hQ sA (fun i j I h3 h4=>q8o d1 I (by omega) h4) (fun j o i I h3 h4=>jce d3 I h3 h4) (fun i o I=>q75 d2 I) ops.size _ (Nt ops.size) ⟨st.env,st.heap++Uy rs.length .hole⟩ s1 a _ (by simp) List.pairwise_lt_range ?_ (by simp) ?_ (by rw[SE];exact Y) (jF.refl _) ⟨da,C,ω,aM.le_refl C,li,(m.holes _).ext (Ext.drew w),he.ext (Ext.drew w)⟩
     .intro i;simp only[Eaj,He,Vg];constructor
      .intro hi;exact⟨hi,by simp[hi]⟩
      .exact fun hi=>hi.1
     .intro k i hi hk;simp only[He,Vg]at hk;split at hk<;>simp at hk
   .cases G
  .cases hc
 .cases hc
end
section
variable {P:Program}{C C0:aM}{ω:Nat->Option Loc}{w w0:World}{hp:qi}{env:Env}{a:Act}{ρ:Option Nat}
theorem vQ {a:Act}{d:Nat}{v:Value}(h:d<a.tmps.size):(a.put (Eb d) v).eval (.tmp d)=v:=by
 simp[Act.eval,Act.put,He,h]
theorem pA {a:Act}{d j:Nat}{v:Value}(h:d≠j):(a.put (Eb d) v).eval (.tmp j)=a.eval (.tmp j):=by
 simp[Act.eval,Act.put,He,Q0 h]
theorem sC {a:Act}{d:Nat}{v:Value}:(a.put (Eb d) v).tmps.size=a.tmps.size:=by simp[Act.put]
theorem uj {ops:Array Oper}{aaj:Exit->Act->World->Prop}{i d:Nat}{rest:List Nat}{o:Oper}{v:Value}{w':World}(hi:ops[i]?=Eb o)(hg:o.guard=G0)(hd:o.dst=Eb d)(hn:∀c,o.op≠.defer c)(bE:(execOp a.eval o).run P w=.ok (.value v) w')
  (hk:wpOpsIn (iV ρ) 0 P ops aaj rest (a.put (Eb d) v) w'):wpOpsIn (iV ρ) 0 P ops aaj (i::rest) a w:=by
 rw[wpOpsIn_cons];unfold wpOpIn;rw[hi];simp only[];rw[show Region.wanted o (yielded ops a.tmps)=En from by simp[Region.wanted,hg]];simp only[if_true];refine⟨fun _ _=>trivial,?_⟩;rw[Oper.semAt_eq _ _ _ hn,bE];rw[<-hd]at hk;exact hk
theorem Mt {s d:Nat}{o:Oper}(h:EJ s d o=En):o.op=.move (.tmp s)/\o.dst=Eb d/\o.guard=G0:=by
 unfold EJ at h;split at h
 .rename_i Y I h3;simp only[Eg,beq_iff_eq]at h;obtain⟨rfl,rfl⟩:=h;exact⟨Y,I,h3⟩
 .cases h
theorem q6b {s d:Nat}{o:Oper}(h:Q9 s d o=En):o.op=.assign (.tmp s)/\o.dst=Eb d/\o.guard=G0:=by
 unfold Q9 at h;split at h
 .rename_i Y I h3;simp only[Eg,beq_iff_eq]at h;obtain⟨rfl,rfl⟩:=h;exact⟨Y,I,h3⟩
 .cases h
theorem jkk {x d:Nat}{o:Oper}{t:TypeId}(h:Ra x d o=Eb t):∃c,o.op=.call c/\c.callee=.builtin .cap/\c.args=#[.tmp x]/\c.argTypes=#[t]/\o.dst=Eb d/\o.guard=G0:=by
 unfold Ra at h;split at h
 .rename_i c _ Y I h3;split at h
  .rename_i h4 h5 h6;split at h
   .rename_i hk;simp only[Eg,beq_iff_eq]at hk;obtain⟨rfl,rfl⟩:=hk;cases h;exact⟨c,Y,h4,by apply L6;simpa using h5,by apply L6;simpa using h6,I,h3⟩
   .cases h
  .cases h
 .cases h
theorem jif {x d:Nat}{o:Oper}{t:TypeId}(h:Rb x d o=Eb t):∃c,o.op=.call c/\c.callee=.builtin .len/\c.args=#[.tmp x]/\c.argTypes=#[t]/\o.dst=Eb d/\o.guard=G0:=by
 unfold Rb at h;split at h
 .rename_i c _ Y I h3;split at h
  .rename_i h4 h5 h6;split at h
   .rename_i hk;simp only[Eg,beq_iff_eq]at hk;obtain⟨rfl,rfl⟩:=hk;cases h;exact⟨c,Y,h4,by apply L6;simpa using h5,by apply L6;simpa using h6,I,h3⟩
   .cases h
  .cases h
 .cases h
theorem Zz {x h d:Nat}{o:Oper}{t:TypeId}(hh:LL x h d o=Eb t):o.op=.slice t (.tmp x) G0 (Eb (.tmp h)) G0/\o.dst=Eb d/\o.guard=G0:=by
 unfold LL at hh;split at hh
 .rename_i Y I h3;split at hh
  .rename_i hk;simp only[Eg,beq_iff_eq]at hk;obtain⟨⟨rfl,rfl⟩,rfl⟩:=hk;cases hh;exact⟨Y,I,h3⟩
  .cases hh
 .cases hh
theorem jia {x y d:Nat}{o:Oper}{t u:TypeId}(h:Rc x y d o=Eb (t,u)):∃c,o.op=.call c/\c.callee=.builtin .append/\c.args=#[.tmp x,.tmp y]/\c.argTypes=#[t,u]/\o.dst=Eb d/\o.guard=G0:=by
 unfold Rc at h;split at h
 .rename_i c _ Y I h3;split at h
  .rename_i h4 h5 h6;split at h
   .rename_i hk;simp only[Eg,beq_iff_eq]at hk;obtain⟨⟨rfl,rfl⟩,rfl⟩:=hk;cases h;exact⟨c,Y,h4,by apply L6;simpa using h5,by apply L6;simpa using h6,I,h3⟩
   .cases h
  .cases h
 .cases h
theorem ZA {o:Oper}{t e:TypeId}{x h:Nat}{b:Option Addr}{len cap n:Nat}(ho:o.op=.slice t (.tmp x) G0 (Eb (.tmp h)) G0)(ht:P.underlying t=Eb (.slice e)){sz:Nat}(hn:jp P e=Eb sz)(M:a.eval (.tmp x)=.slice b len cap)(hh:a.eval (.tmp h)=.int .i64 (n:Int))(hle:n<=cap):
  (execOp a.eval o).run P w=.ok (.value (.slice (if cap=0 then b else b.map (·.add 0)) n cap)) w:=by
 have hb:(0:Int)<=n/\(n:Int)<=cap:=by omega
 simp[execOp,ho,Instr.sliceAt,Instr.slice,run_underlying ht,M,Instr.sliceBounds,hh,Instr.sliceBound,asIntOf,hle,yn hn]
theorem jo3 {id nt:Nat}{ops:Array Oper}{sz:Nat}(hg:GV P nt ops=Eb sz)(m:aA P C ω w0 C0 hp w)(he:ar C ω w w0.heap.size env a.tmps)(da:a.tmps.size=nt)(SI:Marks C w0.heap.size a.defers){z k:Nat}{xs:List AVal}{o1 o2:Bool}
  (h0:jm 0 env=Eb (.list En z xs,o1)) (Y:jm 1 env=Eb (.int .i64 (.ofNat k),o2)) (hk0:0<k) (gI:k<=1073741824):
  (Code.region id ops Hd).wpIn (iV ρ) 0 P (fun e a' w'=>e=.normal/\dz P w0 C0 C nt ⟨[(0,.list Hd sz [],En)],hp⟩ a' w') a w:=by
 unfold GV at hg;split at hg
 .rename_i t u qN;split at hg
  .rename_i e kk ht hu;split at hg
   .rename_i i hi;split at hg
    .rename_i hc;cases hg;simp only[Eg,decide_eq_true_eq,Option.isSome_iff_exists,beq_iff_eq]at hc;obtain⟨⟨⟨⟨⟨⟨zv,hz⟩,Mu⟩,SJ⟩,hnt⟩,⟨zl,il⟩⟩,rN⟩:=hc
     have xR:jp P e=Eb i.size:=by simp[jp,hi]
     unfold XX at qN;split at qN
     .rename_i p0 p1 p2 p3 p4 p5 p6 p7 p8 p9 SK;split at qN
      .rename_i t2 t3 tt uu t7 t8 g2 g3 g5 g7 g8;split at qN
       .rename_i dM;cases qN;simp only[Eg,beq_iff_eq]at dM;obtain⟨⟨⟨⟨⟨⟨⟨⟨c0,c1⟩,c4⟩,c6⟩,c9⟩,x2⟩,x3⟩,x7⟩,x8⟩:=dM;replace x2:=x2.symm;replace x3:=x3.symm;replace x7:=x7.symm;replace x8:=x8.symm;subst x2;subst x3;subst x7;subst x8
        have Ig:ops=#[p0,p1,p2,p3,p4,p5,p6,p7,p8,p9]:=by apply L6;simpa using SK
        subst Ig;obtain⟨v0,q0,r0,_⟩:=he 0 _ h0;obtain⟨v1,q1,r1,_⟩:=he 1 _ Y
        have iF:v0=.slice G0 0 0:=by
         rcases r0.cQ with⟨_,_,h⟩|⟨h,_⟩|⟨h,_⟩
         .exact h
         .cases h
         .cases h
        have oG:v1=.int .i64 (k:Int):=by cases r1;rfl
        subst iF;subst oG
        have hl:26<=a.tmps.size:=by omega
        have e0:a.eval (.tmp 0)=.slice G0 0 0:=by simp[Act.eval,He,q0]
        have e1:a.eval (.tmp 1)=.int .i64 (k:Int):=by simp[Act.eval,He,q1]
        obtain⟨O,a0d,a0g⟩:=Mt c0;obtain⟨J,a1d,a1g⟩:=Mt c1;obtain⟨cc2,a2,b2,b2a,b2t,a2d,a2g⟩:=jkk g2;obtain⟨a3,a3d,a3g⟩:=Zz g3;obtain⟨a4,a4d,a4g⟩:=Mt c4;obtain⟨cc5,a5,b5,b5a,b5t,a5d,a5g⟩:=jia g5;obtain⟨a6,a6d,a6g⟩:=Mt c6;obtain⟨cc7,a7,b7,b7a,b7t,a7d,a7g⟩:=jif g7;obtain⟨a8,a8d,a8g⟩:=Zz g8;obtain⟨a9,a9d,a9g⟩:=q6b c9;refine wpIn_region ?_;rw[show Nt (#[p0,p1,p2,p3,p4,p5,p6,p7,p8,p9]:Array Oper).size=[0,1,2,3,4,5,6,7,8,9]from rfl];refine uj (o:=p0) rfl a0g a0d (by simp[O]) (v:=.slice G0 0 0) (w':=w) (by simp[execOp,O,e0]) ?_;refine uj (o:=p1) rfl a1g a1d (by simp[J]) (v:=.slice G0 0 0) (w':=w) (by simp[execOp,J,pA,e0]) ?_;refine uj (o:=p2) rfl a2g a2d (by simp[a2]) (v:=.int .i64 0) (w':=w) ?_ ?_
        .have:(((a.put (Eb 17) (.slice G0 0 0)).put (Eb 18) (.slice G0 0 0))).eval (.tmp 18)=.slice G0 0 0:=vQ (by rw[sC];omega);simp[execOp,a2,resolve,b2,b2a,b2t,invoke,builtin,Builtin.cap_,run_underlying ht,this,goInt]
        refine uj (o:=p3) rfl a3g a3d (by simp[a3]) (v:=.slice G0 0 0) (w':=w) ?_ ?_
        .have uk:((((a.put (Eb 17) (.slice G0 0 0)).put (Eb 18) (.slice G0 0 0))).put (Eb 19) (.int .i64 0)).eval (.tmp 17)=.slice G0 0 0:=by
          rw[pA (by omega),pA (by omega),vQ (by omega)]
         have xS:((((a.put (Eb 17) (.slice G0 0 0)).put (Eb 18) (.slice G0 0 0))).put (Eb 19) (.int .i64 0)).eval (.tmp 19)=.int .i64 ((0:Nat):Int):=by
          rw[vQ (by rw[sC,sC];omega)];rfl
         have:=ZA (P:=P) (w:=w) (o:=p3) a3 ht xR uk xS (U6 0);simpa using this
        refine uj (o:=p4) rfl a4g a4d (by simp[a4]) (v:=.int .i64 (k:Int)) (w':=w) (by simp[execOp,a4,pA,e1]) ?_
        have mC:=Lib.run_append_nil_zeros w t u p5.type e i zv .i64 kk ht hu hi hz k hk0 Mu (by omega) (by
         have:k*i.bytes<=1073741824*4096:=Nat.mul_le_mul gI SJ
         omega)
        refine uj (o:=p5) rfl a5g a5d (by simp[a5]) (v:=.slice (Eb ⟨w.heap.size,0,G0⟩) k (grownCap w k 0 e)) (w':=w.drew.alloc (.cells (Builtin.zeroCells zv.cells k++Builtin.zeroCells zv.cells (grownCap w k 0 e-k)) e)) ?_ ?_
        .generalize hA:(((((a.put (Eb 17) (.slice G0 0 0)).put (Eb 18) (.slice G0 0 0)).put (Eb 19) (.int .i64 0)).put (Eb 20) (.slice G0 0 0)).put (Eb 21) (.int .i64 (k:Int)))=A
         have sE:A.eval (.tmp 20)=.slice G0 0 0:=by
          rw[<-hA,pA (by omega),vQ (by simp only[sC];omega)]
         have sF:A.eval (.tmp 21)=.int .i64 (k:Int):=by
          rw[<-hA,vQ (by simp only[sC];omega)]
         simp[execOp,a5,resolve,b5,b5a,b5t,invoke,builtin,sE,sF,mC]
        generalize hW:w.drew.alloc (.cells (Builtin.zeroCells zv.cells k++Builtin.zeroCells zv.cells (grownCap w k 0 e-k)) e)=W;generalize hA:(((((a.put (Eb 17) (.slice G0 0 0)).put (Eb 18) (.slice G0 0 0)).put (Eb 19) (.int .i64 0)).put (Eb 20) (.slice G0 0 0)).put (Eb 21) (.int .i64 (k:Int)))=A
        have ZB:A.eval (.tmp 0)=.slice G0 0 0:=by rw[<-hA];simp only[pA (show(21:Nat)≠0 by omega),pA (show(20:Nat)≠0 by omega),pA (show(19:Nat)≠0 by omega),pA (show(18:Nat)≠0 by omega),pA (show(17:Nat)≠0 by omega),e0]
        have hAs:A.tmps.size=a.tmps.size:=by rw[<-hA];simp only[sC]
        have hAd:A.defers=a.defers:=by rw[<-hA];rfl
        generalize ZC:grownCap w k 0 e=cp
        have hcap:k<=cp:=by rw[<-ZC];simpa using grownCap_ge w k 0 e
        refine uj (o:=p6) rfl a6g a6d (by simp[a6]) (v:=.slice G0 0 0) (w':=W) (by simp[execOp,a6,pA,ZB]) ?_;refine uj (o:=p7) rfl a7g a7d (by simp[a7]) (v:=.int .i64 0) (w':=W) ?_ ?_
        .generalize hB:((A.put (Eb 22) (.slice (Eb ⟨w.heap.size,0,G0⟩) k cp)).put (Eb 23) (.slice G0 0 0))=B
         have sG:B.eval (.tmp 23)=.slice G0 0 0:=by
          rw[<-hB,vQ (by rw[sC];omega)]
         simp[execOp,a7,resolve,b7,b7a,b7t,invoke,builtin,Builtin.len_,run_underlying ht,sG,goInt]
        refine uj (o:=p8) rfl a8g a8d (by simp[a8]) (v:=.slice (Eb ⟨w.heap.size,0,G0⟩) 0 cp) (w':=W) ?_ ?_
        .generalize hB:(((A.put (Eb 22) (.slice (Eb ⟨w.heap.size,0,G0⟩) k cp)).put (Eb 23) (.slice G0 0 0)).put (Eb 24) (.int .i64 0))=B
         have pB:B.eval (.tmp 22)=.slice (Eb ⟨w.heap.size,0,G0⟩) k cp:=by
          rw[<-hB,pA (by omega),pA (by omega),vQ (by omega)]
         have vR:B.eval (.tmp 24)=.int .i64 ((0:Nat):Int):=by
          rw[<-hB,vQ (by simp only[sC];omega)];rfl
         have:=ZA (P:=P) (w:=W) (o:=p8) a8 ht xR pB vR (Nat.zero_le cp);rw[if_neg (by omega)]at this;simp only[Option.map_some,add_lit,Yv]at this;exact this
        refine uj (o:=p9) rfl a9g a9d (by simp[a9]) (v:=.slice (Eb ⟨w.heap.size,0,G0⟩) 0 cp) (w':=W) ?_ ?_
        .have vS:((((A.put (Eb 22) (.slice (Eb ⟨w.heap.size,0,G0⟩) k cp)).put (Eb 23) (.slice G0 0 0)).put (Eb 24) (.int .i64 0)).put (Eb 25) (.slice (Eb ⟨w.heap.size,0,G0⟩) 0 cp)).eval (.tmp 25)=.slice (Eb ⟨w.heap.size,0,G0⟩) 0 cp:=by
          rw[vQ (by simp only[sC];omega)]
         simp[execOp,a9,vS]
        -- the end
        have ZD:=Ext.drew w;obtain⟨zs,zvr,Ih,cR,l5⟩:=tW (C:=C) il
        have nM:zv.cells.size=i.size:=by
         have h3:zl.length=i.size:=by rw[il]at rN;simpa using rN
         have h4:=cR.length
         have h5:zvr=zv:=by
          have:=Ih w;simp[zeroValue,typeInfo,hi,hz]at this;exact this.symm
         subst h5;simp only[Xm]at h4;omega
        have hO:=L2 (d:=.slot 0) (tmps:=a.tmps) (m.ext ZD) (he.ext ZD) (Builtin.zeroCells zv.cells k++Builtin.zeroCells zv.cells (cp-k)) e [] i.size cp [] (by simpa using aJ.nil) (by simp) (by simp) (by simp) (by simp) (by
         have hlen:∀n,(Builtin.zeroCells zv.cells n).size=n*i.size:=fun n=>by simp[Builtin.zeroCells,nM]
         rw[Array.size_append,hlen,hlen,<-Nat.add_mul]
         exact Nat.mul_le_mul_right _ (by omega)) G0
        rw[ZC]at hW;rw[hW]at hO;have hd0:w.drew.heap.size=w.heap.size:=rfl;rw[hd0]at hO;simp only[List.length_nil]at hO;clear hW ZB Ih cR;generalize hB:(((A.put (Eb 22) (.slice (Eb ⟨w.heap.size,0,G0⟩) k cp)).put (Eb 23) (.slice G0 0 0)).put (Eb 24) (.int .i64 0)).put (Eb 25) (.slice (Eb ⟨w.heap.size,0,G0⟩) 0 cp)=B
        have hBs:B.tmps.size=a.tmps.size:=by rw[<-hB];simp only[sC];omega
        have hBd:B.defers=a.defers:=by rw[<-hB,<-hAd];rfl
        obtain⟨C',ω',k1,k2,k3,k4,k5⟩:=hO
        have mG:dz P w0 C0 C nt ⟨[(0,.list Hd i.size [],En)],hp⟩ (B.put (Eb 0) (.slice (Eb ⟨w.heap.size,0,G0⟩) 0 cp)) W:=by
         refine⟨by rw[sC];omega,C',ω',k1,?_,k2,?_⟩
         .rw[show(B.put (Eb 0) (.slice (Eb ⟨w.heap.size,0,G0⟩) 0 cp)).defers=B.defers from rfl,hBd];exact SI.mono k1
         .intro s x M;simp only[jm]at M
          cases hb:Hf 0 s with
          |false=>simp[hb]at M
          |true=>
           have:=Eh hb;subst this;simp only[hb,cond_true,Eb.injEq]at M;subst M;exact⟨_,by simp only[Act.put];rw[Array.getElem?_setIfInBounds_self_of_lt (by omega)],k4,k5⟩
        simp only[wpOpsIn];exact⟨trivial,mG⟩
       .cases qN
      .cases qN
     .cases qN
    .cases hg
   .cases hg
  .cases hg
 .cases hg
end
def fP (ρ:Option Nat)(P:Program)(c:Code)(aaj:Exit->Act->World->Prop)(a:Act)(w:World):Prop:=
 ∀(b:Frame) (k:List Item) (cs:List Frame),b.roundOf=(iV ρ).round->(iV ρ).fn b.fn->(iV ρ).room (cs.length+1+0) ->
  ∃e a' w',aaj e a' w'/\ArrivesIn (Machine.fenced P (iV ρ)) P (lone (b.atR a (.code c::.inLoop c::k)) cs w) b k cs e a' w'
theorem fP.wpIn {ρ P c aaj a w}(h:fP ρ P c aaj a w):(Code.loop c).wpIn (iV ρ) 0 P aaj a w:=by
 intro b k cs xT hb Q;obtain⟨e,a',w',hq,fh⟩:=h b k cs xT hb Q;exact⟨e,a',w',hq,.of_steps (.one (fenced_calm hb Q rfl) stepR_loop) fh⟩
theorem fP.vT {ρ P c aaj a w}(h:c.wpIn (iV ρ) 0 P (Exit.then (fP ρ P c aaj) aaj) a w):fP ρ P c aaj a w:=by
 intro b k cs xT hb Q;obtain⟨e,a₁,w₁,hq,fh⟩:=h b (.inLoop c::k) cs xT hb Q
 cases e with
 |normal=>
  obtain⟨e₂,a₂,w₂,Ii,vU⟩:=hq b k cs xT hb Q;exact⟨e₂,a₂,w₂,Ii,.of_steps (StepsIn.trans fh (.one (fenced_calm hb Q rfl) stepR_inLoop)) vU⟩
 |exit id=>exact⟨_,a₁,w₁,hq,.pass (x:=.inLoop c) rfl (fun _ _=>.inl (by simp)) fh⟩|goto l=>exact⟨_,a₁,w₁,hq,.pass (x:=.inLoop c) rfl (fun _ _=>.inl (by simp)) fh⟩|ret=>exact⟨_,a₁,w₁,hq,.pass (x:=.inLoop c) rfl (fun _ _=>.inl (by simp)) fh⟩|panic ch=>exact⟨_,a₁,w₁,hq,.pass (x:=.inLoop c) rfl (fun _ _=>.inl (by simp)) fh⟩|outgrown=>exact⟨_,a₁,w₁,hq,.pass (x:=.inLoop c) rfl (fun _ _=>.inl (by simp)) fh⟩
section
variable {P:Program}{p:j8}{xc:XC}
def Mv (P:Program)(w0:World)(C0 C:aM)(nt:Nat)(x:jc)(bN:bj):Exit->Act->World->Prop:=fun e a' w'=>e=AH x/\dz P w0 C0 C nt bN a' w'
def ZE (P:Program)(xc:XC):Prop:=
 ∀(ρ:Option Nat) (nt:Nat) (c:Code) (ca:aQ) (st bN:bj) (x:jc),GY P nt c ca->(ρ≠G0->zu ca=En)->xc ca st=Eb (x,bN) ->
  ∀(C:aM) (w0:World) (C0:aM) (a:Act) (w:World),dz P w0 C0 C nt st a w->c.wpIn (iV ρ) 0 P (Mv P w0 C0 C nt x bN) a w
theorem cL.Mw (h:ZE P xc):cL P xc:=
 fun ρ nt c ca st bN x hc hn M C ω w0 C0 a w m he da li=>wpIn_mono (h ρ nt c ca st bN x hc hn M C w0 C0 a w ⟨da,C,ω,aM.le_refl C,li,m,he⟩) fun _ _ _ hq=>hq
def ZF (P:Program)(xc:XC):Prop:=
 ∀(ρ:Option Nat) (nt:Nat) (c:Code) (ca:aQ) (st bN:bj) (x:jc),GY P nt c ca->(ρ≠G0->zu ca=En)->xc (.loop ca) st=Eb (x,bN) ->
  ∀(C:aM) (w0:World) (C0:aM) (a:Act) (w:World),dz P w0 C0 C nt st a w->fP ρ P c (Mv P w0 C0 C nt x bN) a w
theorem dz.gc {w0 C0 C nt n st a w}(h:dz P w0 C0 C nt st a w)(hC:∀b r,C.β b=Eb r->b<n)(SL:∀b r,C0.β b=Eb r->b<n):dz P w0 C0 C nt (Abs.gc n st) a w:=by
 unfold Abs.gc
 cases hb:Hr st.heap.length n with
 |true=>exact h
 |false=>
  simp only[cond_false]
  cases nh:(lU n st.env&&qr n (st.heap.take n))with
  |false=>exact h
  |true=>
   simp only[cond_true];simp only[Eg]at nh;obtain⟨Y,C',ω',h3,I,h4,h5⟩:=h
   have hn:n<=st.heap.length:=by
    rcases Nat.lt_or_ge n st.heap.length with h|h
    .omega
    .rw[V9 h]at hb;cases hb
   exact⟨Y,C'.cut n,ω',aM.iN h3 hC,⟨I.choose,I.choose_spec.1,I.choose_spec.2.1,I.choose_spec.2.2⟩,h4.gc hn nh.2 SL,h5.cut nh.1⟩
theorem Mx {K w0 C0 C nt x bN aaj e a w}(h:Mv P w0 C0 C nt x bN e a w)(hn:x=.normal->dz P w0 C0 C nt bN a w->K a w)(ho:x≠.normal->dz P w0 C0 C nt bN a w->aaj (AH x) a w):Exit.then K aaj e a w:=by
 obtain⟨rfl,h⟩:=h
 cases x with
 |normal=>exact hn rfl h|exit id=>exact ho (by simp) h|ret=>exact ho (by simp) h
theorem q8w {b:Frame}{a k cs w c}:step P (lone (b.atR a (.code (.scope c)::k)) cs w)=.next (lone (b.atR a (.code c::.inScope c::k)) cs w):=
 step_lone_go (by simp[stepG,stepG.exec,Frame.atR])
theorem q30 {b:Frame}{a k cs w c}:step P (lone (b.atR a (.inScope c::k)) cs w)=.next (lone (b.atR a k) cs w):=
 step_lone_go (by simp[stepG,stepG.exec,Frame.atR])
theorem qrf {F:Fence}{n c aaj a w}(h:c.wpIn F n P (Exit.noGoto aaj) a w):(Code.scope c).wpIn F n P aaj a w:=by
 intro b k cs xT hb Q;obtain⟨e,a₁,w₁,hq,fh⟩:=h b (.inScope c::k) cs xT hb Q;have Y:StepsIn (Machine.fenced P F) P (lone (b.atR a (.code (.scope c)::k)) cs w) (lone (b.atR a (.code c::.inScope c::k)) cs w):=.one (fenced_calm hb Q rfl) q8w
 cases e with
 |normal=>exact⟨.normal,a₁,w₁,hq,StepsIn.trans Y (StepsIn.trans fh (.one (fenced_calm hb Q rfl) q30))⟩|goto l=>exact hq.elim
 |exit id=>
  refine⟨.exit id,a₁,w₁,hq,.of_steps Y ?_⟩;refine⟨fun k' hk=>fh.1 k' (by simp[exitTo,hk]),fun SN iO=>?_⟩;exact fh.2 SN (by simp[exitTo,iO])
 |ret=>exact⟨_,a₁,w₁,hq,.of_steps Y fh⟩|panic ch=>exact⟨_,a₁,w₁,hq,.of_steps Y fh⟩|outgrown=>exact⟨_,a₁,w₁,hq,.of_steps Y fh⟩
theorem aA.SP {C C0 ω w0 w hp}(m:aA P C ω w0 C0 hp w):aA P { C with D:=fun r=>C.D r\/r=w.heap.size } ω w0 C0 hp (w.alloc (.deferred (Eb []))):=by
 have M:Ext w (w.alloc (.deferred (Eb []))):=Ext.alloc w _ (fun c t fr h=>by cases h);have m':=m.ext M
 exact { m' with
  fA:=fun r Q=>by
   rcases Q with Q|Q
   ·exact m'.fA r Q
   ·subst Q;rw[vE,if_pos rfl]
  grown:=⟨m.grown.k,m.grown.b,m.grown.w,fun r h=>.inl (m.grown.d r h),m.grown.t⟩
  box:=fun b x r fp hb=>bM.imp (C:=C) (C':={ C with D:=fun r=>C.D r\/r=w.heap.size }) ⟨fun _ _ _ h=>h,fun _ _ h=>h⟩ rfl (fun _ _ _ ho=>ho) (m'.box b x r fp hb) }
theorem jlc (eQ:ct P p)(M:cL P xc){f ps x1 x2 f' J a2 h nt st bN x C w0 C0 a w}
  (hf:qv f=Eb f') (Y:gX P h nt x1=Eb J) (I:gX P h nt x2=Eb a2) (cG:∀t∈ps.toList,t<nt) (G:lJ p xc f' ps.toList J a2 st=Eb (x,bN)) (cq:dz P w0 C0 C nt st a w):
  (Code.rangeFunc f ps x1 x2).wpIn (iV G0) 0 P (Mv P w0 C0 C nt x bN) a w:=by
 obtain⟨da,Ca,ω,hle,SI,m,he⟩:=cq;unfold lJ at G
 cases My:(zu J&&zu a2)with
 |false=>simp[My]at G
 |true=>
  simp only[My,cond_true]at G;simp only[Eg]at My;split at G
  .rename_i k first captured dY
   have xM:=qx he.cu hf dY;generalize HM:a.eval f=fv at xM
   cases xM with
   |fn g g' _ _ as bs hg ha hb=>
    simp only[fJ]at hg;subst hg;split at G
    .rename_i _r1 _r2 h' HK;split at G
     .rename_i l' Hq
      cases jB:qr st.heap.length (h'.take st.heap.length)with
      |false=>simp[jB]at G
      |true=>
       simp only[jB,cond_true]at G
       .obtain⟨mg,nS⟩:=Mf eQ M HK
        -- the loop's record,and the block before it
        refine wpIn_rangeFunc fun fn _=>?_;generalize ZG:({ state:=.ready,pending:=G0,fn:=fn,tmps:=a.tmps,params:=ps,assign:=x1,body:=x2,defers:=w.heap.size }:Loop)=lp;have mD:=(m.SP).holes 1
        have eD:ar { Ca with D:=fun r=>Ca.D r\/r=w.heap.size } ω (w.alloc (.deferred (Eb []))) w0.heap.size st.env a.tmps:=fun s y hy=>
         let ⟨v,k1,k2,k3⟩:=he.ext (Ext.alloc w _ (fun c t fr h=>by cases h)) s y hy
         ⟨v,k1,bS.sd k2,k3⟩
        have Ij:(st.heap++Uy 1 .hole)[st.heap.length]?=Eb .hole:=by simp
        have Ik:(w.alloc (.deferred (Eb []))).heap.size=w.heap.size+1:=by rw[World.size_alloc]
        obtain⟨mB,eB,nU⟩:=mD.aK eD Ij (.loop lp) (fun c t fr h=>by cases h) (.loop ⟨st.env,ps.toList,J,a2,G0⟩) (by
         intro C' ω' w' cV Mi;subst ZG
         exact⟨_,Mi,{ assign:=⟨h,by rw[da];exact Y⟩,body:=⟨h,by rw[da];exact I⟩,params:=rfl,fits:=fun t ht=>by rw[da];exact cG t ht,nr:=My,env:=fun s y hy=>let ⟨v,k1,k2,_⟩:=eD s y hy; ⟨v,k1,aJ.mono cV k2⟩,state:=rfl,pending:=rfl }⟩)
        have bK:(st.heap++Uy 1 bG.hole).set st.heap.length (.loop ⟨st.env,ps.toList,J,a2,G0⟩)=st.heap++[.loop ⟨st.env,ps.toList,J,a2,G0⟩]:=by
         simp
        rw[bK]at mB;rw[Ik]at mB eB nU;generalize ZH:aM.box { Ca with D:=fun r=>Ca.D r\/r=w.heap.size } st.heap.length (w.heap.size+1)=CB at mB eB nU;generalize hwB:(w.alloc (.deferred (Eb []))).alloc (.loop lp)=wB at mB eB
        have Il:CB.β st.heap.length=Eb (w.heap.size+1):=by rw[<-ZH];simp[aM.box]
        have ZI:∀r,Ca.D r\/r=w.heap.size->CB.D r:=fun r Q=>by rw[<-ZH];exact Q
        have ZJ:∀ {i:lK},aJ Ca i->aJ CB i:=fun Q=>aJ.mono nU (aJ.imp (C:=Ca) (C':={ Ca with D:=fun r=>Ca.D r\/r=w.heap.size }) ⟨fun _ _ _ h=>h,fun _ _ h=>h⟩ Q);have Io:Ca.le CB:=⟨nU.k,nU.b,nU.w,fun r Q=>ZI r (.inl Q),nU.t⟩
        have ez:bf (CB.shared ω w0) (first++[.fn (.yield st.heap.length) [] []]++captured) (as++[Value.func (.yield (w.heap.size+1)) ⟨[]⟩ ⟨[]⟩]++bs):=by
         refine aJ.imp (C:=CB) (C':=CB.shared ω w0) ⟨fun _ _ _ h=>h,fun _ _ h=>h⟩ ?_;exact bf.append (bf.append (ZJ ha) (.cons _ _ _ _ (.fn _ _ _ _ _ _ ⟨_,Il,rfl⟩ .nil .nil) .nil)) (ZJ hb)
        refine⟨w.heap.size+1,[{ target:=.collected w.heap.size,args:=#[] }],wB,{ target:=.fn (.func k) ⟨bs⟩,args:=⟨as⟩++#[Value.func (.yield (w.heap.size+1)) #[] #[]] },wB,k,⟨as++[Value.func (.yield (w.heap.size+1)) ⟨[]⟩ ⟨[]⟩]++bs⟩,wB,?_,?_,fun _ _=>trivial,?_,fun hd=>by simp[iV,Fence.wide]at hd,?_⟩
        .subst ZG;rw[<-hwB];simp[Instr.enterLoop,iV,Fence.wide,Ik]
        .have hc:a.eval (.const (Value.func (.yield (w.heap.size+1)) #[] #[]))=Value.func (.yield (w.heap.size+1)) #[] #[]:=rfl;simp[resolve,HM,Deferred.ofValue,hc]
        .have hq:(⟨as⟩:Array Value)++#[Value.func (.yield (w.heap.size+1)) #[] #[]]++(⟨bs⟩:Array Value)=⟨as++[Value.func (.yield (w.heap.size+1)) ⟨[]⟩ ⟨[]⟩]++bs⟩:=by
          apply L6;simp
         simp only[invoke,hq];exact YV mg _ _
        .refine YU.2 (CallsIn.mono (nS _ _ _ _ ez (Sb mB)) ?_);rintro ee w' ⟨u,C1,ω1,rfl,q1,q2,_,_⟩;obtain⟨m2,e2⟩:=Y6 mB eB q2 q1;have AY:CB.le (C1.back CB):=Mj q1;have sn:(C1.back CB).β st.heap.length=Eb (w.heap.size+1):=AY.b _ _ Il;obtain⟨mr,su,uh⟩:=Mm m2 Hq sn;have hlen:st.heap.length<h'.length:=(m2.lt _ _ sn).2;have SL:∀b r,C0.β b=Eb r->b<st.heap.length:=fun b r hb=>(m.lt b r (m.grown.b b r hb)).2;have m3:=m2.gc (Nat.le_of_lt hlen) jB SL
         have AO:(Instr.getLoop (w.heap.size+1)).run P w'=.ok mr w':=by simp[Instr.getLoop,qI su (by simp)]
         have sB:=(G4.1 su).1;have hu:nQ w' (kg w' (w.heap.size+1) (.loop { mr with state:=.exhausted })) (w.heap.size+1):=ES sB (by simp)
         have lN:∀cs t fr,w'.heap[w.heap.size+1]?≠Eb (.cells cs t fr):=fun cs t fr hh=>by rw[su]at hh;cases hh
         have SQ:∀b,((C1.back CB).cut st.heap.length).β b≠Eb (w.heap.size+1):=fun b hb=>by
          simp only[aM.cut]at hb;split at hb
          .rename_i bh;have:=m2.inj b st.heap.length _ hb sn;omega
          .cases hb
         have dA:mr.state≠.busy->(Instr.endLoop (w.heap.size+1)).run P w'=.ok mr.pending (kg w' (w.heap.size+1) (.loop { mr with state:=.exhausted })):=fun EX=>by
          have fq:(mr.state == .busy)=Hd:=by
           cases cq:mr.state<;>first|rfl|exact absurd cq EX
          have hs2:=xI (P:=P) (x:=.loop { mr with state:=.exhausted }) su (by simp);simp only[Instr.endLoop,Sem.run_bind,AO,Result.andThen_ok,fq,Hp,if_false,Sem.run_ite,hs2,Sem.run_pure]
         have m4:=m3.other (D':=((C1.back CB).cut st.heap.length).D) hu SQ (H0 m.size (by omega)) lN (fun kk hk=>⟨hk,fun iu=>by
          have:=m3.fA kk hk
          rw[iu,su]at this;cases this⟩) m3.grown.d
         have AZ:Ca.le ((C1.back CB).cut st.heap.length):=aM.iN (aM.le_trans Io AY) (fun b r hb=>(m.lt b r hb).2)
         have e4:ar ((C1.back CB).cut st.heap.length) (nT ω ω1 wB.heap.size) (kg w' (w.heap.size+1) (.loop { mr with state:=.exhausted })) w0.heap.size st.env a.tmps:=by
          intro s y hy;obtain⟨v,k1,k2,k3⟩:=he s y hy;obtain⟨v',j1,j2,j3⟩:=e2 s y hy;rw[k1]at j1;cases j1;exact⟨v,k1,aJ.mono AZ k2,fun hh=>(((j3 hh).cut _).lh (D':=((C1.back CB).cut st.heap.length).D) hu lN)⟩
         have mG:∀(xx:jc),dz P w0 C0 C nt { st with heap:=h'.take st.heap.length } { a with defers:=[{ target:=.collected w.heap.size,args:=#[] }]++a.defers } (kg w' (w.heap.size+1) (.loop { mr with state:=.exhausted })):=by
          intro _;refine⟨da,_,_,aM.le_trans hle AZ,?_,m4,e4⟩;obtain⟨rs,g1,g2,g3⟩:=SI;refine⟨w.heap.size::rs,by rw[g1];rfl,Eaf.2 ⟨fun hm=>?_,g2⟩,?_⟩
          .have:=(G4.1 (m.fA _ (g3 _ hm).1)).1;omega
          .intro r Q;rcases R2.1 Q with rfl|Q
           .exact⟨AY.d _ (ZI _ (.inr rfl)),m.size⟩
           .exact⟨AZ.d _ (g3 r Q).1,(g3 r Q).2⟩
         simp only[rangePost];split at G
         .rename_i vV;cases G;refine⟨G0,_,?_,rfl,mG .normal⟩;rw[dA (by rw[uh.state,vV];simp),uh.pending,vV]
         .cases G
         .rename_i xx RE vV;cases G
          cases x with
          |normal=>exact absurd rfl RE
          |ret=>
           refine⟨Eb .ret,_,?_,wpIn_ret ⟨rfl,mG .ret⟩⟩;rw[dA (by rw[uh.state,vV];simp),uh.pending,vV]
          |exit id=>
           refine⟨Eb (.exit id),_,?_,wpIn_exit ⟨rfl,mG .ret⟩⟩;rw[dA (by rw[uh.state,vV];simp),uh.pending,vV]
     .cases G
    .cases G
  .cases G
theorem SR (eQ:ct P p):∀n,ZE P (aC p n)/\ZF P (aC p n)
 |0=>⟨fun ρ nt c ca st bN x _ _ M=>by simp[aC]at M,fun ρ nt c ca st bN x _ _ M=>by simp[aC]at M⟩
 |n+1=>by
  obtain⟨ih,ihl⟩:=SR eQ n
  have loop:ZF P (aC p (n+1)):=by
   intro ρ nt c ca st bN x hc hn M C w0 C0 a w cq;obtain⟨da,C',ω',hle,li,m,he⟩:=cq;have ZK:∀b r,C'.β b=Eb r->b<st.heap.length:=fun b r hb=>(m.lt b r hb).2;refine fP.vT ?_;simp only[aC]at M;split at M
   .rename_i fQ Y;refine wpIn_mono (ih ρ nt c ca st fQ .normal hc hn Y C' w0 C0 a w ⟨da,C',ω',aM.le_refl _,li,m,he⟩) ?_;intro e a' w' hq;refine Mx hq (fun _ eK=>?_) (fun h=>absurd rfl h);have I:=eK.gc ZK (fun b r hb=>ZK b r (m.grown.2 b r hb));have h3:=ihl ρ nt c ca _ bN x hc hn M C' w0 C0 a' w' I;intro b k cs xT hb Q;obtain⟨e,a',w',hq,fh⟩:=h3 b k cs xT hb Q;obtain⟨q1,q2,C2,ω2,q4,q5⟩:=hq;exact⟨e,a',w',⟨q1,q2,C2,ω2,aM.le_trans hle q4,q5⟩,fh⟩
   .rename_i bI;refine wpIn_mono (ih ρ nt c ca st bN x hc hn M C w0 C0 a w ⟨da,C',ω',hle,li,m,he⟩) ?_;intro e a' w' hq;refine Mx hq (fun E8 eK=>?_) (fun E8 eK=>⟨rfl,eK⟩);subst E8;exact absurd M (bI bN)
  refine⟨?_,loop⟩;intro ρ nt c ca st bN x hc hn M C w0 C0 a w cq;obtain⟨h,dM⟩:=hc
  cases c with
  |skip=>
   simp only[gX,Eb.injEq]at dM;subst dM;simp only[aC,Eb.injEq,Oz.injEq]at M;obtain⟨rfl,rfl⟩:=M;exact wpIn_skip ⟨rfl,cq⟩
  |label l=>
   simp only[gX,Eb.injEq]at dM;subst dM;simp only[aC,Eb.injEq,Oz.injEq]at M;obtain⟨rfl,rfl⟩:=M;exact wpIn_label ⟨rfl,cq⟩
  |region id ops draw=>
   simp only[gX]at dM
   have dM:(draw=Hd/\∃sz,GV P nt ops=Eb sz/\ca=.grow sz)\/GU P h nt id ops draw=Eb ca:=by
    split at dM
    .rename_i sz SU;cases dM;exact .inl ⟨rfl,sz,SU,rfl⟩
    .exact .inr dM
   rcases dM with⟨rfl,sz,SU,rfl⟩|dM
   .simp only[aC]at M;split at M
    .rename_i z xs o1 k o2 e0 e1
     cases iu:(Hg 0 k&&Hr k 1073741824)with
     |false=>simp[iu]at M
     |true=>
      simp only[iu,cond_true,Eb.injEq,Oz.injEq]at M;obtain⟨rfl,rfl⟩:=M;simp only[Eg]at iu;obtain⟨da,C',ω',hle,li,m,he⟩:=cq;refine wpIn_mono (jo3 SU m he da li e0 e1 (Hu.mp iu.1) (G7 iu.2)) ?_;rintro e a' w' ⟨rfl,q1,C2,ω2,q4,q5⟩;exact⟨rfl,q1,C2,ω2,aM.le_trans hle q4,q5⟩
    .cases M
   have Ip:∃na l keep,ca=.region na l keep:=by
    unfold GU at dM;split at dM
    .split at dM
     .simp only[Eb.injEq]at dM;exact⟨_,_,_,dM.symm⟩
     .cases dM
    .cases dM
   obtain⟨na,l,keep,eo⟩:=Ip;subst eo;simp only[aC]at M;obtain⟨da,C',ω',hle,li,m,he⟩:=cq;refine wpIn_mono (jgy eQ (cL.Mw ih) dM rfl M m he da li) ?_;rintro e a' w' ⟨q1,q2,C2,ω2,q4,q5⟩;exact⟨q1,q2,C2,ω2,aM.le_trans hle q4,q5⟩
  |seq c1 c2=>
   simp only[gX]at dM;split at dM
   .rename_i x1 x2 Y I;cases dM
    have E9:ρ≠G0->zu x1=En/\zu x2=En:=fun hh=>by simpa[zu]using hn hh
    simp only[aC]at M;refine wpIn_seq ?_;split at M
    .rename_i fQ xL;refine wpIn_mono (ih ρ nt c1 x1 st fQ .normal ⟨h,Y⟩ (fun hh=>(E9 hh).1) xL C w0 C0 a w cq) ?_;intro e a' w' hq;exact Mx hq (fun _ eK=>ih ρ nt c2 x2 fQ bN x ⟨h,I⟩ (fun hh=>(E9 hh).2) M C w0 C0 a' w' eK) (fun hh=>absurd rfl hh)
    .rename_i bI;refine wpIn_mono (ih ρ nt c1 x1 st bN x ⟨h,Y⟩ (fun hh=>(E9 hh).1) M C w0 C0 a w cq) ?_;intro e a' w' hq;refine Mx hq (fun E8 eK=>?_) (fun E8 eK=>⟨rfl,eK⟩);subst E8;exact absurd M (bI bN)
   .cases dM
  |cond c c1 c2=>
   simp only[gX]at dM;split at dM
   .rename_i c' x1 x2 h0 Y I;cases dM
    have E9:ρ≠G0->zu x1=En/\zu x2=En:=fun hh=>by simpa[zu]using hn hh
    simp only[aC]at M;split at M
    .rename_i t ht;have iw:=cq;obtain⟨da,C',ω',hle,li,m,he⟩:=cq;have dY:=(qx he.cu h0 ht).du;refine wpIn_cond dY ?_
     cases t with
     |true=>simp only[cond_true]at M;exact ih ρ nt c1 x1 st bN x ⟨h,Y⟩ (fun hh=>(E9 hh).1) M C w0 C0 a w iw|false=>simp only[cond_false]at M;exact ih ρ nt c2 x2 st bN x ⟨h,I⟩ (fun hh=>(E9 hh).2) M C w0 C0 a w iw
    .cases M
   .cases dM
  |block id b=>
   simp only[gX]at dM;obtain⟨b',hb,rfl⟩:=G1.1 dM;simp only[aC]at M;refine wpIn_block ?_;split at M
   .rename_i fI fQ xL;refine wpIn_mono (ih ρ nt b b' st fQ (.exit fI) ⟨h,hb⟩ (fun hh=>by simpa[zu]using hn hh) xL C w0 C0 a w cq) ?_;rintro e a' w' ⟨rfl,eK⟩
    cases hid:Hf fI id with
    |true=>
     simp only[hid,cond_true,Eb.injEq,Oz.injEq]at M;obtain⟨rfl,rfl⟩:=M;have:=Eh hid;subst this;simp only[AH,Exit.inBlock,if_true];exact⟨rfl,eK⟩
    |false=>
     simp only[hid,cond_false,Eb.injEq,Oz.injEq]at M;obtain⟨rfl,rfl⟩:=M
     have bI:¬fI=id:=fun hh=>by subst hh;simp at hid
     simp only[AH,Exit.inBlock,bI,if_false];exact⟨rfl,eK⟩
   .rename_i bI;refine wpIn_mono (ih ρ nt b b' st bN x ⟨h,hb⟩ (fun hh=>by simpa[zu]using hn hh) M C w0 C0 a w cq) ?_;rintro e a' w' ⟨rfl,eK⟩
    cases x with
    |normal=>exact⟨rfl,eK⟩|ret=>exact⟨rfl,eK⟩|exit fI=>exact absurd M (bI fI bN)
  |loop b=>
   simp only[gX]at dM;obtain⟨b',hb,rfl⟩:=G1.1 dM;exact(loop ρ nt b b' st bN x ⟨h,hb⟩ (fun hh=>by simpa[zu]using hn hh) M C w0 C0 a w cq).wpIn
  |scope b=>
   simp only[gX]at dM;obtain⟨b',hb,rfl⟩:=G1.1 dM
   have fp:aC p n b' st=Eb (x,bN):=by
    simp only[aC]at M;split at M
    .rename_i fQ xL
     cases n with
     |zero=>simp[aC]at xL|succ n=>simp only[aC]at M;rw[xL];exact M
    .exact M
   refine qrf (wpIn_mono (ih ρ nt b b' st bN x ⟨h,hb⟩ (fun hh=>by simpa[zu]using hn hh) fp C w0 C0 a w cq) ?_);rintro e a' w' ⟨rfl,eK⟩
   cases x with
   |normal=>exact⟨rfl,eK⟩|exit id=>exact⟨rfl,eK⟩|ret=>exact⟨rfl,eK⟩
  |rangeFunc f ps x1 x2=>
   simp only[gX]at dM;split at dM
   .split at dM
    .rename_i cG;cases dM;simp only[aC]at M
     cases ρ with
     |some l=>exact absurd (hn (by simp)) (by simp[zu])|none=>exact jlc eQ (cL.Mw ih) (by assumption) (by assumption) (by assumption) (fun t ht=>by simpa using(Yd.1 cG) t (by simpa using ht)) M cq
    .cases dM
   .cases dM
  |exit id=>
   simp only[gX,Eb.injEq]at dM;subst dM;simp only[aC,Eb.injEq,Oz.injEq]at M;obtain⟨rfl,rfl⟩:=M;exact wpIn_exit ⟨rfl,cq⟩
  |ret=>
   simp only[gX,Eb.injEq]at dM;subst dM;simp only[aC,Eb.injEq,Oz.injEq]at M;obtain⟨rfl,rfl⟩:=M;exact wpIn_ret ⟨rfl,cq⟩
  |_=>
   simp only[gX,Eb.injEq]at dM;subst dM;simp[aC]at M
theorem jpp (eQ:ct P p){n k args v ow}(h:ae p (aC p n) k args=Eb (v,ow))(hb:qt 0 args=En):IsoCall P k args v ow:=
 (Mg eQ (cL.Mw (SR eQ n).1) h hb).2.2
end
def yj {α:Type}(n:Nat)(f:Nat->α):α:=match n with
 |0=>f 0|m+1=>f (Nat.succ m)
def SV {α:Type}(n:Int)(f:Int->α):α:=match n with
 | .ofNat a=>yj a fun a=>f (.ofNat a)
 | .negSucc a=>yj a fun a=>f (.negSucc a)
def Iq {α:Type}(b:Bool)(f:Bool->α):α:=match b with
 |true=>f En|false=>f Hd
def ZL {α:Type}(k:IntKind)(f:IntKind->α):α:=match k with
 | .i8=>f .i8 | .i16=>f .i16 | .i32=>f .i32 | .i64=>f .i64 | .u8=>f .u8 | .u16=>f .u16 | .u32=>f .u32 | .u64=>f .u64
def Ir {α:Type}:aj->(aj->α)->α
 | [],f=>f []
 |c::s,f=>Ir s fun s=>f (c::s)
def SW {α:Type}(g:Fn)(f:Fn->α):α:=match g with
 | .func k=>yj k fun k=>f (.func k)
 | .yield k=>yj k fun k=>f (.yield k)
 |g=>f g
mutual
def kp {α:Type}:AVal->(AVal->α)->α
 | .bool b,f=>Iq b fun b=>f (.bool b)
 | .int k n,f=>ZL k fun k=>SV n fun n=>f (.int k n)
 | .str s,f=>Ir s fun s=>f (.str s)
 | .list b sz xs,f=>Iq b fun b=>yj sz fun sz=>vW xs fun xs=>f (.list b sz xs)
 | .ms b o l,f=>yj b fun b=>yj o fun o=>yj l fun l=>f (.ms b o l)
 | .ptr b o,f=>yj b fun b=>yj o fun o=>f (.ptr b o)
 | .aq v,f=>kp v fun v=>f (.aq v)
 | .dG n,f=>yj n fun n=>f (.dG n)
 | .cC,f=>f .cC
 | .map b,f=>yj b fun b=>f (.map b)
 | .cD,f=>f .cD
 | .fn g a c,f=>SW g fun g=>vW a fun a=>vW c fun c=>f (.fn g a c)
 | .cO,f=>f .cO
 | .agg cs,f=>vW cs fun cs=>f (.agg cs)
 | .bq cs,f=>vW cs fun cs=>f (.bq cs)
 | .undef,f=>f .undef| .any,f=>f .any
 | .az b bO len,f=>yj b fun b=>yj bO fun bO=>yj len fun len=>f (.az b bO len)
 | .dN b bO off,f=>yj b fun b=>yj bO fun bO=>yj off fun off=>f (.dN b bO off)
def vW {α:Type}:List AVal->(List AVal->α)->α
 | [],f=>f []
 |x::xs,f=>kp x fun x=>vW xs fun xs=>f (x::xs)
end
def Iu {α:Type}:Env->(Env->α)->α
 | [],f=>f []
 |(t,v,o)::e,f=>yj t fun t=>kp v fun v=>Iq o fun o=>Iu e fun e=>f ((t,v,o)::e)
def Mz {α:Type}:List (AVal×Bool)->(List (AVal×Bool)->α)->α
 | [],f=>f []
 |(v,o)::e,f=>kp v fun v=>Iq o fun o=>Mz e fun e=>f ((v,o)::e)
def MA {α:Type}:List (AVal×AVal)->(List (AVal×AVal)->α)->α
 | [],f=>f []
 |(k,v)::e,f=>kp k fun k=>kp v fun v=>MA e fun e=>f ((k,v)::e)
def SX {α:Type}(x:Option jc)(f:Option jc->α):α:=match x with
 |none=>f G0|some .normal=>f (Eb .normal)
 |some (.exit id)=>yj id fun id=>f (Eb (.exit id))
 |some .ret=>f (Eb .ret)
def SY {α:Type}:bG->(bG->α)->α
 | .hole,f=>f .hole
 | .cells cs,f=>Mz cs fun cs=>f (.cells cs)
 | .map es,f=>MA es fun es=>f (.map es)
 | .iter s pos,f=>yj pos fun pos=>f (.iter s pos)
 | .fW t e l,f=>Ir l fun l=>f (.fW t e l)
 | .dead,f=>f .dead
 -- (what a vector holds was forced when it was appended)
 | .vec sz bO xs,f=>yj sz fun sz=>yj bO fun bO=>f (.vec sz bO xs)
 | .loop l,f=>Iu l.env fun e=>SX l.pending fun x=>f (.loop ⟨e,l.params,l.assign,l.body,x⟩)
def MB {α:Type}:qi->(qi->α)->α
 | [],f=>f []
 |b::h,f=>SY b fun b=>MB h fun h=>f (b::h)
def Iw {α:Type}(st:bj)(f:bj->α):α:=Iu st.env fun e=>MB st.heap fun h=>f ⟨e,h⟩
section
variable {α:Type}
theorem qO (n:Nat)(f:Nat->α):yj n f=f n:=by cases n<;>rfl
theorem q9l (n:Int)(f:Int->α):SV n f=f n:=by cases n<;>simp[SV,qO]
theorem MC (n:Bool)(f:Bool->α):Iq n f=f n:=by cases n<;>rfl
theorem q6w (n:IntKind)(f:IntKind->α):ZL n f=f n:=by cases n<;>rfl
theorem SZ:∀ (s:aj) (f:aj->α),Ir s f=f s
 | [],_=>rfl
 |c::s,f=>by simp only[Ir];rw[SZ s]
theorem jde (g:Fn)(f:Fn->α):SW g f=f g:=by cases g<;>simp[SW,qO]
mutual
theorem Ix:∀ (v:AVal) (f:AVal->α),kp v f=f v
 | .bool b,f=>by simp only[kp,MC]
 | .int k n,f=>by simp only[kp,q6w,q9l]
 | .str s,f=>by simp only[kp,SZ]
 | .list b sz xs,f=>by simp only[kp,MC,qO];rw[A0 xs]
 | .ms b o l,f=>by simp only[kp,qO]
 | .ptr b o,f=>by simp only[kp,qO]
 | .aq v,f=>by simp only[kp];rw[Ix v]
 | .dG n,f=>by simp only[kp,qO]
 | .cC,f=>by simp only[kp]
 | .map b,f=>by simp only[kp,qO]
 | .cD,f=>by simp only[kp]
 | .fn g a c,f=>by simp only[kp,jde];rw[A0 a,A0 c]
 | .cO,f=>by simp only[kp]
 | .agg cs,f=>by simp only[kp];rw[A0 cs]
 | .bq cs,f=>by simp only[kp];rw[A0 cs]
 | .undef,f=>by simp only[kp]
 | .any,f=>by simp only[kp]
 | .az b bO len,f=>by simp only[kp,qO]
 | .dN b bO off,f=>by simp only[kp,qO]
theorem A0:∀ (l:List AVal) (f:List AVal->α),vW l f=f l
 | [],f=>by simp only[vW]
 |x::xs,f=>by simp only[vW];rw[Ix x,A0 xs]
end
theorem S0:∀ (e:Env) (f:Env->α),Iu e f=f e
 | [],_=>rfl
 |(t,v,o)::e,f=>by simp only[Iu,qO,Ix,MC];rw[S0 e]
theorem ZM:∀ (e:List (AVal×Bool)) (f:List (AVal×Bool)->α),Mz e f=f e
 | [],_=>rfl
 |(v,o)::e,f=>by simp only[Mz,Ix,MC];rw[ZM e]
theorem ZN:∀ (e:List (AVal×AVal)) (f:List (AVal×AVal)->α),MA e f=f e
 | [],_=>rfl
 |(v,o)::e,f=>by simp only[MA,Ix];rw[ZN e]
theorem q46 (x:Option jc)(f:Option jc->α):SX x f=f x:=by
 cases x with
 |none=>rfl|some x=>cases x<;>simp[SX,qO]
theorem q9d (b:bG)(f:bG->α):SY b f=f b:=by
 cases b<;>simp[SY,ZM,ZN,qO,SZ,S0,q46,A0]
theorem ZO:∀ (h:qi) (f:qi->α),MB h f=f h
 | [],_=>rfl
 |b::h,f=>by simp only[MB,q9d];rw[ZO h]
theorem S1 (st:bj)(f:bj->α):Iw st f=f st:=by simp only[Iw,S0,ZO]
end
def lm (p:j8):Nat->XC
 |0,_,_=>G0
 |n+1,c,st=>match c with
  | .skip=>Eb (.normal,st)
  | .region na ops keep=>match lI p (lm p n) na ops keep st with
   |some (x,bN)=>Iw bN fun s=>Eb (x,s)
   |none=>G0
  | .seq a b=>match lm p n a st with
   |some (.normal,bN)=>lm p n b bN|r=>r
  | .cond c a b=>match qj st.env c with
   |some (.bool t)=>bif t then lm p n a st else lm p n b st|_=>G0
  | .block id body=>match lm p n body st with
   |some (.exit fI,bN)=>bif Hf fI id then Eb (.normal,bN)else Eb (.exit fI,bN)|r=>r
  | .loop body=>match lm p n body st with
   |some (.normal,bN)=>Iw (gc st.heap.length bN) fun s=>lm p n (.loop body) s
   |r=>r
  | .rangeFunc f params assign body=>match lJ p (lm p n) f params assign body st with
   |some (x,bN)=>Iw bN fun s=>Eb (x,s)
   |none=>G0
  | .exit id=>Eb (.exit id,st)| .ret=>Eb (.ret,st)
  | .grow sz=>match jm 0 st.env,jm 1 st.env with
   |some (.list En _ _,_),Eb (.int .i64 (.ofNat m),_)=>bif Hg 0 m&&Hr m 1073741824 then Eb (.normal,{ st with env:=[(0,.list Hd sz [],En)] })else G0|_,_=>G0
  | .stuck=>G0
theorem S2 (p:j8):∀n,lm p n=aC p n
 |0=>by funext c st;rfl
 |n+1=>by
  have ih:=S2 p n;funext c st
  cases c with
  |region na ops keep=>
   simp only[lm,aC,ih]
   cases lI p (aC p n) na ops keep st with
   |none=>rfl|some r=>simp only[S1]
  |rangeFunc f ps a b=>
   simp only[lm,aC,ih]
   cases lJ p (aC p n) f ps a b st with
   |none=>rfl|some r=>simp only[S1]
  |loop body=>
   simp only[lm,aC,ih,S1];rfl
  |_=>simp only[lm,aC,ih]<;>rfl
inductive bL where
 |leaf (k:Nat) (f:iC)
 |node (m:Nat) (a b:bL)
def bL.find:bL->Nat->Option iC
 | .leaf k f,n=>bif Hf k n then Eb f else G0| .node m a b,n=>bif Hg n m then a.find n else b.find n
def bL.All (aaj:Nat->iC->Prop):bL->Prop
 | .leaf k f=>aaj k f| .node _ a b=>a.All aaj/\b.All aaj
theorem bL.gk {aaj}:∀ {t:bL} {k:Nat} {f:iC},t.All aaj->t.find k=Eb f->aaj k f
 | .leaf j g,k,f,h,hf=>by
  simp only[bL.find]at hf
  cases hb:Hf j k with
  |false=>simp[hb]at hf
  |true=>
   have:=Eh hb;subst this;simp only[hb,cond_true,Eb.injEq]at hf;subst hf;exact h
 | .node m a b,k,f,h,hf=>by
  simp only[bL.find]at hf
  cases hb:Hg k m with
  |true=>simp only[hb,cond_true]at hf;exact bL.gk h.1 hf|false=>simp only[hb,cond_false]at hf;exact bL.gk h.2 hf
def bL.prog (t:bL)(di:LB)(maps:QU:=fun _=>G0):j8:={ bn:=t.find,di:=di,maps:=maps }
theorem jgi {p n k args r}(h:ae p (lm p n) k args=r):ae p (aC p n) k args=r:=by
 rw[<-S2];exact h
def Kw (w:World):Nat->Nat->Option Value:=fun r o=>(w.cell? ⟨r,o,G0⟩).filter (·.oneCell')
theorem jzv {w r o v}(h:w.cell? ⟨r,o,G0⟩=Eb v)(Y:v.oneCell'=En):Kw w r o=Eb v:=by simp[Kw,h,Y]
theorem ZP {w r o v}(h:Kw w r o=Eb v):w.cell? ⟨r,o,G0⟩=Eb v/\v.oneCell'=En:=by
 unfold Kw at h;rw[U9]at h;exact h
def qhb (P:Program)(t:TypeId):Bool:=match P.underlying t with
 |some (.struct _)=>En|some (.array _ _)=>En|_=>Hd
def MD (P:Program):Nat->List Field->Bool
 |_,[]=>En|o,f::fs=>f.offset == o&&MD P (o+P.cellsOf f.type) fs
def ME (P:Program)(fs:List Field):Nat:=(fs.map fun f=>P.cellsOf f.type).sum
def sI (P:Program):Nat->TypeId->Bool
 |0,_=>Hd
 |n+1,t=>match P.underlying t with
  |some .bool=>P.cellsOf t == 1|some (.int _)=>P.cellsOf t == 1|some .string=>P.cellsOf t == 1|some (.slice e)=>P.cellsOf t == 1&&sI P n e&&decide (0<P.cellsOf e)
  |some (.struct fs)=>MD P 0 fs.toList&&ME P fs.toList == P.cellsOf t&&fs.toList.all fun f=>sI P n f.type
  |some (.array k e)=>P.cellsOf t == k*P.cellsOf e&&sI P n e|_=>Hd
def Iy (ty:TypeId->List AVal->Prop):List Field->List AVal->Prop
 | [],cs=>cs=[]|f::fs,cs=>∃ys zs,cs=ys++zs/\ty f.type ys/\Iy ty fs zs
def Iz (ty:List AVal->Prop):Nat->List AVal->Prop
 |0,cs=>cs=[]|k+1,cs=>∃ys zs,cs=ys++zs/\ty ys/\Iz ty k zs
def yt (P:Program):Nat->TypeId->List AVal->Prop
 |0,_,_=>False
 |n+1,t,cs=>match P.underlying t with
  |some .bool=>∃b,cs=[.bool b]|some (.int k)=>∃m,cs=[.int k m]/\(Lit.int k m).wf=En|some .string=>∃s,cs=[.str s]/\s.length<=maxLen|some (.slice e)=>cs=[.list En 0 []]\/∃xs,cs=[.list Hd (P.cellsOf e) xs]/\xs.length<=maxLen/\∀y∈xs,yt P n e y.flat/\y.isAgg=qhb P e|some (.struct fs)=>Iy (yt P n) fs.toList cs|some (.array k e)=>Iz (yt P n e) k cs|_=>False
section
variable {P:Program}{H:Type}{enc:TypeId×Value->H}{w:World}
theorem ZQ:∀ (fs:List Field) (o:Nat) (vs:List Value),MD P o fs=En->vs.length=o+ME P fs->vs.drop o=(fs.map fun f=>(vs.drop f.offset).take (P.cellsOf f.type)).flatten
 | [],o,vs,_,hl=>by simp[ME]at hl;simp[hl]
 |f::fs,o,vs,ht,hl=>by
  simp only[MD,Eg,beq_iff_eq]at ht;obtain⟨rfl,ht⟩:=ht;have ih:=ZQ fs _ vs ht (by simp[ME]at hl ⊢;omega);rw[Vb,Eaa,<-ih,<-Eak,V6]
theorem Fc {α β:Type}{f}:∀ {l:List α} {ys:List β},l.mapM f=Eb ys->ys.length=l.length/\∀(i:Nat) (x:α),l[i]?=Eb x->∃y,ys[i]?=Eb y/\f x=Eb y
 | [],ys,h=>by simp at h;subst h;simp
 |a::l,ys,h=>by
  rw[Eai]at h
  cases hf:f a with
  |none=>simp[hf]at h
  |some y=>
   cases Q:l.mapM f with
   |none=>simp[hf,Q]at h
   |some zs=>
    simp[hf,Q]at h;subst h;obtain⟨Y,I⟩:=Fc Q;refine⟨by simp[Y],fun i x M=>?_⟩
    cases i with
    |zero=>simp at M;subst M;exact⟨y,rfl,hf⟩|succ i=>simp at M;obtain⟨z,h3,h4⟩:=I i x M;exact⟨z,by simpa using h3,h4⟩
theorem ZR {base n a vs}(h:w.cells? base a n=Eb vs):vs.length=n/\∀(i:Nat) (v:Value),vs[i]?=Eb v->w.cell? (a.add i)=Eb v:=by
 unfold World.cells? at h;split at h
 .obtain⟨Y,I⟩:=Fc h;rw[Eab]at Y;refine⟨Y,fun i v hv=>?_⟩
  have hi:i<n:=by rw[<-Y];exact(Hc.1 hv).1
  obtain⟨y,h3,h4⟩:=I i i (by rw[If hi]);rw[hv]at h3;cases h3;exact h4
 .cases h
theorem ZS {ty:TypeId->List AVal->Prop}:∀(fs:List Field) (nW:List (List Value)),nW.length=fs.length->(∀(i:Nat) (f:Field) (vs:List Value),fs[i]?=Eb f->nW[i]?=Eb vs->∃cs,bf (.bZ (Kw w)) cs vs/\ty f.type cs)->∃cs,bf (.bZ (Kw w)) cs nW.flatten/\Iy ty fs cs
 | [],nW,hl,_=>by
  have:nW=[]:=L5.1 (by simpa using hl);subst this;exact⟨[],.nil,rfl⟩
 |f::fs,[],hl,_=>by simp at hl
 |f::fs,vs::nW,hl,h=>by
  obtain⟨ys,Y,I⟩:=h 0 f vs rfl rfl;obtain⟨zs,h3,h4⟩:=ZS fs nW (by simpa using hl) (fun i f' rY hf hv=>h (i+1) f' rY (by simpa using hf) (by simpa using hv));exact⟨ys++zs,bf.append Y h3,ys,zs,rfl,I,h4⟩
theorem ZT {ty}:∀(k:Nat) (nW:List (List Value)),nW.length=k->(∀(i:Nat) vs,nW[i]?=Eb vs->∃cs,bf (.bZ (Kw w)) cs vs/\ty cs)->∃cs,bf (.bZ (Kw w)) cs nW.flatten/\Iz ty k cs
 |0,nW,hl,_=>by
  have:nW=[]:=L5.1 hl;subst this;exact⟨[],.nil,rfl⟩
 |k+1,[],hl,_=>by simp at hl
 |k+1,vs::nW,hl,h=>by
  obtain⟨ys,Y,I⟩:=h 0 vs rfl;obtain⟨zs,h3,h4⟩:=ZT k nW (by simpa using hl) (fun i rY hv=>h (i+1) rY (by simpa using hv));exact⟨ys++zs,bf.append Y h3,ys,zs,rfl,I,h4⟩
theorem ZU (n:Nat):∀(k:Nat) (vs:List Value),vs.length=k*n->vs=((Nt k).map fun i=>(vs.drop (i*n)).take n).flatten
 |0,vs,hl=>by
  have:vs=[]:=L5.1 (by simpa using hl);simp[this]
 |k+1,vs,hl=>by
  have ih:=ZU n k (vs.drop n) (by simp[hl,Ux]);rw[List.range_succ_eq_map,Vb,Eaa,List.map_map]
  have e:(Nt k).map ((fun i=>(vs.drop (i*n)).take n) ∘ Nat.succ)=(Nt k).map fun i=>((vs.drop n).drop (i*n)).take n:=by
   apply List.map_congr_left;intro i _;simp only[Function.comp,Eak]
   congr 2
   rw[Ux];omega
  rw[e,<-ih];simp
theorem S3:∀ {n:Nat} {t:TypeId} {cs:List AVal},yt P n t cs->∀x∈cs,qm x=En
 |0,_,_,h=>h.elim
 |n+1,t,cs,h=>by
  have fsc:∀(fs:List Field) (cs:List AVal),Iy (yt P n) fs cs->∀x∈cs,qm x=En:=by
   intro fs
   induction fs with
   |nil=>intro cs h;simp only[Iy]at h;subst h;simp
   |cons f fs ih=>
    rintro cs ⟨ys,zs,rfl,Y,I⟩ x M;rcases Ru.1 M with M|M
    .exact S3 Y x M
    .exact ih _ I x M
  have rsc:∀(e:TypeId) (k:Nat) (cs:List AVal),Iz (yt P n e) k cs->∀x∈cs,qm x=En:=by
   intro e k
   induction k with
   |zero=>intro cs h;simp only[Iz]at h;subst h;simp
   |succ k ih=>
    rintro cs ⟨ys,zs,rfl,Y,I⟩ x M;rcases Ru.1 M with M|M
    .exact S3 Y x M
    .exact ih _ I x M
  simp only[yt]at h;split at h
  .obtain⟨b,rfl⟩:=h;simp[qm]
  .obtain⟨m,rfl,_⟩:=h;simp[qm]
  .obtain⟨s,rfl,_⟩:=h;simp[qm]
  .rcases h with rfl|⟨xs,rfl,_⟩<;>simp[qm]
  .exact fsc _ _ h
  .exact rsc _ _ _ h
  .exact h.elim
theorem ZV {n}{t:TypeId}{cs}(h:yt P n t cs)(ha:qhb P t=Hd):∃x,cs=[x]/\x.isAgg=Hd:=by
 cases n with
 |zero=>exact h.elim
 |succ n=>
  unfold qhb at ha;simp only[yt]at h;split at h
  .obtain⟨b,rfl⟩:=h;exact⟨_,rfl,rfl⟩
  .obtain⟨m,rfl,_⟩:=h;exact⟨_,rfl,rfl⟩
  .obtain⟨s,rfl,_⟩:=h;exact⟨_,rfl,rfl⟩
  .rcases h with rfl|⟨xs,rfl,_⟩<;>exact⟨_,rfl,rfl⟩
  .rename_i hu;rw[hu]at ha;cases ha
  .rename_i hu;rw[hu]at ha;cases ha
  .exact h.elim
theorem read {held}:∀(n fuel:Nat) (t:TypeId) (vs:List Value) (d:DataW H) (ps:List MemPlace),sI P n t=En->DataW.trod enc P w 0 (fun _=>En) held fuel t vs=Eb (d,ps) ->
  ∃cs,bf (.bZ (Kw w)) cs vs/\yt P n t cs/\cs.length=P.cellsOf t
 |0,_,_,_,_,_,hp,_=>by simp[sI]at hp
 |n+1,0,_,_,_,_,_,h=>by simp[DataW.trod]at h
 |n+1,fuel+1,t,vs,d,ps,hp,h=>by
  simp only[sI]at hp;simp only[yt];simp only[DataW.trod]at h
  cases hu:P.underlying t with
  |none=>simp[hu]at hp
  |some td=>
   rw[hu]at h hp
   cases td with
   |bool=>
    simp only[beq_iff_eq]at hp
    split at h<;>first|cases ‹Eb _=Eb _› | skip
    all_goals first|(rename_i heq;cases heq;done)|skip
    .exact⟨_,.cons _ _ _ _ (.bool _) .nil,⟨_,rfl⟩,by simp[hp]⟩
    .cases h
   |int k=>
    simp only[beq_iff_eq]at hp
    split at h<;>first|cases ‹Eb _=Eb _› | skip
    all_goals first|(rename_i heq;cases heq;done)|skip
    .split at h
     .rename_i hk;obtain⟨rfl,dx⟩:=hk;exact⟨_,.cons _ _ _ _ (.int _ _) .nil,⟨_,rfl,dx⟩,by simp[hp]⟩
     .cases h
    .cases h
   |string=>
    simp only[beq_iff_eq]at hp
    split at h<;>first|cases ‹Eb _=Eb _› | skip
    all_goals first|(rename_i heq;cases heq;done)|skip
    .rename_i s;split at h
     .rename_i hk;refine⟨[.str s.data.toList],.cons _ _ _ _ (aJ.str s.data.toList) .nil,⟨_,rfl,?_⟩,by simp[hp]⟩;simpa using hk
     .cases h
    .cases h
   |slice e=>
    simp only[Eg,beq_iff_eq,decide_eq_true_eq]at hp;obtain⟨⟨jY,dU⟩,ZW⟩:=hp
    split at h<;>first|cases ‹Eb _=Eb _› | skip
    all_goals first|(rename_i heq;cases heq;done)|skip
    .exact⟨_,.cons _ _ _ _ (.iZ 0) .nil,.inl rfl,by simp[jY]⟩
    .rename_i a len cap;split at h
     .rename_i hk;obtain⟨_,dx,hk3⟩:=hk
      cases he:(Nt len).mapM (fun i=>(w.cells? 0 (a.add (i*P.cellsOf e)) (P.cellsOf e)).bind (DataW.trod enc P w 0 (fun _=>En) held fuel e))with
      |none=>simp[he]at h
      |some elems=>
       simp only[he,Uw,if_true]at h
       cases Q:(Nt (cap-len)).mapM (fun j=>(w.cells? 0 (a.add ((len+j)*P.cellsOf e)) (P.cellsOf e)).bind (DataW.trod enc P w 0 (fun _=>En) held fuel e))with
       |none=>simp[Q]at h
       |some rest=>
        obtain⟨S4,Ml⟩:=Fc he;obtain⟨iH,sn⟩:=Fc Q;rw[Eab]at S4 iH
        have IA:0<cap->a.spot=G0:=fun hc=>by
         have vX:∃z,(w.cells? 0 (a.add (0*P.cellsOf e)) (P.cellsOf e)).bind (DataW.trod enc P w 0 (fun _=>En) held fuel e)=Eb z:=by
          by_cases hl:0<len
          .obtain⟨y,_,hy⟩:=Ml 0 0 (by rw[If hl]);exact⟨y,hy⟩
          .obtain⟨y,_,hy⟩:=sn 0 0 (by rw[If (by omega)])
           have G5:len=0:=by omega
           subst G5;exact⟨y,by simpa using hy⟩
         obtain⟨z0,vX⟩:=vX
         cases MF:w.cells? 0 (a.add (0*P.cellsOf e)) (P.cellsOf e)with
         |none=>rw[MF]at vX;cases vX
         |some us0=>
          obtain⟨d1,d2⟩:=ZR MF;have dM:=d2 0 _ (Hz (show 0<us0.length by omega));have:=World.cell?_spot dM;simpa[Addr.add]using this
        by_cases hcap:0<cap
        .have Mu:=IA hcap;obtain⟨r,o,sp⟩:=a;simp only at Mu;subst Mu
         have elem:∀(i:Nat),i<len->∃y:AVal,cB (.bZ (Kw w)) r y.flat (o+i*P.cellsOf e)/\y.flat.length=P.cellsOf e/\yt P n e y.flat/\y.isAgg=qhb P e:=by
          intro i hi;obtain⟨z,_,hz⟩:=Ml i i (by rw[If hi])
          cases hc:w.cells? 0 ((⟨r,o,G0⟩:Addr).add (i*P.cellsOf e)) (P.cellsOf e)with
          |none=>simp[hc]at hz
          |some us=>
           simp only[hc,Uw]at hz;obtain⟨c1,c2⟩:=ZR hc;obtain⟨cs,k1,k2,k3⟩:=read n fuel e us z.1 z.2 dU hz;have dc:=Ar k1 (S3 k2)
           have hcs:cB (.bZ (Kw w)) r cs (o+i*P.cellsOf e):=cB.iE k1 fun j v hj=>by
            have Y:=c2 j v hj;rw[add_lit,add_lit]at Y;exact jzv Y (dc v (Hx hj))
           cases df:qhb P e with
           |true=>exact⟨.agg cs,hcs,k3,k2,rfl⟩
           |false=>
            obtain⟨x,rfl,M⟩:=ZV k2 df;have hf:x.flat=[x]:=qbk M;exact⟨x,by rw[hf];exact hcs,by rw[hf];exact k3,by rw[hf];exact k2,M⟩
         have rows:∀(m:Nat) (q:Nat),q+m=len->∃ys:List AVal,ys.length=m/\bA (.bZ (Kw w)) r (P.cellsOf e) ys (o+q*P.cellsOf e)/\∀y∈ys,yt P n e y.flat/\y.isAgg=qhb P e:=by
          intro m
          induction m with
          |zero=>intro q _;exact⟨[],rfl,.fN _ _ _,by simp⟩
          |succ m ih=>
           intro q hq;obtain⟨ys,y1,y2,y3⟩:=ih (q+1) (by omega);obtain⟨y,z1,z2,z3⟩:=elem q (by omega);refine⟨y::ys,by simp[y1],.dr _ _ _ _ _ z2 z1 ?_,?_⟩
           .rw[show o+q*P.cellsOf e+P.cellsOf e=o+(q+1)*P.cellsOf e from by rw[Ux];omega];exact y2
           .intro x M;rcases R2.1 M with rfl|M
            .exact z3
            .exact y3 x M
         obtain⟨ys,y1,y2,y3⟩:=rows len 0 (by omega);rw[Nat.zero_mul,Yv]at y2;subst y1;exact⟨_,.cons _ _ _ _ (.list (P.cellsOf e) ys r o cap dx y2) .nil,.inr ⟨ys,rfl,by omega,y3⟩,by simp[jY]⟩
        .have MF:cap=0:=by omega
         have G5:len=0:=by omega
         subst MF;subst G5;by_cases l0:a.spot=G0
         .obtain⟨r,o,sp⟩:=a;simp only at l0;subst l0;exact⟨_,.cons _ _ _ _ (.list (P.cellsOf e) [] r o 0 (by simp) (.fN _ _ _)) .nil,.inr ⟨[],rfl,by simp,by simp⟩,by simp[jY]⟩
         .exact⟨_,.cons _ _ _ _ (.jA (P.cellsOf e) a l0) .nil,.inr ⟨[],rfl,by simp,by simp⟩,by simp[jY]⟩
     .cases h
    .cases h
   |struct fs=>
    simp only[Eg,beq_iff_eq,Hs]at hp;obtain⟨⟨jY,dU⟩,ZW⟩:=hp;change (if vs.length=P.cellsOf t then(fs.toList.mapM fun f=>DataW.trod enc P w 0 (fun _=>En) held fuel f.type ((vs.drop f.offset).take (P.cellsOf f.type))).map fun xs=>(DataW.agg (xs.map (·.1)),xs.flatMap (·.2))else G0)=Eb (d,ps)at h
    .split at h
     .rename_i hl
      cases hm:fs.toList.mapM (fun f=>DataW.trod enc P w 0 (fun _=>En) held fuel f.type ((vs.drop f.offset).take (P.cellsOf f.type)))with
      |none=>simp[hm]at h
      |some zs=>
       obtain⟨m1,m2⟩:=Fc hm;have A1:=ZQ fs.toList 0 vs jY (by omega)
       obtain⟨cs,k1,k2⟩:=ZS (w:=w) (ty:=yt P n) fs.toList (fs.toList.map fun f=>(vs.drop f.offset).take (P.cellsOf f.type)) (by simp) (fun i f us hf hv=>by
        obtain⟨z,_,hz⟩:=m2 i f hf
        have gY:us=(vs.drop f.offset).take (P.cellsOf f.type):=by
         rw[J5,hf]at hv;simpa using hv.symm
        subst gY;obtain⟨cs,q1,q2,_⟩:=read n fuel f.type _ z.1 z.2 (ZW f (Hx hf)) hz
        exact⟨cs,q1,q2⟩)
       rw[<-A1]at k1;exact⟨cs,by simpa using k1,k2,by have:=k1.length;simp at this;omega⟩
     .cases h
   |array k e=>
    simp only[Eg,beq_iff_eq]at hp;obtain⟨jY,dU⟩:=hp;change (if vs.length=P.cellsOf t then((Nt k).mapM fun i=>DataW.trod enc P w 0 (fun _=>En) held fuel e ((vs.drop (i*P.cellsOf e)).take (P.cellsOf e))).map fun xs=>(DataW.agg (xs.map (·.1)),xs.flatMap (·.2))else G0)=Eb (d,ps)at h
    .split at h
     .rename_i hl
      cases hm:(Nt k).mapM (fun i=>DataW.trod enc P w 0 (fun _=>En) held fuel e ((vs.drop (i*P.cellsOf e)).take (P.cellsOf e)))with
      |none=>simp[hm]at h
      |some zs=>
       obtain⟨m1,m2⟩:=Fc hm;have A1:=ZU (P.cellsOf e) k vs (by omega)
       obtain⟨cs,k1,k2⟩:=ZT (w:=w) (ty:=yt P n e) k ((Nt k).map fun i=>(vs.drop (i*P.cellsOf e)).take (P.cellsOf e)) (by simp) (fun i us hv=>by
        have hi:i<k:=by
         have:=(Hc.1 hv).1;simpa using this
        obtain⟨z,_,hz⟩:=m2 i i (by rw[If hi])
        have gY:us=(vs.drop (i*P.cellsOf e)).take (P.cellsOf e):=by
         rw[J5,If hi]at hv;simpa using hv.symm
        subst gY;obtain⟨cs,q1,q2,_⟩:=read n fuel e _ z.1 z.2 dU hz
        exact⟨cs,q1,q2⟩)
       rw[<-A1]at k1;exact⟨cs,k1,k2,by have:=k1.length;omega⟩
     .cases h
   |_=>simp at hp
end
open Go.ChangeShapes Go.WideShapes Go.ChangeAt Go.RowKit
section
variable {P:Program}{H:Type}{enc:TypeId×Value->H}{w:World}
def ZX (P:Program)(n:Nat)(t:TypeId)(x:AVal):Prop:=yt P n t x.flat/\x.isAgg=qhb P t
def qph (P:Program)(n:Nat):List TypeId->List AVal->Prop
 | [],xs=>xs=[]|t::ts,xs=>∃y ys,xs=y::ys/\ZX P n t y/\qph P n ts ys
theorem jqr {n}{t:TypeId}{v d ps base}(hp:sI P n t=En)(hv:Value.okWide P w .any base t v)(h:DataW.Trod enc P w 0 (fun _=>En) En t v d ps):∃x,bS (.bZ (Kw w)) x v/\ZX P n t x:=by
 obtain⟨fuel,hf⟩:=h;obtain⟨cs,k1,k2,k3⟩:=read n fuel t _ d ps hp hf
 cases df:qhb P t with
 |true=>
  have HO:∃cells,v=.agg cells:=by
   unfold qhb at df;unfold Value.okWide at hv;split at df
   .rename_i fs hu;rw[hu]at hv;obtain⟨c,hc,_⟩:=hv;exact⟨c,hc⟩
   .rename_i a b hu;rw[hu]at hv;obtain⟨c,hc,_⟩:=hv;exact⟨c,hc⟩
   .cases df
  obtain⟨cells,rfl⟩:=HO;exact⟨.agg cs,.agg cs cells.toList k1,k2,df.symm⟩
 |false=>
  obtain⟨x,rfl,M⟩:=ZV k2 df
  have HO:v.cells.toList=[v]:=by
   cases v with
   |agg c=>
    exfalso;unfold Value.okWide at hv;unfold qhb at df
    cases n with
    |zero=>simp[sI]at hp
    |succ n=>
     simp only[sI]at hp
     cases hu:P.underlying t with
     |none=>rw[hu]at hp;cases hp
     |some td=>rw[hu]at hp hv df;cases td<;>first|(simp at hp;done)|(simp at df;done)|(simp[Cell.okWide,hu,Cell.ok]at hv;done)
   |_=>rfl
  rw[HO]at k1
  cases k1 with
  |cons _ _ _ _ Y _=>exact⟨x,Y,by rw[qbk M];exact k2,by rw[M,df]⟩
theorem ZY {n}:∀ {ts:List TypeId} {vs:List Value} {ds:List (DataW H)} {ps:List MemPlace},ts.all (sI P n)=En->(∀(j:Nat) t v,ts[j]?=Eb t->vs[j]?=Eb v->∃base,Value.okWide P w .any base t v)->DataW.TrodAll enc P w 0 (fun _=>En) En ts vs ds ps ->
  ds.length=ts.length/\∃xs,bf (.bZ (Kw w)) xs vs/\qph P n ts xs
 | [],[],[],ps,_,_,_=>⟨rfl,[],.nil,rfl⟩
 | [],[],_::_,ps,_,_,h=>by simp[DataW.TrodAll]at h
 | [],_::_,_,ps,_,_,h=>by simp[DataW.TrodAll]at h
 |_::_,[],_,ps,_,_,h=>by simp[DataW.TrodAll]at h
 |_::_,_::_,[],ps,_,_,h=>by simp[DataW.TrodAll]at h
 |t::ts,v::vs,d::ds,ps,hp,hv,h=>by
  obtain⟨p,q,Y,I,_⟩:=h;simp only[Va,Eg]at hp;obtain⟨base,hb⟩:=hv 0 t v rfl rfl;obtain⟨x,k1,k2⟩:=jqr hp.1 hb Y;obtain⟨hl,xs,k3,k4⟩:=ZY hp.2 (fun j t' v' ht vO=>hv (j+1) t' v' (by simpa using ht) (by simpa using vO)) I;exact⟨by simp[hl],x::xs,.cons _ _ _ _ k1 k3,x,xs,rfl,k2,k4⟩
theorem Ext.frame {w'}(h:Ext w w')(may:MemPlace->Prop):w.keptBut w' may:=by
 refine⟨h.os,h.output,fun i hi=>?_⟩;rw[h.same i hi];split<;>simp_all
theorem Ext.sameAt {w'}(h:Ext w w'){p}(hp:p.block<w.heap.size):w.sameAt w' p:=by
 cases p with
 |cell b o=>exact World.cell?_of_block (w:=w) (h.same b hp)|map b=>exact h.same b hp
theorem ZZ {w'}(M:Ext w w')(hl:laidOutB P=En):∀ {ts:List TypeId} {vs:List Value} {ds:List (DataW H)} {ps:List MemPlace},ts.all (fun t=>P.readableRec t&&decide (t<P.types.size))=En->DataW.TrodAll enc P w 0 (fun _=>En) En ts vs ds ps ->
  DataW.TrodAll enc P w' 0 (fun b=>decide (b<w.heap.size)) En ts vs ds ps
 | [],[],[],ps,_,h=>h
 | [],[],_::_,ps,_,h=>by simp[DataW.TrodAll]at h
 | [],_::_,_,ps,_,h=>by simp[DataW.TrodAll]at h
 |_::_,[],_,ps,_,h=>by simp[DataW.TrodAll]at h
 |_::_,_::_,[],ps,_,h=>by simp[DataW.TrodAll]at h
 |t::ts,v::vs,d::ds,ps,Q,h=>by
  obtain⟨p,q,Y,I,h3⟩:=h;simp only[Va,Eg,decide_eq_true_eq]at Q
  have bh:∀x∈p,x.block<w.heap.size:=by obtain⟨m,hm⟩:=Y;exact DataW.trod_lt m _ _ _ hm
  exact⟨p,q,WideElems.Trod_stays hl Q.1.1 Q.1.2 Y (fun x hm=>M.sameAt (bh x hm)) (fun x hm=>by simpa using bh x hm),ZZ M hl Q.2 I,h3⟩
end
def nj (f g:XC):Prop:=∀c st r,f c st=Eb r->g c st=Eb r
section
variable {p:j8}{f g:XC}
theorem Z1 (h:nj f g){af args hp r}(Q:qE f af args hp=Eb r):qE g af args hp=Eb r:=by
 unfold qE at *
 cases hb:Hr args.length af.ntmps with
 |false=>simp[hb]at Q
 |true=>
  simp only[hb,cond_true]at Q ⊢;split at Q
  .rename_i st cq;rw[h _ _ _ cq];exact Q
  .rename_i st cq;rw[h _ _ _ cq];exact Q
  .cases Q
theorem MG (h:nj f g){k args hp r}(Q:ai p f k args hp=Eb r):ai p g k args hp=Eb r:=by
 unfold ai at *;split at Q
 .exact Z1 h Q
 .exact Q
theorem IB (h:nj f g){k args r}(Q:ae p f k args=Eb r):ae p g k args=Eb r:=by
 unfold ae at *;split at Q
 .exact Q
 .split at Q
  .rename_i v o hh hc;rw[MG h hc];exact Q
  .cases Q
theorem Z2 (h:nj f g){b args hp r}(Q:kQ f b args hp=Eb r):kQ g b args hp=Eb r:=by
 unfold kQ at *;split at Q
 .split at Q
  .split at Q
   .rename_i st cq;rw[h _ _ _ cq];simp only[];split at Q
    .rename_i l1 eh
     cases jY:l1.pending.isNone with
     |false=>simp[jY]at Q
     |true=>
      simp only[jY,cond_true]at Q ⊢;split at Q
      .rename_i x bN iw;rw[h _ _ _ iw];exact Q
      .cases Q
    .cases Q
   .cases Q
  .cases Q
 .cases Q
theorem q31 (h:nj f g){h0 e hp md x l r}(Q:yd p f h0 e hp md x l=Eb r):yd p g h0 e hp md x l=Eb r:=by
 unfold yd at *;split at Q
 .cases md with
  |bZ=>
   simp only[]at Q ⊢
   rename_i k first captured vs _ _
   cases hb:qt 0 (first++vs++captured)with
   |false=>rw[hb]at Q;cases Q
   |true=>
    rw[hb]at Q;simp only[cond_true]at Q ⊢;split at Q
    .rename_i v o hc;rw[IB h hc];exact Q
    .cases Q
  |red=>
   simp only[]at Q ⊢;split at Q
   .rename_i us hf
    cases hb:qt 0 us with
    |false=>rw[hb]at Q;cases Q
    |true=>
     rw[hb]at Q;simp only[cond_true]at Q ⊢;split at Q
     .rename_i v o hc;rw[IB h hc];exact Q
     .cases Q
   .cases Q
  |ft _=>
   simp only[]at Q ⊢
   rename_i k first captured vs _ _ _
   cases he:(first++vs++captured).isEmpty with
   |true=>rw[he]at Q;exact Q
   |false=>
    rw[he]at Q;simp only[cond_false]at Q ⊢
    cases hb:qt 0 (first++vs++captured)with
    |false=>rw[hb]at Q;cases Q
    |true=>
     rw[hb]at Q;simp only[cond_true]at Q ⊢;split at Q
     .rename_i v o hc;rw[IB h hc];exact Q
     .cases Q
  |shr=>
   simp only[]at Q ⊢;split at Q
   .rename_i v o hh hc;rw[MG h hc];exact Q
   .cases Q
 .cases md with
  |shr=>
   simp only[]at Q ⊢;split at Q
   .rename_i v hh hc;rw[Z2 h hc];exact Q
   .cases Q
  |_=>simp at Q
 .cases Q
theorem q84 (h:nj f g){h0 al e hp op r}(Q:qg p f h0 al e hp op=Eb r):qg p g h0 al e hp op=Eb r:=by
 cases op with
 |call md x l=>exact q31 h Q|append rk sz b x y=>cases rk<;>exact Q|b8 rk sz b z n c=>cases rk<;>exact Q|_=>exact Q
theorem Z3 (h:nj f g){h0 o st bN}(Q:ye p f h0 o st=Eb bN):ye p g h0 o st=Eb bN:=by
 unfold ye at *;split at Q
 .split at Q
  .rename_i r G;rw[q84 h G];exact Q
  .cases Q
 .exact Q
 .cases Q
theorem S5 (h:nj f g){h0}:∀ {l:List bT} {st bN:bj},fH p f h0 l st=Eb bN->fH p g h0 l st=Eb bN
 | [],_,_,Q=>Q
 |o::l,st,bN,Q=>by
  simp only[fH]at Q ⊢;split at Q
  .rename_i s1 Y;rw[Z3 h Y];exact S5 h Q
  .cases Q
theorem Z4 (h:nj f g){na l k st r}(Q:lI p f na l k st=Eb r):lI p g na l k st=Eb r:=by
 unfold lI at *;split at Q
 .rename_i s1 Y;rw[S5 h Y];exact Q
 .cases Q
theorem Z5 (h:nj f g){x ps a b st r}(Q:lJ p f x ps a b st=Eb r):lJ p g x ps a b st=Eb r:=by
 unfold lJ at *
 cases hn:(zu a&&zu b)with
 |false=>simp[hn]at Q
 |true=>
  simp only[hn,cond_true]at Q ⊢;split at Q
  .split at Q
   .rename_i v o hh hc;rw[MG h hc];exact Q
   .cases Q
  .cases Q
end
theorem Z6 (p:j8):∀n,nj (aC p n) (aC p (n+1))
 |0=>fun c st r h=>by simp[aC]at h
 |n+1=>by
  have ih:=Z6 p n;intro c st r h
  cases c with
  |region na l k=>simp only[aC]at h ⊢;exact Z4 ih h|rangeFunc f ps a b=>simp only[aC]at h ⊢;exact Z5 ih h
  |seq a b=>
   rw[aC]at h ⊢;split at h
   .rename_i fQ Y;rw[ih _ _ _ Y];exact ih _ _ _ h
   .rename_i bI;rw[ih _ _ _ h];split
    .rename_i fQ Y;cases Y;exact absurd h (bI _)
    .rfl
  |cond c a b=>
   rw[aC]at h ⊢;split at h
   .rename_i t ht;cases t
    .simp only[cond_false]at h ⊢;exact ih _ _ _ h
    .simp only[cond_true]at h ⊢;exact ih _ _ _ h
   .cases h
  |block id b=>
   rw[aC]at h ⊢;split at h
   .rename_i fI fQ Y;rw[ih _ _ _ Y];exact h
   .rename_i bI;rw[ih _ _ _ h];split
    .rename_i fI fQ Y;cases Y;exact absurd h (bI _ _)
    .rfl
  |loop b=>
   rw[aC]at h ⊢;split at h
   .rename_i fQ Y;rw[ih _ _ _ Y];exact ih _ _ _ h
   .rename_i bI;rw[ih _ _ _ h];split
    .rename_i fQ Y;cases Y;exact absurd h (bI _)
    .rfl
  |_=>exact h
theorem ul (p:j8){n m}(h:n<=m):nj (aC p n) (aC p m):=by
 induction h with
 |refl=>exact fun _ _ _ h=>h
 |step _ ih=>exact fun c st r Q=>Z6 p _ c st r (ih c st r Q)
open Classical in
noncomputable def X (p:j8):XC:=fun c st=>if h:∃r n,aC p n c st=Eb r then Eb (Classical.choose h)else G0
theorem yx {p c st r}:X p c st=Eb r↔∃n,aC p n c st=Eb r:=by
 unfold X;constructor
 .intro h;split at h
  .rename_i hh;cases h;exact Classical.choose_spec hh
  .cases h
 .rintro ⟨n,hn⟩;have hh:∃r n,aC p n c st=Eb r:=⟨r,n,hn⟩;rw[dif_pos hh];obtain⟨m,hm⟩:=Classical.choose_spec hh;have Y:=ul p (St n m) _ _ _ hn;have I:=ul p (Rz n m) _ _ _ hm;rw[Y]at I;exact I.symm
theorem nX {p}(n:Nat):nj (aC p n) (X p):=fun _ _ _ h=>yx.2 ⟨n,h⟩
section
variable {p:j8}
theorem q6y {af args hp r}(Q:qE (X p) af args hp=Eb r):∃n,qE (aC p n) af args hp=Eb r:=by
 have YY:=Q;unfold qE at Q
 cases hb:Hr args.length af.ntmps with
 |false=>simp[hb]at Q
 |true=>
  simp only[hb,cond_true]at Q
  have key:∀ {r'},X p af.body ⟨pq 0 args,hp⟩=Eb r'->∃n,qE (aC p n) af args hp=Eb r:=by
   intro r' h;obtain⟨n,hn⟩:=yx.1 h;refine⟨n,?_⟩;unfold qE;rw[hb,hn];rw[h]at Q;exact Q
  split at Q
  .rename_i st cq;exact key cq
  .rename_i st cq;exact key cq
  .cases Q
theorem MH {k args hp r}(Q:ai p (X p) k args hp=Eb r):∃n,ai p (aC p n) k args hp=Eb r:=by
 unfold ai at *
 cases h:p.bn k with
 |none=>rw[h]at Q;exact⟨0,Q⟩|some f=>rw[h]at Q;exact q6y Q
theorem IC {k args r}(Q:ae p (X p) k args=Eb r):∃n,ae p (aC p n) k args=Eb r:=by
 unfold ae at *
 cases h:p.di k with
 |some f=>rw[h]at Q;exact⟨0,Q⟩
 |none=>
  rw[h]at Q;simp only[]at Q ⊢;split at Q
  .rename_i v o hh hc;obtain⟨n,hn⟩:=MH hc;exact⟨n,by rw[hn];exact Q⟩
  .cases Q
theorem q8y {b args hp r}(Q:kQ (X p) b args hp=Eb r):∃n,kQ (aC p n) b args hp=Eb r:=by
 unfold kQ at Q;split at Q
 .rename_i l hl;split at Q
  .rename_i e vV hse;split at Q
   .rename_i st cq;split at Q
    .rename_i l1 eh
     cases jY:l1.pending.isNone with
     |false=>simp[jY]at Q
     |true=>
      simp only[jY,cond_true]at Q;split at Q
      .rename_i x bN iw;obtain⟨n,hn⟩:=yx.1 cq;obtain⟨m,hm⟩:=yx.1 iw;refine⟨max n m,?_⟩;have Y:=ul p (St n m) _ _ _ hn;have I:=ul p (Rz n m) _ _ _ hm;simp only[kQ,hl,vV,hse,Y,eh,jY,cond_true,I];exact Q
      .cases Q
    .cases Q
   .cases Q
  .cases Q
 .cases Q
theorem q6g {h0 e hp md x l r}(Q:yd p (X p) h0 e hp md x l=Eb r):∃n,yd p (aC p n) h0 e hp md x l=Eb r:=by
 unfold yd at Q;split at Q
 .rename_i k first captured vs e1 e2
  cases md with
  |bZ=>
   simp only[]at Q
   cases hb:qt 0 (first++vs++captured)with
   |false=>rw[hb]at Q;cases Q
   |true=>
    rw[hb]at Q;simp only[cond_true]at Q;split at Q
    .rename_i v o hc;obtain⟨n,hn⟩:=IC hc;refine⟨n,?_⟩;simp only[yd,e1,e2,hn];rw[hb];exact Q
    .cases Q
  |red=>
   simp only[]at Q;split at Q
   .rename_i us hf
    cases hb:qt 0 us with
    |false=>rw[hb]at Q;cases Q
    |true=>
     rw[hb]at Q;simp only[cond_true]at Q;split at Q
     .rename_i v o hc;obtain⟨n,hn⟩:=IC hc;refine⟨n,?_⟩;simp only[yd,e1,e2,hf,hn];rw[hb];exact Q
     .cases Q
   .cases Q
  |ft _=>
   simp only[]at Q
   cases he:(first++vs++captured).isEmpty with
   |true=>exact⟨0,by simp only[yd,e1,e2,he];rw[he]at Q;exact Q⟩
   |false=>
    rw[he]at Q;simp only[cond_false]at Q
    cases hb:qt 0 (first++vs++captured)with
    |false=>rw[hb]at Q;cases Q
    |true=>
     rw[hb]at Q;simp only[cond_true]at Q;split at Q
     .rename_i v o hc;obtain⟨n,hn⟩:=IC hc;refine⟨n,?_⟩;simp only[yd,e1,e2,hn];rw[he,hb];exact Q
     .cases Q
  |shr=>
   simp only[]at Q;split at Q
   .rename_i v o hh hc;obtain⟨n,hn⟩:=MH hc;refine⟨n,?_⟩;simp only[yd,e1,e2,hn];exact Q
   .cases Q
 .rename_i b vs e1 e2
  cases md with
  |shr=>
   simp only[]at Q;split at Q
   .rename_i v hh hc;obtain⟨n,hn⟩:=q8y hc;refine⟨n,?_⟩;simp only[yd,e1,e2,hn];exact Q
   .cases Q
  |_=>simp at Q
 .cases Q
theorem jda {h0 al e hp op r}(Q:qg p (X p) h0 al e hp op=Eb r):∃n,qg p (aC p n) h0 al e hp op=Eb r:=by
 cases op with
 |call md x l=>exact q6g Q|append rk sz b x y=>cases rk<;>exact⟨0,Q⟩|b8 rk sz b z n c=>cases rk<;>exact⟨0,Q⟩|_=>exact⟨0,Q⟩
theorem q7a {h0 o st bN}(Q:ye p (X p) h0 o st=Eb bN):∃n,ye p (aC p n) h0 o st=Eb bN:=by
 unfold ye at *
 cases hg:nH st.env o.guard with
 |none=>simp[hg]at Q
 |some b=>
  rw[hg]at Q
  cases b with
  |false=>exact⟨0,Q⟩
  |true=>
   simp only[]at Q ⊢;split at Q
   .rename_i r G;obtain⟨n,hn⟩:=jda G;exact⟨n,by rw[hn];exact Q⟩
   .cases Q
theorem Z7 {h0}:∀ {l:List bT} {st bN:bj},fH p (X p) h0 l st=Eb bN->∃n,fH p (aC p n) h0 l st=Eb bN
 | [],_,_,Q=>⟨0,Q⟩
 |o::l,st,bN,Q=>by
  simp only[fH]at Q;split at Q
  .rename_i s1 Y;obtain⟨n,hn⟩:=q7a Y;obtain⟨m,hm⟩:=Z7 Q;refine⟨max n m,?_⟩;simp only[fH];rw[Z3 (ul p (St n m)) hn];exact S5 (ul p (Rz n m)) hm
  .cases Q
theorem q9j {na l k st r}(Q:lI p (X p) na l k st=Eb r):∃n,lI p (aC p n) na l k st=Eb r:=by
 unfold lI at Q;split at Q
 .rename_i s1 Y;obtain⟨n,hn⟩:=Z7 Y;exact⟨n,by unfold lI;rw[hn];exact Q⟩
 .cases Q
theorem jbm {x ps a b st r}(Q:lJ p (X p) x ps a b st=Eb r):∃n,lJ p (aC p n) x ps a b st=Eb r:=by
 unfold lJ at Q
 cases hn:(zu a&&zu b)with
 |false=>simp[hn]at Q
 |true=>
  simp only[hn,cond_true]at Q;split at Q
  .rename_i k first captured dY
   split at Q
   .rename_i v o hh hc;obtain⟨n,jD⟩:=MH hc;refine⟨n,?_⟩;unfold lJ;rw[hn,dY];simp only[cond_true];rw[jD];exact Q
   .cases Q
  .cases Q
theorem A2 {α:Type}{x y:Option α}(Y:∀r,x=Eb r->y=Eb r)(I:∀r,y=Eb r->x=Eb r):x=y:=by
 cases x with
 |none=>
  cases y with
  |none=>rfl|some r=>exact(I r rfl)
 |some r=>exact(Y r rfl).symm
theorem Z8 {st}:X p .skip st=Eb (.normal,st):=yx.2 ⟨1,rfl⟩
theorem Z9 {id st}:X p (.exit id) st=Eb (.exit id,st):=yx.2 ⟨1,rfl⟩
theorem jmt {st}:X p .ret st=Eb (.ret,st):=yx.2 ⟨1,rfl⟩
theorem q58 {na:Nat}{l:List bT}{k st}:X p (.region na l k) st=lI p (X p) na l k st:=by
 refine A2 (fun r h=>?_) (fun r h=>?_)
 .obtain⟨n,hn⟩:=yx.1 h
  cases n with
  |zero=>simp[aC]at hn|succ n=>simp only[aC]at hn;exact Z4 (nX n) hn
 .obtain⟨n,hn⟩:=q9j h;exact yx.2 ⟨n+1,by simp only[aC];exact hn⟩
theorem MI {x:jq}{ps:List Nat}{a b st}:X p (.rangeFunc x ps a b) st=lJ p (X p) x ps a b st:=by
 refine A2 (fun r h=>?_) (fun r h=>?_)
 .obtain⟨n,hn⟩:=yx.1 h
  cases n with
  |zero=>simp[aC]at hn|succ n=>simp only[aC]at hn;exact Z5 (nX n) hn
 .obtain⟨n,hn⟩:=jbm h;exact yx.2 ⟨n+1,by simp only[aC];exact hn⟩
theorem jmk {a b:aQ}{st:bj}:X p (.seq a b) st=match X p a st with
  |some (.normal,bN)=>X p b bN
  |r=>r:=by
 refine A2 (fun r h=>?_) (fun r h=>?_)
 .obtain⟨n,hn⟩:=yx.1 h
  cases n with
  |zero=>simp[aC]at hn
  |succ n=>
   rw[aC]at hn;split at hn
   .rename_i fQ Y;rw[nX n _ _ _ Y];exact nX n _ _ _ hn
   .rename_i bI;rw[nX n _ _ _ hn];split
    .rename_i fQ Y;cases Y;exact absurd hn (bI _)
    .rfl
 .split at h
  .rename_i fQ Y;obtain⟨n,hn⟩:=yx.1 Y;obtain⟨m,hm⟩:=yx.1 h;refine yx.2 ⟨max n m+1,?_⟩;rw[aC,ul p (St n m) _ _ _ hn];exact ul p (Rz n m) _ _ _ hm
  .rename_i bI;obtain⟨n,hn⟩:=yx.1 h;refine yx.2 ⟨n+1,?_⟩;rw[aC,hn];split
   .rename_i fQ Y;cases Y;exact absurd h (bI _)
   .rfl
theorem jhp {c:jq}{a b:aQ}{st}:X p (.cond c a b) st=match qj st.env c with
  |some (.bool t)=>bif t then X p a st else X p b st
  |_=>G0:=by
 refine A2 (fun r h=>?_) (fun r h=>?_)
 .obtain⟨n,hn⟩:=yx.1 h
  cases n with
  |zero=>simp[aC]at hn
  |succ n=>
   rw[aC]at hn;split at hn
   .rename_i t ht;rw[ht];cases t
    .simp only[cond_false]at hn ⊢;exact nX n _ _ _ hn
    .simp only[cond_true]at hn ⊢;exact nX n _ _ _ hn
   .cases hn
 .split at h
  .rename_i t ht;cases t
   .simp only[cond_false]at h;obtain⟨n,hn⟩:=yx.1 h;exact yx.2 ⟨n+1,by rw[aC,ht];exact hn⟩
   .simp only[cond_true]at h;obtain⟨n,hn⟩:=yx.1 h;exact yx.2 ⟨n+1,by rw[aC,ht];exact hn⟩
  .cases h
theorem q9x {id:Nat}{b:aQ}{st}:X p (.block id b) st=match X p b st with
  |some (.exit fI,bN)=>bif Hf fI id then Eb (.normal,bN)else Eb (.exit fI,bN)
  |r=>r:=by
 refine A2 (fun r h=>?_) (fun r h=>?_)
 .obtain⟨n,hn⟩:=yx.1 h
  cases n with
  |zero=>simp[aC]at hn
  |succ n=>
   rw[aC]at hn;split at hn
   .rename_i fI fQ Y;rw[nX n _ _ _ Y];exact hn
   .rename_i bI;rw[nX n _ _ _ hn];split
    .rename_i fI fQ Y;cases Y;exact absurd hn (bI _ _)
    .rfl
 .split at h
  .rename_i fI fQ Y;obtain⟨n,hn⟩:=yx.1 Y;exact yx.2 ⟨n+1,by rw[aC,hn];exact h⟩
  .rename_i bI;obtain⟨n,hn⟩:=yx.1 h;refine yx.2 ⟨n+1,?_⟩;rw[aC,hn];split
   .rename_i fI fQ Y;cases Y;exact absurd h (bI _ _)
   .rfl
theorem je1 {b:aQ}{st:bj}:X p (.loop b) st=match X p b st with
  |some (.normal,bN)=>X p (.loop b) (gc st.heap.length bN)
  |r=>r:=by
 refine A2 (fun r h=>?_) (fun r h=>?_)
 .obtain⟨n,hn⟩:=yx.1 h
  cases n with
  |zero=>simp[aC]at hn
  |succ n=>
   rw[aC]at hn;split at hn
   .rename_i fQ Y;rw[nX n _ _ _ Y];exact nX n _ _ _ hn
   .rename_i bI;rw[nX n _ _ _ hn];split
    .rename_i fQ Y;cases Y;exact absurd hn (bI _)
    .rfl
 .split at h
  .rename_i fQ Y;obtain⟨n,hn⟩:=yx.1 Y;obtain⟨m,hm⟩:=yx.1 h;refine yx.2 ⟨max n m+1,?_⟩;rw[aC,ul p (St n m) _ _ _ hn];exact ul p (Rz n m) _ _ _ hm
  .rename_i bI;obtain⟨n,hn⟩:=yx.1 h;refine yx.2 ⟨n+1,?_⟩;rw[aC,hn];split
   .rename_i fQ Y;cases Y;exact absurd h (bI _)
   .rfl
theorem jfw {sz:Nat}{st:bj}:X p (.grow sz) st=match jm 0 st.env,jm 1 st.env with
   |some (.list En _ _,_),Eb (.int .i64 (.ofNat m),_)=>bif Hg 0 m&&Hr m 1073741824 then Eb (.normal,{ st with env:=[(0,.list Hd sz [],En)] })else G0
   |_,_=>G0:=by
 refine A2 (fun r h=>?_) (fun r h=>?_)
 .obtain⟨n,hn⟩:=yx.1 h
  cases n with
  |zero=>simp[aC]at hn|succ n=>simp only[aC]at hn;exact hn
 .exact yx.2 ⟨1,by simp only[aC];exact h⟩
theorem jlx {P}(eQ:ct P p){k args v ow}(h:ae p (X p) k args=Eb (v,ow))(hb:qt 0 args=En):IsoCall P k args v ow:=by
 obtain⟨n,hn⟩:=IC h;exact jpp eQ hn hb
end
structure A3 (p q:j8)(f g:XC):Prop where
 x:nj f g
 fn:∀k args hp r,ai p f k args hp=Eb r->ai q g k args hp=Eb r
 bZ:∀k args r,ae p f k args=Eb r->ae q g k args=Eb r
 maps:∀k es,p.maps k=Eb es->q.maps k=Eb es
section
variable {p q:j8}{f g:XC}
theorem q80 (h:A3 p q f g){h0 e hp md x l r}(Q:yd p f h0 e hp md x l=Eb r):yd q g h0 e hp md x l=Eb r:=by
 unfold yd at *;split at Q
 .cases md with
  |bZ=>
   simp only[]at Q ⊢
   rename_i k first captured vs _ _
   cases hb:qt 0 (first++vs++captured)with
   |false=>rw[hb]at Q;cases Q
   |true=>
    rw[hb]at Q;simp only[cond_true]at Q ⊢;split at Q
    .rename_i v o hc;rw[h.bZ _ _ _ hc];exact Q
    .cases Q
  |red=>
   simp only[]at Q ⊢;split at Q
   .rename_i us hf
    cases hb:qt 0 us with
    |false=>rw[hb]at Q;cases Q
    |true=>
     rw[hb]at Q;simp only[cond_true]at Q ⊢;split at Q
     .rename_i v o hc;rw[h.bZ _ _ _ hc];exact Q
     .cases Q
   .cases Q
  |ft _=>
   simp only[]at Q ⊢
   rename_i k first captured vs _ _ _
   cases he:(first++vs++captured).isEmpty with
   |true=>
    rw[he]at Q;simp only[cond_true]at Q ⊢;split at Q
    .rename_i es xU;rw[h.maps _ _ xU];exact Q
    .cases Q
   |false=>
    rw[he]at Q;simp only[cond_false]at Q ⊢
    cases hb:qt 0 (first++vs++captured)with
    |false=>rw[hb]at Q;cases Q
    |true=>
     rw[hb]at Q;simp only[cond_true]at Q ⊢;split at Q
     .rename_i v o hc;rw[h.bZ _ _ _ hc];exact Q
     .cases Q
  |shr=>
   simp only[]at Q ⊢;split at Q
   .rename_i v o hh hc;rw[h.fn _ _ _ _ hc];exact Q
   .cases Q
 .cases md with
  |shr=>
   simp only[]at Q ⊢;split at Q
   .rename_i v hh hc;rw[Z2 h.x hc];exact Q
   .cases Q
  |_=>simp at Q
 .cases Q
theorem jev (h:A3 p q f g){h0 al e hp op r}(Q:qg p f h0 al e hp op=Eb r):qg q g h0 al e hp op=Eb r:=by
 cases op with
 |call md x l=>exact q80 h Q|append rk sz b x y=>cases rk<;>exact Q|b8 rk sz b z n c=>cases rk<;>exact Q|_=>exact Q
theorem q8t (h:A3 p q f g){h0 o st bN}(Q:ye p f h0 o st=Eb bN):ye q g h0 o st=Eb bN:=by
 unfold ye at *;split at Q
 .split at Q
  .rename_i r G;rw[jev h G];exact Q
  .cases Q
 .exact Q
 .cases Q
theorem jau (h:A3 p q f g){h0}:∀ {l:List bT} {st bN:bj},fH p f h0 l st=Eb bN->fH q g h0 l st=Eb bN
 | [],_,_,Q=>Q
 |o::l,st,bN,Q=>by
  simp only[fH]at Q ⊢;split at Q
  .rename_i s1 Y;rw[q8t h Y];exact jau h Q
  .cases Q
theorem jcx (h:A3 p q f g){na l k st r}(Q:lI p f na l k st=Eb r):lI q g na l k st=Eb r:=by
 unfold lI at *;split at Q
 .rename_i s1 Y;rw[jau h Y];exact Q
 .cases Q
theorem jgc (h:A3 p q f g){x ps a b st r}(Q:lJ p f x ps a b st=Eb r):lJ q g x ps a b st=Eb r:=by
 unfold lJ at *
 cases hn:(zu a&&zu b)with
 |false=>simp[hn]at Q
 |true=>
  simp only[hn,cond_true]at Q ⊢;split at Q
  .split at Q
   .rename_i v o hh hc;rw[h.fn _ _ _ _ hc];exact Q
   .cases Q
  .cases Q
end
structure gm (p q:j8):Prop where
 maps:∀k es,p.maps k=Eb es->q.maps k=Eb es
 bn:∀k b,p.bn k=Eb b->q.bn k=Eb b\/(q.bn k=G0/\∃F,q.dO k=Eb F/\∀args hp r,ai p (X p) k args hp=Eb r->F args hp=Eb r)
 dO:∀k F,p.bn k=G0->p.dO k=Eb F->q.bn k=G0/\∃aae,q.dO k=Eb aae/\∀args hp r,F args hp=Eb r->aae args hp=Eb r
 di:∀k,(∃F,q.di k=Eb F/\∀args r,ae p (X p) k args=Eb r->F args=Eb r)\/(q.di k=G0/\p.di k=G0)
theorem q7u {p:j8}{xc:XC}{k args r}(h:ae p xc k args=Eb r):lV r.1=En:=by
 unfold ae at h;split at h
 .split at h
  .rename_i v o _
   cases hv:lV v with
   |false=>rw[hv]at h;cases h|true=>rw[hv]at h;cases h;exact hv
  .cases h
 .split at h
  .split at h
   .rename_i v' _
    cases hv:lV v' with
    |false=>rw[hv]at h;cases h|true=>rw[hv]at h;cases h;exact hv
   .cases h
  .cases h
theorem gm.step {p q:j8}(h:gm p q){n:Nat}(M:nj (aC p n) (X q)):A3 p q (aC p n) (X q):=by
 have hfn:∀k args hp r,ai p (aC p n) k args hp=Eb r->ai q (X q) k args hp=Eb r:=by
  intro k args hp r Q
  cases hb:p.bn k with
  |some b=>
   rcases h.bn k b hb with hq|⟨hq,F,hF,S6⟩
   .unfold ai at Q ⊢;rw[hb]at Q;rw[hq];exact Z1 M Q
   .have:=S6 args hp r (MG (nX n) Q);unfold ai;rw[hq,hF];exact this
  |none=>
   unfold ai at Q;rw[hb]at Q
   cases G:p.dO k with
   |none=>rw[G]at Q;cases Q
   |some F=>
    rw[G]at Q;obtain⟨hq,aae,hG,hGk⟩:=h.dO k F hb G;unfold ai;rw[hq,hG];exact hGk args hp r Q
 refine⟨M,hfn,?_,h.maps⟩;intro k args r Q;have kA:=q7u Q;rcases h.di k with⟨F,hF,S6⟩|⟨hq,hp⟩
 .have:=S6 args r (IB (nX n) Q);unfold ae;rw[hF];obtain⟨v,o⟩:=r;simp only[this];rw[kA];rfl
 .unfold ae at Q ⊢;rw[hp]at Q;rw[hq];simp only[]at Q ⊢;split at Q
  .rename_i v o hh hc;rw[hfn _ _ _ _ hc];exact Q
  .cases Q
theorem gm.aC {p q:j8}(h:gm p q):∀n,nj (aC p n) (X q)
 |0=>fun c st r Q=>by simp[Go.Abs.aC]at Q
 |n+1=>by
  have ih:=h.aC n;have G:=h.step ih;intro c st r Q
  cases c with
  |region na l k=>rw[q58];simp only[Go.Abs.aC]at Q;exact jcx G Q|rangeFunc x ps a b=>rw[MI];simp only[Go.Abs.aC]at Q;exact jgc G Q|skip=>rw[Z8];simpa[Go.Abs.aC]using Q|exit id=>rw[Z9];simpa[Go.Abs.aC]using Q|ret=>rw[jmt];simpa[Go.Abs.aC]using Q
  |seq a b=>
   rw[jmk];rw[Go.Abs.aC]at Q;split at Q
   .rename_i fQ Y;rw[ih _ _ _ Y];exact ih _ _ _ Q
   .rename_i bI;rw[ih _ _ _ Q];split
    .rename_i fQ Y;cases Y;exact absurd Q (bI _)
    .rfl
  |cond c a b=>
   rw[jhp];rw[Go.Abs.aC]at Q;split at Q
   .rename_i t ht;rw[ht];cases t
    .exact ih _ _ _ Q
    .exact ih _ _ _ Q
   .cases Q
  |block id b=>
   rw[q9x];rw[Go.Abs.aC]at Q;split at Q
   .rename_i fI fQ Y;rw[ih _ _ _ Y];exact Q
   .rename_i bI;rw[ih _ _ _ Q];split
    .rename_i fI fQ Y;cases Y;exact absurd Q (bI _ _)
    .rfl
  |loop b=>
   rw[je1];rw[Go.Abs.aC]at Q;split at Q
   .rename_i fQ Y;rw[ih _ _ _ Y];exact ih _ _ _ Q
   .rename_i bI;rw[ih _ _ _ Q];split
    .rename_i fQ Y;cases Y;exact absurd Q (bI _)
    .rfl
  |grow sz=>rw[jfw];rw[Go.Abs.aC]at Q;exact Q|stuck=>simp[Go.Abs.aC]at Q
theorem gm.ai {p q:j8}(h:gm p q){k args hp r}(Q:ai p (Go.Abs.X p) k args hp=Eb r):Go.Abs.ai q (Go.Abs.X q) k args hp=Eb r:=by
 obtain⟨n,hn⟩:=MH Q;exact(h.step (h.aC n)).fn _ _ _ _ hn
theorem gm.ae {p q:j8}(h:gm p q){k args r}(Q:ae p (Go.Abs.X p) k args=Eb r):Go.Abs.ae q (Go.Abs.X q) k args=Eb r:=by
 obtain⟨n,hn⟩:=IC Q;exact(h.step (h.aC n)).bZ _ _ _ hn
end Go.Abs
namespace Go.Abs
section
variable {P:Program}
theorem Tabs.table {w}(h:Tabs P w){g}(hg:P.globalNamed pu=Eb g):Lib.TabIs P w pu .u64 Lib.pow10Tab:=(h g (.inl hg)).2.1 hg
theorem Tabs.length {w}(h:Tabs P w){g}(hg:P.globalNamed Al=Eb g):∃m,w.cell? ⟨g,0,G0⟩=Eb (.int .i64 m):=(h g (.inr (.inl hg))).2.2.1 hg
theorem IE {k args v}(h:∀(K:Nat->Nat->Option Value) (w:World) (vs:List Value),Tabs P w->(∀r o u,K r o=Eb u->w.cell? ⟨r,o,G0⟩=Eb u)->bf (.bZ K) args vs ->
  ∃u,bS (.bZ K) v u/\Calls P k ⟨vs⟩ w fun e w'=>e=.returned u/\Ext w w'):IsoCall P k args v Hd:=by
 intro K w vs ht Y I Q;obtain⟨u,hu,hc⟩:=h K w vs ht Y Q;refine callsIn_wide.2 (hc.mono ?_);rintro e w' ⟨rfl,M⟩;exact⟨u,K,rfl,M,fun _ _ _ h=>h,fun _ _ _=>rfl,fun r o x hk=>M.cell (Y r o x hk),I,hu,fun h=>by cases h⟩
theorem jak {C r}:∀ {xs:List AVal} {us:List Value} {o:Nat},bf C xs us->(∀x∈xs,x.flat=[x])->(∀(j:Nat) u,us[j]?=Eb u->C.K r (o+j)=Eb u)->bA C r 1 xs o
 | [],_,o,_,_,_=>.fN _ _ _
 |x::xs,us,o,h,hf,hk=>by
  cases h with
  |cons _ _ u us M Q=>
   have EN:=hf x (Xo ..);refine .dr _ _ _ _ _ (by rw[EN];rfl) ?_ (jak Q (fun y hy=>hf y (List.mem_cons_of_mem _ hy)) fun j u hj=>?_)
   .rw[EN];exact .dC _ _ _ _ u (by have:=hk 0 u rfl;simpa using this) M (.ik _ _)
   .have:=hk (j+1) u (by simpa using hj);rw[show o+1+j=o+(j+1) by omega];exact this
theorem jk9 {k args xs us}{t:TypeId}(hf:∀x∈xs,x.flat=[x])(gY:∀K,bf (.bZ K) xs us)(h1u:∀u∈us,u.oneCell'=En)
  (h:∀(K:Nat->Nat->Option Value) (w:World) (vs:List Value),Tabs P w->(∀r o u,K r o=Eb u->w.cell? ⟨r,o,G0⟩=Eb u)->bf (.bZ K) args vs ->
  Calls P k ⟨vs⟩ w fun e w'=>e=.returned (.slice (Eb ⟨w.heap.size,0,G0⟩) xs.length xs.length)/\w'=w.alloc (.cells us.toArray t)):IsoCall P k args (.list Hd 1 xs) Hd:=by
 intro K w vs ht Y I Q;refine callsIn_wide.2 ((h K w vs ht Y Q).mono ?_);rintro e w' ⟨rfl,rfl⟩;have M:Ext w (w.alloc (.cells us.toArray t)):=Ext.alloc w _ (fun c t fr h=>by cases h;rfl)
 have AV:∀o u,K w.heap.size o=Eb u->False:=fun o u hk=>by
  have:=Y _ _ _ hk;simp only[World.cell?,Array.getElem?_eq_none (U6 _)]at this;cases this
 refine⟨_,fun r o=>if r=w.heap.size then us[o]? else K r o,rfl,M,?_,?_,?_,?_,?_,fun h=>by cases h⟩
 .intro r o x hk;have bI:r≠w.heap.size:=fun e=>AV o x (e▸hk);simp only[if_neg bI];exact hk
 .intro r o bh
  have bI:r≠w.heap.size:=by omega
  simp only[if_neg bI]
 .intro r o x hk;simp only[]at hk;split at hk
  .next Q=>
   subst Q
   have hg:(w.alloc (.cells us.toArray t)).heap[w.heap.size]?=Eb (.cells us.toArray t):=by rw[vE,if_pos rfl]
   simp only[World.cell?];rw[hg];simpa using hk
  .exact M.cell (Y r o x hk)
 .intro r o x hk;simp only[]at hk;split at hk
  .exact h1u x (Hx hk)
  .exact I r o x hk
 .refine .list _ _ _ _ _ (U6 _) (jak (gY _) hf fun j u hj=>?_);show(if w.heap.size=w.heap.size then us[0+j]? else K w.heap.size (0+j))=Eb u;rw[if_pos rfl,Um];exact hj
theorem IsoCall.shr {k args v ow}(h:IsoCall P k args v ow)(hb:qt 0 args=En)(hp:lV v=En)(eQ:qi):Me P k args eQ v Hd eQ:=by
 intro C ω w vs Q m;have jV:bf (.bZ C.K) args vs:=aJ.shift (C:=C) (C':=.bZ C.K) 0 (fun _ _ _ h=>h) (fun b r bh=>by omega) Q hb;refine CallsIn.mono (h C.K w vs m.tabs m.know m.dj jV) ?_;rintro e w' ⟨u,K',rfl,q1,q2,q3,q4,q5,q6,_⟩;refine⟨u,{ C with K:=K' },ω,rfl,⟨q2,fun _ _ h=>h,rfl,fun _ h=>h,fun _ h=>h⟩,m.bZ q1 q2 q3 q4 q5,?_,fun h=>by cases h⟩;exact aJ.shift (C:=.bZ K') (C':={ C with K:=K' }) 0 (fun _ _ _ h=>h) (fun b r bh=>by omega) q6 hp
end
open Go
theorem qw9 {P p}(h:ct P p){n k b ow Y es}(Q:ai p (lm p n) k [] []=Eb (.map b,ow,Y))(hb:Y[b]?=Eb (.map es))(he:y8 0 es=En):Enters P k/\R5 P k es:=
 jdj h (cL.Mw (SR h n).1) (by rw[<-S2];exact Q) hb he
end Go.Abs
