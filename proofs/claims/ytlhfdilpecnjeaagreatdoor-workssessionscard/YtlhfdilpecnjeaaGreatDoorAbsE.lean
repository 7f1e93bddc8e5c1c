/- Each operation by itself, third part. -/
import Derived.Test.YtlhfdilpecnjeaaGreatDoorAbsA
import Derived.RangeFuncLeaves
import Derived.OrdersIn
import Derived.Lib.AppendZeros
import Derived.ProofKit
import Derived.OpenShut
import Derived.ShutString
set_option linter.all false
open Option renaming some->En,none->Ig,map_eq_some_iff->Ii,getD_some->Um,isSome_none->Us,bind_some->Eab,filter_eq_some_iff->Eah,isNone_some->Eay,getD_none->Ebi,map->Ebt
open Bool renaming and_eq_true->Hc,true->H2,false->Ir,cond_eq_ite->J0,false_eq_true->J1,or_eq_true->Uy,false_or->Eaa,not_true->Eaw,xor->Ebs
open Nat renaming eq_of_beq_eq_true->Hq,le_of_ble_eq_true->Ik,beq->Ix,blt->Iz,ble->J2,blt_eq->Lg,le_trans->Lz,lt_of_lt_of_le->Uu,le_max_right->Xm,le_max_left->Xo,zero_add->Xz,succ_mul->Eac,le_refl->Eaf,ble_eq_true_of_le->Eap,beq_refl->Ebb,add_zero->Ebc
open List renaming getElem?_set_ne->If,getElem?_eq_some_iff->Io,all_eq_true->Ld,mem_of_getElem?->Lm,getElem?_eq_getElem->Lu,set_comm->L2,length_set->N3,getElem?_set_self->N4,getElem?_range->N6,getElem?_map->Rn,length_eq_zero_iff->R1,mem_zipIdx_iff_getElem?->St,range->Tx,mem_append->Xc,length_take->Xl,mem_cons->Xn,replicate->Ead,mem_cons_self->Eae,getElem?_set->Eag,all_cons->Eai,map_cons->Eaj,ext_getElem?->Eak,isEmpty_iff->Eam,length_map->Ean,take_append_drop->Eao,mem_append_right->Eaq,getElem?_eq_none->Ear,mem_append_left->Eas,pairwise_append->Eat,mem_cons_of_mem->Eau,zip_cons_cons->Eax,pairwise_cons->Eaz,flatMap_cons->Ebd,flatten_cons->Ebe,length_range->Ebf,length_drop->Ebg,cons_append->Ebh,nodup_cons->Ebj,foldl_cons->Ebl,mapM_cons->Ebm,mem_range->Ebn,drop_drop->Ebo,mem_map->Ebp,map_nil->Ebq,Sublist->Ebr
open Array renaming getElem?_eq_some_iff->Ij,getD_eq_getD_getElem?->Iy,ext'->R2,getElem?_eq_getElem->Ty,getElem?_setIfInBounds_ne->Uk,getElem?_replicate->Eal,length_toList->Eav,all_eq_true'->Eba,replicate->Ebk
open Ne renaming symm->Lq
open Prod renaming mk->T9
namespace Go.Abs
section
variable {P:Program}{p:j8}{xc:XC}{C C0:aV}{ω:Nat->Option Loc}{w w0:World}{hp:qh}{env:Env}{a:Act}{o:Oper}{d:Loc}{h:js}{md:eT}{r h0:Nat}{dst:Option Nat}{al:ak Nat}{cP:cI}{res:bA}
variable (m:aA P C ω w0 C0 hp w)(e:ar C ω w w0.heap.size env a.tmps)
section
include m e
theorem jjh {t:TypeId}{ps}(ho:o.op=.build t ps)(hc:cW P h md r dst (.build t ps)=En cP)(G:qf p xc h0 al env hp cP=En res):yj P C C0 w0 a d env o w res:=by
 simp only[cW]at hc;split at hc
 .rename_i fs z ht hz;split at hc
  .rename_i hall;obtain⟨gw,nS,rfl⟩:=Ii.1 hc;simp only[qf,qm]at G;split at G
   .rename_i qs hq;split at G
    .rename_i cs hf;obtain rfl:=qy G;exact jm m e (q2w e.cy ho ht hz (fun f hf=>Ld.1 hall f hf) nS hq hf)
    .cases G
   .cases G
  .cases hc
 .rename_i len el z ht hz;split at hc
  .rename_i n hn;obtain⟨gw,nS,rfl⟩:=Ii.1 hc;simp only[qf,qm]at G;split at G
   .rename_i qs hq;split at G
    .rename_i cs hf;obtain rfl:=qy G;exact jm m e (q3a e.cy ho ht hz hn nS hq hf)
    .cases G
   .cases G
  .cases hc
 .cases hc
theorem q3n {t:TypeId}{n ps}(ho:o.op=.buildSlice t n ps)(hc:cW P h md r dst (.buildSlice t n ps)=En cP)(G:qf p xc h0 al env hp cP=En res):yj P C C0 w0 a d env o w res:=by
 simp only[cW]at hc;split at hc
 .rename_i el ht;split at hc
  .rename_i sz z ag es hn hz dp nS;split at hc
   .rename_i hb;cases hc;simp only[Hc,decide_eq_true_eq,beq_iff_eq]at hb;generalize (dst.map (h.vec.contains ·)).getD Ir=bb at G
    cases bb with
    |true=>
     simp only[if_true,qf,qo]at G;split at G
     .rename_i qs hq;split at G
      .rename_i xs M
       cases Bj:qp 0 xs with
       |false=>rw[Bj]at G;cases G
       |true=>
        rw[Bj]at G;simp only[cond_true]at G;split at G
        .rename_i h' dC;obtain rfl:=qy G;exact .inl (jpr m e ho ht hn hz hb.1.1.1.1 hb.1.1.1.2 hb.1.1.2 nS hq M Bj dC)
        .cases G
      .cases G
     .cases G
    |false=>
    simp only[J1,if_false,qf,qm]at G;split at G
    .rename_i qs hq;split at G
     .rename_i xs M;cases G;exact .inl (q3v m e ho ht hn hz hb.1.1.1.1 hb.1.1.1.2 hb.1.1.2 nS hq M)
     .cases G
    .cases G
   .cases hc
  .cases hc
 .cases hc
theorem q5s {t:TypeId}{x y}(ho:o.op=.makeSlice t x y)(hc:cW P h md r dst (.makeSlice t x y)=En cP)(G:qf p xc h0 al env hp cP=En res):yj P C C0 w0 a d env o w res:=by
 simp only[cW]at hc;split at hc
 .rename_i el ht;split at hc
  .rename_i sz b z ag x' y' hn hb hz dp Y I;split at hc
   .cases hc;generalize hR:(if(Ebt (fun x=>h.gH.contains x) dst).getD Ir=H2 then En r else Ig)=R at G
    cases R with
    |some rr=>
     simp only[qf,qo]at G;split at G
     .rename_i n c e1 e2
      cases hk:(Ix n c&&J2 n 1073741824&&J2 b 4096&&Ix z.length sz&&Iz 0 sz&&z.all qk)with
      |false=>simp[hk]at G
      |true=>
       simp only[hk,cond_true]at G;split at G
       .rename_i h' dC;obtain rfl:=qy G;simp only[Hc]at hk;obtain⟨⟨⟨⟨⟨k1,k2⟩,k3⟩,k4⟩,k5⟩,k6⟩:=hk;obtain rfl:=Hq k1;exact .inl (q2z m e ho ht hn hb hz (Lg.mp k5) (Hq k4) Y I e1 e2 (Ik k2) (Ik k3) dC)
       .cases G
     .cases G
    |none=>
     simp only[qf,qm]at G;split at G
     .rename_i n c e1 e2
      cases hk:(Ix n c&&J2 n 1073741824&&J2 b 4096&&Ix z.length sz&&Iz 0 sz&&z.all qk)with
      |false=>simp[hk]at G
      |true=>
       simp only[hk,cond_true]at G;cases G;simp only[Hc]at hk;obtain⟨⟨⟨⟨⟨k1,k2⟩,k3⟩,k4⟩,k5⟩,k6⟩:=hk;obtain rfl:=Hq k1;exact .inl (jbi m e ho ht hn hb hz (Lg.mp k5) (Hq k4) Y I e1 e2 (Ik k2) (Ik k3))
     .cases G
   .cases hc
  .cases hc
 .cases hc
theorem jif {t:TypeId}{x lo hi mx}(ho:o.op=.slice t x lo hi mx)(hc:cW P h md r dst (.slice t x lo hi mx)=En cP)(G:qf p xc h0 al env hp cP=En res):yj P C C0 w0 a d env o w res:=by
 cases mx with
 |some _=>simp[cW]at hc
 |none=>
  simp only[cW]at hc;split at hc
  .rename_i x' mX gI Y I h3;split at hc
   .rename_i ht;cases hc;simp only[qf,qm]at G;split at G
    .rename_i s hv;split at G
     .rename_i j hj;split at G
      .rename_i i gI;obtain rfl:=qy G;exact jm m e (q8c e.cy ho ht Y I h3 hv hj gI)
      .cases G
     .cases G
    .cases G
   .rename_i el ht;obtain⟨sz,hn,rfl⟩:=Ii.1 hc;simp only[qf,qm]at G;split at G
    .rename_i n dm xs hv
     cases hk:(Ix sz dm||xs.isEmpty)with
     |false=>simp[hk]at G
     |true=>
      simp only[hk,cond_true]at G;split at G
      .rename_i j hj;split at G
       .rename_i i gI;obtain rfl:=qy G;refine jm m e (q4j e.cy ho ht hn Y I h3 hv (.inr ⟨n,dm,xs,rfl,?_,hj,gI,rfl⟩));rcases Uy _ _▸hk with hk|hk
        .exact .inl (Hq hk)
        .exact .inr (Eam.1 hk)
       .cases G
      .cases G
    .rename_i b q len hv;split at G
     .rename_i j hj;split at G
      .rename_i i gI
       cases hk:(Ix i 0||Iz i j)with
       |false=>simp[hk]at G
       |true=>
        simp only[hk,cond_true]at G;obtain rfl:=qy G;refine jm m e (q4j e.cy ho ht hn Y I h3 hv (.inl ⟨b,q,len,rfl,hj,gI,?_,rfl⟩));rcases Uy _ _▸hk with hk|hk
        .exact .inl (Hq hk)
        .exact .inr (Lg.mp hk)
      .cases G
     .cases G
    .rename_i b bS len hv;split at G
     .rename_i j hj;split at G
      .rename_i i gI
       cases hk:Ix i 0 with
       |false=>simp[hk]at G
       |true=>
        simp only[hk,cond_true]at G;obtain rfl:=qy G;obtain rfl:=Hq hk;exact jm m e (jfp e.cy ho ht hn Y I h3 hv hj gI)
      .cases G
     .cases G
    .cases G
   .rename_i n el ht;obtain⟨sz,hn,rfl⟩:=Ii.1 hc;simp only[qf,qm]at G;split at G
    .rename_i b q hv;split at G
     .rename_i j hj;split at G
      .rename_i i gI
       cases hk:(Ix i 0||Iz i j)with
       |false=>simp[hk]at G
       |true=>
        simp only[hk,cond_true]at G;obtain rfl:=qy G;refine jm m e (q9t e.cy ho ht hn Y I h3 hv hj gI ?_);rcases Uy _ _▸hk with hk|hk
        .exact .inl (Hq hk)
        .exact .inr (Lg.mp hk)
      .cases G
     .cases G
    .cases G
   .cases hc
  .cases hc
theorem q51 {t:TypeId}{x i}(ho:o.op=.fieldAddr t x i)(hc:cW P h md r dst (.fieldAddr t x i)=En cP)(G:qf p xc h0 al env hp cP=En res):yj P C C0 w0 a d env o w res:=by
 simp only[cW]at hc;split at hc
 .rename_i fs ht;split at hc
  .rename_i f hf;split at hc
   .rename_i ag n x' dp hn Y;split at hc
    .rename_i hb;cases hc;simp only[Hc,decide_eq_true_eq]at hb;simp only[qf,qm]at G;split at G
     .rename_i b q hv;obtain rfl:=qy G;exact jm m e (qsh (ag:=ag) e.cy ho ht hf hn hb.1 Y hv (.inl ⟨b,q,rfl,rfl⟩))
     .rename_i cs hv;split at G
      .rename_i z hz
       cases hk:Ebs ag z.isAgg with
       |true=>simp[hk]at G
       |false=>
        simp only[hk,cond_false]at G;obtain rfl:=qy G;exact jm m e (qsh e.cy ho ht hf hn hb.1 Y hv (.inr ⟨cs,z,rfl,hz,hk,rfl⟩))
      .cases G
     .rename_i b bS q hv;obtain rfl:=qy G;exact jm m e (q24 e.cy ho ht hf hn hb.1 Y hv)
     .cases G
    .cases hc
   .cases hc
  .cases hc
 .cases hc
theorem jko {t:TypeId}{x i}(ho:o.op=.field t x i)(hc:cW P h md r dst (.field t x i)=En cP)(G:qf p xc h0 al env hp cP=En res):yj P C C0 w0 a d env o w res:=by
 simp only[cW]at hc;split at hc
 .rename_i fs ht;split at hc
  .rename_i f hf;split at hc
   .rename_i ag n x' dp hn Y;cases hc;simp only[qf,qm]at G;split at G
    .rename_i cs hv;obtain⟨z,hz,rfl⟩:=vt G;exact jm m e (jjd e.cy ho ht hf dp hn Y hv hz)
    .cases G
   .cases hc
  .cases hc
 .cases hc
theorem q5p {t:TypeId}{x i}(ho:o.op=.indexAddr t x i)(hc:cW P h md r dst (.indexAddr t x i)=En cP)(G:qf p xc h0 al env hp cP=En res):yj P C C0 w0 a d env o w res:=by
 simp only[cW]at hc;split at hc
 .rename_i x' i' Y I;split at hc
  .rename_i el ht;split at hc
   .rename_i sz hn;split at hc
    .cases hc;simp only[qf,qm]at G;split at G
     .rename_i nl dm xs iv hv hi
      cases hk:(Ix sz dm||xs.isEmpty)with
      |false=>simp[hk]at G
      |true=>
       simp only[hk,cond_true]at G;split at G
       .rename_i j hj;split at G
        .rename_i z hz;obtain rfl:=qy G
         have bN:xs.isEmpty=Ir:=by
          have:=(Io.1 hz).1
          cases xs with
          |nil=>simp at this|cons _ _=>rfl
         rw[bN,Bool.or_false]at hk;obtain rfl:=Hq hk;exact jm m e (qr9 e.cy ho ht hn Y I hv hi (.inr ⟨nl,xs,z,j,rfl,hj,hz,rfl⟩))
        .cases G
       .cases G
     .rename_i b q len iv hv hi;split at G
      .rename_i j hj;obtain rfl:=qy G;exact jm m e (qr9 e.cy ho ht hn Y I hv hi (.inl ⟨b,q,len,j,rfl,hj,rfl⟩))
      .cases G
     .rename_i b bS len iv hv hi;split at G
      .rename_i j hj;obtain rfl:=qy G;exact jm m e (q4e e.cy ho ht hn Y I hv hi hj)
      .cases G
     .cases G
    .cases hc
   .cases hc
  .rename_i n el ht;split at hc
   .rename_i sz ag hn dp;split at hc
    .cases hc;simp only[qf,qm]at G;split at G
     .rename_i b q iv hv hi;split at G
      .rename_i j hj;obtain rfl:=qy G;exact jm m e (qtp (ag:=ag) e.cy ho ht hn Y I hv hi hj (.inl ⟨b,q,rfl,rfl⟩))
      .cases G
     .rename_i cs iv hv hi;split at G
      .rename_i j hj;split at G
       .rename_i z hz
        cases hk:Ebs ag z.isAgg with
        |true=>simp[hk]at G
        |false=>
         simp only[hk,cond_false]at G;obtain rfl:=qy G;exact jm m e (qtp e.cy ho ht hn Y I hv hi hj (.inr ⟨cs,z,rfl,hz,hk,rfl⟩))
       .cases G
      .cases G
     .cases G
    .cases hc
   .cases hc
  .cases hc
 .cases hc
theorem jh4 {t:TypeId}{x i}(ho:o.op=.index t x i)(hc:cW P h md r dst (.index t x i)=En cP)(G:qf p xc h0 al env hp cP=En res):yj P C C0 w0 a d env o w res:=by
 simp only[cW]at hc;split at hc
 .rename_i x' i' Y I;split at hc
  .rename_i ht;cases hc;simp only[qf,qm]at G;split at G
   .rename_i s iv hv hi;split at G
    .rename_i j hj;split at G
     .rename_i c dQ;obtain rfl:=qy G;exact jm m e (q7j e.cy ho ht Y I hv hi hj dQ)
     .cases G
    .cases G
   .cases G
  .rename_i n el ht;split at hc
   .rename_i sz ag hn dp;cases hc;simp only[qf,qm]at G;split at G
    .rename_i cs iv hv hi;split at G
     .rename_i j hj;obtain⟨z,hz,rfl⟩:=vt G;exact jm m e (jhv e.cy ho ht dp hn Y I hv hi hj hz)
     .cases G
    .cases G
   .cases hc
  .cases hc
 .cases hc
theorem jbk {c}(ho:o.op=.call c)(qJ:∀f,c.callee≠.value f)(hc:AW P h md r dst c=En cP)(G:qf p xc h0 al env hp cP=En res):yj P C C0 w0 a d env o w res:=by
 unfold AW at hc;split at hc
 .rename_i f hf;exact absurd hf (qJ f)
 .rename_i ef;split at hc
  .rename_i x t eC eX;split at hc
   .rename_i ht;obtain⟨x',M,rfl⟩:=Ii.1 hc;simp only[qf,qm]at G
    split at G<;>first|(exfalso;omega)|skip
    .rename_i s _ hv;obtain rfl:=qy G;exact jm m e (Uq e.cy ho ef eC eX M hv (.inl ⟨ht,s,rfl,rfl⟩))
    .cases G
   .rename_i el ht;obtain⟨x',M,rfl⟩:=Ii.1 hc;simp only[qf,qm]at G
    split at G<;>first|(exfalso;omega)|skip
    .rename_i n sz xs _ hv;obtain rfl:=qy G;exact jm m e (Uq e.cy ho ef eC eX M hv (.inr ⟨⟨el,ht⟩,.inl ⟨n,sz,xs,rfl,rfl⟩⟩))
    .rename_i b q n _ hv;obtain rfl:=qy G;exact jm m e (Uq e.cy ho ef eC eX M hv (.inr ⟨⟨el,ht⟩,.inr ⟨b,q,rfl⟩⟩))
    .rename_i b bS n _ hv;obtain rfl:=qy G;exact jm m e (jnu e.cy ho ef eC eX M hv ht)
    .cases G
   .cases hc
  .cases hc
 .rename_i ef;split at hc
  .rename_i x t eC eX;split at hc
   .rename_i el ht;obtain⟨x',M,rfl⟩:=Ii.1 hc;simp only[qf,qm]at G
    split at G<;>first|(exfalso;omega)|skip
    .rename_i sz xs _ hv;obtain rfl:=qy G;refine jm m e ?_
     have ha:c.args=#[x]:=by apply R2;simpa using eC
     have mY:c.argTypes=#[t]:=by apply R2;simpa using eX
     refine⟨.int .i64 0,?_,.int _ _⟩
     have hq:∃b,a.eval x=.slice b 0 0:=by
      rcases(qu e.cy M hv).cU with⟨_,_,h⟩|⟨h,_⟩|⟨h,_⟩
      .exact⟨_,h⟩
      .cases h
      .cases h
     obtain⟨b,hq⟩:=hq;simp[execOp,ho,resolve,ef,ha,mY,invoke,builtin,Builtin.cap_,run_underlying ht,hq,goInt]
    .cases G
   .cases hc
  .cases hc
 .rename_i ef;split at hc
  .rename_i x y t u eC eX;split at hc
   .rename_i el ut ht hu;split at hc
    .rename_i kG;split at hc
     .rename_i sz b x' y' hn hb Y I;cases hc
      have hzero:∃z,yw P el=En z/\z.length=sz:=by
       have hz:=(Hc _ _▸kG).2;rw[hn]at hz
       cases yW:yw P el with
       |none=>simp[yW]at hz|some z=>exact⟨z,rfl,by simpa[yW]using hz⟩
      generalize (dst.map (h.vec.contains ·)).getD Ir=bb at G
      cases bb with
      |true=>
       simp only[if_true,qf,qo]at G;split at G
       .rename_i UO vy e1 e2;split at G
        .rename_i ys cX
         cases hk:(J2 ys.length 1073741824&&J2 b 4096&&Iz 0 sz&&!ys.isEmpty&&qp 0 ys&&Iz r 1000)with
         |false=>rw[hk]at G;cases G
         |true=>
          rw[hk]at G;simp only[cond_true]at G;split at G
          .rename_i h' dC;obtain rfl:=qy G;simp only[Hc]at hk kG;obtain⟨⟨⟨⟨⟨k1,k2⟩,k3⟩,k4⟩,k5⟩,_⟩:=hk;exact .inl (jqo m e ho ef eC eX ht hu kG.1 hn hb Y I e1 e2 cX (Ik k1) (by intro h;rw[h]at k4;cases k4) (Ik k2) k5 hzero dC)
          .cases G
        .cases G
       .rename_i bx bS len vy e1 e2;split at G
        .rename_i dm dO xs ie;split at G
         .rename_i ys cX
          cases hk:(Ix bS dO&&Ix sz dm&&J2 len xs.length&&J2 (len+ys.length) 1073741824&&J2 b 4096&&Iz 0 sz&&qp 0 ys&&Iz r 1000)with
          |false=>rw[hk]at G;cases G
          |true=>
           rw[hk]at G;simp only[cond_true]at G;split at G
           .rename_i h' bO;obtain rfl:=qy G;simp only[Hc]at hk kG;obtain⟨⟨⟨⟨⟨⟨⟨k1,k2⟩,k3⟩,k4⟩,k5⟩,k6⟩,k7⟩,_⟩:=hk;obtain rfl:=Hq k1;obtain rfl:=Hq k2;exact .inl (jq2 m e ho ef eC eX ht hu kG.1 hn hb Y I e1 e2 cX ie (Ik k3) (Ik k4) (Ik k5) k7 hzero bO)
           .cases G
         .cases G
        .cases G
       .cases G
      |false=>
      simp only[J1,if_false]at G;generalize hR:(if(Ebt (fun x=>h.gH.contains x) dst).getD Ir=H2 then En r else Ig)=R at G
      cases R with
      |some rr=>
       simp only[qf,qo]at G;split at G
       .rename_i dm vy e1 e2
        cases hZ:((zu env x').isSome&&Ix sz dm)with
        |false=>simp[hZ]at G
        |true=>
         simp only[hZ,cond_true]at G;split at G
         .rename_i ys cX
          cases dB:(J2 ys.length 1073741824&&J2 b 4096&&Iz 0 sz)with
          |false=>simp[dB]at G
          |true=>
           simp only[dB,cond_true]at G;split at G
           .rename_i h' dC;cases G;simp only[Hc]at dB kG hZ;obtain⟨⟨k2,k3⟩,k4⟩:=dB;refine .inl (q5n m e ho ef eC eX ht hu kG.1 hn hb Y I e1 e2 cX hZ.1 rfl (Ik k2) (Ik k3) ?_ (Hq hZ.2) dC);have hz:=kG.2;rw[hn]at hz
            cases yW:yw P el with
            |none=>simp[yW]at hz|some z=>exact⟨z,rfl,by simpa[yW]using hz⟩
           .cases G
         .cases G
       .cases G
      |none=>
       simp only[qf,qm]at G;split at G
       .rename_i n dm xs vy e1 e2
        cases hZ:(n||(zu env x').isSome)with
        |false=>simp[hZ]at G
        |true=>
         simp only[hZ,cond_true]at G;split at G
         .rename_i ys cX
          cases dB:((Ix sz dm||(xs.isEmpty&&n))&&J2 (xs.length+ys.length) 1073741824&&J2 b 4096&&Iz 0 sz)with
          |false=>simp[dB]at G
          |true=>
           simp only[dB,cond_true]at G;cases G;simp only[Hc]at dB kG;obtain⟨⟨⟨k1,k2⟩,k3⟩,k4⟩:=dB;refine .inl (jf6 m e ho ef eC eX ht hu kG.1 hn hb Y I e1 e2 cX (by simpa using hZ) ?_ (Ik k2) (Ik k3) ?_)
           .rcases Uy _ _▸k1 with k1|k1
            .exact .inl (Hq k1)
            .simp only[Hc,Eam]at k1;exact .inr k1
           .have hz:=kG.2;rw[hn]at hz
            cases yW:yw P el with
            |none=>simp[yW]at hz|some z=>exact⟨z,rfl,by simpa[yW]using hz⟩
         .cases G
       .cases G
     .cases hc
    .cases hc
   .cases hc
  .cases hc
 .rename_i ef;split at hc
  .rename_i x y t ts eC eX;split at hc
   .rename_i el ht;split at hc
    .rename_i sz x' y' hn Y I;cases hc;simp only[qf,qo]at G;split at G
     .rename_i b q len vy e1 e2
      cases hk:ze h0 al b with
      |false=>simp[hk]at G
      |true=>
       simp only[hk,cond_true]at G;split at G
       .rename_i cs hcs;split at G
        .rename_i n us cX;split at G
         .rename_i eK cw
          cases dB:Ix us.length (n*sz)with
          |false=>simp[dB]at G
          |true=>
           simp only[dB,cond_true]at G;split at G
           .rename_i h' bO;obtain rfl:=qy G;exact .inl (jmh m e ho ef eC eX ht hn Y I e1 e2 hcs cX cw (Hq dB) bO)
           .cases G
         .cases G
        .cases G
       .cases G
     .cases G
    .cases hc
   .cases hc
  .cases hc
 .rename_i ef;split at hc
  .rename_i x y t ts eC eX;split at hc
   .rename_i kt el ht;split at hc
    .rename_i kd x' y' jH Y I;cases hc;simp only[qf,qo]at G;split at G
     .rename_i b kv e1 e2
      cases hk:ze h0 al b with
      |false=>simp[hk]at G
      |true=>
       simp only[hk,cond_true]at G;split at G
       .rename_i es hb;split at G
        .rename_i r hf;split at G
         .rename_i h' bO;obtain rfl:=qy G;exact .inl (jgb m e ho ef eC eX ht jH Y I e1 e2 hb hf bO)
         .cases G
        .cases G
       .cases G
     .cases G
    .cases hc
   .cases hc
  .cases hc
 .rename_i ef;obtain⟨l,hl,rfl⟩:=Ii.1 hc;simp only[qf,qm]at G;split at G
  .rename_i v vs hv;obtain⟨z,hz,rfl⟩:=vt G;exact jm m e (jj5 (mx:=true) e.cy ho ef hl hv hz)
  .cases G
 .rename_i ef;obtain⟨l,hl,rfl⟩:=Ii.1 hc;simp only[qf,qm]at G;split at G
  .rename_i v vs hv;obtain⟨z,hz,rfl⟩:=vt G;exact jm m e (jj5 (mx:=false) e.cy ho ef hl hv hz)
  .cases G
 .cases hc
end
end
def aV.cut (C:aV)(n:Nat):aV:={ C with β:=fun b=>if b<n then C.β b else Ig }
theorem aV.fo (C:aV)(n:Nat):(C.cut n).le C where
 k _ _ _ h:=h
 b b r h:=by
  simp only[aV.cut]at h;split at h
  .exact h
  .cases h
 w:=rfl
 d _ h:=h
theorem aV.jM {C C':aV}{n}(h:C.le C')(hn:∀b r,C.β b=En r->b<n):C.le (C'.cut n):=
 ⟨h.1,fun b r hb=>by simp only[aV.cut];rw[if_pos (hn b r hb)];exact h.2 b r hb,h.w,h.d,h.t⟩
section
variable {P:Program}{p:j8}{xc:XC}{C C0:aV}{ω:Nat->Option Loc}{w w0:World}{hp:qh}{env:Env}{tmps:Array Value}{B:Nat}
theorem aY.cut {ℓ x v}(n:Nat)(ho:aY C ω w B ℓ x v):aY (C.cut n) ω w B ℓ x v:=by
 unfold aY at *;split at ho
 .obtain⟨Y,I,h3,h4,h5⟩:=ho;exact⟨Y,I,fun b hb=>h3 b ((aV.fo C n).2 b _ hb),h4,h5⟩
 .obtain⟨Y,I,h3,h4,h5⟩:=ho;exact⟨Y,I,fun b hb=>h3 b ((aV.fo C n).2 b _ hb),h4,h5⟩
 .trivial
theorem bW.cut {x v n}(h:bW C x v)(hb:below n x=H2):bW (C.cut n) x v:=
 aO.shift (C:=C) (C':=C.cut n) n (fun _ _ _ h=>h) (fun b r aW hb=>by simp only[aV.cut];rw[if_pos aW];exact hb) h hb
theorem UX {n}:∀ {e:Env} {s:Nat} {x:AVal×Bool},mT n e=H2->jp s e=En x->below n x.1=H2
 | [],_,_,_,h=>by simp[jp]at h
 |(t,y)::e,s,x,hb,h=>by
  simp only[mT,Hc]at hb;simp only[jp]at h
  cases ng:Ix t s with
  |true=>simp only[ng,cond_true,En.injEq]at h;subst h;exact hb.1|false=>simp only[ng,cond_false]at h;exact UX hb.2 h
theorem qr6 {n}:∀ {l:qh} {b:Nat} {x:aM},qt n l=H2->l[b]?=En x->zj n x=H2
 | [],_,_,_,h=>by simp at h
 |y::l,b,x,hb,h=>by
  simp only[qt,Hc]at hb
  cases b with
  |zero=>simp at h;subst h;exact hb.1|succ b=>simp at h;exact qr6 hb.2 h
theorem qpp {n}:∀ {l:List (AVal×Bool)} {j:Nat} {c:AVal×Bool},zq n l=H2->l[j]?=En c->below n c.1=H2
 | [],_,_,_,h=>by simp at h
 |(y,o)::l,j,c,hb,h=>by
  simp only[zq,Hc]at hb
  cases j with
  |zero=>simp at h;subst h;exact hb.1|succ j=>simp at h;exact qpp hb.2 h
theorem cK.cut {n es ms}(Q:cK C es ms):ke n es=H2->cK (C.cut n) es ms:=by
 induction Q with
 |nil=>exact fun _=>.nil
 |cons k v es m ms hk hv _ ih=>
  intro hb;simp only[ke,Hc]at hb;exact .cons k v es m ms (bW.cut hk hb.1.1) (bW.cut hv hb.1.2) (ih hb.2)
theorem bR.cut {b r n x}(h:bR P C ω w B b r x)(hb:zj n x=H2):bR P (C.cut n) ω w B b r x:=by
 cases x with
 |hole=>exact h
 |cells cs=>
  obtain⟨vs,el,Y,I,h3⟩:=h;exact⟨vs,el,Y,I,fun j c hc=>let ⟨v,a,q,b,d⟩:=h3 j c hc; ⟨v,a,q,bW.cut b (qpp hb hc),fun e=>(d e).cut n⟩⟩
 |map es=>obtain⟨cr,clock,Y,I⟩:=h;exact⟨cr,clock,Y,I.cut hb⟩|iter s pos=>exact h|loop l=>obtain⟨lp,Y,I⟩:=h;exact⟨lp,Y,{ I with env:=fun s x M=>let ⟨v,a,b⟩:=I.env s x M; ⟨v,a,bW.cut b (UX hb M)⟩ }⟩|gD t e l=>obtain⟨p,v,Y,I,h3,h4⟩:=h;exact⟨p,v,Y,I,h3,h4.cut n⟩|dead=>exact h|vec sz bS xs=>exact et.imp (C:=C) (C':=C.cut n) (ω:=ω) (ω':=ω) (B':=B) (fun _ _ _ h=>h) (fun _ h=>h) (fun _ h _=>h) rfl (fun q n' cap k=>⟨rfl,aY.cut (C:=C) n k⟩) h
theorem aA.gc (m:aA P C ω w0 C0 hp w){n:Nat}(hn:n<=hp.length)(hb:qt n (hp.take n)=H2)(h0:∀b r,C0.β b=En r->b<n):aA P (C.cut n) ω w0 C0 (hp.take n) w where
 base:=m.base
 know:=m.know
 dr:=m.dr
 apart b r o hb:=m.apart b r o ((aV.fo C n).2 b r hb)
 inj b b' r Y I:=m.inj b b' r ((aV.fo C n).2 _ _ Y) ((aV.fo C n).2 _ _ I)
 lt b r h:=by
  have Y:=m.lt b r ((aV.fo C n).2 _ _ h);refine⟨Y.1,?_⟩;simp only[aV.cut]at h;split at h
  .rw[Xl];omega
  .cases h
 size:=m.size
 frame:=m.frame
 fJ:=m.fJ
 os:=m.os
 output:=m.output
 fresh b r h:=m.fresh b r ((aV.fo C n).2 _ _ h)
 grown:=aV.jM m.grown h0
 old:=m.old
 box b x r M Q:=by
  have aW:b<n:=by
   have:=(Io.1 M).1;rw[Xl]at this;omega
  have fD:hp[b]?=En x:=by rwa [List.getElem?_take_of_lt aW]at M
  exact(m.box b x r fD ((aV.fo C n).2 _ _ Q)).cut (qr6 hb M)
 jD:=m.jD
theorem ar.cut {n}(e:ar C ω w B env tmps)(hb:mT n env=H2):ar (C.cut n) ω w B env tmps:=
 fun s x M=>let ⟨v,Y,I,h3⟩:=e s x M; ⟨v,Y,bW.cut I (UX hb M),fun h=>(h3 h).cut n⟩
def j6z (env:Env)(hp:qh)(r:ou)(ℓ:Loc)(x:AVal×Bool):Prop:=
 (∃s,ℓ=.slot s)\/∃t n b j ow cs,r=.cell t Ir n/\jp t env=En (.ptr b j,ow)/\ℓ=.cell b j/\qv hp b=En cs/\cs[j]?=En x
def UY (C:aV)(ω:Nat->Option Loc)(w:World)(B:Nat)(env:Env)(hp:qh)(r:ou)(x:AVal×Bool)(v:Value):Prop:=bW C x.1 v/\(x.2=H2->∃ℓ,aY C ω w B ℓ x.1 v/\j6z env hp r ℓ x)
theorem q7t {B'}(m:aA P C ω w0 C0 hp w)(hB:B'=w0.heap.size)(e:ar C ω w B' env tmps){rv r x}(hc:NP P rv=En r)(Q:vh ⟨env,hp⟩ r=En x):
  ∃v,((match rv with | .tmp t=>pure (tmps.getD t undef) | .cell a t=>do loadVar t (<-asAddr (tmps.getD a undef)):Sem Value)).run P w=.ok v w/\UY C ω w B' env hp r x v:=by
 subst hB
 cases rv with
 |tmp t=>
  simp only[NP]at hc;cases hc;simp only[vh]at Q;obtain⟨v,Y,I,h3⟩:=e t x Q;refine⟨v,?_,I,fun h=>⟨_,h3 h,.inl ⟨_,rfl⟩⟩⟩;simp[Iy,Y]
 |cell t ty=>
  simp only[NP]at hc
  have key:∀ {ag:Bool} {n:Nat},yu P ty=En ag->jt P ty=En n->(ag=Ir->n=1)->vh ⟨env,hp⟩ (.cell t ag n)=En x->∃v,((do loadVar ty (<-asAddr (tmps.getD t undef)):Sem Value)).run P w=.ok v w/\UY C ω w w0.heap.size env hp (.cell t ag n) x v:=by
   intro ag n hg hn IE Q;simp only[vh]at Q;split at Q
   .rename_i b q ow hl;obtain⟨u,Y,I,_⟩:=e t _ hl;obtain⟨r,jG,rfl⟩:=I.dy
    have hu:tmps.getD t undef=.pointer (En ⟨r,q,Ig⟩):=by simp[Iy,Y]
    split at Q
    .rename_i cs hcs;have ic:=m.box b _ r (xa hcs) jG;split at Q
     .rename_i us iD
      cases ag with
      |true=>
       simp only[cond_true,En.injEq]at Q;subst Q;obtain⟨vs,k1,_,k2,k3,_⟩:=ic.read iD;refine⟨.agg ⟨vs⟩,?_,.agg _ _ k1,by simp⟩;simp[hu,asAddr,IB hg hn k2 k3]
      |false=>
       simp only[cond_false]at Q;split at Q
       .rename_i c hc;cases Q;obtain⟨vs,te,g1,g2,g3⟩:=ic;obtain⟨v,J,a2,a3,a4⟩:=g3 q _ hc
        have eo:w.cell? ⟨r,q,Ig⟩=En v:=by
         simp only[World.cell?,g1];simpa using J
        refine⟨v,?_,a3,fun h=>⟨_,a4 h,.inr ⟨_,_,_,_,_,_,rfl,hl,rfl,hcs,hc⟩⟩⟩;simp[hu,asAddr,IC hg eo]
       .cases Q
     .cases Q
    .cases Q
   .cases Q
  split at hc
  .rename_i n hg hn;cases hc;exact key hg hn (by simp) Q
  .rename_i hg hn;cases hc;exact key hg hn (fun _=>rfl) Q
  .cases hc
inductive lP (P:Program)(C:aV)(ω:Nat->Option Loc)(w:World)(B:Nat)(env:Env)(hp:qh):List ou->List (AVal×Bool)->List Value->Prop where
 |nil:lP P C ω w B env hp [] [] []
 |cons {r:ou} {x:AVal×Bool} {v:Value} {rs:List ou} {xs:List (AVal×Bool)} {vs:List Value} (h:UY C ω w B env hp r x v) (t:lP P C ω w B env hp rs xs vs):lP P C ω w B env hp (r::rs) (x::xs) (v::vs)
theorem lP.cy {rs xs vs}(h:lP P C ω w B env hp rs xs vs):bq C (xs.map (·.1)) vs:=by
 induction h with
 |nil=>exact .nil|cons h _ ih=>exact .cons _ _ _ _ h.1 ih
theorem qsf {B'}(m:aA P C ω w0 C0 hp w)(hB:B'=w0.heap.size)(e:ar C ω w B' env tmps):∀ {l:List ResultVar} {rs:List ou} {xs:List (AVal×Bool)},wT P l=En rs->ko ⟨env,hp⟩ rs=En xs ->
  ∃vs,(l.mapM fun(rv:ResultVar)=>(match rv with | .tmp t=>pure (tmps.getD t undef) | .cell a t=>do loadVar t (<-asAddr (tmps.getD a undef)):Sem Value)).run P w=.ok vs w/\lP P C ω w B' env hp rs xs vs
 | [],rs,xs,hc,Q=>by
  simp[wT]at hc;subst hc;simp[ko]at Q;subst Q;exact⟨[],rfl,.nil⟩
 |rv::l,rs,xs,hc,Q=>by
  simp only[wT]at hc;split at hc
  .rename_i r FH Y I;cases hc;simp only[ko]at Q;split at Q
   .rename_i x M;split at Q
    .rename_i ys oB;cases Q;obtain⟨v,k1,k2⟩:=q7t m hB e Y M;obtain⟨vs,j1,j2⟩:=qsf m hB e I oB;refine⟨v::vs,?_,.cons k2 j2⟩;simp only[Ebm,Sem.run_bind,k1,Result.andThen_ok,j1,Sem.run_pure]
    .cases Q
   .cases Q
  .cases hc
def FV:List Value->Value
 | [v]=>v|vs=>.tuple ⟨vs⟩
theorem q05 (m:aA P C ω w0 C0 hp w){ω' b j v ow cs}(mK:qv hp b=En cs)(hc:cs[j]?=En (v,ow))(hω:∀b' j' y u,(b'≠b\/j'≠j)->aY C ω w w0.heap.size (.cell b' j') y u->aY C ω' w w0.heap.size (.cell b' j') y u):
  aA P C ω' w0 C0 (hp.set b (.cells (cs.set j (v,Ir)))) w:=by
 by_cases hb:∃r,C.β b=En r
 .obtain⟨r,Q⟩:=hb;obtain⟨vs,te,hg,dj,hold⟩:=m.box b _ r (xa mK) Q;obtain⟨cv,k1,k2,k3,k4⟩:=hold j _ hc;have hu:oG w w r:=⟨rfl,fun _ _=>rfl,fun c t fr h=>by rw[hg]at h;cases h;rfl,rfl,rfl⟩;refine m.dY hu Q _ (fun b' j' y u fW hz=>hω b' j' y u (.inl fW) hz) ⟨vs,te,hg,by simpa using dj,fun i c hi=>?_⟩;rw[Eag]at hi;split at hi
  .rename_i I1;subst I1;split at hi
   .cases hi;exact⟨cv,k1,k2,k3,by simp⟩
   .cases hi
  .rename_i I1;obtain⟨u,J,a2,a3,a4⟩:=hold i c hi;exact⟨u,J,a2,a3,fun h=>hω b i _ _ (.inr (Lq I1)) (a4 h)⟩
 .refine { m with lt:=fun k r hk=>by rw[N3];exact m.lt k r hk,box:=fun k x r M hk=>?_ };have nh:k≠b:=fun h=>hb ⟨r,h▸hk⟩;rw[If (Lq nh)]at M;exact(m.box k x r M hk).mono (aV.le_refl C) fun j' y u ho=>hω k j' y u (.inl nh) ho
theorem jo9 (m:aA P C ω w0 C0 hp w){rs xs vs}(h:lP P C ω w w0.heap.size env hp rs xs vs):
  ∃ω',aA P C ω' w0 C0 (mE ⟨env,hp⟩ rs) w/\bW C (zd xs).1 (FV vs)/\((zd xs).2=H2->aY C ω' w w0.heap.size (.slot 0) (zd xs).1 (FV vs)):=by
 have same:∃ω',aA P C ω' w0 C0 hp w:=⟨ω,m⟩
 cases h with
 |nil=>exact⟨ω,m,by simpa[zd,FV]using aO.aI _ _ (aO.nil),by simp[zd]⟩
 |cons M ht=>
  cases ht with
  |cons hy ht=>
   have:=(lP.cons M (lP.cons hy ht)).cy;exact⟨ω,by simpa[mE]using m,by simpa[zd,FV]using aO.aI _ _ this,by simp[zd]⟩
  |nil=>
   rename_i r x v;obtain⟨Y,I⟩:=M;simp only[zd]
   -- without the flag
   have plain:aA P C ω w0 C0 (mE ⟨env,hp⟩ [r]) w:=by
    unfold mE;split
    .split
     .split
      .rename_i cs hcs;split
       .rename_i u hu;exact q05 m hcs hu (fun _ _ _ _ _ h=>h)
       .exact m
      .exact m
     .exact m
    .exact m
   by_cases hk:x.2=H2
   .have hZ:=hk;obtain⟨ℓ,h3,h4⟩:=I hZ;refine⟨vp ω x.1 v (.slot 0),?_,Y,fun _=>N5 h3⟩;rcases h4 with⟨s,rfl⟩|⟨t,n,b,j,ow,cs,rfl,g1,rfl,g2,g3⟩
    .exact { plain with box:=fun b x r M hb=>(plain.box b x r M hb).mono (aV.le_refl C) fun j y u hz=>yT h3 (by simp) hz }
    .obtain⟨xv,xo⟩:=x;simp only at hZ;subst hZ
     have:mE ⟨env,hp⟩ [.cell t Ir n]=hp.set b (.cells (cs.set j (xv,Ir))):=by
      simp only[mE,g1,g2,g3]
     rw[this]
     exact q05 m g2 g3 fun b' j' y u bN hz=>yT h3 (by
      rcases bN with bN|bN
      ·simp[bN]
      ·simp[bN]) hz
   .exact⟨ω,plain,Y,fun h=>absurd h hk⟩
theorem jbq {fn}(m:aA P C ω w0 C0 hp w)(e:ar C ω w w0.heap.size env tmps){rs xs}(hc:wT P fn.results.toList=En rs)(Q:ko ⟨env,hp⟩ rs=En xs):
  ∃v ω',(results fn tmps).run P w=.ok v w/\aA P C ω' w0 C0 (mE ⟨env,hp⟩ rs) w/\bW C (zd xs).1 v/\((zd xs).2=H2->aY C ω' w w0.heap.size (.slot 0) (zd xs).1 v):=by
 obtain⟨vs,Y,I⟩:=qsf m rfl e hc Q
 have nc:(fn.results.mapM fun(rv:ResultVar)=>(match rv with | .tmp t=>pure (tmps.getD t undef) | .cell a t=>do loadVar t (<-asAddr (tmps.getD a undef)):Sem Value)).run P w=.ok vs.toArray w:=by
  rw[Array.mapM_eq_mapM_toList];simp only[Sem.run_map];rw[Y];rfl
 have bJ:(results fn tmps).run P w=.ok (if h:vs.toArray.size=1 then vs.toArray[0]else .tuple vs.toArray) w:=by
  unfold results;rw[Sem.run_bind];exact congrArg (fun z=>Result.andThen z fun(a:Array Value) w'=>Sem.run P (pure (if h:a.size=1 then a[0]else Value.tuple a)) w') nc
 have hval:(if h:vs.toArray.size=1 then vs.toArray[0]else .tuple vs.toArray)=(FV vs):=by
  match vs with
  | []=>rfl| [v]=>rfl|v::u::vs=>simp[FV]
 rw[hval]at bJ;obtain⟨ω',q1,q2,q3⟩:=jo9 m I;exact⟨_,ω',bJ,q1,q2,q3⟩
end
section
variable {P:Program}{C C0:aV}{ω:Nat->Option Loc}{w w0:World}{hp:qh}
variable (m:aA P C ω w0 C0 hp w)
def tm (C:aV)(hp:qh)(r:Nat):Prop:=∃b sz bS xs r0 cap,hp[b]?=En (.vec sz bS xs)/\C.β b=En r0/\C.T (r0,bS,r,cap)
def Hid (C:aV)(hp:qh)(r:Nat):Prop:=(∃b,C.β b=En r)\/tm C hp r
section
include m
theorem tm.is {r}(h:tm C hp r):(∃b,C.β b=En r)\/∃b sz bS xs n cap,hp[b]?=En (.vec sz bS xs)/\yP C ω w w0.heap.size b r n cap:=by
 obtain⟨b,sz,bS,xs,r0,cap,Y,I,h3⟩:=h;obtain⟨q,lN,k1,k2,k3,k4,_⟩:=m.box b _ r0 Y I;have:=(k2 _ h3 rfl).2 rfl;simp only[T9.injEq]at this;obtain⟨rfl,rfl⟩:=this;rcases k4 with rfl|k4
 .exact .inl ⟨b,I⟩
 .exact .inr ⟨b,sz,bS,xs,_,_,Y,k4⟩
theorem UZ {r}(h:Hid C hp r)(o:Nat):C.K r o=Ig:=by
 rcases h with⟨b,hb⟩|h
 .exact m.apart b r o hb
 .rcases h.is m with⟨b,hb⟩|⟨b,sz,bS,xs,n,cap,_,I⟩
  .exact m.apart b r o hb
  .exact I.2.2.2.2.2.2 o (by simp)
end
theorem jiq {K}(hW:C.W=fun _=>False)(m:aA P C ω w0 (.cf K) hp w){r}(h:Hid C hp r):w0.heap.size<=r:=by
 have key:∀b,C.β b=En r->w0.heap.size<=r:=fun b hb=>by
  rcases m.fresh b r hb with h|h|h
  .cases h
  .exact h
  .exact h.elim
 rcases h with⟨b,hb⟩|h
 .exact key b hb
 .rcases h.is m with⟨b,hb⟩|⟨b,sz,bS,xs,n,cap,_,I⟩
  .exact key b hb
  .rcases I.2.1 with h|h
   .exact h
   .rw[hW]at h;exact h.elim
include m in
theorem j16 {r}(h:Hid C hp r):r<w.heap.size:=by
 rcases h with⟨b,hb⟩|h
 .exact(m.lt b r hb).1
 .rcases h.is m with⟨b,hb⟩|⟨b,sz,bS,xs,n,cap,_,I⟩
  .exact(m.lt b r hb).1
  .obtain⟨_,_,_,_,_,⟨cells,elem,h5,_⟩,_⟩:=I;exact(Ij.1 h5).1
open Classical in
noncomputable def zt (C:aV)(hp:qh)(w:World):Nat->Nat->Option Value:=fun r o=>if Hid C hp r then(w.cell? ⟨r,o,Ig⟩).filter (·.oneCell')else C.K r o
section
include m
theorem I2 {r o x}(h:C.K r o=En x):zt C hp w r o=En x:=by
 unfold zt;rw[if_neg]
 .exact h
 .intro hh;rw[UZ m hh o]at h;cases h
theorem Ob {r o x}(h:zt C hp w r o=En x):w.cell? ⟨r,o,Ig⟩=En x/\x.oneCell'=H2:=by
 unfold zt at h;split at h
 .rw[Eah]at h;exact h
 .exact⟨m.know r o x h,m.dr r o x h⟩
end
theorem qw7 {r o x}(hb:Hid C hp r)(hc:w.cell? ⟨r,o,Ig⟩=En x)(Y:x.oneCell'=H2):zt C hp w r o=En x:=by
 unfold zt;rw[if_pos hb,hc];simp[Y]
theorem U0 {b r o x}(hb:C.β b=En r)(hc:w.cell? ⟨r,o,Ig⟩=En x)(Y:x.oneCell'=H2):zt C hp w r o=En x:=
 qw7 (.inl ⟨b,hb⟩) hc Y
include m in
theorem U1 {x v}(h:bW C x v)(hb:below 0 x=H2):bW (.cf (zt C hp w)) x v:=
 aO.shift (C:=C) (C':=.cf (zt C hp w)) 0 (fun _ _ _ h=>I2 m h) (fun b r aW=>by omega) h hb
theorem qwv {x v}(h:bW C x v)(Y:v.oneCell'=H2):x.isAgg=Ir:=by
 cases h<;>first|rfl|(simp[Value.oneCell']at Y)
theorem U2 {C r}:∀ {ys:List AVal} {o:Nat},(∀j x,ys[j]?=En x->∃v,C.K r (o+j)=En v/\bW C x v)->cF C r ys o
 | [],o,_=>.iL _ _
 |x::ys,o,h=>by
  obtain⟨v,Y,I⟩:=h 0 x rfl;refine .dE _ _ _ _ v (by simpa using Y) I (U2 fun j y hy=>?_);obtain⟨v,k1,k2⟩:=h (j+1) y (by simpa using hy);exact⟨v,by rw[show o+1+j=o+(j+1) by omega];exact k1,k2⟩
theorem U3 {C r sz}(hz:0<sz):∀ {n:Nat} {xs:List AVal} {o:Nat},xs.length=n*sz->(∀x∈xs,x.isAgg=Ir)->(∀j x,xs[j]?=En x->∃v,C.K r (o+j)=En v/\bW C x v)->bE C r sz (nR sz n xs) o
 |0,xs,o,_,_,_=>.gh _ _ _
 |n+1,xs,o,hl,hp,h=>by
  rw[Eac]at hl
  have hf:(bif Ix sz 1 then xs.headD .undef else AVal.agg (xs.take sz)).flat=xs.take sz:=by
   cases hb:Ix sz 1 with
   |false=>rfl
   |true=>
    have:=Hq hb;subst this
    match xs,hl with
    |x::xs,_=>simp only[cond_true,List.headD_cons];rw[qcc (hp x (Eae ..))];rfl
  refine .dw _ _ _ _ _ ?_ ?_ (U3 hz ?_ (fun x M=>hp x (List.mem_of_mem_drop M)) fun j x M=>?_)
  .rw[hf,Xl];omega
  .rw[hf];refine U2 fun j x M=>h j x ?_;rw[List.getElem?_take]at M;split at M
   .exact M
   .cases M
  .rw[Ebg];omega
  .rw[List.getElem?_drop]at M;obtain⟨v,k1,k2⟩:=h _ x M;exact⟨v,by rw[Nat.add_assoc];exact k1,k2⟩
theorem I4 {sz}:∀ {n:Nat} {xs:List AVal},(nR sz n xs).length=n
 |0,_=>rfl
 |n+1,xs=>by simp only[nR,List.length_cons];rw[I4]
theorem qt3 {sz}(hz:1<sz):∀ {n:Nat} {xs:List AVal},xs.length=n*sz->qp 0 (nR sz n xs)=H2->∀x∈xs,below 0 x=H2
 |0,xs,hl,_=>by
  rw[Nat.zero_mul]at hl;rw[R1.1 hl];intro x M;cases M
 |n+1,xs,hl,h=>by
  have hb:Ix sz 1=Ir:=by
   cases hc:Ix sz 1 with
   |false=>rfl|true=>have:=Hq hc;omega
  simp only[nR,hb,cond_false,qp,below,Hc]at h;have ih:=qt3 hz (n:=n) (xs:=xs.drop sz) (by rw[Ebg,hl,Eac];omega) h.2
  have ht:∀(ys:List AVal),qp 0 ys=H2->∀x∈ys,below 0 x=H2:=by
   intro ys
   induction ys with
   |nil=>intro _ x M;cases M
   |cons y ys ih=>
    intro hh x M;simp only[qp,Hc]at hh;rcases Xn.1 M with rfl|M
    .exact hh.1
    .exact ih hh.2 x M
  intro x M;rw[<-Eao sz xs]at M;rcases Xc.1 M with M|M
  .exact ht _ h.1 x M
  .exact ih x M
include m in
theorem U4 {x x' v}(hf:ku hp x=En x')(h:bW C x v)(hb:below 0 x'=H2):bW (.cf (zt C hp w)) x' v:=by
 unfold ku at hf;split at hf
 .rename_i b off len;split at hf
  .rename_i cs hcs
   cases de:FD off len cs with
   |true=>
    rw[de]at hf;simp only[cond_true,En.injEq]at hf;subst hf;simp only[FD,Hc]at de;obtain⟨⟨⟨r0,r1⟩,r2⟩,_⟩:=de;have r0:=Hq r0;have r2:=Hq r2
    have r1:1<cs.length / len:=by simpa using r1
    subst r0;obtain⟨r,cap,jG,hle,rfl⟩:=h.fi;obtain⟨vs,elem,k1,k2,k3⟩:=m.box b _ r (xa hcs) jG
    have kF:qp 0 (nR (cs.length / len) len (cs.map (·.1)))=H2:=by simpa[below]using hb
    have qM:=qt3 r1 (by rw[Ean];exact r2.symm) kF
    have hrr:bE (.cf (zt C hp w)) r (cs.length / len) (nR (cs.length / len) len (cs.map (·.1))) 0:=by
     refine U3 (by omega) (by rw[Ean];exact r2.symm) (fun x M=>?_) fun j x M=>?_
     .obtain⟨j,hj⟩:=List.getElem?_of_mem M;rw[Rn,Ii]at hj;obtain⟨c,hc,rfl⟩:=hj;obtain⟨u,q1,q2,q3,_⟩:=k3 j c hc;exact qwv q3 q2
     .have du:=Lm M;rw[Rn,Ii]at M;obtain⟨c,hc,rfl⟩:=M;obtain⟨u,q1,q2,q3,_⟩:=k3 j c hc
      have eo:w.cell? ⟨r,0+j,Ig⟩=En u:=by
       unfold World.cell?;rw[k1];simp only[Us,J1,if_false,Xz];exact q1
      exact⟨u,U0 jG eo q2,U1 m q3 (qM _ du)⟩
    have:=aO.list (C:=.cf (zt C hp w)) (cs.length / len) (nR (cs.length / len) len (cs.map (·.1))) r 0 cap (by rw[I4];exact hle) hrr;rw[I4]at this;exact this
   |false=>
   rw[de]at hf;simp only[cond_false]at hf;split at hf
   .rename_i us iD;cases hf;obtain⟨r,cap,jG,hle,rfl⟩:=h.fi;obtain⟨vs,k1,k0,k2,k3,k4⟩:=(m.box b _ r (xa hcs) jG).read iD
    have kF:qp 0 us=H2:=by simpa[below]using hb
    have gJ:bq (.cf (zt C hp w)) us vs:=aO.shift (C:=C) (C':=.cf (zt C hp w)) 0 (fun _ _ _ h=>I2 m h) (fun b r aW=>by omega) k1 kF
    have lm:∀(us:List AVal) (vs:List Value),bq C us vs->(∀v∈vs,v.oneCell'=H2)->us.flatMap AVal.flat=us/\∀u∈us,u.flat.length=1:=by
     intro us
     induction us with
     |nil=>intro _ _ _;exact⟨rfl,by simp⟩
     |cons u us ih=>
      intro vs h Y
      cases h with
      |cons _ _ v vs M h=>
       obtain⟨i1,i2⟩:=ih vs h (fun v hv=>Y v (by simp[hv]));have yQ:=qwv M (Y v (by simp));rw[Ebd,qcc yQ,i1];refine⟨rfl,fun u' rT=>?_⟩;rcases Xn.1 rT with rfl|rT
       .rw[qcc yQ];rfl
       .exact i2 u' rT
    obtain⟨f1,f2⟩:=lm us vs k1 k4
    have hcells:cF (.cf (zt C hp w)) r (us.flatMap AVal.flat) off:=by
     rw[f1];exact cF.jE gJ fun j u hj=>U0 jG (k3 j u hj) (k4 u (Lm hj))
    have hl:us.length=len:=k0;have:=aO.list (C:=.cf (zt C hp w)) 1 us r off cap (by omega) (bE.fg hcells f2);rw[hl]at this;exact this
   .cases hf
  .cases hf
 .rename_i b bS len;split at hf
  .rename_i sz dO xs ie
   cases hk:(Ix bS dO&&J2 len xs.length)with
   |false=>rw[hk]at hf;cases hf
   |true=>
    rw[hk]at hf;simp only[cond_true,En.injEq]at hf;subst hf;simp only[Hc]at hk;obtain rfl:=Hq hk.1;have hlen:=Ik hk.2
    cases h with
    |az _ _ _ r0 q cap hβ hT hl=>
     obtain⟨q',lN,k1,k2,k3,k4,_⟩:=m.box b _ r0 ie hβ;have heq:=(k2 _ hT rfl).2 rfl;simp only[T9.injEq]at heq;obtain⟨rfl,rfl⟩:=heq;obtain⟨cells,t,vs,g1,g2,g3,g4,g5,g6,g7⟩:=k3;have U5:Hid C hp q:=.inr ⟨b,sz,bS,xs,r0,cap,ie,hβ,hT⟩
     have hall:cF (.cf (zt C hp w)) q (xs.flatMap AVal.flat) 0:=by
      refine cF.jE (aO.imp (C:=.cf C.K) (C':=.cf (zt C hp w)) ⟨fun _ _ _ h=>I2 m h,fun _ _ h=>h⟩ g5) fun j u hj=>?_;refine qw7 U5 ?_ (g7 u (Lm hj));unfold World.cell?;rw[g1];simp only[Us,J1,if_false,Xz];exact g6 j u hj
     have de:bE (.cf (zt C hp w)) q sz xs 0:=bE.fg hall g4;have:=aO.list (C:=.cf (zt C hp w)) sz (xs.take len) q 0 cap (by rw[Xl];omega) (de.take len);rw[Xl,Nat.min_eq_left hlen]at this;exact this
  .cases hf
 .cases hf;exact U1 m h hb
theorem U6 (m:aA P C ω w0 C0 hp w):∀ {xs gv:List AVal} {vs:List Value},mU hp xs=En gv->bq C xs vs->qp 0 gv=H2->bq (.cf (zt C hp w)) gv vs
 | [],gv,vs,hf,h,_=>by
  simp only[mU,En.injEq]at hf;subst hf;cases h;exact .nil
 |x::xs,gv,vs,hf,h,hb=>by
  simp only[mU]at hf;split at hf
  .rename_i y hy;split at hf
   .rename_i ys oB;cases hf;simp only[qp,Hc]at hb
    cases h with
    |cons _ _ v vs M h=>exact .cons _ _ _ _ (U4 m hy M hb.1) (U6 m oB h hb.2)
   .cases hf
  .cases hf
theorem U7 (m:aA P C ω w0 C0 hp w):∀ {xs gv:List AVal} {vs:List Value},aX.bT hp xs=En gv->bq C xs vs->qp 0 gv=H2->bq (.cf (zt C hp w)) gv vs
 | [],gv,vs,hf,h,_=>by
  simp only[aX.bT,En.injEq]at hf;subst hf;cases h;exact .nil
 |x::xs,gv,vs,hf,h,hb=>by
  cases h with
  |cons _ _ v vs M h=>
   unfold aX.bT at hf;split at hf
   .cases ‹_::_=[]›
   .rename_i cs tf heq;cases heq;split at hf
    .rename_i y hy;split at hf
     .rename_i ys oB;cases hf;simp only[qp,below,Hc]at hb;obtain⟨us,rfl,hu⟩:=bW.eM M;exact .cons _ _ _ _ (.agg _ _ (U6 m hy hu hb.1)) (U7 m oB h hb.2)
     .cases hf
    .cases hf
   .rename_i heq;cases heq;split at hf
    .rename_i y hy;split at hf
     .rename_i ys oB;cases hf;simp only[qp,Hc]at hb;exact .cons _ _ _ _ (U4 m hy M hb.1) (U7 m oB h hb.2)
     .cases hf
    .cases hf
include m in
theorem jbh {x x' v}(hf:aX hp x=En x')(h:bW C x v)(hb:below 0 x'=H2):bW (.cf (zt C hp w)) x' v:=by
 unfold aX at hf;split at hf
 .split at hf
  .rename_i ys oB;cases hf;obtain⟨us,rfl,hu⟩:=h.eM;exact .agg _ _ (U6 m oB hu (by simpa[below]using hb))
  .cases hf
 .split at hf
  .rename_i ys oB;cases hf
   cases h with
   |aI _ vs hu=>exact .aI _ _ (U7 m oB hu (by simpa[below]using hb))
  .cases hf
 .exact U4 m hf h hb
end
def Bm:q9->Exit
 | .normal=>.normal| .exit id=>.exit id| .ret=>.ret
def jV (ρ:Option Nat):Fence:={ Fence.wide with round:=ρ }
theorem q0m {ρ n P f args w R}:CallsIn (jV ρ) n P f args w R↔CallsIn Fence.wide n P f args w R:=Iff.rfl
def Marks (C:aV)(B:Nat)(ds:List Deferred):Prop:=∃rs:List Nat,ds=rs.map (fun r=>{ target:=.collected r,args:=#[] })/\rs.Nodup/\∀r∈rs,C.D r/\B<=r
theorem Marks.mono {C C' B ds}(h:Marks C B ds)(hle:C.le C'):Marks C' B ds:=
 let ⟨rs,Y,I,h3⟩:=h; ⟨rs,Y,I,fun r Q=>⟨hle.d r (h3 r Q).1,(h3 r Q).2⟩⟩
theorem Marks.nil {C B}:Marks C B []:=⟨[],rfl,List.nodup_nil,by simp⟩
def cL (P:Program)(xc:XC):Prop:=
 ∀(ρ:Option Nat) (nt:Nat) (c:Code) (ca:bn) (st bH:bg) (x:q9),Ih P nt c ca->(ρ≠Ig->zr ca=H2)->xc ca st=En (x,bH) ->
  ∀(C:aV) (ω:Nat->Option Loc) (w0:World) (C0:aV) (a:Act) (w:World),aA P C ω w0 C0 st.heap w->ar C ω w w0.heap.size st.env a.tmps->a.tmps.size=nt->Marks C w0.heap.size a.defers ->
   c.wpIn (jV ρ) 0 P (fun e a' w'=>e=Bm x/\a'.tmps.size=nt/\∃C' ω',C.le C'/\Marks C' w0.heap.size a'.defers/\aA P C' ω' w0 C0 bH.heap w'/\ar C' ω' w' w0.heap.size bH.env a'.tmps) a w
def IsoCall (P:Program)(k:Nat)(args:List AVal)(v:AVal)(ow:Bool):Prop:=
 ∀(K:Nat->Nat->Option Value) (w:World) (vs:List Value),Tabs P w ->
  (∀r o u,K r o=En u->w.cell? ⟨r,o,Ig⟩=En u)->(∀r o u,K r o=En u->u.oneCell'=H2)->bq (.cf K) args vs ->
  CallsIn Fence.wide 0 P k ⟨vs⟩ w fun e w'=>∃u K',e=.returned u/\Ext w w'/\(∀r o x,K r o=En x->K' r o=En x)/\(∀r o,r<w.heap.size->K' r o=K r o) /\
   (∀r o x,K' r o=En x->w'.cell? ⟨r,o,Ig⟩=En x)/\(∀r o x,K' r o=En x->x.oneCell'=H2)/\bW (.cf K') v u /\
   (ow=H2->∃ℓ ω',aY (.cf K') ω' w' w.heap.size ℓ v u)
def Enters (P : Program) (k : Nat) : Prop := ∃ fn, P.funcs[k]? = En fn ∧ fn.name ≠ "runtime.NumGoroutine" ∧ fn.body.isSome
def Bn (P:Program)(k:Nat)(args:List AVal)(h:qh)(v:AVal)(ow:Bool)(h':qh):Prop:=
 ∀(C:aV) (ω:Nat->Option Loc) (w:World) (vs:List Value),bq C args vs->aA P C ω w C h w ->
  CallsIn Fence.wide 0 P k ⟨vs⟩ w fun e w'=>∃u C' ω',e=.returned u/\C.le C'/\aA P C' ω' w C h' w'/\bW C' v u/\(ow=H2->aY C' ω' w' w.heap.size (.slot 0) v u)
def U8 (P:Program)(k:Nat)(es:List (AVal×AVal)):Prop:=
 ∀(K:Nat->Nat->Option Value) (w:World),Tabs P w ->
  (∀r o u,K r o=En u->w.cell? ⟨r,o,Ig⟩=En u)->(∀r o u,K r o=En u->u.oneCell'=H2) ->
  CallsIn Fence.wide 0 P k ⟨[]⟩ w fun e w'=>∃q K' cr clock,e=.returned (.map (En q))/\Ext w w'/\(∀r o x,K r o=En x->K' r o=En x)/\(∀r o,r<w.heap.size->K' r o=K r o) /\
   (∀r o x,K' r o=En x->w'.cell? ⟨r,o,Ig⟩=En x)/\(∀r o x,K' r o=En x->x.oneCell'=H2)/\w.heap.size<=q/\w'.heap[q]?=En (.map cr clock)/\cK (.cf K') es cr.toList
structure b8 (P:Program)(p:j8):Prop where
 fn:∀k f,p.br k=En f->∃fn h,P.funcs[k]?=En fn/\yN P h fn=En f
 gd:∀k f,p.cD k=En f->Enters P k/\∀args v o,f args=En (v,o)->mC v=H2->qp 0 args=H2->IsoCall P k args v o
 mixed:P.follows .mixedOrders=H2
 fa:∀k f,p.cH k=En f->Enters P k/\∀args h v o h',f args h=En (v,o,h')->Bn P k args h v o h':=by intro k f h;cases h
 maps:∀k es,p.maps k=En es->Enters P k/\U8 P k es:=by intro k f h;cases h
theorem U9 {P h fn f} (hc : yN P h fn = En f) : ∃ c, fn.body = En c ∧ iC P h fn.ntmps c = En f.body ∧ wT P fn.results.toList = En f.results ∧ f.ntmps = fn.ntmps ∧ fn.name ≠ "runtime.NumGoroutine" := by
 unfold yN at hc;split at hc
 .rename_i c hb;split at hc
  .rename_i b rs Y I;split at hc
   .cases hc
   .rename_i hn;cases hc;exact⟨c,hb,Y,I,rfl,by simpa using hn⟩
  .cases hc
 .cases hc
theorem b8.enters {P p}(h:b8 P p){k f}(hf:p.br k=En f):Enters P k:=by
 obtain⟨fn,hh,Y,I⟩:=h.fn k f hf;obtain⟨c,hb,_,_,_,hn⟩:=U9 I;exact⟨fn,Y,hn,by simp[hb]⟩
theorem qt5 {P k}(h:Enters P k)(args:Array Value)(w:World):(callFunc k args).run P w=.ok (.enter k args) w:=by
 obtain⟨fn,Y,I,h3⟩:=h;simp[callFunc,Y,I,Option.isNone_iff_eq_none,Option.isSome_iff_ne_none.1 h3]
section
variable {P:Program}{p:j8}{xc:XC}{C C0:aV}{ω:Nat->Option Loc}{w w0:World}{hp:qh}{env:Env}{tmps:Array Value}{B:Nat}{a:Act}{o:Oper}{d:Loc}
theorem qw4:∀ {args:List AVal} {i s:Nat} {x:AVal×Bool},jp s (qG i args)=En x->∃j,s=i+j/\args[j]?=En x.1/\x.2=Ir
 | [],_,_,_,h=>by simp[qG,jp]at h
 |v::args,i,s,x,h=>by
  simp only[qG,jp]at h
  cases hb:Ix i s with
  |true=>
   simp only[hb,cond_true,En.injEq]at h;subst h;exact⟨0,(Hq hb).symm,rfl,rfl⟩
  |false=>
   simp only[hb,cond_false]at h;obtain⟨j,Y,I,h3⟩:=qw4 h;exact⟨j+1,by omega,by simpa using I,h3⟩
theorem jfv {r o v}(h:w.cell? ⟨r,o,Ig⟩=En v):∃cs t fr,w.heap[r]?=En (.cells cs t fr):=by
 unfold World.cell? at h;split at h
 .rename_i cs t fr hg;exact⟨cs,t,fr,hg⟩
 .cases h
theorem aA.other {D'}(m:aA P C ω w0 C0 hp w){r w'}(hu:oG w w' r)(hβ:∀b,C.β b≠En r)(Q:w0.heap.size<=r)(mL:∀cs t fr,w.heap[r]?≠En (.cells cs t fr))(hD:∀k,D' k->C.D k/\k≠r)(h0:∀k,C0.D k->D' k):
  aA P { C with D:=D' } ω w0 C0 hp w':=by
 have df:∀ {B:Nat} {ℓ:Loc} {x:AVal} {v:Value},aY C ω w B ℓ x v->aY { C with D:=D' } ω w' B ℓ x v:=by
  intro B ℓ x v ho;unfold aY at *;split at ho
  .obtain⟨Y,I,h3,h4,h8,⟨cells,elem,h5,h6⟩,h7⟩:=ho;refine⟨Y,I,h3,h4,h8,⟨cells,elem,?_,h6⟩,h7⟩;rw[hu.other _ (fun h=>mL _ _ _ (h▸h5))];exact h5
  .obtain⟨Y,I,h3,h4,h8,⟨cells,elem,h5,h6⟩,h7⟩:=ho;refine⟨Y,I,h3,h4,h8,⟨cells,elem,?_,h6⟩,h7⟩;rw[hu.other _ (fun h=>mL _ _ _ (h▸h5))];exact h5
  .trivial
 refine { base:=m.base,know:=?_,dr:=m.dr,apart:=m.apart,inj:=m.inj,lt:=?_,size:=?_,frame:=?_,fJ:=?_,os:=hu.os.trans m.os,output:=hu.output.trans m.output,fresh:=m.fresh,grown:=⟨m.grown.k,m.grown.b,m.grown.w,h0,m.grown.t⟩,old:=m.old,box:=?_,jD:=fun q hq=>by rw[hu.size];exact m.jD q hq }
 .intro k p v hk;have hc:=m.know _ _ _ hk
  have bN:k≠r:=fun h=>by
   obtain⟨cs,t,fr,hg⟩:=jfv hc;exact mL cs t fr (h▸hg)
  simp only[World.cell?]at hc ⊢;rw[hu.other k bN];exact hc
 .intro b p hb;rw[hu.size];exact m.lt b p hb
 .rw[hu.size];exact m.size
 .intro k hk hn hw;rw[hu.other k (by omega)];exact m.frame k hk hn hw
 .intro k hk;obtain⟨Y,I⟩:=hD k hk;rw[hu.other k I];exact m.fJ k Y
 .intro b x p M hb
  refine bR.imp (C:=C) (C':={ C with D:=D' }) ⟨fun _ _ _ h=>h,fun _ _ h=>h⟩ (hu.other p (fun h=>hβ b (h▸hb))) (fun j y v ho=>df ho) (m.box b x p M hb) (hq:=fun q n cap k=>by
   obtain⟨_,_,_,_,_,⟨cells,elem,h5,_⟩,_⟩:=k
   exact hu.other q (fun h=>mL _ _ _ (h▸h5)))
theorem aY.lQ {D' r w'}(hu:oG w w' r)(mL:∀cs t fr,w.heap[r]?≠En (.cells cs t fr)){ℓ x v}(ho:aY C ω w B ℓ x v):aY { C with D:=D' } ω w' B ℓ x v:=by
 unfold aY at *;split at ho
 .obtain⟨Y,I,h3,h4,h8,⟨cells,elem,h5,h6⟩,h7⟩:=ho;refine⟨Y,I,h3,h4,h8,⟨cells,elem,?_,h6⟩,h7⟩;rw[hu.other _ (fun h=>mL _ _ _ (h▸h5))];exact h5
 .obtain⟨Y,I,h3,h4,h8,⟨cells,elem,h5,h6⟩,h7⟩:=ho;refine⟨Y,I,h3,h4,h8,⟨cells,elem,?_,h6⟩,h7⟩;rw[hu.other _ (fun h=>mL _ _ _ (h▸h5))];exact h5
 .trivial
theorem bW.tn {D' x v}(h:bW C x v):bW { C with D:=D' } x v:=aO.imp (C:=C) (C':={ C with D:=D' }) ⟨fun _ _ _ h=>h,fun _ _ h=>h⟩ h
theorem ar.lQ {D' r w'}(hu:oG w w' r)(mL:∀cs t fr,w.heap[r]?≠En (.cells cs t fr))(e:ar C ω w B env tmps):ar { C with D:=D' } ω w' B env tmps:=
 fun s x G=>let ⟨v,Y,I,h3⟩:=e s x G; ⟨v,Y,bW.tn I,fun h=>(h3 h).lQ hu mL⟩
theorem q4n {fn R}:∀(rs:List Nat) (C':aV) (w:World),C.le C'->aA P C' ω w0 C hp w->ar C' ω w w0.heap.size env tmps->rs.Nodup->(∀r∈rs,C'.D r/\w0.heap.size<=r)->(∀k,C.D k->k<w0.heap.size) ->
  (∀(C2:aV) (w2:World),C.le C2->C2.D=C.D->aA P C2 ω w0 C hp w2->ar C2 ω w2 w0.heap.size env tmps->∃v,(results fn tmps).run P w2=.ok v w2/\R (.returned v) w2) ->
  LeavesInM Fence.wide 0 P fn tmps R (rs.map fun r=>{ target:=.collected r,args:=#[] }) .returning w
 | [],C',w,hle,m,e,_,_,hD,eJ=>by
  have hr0:∀ {k},C.D k->C'.D k:=fun h=>hle.d _ h
  -- the marks are forgotten
  have m2:aA P { C' with D:=C.D } ω w0 C hp w:={ m with
   fJ:=fun r Q=>m.fJ r (hr0 Q)
   grown:=⟨m.grown.k,m.grown.b,m.grown.w,fun _ h=>h,m.grown.t⟩
   box:=fun b x r M hb=>bR.imp (C:=C') (C':={ C' with D:=C.D }) ⟨fun _ _ _ h=>h,fun _ _ h=>h⟩ rfl (fun j y v ho=>ho) (m.box b x r M hb) }
  have e2:ar { C' with D:=C.D } ω w w0.heap.size env tmps:=fun s x G=>let ⟨v,Y,I,h3⟩:=e s x G; ⟨v,Y,bW.tn I,h3⟩
  exact eJ { C' with D:=C.D } w ⟨hle.k,hle.b,hle.w,fun _ h=>h,hle.t⟩ rfl m2 e2
 |r::rs,C',w,hle,m,e,FQ,I5,hD,eJ=>by
  obtain⟨hDr,hBr⟩:=I5 r (by simp);have hg:=m.fJ r hDr;have aW:=(Ij.1 hg).1
  have mL:∀cs t fr,w.heap[r]?≠En (.cells cs t fr):=fun cs t fr h=>by rw[hg]at h;cases h
  have hu:oG w (kh w r (.deferred Ig)) r:=FT aW (by simp)
  have hβ:∀b,C'.β b≠En r:=by
   intro b hb;obtain⟨x,M⟩:=Lu (m.lt b r hb).2▸(⟨_,rfl⟩:∃x,En (hp[b]'(m.lt b r hb).2)=En x);have h0:=m.box b x r M hb
   cases x with
   |hole=>exact h0|cells cs=>obtain⟨vs,elem,Y,_⟩:=h0;rw[hg]at Y;cases Y|map es=>obtain⟨cr,clock,Y,_⟩:=h0;rw[hg]at Y;cases Y|iter s pos=>have Y:w.heap[r]?=_:=h0;rw[hg]at Y;cases Y|loop l=>obtain⟨lp,Y,_⟩:=h0;rw[hg]at Y;cases Y|gD t e l=>obtain⟨p,v,Y,_⟩:=h0;rw[hg]at Y;cases Y|dead=>obtain⟨cs,t,Y⟩:=h0;rw[hg]at Y;cases Y|vec sz bS xs=>obtain⟨_,_,_,_,_,_,cs,t,Y⟩:=h0;rw[hg]at Y;cases Y
  have bJ:(Instr.takeDeferred r).run P w=.ok [] (kh w r (.deferred Ig)):=by
   have G:=yV (P:=P) (x:=.deferred Ig) hg (by simp);simp only[Instr.takeDeferred,Sem.run_bind,rU hg (by simp),Result.andThen_ok,G,Sem.run_pure]
  refine⟨by simp,.inl ⟨r,_,rfl,bJ,?_⟩⟩;have I6:=Ebj.1 FQ;have m2:=m.other (D':=fun k=>C'.D k/\k≠r) hu hβ hBr mL (fun k h=>h) (fun k h=>⟨hle.d k h,fun hk=>by have:=hD k h;omega⟩)
  exact q4n rs { C' with D:=fun k=>C'.D k/\k≠r } _ ⟨hle.k,hle.b,hle.w,fun k h=>⟨hle.d k h,fun hk=>by have:=hD k h;omega⟩,hle.t⟩ m2 (e.lQ hu mL) I6.2
   (fun k hk=>⟨⟨(I5 k (by simp[hk])).1,fun h=>I6.1 (h▸hk)⟩,(I5 k (by simp[hk])).2⟩) hD eJ
theorem jbt (M:cL P xc){k fn h f}(hfn:P.funcs[k]?=En fn)(hc:yN P h fn=En f){args v ow h'}(Q:rQ xc f args hp=En (v,ow,h')){vs}(eH:bq C args vs)(m:aA P C ω w C hp w):
  CallsIn Fence.wide 0 P k ⟨vs⟩ w fun e w'=>∃u C' ω',e=.returned u/\C.le C'/\aA P C' ω' w C h' w'/\bW C' v u/\(ow=H2->aY C' ω' w' w.heap.size (.slot 0) v u):=by
 obtain⟨c,hb,Y,I,h3,_⟩:=U9 hc;unfold rQ at Q;have hD:∀k,C.D k->k<w.heap.size:=fun k hk=>(Ij.1 (m.fJ k hk)).1
 cases hle:J2 args.length f.ntmps with
 |false=>simp[hle]at Q
 |true=>
  simp only[hle,cond_true]at Q;have hlen:=Ik hle;have wY:=eH.length;refine callsIn_of_wp_marks hfn hb trivial ?_
  have dj:((⟨vs⟩:Array Value)++Ebk (fn.ntmps-(⟨vs⟩:Array Value).size) undef).size=fn.ntmps:=by
   simp;omega
  have I7:ar C ω w w.heap.size (qG 0 args) ((⟨vs⟩:Array Value)++Ebk (fn.ntmps-(⟨vs⟩:Array Value).size) undef):=by
   intro s x M;obtain⟨j,rfl,hj,hf⟩:=qw4 M;obtain⟨u,k1,k2⟩:=eH.get hj;have aW:j<vs.length:=(Io.1 k1).1;refine⟨u,?_,k2,by simp[hf]⟩;rw[Xz,Array.getElem?_append_left (by simpa using aW)];simpa using k1
  have fin:∀(st:bg) (a':Act) (w':World) (C':aV) (ω':Nat->Option Loc),C.le C'->Marks C' w.heap.size a'.defers->aA P C' ω' w C st.heap w'->ar C' ω' w' w.heap.size st.env a'.tmps ->
    (match ko st f.results with
     |some xs=>En ((zd xs).1,(zd xs).2,mE st f.results)
     |none=>Ig)=En (v,ow,h') ->
    LeavesInM Fence.wide 0 P fn a'.tmps (fun e w'=>∃u C' ω',e=.returned u/\C.le C'/\aA P C' ω' w C h' w'/\bW C' v u/\(ow=H2->aY C' ω' w' w.heap.size (.slot 0) v u)) a'.defers .returning w':=by
   intro st a' w' C' ω' hle ⟨rs,hds,FQ,I5⟩ m' e' Q;rw[hds];refine q4n (C:=C) (ω:=ω') (w0:=w) (hp:=st.heap) (env:=st.env) rs C' w' hle m' e' FQ I5 hD ?_;intro C2 w2 kI _ m2 e2;split at Q
   .rename_i xs rS;cases Q;obtain⟨u,ω2,k1,k2,k3,k4⟩:=jbq (fn:=fn) m2 e2 I rS;exact⟨u,k1,u,C2,ω2,rfl,kI,k2,k3,k4⟩
   .cases Q
  split at Q
  .rename_i st cw;refine wpIn_mono (M Ig fn.ntmps c f.body _ _ _ ⟨h,Y⟩ (fun h=>absurd rfl h) cw C ω w C _ w m I7 dj Marks.nil) ?_;rintro e a' w' ⟨rfl,q1,C',ω',q3,q2,q4,q5⟩;exact fin st a' w' C' ω' q3 q2 q4 q5 Q
  .rename_i st cw;refine wpIn_mono (M Ig fn.ntmps c f.body _ _ _ ⟨h,Y⟩ (fun h=>absurd rfl h) cw C ω w C _ w m I7 dj Marks.nil) ?_;rintro e a' w' ⟨rfl,q1,C',ω',q3,q2,q4,q5⟩;exact fin st a' w' C' ω' q3 q2 q4 q5 Q
  .cases Q
theorem q79 {K}(ht:Tabs P w)(Y:∀r o u,K r o=En u->w.cell? ⟨r,o,Ig⟩=En u)(I:∀r o u,K r o=En u->u.oneCell'=H2):aA P (.cf K) (fun _=>Ig) w (.cf K) [] w where
 base:=⟨ht,fun g _=>⟨fun b h=>(by cases h),fun h=>h⟩⟩
 know:=Y
 dr:=I
 apart:=by simp[aV.cf]
 inj:=by simp[aV.cf]
 lt:=by simp[aV.cf]
 size:=Eaf _
 frame _ _ _ _:=rfl
 fJ _ h:=h.elim
 os:=rfl
 output:=rfl
 fresh:=by simp[aV.cf]
 grown:=aV.le_refl _
 old _ _ _ _:=rfl
 box:=by simp
 jD _ h:=h.elim
theorem I8 (hp:b8 P p)(M:cL P xc){k args h h' v ow}(Q:ai p xc k args h=En (v,ow,h')):Enters P k/\Bn P k args h v ow h':=by
 unfold ai at Q;split at Q
 .rename_i f hf;obtain⟨fn,hh,hfn,I9⟩:=hp.fn k f hf;exact⟨hp.enters hf,fun C ω w vs eH m=>jbt M hfn I9 Q eH m⟩
 .split at Q
  .rename_i f hf;obtain⟨he,G⟩:=hp.fa k f hf;exact⟨he,G _ _ _ _ _ Q⟩
  .cases Q
theorem cK.cf {es ms}(h:cK C es ms):ke 0 es=H2->cK (.cf C.K) es ms:=by
 induction h with
 |nil=>exact fun _=>.nil
 |cons k v es m ms hk hv _ ih=>
  intro hb;simp only[ke,Hc]at hb;exact .cons _ _ _ _ _ (aO.shift (C:=C) (C':=.cf C.K) 0 (fun _ _ _ h=>h) (fun b r aW=>by omega) hk hb.1.1) (aO.shift (C:=C) (C':=.cf C.K) 0 (fun _ _ _ h=>h) (fun b r aW=>by omega) hv hb.1.2) (ih hb.2)
theorem jgx (hp:b8 P p)(M:cL P xc){k b ow Y es}(Q:ai p xc k [] []=En (.map b,ow,Y))(hb:Y[b]?=En (.map es))(he:ke 0 es=H2):Enters P k/\U8 P k es:=by
 obtain⟨np,oI⟩:=I8 hp M Q;refine⟨np,fun K w ht g1 g2=>?_⟩;refine CallsIn.mono (oI _ _ _ [] .nil (q79 (P:=P) ht g1 g2)) ?_;rintro e w' ⟨u,C',ω',rfl,hle,m',gJ,_⟩
 cases gJ with
 |map _ q hq=>
  obtain⟨cr,clock,k1,k2⟩:=m'.box b _ q hb hq;refine⟨q,C'.K,cr,clock,rfl,⟨m'.size,fun r Q=>m'.frame r Q (by simp[aV.cf]) (by simp[aV.cf]),m'.os,m'.output⟩,hle.1,fun r o Q=>m'.old r o Q (by simp[aV.cf]),m'.know,m'.dr,?_,k1,k2.cf he⟩;rcases m'.fresh b q hq with h|h|h
  .cases h
  .exact h
  .exact h.elim
theorem Oc (hp:b8 P p)(M:cL P xc){k args v ow}(Q:ae p xc k args=En (v,ow))(hb:qp 0 args=H2):Enters P k/\mC v=H2/\IsoCall P k args v ow:=by
 unfold ae at Q;split at Q
 .rename_i f hf;obtain⟨he,Ja⟩:=hp.gd k f hf;split at Q
  .rename_i v' o' Jb
   cases ln:mC v' with
   |false=>simp[ln]at Q
   |true=>
    simp only[ln,cond_true]at Q;cases Q;exact⟨he,ln,Ja args _ _ Jb ln hb⟩
  .cases Q
 .split at Q
  .rename_i v0 o' h' Jb;split at Q
   .rename_i v' FW
    cases ln:mC v' with
    |false=>simp[ln]at Q
    |true=>
     simp only[ln,cond_true]at Q;cases Q;obtain⟨np,oI⟩:=I8 hp M Jb
     .refine⟨np,ln,?_⟩;intro K w vs ht Y I eH;have:=oI _ _ _ _ eH (q79 (P:=P) ht Y I);refine CallsIn.mono this ?_;rintro e w' ⟨u,C',ω',rfl,hle,m',gJ,df⟩;refine⟨u,zt C' h' w',rfl,?_,fun r o x Q=>I2 m' (hle.1 r o x Q),fun r o Q=>?_,fun r o x Q=>(Ob m' Q).1,fun r o x Q=>(Ob m' Q).2,jbh m' FW gJ ln,?_⟩
      .exact⟨m'.size,fun r Q=>m'.frame r Q (by simp[aV.cf]) (by simp[aV.cf]),m'.os,m'.output⟩
      .have hold:=m'.old r o Q (by simp[aV.cf]);unfold zt;rw[if_neg]
       .exact hold
       intro hh;have:=jiq hle.w m' hh;omega
      .intro ho;simp only[Hc]at ho;have hℓ:=df ho.1;refine⟨.slot 0,ω',?_⟩
       cases v0 with
       |list n sz xs=>
        have Jc:v=.list n sz xs:=by
         simp only[aX,ku,En.injEq]at FW;exact FW.symm
        subst Jc;unfold aY at *;split at hℓ
        .obtain⟨g1,g2,g3,g4,g5,g6,g7⟩:=hℓ;refine⟨g1,.inl (g2.resolve_right (by rw[hle.w];exact fun h=>h)),by simp[aV.cf],g4,g5,g6,fun o yX=>?_⟩;show zt C' h' w' _ o=Ig;unfold zt;rw[if_neg]
         .exact g7 o yX
         .rintro (⟨b,hb⟩|hh)
          .exact g3 b hb
          .rcases hh.is m' with⟨b,hb⟩|⟨b,_,_,_,_,_,_,I⟩
           .exact g3 b hb
           .have:=I.1;rw[g1]at this;simp at this
        all_goals trivial
       |_=>exact absurd ho.2 (by simp[AVal.cT])
   .cases Q
  .cases Q
end
section
variable {P:Program}{p:j8}{xc:XC}{C C0 C1:aV}{ω ω1:Nat->Option Loc}{w w' w0:World}{hp Y:qh}{env:Env}{tmps:Array Value}{B:Nat}{a:Act}{o:Oper}{d:Loc}
variable (m:aA P C ω w0 C0 hp w)(e:ar C ω w w0.heap.size env tmps)
theorem aY.grow {K' ℓ x v}(M:Ext w w')(hK:∀r o,r<w.heap.size->K' r o=C.K r o)(ho:aY C ω w B ℓ x v):aY { C with K:=K' } ω w' B ℓ x v:=by
 unfold aY at *;split at ho
 .obtain⟨Y,I,h3,h4,h8,⟨cells,elem,h5,h6⟩,h7⟩:=ho;have aW:=(Ij.1 h5).1
  exact⟨Y,I,h3,h4,h8,⟨cells,elem,M.get h5,h6⟩,fun o ho=>by
   show K' _ o=Ig
   rw[hK _ o aW];exact h7 o ho⟩
 .obtain⟨Y,I,h3,h4,h8,⟨cells,elem,h5,h6⟩,h7⟩:=ho;have aW:=(Ij.1 h5).1
  exact⟨Y,I,h3,h4,h8,⟨cells,elem,M.get h5,h6⟩,fun o ho=>by
   show K' _ o=Ig
   rw[hK _ o aW];exact h7 o ho⟩
 .trivial
theorem aA.cf {K'}(m:aA P C ω w0 C0 hp w)(M:Ext w w')(hle:∀r o x,C.K r o=En x->K' r o=En x)(hK:∀r o,r<w.heap.size->K' r o=C.K r o)(hk:∀r o x,K' r o=En x->w'.cell? ⟨r,o,Ig⟩=En x)(Y:∀r o x,K' r o=En x->x.oneCell'=H2):
  aA P { C with K:=K' } ω w0 C0 hp w' where
 base:=m.base
 know:=hk
 dr:=Y
 apart b r o hb:=by
  show K' r o=Ig;rw[hK r o (m.lt b r hb).1];exact m.apart b r o hb
 inj:=m.inj
 lt b r hb:=⟨Uu (m.lt b r hb).1 M.size,(m.lt b r hb).2⟩
 size:=Lz m.size M.size
 frame:=(m.ext M).frame
 fJ:=(m.ext M).fJ
 os:=(m.ext M).os
 output:=(m.ext M).output
 fresh:=m.fresh
 grown:=aV.le_trans m.grown ⟨hle,fun _ _ h=>h,rfl,fun _ h=>h,fun _ h=>h⟩
 old r o Q hw:=by
  show K' r o=_;rw[hK r o (Uu Q m.size)];exact m.old r o Q hw
 box b x r hb Q:=by
  have h0:=m.box b x r hb Q
  -- in the new world first,then in the richer context
  cases x with
  |hole=>exact h0
  |cells cs=>
   obtain⟨vs,elem,g1,g2,g3⟩:=h0;exact⟨vs,elem,M.get g1,g2,fun j c hc=>let ⟨v,a,q,b,d⟩:=g3 j c hc; ⟨v,a,q,aO.mono (C':={ C with K:=K' }) ⟨hle,fun _ _ h=>h,rfl,fun _ h=>h,fun _ h=>h⟩ b,fun e=>(d e).grow M hK⟩⟩
  |map es=>obtain⟨cr,clock,g1,g2⟩:=h0;exact⟨cr,clock,M.get g1,cK.mono (C:=C) (C':={ C with K:=K' }) ⟨hle,fun _ _ h=>h,rfl,fun _ h=>h,fun _ h=>h⟩ g2⟩|iter s pos=>exact M.get h0|loop l=>obtain⟨lp,g1,g2⟩:=h0;exact⟨lp,M.get g1,cG.mono (C:=C) (C':={ C with K:=K' }) ⟨hle,fun _ _ h=>h,rfl,fun _ h=>h,fun _ h=>h⟩ g2⟩|gD t e l=>obtain⟨p,v,g1,g2,g3,g4⟩:=h0;exact⟨p,v,M.get g1,g2,g3,g4.grow M hK⟩|dead=>obtain⟨cs,t,g1⟩:=h0;exact⟨cs,t,M.get g1⟩
  |vec sz bS xs=>
   have hg:∀ {k:Nat} {c:Array Value} {t:TypeId},w.heap[k]?=En (.cells c t (0,0))->w'.heap[k]?=w.heap[k]?:=fun hk=>by rw[M.get hk,hk]
   obtain⟨_,_,_,_,_,_,cs,t,g1⟩:=id h0;refine et.imp hle (fun _ h=>h) (fun _ h _=>h) (hg g1) (fun q n cap k=>⟨?_,k.grow M hK⟩) h0;obtain⟨_,_,_,_,_,⟨cells,elem,h5,_⟩,_⟩:=k;exact hg h5
 jD q hq:=Uu (m.jD q hq) M.size
theorem ar.cf {K'}(e:ar C ω w B env tmps)(M:Ext w w')(hle:∀r o x,C.K r o=En x->K' r o=En x)(hK:∀r o,r<w.heap.size->K' r o=C.K r o):ar { C with K:=K' } ω w' B env tmps:=
 fun s x G=>let ⟨v,Y,I,h3⟩:=e s x G; ⟨v,Y,aO.mono (C':={ C with K:=K' }) ⟨hle,fun _ _ h=>h,rfl,fun _ h=>h,fun _ h=>h⟩ I,fun h=>(h3 h).grow M hK⟩
section
include m e
theorem q81 {v ow u K'}(M:Ext w w')(hle:∀r o x,C.K r o=En x->K' r o=En x)(hK:∀r o,r<w.heap.size->K' r o=C.K r o)(hk:∀r o x,K' r o=En x->w'.cell? ⟨r,o,Ig⟩=En x)(Y:∀r o x,K' r o=En x->x.oneCell'=H2)
  (ln:mC v=H2) (Q:bW (.cf K') v u) (ho:ow=H2->∃ℓ ω',aY (.cf K') ω' w' w.heap.size ℓ v u):zn P C0 w0 C tmps d env ⟨v,ow,Ig,hp⟩ u w':=by
 have m':=m.cf M hle hK hk Y;have e':=e.cf M hle hK;have lh:bW { C with K:=K' } v u:=aO.shift (C:=.cf K') (C':={ C with K:=K' }) 0 (fun _ _ _ h=>h) (fun b r aW=>by omega) Q ln;have cY:C.le { C with K:=K' }:=⟨hle,fun _ _ h=>h,rfl,fun _ h=>h,fun _ h=>h⟩;by_cases hkL:∃(n:Bool) (sz:Nat) (xs:List AVal) (ad:Addr) (len cap:Nat),v=.list n sz xs/\u=.slice (En ad) len cap/\ow=H2
 .obtain⟨n,sz,xs,ad,len,cap,rfl,rfl,rfl⟩:=hkL;obtain⟨ℓ,ω',g1,Va,g3,g4,g5,g6,g7⟩:=ho rfl;have g2:w.heap.size<=ad.block:=Va.resolve_right (fun h=>h)
  have oJ:∀ℓ x v,aY C ω w w0.heap.size ℓ x v->aY { C with K:=K' } (cS ω ad.block d) w' w0.heap.size ℓ x v:=fun ℓ x v h=>by
   have I:=(h.fresh (ℓ':=d) g2).grow M hK;exact I
  refine⟨{ C with K:=K' },cS ω ad.block d,cY,?_,?_,lh,fun _=>?_⟩
  .have:=(m.lI ad.block d g2).cf M hle hK hk Y;exact this
  .exact fun s x G=>let ⟨v,Y,I,h3⟩:=e s x G; ⟨v,Y,aO.mono cY I,fun h=>oJ _ _ _ (h3 h)⟩
  .refine⟨by simp[cS],.inl (Lz m.size g2),fun b hb=>?_,g4,g5,g6,g7⟩;have:=(m.lt b _ hb).1;omega
 by_cases dB:∃(n:Nat) (ad:Addr),v=.db n/\u=.pointer (En ad)/\ow=H2
 .obtain⟨n,ad,rfl,rfl,rfl⟩:=dB;obtain⟨ℓ,ω',g1,Va,g3,g4,g5,g6,g7⟩:=ho rfl;have g2:w.heap.size<=ad.block:=Va.resolve_right (fun h=>h)
  have oJ:∀ℓ x v,aY C ω w w0.heap.size ℓ x v->aY { C with K:=K' } (cS ω ad.block d) w' w0.heap.size ℓ x v:=fun ℓ x v h=>by
   have I:=(h.fresh (ℓ':=d) g2).grow M hK;exact I
  refine⟨{ C with K:=K' },cS ω ad.block d,cY,?_,?_,lh,fun _=>?_⟩
  .have:=(m.lI ad.block d g2).cf M hle hK hk Y;exact this
  .exact fun s x G=>let ⟨v,Y,I,h3⟩:=e s x G; ⟨v,Y,aO.mono cY I,fun h=>oJ _ _ _ (h3 h)⟩
  .refine⟨by simp[cS],.inl (Lz m.size g2),fun b hb=>?_,g4,g5,g6,g7⟩;have:=(m.lt b _ hb).1;omega
 .refine⟨{ C with K:=K' },ω,cY,m',e',lh,fun h=>?_⟩
  cases v with
  |list n sz xs=>
   cases u with
   |slice q len cap=>
    cases q with
    |some ad=>exact absurd ⟨_,_,_,_,_,_,rfl,rfl,h⟩ hkL|none=>trivial
   |_=>trivial
  |db n=>
   cases u with
   |pointer q=>
    cases q with
    |some ad=>exact absurd ⟨_,_,rfl,rfl,h⟩ dB|none=>trivial
   |_=>trivial
  |_=>trivial
theorem jpo {b q K' es cr clock}(M:Ext w w')(hle:∀r o x,C.K r o=En x->K' r o=En x)(hK:∀r o,r<w.heap.size->K' r o=C.K r o)(hk:∀r o x,K' r o=En x->w'.cell? ⟨r,o,Ig⟩=En x)(Y:∀r o x,K' r o=En x->x.oneCell'=H2)
  (hh:hp[b]?=En .hole) (hq:w.heap.size<=q) (hg:w'.heap[q]?=En (.map cr clock)) (Q:cK (.cf K') es cr.toList):zn P C0 w0 C tmps d env ⟨.map b,Ir,Ig,hp.set b (.map es)⟩ (.map (En q)) w':=by
 have m':=m.cf M hle hK hk Y;have e':=e.cf M hle hK;have cY:C.le { C with K:=K' }:=⟨hle,fun _ _ h=>h,rfl,fun _ h=>h,fun _ h=>h⟩;obtain⟨m2,e2,kI⟩:=m'.IH e' hh hg (fun k hk=>by have:=(m.lt k q hk).1;omega) (Lz m.size hq) (cK.imp (C:=.cf K') (C':={ C with K:=K' }) ⟨fun _ _ _ h=>h,fun b r h=>by simp[aV.cf]at h⟩ Q);exact⟨_,ω,aV.le_trans cY kI,m2,e2,.map _ _ (by simp[aV.box]),by simp⟩
end
theorem Jd {C C' x v}(hp:pv x=H2)(h:bW C x v):bW C' x v:=by
 cases x<;>simp only[pv,J1]at hp<;>cases h<;>constructor
include m e in
theorem aA.Vb {b q K' cells}{t:TypeId}{cs}(M:Ext w w')(hle:∀r o x,C.K r o=En x->K' r o=En x)(hK:∀r o,r<w.heap.size->K' r o=C.K r o)(hk:∀r o x,K' r o=En x->w'.cell? ⟨r,o,Ig⟩=En x)(Y:∀r o x,K' r o=En x->x.oneCell'=H2)
  (hq:w.heap.size<=q) (hn:∀o,K' q o=Ig) (hh:hp[b]?=En .hole) (hg:w'.heap[q]?=En (.cells cells t (0,0))) (hl:cs.length<=cells.size)
  (hcs:∀(j:Nat) (c:AVal×Bool),cs[j]?=En c->∃v,cells[j]?=En v/\v.oneCell'=H2/\bW (({ C with K:=K' }:aV).box b q) c.1 v/\c.2=Ir):
  aA P (({ C with K:=K' }:aV).box b q) ω w0 C0 (hp.set b (.cells cs)) w'/\ar (({ C with K:=K' }:aV).box b q) ω w' w0.heap.size env tmps/\C.le (({ C with K:=K' }:aV).box b q):=by
 have m':=m.cf M hle hK hk Y;have hβ:=IF m hh;have Bk:C.le { C with K:=K' }:=⟨hle,fun _ _ h=>h,rfl,fun _ h=>h,fun _ h=>h⟩;have kI:({ C with K:=K' }:aV).le (({ C with K:=K' }:aV).box b q):=aV.lM (C:={ C with K:=K' }) (r:=q) hβ;have cY:=aV.le_trans Bk kI;have aW:b<hp.length:=(Io.1 hh).1
 have Od:∀k,C.β k≠En q:=fun k hk=>by have:=(m.lt k q hk).1;omega
 have df:∀ℓ x v,aY C ω w w0.heap.size ℓ x v->aY (({ C with K:=K' }:aV).box b q) ω w' w0.heap.size ℓ x v:=fun ℓ x v h=>aY.grow (C:=C.box b q) M hK (aY.box (.inl hq) h);refine⟨{ m' with apart:=?_,inj:=?_,lt:=?_,fresh:=?_,grown:=aV.le_trans m'.grown kI,box:=?_ },?_,cY⟩
 .intro k r o hk;simp only[aV.box]at hk;split at hk
  .cases hk;exact hn o
  .exact m'.apart k r o hk
 .intro k k' r hk fm;simp only[aV.box]at hk fm;split at hk<;>split at fm
  .rename_i Y I;rw[Y,I]
  .cases hk;exact absurd fm (Od k')
  .cases fm;exact absurd hk (Od k)
  .exact m.inj k k' r hk fm
 .intro k r hk;rw[N3];simp only[aV.box]at hk;split at hk
  .rename_i Y;cases hk;subst Y;exact⟨(Ij.1 hg).1,aW⟩
  .exact m'.lt k r hk
 .intro k r hk;simp only[aV.box]at hk;split at hk
  .cases hk;exact .inr (.inl (Lz m.size hq))
  .exact m.fresh k r hk
 .intro k y r hy hk;simp only[aV.box]at hk;split at hk
  .rename_i Y;subst Y;cases hk;rw[N4 aW]at hy;cases hy;refine⟨cells,t,hg,hl,fun j c hc=>?_⟩;obtain⟨v,J,a2,a3,a4⟩:=hcs j c hc;exact⟨v,J,a2,a3,fun h=>by rw[a4]at h;cases h⟩
  .rename_i Y;rw[If (Lq Y)]at hy;have h0:=m.box k y r hy hk
   cases y with
   |hole=>exact h0
   |cells cs=>
    obtain⟨vs,elem,g1,g2,g3⟩:=h0;exact⟨vs,elem,M.get g1,g2,fun j c hc=>let ⟨v,a,q,b,d⟩:=g3 j c hc; ⟨v,a,q,aO.mono cY b,fun e=>df _ _ _ (d e)⟩⟩
   |map es=>obtain⟨cr,clock,g1,g2⟩:=h0;exact⟨cr,clock,M.get g1,cK.mono cY g2⟩|iter s pos=>exact M.get h0|loop l=>obtain⟨lp,g1,g2⟩:=h0;exact⟨lp,M.get g1,cG.mono cY g2⟩|gD t e l=>obtain⟨p,v,g1,g2,g3,g4⟩:=h0;exact⟨p,v,M.get g1,g2,g3,df _ _ _ g4⟩|dead=>obtain⟨cs,t,g1⟩:=h0;exact⟨cs,t,M.get g1⟩
   |vec sz bS xs=>
    have Oe:∀ {k:Nat} {c:Array Value} {t:TypeId},w.heap[k]?=En (.cells c t (0,0))->w'.heap[k]?=w.heap[k]?:=fun hk=>by rw[M.get hk,hk]
    obtain⟨_,_,_,_,_,_,cs,t,g1⟩:=id h0;refine et.imp hle (fun _ h=>h) (fun _ h _=>h) (Oe g1) (fun q n cap k'=>⟨?_,df _ _ _ k'⟩) h0;obtain⟨_,_,_,_,_,⟨cells,elem,h5,_⟩,_⟩:=k';exact Oe h5
 .exact fun s y hy=>let ⟨v,Y,I,h3⟩:=e s y hy; ⟨v,Y,aO.mono cY I,fun h=>df _ _ _ (h3 h)⟩
theorem aA.Je (m:aA P C ω w0 C0 hp w){b x}(hh:hp[b]?=En .hole):aA P C ω w0 C0 (hp.set b x) w:=by
 have hβ:=IF m hh;refine { m with lt:=fun k r hk=>by rw[N3];exact m.lt k r hk,box:=fun k y r hy hk=>?_ };by_cases nh:k=b
 .subst nh;rw[hβ]at hk;cases hk
 .rw[If (Lq nh)]at hy;exact m.box k y r hy hk
include m e in
theorem jk0 {v ow u h0 r res K'}(M:Ext w w')(hle:∀r o x,C.K r o=En x->K' r o=En x)(hK:∀r o,r<w.heap.size->K' r o=C.K r o)(hk:∀r o x,K' r o=En x->w'.cell? ⟨r,o,Ig⟩=En x)(Y:∀r o x,K' r o=En x->x.oneCell'=H2)
  (Q:bW (.cf K') v u) (ho:ow=H2->∃ℓ ω',aY (.cf K') ω' w' w.heap.size ℓ v u) (ht:sQ h0 hp r v ow=En res):zn P C0 w0 C tmps d env res u w':=by
 unfold sQ at ht;split at ht
 .rename_i sz _;split at ht
  .rename_i h' hn;have hv:=qy ht;obtain⟨hh,rfl⟩:=yz hn;subst hv;have cY:C.le { C with K:=K' }:=⟨hle,fun _ _ h=>h,rfl,fun _ h=>h,fun _ h=>h⟩;refine⟨{ C with K:=K' },ω,cY,(m.cf M hle hK hk Y).Je hh,e.cf M hle hK,aO.shift (C:=.cf K') (C':={ C with K:=K' }) 0 (fun _ _ _ h=>h) (fun b r aW=>by omega) Q (by rfl),fun h=>by simp at h⟩
  .cases ht
 .rename_i sz xs
  cases hb:(xs.flatMap AVal.flat).all pv with
  |false=>rw[hb]at ht;cases ht
  |true=>
   rw[hb]at ht;simp only[cond_true]at ht;split at ht
   .rename_i h' hn;have hv:=qy ht;obtain⟨hh,rfl⟩:=yz hn;subst hv;obtain⟨ℓ,ω',ho⟩:=ho rfl
    cases Q with
    |kE sz a lJ=>
     simp only[aY]at ho;exact absurd ho.2.2.2.1 lJ
    |list sz _ q o cap hl de=>
     simp only[aY]at ho;obtain⟨o1,o2,o3,_,o5,⟨cells,elem,o6,o7,_⟩,o8⟩:=ho;subst o5;have hq:w.heap.size<=q:=o2.resolve_right (fun h=>h)
     let K2:Nat->Nat->Option Value:=fun r o=>if r=q then Ig else K' r o
     have Jf:∀ {r o x},K2 r o=En x->K' r o=En x:=by
      intro r o x h;simp only[K2]at h;split at h
      .cases h
      .exact h
     have kI:∀r o x,C.K r o=En x->K2 r o=En x:=by
      intro r o x h
      have aW:r<w.heap.size:=by
       have:=m.know r o x h;unfold World.cell? at this;split at this
       .rename_i c _ _ hc;exact(Ij.1 hc).1
       .cases this
      have bN:r≠q:=by omega
      simp only[K2,if_neg bN];exact hle r o x h
     have Vc:∀r o,r<w.heap.size->K2 r o=C.K r o:=by
      intro r o aW
      have bN:r≠q:=by omega
      simp only[K2,if_neg bN];exact hK r o aW
     have hcells:=bE.cells de
     have hlen:(xs.flatMap AVal.flat).length<=cells.size:=by
      rcases Nat.eq_zero_or_pos (xs.flatMap AVal.flat).length with h0|h0
      .omega
      .obtain⟨y,hy⟩:∃y,(xs.flatMap AVal.flat)[(xs.flatMap AVal.flat).length-1]?=En y:=⟨_,Lu (by omega)⟩;obtain⟨v,hv,_⟩:=cF.get hcells hy;have h3:=hk _ _ _ hv;unfold World.cell? at h3;rw[o6]at h3;simp only[Us,J1,if_false]at h3;have:=(Ij.1 h3).1;omega
     obtain⟨m2,e2,l2⟩:=m.Vb e (b:=h0+r) (q:=q) (K':=K2) (cells:=cells) (t:=elem) (cs:=cellsOf (xs.flatMap AVal.flat)) M kI Vc (fun r o x h=>hk r o x (Jf h)) (fun r o x h=>Y r o x (Jf h)) hq (fun o=>by simp[K2]) hh o6 (by rw[show(cellsOf (xs.flatMap AVal.flat)).length=(xs.flatMap AVal.flat).length by simp[cellsOf]];exact hlen) (by
      intro j c hc;simp only[cellsOf,Rn,Ii]at hc;obtain⟨y,hy,rfl⟩:=hc;obtain⟨v,hv,rV⟩:=cF.get hcells hy;have h3:=hk _ _ _ hv;unfold World.cell? at h3;rw[o6]at h3;simp only[Us,J1,if_false,Xz]at h3
      exact⟨v,h3,Y _ _ _ hv,Jd (Ld.1 hb y (Lm hy)) rV,rfl⟩)
     exact⟨_,ω,l2,m2,e2,.ms _ 0 _ q cap (by simp[aV.box]) hl,fun h=>by simp at h⟩
   .cases ht
 .cases ht
theorem jhp (m:aA P C ω w0 C0 hp w){x x' v}(hf:T4 hp x=En x')(h:bW C x v)(hb:Abs.below 0 x'=H2):bW (.cf (zt C hp w)) x' v:=by
 unfold T4 at hf;split at hf
 .rename_i b len;split at hf
  .rename_i cs hcs
   cases hc:(Ix (len*(cs.length / len)) cs.length&&Iz 0 (cs.length / len)&&cs.all (fun c=>pv c.1))with
   |false=>
    rw[hc,cond_false]at hf
    cases hl:Ix len 0 with
    |false=>rw[hl]at hf;cases hf
    |true=>
     rw[hl]at hf;have hl:=Hq hl;subst hl;simp only[cond_true,En.injEq]at hf;subst hf;obtain⟨r,cap,jG,hle,rfl⟩:=h.fi;exact aO.list (C:=.cf (zt C hp w)) 8 [] r 0 cap (Nat.zero_le _) (.gh _ _ _)
   |true=>
    rw[hc]at hf;simp only[cond_true,En.injEq]at hf;subst hf;simp only[Hc]at hc;obtain⟨⟨c1,c2⟩,c3⟩:=hc;have c1:=Hq c1
    have c2:0<cs.length / len:=by simpa using c2
    obtain⟨r,cap,jG,hle,rfl⟩:=h.fi;obtain⟨vs,elem,k1,k2,k3⟩:=m.box b _ r (xa hcs) jG
    have de:bE (.cf (zt C hp w)) r (cs.length / len) (nR (cs.length / len) len (cs.map (·.1))) 0:=by
     refine U3 c2 (by rw[Ean];exact c1.symm) (fun x M=>?_) fun j x M=>?_
     .obtain⟨c,hc,rfl⟩:=Ebp.1 M;have:=Ld.1 c3 c hc
      cases hq:c.1<;>rw[hq]at this<;>first|rfl|cases this
     .rw[Rn,Ii]at M;obtain⟨c,hc,rfl⟩:=M;obtain⟨u,q1,q2,q3,_⟩:=k3 j c hc
      have eo:w.cell? ⟨r,0+j,Ig⟩=En u:=by
       unfold World.cell?;rw[k1];simp only[Us,J1,if_false,Xz];exact q1
      exact⟨u,U0 jG eo q2,Jd (Ld.1 c3 c (Lm hc)) q3⟩
    have:=aO.list (C:=.cf (zt C hp w)) (cs.length / len) (nR (cs.length / len) len (cs.map (·.1))) r 0 cap (by rw[I4];exact hle) de;rw[I4]at this;exact this
  .cases hf
 .cases hf;exact U1 m h hb
theorem qw2 (m:aA P C ω w0 C0 hp w):∀ {xs gv:List AVal} {vs:List Value},yI hp xs=En gv->bq C xs vs->qp 0 gv=H2->bq (.cf (zt C hp w)) gv vs
 | [],gv,vs,hf,h,_=>by
  simp only[yI,En.injEq]at hf;subst hf;cases h;exact .nil
 |x::xs,gv,vs,hf,h,hb=>by
  simp only[yI]at hf;split at hf
  .rename_i y ys Y I;cases hf
   cases h with
   |cons _ _ v vs M h=>
    simp only[qp,Hc]at hb;exact .cons _ _ _ _ (jhp m Y M hb.1) (qw2 m I h hb.2)
  .cases hf
theorem q0q {C C' x v}(hp:yJ x=H2)(h:bW C x v):bW C' x v:=by
 cases x with
 |agg cs=>
  obtain⟨vs,rfl,hl⟩:=h.eM;refine .agg _ _ ?_;simp only[yJ]at hp;clear h
  induction cs generalizing vs with
  |nil=>cases hl;exact .nil
  |cons c cs ih=>
   cases hl with
   |cons _ _ v vs M hl=>
    simp only[Eai,Hc]at hp;exact .cons _ _ _ _ (Jd hp.1 M) (ih hp.2 vs hl)
 |_=>exact Jd hp h
theorem jps {C C' x v}(h:bW C x v):bW C' (FE x) v:=by
 unfold FE
 cases hp:yJ x with
 |true=>exact q0q hp h|false=>exact .any _
theorem q45 {C C'}:∀ {xs:List AVal} {vs:List Value},bq C xs vs->bq C' (xs.map FE) vs
 | [],_,h=>by cases h;exact .nil
 |x::xs,_,h=>by
  cases h with
  |cons _ _ v vs M h=>exact .cons _ _ _ _ (jps M) (q45 h)
open Classical in
include m e in
theorem jnh {v v' ow Jg u K'}(M:Ext w w')(hle:∀r o x,zt C hp w r o=En x->K' r o=En x)(hK:∀r o,r<w.heap.size->K' r o=zt C hp w r o)(hk:∀r o x,K' r o=En x->w'.cell? ⟨r,o,Ig⟩=En x)(Y:∀r o x,K' r o=En x->x.oneCell'=H2)
  (Q:bW (.cf K') v u) (ho:ow=H2->∃ℓ ω',aY (.cf K') ω' w' w.heap.size ℓ v u) (ht:NJ v ow=En (v',Jg)):zn P C0 w0 C tmps d env ⟨v',Jg,Ig,hp⟩ u w':=by
 let K2:Nat->Nat->Option Value:=fun r o=>if Hid C hp r then Ig else K' r o
 have Jf:∀ {r o x},K2 r o=En x->K' r o=En x:=by
  intro r o x h;simp only[K2]at h;split at h
  .cases h
  .exact h
 have kI:∀r o x,C.K r o=En x->K2 r o=En x:=by
  intro r o x h
  have hn:¬Hid C hp r:=by
   intro hh;rw[UZ m hh o]at h;cases h
  simp only[K2,if_neg hn];exact hle r o x (I2 m h)
 have Vc:∀r o,r<w.heap.size->K2 r o=C.K r o:=by
  intro r o aW;by_cases hb:Hid C hp r
  .simp only[K2,if_pos hb];exact(UZ m hb o).symm
  .simp only[K2,if_neg hb];rw[hK r o aW];unfold zt;rw[if_neg hb]
 have fin:∀(ln:mC v'=H2) (lh:bW (.cf K2) v' u) (yX:Jg=H2->∃ℓ ω',aY (.cf K2) ω' w' w.heap.size ℓ v' u),zn P C0 w0 C tmps d env ⟨v',Jg,Ig,hp⟩ u w':=fun ln lh yX=>
  q81 m e M kI Vc (fun r o x h=>hk r o x (Jf h)) (fun r o x h=>Y r o x (Jf h)) ln lh yX
 have iF:∀y,pv y=H2->Abs.below 0 y=H2:=fun y hy=>by cases y<;>first|rfl|cases hy
 have tq:∀ys:List AVal,ys.all pv=H2->qp 0 ys=H2:=by
  intro ys
  induction ys with
  |nil=>intro _;rfl
  |cons y ys ih=>
   intro h;simp only[Eai,Hc]at h;simp only[qp,Hc];exact⟨iF y h.1,ih h.2⟩
 have pF:∀y,yJ y=H2->Abs.below 0 y=H2:=fun y hy=>by
  cases y with
  |agg cs=>simp only[Abs.below];exact tq cs hy|_=>exact iF _ hy
 unfold NJ at ht;split at ht
 .rename_i sz xs
  cases hb:(xs.flatMap AVal.flat).all pv with
  |false=>rw[hb]at ht;cases ht
  |true=>
   rw[hb]at ht;simp only[cond_true,En.injEq,T9.injEq]at ht;obtain⟨rfl,rfl⟩:=ht;obtain⟨ℓ,ω',ho⟩:=ho rfl
   cases Q with
   |kE sz a lJ=>
    simp only[aY]at ho;exact absurd ho.2.2.2.1 lJ
   |list sz _ q o cap hl de=>
    simp only[aY]at ho;obtain⟨o1,o2,o3,o4,o5,o6,o8⟩:=ho;have hq:w.heap.size<=q:=o2.resolve_right (fun h=>h)
    have FX:¬Hid C hp q:=by
     intro hh;have:=j16 m hh;omega
    have hKq:∀o,K2 q o=K' q o:=fun o=>by simp only[K2,if_neg FX]
    have hcells:=bE.cells de
    have s5:bE (.cf K2) q sz xs o:=by
     refine bE.fg (U2 fun j x M=>?_) (bE.sized de);obtain⟨u,hu,hxu⟩:=cF.get hcells M;exact⟨u,by rw[show(aV.cf K2).K=K2 from rfl,hKq];exact hu,Jd (Ld.1 hb x (Lm M)) hxu⟩
    refine fin ?_ (.list sz _ q o cap hl s5) fun _=>⟨ℓ,ω',?_⟩
    .show mC _=H2;unfold mC
     have kF:∀ys:List AVal,(ys.flatMap AVal.flat).all pv=H2->qp 0 ys=H2:=by
      intro ys
      induction ys with
      |nil=>intro _;rfl
      |cons y ys ih=>
       intro h;rw[Ebd,List.all_append,Hc]at h;simp only[qp,Hc];exact⟨by rw[<-NQ];exact tq _ h.1,ih h.2⟩
     simp only[Abs.below];exact kF xs hb
    .simp only[aY];exact⟨o1,o2,o3,o4,o5,o6,fun o' yX=>by rw[show(aV.cf K2).K=K2 from rfl,hKq];exact o8 o' yX⟩
 .simp only[En.injEq,T9.injEq]at ht;obtain⟨rfl,rfl⟩:=ht;refine fin rfl ?_ (fun h=>by cases h);cases Q;exact .kD _
 .rename_i vs _;simp only[En.injEq,T9.injEq]at ht;obtain⟨rfl,rfl⟩:=ht;obtain⟨us,rfl,hl⟩:=Q.pB;refine fin ?_ (.aI _ _ (q45 hl)) (fun h=>by cases h);show Abs.below 0 _=H2;simp only[Abs.below]
  have:∀ys:List AVal,qp 0 (ys.map FE)=H2:=by
   intro ys
   induction ys with
   |nil=>rfl
   |cons y ys ih=>
    simp only[Eaj,qp,Hc];refine⟨?_,ih⟩;unfold FE
    cases hp:yJ y with
    |true=>exact pF y hp|false=>rfl
  exact this _
 .cases hb:yJ v with
  |false=>rw[hb]at ht;cases ht
  |true=>
   rw[hb]at ht;simp only[cond_true,En.injEq,T9.injEq]at ht;obtain⟨rfl,rfl⟩:=ht;exact fin (pF v hb) (q0q hb Q) (fun h=>by cases h)
def aV.shared (C:aV)(ω:Nat->Option Loc)(w0:World):aV:={ C with W:=fun r=>(∃b j,ω r=En (.cell b j))/\(w0.heap.size<=r\/C.W r) }
def tr (ω:Nat->Option Loc):Nat->Option Loc:=fun r=>match ω r with
 |some (.cell b j)=>En (.cell b j)|_=>Ig
theorem aY.shared {b j x v}(ho:aY C ω w w0.heap.size (.cell b j) x v):aY (C.shared ω w0) (tr ω) w w.heap.size (.cell b j) x v:=by
 unfold aY at *;split at ho
 .obtain⟨g1,g2,g3⟩:=ho;exact⟨by simp[tr,g1],.inr ⟨⟨b,j,g1⟩,g2⟩,g3⟩
 .obtain⟨g1,g2,g3⟩:=ho;exact⟨by simp[tr,g1],.inr ⟨⟨b,j,g1⟩,g2⟩,g3⟩
 .trivial
theorem Vd (m:aA P C ω w0 C0 hp w):aA P (C.shared ω w0) (tr ω) w (C.shared ω w0) hp w where
 base:=⟨m.tabs,fun g hg=>by
  obtain⟨Y,I⟩:=m.base.2 g hg;have aW:=(m.base.1 g hg).1;refine⟨fun b hb=>?_,fun h=>?_⟩
  ·rcases m.fresh b g hb with h|h|h
   ·exact Y b h
   ·omega
   ·exact I h
  ·rcases h.2 with h|h
   ·omega
   ·rw[m.grown.w]at h;exact I h⟩
 know:=m.know
 dr:=m.dr
 apart:=m.apart
 inj:=m.inj
 lt:=m.lt
 size:=Eaf _
 frame _ _ _ _:=rfl
 fJ:=m.fJ
 os:=rfl
 output:=rfl
 fresh _ _ h:=.inl h
 grown:=aV.le_refl _
 old _ _ _ _:=rfl
 box b x r M hb:=bR.imp (C:=C) (C':=C.shared ω w0) ⟨fun _ _ _ h=>h,fun _ _ h=>h⟩ rfl (fun _ _ _ ho=>ho.shared) (m.box b x r M hb)
 jD:=m.jD
def oK (ω ω1:Nat->Option Loc)(n:Nat):Nat->Option Loc:=fun r=>match decide (r<n),ω r with
 |true,En (.slot s)=>En (.slot s)|_,_=>tr ω1 r
def aV.back (C1 C:aV):aV:={ C1 with W:=C.W }
theorem Og (hle:(C.shared ω w0).le C1):C.le (C1.back C):=⟨hle.k,hle.b,rfl,hle.d,hle.t⟩
theorem aY.tu {s x v}(m1:aA P C1 ω1 w (C.shared ω w0) Y w')(ho:aY C ω w w0.heap.size (.slot s) x v):aY (C1.back C) (oK ω ω1 w.heap.size) w' w0.heap.size (.slot s) x v:=by
 unfold aY at *;split at ho
 .rename_i ad len cap;obtain⟨g1,g2,g3,g4,g8,⟨cells,elem,g5,g6⟩,g7⟩:=ho;have aW:=(Ij.1 g5).1
  have Bo:¬(C.shared ω w0).W ad.block:=fun h=>by
   obtain⟨⟨b,j,h⟩,_⟩:=h;rw[g1]at h;cases h
  refine⟨by simp[oK,aW,g1],g2,fun b hb=>?_,g4,g8,⟨cells,elem,?_,g6⟩,fun o ho=>?_⟩
  .rcases m1.fresh b _ hb with h|h|h
   .exact g3 b h
   .omega
   .exact Bo h
  .rw[m1.frame _ aW g3 Bo];exact g5
  .have:=m1.old _ o aW Bo;show C1.K _ o=Ig;rw[this];exact g7 o ho
 .rename_i ad;obtain⟨g1,g2,g3,g4,g8,⟨cells,elem,g5,g6⟩,g7⟩:=ho;have aW:=(Ij.1 g5).1
  have Bo:¬(C.shared ω w0).W ad.block:=fun h=>by
   obtain⟨⟨b,j,h⟩,_⟩:=h;rw[g1]at h;cases h
  refine⟨by simp[oK,aW,g1],g2,fun b hb=>?_,g4,g8,⟨cells,elem,?_,g6⟩,fun o ho=>?_⟩
  .rcases m1.fresh b _ hb with h|h|h
   .exact g3 b h
   .omega
   .exact Bo h
  .rw[m1.frame _ aW g3 Bo];exact g5
  .have:=m1.old _ o aW Bo;show C1.K _ o=Ig;rw[this];exact g7 o ho
 .trivial
theorem aY.tv {b j x v}(m:aA P C ω w0 C0 hp w)(hW:C1.W=(C.shared ω w0).W)(ho:aY C1 ω1 w' w.heap.size (.cell b j) x v):aY (C1.back C) (oK ω ω1 w.heap.size) w' w0.heap.size (.cell b j) x v:=by
 unfold aY at *;split at ho
 .rename_i ad len cap;obtain⟨g1,g2,g3⟩:=ho;rw[hW]at g2;refine⟨?_,?_,g3⟩
  .unfold oK;split
   .rename_i s aW G;have aW:=of_decide_eq_true aW;rcases g2 with g2|⟨⟨b',j',g2⟩,_⟩
    .omega
    .rw[G]at g2;cases g2
   .simp[tr,g1]
  .rcases g2 with g2|⟨_,g2⟩
   .exact .inl (Lz m.size g2)
   .exact g2
 .rename_i ad;obtain⟨g1,g2,g3⟩:=ho;rw[hW]at g2;refine⟨?_,?_,g3⟩
  .unfold oK;split
   .rename_i s aW G;have aW:=of_decide_eq_true aW;rcases g2 with g2|⟨⟨b',j',g2⟩,_⟩
    .omega
    .rw[G]at g2;cases g2
   .simp[tr,g1]
  .rcases g2 with g2|⟨_,g2⟩
   .exact .inl (Lz m.size g2)
   .exact g2
 .trivial
include m e in
theorem qxa (m1:aA P C1 ω1 w (C.shared ω w0) Y w')(hle:(C.shared ω w0).le C1):
  aA P (C1.back C) (oK ω ω1 w.heap.size) w0 C0 Y w'/\ar (C1.back C) (oK ω ω1 w.heap.size) w' w0.heap.size env tmps:=by
 have hsh:∀r,r<w0.heap.size->¬C0.W r->¬(C.shared ω w0).W r:=fun r Q hw h=>by
  rcases h.2 with h|h
  .omega
  .rw[m.grown.w]at h;exact hw h
 constructor
 .refine { base:=m.base,know:=m1.know,dr:=m1.dr,apart:=m1.apart,inj:=m1.inj,lt:=m1.lt,size:=Lz m.size m1.size,frame:=?_,fJ:=m1.fJ,os:=m1.os.trans m.os,output:=m1.output.trans m.output,fresh:=?_,grown:=aV.le_trans m.grown (Og hle),old:=?_,box:=?_,jD:=m1.jD }
  .intro r Q hn hw
   have kH:∀b,C.β b≠En r:=fun b hb=>by
    rcases m.fresh b r hb with h|h|h
    .exact hn b h
    .omega
    .exact hw h
   rw[m1.frame r (Uu Q m.size) kH (hsh r Q hw)];exact m.frame r Q hn hw
  .intro b r hb;rcases m1.fresh b r hb with h|h|h
   .exact m.fresh b r h
   .exact .inr (.inl (Lz m.size h))
   .exact .inr (h.2.imp id (fun h=>by rw[<-m.grown.w];exact h))
  .intro r o Q hw;show C1.K r o=_;rw[m1.old r o (Uu Q m.size) (hsh r Q hw)];exact m.old r o Q hw
  .intro b x r M hb;exact bR.imp (C:=C1) (C':=C1.back C) ⟨fun _ _ _ h=>h,fun _ _ h=>h⟩ rfl (fun _ _ _ ho=>ho.tv m hle.w) (m1.box b x r M hb)
 .exact fun s x G=>let ⟨v,k1,k2,k3⟩:=e s x G; ⟨v,k1,aO.mono (Og hle) k2,fun h=>(k3 h).tu m1⟩
theorem bW.back {x v}(h:bW C1 x v):bW (C1.back C) x v:=aO.imp (C:=C1) (C':=C1.back C) ⟨fun _ _ _ h=>h,fun _ _ h=>h⟩ h
include m e in
theorem qw0 (m1:aA P C1 ω1 w (C.shared ω w0) Y w')(hle:(C.shared ω w0).le C1){v ow u}(Q:bW C1 v u)(ho:ow=H2->aY C1 ω1 w' w.heap.size (.slot 0) v u):
  zn P C0 w0 C tmps d env ⟨v,ow,Ig,qz hp.length v Y⟩ u w':=by
 have hC:∀b r,C.β b=En r->b<hp.length:=fun b r h=>(m.lt b r h).2;have cY:=Og hle;have lh:bW (C1.back C) v u:=Q.back
 -- the result's ownership first
 have step:∃ω',aA P (C1.back C) ω' w0 C0 Y w'/\ar (C1.back C) ω' w' w0.heap.size env tmps/\(ow=H2->aY (C1.back C) ω' w' w0.heap.size d v u):=by
  obtain⟨m2,e2⟩:=qxa m e m1 hle
  cases ow with
  |false=>exact⟨_,m2,e2,by simp⟩
  |true=>
   by_cases hk:∃(n:Bool) (sz:Nat) (xs:List AVal) (ad:Addr) (len cap:Nat),v=.list n sz xs/\u=.slice (En ad) len cap
   .obtain⟨n,sz,xs,ad,len,cap,rfl,rfl⟩:=hk;obtain⟨g1,g2,g3,g4⟩:=ho rfl;rw[hle.w]at g2
    have jN:oK ω ω1 w.heap.size ad.block=Ig:=by
     unfold oK;split
     .rename_i s aW G;have aW:=of_decide_eq_true aW;rcases g2 with g2|⟨⟨b',j',g2⟩,_⟩
      .omega
      .rw[G]at g2;cases g2
     .simp[tr,g1]
    refine⟨cS (oK ω ω1 w.heap.size) ad.block d,m2.cS _ _ (by simp[jN]),?_,fun _=>?_⟩
    .exact fun s x G=>let ⟨v,k1,k2,k3⟩:=e2 s x G; ⟨v,k1,k2,fun h=>(k3 h).other (.inl (by simp[jN]))⟩
    .refine⟨by simp[cS],?_,g3,g4⟩;rcases g2 with g2|⟨_,g2⟩
     .exact .inl (Lz m.size g2)
     .exact g2
   by_cases dB:∃(n:Nat) (ad:Addr),v=.db n/\u=.pointer (En ad)
   .obtain⟨n,ad,rfl,rfl⟩:=dB;obtain⟨g1,g2,g3,g4⟩:=ho rfl;rw[hle.w]at g2
    have jN:oK ω ω1 w.heap.size ad.block=Ig:=by
     unfold oK;split
     .rename_i s aW G;have aW:=of_decide_eq_true aW;rcases g2 with g2|⟨⟨b',j',g2⟩,_⟩
      .omega
      .rw[G]at g2;cases g2
     .simp[tr,g1]
    refine⟨cS (oK ω ω1 w.heap.size) ad.block d,m2.cS _ _ (by simp[jN]),?_,fun _=>?_⟩
    .exact fun s x G=>let ⟨v,k1,k2,k3⟩:=e2 s x G; ⟨v,k1,k2,fun h=>(k3 h).other (.inl (by simp[jN]))⟩
    .refine⟨by simp[cS],?_,g3,g4⟩;rcases g2 with g2|⟨_,g2⟩
     .exact .inl (Lz m.size g2)
     .exact g2
   .refine⟨_,m2,e2,fun h=>?_⟩;unfold aY;split
    .exact absurd ⟨_,_,_,_,_,_,rfl,rfl⟩ hk
    .exact absurd ⟨_,_,rfl,rfl⟩ dB
    .trivial
 obtain⟨ω',m2,e2,o2⟩:=step;unfold qz
 cases hb:J2 Y.length hp.length with
 |true=>simp only[cond_true];exact⟨_,ω',cY,m2,e2,lh,o2⟩
 |false=>
  simp only[cond_false]
  cases nU:(below hp.length v&&qt hp.length (Y.take hp.length))with
  |false=>simp only[cond_false];exact⟨_,ω',cY,m2,e2,lh,o2⟩
  |true=>
   simp only[cond_true];simp only[Hc]at nU
   have aW:hp.length<=Y.length:=by
    rcases Nat.lt_or_ge hp.length Y.length with h|h
    .omega
    .rw[Eap h]at hb;cases hb
   have h0:∀b r,C0.β b=En r->b<hp.length:=fun b r h=>hC b r (m.grown.2 b r h);have m3:=m2.gc aW nU.2 h0;refine⟨(C1.back C).cut hp.length,ω',aV.jM cY hC,m3,?_,bW.cut lh nU.1,fun h=>(o2 h).cut _⟩;intro s x G;obtain⟨y,k1,k2,k3⟩:=e s x G;obtain⟨y',j1,j2,j3⟩:=e2 s x G;rw[k1]at j1;cases j1;exact⟨y,k1,aO.mono (aV.jM cY hC) k2,fun h=>(j3 h).cut _⟩
theorem bC.fR {e}(h:bC C e tmps):ar C ω w B (fR e) tmps:=by
 intro s x M
 have key:∀ {e:Env} {x:AVal×Bool},jp s (Abs.fR e)=En x->∃o,jp s e=En (x.1,o)/\x.2=Ir:=by
  intro e
  induction e with
  |nil=>intro x h;simp[Abs.fR,jp]at h
  |cons y e ih=>
   intro x h;obtain⟨t,v,o⟩:=y;simp only[Abs.fR,Eaj,jp]at h ⊢
   cases hb:Ix t s with
   |true=>simp only[hb,cond_true,En.injEq]at h ⊢;subst h;exact⟨o,rfl,rfl⟩|false=>simp only[hb,cond_false]at h ⊢;exact ih h
 obtain⟨o,Y,I⟩:=key M;obtain⟨v,h3,h4⟩:=h s _ Y;exact⟨v,h3,h4,by simp[I]⟩
theorem qw5:∀ {ts:List Nat} {vs:List AVal} {us:List Value} {e e':Env} {tmps:Array Value},wQ e ts vs=En e'->bq C vs us->(∀t∈ts,t<tmps.size)->ar C ω w B e tmps ->
  ts.length=us.length/\((ts.zip us).foldl (fun(tmps:Array Value) (x:Nat×Value)=>tmps.setIfInBounds x.1 x.2) tmps).size=tmps.size/\ar C ω w B e' ((ts.zip us).foldl (fun(tmps:Array Value) (x:Nat×Value)=>tmps.setIfInBounds x.1 x.2) tmps)
 | [],[],us,e,e',tmps,h,Q,_,he=>by
  simp only[wQ,En.injEq]at h;subst h;cases Q;exact⟨rfl,rfl,he⟩
 |t::ts,v::vs,us,e,e',tmps,h,Q,hf,he=>by
  simp only[wQ]at h
  cases Q with
  |cons _ _ u us hu Q=>
   have Oh:ar C ω w B ((t,v,Ir)::e) (tmps.setIfInBounds t u):=by
    intro s x M;simp only[jp]at M
    cases hb:Ix t s with
    |true=>
     have:=Hq hb;subst this;simp only[hb,cond_true,En.injEq]at M;subst M;exact⟨u,by simp[hf t (by simp)],hu,by simp⟩
    |false=>
     simp only[hb,cond_false]at M;obtain⟨y,Y,I,h3⟩:=he s x M;refine⟨y,?_,I,h3⟩;rw[Uk (fun hh=>by subst hh;simp at hb)];exact Y
   have ih:=qw5 h Q (tmps:=tmps.setIfInBounds t u) (fun t' Iu=>by simpa using hf t' (by simp[Iu])) Oh;refine⟨by simp[ih.1],?_,?_⟩
   .simp only[Eax,Ebl];rw[ih.2.1];simp
   .simp only[Eax,Ebl];exact ih.2.2
 | [],_::_,_,_,_,_,h,_,_,_=>by simp[wQ]at h
 |_::_,[],_,_,_,_,h,_,_,_=>by simp[wQ]at h
theorem Oi {b r l}(m:aA P C ω w0 C0 hp w)(hb:zh hp b=En (.loop l))(Q:C.β b=En r):∃lp,w.heap[r]?=En (.loop lp)/\cG P C l lp:=
 m.box b _ r hb Q
theorem Jh {b r l' lp Bp}(m:aA P C ω w0 C0 hp w)(Q:C.β b=En r)(hg:w.heap[r]?=En (.loop lp))(hl:cG P C l' Bp):
  (setObj r (.loop Bp)).run P w=.ok () (kh w r (.loop Bp))/\oG w (kh w r (.loop Bp)) r/\aA P C ω w0 C0 (hp.set b (.loop l')) (kh w r (.loop Bp)):=by
 have aW:=(Ij.1 hg).1;have hu:oG w (kh w r (.loop Bp)) r:=FT aW (by simp);exact⟨yV hg (by simp),hu,m.dY hu Q _ (fun _ _ _ _ _ h=>h) ⟨Bp,IP aW,hl⟩⟩
theorem jlv (M:cL P xc)(m:aA P C ω w0 C0 hp w)(e:ar C ω w w0.heap.size env tmps){b r}(Q:C.β b=En r){args us}(ha:bq C args us){v h'}(hy:lG xc b args hp=En (v,h')):
  ∃f pG assign body,(Instr.yield r ⟨us⟩).run P w=.ok (.round r f pG assign body) w/\RoundIn Fence.wide 0 P r f pG assign body w fun ee w'=>∃u,ee=.returned u/\zn P C0 w0 C tmps d env ⟨v,Ir,Ig,h'⟩ u w':=by
 unfold lG at hy;split at hy
 .rename_i l hl;split at hy
  .rename_i e0 hpend bO;obtain⟨lp,hg,lr⟩:=Oi m hl Q;have ms:=Vd m;have iD:bq (C.shared ω w0) args us:=aO.imp (C:=C) (C':=C.shared ω w0) ⟨fun _ _ _ h=>h,fun _ _ h=>h⟩ ha;have hel:ar (C.shared ω w0) (tr ω) w w.heap.size (fR l.env) lp.tmps:=bC.fR (fun s x G=>let ⟨v,Y,I⟩:=lr.env s x G; ⟨v,Y,aO.imp (C:=C) (C':=C.shared ω w0) ⟨fun _ _ _ h=>h,fun _ _ h=>h⟩ I⟩);obtain⟨hlen,dj,he0⟩:=qw5 bO iD lr.fits hel
   have sV:(lp.params.zip (⟨us⟩:Array Value)).foldl (fun(tmps:Array Value) (x:Nat×Value)=>tmps.setIfInBounds x.1 x.2) lp.tmps=(l.params.zip us).foldl (fun(tmps:Array Value) (x:Nat×Value)=>tmps.setIfInBounds x.1 x.2) lp.tmps:=by
    rw[<-Array.foldl_toList,Array.toList_zip,lr.params]
   have Ve:lp.params.size=us.length:=by rw[<-Eav,lr.params];exact hlen
   refine⟨lp.fn,(l.params.zip us).foldl (fun(tmps:Array Value) (x:Nat×Value)=>tmps.setIfInBounds x.1 x.2) lp.tmps,lp.assign,lp.body,?_,?_⟩
   .have Bq:(Instr.getLoop r).run P w=.ok lp w:=by simp[Instr.getLoop,rU hg (by simp)]
    have bN:¬((⟨us⟩:Array Value).size≠lp.params.size):=by simp[Ve]
    simp only[Instr.yield,Sem.run_bind,Bq,Result.andThen_ok,bN,if_false,Sem.run_pure,Sem.run_ite];rw[show((lp.params.zip (⟨us⟩:Array Value)).foldl (fun tmps (x:Nat×Value)=>match x with|(t,a)=>tmps.setIfInBounds t a) lp.tmps)=_ from sV]
   .refine roundIn_of_wpIn trivial ?_;split at hy
    .rename_i st cw;split at hy
     .rename_i l1 eu
      cases ll:l1.pending.isNone with
      |false=>simp[ll]at hy
      |true=>
       simp only[ll,cond_true]at hy
       have Ji:l1.pending=Ig:=by simpa using ll
       split at hy
       .rename_i x bH iQ;split at hy
        .rename_i l2 eA;cases hy;refine wpIn_mono (M (En r) lp.tmps.size lp.assign l.assign _ _ _ lr.assign (fun _=>lr.nr.1) cw (C.shared ω w0) (tr ω) w (C.shared ω w0) { tmps:=_,defers:=[] } w ms he0 dj Marks.nil) ?_;rintro ee J w1 ⟨rfl,q1,C1,ω1,q2,q3,q4,q5⟩;have ij:=q2.b b r Q;obtain⟨Oj,hg1,Vf⟩:=Oi q4 eu ij
         have yY:Oj.state=.ready:=by rw[Vf.state,Ji]
         have Vg:cG P C1 { l1 with pending:=En .normal } { Oj with state:=.busy }:={ Vf with state:=rfl,pending:=by rw[Vf.pending,Ji] };obtain⟨Jj,II,m1⟩:=Jh q4 ij hg1 Vg
         have jG:(Instr.beginRound r).run P w1=.ok () (kh w1 r (.loop { Oj with state:=.busy })):=by
          have Bq:(Instr.getLoop r).run P w1=.ok Oj w1:=by simp[Instr.getLoop,rU hg1 (by simp)]
          simp only[Instr.beginRound,Sem.run_bind,Bq,Result.andThen_ok,Jj,yY,Sem.run_pure]
         refine⟨_,jG,?_⟩;refine wpIn_mono (M (En r) lp.tmps.size lp.body l.body _ _ _ lr.body (fun _=>lr.nr.2) iQ C1 ω1 w (C.shared ω w0) J _ m1 (q5.dP II ij) q1 q3) ?_;rintro ee a2 w2 ⟨rfl,p1,C2,ω2,p2,p3,p4,p5⟩;have tw:=p2.b b r ij;obtain⟨nq,tz,vz⟩:=Oi p4 eA tw
         have Br:(Instr.getLoop r).run P w2=.ok nq w2:=by simp[Instr.getLoop,rU tz (by simp)]
         have fin:∀(Vh:LoopState) (pd:Option Code) (ap:Option q9) (bb:Bool),cG P C2 { l2 with pending:=ap } { nq with state:=Vh,pending:=pd } ->
           zn P C0 w0 C tmps d env ⟨.bool bb,Ir,Ig,qz hp.length (.bool H2) (bH.heap.set b (.loop { l2 with pending:=ap }))⟩ (.bool bb) (kh w2 r (.loop { nq with state:=Vh,pending:=pd })):=by
          intro Vh pd ap bb vA;obtain⟨lq,hu2,m2⟩:=Jh p4 tw tz vA;have:=qw0 (d:=d) (v:=.bool bb) (ow:=false) (u:=.bool bb) m e m2 (aV.le_trans q2 p2) (.bool bb) (by simp);exact this
         cases x with
         |normal=>
          have vA:cG P C2 { l2 with pending:=Ig } { nq with state:=.ready,pending:=Ig }:={ vz with state:=rfl,pending:=rfl };obtain⟨lq,_,_⟩:=Jh p4 tw tz vA;exact⟨.bool H2,_,by simp only[Instr.endRound,Sem.run_bind,Br,Result.andThen_ok,Option.isNone_none,if_true,lq,Sem.run_pure],_,rfl,fin _ _ _ H2 vA⟩
         |ret=>
          have vA:cG P C2 { l2 with pending:=En .ret } { nq with state:=.done,pending:=En .ret }:={ vz with state:=rfl,pending:=rfl };obtain⟨lq,_,_⟩:=Jh p4 tw tz vA;exact⟨.bool Ir,_,by simp only[Instr.endRound,Sem.run_bind,Br,Result.andThen_ok,Eay,J1,if_false,lq,Sem.run_pure],_,rfl,fin _ _ _ Ir vA⟩
         |exit id=>
          have vA:cG P C2 { l2 with pending:=En (.exit id) } { nq with state:=.done,pending:=En (.exit id) }:={ vz with state:=rfl,pending:=rfl };obtain⟨lq,_,_⟩:=Jh p4 tw tz vA;exact⟨.bool Ir,_,by simp only[Instr.endRound,Sem.run_bind,Br,Result.andThen_ok,Eay,J1,if_false,lq,Sem.run_pure],_,rfl,fin _ _ _ Ir vA⟩
        .cases hy
       .cases hy
     .cases hy
    .cases hy
  .cases hy
 .cases hy
theorem jpd {h md r h0 dst al cP res}(eV:b8 P p)(M:cL P xc)(m:aA P C ω w0 C0 hp w)(e:ar C ω w w0.heap.size env a.tmps){c}(ho:o.op=.call c){f}(qJ:c.callee=.value f)
  (hc:AW P h md r dst c=En cP) (G:qf p xc h0 al env hp cP=En res):yj P C C0 w0 a d env o w res:=by
 unfold AW at hc;rw[qJ]at hc;simp only[]at hc;split at hc
 .rename_i f' args' Y I;cases hc;generalize md.at r=md at G;simp only[qf,yh]at G;split at G
  .rename_i k first captured vs e1 e2
   have vB:=qu e.cy Y e1;have Vi:=FL e.cy I e2;generalize eO:a.eval f=fv at vB
   cases vB with
   |fn g g' _ _ as bs hf ha hb=>
    simp only[fV]at hf;subst hf;have hall:bq C (first++vs++captured) (as++c.args.toList.map a.eval++bs):=bq.append (bq.append ha Vi) hb
    have jO:Enters P k->(execOp a.eval o).run P w=.ok (.enter k ⟨as++c.args.toList.map a.eval++bs⟩) w:=by
     intro np
     have eH:(⟨as⟩:Array Value)++Array.map a.eval c.args++(⟨bs⟩:Array Value)=⟨as++c.args.toList.map a.eval++bs⟩:=by
      apply R2;simp
     simp[execOp,ho,resolve,qJ,eO,Deferred.ofValue,invoke,eH,qt5 np]
    cases md with
    |fI rk=>
     simp only[]at G
     cases vo:(first++vs++captured).isEmpty with
     |false=>
      rw[vo]at G;simp only[cond_false]at G
      cases mJ:qp 0 (first++vs++captured)with
      |false=>rw[mJ]at G;cases G
      |true=>
       rw[mJ]at G;simp only[cond_true]at G;split at G
       .rename_i v ow xf;obtain⟨np,ln,tA⟩:=Oc eV M xf mJ
        have nu:bq (.cf C.K) (first++vs++captured) (as++c.args.toList.map a.eval++bs):=
         aO.shift (C:=C) (C':=.cf C.K) 0 (fun _ _ _ h=>h) (fun b r aW=>by omega) hall mJ
        refine .inr (.inr (.inl ⟨k,_,jO np,CallsIn.mono (tA C.K w _ m.tabs m.know m.dr nu) ?_⟩));rintro ee w' ⟨u,K',rfl,q1,q2,q3,q4,q5,q6,q7⟩;exact⟨u,rfl,jk0 m e q1 q2 q3 q4 q5 q6 q7 G⟩
       .cases G
     |true=>
      rw[vo]at G;simp only[cond_true]at G;split at G
      .rename_i es hm;split at G
       .rename_i h' hn;obtain rfl:=qy G;obtain⟨hh,rfl⟩:=yz hn;obtain⟨np,nc⟩:=eV.maps k es hm
        have lK:as++c.args.toList.map a.eval++bs=[]:=by
         have Y:first++vs++captured=[]:=Eam.1 vo
         have I:=hall.length;rw[Y]at I;exact List.eq_nil_of_length_eq_zero I
        refine .inr (.inr (.inl ⟨k,_,jO np,?_⟩));rw[lK];refine CallsIn.mono (nc C.K w m.tabs m.know m.dr) ?_;rintro ee w' ⟨q,K',cr,clock,rfl,q1,q2,q3,q4,q5,q6,q7,q8⟩;exact⟨_,rfl,jpo m e q1 q2 q3 q4 q5 hh q6 q7 q8⟩
       .cases G
      .cases G
    |cf=>
     simp only[]at G
     cases vo:qp 0 (first++vs++captured)with
     |false=>rw[vo]at G;cases G
     |true=>
      rw[vo]at G;simp only[cond_true]at G;split at G
      .rename_i v ow xf;cases G;obtain⟨np,ln,tA⟩:=Oc eV M xf vo
       have nu:bq (.cf C.K) (first++vs++captured) (as++c.args.toList.map a.eval++bs):=
        aO.shift (C:=C) (C':=.cf C.K) 0 (fun _ _ _ h=>h) (fun b r aW=>by omega) hall vo
       refine .inr (.inr (.inl ⟨k,_,jO np,CallsIn.mono (tA C.K w _ m.tabs m.know m.dr nu) ?_⟩));rintro ee w' ⟨u,K',rfl,q1,q2,q3,q4,q5,q6,q7⟩;exact⟨u,rfl,q81 m e q1 q2 q3 q4 q5 ln q6 q7⟩
      .cases G
    |red=>
     simp only[]at G;split at G
     .rename_i xs FW
      cases mJ:qp 0 xs with
      |false=>rw[mJ]at G;cases G
      |true=>
       rw[mJ]at G;simp only[cond_true]at G;split at G
       .rename_i v ow xf;split at G
        .rename_i v' Jg hrd;cases G;obtain⟨np,ln,tA⟩:=Oc eV M xf mJ;refine .inr (.inr (.inl ⟨k,_,jO np,CallsIn.mono (tA (zt C hp w) w _ m.tabs (fun r o u h=>(Ob m h).1) (fun r o u h=>(Ob m h).2) (qw2 m FW hall mJ)) ?_⟩));rintro ee w' ⟨u,K',rfl,q1,q2,q3,q4,q5,q6,q7⟩;exact⟨u,rfl,jnh m e q1 q2 q3 q4 q5 q6 q7 hrd⟩
        .cases G
       .cases G
     .cases G
    |shr=>
     simp only[]at G;split at G
     .rename_i v ow h' I9;cases G
      .obtain⟨np,oI⟩:=I8 eV M I9;have nu:bq (C.shared ω w0) (first++vs++captured) (as++c.args.toList.map a.eval++bs):=aO.imp (C:=C) (C':=C.shared ω w0) ⟨fun _ _ _ h=>h,fun _ _ h=>h⟩ hall;refine .inr (.inr (.inl ⟨k,_,jO np,CallsIn.mono (oI _ _ _ _ nu (Vd m)) ?_⟩));rintro ee w' ⟨u,C',ω',rfl,q1,q2,q3,q4⟩;exact⟨u,rfl,qw0 m e q2 q1 q3 q4⟩
     .cases G
  .rename_i b vs e1 e2;have vB:=qu e.cy Y e1;have Vi:=FL e.cy I e2;generalize eO:a.eval f=fv at vB
   cases md with
   |cf=>simp at G|fI _=>simp at G|red=>simp at G
   |shr=>
    simp only[]at G;split at G
    .rename_i v h' hy;obtain rfl:=qy G
     cases vB with
     |fn g g' _ _ as bs hf ha hb=>
      obtain⟨q,qL,rfl⟩:=hf;cases ha;cases hb;obtain⟨ff,pG,assign,body,k1,k2⟩:=jlv (d:=d) M m e qL Vi hy;refine .inr (.inr (.inr ⟨q,ff,pG,assign,body,?_,k2⟩))
      have eH:Array.map a.eval c.args=⟨c.args.toList.map a.eval⟩:=by
       apply R2;simp
      rw[<-eH]at k1;simp[execOp,ho,resolve,qJ,eO,Deferred.ofValue,invoke,k1]
    .cases G
  .cases G
 .cases hc
theorem jxf {h md r h0 dst al cP res}(eV:b8 P p)(M:cL P xc)(m:aA P C ω w0 C0 hp w)(e:ar C ω w w0.heap.size env a.tmps)
  (oH:cP.iK=Ig) (hc:cW P h md r dst o.op=En cP) (G:qf p xc h0 al env hp cP=En res):yj P C C0 w0 a d env o w res:=by
 cases ho:o.op<;>rw[ho]at hc
 case move x=>exact jmm m e ho hc G
 case assign x=>exact je6 m e ho hc G
 case pick=>exact jm3 m e ho hc G
 case alloc=>exact jjp m e ho hc G
 case box=>exact jt0 m e ho hc G
 case build=>exact jjh m e ho hc G
 case buildSlice=>exact q3n m e ho hc G
 case load=>exact jp9 m e ho hc G
 case store=>exact jik m e ho oH hc G
 case nilCheck=>exact q7y m e ho hc G
 case binOp=>exact jtp m e ho hc G
 case unOp=>exact j1a m e ho hc G
 case convert=>exact jmy m e ho hc G
 case makeFunc=>exact jai m e ho hc G
 case makeMap=>exact jbb m e ho hc G
 case makeSlice=>exact q5s m e ho hc G
 case slice=>exact jif m e ho hc G
 case fieldAddr=>exact q51 m e ho hc G
 case field=>exact jko m e ho hc G
 case indexAddr=>exact q5p m e ho hc G
 case index=>exact jh4 m e ho hc G
 case range=>exact jhz m e ho hc G
 case extract=>exact jbd m e ho hc G
 case call c=>
  have eg:AW P h md r dst c=En cP:=hc;by_cases hv:∃f,c.callee=.value f
  .obtain⟨f,hf⟩:=hv;exact jpd eV M m e ho hf eg G
  .exact jbk m e ho (fun f hf=>hv ⟨f,hf⟩) eg G
 case lookup=>exact jgz m e ho hc G
 case mapUpdate=>exact qse m e (.inl ho) hc G
 case insert t x y z=>exact qse (h:=h) (md:=md) (r:=r) (dst:=dst) m e (.inr ho) (show cW P h md r dst (.mapUpdate t x y z)=En cP from hc) G
 case next it b=>exact jo6 m e ho hc G
 all_goals (simp[cW]at hc;done)
end
section
variable {p:j8}{xc:XC}{h0:Nat}{al:ak Nat}
def Agree (l:List Nat)(e e':Env):Prop:=∀s∈l,jp s e=jp s e'
theorem Agree.app {l l' e e'}(h:Agree (l++l') e e'):Agree l e e'/\Agree l' e e':=
 ⟨fun s G=>h s (Eas _ G),fun s G=>h s (Eaq _ G)⟩
theorem qq {e e' x}(h:Agree (zg x) e e'):qi e x=qi e' x:=by
 cases x with
 |tmp t=>simp only[qi,h t (by simp[zg])]|const v=>rfl
theorem FY {e e'}:∀ {l:List jw},Agree (yM l) e e'->hH e l=hH e' l
 | [],_=>rfl
 |x::l,h=>by
  have h':Agree (zg x++yM l) e e':=by simpa[yM]using h
  simp only[hH,qq h'.app.1,FY h'.app.2]
theorem FZ {e e' x}(d n:Nat)(h:Agree (AY x) e e'):fS e d n x=fS e' d n x:=by
 cases x with
 |none=>rfl|some x=>simp only[fS,qq (x:=x) h]
theorem Vj {e e' x}(h:Agree (zg x) e e'):zu e x=zu e' x:=by
 cases x with
 |tmp t=>simp only[zu,h t (by simp[zg])]|const v=>rfl
theorem qn0 {e e'}:∀ {l:List (Nat×Nat×jw)},Agree (l.flatMap fun p=>zg p.2.2) e e'->kp e l=kp e' l
 | [],_=>rfl
 |(i,n,x)::l,h=>by
  have h':Agree (zg x++l.flatMap fun p=>zg p.2.2) e e':=by simpa using h
  simp only[kp,qq h'.app.1,qn0 h'.app.2]
theorem Vk {e e' sz}:∀ {l:List (Nat×jw)},Agree (l.flatMap fun p=>zg p.2) e e'->yf e sz l=yf e' sz l
 | [],_=>rfl
 |(i,x)::l,h=>by
  have h':Agree (zg x++l.flatMap fun p=>zg p.2) e e':=by simpa using h
  simp only[yf,qq h'.app.1,Vk h'.app.2]
theorem q8w {e e' h op}(ha:Agree op.reads e e'):qf p xc h0 al e h op=qf p xc h0 al e' h op:=by
 cases op with
 |move x=>simp only[qf,qm,qq (x:=x) ha]|take s=>simp only[qf,qm,ha s (by simp[cI.reads])]|pick c x y=>simp only[cI.reads]at ha;simp only[qf,qm,qq ha.app.1.app.1,qq ha.app.1.app.2,qq ha.app.2]|build z ps=>simp only[qf,qm,qn0 (l:=ps) ha]|buildSlice sz n z ps=>simp only[qf,qm,Vk (l:=ps) ha]|nilCheck x=>simp only[qf,qm,qq (x:=x) ha]|gY n=>rfl
 |dv n s x=>
  simp only[cI.reads]at ha;have Y:jp s e=jp s e':=ha s (by simp);have I:Agree (zg x) e e':=fun t ht=>ha t (by simp[ht]);simp only[qf,qm,Y,qq I]
 |lF n x=>simp only[qf,qm,qq (x:=x) ha]|fb ag n x=>simp only[qf,qm,qq (x:=x) ha]|bin op x y=>simp only[cI.reads]at ha;simp only[qf,qm,qq ha.app.1,qq ha.app.2]|eqs ks n x y=>simp only[cI.reads]at ha;simp only[qf,qm,qq ha.app.1,qq ha.app.2]|beq n x y=>simp only[cI.reads]at ha;simp only[qf,qm,qq ha.app.1,qq ha.app.2]|fP k n x=>simp only[qf,qm,qq (x:=x) ha]|un op x=>simp only[qf,qm,qq (x:=x) ha]|conv k x=>simp only[qf,qm,qq (x:=x) ha]|eL x=>simp only[qf,qm,qq (x:=x) ha]|gE x=>simp only[qf,qm,qq (x:=x) ha]|field ag off n x=>simp only[qf,qm,qq (x:=x) ha]|index ag l n x i=>simp only[cI.reads]at ha;simp only[qf,qm,qq ha.app.1,qq ha.app.2]|dM x i=>simp only[cI.reads]at ha;simp only[qf,qm,qq ha.app.1,qq ha.app.2]|fieldAddr ag off n x=>simp only[qf,qm,qq (x:=x) ha]|indexAddr sz x i=>simp only[cI.reads]at ha;simp only[qf,qm,qq ha.app.1,qq ha.app.2]|fc ag l sz x i=>simp only[cI.reads]at ha;simp only[qf,qm,qq ha.app.1,qq ha.app.2]|slice sz x lo hi=>simp only[cI.reads]at ha;simp only[qf,qm,qq ha.app.1.app.1,FZ _ _ ha.app.1.app.2,FZ _ _ ha.app.2]|dN x lo hi=>simp only[cI.reads]at ha;simp only[qf,qm,qq ha.app.1.app.1,FZ _ _ ha.app.1.app.2,FZ _ _ ha.app.2]|gF l sz x lo hi=>simp only[cI.reads]at ha;simp only[qf,qm,qq ha.app.1.app.1,FZ _ _ ha.app.1.app.2,FZ _ _ ha.app.2]|fe f x y=>simp only[cI.reads]at ha;simp only[qf,qm,FY ha.app.1,FY ha.app.2]|len k x=>simp only[qf,qm,qq (x:=x) ha]
 |append r sz b x y=>
  simp only[cI.reads]at ha
  cases r with
  |none=>simp only[qf,qm,qq ha.app.1,qq ha.app.2,Vj ha.app.1]|some r=>simp only[qf,qo,qq ha.app.1,qq ha.app.2,Vj ha.app.1]
 |gZ r sz b x y=>simp only[cI.reads]at ha;simp only[qf,qo,qq ha.app.1,qq ha.app.2]|gG r sz n z ps=>simp only[qf,qo,Vk (l:=ps) ha]
 |cj r sz b z n c=>
  simp only[cI.reads]at ha
  cases r with
  |none=>simp only[qf,qm,qq ha.app.1,qq ha.app.2]|some r=>simp only[qf,qo,qq ha.app.1,qq ha.app.2]
 |mx l=>simp only[qf,qm,FY (l:=l) ha]|mn l=>simp only[qf,qm,FY (l:=l) ha]|extract x i=>simp only[qf,qm,qq (x:=x) ha]|load ag n x=>simp only[qf,yo,qq (x:=x) ha]|alloc r z=>rfl|gD r t e=>rfl|box r n x=>simp only[qf,qo,qq (x:=x) ha]|cz off x=>simp only[qf,qo,qq (x:=x) ha]|store n x y=>simp only[cI.reads]at ha;simp only[qf,qo,qq ha.app.1,qq ha.app.2,Vj ha.app.2]|eU r=>rfl|dF r x=>simp only[qf,qo,qq (x:=x) ha]|call md f l=>simp only[cI.reads]at ha;simp only[qf,yh,qq ha.app.1,FY ha.app.2]|lookup kd z ok x y=>simp only[cI.reads]at ha;simp only[qf,yo,qq ha.app.1,qq ha.app.2]|mapUpdate kd x y z=>simp only[cI.reads]at ha;simp only[qf,qo,qq ha.app.1.app.1,qq ha.app.1.app.2,qq ha.app.2]|delete kd x y=>simp only[cI.reads]at ha;simp only[qf,qo,qq ha.app.1,qq ha.app.2]|copy sz x y=>simp only[cI.reads]at ha;simp only[qf,qo,qq ha.app.1,qq ha.app.2]|fQ x=>simp only[qf,qo,qq (x:=x) ha]|bad=>rfl
def bA.at (r:bA)(h:qh):bA:={ r with heap:=h }
theorem nW {h h' x r}(G:val h x=En r):r.heap=h/\val h' x=En (r.at h'):=by
 simp only[val,En.injEq]at G;subst G;exact⟨rfl,rfl⟩
theorem jmf (h:qh)(x:Option AVal):hJ h x=(hJ [] x).map (·.at h):=by cases x<;>rfl
theorem Vl {α β:Type}(c:Bool)(x y:Option α)(f:α->β):(bif c then x else y).map f=bif c then x.map f else y.map f:=by cases c<;>rfl
theorem qsl (e:Env)(h:qh)(op:cI):qm e h op=(qm e [] op).map (·.at h):=by
 cases op with
 |append r sz b x y=>
  cases r with
  |some r=>rfl
  |none=>
   simp only[qm]
   repeat' split
   all_goals first
    |rfl
    |(simp only[Vl];repeat' split)<;>rfl
 |cj r sz b z n c=>
  cases r with
  |some r=>rfl
  |none=>
   simp only[qm]
   repeat' split
   all_goals first
    |rfl
    |(simp only[Vl];rfl)
 |_=>
  simp only[qm]
  repeat' split
  all_goals first
   |rfl
   |exact jmf _ _
   |(simp only[Vl];first|rfl|(repeat' split)<;>rfl)
theorem qw1 {e h}(h':qh){op r}(G:qm e h op=En r):r.heap=h/\qm e h' op=En (r.at h'):=by
 rw[qsl]at G;obtain⟨r0,Y,rfl⟩:=Ii.1 G;refine⟨rfl,?_⟩;rw[qsl,Y];rfl
end
section
variable {p:j8}{xc:XC}{h0:Nat}{al:ak Nat}
def nV:Option aM->Bool
 |some (.vec ..)=>Ir|some .hole=>Ir|_=>H2
theorem Jk {h b cs}(hc:qv h b=En cs):nV h[b]?=H2:=by
 unfold qv at hc;split at hc
 .rename_i Y;rw[Y];rfl
 .cases hc
theorem F0 {h b x}(hb:zh h b=En x)(M:nV (En x)=H2):nV h[b]?=H2:=by
 unfold zh at hb;rw[hb];exact M
def Vm:aM->Option Nat
 | .vec sz _ _=>En sz|_=>Ig
def HB (h0:Nat)(al:ak Nat)(F:qh->Option bA)(h:qh)(r:bA):AZ->Nat->Prop
 | .pure,_=>r.heap=h/\∀h',F h'=En (r.at h')| .read,_=>r.heap=h/\∀h':qh,(∀b,ze h0 al b=H2->(qF al=H2->nV h[b]?=H2)->h'[b]?=h[b]?)->F h'=En (r.at h')| .alloc,k=>∃x,aQ h0 h k x=En r.heap/\∀h' h3,aQ h0 h' k x=En h3->F h'=En (r.at h3)| .write,_=>∃b x,ze h0 al b=H2/\nV h[b]?=H2/\nV (En x)=H2/\jy h b x=En r.heap/\∀h' h3:qh,h'[b]?=h[b]?->jy h' b x=En h3->F h'=En (r.at h3)
 | .take,k=>∃b cs v o,ze h0 al b=H2/\h[b]?=En (.cells cs)/\cs[k]?=En (v,o)/\r.heap=h.set b (.cells (cs.set k (v,Ir))) /\
   ∀(h':qh) (eK:List (AVal×Bool)),h'[b]?=En (.cells eK)->eK[k]?=En (v,o)->F h'=En (r.at (h'.set b (.cells (eK.set k (v,Ir)))))
 | .fI,_=>False| .shr,_=>True| .py,k=>∃q x y,(q=h0+k % 1000/\y=.hole\/Vm y=En (k / 1000))/\h[q]?=En y/\r.heap=h.set q x/\Vm x=En (k / 1000)/\∀h':qh,h'[q]?=En y->F h'=En (r.at (h'.set q x))
theorem Jl {h h' b}(hb:h'[b]?=h[b]?):qv h' b=qv h b:=by simp only[qv,hb]
theorem jji {e h op r}(G:qf p xc h0 al e h op=En r):HB h0 al (fun h=>qf p xc h0 al e h op) h r op.cl op.dc:=by
 have gL:(∀h,qf p xc h0 al e h op=qm e h op)->op.cl=.pure->HB h0 al (fun h=>qf p xc h0 al e h op) h r op.cl op.dc:=by
  intro heq dX;rw[dX];rw[heq]at G;exact⟨(qw1 h G).1,fun h'=>(heq h').trans (qw1 h' G).2⟩
 cases op with
 |load ag n x=>
  simp only[qf,yo]at G;split at G
  .rename_i b o hv
   cases hk:ze h0 al b with
   |false=>simp[hk]at G
   |true=>
    simp only[hk,cond_true]at G;split at G
    .rename_i cs hcs;split at G
     .rename_i vs N8
      have key:r.heap=h/\∀h':qh,qv h' b=qv h b->yo h0 al e h' (.load ag n x)=En (r.at h'):=by
       cases ag with
       |true=>
        simp only[cond_true]at G;refine⟨(nW (h':=h) G).1,fun h' hb=>?_⟩;simp only[yo,hv,hk,cond_true,hb,hcs,N8];exact(nW (h':=h') G).2
       |false=>
        simp only[cond_false]at G;split at G
        .refine⟨(nW (h':=h) G).1,fun h' hb=>?_⟩;simp only[yo,hv,hk,cond_true,hb,hcs,N8,cond_false];exact(nW (h':=h') G).2
        .cases G
      exact⟨key.1,fun h' dp=>key.2 h' (Jl (dp b hk fun _=>Jk hcs))⟩
     .cases G
    .cases G
  .rename_i v hv
   cases hk:(Ebs ag v.isAgg||!(Ix v.flat.length n))with
   |true=>simp[hk]at G
   |false=>
    simp only[hk,cond_false]at G;refine⟨(nW (h':=h) G).1,fun h' _=>?_⟩;simp only[qf,yo,hv,hk,cond_false];exact(nW (h':=h') G).2
  .rename_i b bS q hv
   cases hk:sO h0 al b with
   |false=>simp[hk]at G
   |true=>
    simp only[hk,cond_true]at G;have iP:=hk;simp only[sO,Hc,Bool.not_eq_true']at iP;split at G
    .rename_i sz dO xs ie
     have kJ:∀h':qh,(∀b,ze h0 al b=H2->(qF al=H2->nV h[b]?=H2)->h'[b]?=h[b]?)->zh h' b=En (.vec sz dO xs):=fun h' dp=>by
      unfold zh at ie ⊢;rw[dp b iP.1 (fun ho=>by rw[iP.2]at ho;cases ho),ie]
     cases dB:(Ix bS dO&&J2 (q+n) (xs.flatMap AVal.flat).length)with
     |false=>rw[dB]at G;cases G
     |true=>
      rw[dB]at G;simp only[cond_true]at G
      cases ag with
      |true=>
       simp only[cond_true]at G;refine⟨(nW (h':=h) G).1,fun h' dp=>?_⟩;simp only[qf,yo,hv,hk,cond_true,kJ h' dp,dB];exact(nW (h':=h') G).2
      |false=>
       simp only[cond_false]at G;split at G
       .rename_i z hz;refine⟨(nW (h':=h) G).1,fun h' dp=>?_⟩;simp only[qf,yo,hv,hk,cond_true,kJ h' dp,dB,cond_false,hz];exact(nW (h':=h') G).2
       .cases G
    .cases G
  .cases G
 |len k x=>exact gL (fun _=>rfl) rfl
 |alloc rk z=>
  simp only[qf,qo]at G
  cases hk:z.all qk with
  |false=>simp[hk]at G
  |true=>
   simp only[hk,cond_true]at G;split at G
   .rename_i h' hn;have Y:=qy G;refine⟨_,by rw[Y];exact hn,fun g g3 hg=>?_⟩;simp only[qf,qo,hk,cond_true];rw[show cI.dc (.alloc rk z)=rk from rfl]at hg;rw[hg,Y];rfl
   .cases G
 |box rk n x=>
  simp only[qf,qo]at G;split at G
  .rename_i v hv
   cases hk:(Ix v.flat.length n&&v.flat.all qk)with
   |false=>simp[hk]at G
   |true=>
    simp only[hk,cond_true]at G;split at G
    .rename_i h' hn;have Y:=qy G;refine⟨_,by rw[Y];exact hn,fun g g3 hg=>?_⟩;simp only[qf,qo,hv,hk,cond_true];rw[show cI.dc (.box rk n x)=rk from rfl]at hg;rw[hg,Y];rfl
    .cases G
  .cases G
 |gD rk t e'=>
  simp only[qf,qo]at G;split at G
  .rename_i h' hn;have Y:=qy G;refine⟨_,by rw[Y];exact hn,fun g g3 hg=>?_⟩;simp only[qf,qo];rw[show cI.dc (.gD rk t e')=rk from rfl]at hg;rw[hg,Y];rfl
  .cases G
 |eU rk=>
  simp only[qf,qo]at G;split at G
  .rename_i h' hn;have Y:=qy G;refine⟨_,by rw[Y];exact hn,fun g g3 hg=>?_⟩;simp only[qf,qo];rw[show cI.dc (.eU rk)=rk from rfl]at hg;rw[hg,Y];rfl
  .cases G
 |dF rk x=>
  simp only[qf,qo]at G;split at G
  .rename_i s hv;split at G
   .rename_i h' hn;have Y:=qy G;refine⟨_,by rw[Y];exact hn,fun g g3 hg=>?_⟩;simp only[qf,qo,hv];rw[show cI.dc (.dF rk x)=rk from rfl]at hg;rw[hg,Y];rfl
   .cases G
  .cases G
 |cz off x=>
  simp only[qf,qo]at G;split at G
  .rename_i b o hv
   cases hk:ze h0 al b&&vg off o with
   |false=>simp[hk]at G
   |true=>
    simp only[hk,cond_true]at G
    have fm:ze h0 al b=H2:=by simp only[Hc]at hk;exact hk.1
    split at G
    .rename_i cs hcs;split at G
     .rename_i v ow hq;split at G
      .rename_i h' bO;cases G;have pH:=bO;unfold jy at pH
       cases aW:Iz b h.length with
       |false=>simp[aW]at pH
       |true=>
        simp only[aW,cond_true,En.injEq]at pH
        cases off with
        |none=>
         refine⟨b,_,fm,Jk hcs,rfl,bO,fun g g3 hb hg=>?_⟩;simp only[qf,qo,hv,hk,cond_true,Jl hb,hcs,hq,hg];rfl
        |some k=>
         have hko:k=o:=by
          simp only[Hc,vg]at hk;exact Hq hk.2
         subst hko
         have hhb:h[b]?=En (.cells cs):=by
          unfold qv at hcs;split at hcs
          .rename_i eK h';cases hcs;exact h'
          .cases hcs
         refine⟨b,cs,v,ow,fm,hhb,hq,pH.symm,fun g eK hg eg=>?_⟩;have eg:eK[k]?=En (v,ow):=eg;have hlg:b<g.length:=(Io.1 hg).1
         have mK:qv g b=En eK:=by simp only[qv,hg]
         have hsg:jy g b (.cells (eK.set k (v,Ir)))=En (g.set b (.cells (eK.set k (v,Ir)))):=by
          unfold jy;rw[Lg.mpr hlg];rfl
         simp only[qf,qo,hv,hk,cond_true,mK,eg,hsg];rfl
      .cases G
     .cases G
    .cases G
  .cases G
 |store n x y=>
  simp only[qf,qo]at G;split at G
  .rename_i b o v hv hy
   cases hk:ze h0 al b with
   |false=>simp[hk]at G
   |true=>
    simp only[hk,cond_true]at G;split at G
    .rename_i cs hcs;split at G
     .rename_i t ht
      cases dB:(Ix n 1&&v.cT&&Iz o cs.length)with
      |false=>simp[dB]at G
      |true=>
       simp only[dB,cond_true]at G;split at G
       .rename_i h' bO;cases G;refine⟨b,_,hk,Jk hcs,rfl,bO,fun g g3 hb hg=>?_⟩;simp only[qf,qo,hv,hy,hk,cond_true,Jl hb,hcs,ht,dB,hg];rfl
       .cases G
     .rename_i ht
      cases dB:Ix v.flat.length n with
      |false=>simp[dB]at G
      |true=>
       simp only[dB,cond_true]at G;split at G
       .rename_i eK cw;split at G
        .rename_i h' bO;have Y:=qy G;refine⟨b,_,hk,Jk hcs,rfl,by rw[Y];exact bO,fun g g3 hb hg=>?_⟩;simp only[qf,qo,hv,hy,hk,cond_true,Jl hb,hcs,ht,dB,cw,hg,Y];rfl
        .cases G
       .cases G
    .cases G
  .cases G
 |call md f l=>
  cases md with
  |shr=>trivial|red=>trivial
  |fI rk=>
   simp only[qf,yh]at G;split at G
   .rename_i k first captured vs e1 e2
    cases hb:(first++vs++captured).isEmpty with
    |false=>
     rw[hb]at G;simp only[cond_false]at G
     cases nU:qp 0 (first++vs++captured)with
     |false=>rw[nU]at G;cases G
     |true=>
      rw[nU]at G;simp only[cond_true]at G;split at G
      .rename_i v o xf
       have goal:∃x,aQ h0 h rk x=En r.heap/\∀g g3,aQ h0 g rk x=En g3->sQ h0 g rk v o=En (r.at g3):=by
        unfold sQ at G;split at G
        .split at G
         .rename_i h' hn;have Y:=qy G;refine⟨_,by rw[Y];exact hn,fun g g3 hg=>?_⟩;simp only[sQ,hg,Y];rfl
         .cases G
        .rename_i sz xs
         cases I0:(xs.flatMap AVal.flat).all pv with
         |false=>rw[I0]at G;cases G
         |true=>
          rw[I0]at G;simp only[cond_true]at G;split at G
          .rename_i h' hn;have Y:=qy G;refine⟨_,by rw[Y];exact hn,fun g g3 hg=>?_⟩;simp only[sQ,I0,cond_true,hg,Y];rfl
          .cases G
        .cases G
       obtain⟨x,g1,g2⟩:=goal;refine⟨x,g1,fun g g3 hg=>?_⟩;simp only[qf,yh,e1,e2,xf];rw[hb,nU];exact g2 g g3 hg
      .cases G
    |true=>
     rw[hb]at G;simp only[cond_true]at G;split at G
     .rename_i es hm;split at G
      .rename_i h' hn;have Y:=qy G;refine⟨_,by rw[Y];exact hn,fun g g3 hg=>?_⟩;simp only[qf,yh,e1,e2,hm];rw[hb];simp only[cond_true];rw[show cI.dc (.call (.fI rk) f l)=rk from rfl]at hg;rw[hg,Y];rfl
      .cases G
     .cases G
   .cases G
   .cases G
  |cf=>
   simp only[qf,yh]at G;split at G
   .rename_i k first captured vs e1 e2
    cases hb:qp 0 (first++vs++captured)with
    |false=>rw[hb]at G;cases G
    |true=>
     rw[hb]at G;simp only[cond_true]at G;split at G
     .rename_i v o xf;cases G;refine⟨rfl,fun h'=>?_⟩;simp only[qf,yh,e1,e2,xf];rw[hb];rfl
     .cases G
   .cases G
   .cases G
 |append rk sz b x y=>
  cases rk with
  |none=>exact gL (fun _=>rfl) rfl
  |some rk=>
   simp only[qf,qo]at G;split at G
   .rename_i dm vy e1 e2
    cases hZ:((zu e x).isSome&&Ix sz dm)with
    |false=>simp[hZ]at G
    |true=>
     simp only[hZ,cond_true]at G;split at G
     .rename_i ys cX
      cases dB:(J2 ys.length 1073741824&&J2 b 4096&&Iz 0 sz)with
      |false=>simp[dB]at G
      |true=>
       simp only[dB,cond_true]at G;split at G
       .rename_i h' hn;cases G;refine⟨_,hn,fun g g3 hg=>?_⟩;simp only[qf,qo,e1,e2,hZ,cX,dB,cond_true];rw[show cI.dc (.append (En rk) sz b x y)=rk from rfl]at hg;rw[hg];rfl
       .cases G
     .cases G
   .cases G
 |gZ rk sz bt x y=>
  simp only[qf,qo]at G;split at G
  .rename_i UO vy e1 e2;split at G
   .rename_i ys cX
    cases hk:(J2 ys.length 1073741824&&J2 bt 4096&&Iz 0 sz&&!ys.isEmpty&&qp 0 ys&&Iz rk 1000)with
    |false=>rw[hk]at G;cases G
    |true=>
     rw[hk]at G;simp only[cond_true]at G;split at G
     .rename_i h' dC;obtain rfl:=qy G;obtain⟨i1,i2⟩:=yz dC
      have hrk:rk<1000:=by simp only[Hc]at hk;exact Lg.mp hk.2
      have m1:(rk+1000*sz) % 1000=rk:=by omega
      have m2:(rk+1000*sz) / 1000=sz:=by omega
      refine⟨h0+rk,.vec sz 0 ys,.hole,.inl ⟨by show _=h0+(rk+1000*sz) % 1000;rw[m1],rfl⟩,i1,i2,by show En sz=En ((rk+1000*sz) / 1000);rw[m2],fun g hg=>?_⟩;simp only[qf,qo,e1,e2,cX,hk,cond_true,aQ,hg];rfl
     .cases G
   .cases G
  .rename_i b bS len vy e1 e2;split at G
   .rename_i dm dO xs ie;split at G
    .rename_i ys cX
     cases hk:(Ix bS dO&&Ix sz dm&&J2 len xs.length&&J2 (len+ys.length) 1073741824&&J2 bt 4096&&Iz 0 sz&&qp 0 ys&&Iz rk 1000)with
     |false=>rw[hk]at G;cases G
     |true=>
      rw[hk]at G;simp only[cond_true]at G;split at G
      .rename_i h' bO;obtain rfl:=qy G;have fm:=hk;simp only[Hc]at fm;obtain⟨⟨⟨⟨⟨⟨⟨_,k2⟩,_⟩,_⟩,_⟩,_⟩,_⟩,k8⟩:=fm;have dj:=Hq k2;have hrk:rk<1000:=Lg.mp k8
       have m2:(rk+1000*sz) / 1000=sz:=by omega
       have aW:b<h.length:=by unfold zh at ie;exact(Io.1 ie).1
       have hh:h'=h.set b (.vec sz (bS+1) (xs.take len++ys)):=by
        unfold jy at bO;rw[Lg.mpr aW]at bO;simpa using bO.symm
       refine⟨b,.vec sz (bS+1) (xs.take len++ys),.vec dm dO xs,.inr (by show En dm=En ((rk+1000*sz) / 1000);rw[m2,dj]),ie,hh,by show En sz=En ((rk+1000*sz) / 1000);rw[m2],fun g hg=>?_⟩;have kJ:zh g b=En (.vec dm dO xs):=hg;have xg:b<g.length:=(Io.1 hg).1;simp only[qf,qo,e1,e2,kJ,cX,hk,cond_true,jy,Lg.mpr xg];rfl
      .cases G
    .cases G
   .cases G
  .cases G
 |gG rk sz n z ps=>trivial
 |cj rk sz b z n c=>
  cases rk with
  |none=>exact gL (fun _=>rfl) rfl
  |some rk=>
   simp only[qf,qo]at G;split at G
   .rename_i n' c' e1 e2
    cases hk:(Ix n' c'&&J2 n' 1073741824&&J2 b 4096&&Ix z.length sz&&Iz 0 sz&&z.all qk)with
    |false=>simp[hk]at G
    |true=>
     simp only[hk,cond_true]at G;split at G
     .rename_i h' hn;have Y:=qy G;refine⟨_,by rw[Y];exact hn,fun g g3 hg=>?_⟩;simp only[qf,qo,e1,e2,hk,cond_true];rw[show cI.dc (.cj (En rk) sz b z n c)=rk from rfl]at hg;rw[hg,Y];rfl
     .cases G
   .cases G
 |lookup kd z ok x y=>
  simp only[qf,yo]at G;split at G
  .rename_i b kv e1 e2
   cases hk:ze h0 al b with
   |false=>simp[hk]at G
   |true=>
    simp only[hk,cond_true]at G;split at G
    .rename_i es hb
     have kJ:∀h':qh,(∀b,ze h0 al b=H2->(qF al=H2->nV h[b]?=H2)->h'[b]?=h[b]?)->zh h' b=En (.map es):=fun h' dp=>by
      have Vn:=F0 hb rfl;unfold zh at hb ⊢;rw[dp b hk fun _=>Vn,hb]
     split at G
     .rename_i i v hf;refine⟨(nW (h':=h) G).1,fun h' dp=>?_⟩;simp only[qf,yo,e1,e2,hk,cond_true,kJ h' dp,hf];exact(nW (h':=h') G).2
     .rename_i hf;refine⟨(nW (h':=h) G).1,fun h' dp=>?_⟩;simp only[qf,yo,e1,e2,hk,cond_true,kJ h' dp,hf];exact(nW (h':=h') G).2
     .cases G
    .cases G
  .rename_i kv e1 e2;refine⟨(nW (h':=h) G).1,fun h' dp=>?_⟩;simp only[qf,yo,e1,e2];exact(nW (h':=h') G).2
  .cases G
 |mapUpdate kd x y z=>
  simp only[qf,qo]at G;split at G
  .rename_i b kv v e1 e2 e3
   cases hk:ze h0 al b with
   |false=>simp[hk]at G
   |true=>
    simp only[hk,cond_true]at G;split at G
    .rename_i es hb
     have kJ:∀h':qh,h'[b]?=h[b]?->zh h' b=En (.map es):=fun h' dp=>by
      unfold zh at hb ⊢;rw[dp,hb]
     split at G
     .rename_i i u hf;split at G
      .rename_i h' bO;have Y:=qy G;refine⟨b,_,hk,F0 hb rfl,rfl,by rw[Y];exact bO,fun g g3 fW hg=>?_⟩;simp only[qf,qo,e1,e2,e3,hk,cond_true,kJ g fW,hf,hg,Y];rfl
      .cases G
     .rename_i hf
      cases hl:J2 es.length 1073741824 with
      |false=>simp[hl]at G
      |true=>
       simp only[hl,cond_true]at G;split at G
       .rename_i h' bO;have Y:=qy G;refine⟨b,_,hk,F0 hb rfl,rfl,by rw[Y];exact bO,fun g g3 fW hg=>?_⟩;simp only[qf,qo,e1,e2,e3,hk,cond_true,kJ g fW,hf,hl,hg,Y];rfl
       .cases G
     .cases G
    .cases G
  .cases G
 |delete kd x y=>
  simp only[qf,qo]at G;split at G
  .rename_i b kv e1 e2
   cases hk:ze h0 al b with
   |false=>simp[hk]at G
   |true=>
    simp only[hk,cond_true]at G;split at G
    .rename_i es hb
     have kJ:∀h':qh,h'[b]?=h[b]?->zh h' b=En (.map es):=fun h' dp=>by
      unfold zh at hb ⊢;rw[dp,hb]
     split at G
     .rename_i rr hf;split at G
      .rename_i h' bO;have Y:=qy G;refine⟨b,_,hk,F0 hb rfl,rfl,by rw[Y];exact bO,fun g g3 fW hg=>?_⟩;simp only[qf,qo,e1,e2,hk,cond_true,kJ g fW,hf,hg,Y];rfl
      .cases G
     .cases G
    .cases G
  .cases G
 |copy sz x y=>
  simp only[qf,qo]at G;split at G
  .rename_i b o len vy e1 e2
   cases hk:ze h0 al b with
   |false=>simp[hk]at G
   |true=>
    simp only[hk,cond_true]at G;split at G
    .rename_i cs hcs;split at G
     .rename_i n us cX;split at G
      .rename_i eK cw
       cases dB:Ix us.length (n*sz)with
       |false=>simp[dB]at G
       |true=>
        simp only[dB,cond_true]at G;split at G
        .rename_i h' bO;have Y:=qy G;refine⟨b,_,hk,Jk hcs,rfl,by rw[Y];exact bO,fun g g3 hb hg=>?_⟩;simp only[qf,qo,e1,e2,hk,cond_true,Jl hb,hcs,cX,cw,dB,hg,Y];rfl
        .cases G
      .cases G
     .cases G
    .cases G
  .cases G
 |fQ x=>
  simp only[qf,qo]at G;split at G
  .rename_i b hv
   cases hk:ze h0 al b with
   |false=>simp[hk]at G
   |true=>
    simp only[hk,cond_true]at G;split at G
    .rename_i s pos hb
     have aW:b<h.length:=by unfold zh at hb;exact(Io.1 hb).1
     cases hp:Iz pos s.length with
     |true=>
      simp only[hp,cond_true]at G;split at G
      .rename_i h' bO;have Y:=qy G;refine⟨b,_,hk,F0 hb rfl,rfl,by rw[Y];exact bO,fun g g3 fW hg=>?_⟩
       have kJ:zh g b=En (.iter s pos):=by unfold zh at hb ⊢;rw[fW,hb]
       simp only[qf,qo,hv,hk,cond_true,kJ,hp,hg,Y];rfl
      .cases G
     |false=>
      simp only[hp,cond_false]at G;have Y:=qy G
      have Jm:h.set b (.iter s pos)=h:=by
       unfold zh at hb;apply Eak;intro k;rw[Eag];split
       .rename_i hbk;subst hbk;first|exact hb.symm|rw[if_pos aW,hb]
       .rfl
      refine⟨b,.iter s pos,hk,F0 hb rfl,rfl,by rw[Y];unfold jy;rw[Lg.mpr aW];simp[Jm],fun g g3 fW hg=>?_⟩
      have kJ:zh g b=En (.iter s pos):=by unfold zh at hb ⊢;rw[fW,hb]
      have xg:b<g.length:=by unfold zh at kJ;exact(Io.1 kJ).1
      have Bs:g3=g:=by
       unfold jy at hg;rw[Lg.mpr xg]at hg;simp only[cond_true,En.injEq]at hg;rw[<-hg];unfold zh at kJ;apply Eak;intro k;rw[Eag];split
       .rename_i hbk;subst hbk;first|exact kJ.symm|rw[if_pos xg,kJ]
       .rfl
      simp only[qf,qo,hv,hk,cond_true,kJ,hp,cond_false,Y,Bs];rfl
    .cases G
  .cases G
 |_=>exact gL (fun _=>rfl) rfl
theorem yZ {h h' b x}(G:jy h b x=En h'):b<h.length/\h'=h.set b x:=by
 unfold jy at G
 cases hb:Iz b h.length with
 |false=>simp[hb]at G|true=>exact⟨Lg.mp hb,by simpa[hb]using G.symm⟩
theorem Bt {h b x}(hb:b<h.length):jy h b x=En (h.set b x):=by
 unfold jy;rw[Lg.mpr hb];rfl
theorem F1 {h k x}(hh:h[h0+k]?=En .hole):aQ h0 h k x=En (h.set (h0+k) x):=by
 unfold aQ;rw[hh]
theorem F2 {b k}(h:ze h0 al b=H2)(hk:oA al k=Ir):b≠h0+k:=by
 intro hb;subst hb
 cases al with
 |none=>simp[oA]at hk
 |some l=>
  simp only[ze,oA]at h hk
  have Y:Iz (h0+k) h0=Ir:=by
   cases hh:Iz (h0+k) h0 with
   |false=>rfl|true=>have:=Lg.mp hh;omega
  cases he:pu l with
  |false=>
   rw[he]at h hk;simp only[cond_false]at h hk;rw[Y,Eaa,show h0+k-h0=k from by omega,hk]at h;cases h
  |true=>
   rw[he]at h hk;simp only[cond_true]at h hk
   cases l with
   |nil=>cases he
   |cons x l=>
    simp only[AP]at h
    cases M:Iz x 2000 with
    |true=>rw[M]at h;simp only[cond_true,Y,Bool.and_false]at h;cases h
    |false=>
     rw[M]at h;simp only[cond_false]at h
     cases hx4:Iz x 4000 with
     |false=>rw[hx4]at h;simp only[cond_false,Y]at h;cases h
     |true=>
      rw[hx4]at h;simp only[cond_true]at h;have I:=Hq h
      have h3:¬x<2000:=fun hh=>by rw[Lg.mpr hh]at M;cases M
      have h4:x=2000+k:=by omega
      rw[show(x::l).headD 0=x from rfl,h4,Ebb]at hk;cases hk
theorem qs3 {l:List Nat}{x}(h:(!(l.contains x))=H2):l.contains x=Ir:=by
 cases hc:l.contains x with
 |false=>rfl|true=>rw[hc]at h;cases h
theorem Vo {Vp Vq:ak Nat}{b b'}(h:FI Vp Vq=H2)(Y:ze h0 Vp b=H2)(I:ze h0 Vq b'=H2):b≠b':=by
 intro hb;subst hb
 cases Vp with
 |none=>cases h
 |some l=>
  cases Vq with
  |none=>cases h
  |some m=>
   simp only[FI,ze]at h Y I
   have inv:∀ {k:List Nat},pu k=H2->Iz (k.headD 0) 4000=H2->AP h0 k b=H2->(1000<=k.headD 0)/\((k.headD 0<2000/\b=k.headD 0-1000/\b<h0)\/(2000<=k.headD 0/\b=h0+(k.headD 0-2000))):=by
    intro k he h4 hq
    cases k with
    |nil=>cases he
    |cons x k=>
     refine⟨Ik he,?_⟩;simp only[AP]at hq
     cases M:Iz x 2000 with
     |true=>
      rw[M]at hq;simp only[cond_true,Hc]at hq;exact .inl ⟨Lg.mp M,Hq hq.1,Lg.mp hq.2⟩
     |false=>
      rw[M,show Iz x 4000=H2 from h4]at hq;simp only[cond_false,cond_true]at hq
      have h3:¬x<2000:=fun hh=>by rw[Lg.mpr hh]at M;cases M
      exact .inr ⟨by show 2000<=x;omega,Hq hq⟩
   have old:∀ {k:List Nat} {r:Nat},b=h0+r->k.contains r=Ir->(Iz b h0||k.contains (b-h0))=H2->False:=by
    intro k r jG hc hq
    have h3:Iz b h0=Ir:=by
     cases hh:Iz b h0 with
     |false=>rfl|true=>have:=Lg.mp hh;omega
    rw[h3,Eaa,show b-h0=r by omega,hc]at hq;cases hq
   cases hl:pu l with
   |true=>
    rw[hl]at h Y;simp only[cond_true]at h Y
    cases hm:pu m with
    |true=>
     rw[hm]at h I;simp only[cond_true,Hc]at h I;obtain⟨i1,i2⟩:=inv hl h.1.2 Y;obtain⟨i3,i4⟩:=inv hm h.2 I
     have bN:l.headD 0≠m.headD 0:=fun e=>by rw[e,Ebb]at h;exact absurd h.1.1 (by simp)
     omega
    |false=>
     rw[hm]at h I;simp only[cond_false,Hc]at h I;obtain⟨i1,i2⟩:=inv hl h.1.2 Y;have h3:=Ik h.1.1;exact old (by omega) (qs3 h.2) I
   |false=>
    rw[hl]at h Y;simp only[cond_false,Hc]at h Y;obtain⟨⟨⟨h3,h4⟩,h6⟩,h5⟩:=h;rw[h3]at I;simp only[cond_true]at I;obtain⟨i3,i4⟩:=inv h3 h6 I;have h4:=Ik h4;exact old (by omega) (qs3 h5) Y
theorem Vr {F h r k}(H:HB h0 al F h r .take k):HB h0 al F h r .write k:=by
 obtain⟨b,cs,v,o,hb,hc,hv,G,h4⟩:=H;have aW:b<h.length:=(Io.1 hc).1;refine⟨b,.cells (cs.set k (v,Ir)),hb,by rw[hc];rfl,rfl,by rw[G];exact Bt aW,fun h' h3 hh bO=>?_⟩;rw[h4 h' cs (by rw[hh];exact hc) hv];obtain⟨_,s2⟩:=yZ bO;rw[s2]
theorem jl7 {ca cb ka kb rW rX Fa Fb h ra rb}(zC:Fb h=En rb)(Jn:Fa rb.heap=En ra)(Hb:HB h0 rX Fb h rb cb kb)(Ha:HB h0 rW Fa rb.heap ra ca ka)
  (ef:cb=.read\/cb=.write\/cb=.take) (eC:ca=.read\/ca=.write\/ca=.take) (ik:FI rX rW=H2):
  ∃Y,Fa h=En (ra.at Y)/\Fb Y=En (rb.at ra.heap):=by
 have hat:∀r:bA,r.at r.heap=r:=fun _=>rfl
 have wb:(cb=.read/\HB h0 rX Fb h rb .read kb)\/HB h0 rX Fb h rb .write kb:=by
  rcases ef with rfl|rfl|rfl
  .exact .inl ⟨rfl,Hb⟩
  .exact .inr Hb
  .exact .inr (Vr Hb)
 have wa:(ca=.read/\HB h0 rW Fa rb.heap ra .read ka)\/HB h0 rW Fa rb.heap ra .write ka:=by
  rcases eC with rfl|rfl|rfl
  .exact .inl ⟨rfl,Ha⟩
  .exact .inr Ha
  .exact .inr (Vr Ha)
 rcases wb with⟨_,Y,I⟩|⟨b,x,hb,_,_,G,I⟩
 .rcases wa with⟨_,h3,h4⟩|⟨b',y,fW,_,_,fK,h4⟩
  .exact⟨h,h4 h (fun b _ _=>by rw[Y]),by rw[h3,hat];exact zC⟩
  .rw[Y]at fK;obtain⟨s1,s2⟩:=yZ fK;refine⟨ra.heap,by rw[hat,<-Jn,Y],I _ (fun b hb _=>?_)⟩;rw[s2,If (Lq (Vo ik hb fW))]
 .obtain⟨s1,s2⟩:=yZ G;rcases wa with⟨_,h3,h4⟩|⟨b',y,fW,_,_,fK,h4⟩
  .refine⟨h,h4 h (fun b' fW _=>?_),by rw[h3,hat];exact zC⟩;rw[s2,If (Vo ik hb fW)]
  .obtain⟨s3,s4⟩:=yZ fK;have bN:=Vo ik hb fW;rw[s2,N3]at s3;refine⟨h.set b' y,h4 _ _ (by rw[s2,If bN]) (Bt s3),I _ _ (by rw[If (Lq bN)]) ?_⟩;rw[Bt (by rw[N3];exact s1),s4,s2,L2 _ _ (Lq bN)]
def Ok (ca cb:AZ)(ka kb:Nat)(rW rX:ak Nat):Prop:=
 (cb=.py/\ca=.py/\kb % 1000≠ka % 1000/\kb / 1000≠ka / 1000)\/(cb=.py/\(ca=.read\/ca=.write\/ca=.take)/\qF rW=H2)\/((cb=.read\/cb=.write\/cb=.take)/\ca=.py/\qF rX=H2)
theorem j2m {ca cb ka kb rW rX Fa Fb h ra rb}(zC:Fb h=En rb)(Jn:Fa rb.heap=En ra)(Hb:HB h0 rX Fb h rb cb kb)(Ha:HB h0 rW Fa rb.heap ra ca ka)
  (dG:Ok ca cb ka kb rW rX):∃Y,Fa h=En (ra.at Y)/\Fb Y=En (rb.at ra.heap):=by
 have hat:∀r:bA,r.at r.heap=r:=fun _=>rfl
 have Jo:∀ {c:AZ} {k:Nat} {al:ak Nat} {F:qh->Option bA} {g:qh} {r:bA},HB h0 al F g r c k->(c=.read\/c=.write\/c=.take)->HB h0 al F g r .read k\/HB h0 al F g r .write k:=by
  intro c k al F g r H hc;rcases hc with rfl|rfl|rfl
  .exact .inl H
  .exact .inr H
  .exact .inr (Vr H)
 have nvs:∀ {x:aM} {z:Nat},Vm x=En z->nV (En x)=Ir:=fun {x z} h=>by cases x<;>first|rfl|cases h
 rcases dG with⟨rfl,rfl,n1,n2⟩|⟨rfl,eC,G⟩|⟨ef,rfl,G⟩
 .obtain⟨q,x,y,hq,hy,hh,M,hF⟩:=Hb;obtain⟨q',x',y',Od,Bf,F3,fD,hF'⟩:=Ha;have aW:q<h.length:=(Io.1 hy).1
  have bN:q≠q':=by
   intro he;subst he;rw[hh,N4 aW]at Bf;cases Bf;rcases Od with⟨_,rfl⟩|h4
   .cases M
   .rw[M]at h4;exact n2 (En.inj h4)
  rw[hh,If bN]at Bf;refine⟨h.set q' x',hF' h Bf,?_⟩;rw[hF _ (by rw[If (Lq bN)];exact hy),F3,hh,L2 _ _ bN]
 .obtain⟨q,x,y,hq,hy,hh,M,hF⟩:=Hb;have aW:q<h.length:=(Io.1 hy).1
  -- the box that the append wrote is a vector now
  have dC:nV rb.heap[q]?=Ir:=by rw[hh,N4 aW];exact nvs M
  rcases Jo Ha eC with⟨h3,h4⟩|⟨b,z,hb,hn,Vs,hz,h4⟩
  .refine⟨h,h4 h (fun b hb hn=>?_),by rw[h3,hat];exact zC⟩
   have bN:b≠q:=fun e=>by subst e;rw[hn G]at dC;cases dC
   rw[hh,If (Lq bN)]
  .have bN:b≠q:=fun e=>by subst e;rw[hn]at dC;cases dC
   obtain⟨s1,s2⟩:=yZ hz;rw[hh,N3]at s1;refine⟨h.set b z,h4 _ _ (by rw[hh,If (Lq bN)]) (Bt s1),?_⟩;rw[hF _ (by rw[If bN];exact hy),s2,hh,L2 _ _ bN]
 .obtain⟨q,x,y,hq,hy,hh,M,hF⟩:=Ha
  have hold:nV (En y)=Ir:=by
   rcases hq with⟨_,rfl⟩|Y
   .rfl
   .exact nvs Y
  rcases Jo Hb ef with⟨h3,h4⟩|⟨b,z,hb,hn,Vs,hz,h4⟩
  .rw[h3]at hy hh;refine⟨h.set q x,hF h hy,?_⟩
   rw[h4 (h.set q x) (fun b hb hn=>by
    have bN:b≠q:=fun e=>by subst e;rw[hy]at hn;rw[hold]at hn;exact absurd (hn G) (by simp)
    rw[If (Lq bN)]),hh]
  .obtain⟨s1,s2⟩:=yZ hz
   have bN:b≠q:=by
    intro e;subst e;rw[s2,N4 s1]at hy;rw[En.inj hy,hold]at Vs;cases Vs
   rw[s2,If bN]at hy;refine⟨h.set q x,hF h hy,h4 _ _ (by rw[If (Lq bN)]) ?_⟩;rw[Bt (by rw[N3];exact s1),hh,s2,L2 _ _ (Lq bN)]
theorem ju6 {ca cb ka kb rW rX Fa Fb h ra rb}(zC:Fb h=En rb)(Jn:Fa rb.heap=En ra)(Hb:HB h0 rX Fb h rb cb kb)(Ha:HB h0 rW Fa rb.heap ra ca ka)
  (dG:cb=.pure\/ca=.pure\/(cb=.read/\ca=.read)\/(cb=.alloc/\ca=.alloc/\kb≠ka)\/(cb=.alloc/\(ca=.read\/ca=.write\/ca=.take)/\oA rW kb=Ir)\/((cb=.read\/cb=.write\/cb=.take)/\ca=.alloc/\oA rX ka=Ir)\/(cb=.take/\ca=.take/\kb≠ka)):
  ∃Y,Fa h=En (ra.at Y)/\Fb Y=En (rb.at ra.heap):=by
 have hat:∀r:bA,r.at r.heap=r:=fun _=>rfl;rcases dG with rfl|rfl|⟨rfl,rfl⟩|⟨rfl,rfl,bN⟩|⟨rfl,eC,pI⟩|⟨ef,rfl,pI⟩|⟨rfl,rfl,bN⟩
 .obtain⟨Y,I⟩:=Hb;exact⟨ra.heap,by rw[hat,<-Jn,Y],I _⟩
 .obtain⟨Y,I⟩:=Ha;exact⟨h,I _,by rw[Y,hat];exact zC⟩
 .obtain⟨Y,I⟩:=Hb;obtain⟨h3,h4⟩:=Ha;exact⟨h,h4 h (fun b _ _=>by rw[Y]),by rw[h3,hat];exact zC⟩
 .obtain⟨x,n1,n2⟩:=Hb;obtain⟨y,n3,n4⟩:=Ha;obtain⟨i1,i2⟩:=yz n1;obtain⟨i3,i4⟩:=yz n3;rw[i2,If (by omega)]at i3;refine⟨h.set (h0+ka) y,n4 _ _ (F1 i3),n2 _ _ ?_⟩;rw[F1 (by rw[If (by omega)];exact i1),i4,i2,L2 _ _ (by omega)]
 .obtain⟨x,n1,n2⟩:=Hb;obtain⟨i1,i2⟩:=yz n1;rcases eC with rfl|rfl|rfl
  .obtain⟨h3,h4⟩:=Ha;refine⟨h,h4 h (fun b hb _=>?_),by rw[h3,hat];exact zC⟩;rw[i2,If (Lq (F2 hb pI))]
  .obtain⟨b,y,hb,_,_,G,h4⟩:=Ha;obtain⟨s1,s2⟩:=yZ G;have bN:=F2 hb pI;rw[i2,N3]at s1;refine⟨h.set b y,h4 _ _ (by rw[i2,If (Lq bN)]) (Bt s1),n2 _ _ ?_⟩;rw[F1 (by rw[If bN];exact i1),s2,i2,L2 _ _ bN]
  .obtain⟨b,cs,v,o,hb,hc,hv,G,h4⟩:=Ha;have bN:=F2 hb pI;rw[i2,If (Lq bN)]at hc;refine⟨_,h4 _ _ hc hv,n2 _ _ ?_⟩;rw[F1 (by rw[If bN];exact i1),G,i2,L2 _ _ bN]
 .obtain⟨y,n3,n4⟩:=Ha;obtain⟨i3,i4⟩:=yz n3;rcases ef with rfl|rfl|rfl
  .obtain⟨Y,I⟩:=Hb;refine⟨ra.heap,by rw[hat,<-Jn,Y],I _ (fun b hb _=>?_)⟩;rw[i4,Y,If (Lq (F2 hb pI))]
  .obtain⟨b,x,hb,_,_,G,I⟩:=Hb;obtain⟨s1,s2⟩:=yZ G;have bN:=F2 hb pI;rw[s2,If bN]at i3;refine⟨h.set (h0+ka) y,n4 _ _ (F1 i3),I _ _ (by rw[If (Lq bN)]) ?_⟩;rw[Bt (by rw[N3];exact s1),i4,s2,L2 _ _ (Lq bN)]
  .obtain⟨b,cs,v,o,hb,hc,hv,G,I⟩:=Hb;have bN:=F2 hb pI;rw[G,If bN]at i3;refine⟨h.set (h0+ka) y,n4 _ _ (F1 i3),?_⟩;rw[I _ cs (by rw[If (Lq bN)];exact hc) hv,i4,G,L2 _ _ (Lq bN)]
 .obtain⟨b,cs,v,o,hb,hc,hv,G,I⟩:=Hb;obtain⟨b',eK,v',o',fW,eg,xh,fK,h4⟩:=Ha;have aW:b<h.length:=(Io.1 hc).1;by_cases F4:b'=b
  .subst F4;rw[G,N4 aW]at eg;cases eg;rw[If bN]at xh;refine⟨h.set b' (.cells (cs.set ka (v',Ir))),h4 h cs hc xh,?_⟩;rw[I _ (cs.set ka (v',Ir)) (by rw[N4 aW]) (by rw[If (Lq bN)];exact hv),fK,G];simp only[List.set_set];rw[L2 _ _ bN]
  .rw[G,If (Lq F4)]at eg;refine⟨h.set b' (.cells (eK.set ka (v',Ir))),h4 h eK eg xh,?_⟩;rw[I _ cs (by rw[If F4];exact hc) hv,fK,G,L2 _ _ F4]
end
section
variable {p:j8}{xc:XC}{h0:Nat}
def nv (p:j8)(xc:XC)(h0:Nat)(o:bX)(e:Env)(h:qh):Option bA:=
 match oy e o.guard with
 |some H2=>qf p xc h0 o.al e h o.op|some Ir=>En ⟨.undef,Ir,Ig,h⟩|none=>Ig
def rY (o:bX)(e:Env)(r:bA):Env:=pw (ye e r.strip) o.dst r.v r.own
theorem F5 (o:bX)(st:bg):yi p xc h0 o st=(nv p xc h0 o st.env st.heap).map fun r=>⟨rY o st.env r,r.heap⟩:=by
 unfold yi nv
 cases hg:oy st.env o.guard with
 |none=>rfl
 |some b=>
  cases b with
  |false=>rfl
  |true=>
   simp only[];cases qf p xc h0 o.al st.env st.heap o.op<;>rfl
theorem q5z {e e' g}(h:Agree (match g with|some g=>[g.1]|none=>[]) e e'):oy e g=oy e' g:=by
 cases g with
 |none=>rfl|some g=>simp only[oy,h g.1 (by simp)]
theorem Vt {o e e' h}(ha:Agree o.reads e e'):nv p xc h0 o e h=nv p xc h0 o e' h:=by
 have Y:Agree o.op.reads e e':=(Agree.app ha).1;have I:=(Agree.app ha).2;simp only[nv,q5z I,q8w Y]
theorem jbs {h0 r h v o res}(G:sQ h0 h r v o=En res):res.strip=Ig:=by
 unfold sQ at G;simp only[J0,val]at G
 repeat' split at G
 all_goals first
  |(cases G;done)
  |(cases G;rfl)
theorem q5u {al e h op r}(G:qf p xc h0 al e h op=En r){s}(Q:r.strip=En s):s∈op.gf:=by
 have own:∀ {x:jw},zu e x=En s->s∈zg x:=by
  intro x h;obtain⟨rfl,_⟩:=Iw h;simp[zg]
 have pJ:∀ {x:AVal},val h x=En r->False:=fun hv=>by rw[qy hv]at Q;cases Q
 have Bu:∀ {x:Option AVal},hJ h x=En r->False:=fun hv=>by obtain⟨_,_,Y⟩:=vt hv;rw[Y]at Q;cases Q
 cases op with
 |take t=>
  simp only[qf,qm]at G;split at G
  .cases G;simp at Q;simp[cI.gf,Q]
  .cases G
 |append rk sz b x y=>
  cases rk with
  |some rk=>
   simp only[qf,qo,J0]at G
   repeat' split at G
   all_goals first
    |(cases G;done)
    |(cases G;exact own Q)
  |none=>
   simp only[qf,qm,J0]at G
   repeat' split at G
   all_goals first
    |(cases G;done)
    |(cases G;exact own Q)
 |store n x y=>
  simp only[qf,qo,J0]at G
  repeat' split at G
  all_goals first
   |(cases G;done)
   |exact(pJ G).elim
   |(rename_i ht _ _ _ _;cases G;simp only[En.injEq]at Q;subst Q;exact own ht)
   |(unfold val at G;cases G;cases Q;done)
   |skip
 |cj rk sz b z n c=>
  cases rk with
  |some rk=>
   simp only[qf,qo,J0]at G
   repeat' split at G
   all_goals first
    |(cases G;done)
    |exact(pJ G).elim
    |(unfold val at G;cases G;cases Q;done)
  |none=>
   simp only[qf,qm,J0]at G
   repeat' split at G
   all_goals first
    |(cases G;done)
    |(cases G;cases Q;done)
 |call md f l=>
  cases md<;>simp only[qf,yh,J0]at G
  all_goals
   repeat' split at G
  all_goals first
   |(cases G;done)
   |exact(pJ G).elim
   |(cases G;cases Q;done)
   |(rw[jbs G]at Q;cases Q;done)
 |_=>
  simp only[qf,qm,yo,qo,J0]at G
  repeat' split at G
  all_goals first
   |(cases G;done)
   |exact(pJ G).elim
   |exact(Bu G).elim
   |(cases G;cases Q;done)
   |(unfold val at G;cases G;cases Q;done)
theorem qyn {o e h r}(G:nv p xc h0 o e h=En r){s}(Q:r.strip=En s):s∈o.op.gf:=by
 unfold nv at G;split at G
 .exact q5u G Q
 .cases G;cases Q
 .cases G
theorem F6 {s x e}:jp s ((s,x)::e)=En x:=by
 simp only[jp,Ebb,cond_true]
theorem Ol {s t x e}(h:s≠t):jp s ((t,x)::e)=jp s e:=by
 have:Ix t s=Ir:=by
  cases hb:Ix t s with
  |false=>rfl|true=>exact absurd (Hq hb).symm h
 simp only[jp,this,cond_false]
theorem Vu {s e x}(h:∀t,x=En t->s≠t):jp s (ye e x)=jp s e:=by
 cases x with
 |none=>rfl
 |some t=>
  simp only[ye];split
  .exact Ol (h t rfl)
  .rfl
theorem qxu {s e e' x}(h:jp s e=jp s e'):jp s (ye e x)=jp s (ye e' x):=by
 cases x with
 |none=>exact h
 |some t=>
  by_cases cw:s=t
  .subst cw;simp only[ye];rw[<-h]
   cases hl:jp s e with
   |none=>simp only[];rw[hl,<-h,hl]|some y=>simp only[];rw[F6,F6]
  .rw[Vu (fun u hu=>by cases hu;exact cw),Vu (fun u hu=>by cases hu;exact cw)];exact h
theorem Vv {s e d v o}(h:∀t,d=En t->s≠t):jp s (pw e d v o)=jp s e:=by
 cases d with
 |none=>rfl|some t=>exact Ol (h t rfl)
theorem q3s {s e e' d v o}(h:jp s e=jp s e'):jp s (pw e d v o)=jp s (pw e' d v o):=by
 cases d with
 |none=>exact h
 |some t=>
  by_cases cw:s=t
  .subst cw;simp only[pw];rw[F6,F6]
  .rw[Vv (fun u hu=>by cases hu;exact cw),Vv (fun u hu=>by cases hu;exact cw)];exact h
theorem Vw {o s e e' r}(h:jp s e=jp s e'):jp s (rY o e r)=jp s (rY o e' r):=q3s (qxu h)
theorem F7 {o s e r}(Q:∀t,r.strip=En t->t∈o.op.gf)(h:s ∉ o.writes):jp s (rY o e r)=jp s e:=by
 unfold rY;rw[Vv,Vu]
 .intro t ht cw;exact h (Eaq _ (cw▸Q t ht))
 .intro t ht cw;exact h (Eas _ (by rw[ht,cw];simp))
theorem jil {o e r h}:rY o e (r.at h)=rY o e r:=rfl
def kK (a b:bg):Prop:=a.heap=b.heap/\∀s,jp s a.env=jp s b.env
theorem kK.refl (a:bg):kK a a:=⟨rfl,fun _=>rfl⟩
theorem kK.trans {a b c}(h:kK a b)(k:kK b c):kK a c:=⟨h.1.trans k.1,fun s=>(h.2 s).trans (k.2 s)⟩
theorem q33 {o a b a'}(h:kK a b)(G:yi p xc h0 o a=En a'):∃b',yi p xc h0 o b=En b'/\kK a' b':=by
 rw[F5]at G;obtain⟨r,Q,rfl⟩:=Ii.1 G;rw[Vt (e':=b.env) (fun s _=>h.2 s),h.1]at Q;refine⟨⟨rY o b.env r,r.heap⟩,by rw[F5,Q];rfl,rfl,fun s=>Vw (h.2 s)⟩
theorem qy3:∀ {l:List bX} {a b a':bg},kK a b->fT p xc h0 l a=En a'->∃b',fT p xc h0 l b=En b'/\kK a' b'
 | [],a,b,a',h,G=>by simp only[fT,En.injEq]at G ⊢;subst G;exact⟨b,rfl,h⟩
 |o::l,a,b,a',h,G=>by
  simp only[fT]at G;split at G
  .rename_i J Y;obtain⟨b1,k1,k2⟩:=q33 h Y;obtain⟨b',k3,k4⟩:=qy3 k2 G;exact⟨b',by simp only[fT,k1,k3],k4⟩
  .cases G
theorem jku {o e h r}(G:nv p xc h0 o e h=En r):∃c k,HB h0 o.al (nv p xc h0 o e) h r c k/\(c=.pure\/(c=o.op.cl/\k=o.op.dc)):=by
 unfold nv at G
 cases hg:oy e o.guard with
 |none=>rw[hg]at G;cases G
 |some b=>
  cases b with
  |false=>
   rw[hg]at G;cases G;exact⟨.pure,0,⟨rfl,fun h'=>by simp only[nv,hg];rfl⟩,.inl rfl⟩
  |true=>
   rw[hg]at G;have:=jji G
   have heq:(fun h=>qf p xc h0 o.al e h o.op)=nv p xc h0 o e:=by
    funext h;simp only[nv,hg]
   rw[heq]at this;exact⟨_,_,this,.inr ⟨rfl,rfl⟩⟩
theorem jd6 {a b}(h:Ua a b=H2):a.op.cl=.pure\/b.op.cl=.pure\/a.op.cl=.fI\/b.op.cl=.fI\/(a.op.cl=.read/\b.op.cl=.read)\/(a.op.cl=.alloc/\b.op.cl=.alloc/\a.op.dc≠b.op.dc) \/
  (a.op.cl=.alloc/\(b.op.cl=.read\/b.op.cl=.write\/b.op.cl=.take)/\oA b.al a.op.dc=Ir)\/((a.op.cl=.read\/a.op.cl=.write\/a.op.cl=.take)/\b.op.cl=.alloc/\oA a.al b.op.dc=Ir)\/(a.op.cl=.take/\b.op.cl=.take/\a.op.dc≠b.op.dc)\/((a.op.cl=.read\/a.op.cl=.write\/a.op.cl=.take)/\(b.op.cl=.read\/b.op.cl=.write\/b.op.cl=.take)/\FI a.al b.al=H2)\/Ok b.op.cl a.op.cl b.op.dc a.op.dc b.al a.al:=by
 unfold Ua at h;rw[Uy]at h;rcases h with h|h
 .simp only[Hc]at h;obtain⟨⟨Y,I⟩,h3⟩:=h
  have hb:∀ {c:AZ},c.box=H2->c=.read\/c=.write\/c=.take:=fun {c} hc=>by cases c<;>first|(cases hc;done)|simp
  simp only[hb Y,hb I,h3,and_self,or_true,true_or]
 unfold Ok;cases ha:a.op.cl<;>cases hb:b.op.cl<;>simp_all
theorem Vx {a b}(h:Ib a b=H2){s}(G:s∈a):s ∉ b:=by
 unfold Ib at h;rw[Ld]at h;have:=h s G;simpa using this
theorem zfv {a b st s1 s2}(hm:A0 b a=H2)(Y:yi p xc h0 b st=En s1)(I:yi p xc h0 a s1=En s2):
  ∃t1 t2,yi p xc h0 a st=En t1/\yi p xc h0 b t1=En t2/\kK s2 t2:=by
 rw[F5]at Y;obtain⟨rb,hb,rfl⟩:=Ii.1 Y;rw[F5]at I;obtain⟨ra,ha,rfl⟩:=Ii.1 I;simp only[A0,Hc]at hm;obtain⟨⟨⟨hc,d1⟩,d2⟩,d3⟩:=hm;have sb:∀t,rb.strip=En t->t∈b.op.gf:=fun t ht=>qyn hb ht;have sa:∀t,ra.strip=En t->t∈a.op.gf:=fun t ht=>qyn ha ht
 -- the later one reads nothing that the earlier one writes
 have Om:nv p xc h0 a st.env rb.heap=En ra:=by
  rw[<-ha];refine Vt fun s G=>(F7 sb ?_).symm;exact fun hw=>Vx d1 hw G
 obtain⟨cb,kb,Hb,ob⟩:=jku hb;obtain⟨ca,ka,Ha,oa⟩:=jku Om
 have ik:((cb=.read\/cb=.write\/cb=.take)/\(ca=.read\/ca=.write\/ca=.take)/\FI b.al a.al=H2)\/(cb=.pure\/ca=.pure\/(cb=.read/\ca=.read)\/(cb=.alloc/\ca=.alloc/\kb≠ka)\/(cb=.alloc/\(ca=.read\/ca=.write\/ca=.take)/\oA a.al kb=Ir)\/((cb=.read\/cb=.write\/cb=.take)/\ca=.alloc/\oA b.al ka=Ir)\/(cb=.take/\ca=.take/\kb≠ka))\/Ok ca cb ka kb a.al b.al:=by
  rcases ob with rfl|⟨rfl,rfl⟩
  .exact .inr (.inl (.inl rfl))
  rcases oa with rfl|⟨rfl,rfl⟩
  .exact .inr (.inl (.inr (.inl rfl)))
  rcases jd6 hc with h|h|h|h|h|h|h|h|h|h|h
  .exact .inr (.inl (.inl h))
  .exact .inr (.inl (.inr (.inl h)))
  .rw[h]at Hb;exact Hb.elim
  .rw[h]at Ha;exact Ha.elim
  .exact .inr (.inl (.inr (.inr (.inl h))))
  .exact .inr (.inl (.inr (.inr (.inr (.inl h)))))
  .exact .inr (.inl (.inr (.inr (.inr (.inr (.inl h))))))
  .exact .inr (.inl (.inr (.inr (.inr (.inr (.inr (.inl h)))))))
  .exact .inr (.inl (.inr (.inr (.inr (.inr (.inr (.inr h)))))))
  .exact .inl h
  .exact .inr (.inr h)
 have hsw:∃Y,nv p xc h0 a st.env st.heap=En (ra.at Y)/\nv p xc h0 b st.env Y=En (rb.at ra.heap):=by
  rcases ik with⟨q1,q2,q3⟩|dG|dG
  .exact jl7 hb Om Hb Ha q1 q2 q3
  .exact ju6 hb Om Hb Ha dG
  .exact j2m hb Om Hb Ha dG
 obtain⟨h3,k1,k2⟩:=hsw
 have k2':nv p xc h0 b (rY a st.env (ra.at h3)) h3=En (rb.at ra.heap):=by
  rw[<-k2];refine Vt fun s G=>F7 (fun t ht=>sa t ht) ?_;exact fun hw=>Vx d3 hw G
 refine⟨⟨rY a st.env (ra.at h3),h3⟩,⟨rY b (rY a st.env (ra.at h3)) (rb.at ra.heap),ra.heap⟩,by rw[F5,k1];rfl,by rw[F5];simp only[k2'];rfl,rfl,fun s=>?_⟩;simp only[jil];by_cases hw:s∈a.writes
 .have FX:s ∉ b.writes:=fun h=>Vx d2 h hw;rw[F7 sb FX];exact Vw (F7 sb FX)
 .rw[F7 sa hw];exact Vw (F7 sa hw).symm
theorem q14:∀ {l1 l2:List bX} {a:bX} {st s2:bg},(∀b∈l1,A0 b a=H2)->fT p xc h0 (l1++a::l2) st=En s2 ->
  ∃t1 t2,yi p xc h0 a st=En t1/\fT p xc h0 (l1++l2) t1=En t2/\kK s2 t2
 | [],l2,a,st,s2,_,G=>by
  simp only[List.nil_append,fT]at G;split at G
  .rename_i t1 Y;exact⟨t1,s2,Y,G,kK.refl _⟩
  .cases G
 |b::l1,l2,a,st,s2,hm,G=>by
  simp only[Ebh,fT]at G;split at G
  .rename_i s Y;obtain⟨u1,u2,I,h3,h4⟩:=q14 (fun c hc=>hm c (by simp[hc])) G;obtain⟨t1,t2,h5,h6,h7⟩:=zfv (hm b (by simp)) Y I;obtain⟨u3,h8,h9⟩:=qy3 h7 h3;exact⟨t1,u3,h5,by simp only[Ebh,fT,h6,h8],h4.trans h9⟩
  .cases G
end
def dD (P:Program)(w0:World)(C0 C:aV)(nt:Nat)(st:bg)(a:Act)(w:World):Prop:=
 a.tmps.size=nt/\∃C' ω',C.le C'/\Marks C' w0.heap.size a.defers/\aA P C' ω' w0 C0 st.heap w/\ar C' ω' w w0.heap.size st.env a.tmps
structure Jp (P:Program)(nt:Nat)(ops:Array Oper)(o:Oper)(ao:bX):Prop where
 op:∃h md r,(cW P h md r o.dst o.op).getD .bad=ao.op
 guard:AX ops o.guard=En ao.guard
 dst:ao.dst=ao.op.sS o.dst
 fits:∀d,o.dst=En d->d<nt
 vfits:∀d,ao.op.iK=En d->d<nt
 Jq:∀d,ao.op.iK=En d->o.dst=Ig/\o.guard=Ig
section
variable {P:Program}{p:j8}{xc:XC}{C C0:aV}{w0:World}{nt h0:Nat}{ops:Array Oper}{ρ:Option Nat}
theorem dD.eqv {st bH a w}(h:dD P w0 C0 C nt st a w)(he:kK st bH):dD P w0 C0 C nt bH a w:=by
 obtain⟨Y,C',ω',h3,I,h4,h5⟩:=h;exact⟨Y,C',ω',h3,I,he.1▸h4,fun s x M=>h5 s x (by rw[he.2 s];exact M)⟩
theorem ar.putAt {ω w B d e tmps v u o}(he:ar C ω w B e tmps)(hd:d<tmps.size)(Q:bW C v u)(ho:o=H2->aY C ω w B (.slot d) v u):ar C ω w B ((d,v,o)::e) (tmps.setIfInBounds d u):=by
 intro s x M;by_cases Vy:s=d
 .subst Vy;rw[F6]at M;cases M;exact⟨u,by simp[hd],Q,ho⟩
 .rw[Ol Vy]at M;obtain⟨y,Y,I,h3⟩:=he s x M;exact⟨y,by rw[Uk (Lq Vy)];exact Y,I,h3⟩
theorem jh3 {ao:bX}{st:bg}{a:Act}{w:World}{C1:aV}{ω1:Nat->Option Loc}{e:Env}{h:qh}{v:AVal}{u:Value}{own:Bool}{o:Oper}(hd:ao.dst=o.dst)(hf:∀d,o.dst=En d->d<nt)(G:a.tmps.size=nt)(lR:Marks C1 w0.heap.size a.defers)(hle:C.le C1)(m:aA P C1 ω1 w0 C0 h w)(he:ar C1 ω1 w w0.heap.size e a.tmps)(Q:bW C1 v u)(ho:own=H2->aY C1 ω1 w w0.heap.size (.slot (o.dst.getD 0)) v u):
  dD P w0 C0 C nt ⟨pw e ao.dst v own,h⟩ (a.put o.dst u) w:=by
 rw[hd]
 cases Oo:o.dst with
 |none=>exact⟨G,C1,ω1,hle,lR,m,he⟩
 |some d=>
  rw[Oo]at ho;refine⟨by simpa[Act.put]using G,C1,ω1,hle,lR,m,?_⟩;exact he.putAt (G▸hf d Oo) Q ho
theorem q43 {o:Oper}{ao:bX}{e tmps ω w B b}(he:ar C ω w B e tmps)(hg:AX ops o.guard=En ao.guard)(hb:oy e ao.guard=En b):Region.wanted o (yielded ops tmps)=b:=by
 unfold Region.wanted
 cases hog:o.guard with
 |none=>
  rw[hog]at hg;simp only[AX,En.injEq]at hg;rw[<-hg]at hb;simp only[oy,En.injEq]at hb;exact hb
 |some g=>
  obtain⟨j,want⟩:=g;rw[hog]at hg;simp only[AX]at hg;split at hg
  .rename_i d hd;have hgd:=En.inj hg;rw[<-hgd]at hb;simp only[oy]at hb;split at hb
   .rename_i c ow hl;cases hb;obtain⟨v,Y,I,_⟩:=he d _ hl;have:=I.dx;subst this;simp only[yielded,hd,Eab,Y];cases c<;>cases want<;>rfl
   .rename_i ow hl;cases hb;obtain⟨v,Y,I,_⟩:=he d _ hl
    have hv:v=.tuple #[]:=by cases I;rfl
    subst hv;simp only[yielded,hd,Eab,Y];rfl
   .cases hb
  .cases hg
theorem jba {h md r d op n s y}(Jr:∀t x z,op≠.store t x z):(cW P h md r d op).getD .bad≠.dv n s y:=by
 intro hc
 cases lS:cW P h md r d op with
 |none=>rw[lS]at hc;cases hc
 |some a=>
  rw[lS]at hc;simp only[Um]at hc;subst hc;cases op<;>simp only[cW,cond_eq_ite]at lS<;>(try exact Jr _ _ _ rfl)<;>(repeat' split at lS)<;>(try split at lS)<;>(try contradiction)<;>(try simp at lS)<;>(try (split at lS<;>simp at lS))<;>(try (unfold NL at lS; (repeat' split at lS)<;>simp at lS))<;>(try (simp only[T7,FG]at lS; (repeat' split at lS)<;>simp at lS))<;>(try (simp only[AW]at lS; (repeat' split at lS)<;>(try contradiction)<;>(try simp at lS)<;>(try (split at lS<;>simp at lS))))
theorem jcf (eV:b8 P p)(M:cL P xc){i:Nat}{o:Oper}{ao:bX}{st bH:bg}{a:Act}{w:World}{aaj:Exit->Act->World->Prop}{K:Act->World->Prop}(hi:ops[i]?=En o)(Q:Jp P nt ops o ao)(G:yi p xc h0 ao st=En bH)(cw:dD P w0 C0 C nt st a w)
  (hK:∀a' w',dD P w0 C0 C nt bH a' w'->K a' w'):wpOpIn (jV ρ) 0 P ops aaj i K a w:=by
 obtain⟨dj,C1,ω1,hle,lR,m,he⟩:=cw;unfold wpOpIn;rw[hi];simp only[];unfold yi at G;split at G
 .rename_i hg;rw[q43 he Q.guard hg];simp only[if_true];split at G
  .rename_i res eJ;cases G;obtain⟨h,md,r,hop⟩:=Q.op
   cases oH:ao.op.iK with
   |some sv=>
    -- the one write of a variable
    have Bv:∃n y',ao.op=.dv n sv y':=by
     cases zE:ao.op<;>rw[zE]at oH<;>simp[cI.iK]at oH;subst oH;exact⟨_,_,rfl⟩
    obtain⟨n,y',zE⟩:=Bv
    have hdd:ao.dst=En sv:=by rw[Q.dst,zE];rfl
    rw[zE]at eJ hop
    have cw:∃t x y,o.op=.store t x y/\jt P t=En n/\qr x=En (.tmp sv)/\qr y=En y':=by
     cases hoo:o.op<;>rw[hoo]at hop
     case store t x y=>
      simp only[cW]at hop;split at hop
      .rename_i n' x' yy hn Y I;simp only[Um]at hop
       cases nj:NM h x' with
       |none=>rw[nj]at hop;cases hop
       |some s'=>
        rw[nj]at hop;simp only[cI.dv.injEq]at hop;obtain⟨rfl,rfl,rfl⟩:=hop;refine⟨t,x,y,rfl,hn,?_,I⟩;unfold NM at nj;split at nj
        .split at nj
         .cases nj;exact Y
         .cases nj
        .cases nj
      .cases hop
     all_goals exact absurd hop (jba (by simp))
    obtain⟨t,x,y,ho,hn,Y,I⟩:=cw;simp only[qf,qm]at eJ;split at eJ
    .rename_i mm v hl e2
     cases hk:(Ix mm n&&Ix v.flat.length n&&v.flat.all qk)with
     |false=>rw[hk]at eJ;cases eJ
     |true=>
      rw[hk]at eJ;simp only[cond_true,val,En.injEq]at eJ;subst eJ;simp only[Hc]at hk;obtain⟨⟨k1,k2⟩,k3⟩:=hk;obtain rfl:=Hq k1;obtain⟨w',C',ω',bJ,cY,m',e'⟩:=jej m he ho hn Y I hl e2 (Hq k2) k3;refine⟨fun _ _=>trivial,?_⟩;rw[Oper.semAt_eq _ _ _ (fun c hc=>by rw[ho]at hc;cases hc),bJ];have Oo:o.dst=Ig:=(Q.Jq sv oH).1;refine hK _ _ ?_;rw[Oo,hdd];exact⟨dj,C',ω',aV.le_trans hle cY,lR.mono cY,m',e'⟩
    .cases eJ
   |none=>
   have tB:ao.dst=o.dst:=by rw[Q.dst];cases zE:ao.op<;>rw[zE]at oH<;>first|rfl|simp[cI.iK]at oH
   have bJ:yj P C1 C0 w0 a (.slot (o.dst.getD 0)) st.env o w res:=by
    cases hc:cW P h md r o.dst o.op with
    |none=>rw[hc]at hop;simp only[Ebi]at hop;rw[<-hop]at eJ;simp[qf,qm]at eJ|some cP=>rw[hc]at hop;simp only[Um]at hop;subst hop;exact jxf eV M m he oH hc eJ
   have fin:∀v w',zn P C0 w0 C1 a.tmps (.slot (o.dst.getD 0)) st.env res v w'->K (a.put o.dst v) w':=by
    rintro v w' ⟨C2,ω2,Y,I,h3,h4,h5⟩;exact hK _ _ (jh3 (st:=st) tB Q.fits dj (lR.mono Y) (aV.le_trans hle Y) I h3 h4 h5)
   refine⟨fun _ _=>trivial,?_⟩
   rw[Oper.semAt_eq _ _ _ (fun c hc=>by
    rw[hc]at hop;simp only[cW,Ebi]at hop;rw[<-hop]at eJ
    simp[qf,qm]at eJ)]
   rcases bJ with⟨v,w',Y,I⟩|⟨w',Y,I⟩|⟨f,args,Y,I⟩|⟨l,f,tmps,assign,body,Y,I⟩
   .rw[Y];exact fin v w' I
   .rw[Y];exact fin undef w' I
   .rw[Y];refine⟨fun h=>by simp[jV,Fence.wide]at h,CallsIn.mono (q0m.2 I) ?_⟩;rintro e w' ⟨v,rfl,iG⟩;exact fin v w' iG
   .rw[Y];have il:RoundIn (jV ρ) 0 P l f tmps assign body w _:=I;refine⟨fun h=>by simp[jV,Fence.wide]at h,RoundIn.mono il ?_⟩;rintro e w' ⟨v,rfl,iG⟩;exact fin v w' iG
  .cases G
 .rename_i hg;cases G;rw[q43 he Q.guard hg];simp only[J1,if_false]
  have tB:ao.dst=o.dst:=by
   cases oH:ao.op.iK with
   |none=>rw[Q.dst];cases zE:ao.op<;>rw[zE]at oH<;>first|rfl|simp[cI.iK]at oH
   |some sv=>
    have Y:=Q.guard;rw[(Q.Jq sv oH).2]at Y;simp only[AX,En.injEq]at Y;rw[<-Y]at hg;simp[oy]at hg
  exact⟨fun _ _=>trivial,hK _ _ (jh3 (st:=st) tB Q.fits dj lR hle m he .undef (by simp))⟩
 .cases G
inductive nw (P:Program)(nt:Nat)(ops:Array Oper):List Nat->List bX->Prop where
 |nil:nw P nt ops [] []
 |cons {i:Nat} {o:Oper} {ao:bX} {l:List Nat} {lo:List bX} (hi:ops[i]?=En o) (h:Jp P nt ops o ao) (t:nw P nt ops l lo):nw P nt ops (i::l) (ao::lo)
theorem jch (eV:b8 P p)(M:cL P xc){aaj bH}(hQ:∀a' w',dD P w0 C0 C nt bH a' w'->aaj .normal a' w'):∀ {l:List Nat} {lo:List bX} {st:bg} {a:Act} {w:World},nw P nt ops l lo->fT p xc h0 lo st=En bH->dD P w0 C0 C nt st a w->wpOpsIn (jV ρ) 0 P ops aaj l a w
 | [],_,st,a,w,.nil,G,cw=>by
  simp only[fT,En.injEq]at G;subst G;exact hQ _ _ cw
 |i::l,_,st,a,w,.cons hi h t,G,cw=>by
  simp only[fT]at G;split at G
  .rename_i s1 Y;rw[wpOpsIn_cons];exact jcf eV M hi h Y cw fun a' w' iQ=>jch eV M hQ t G iQ
  .cases G
theorem q47 {h id jC draw}:∀ {os:List Oper} {i:Nat} {rs FH:List (Nat×Nat)} {l:List bX},Ia P h nt id ops jC draw os i rs=En (l,FH)->(∀j,os[j]?=ops[i+j]?)->nw P nt ops (List.range' i os.length) l
 | [],i,rs,FH,l,hc,_=>by
  simp only[Ia,En.injEq,T9.injEq]at hc;rw[<-hc.1];exact .nil
 |o::os,i,rs,FH,l,hc,hos=>by
  simp only[Ia]at hc;split at hc
  .rename_i g hg;split at hc
   .rename_i cJ;split at hc
    .rename_i l1 rs1 Js;simp only[En.injEq,T9.injEq]at hc;rw[<-hc.1];simp only[Hc]at cJ;obtain⟨⟨F8,F9⟩,hf3⟩:=cJ;refine .cons (o:=o) (by rw[<-Ebc i,<-hos 0];rfl) ⟨⟨h,T8 h id i,rs.length,rfl⟩,hg,rfl,fun d hd=>?_,fun d hd=>?_,fun d hd=>?_⟩ ?_
     .rw[hd]at F8;simpa using F8
     .simp only at hd;rw[hd]at F9;simpa using F9
     .simp only at hd;rw[hd]at hf3;simpa using hf3
     .exact q47 Js (fun j=>by rw[show i+1+j=i+(j+1)from by omega,<-hos (j+1)];rfl)
    .cases hc
   .cases hc
  .cases hc
theorem aA.holes {ω w hp}(m:aA P C ω w0 C0 hp w)(n:Nat):aA P C ω w0 C0 (hp++Ead n .hole) w:=
 { m with
  lt:=fun b r hb=>⟨(m.lt b r hb).1,by rw[List.length_append];have:=(m.lt b r hb).2;omega⟩
  box:=fun b x r M hb=>m.box b x r (by rw[List.getElem?_append_left (m.lt b r hb).2]at M;exact M) hb }
theorem q8y {l e s x}:jp s (sM e l)=En x->jp s e=En x:=by
 induction l with
 |nil=>simp[sM,jp]
 |cons t l ih=>
  intro h;simp only[sM]at h;split at h
  .rename_i y hy;by_cases cw:s=t
   .subst cw;rw[F6]at h;rw[hy];exact h
   .rw[Ol cw]at h;exact ih h
  .exact ih h
theorem dD.keep {st a w k}(h:dD P w0 C0 C nt st a w):dD P w0 C0 C nt (AU st k) a w:=by
 cases k with
 |none=>exact h
 |some l=>
  obtain⟨Y,C',ω',h3,I,h4,h5⟩:=h;exact⟨Y,C',ω',h3,I,h4,fun s x M=>h5 s x (q8y M)⟩
theorem qxc {listed:Array Bool}{i j d}:(listed.setIfInBounds i H2).getD j d=if i=j/\j<listed.size then H2 else listed.getD j d:=by
 simp only[Iy,Array.getElem?_setIfInBounds];by_cases wZ:i=j
 .subst wZ;by_cases hl:i<listed.size
  .simp[hl]
  .simp[hl]
 .simp[wZ]
theorem kK.Jt {a b}(h:kK a b):kK b a:=⟨h.1.symm,fun s=>(h.2 s).symm⟩
def pick (full:List bX)(l:List Nat):List bX:=l.map fun i=>full.getD i default
theorem nw.get {l lo}(h:nw P nt ops l lo):l.length=lo.length/\∀k i,l[k]?=En i->∃o,ops[i]?=En o/\Jp P nt ops o (lo.getD k default):=by
 induction h with
 |nil=>exact⟨rfl,by simp⟩
 |cons hi h t ih=>
  refine⟨by simp[ih.1],fun k i hk=>?_⟩
  cases k with
  |zero=>simp at hk;subst hk;exact⟨_,hi,h⟩|succ k=>simp at hk;obtain⟨o,Y,I⟩:=ih.2 k i hk;exact⟨o,Y,by simpa using I⟩
theorem jwt {full:List bX}{jC:Array Nat}(eV:b8 P p)(M:cL P xc){aaj bH}(hQ:∀a' w',dD P w0 C0 C nt bH a' w'->aaj .normal a' w')
  (tC:∀i o,ops[i]?=En o->Jp P nt ops o (full.getD i default)) (Ju:∀i j,i<j->j<ops.size->(jC.getD j 0).testBit i=Ir->A0 (full.getD i default) (full.getD j default)=H2)
  (Vz:∀j o i,ops[j]?=En o->i<ops.size->(jC.getD j 0).testBit i=H2->∃e∈o.after,Region.binds .any e=H2/\(e.on=i\/(jC.getD e.on 0).testBit i=H2))
  (Jv:∀i o,ops[i]?=En o->∀e∈o.after,Region.binds .any e=H2->e.on<i):
  ∀(fuel:Nat) (listed:Array Bool) (l:List Nat) (st s2:bg) (a:Act) (w:World),listed.size=ops.size->l.Pairwise (· < ·)->(∀i,i∈l↔i<ops.size/\listed.getD i H2=Ir)->l.length<=fuel ->
   (∀k i,i<ops.size->listed.getD k Ir=H2->(jC.getD k 0).testBit i=H2->listed.getD i Ir=H2)->fT p xc h0 (pick full l) st=En s2->kK s2 bH->dD P w0 C0 C nt st a w->wpAnyIn (jV ρ) 0 P .any ops aaj fuel listed a w:=by
 intro fuel
 induction fuel with
 |zero=>
  intro listed l st s2 a w dj gM du hlen lT G heq cw;have hl:l=[]:=R1.1 (by omega);subst hl;simp only[pick,Ebq,fT,En.injEq]at G;subst G;refine⟨?_,hQ _ _ (cw.eqv heq)⟩
  cases Q:Region.ready .any ops listed with
  |nil=>rfl
  |cons i rs=>
   have hi:i∈Region.ready .any ops listed:=by rw[Q];simp
   obtain⟨Y,o,ho,_⟩:=mem_ready.1 hi;have:=(du i).2 ⟨(Ij.1 ho).1,Y⟩;cases this
 |succ fuel ih=>
  intro listed l st s2 a w dj gM du hlen lT G heq cw;refine⟨fun Q=>?_,fun i hi=>?_⟩
  .cases l with
   |nil=>
    simp only[pick,Ebq,fT,En.injEq]at G;subst G;exact hQ _ _ (cw.eqv heq)
   |cons i l=>
    exfalso;obtain⟨Y,I⟩:=(du i).1 (by simp)
    have hi:i∈Region.ready .any ops listed:=by
     refine mem_ready.2 ⟨I,ops[i],Ty Y,fun e he hb=>?_⟩;have aW:=Jv i _ (Ty Y) e he hb
     have bN:e.on ∉ i::l:=fun hm=>by
      rcases Xn.1 hm with h|h
      .omega
      .have:=(Eaz.1 gM).1 _ h;omega
     have h3:¬(listed.getD e.on H2=Ir):=fun h=>bN ((du e.on).2 ⟨by omega,h⟩)
     have tD:e.on<listed.size:=by omega
     simp only[Iy,Ty tD,Um]at h3 ⊢;simpa using h3
    rw[Q]at hi;cases hi
  .obtain⟨Y,o,ho,hall⟩:=mem_ready.1 hi;have aW:=(Ij.1 ho).1;have him:i∈l:=(du i).2 ⟨aW,Y⟩;obtain⟨l1,l2,rfl⟩:=List.append_of_mem him
   have VA:∀k,k∈l1++i::l2->listed.getD k Ir=H2->False:=fun k hk hl=>by
    obtain⟨k1,k2⟩:=(du k).1 hk
    have tD:k<listed.size:=by omega
    simp only[Iy,Ty tD,Um]at hl k2;rw[hl]at k2;cases k2
   have hbi:∀k,k<ops.size->(jC.getD i 0).testBit k=H2->listed.getD k Ir=H2:=fun k hk hb=>by
    obtain⟨e,he,mJ,I|I⟩:=Vz i o k ho hk hb
    .rw[<-I];exact hall e he mJ
    .exact lT e.on k hk (hall e he mJ) I
   have hm:∀b∈pick full l1,A0 b (full.getD i default)=H2:=by
    intro b hb;obtain⟨k,hk,rfl⟩:=Ebp.1 hb;have Bw:k<i:=(Eat.1 gM).2.2 k hk i (by simp);refine Ju k i Bw aW ?_
    cases VB:(jC.getD i 0).testBit k with
    |false=>rfl|true=>exact(VA k (by simp[hk]) (hbi k (by omega) VB)).elim
   have VC:pick full (l1++i::l2)=pick full l1++full.getD i default::pick full l2:=by simp[pick]
   rw[VC]at G;obtain⟨t1,t2,g1,g2,g3⟩:=q14 hm G;refine jcf eV M ho (tC i o ho) g1 cw fun a' w' iQ=>?_;refine ih (listed.setIfInBounds i H2) (l1++l2) t1 t2 a' w' (by simpa using dj) ?_ ?_ ?_ ?_ (by rw[show pick full (l1++l2)=pick full l1++pick full l2 from by simp[pick]];exact g2) (kK.trans (kK.Jt g3) heq) iQ
   .exact gM.sublist (Ebr.append (Ebr.refl _) (List.sublist_cons_self _ _))
   .intro k;rw[qxc]
    have Jw:i ∉ l1/\i ∉ l2:=by
     have h:=Eat.1 gM;refine⟨fun hi1=>?_,fun hi2=>?_⟩
     .have:=h.2.2 i hi1 i (by simp);omega
     .have:=(Eaz.1 h.2.1).1 i hi2;omega
    constructor
    .intro hk
     have Bw:k≠i:=fun h=>by
      subst h;rcases Xc.1 hk with h|h
      .exact Jw.1 h
      .exact Jw.2 h
     have:=(du k).1 (by rcases Xc.1 hk with h|h<;>simp[h]);rw[if_neg (by omega)];exact this
    .rintro ⟨k1,k2⟩;split at k2
     .cases k2
     .rename_i bN;have Bw:k≠i:=fun h=>bN ⟨h.symm,by omega⟩;have:=(du k).2 ⟨k1,k2⟩;rcases Xc.1 this with h|h
      .simp[h]
      .rcases Xn.1 h with h|h
       .exact absurd h Bw
       .simp[h]
   .simp at hlen ⊢;omega
   .intro k j hj hk hb;rw[qxc]at hk ⊢;split
    .rfl
    .split at hk
     .rename_i VD;rw[<-VD.1]at hb;exact hbi j hj hb
     .exact lT k j hj hk hb
theorem jbw {jC l}(h:Ub jC l=H2){i j}(wZ:i<j)(hj:j<l.length)(hb:(jC.getD j 0).testBit i=Ir):A0 (l.getD i default) (l.getD j default)=H2:=by
 unfold Ub at h;rw[Ld]at h;have Y:=h (l[j],j) (St.2 (by simp[hj]));simp only[]at Y;rw[Ld]at Y;have I:=Y (l[i]'(by omega),i) (St.2 (by simp));simp only[wZ,hb,decide_true,Eaw,Eaa]at I;simp only[List.getD_eq_getElem?_getD,Lu hj,Lu (show i<l.length by omega),Um];exact I
theorem jhl {jC}(h:Ud jC ops=H2){j i o}(ho:ops[j]?=En o)(hi:i<ops.size)(hb:(jC.getD j 0).testBit i=H2):∃e∈o.after,Region.binds .any e=H2/\(e.on=i\/(jC.getD e.on 0).testBit i=H2):=by
 unfold Ud at h;rw[Ld]at h;have Y:=h (o,j) (St.2 (by simpa using ho));simp only[]at Y;rw[Ld]at Y;have I:=Y i (Ebn.2 hi);rw[hb]at I;simp only[Eaw,Eaa,Array.any_eq_true']at I;obtain⟨e,he,h3⟩:=I;simp only[Hc,Uy,beq_iff_eq]at h3;exact⟨e,he,h3.1,h3.2⟩
theorem q9h (h:Uc ops=H2){i o}(ho:ops[i]?=En o):∀e∈o.after,Region.binds .any e=H2->e.on<i:=by
 intro e he hb;unfold Uc at h;rw[Ld]at h;have Y:=h (o,i) (St.2 (by simpa using ho));simp only[Eba]at Y;have:=Y e he;simpa[hb]using this
theorem jjr (eV:b8 P p)(M:cL P xc){id:Nat}{draw:Bool}{ca h na l keep}(hc:Ic P h nt id ops draw=En ca)(eC:ca=.region na l keep){st bH x}(G:mF p xc na l keep st=En (x,bH)){ω a w}
  (m:aA P C ω w0 C0 st.heap w) (he:ar C ω w w0.heap.size st.env a.tmps) (dj:a.tmps.size=nt) (lR:Marks C w0.heap.size a.defers):
  (Code.region id ops draw).wpIn (jV ρ) 0 P (fun e a' w'=>e=Bm x/\dD P w0 C0 C nt bH a' w') a w:=by
 subst eC;unfold Ic at hc;split at hc
 .rename_i l' rs hl;split at hc
  .rename_i hd;simp only[En.injEq,bn.region.injEq]at hc;obtain⟨rfl,rfl,pD⟩:=hc;unfold mF at G;split at G
   .rename_i s1 Y;cases G
    have zF:nw P nt ops (List.range' 0 ops.size) l':=by
     have:=q47 hl (ops:=ops) (fun j=>by simp);simpa using this
    have hQ:∀a' w',dD P w0 C0 C nt s1 a' w'->(fun e a' w'=>e=Bm .normal/\dD P w0 C0 C nt (AU s1 keep) a' w') Exit.normal a' w':=fun a' w' cw=>⟨rfl,cw.keep⟩
    cases draw with
    |false=>
     refine wpIn_region ?_;rw[List.range_eq_range'];exact jch eV M hQ zF Y ⟨dj,C,ω,aV.le_refl C,lR,m.holes _,he⟩
    |true=>
     simp only[Eaw,Eaa,Hc]at hd;obtain⟨⟨d1,d2⟩,d3⟩:=hd;refine wpIn_region_any eV.mixed ?_;obtain⟨hlen,VE⟩:=zF.get
     have hlen':l'.length=ops.size:=by rw[<-hlen];simp
     have tC:∀i o,ops[i]?=En o->Jp P nt ops o (l'.getD i default):=by
      intro i o ho;have hi:=(Ij.1 ho).1;obtain⟨o',I,h3⟩:=VE i i (by rw[List.getElem?_range' hi];simp);rw[ho]at I;cases I;exact h3
     have VC:pick l' (Tx ops.size)=l':=by
      apply Eak;intro k;simp only[pick,Rn];by_cases hk:k<ops.size
      .rw[N6 hk];simp[Lu (show k<l'.length by omega)]
      .rw[Ear (by simpa using hk),Ear (by omega)];rfl
     refine jwt (jC:=Region.before ops) (full:=l') eV M hQ tC (fun i j I h3 h4=>jbw d1 I (by omega) h4) (fun j o i I h3 h4=>jhl d3 I h3 h4) (fun i o I=>q9h d2 I) ops.size _ (Tx ops.size) ⟨st.env,st.heap++Ead rs.length .hole⟩ s1 a _ (by simp) List.pairwise_lt_range ?_ (by simp) ?_ (by rw[VC];exact Y) (kK.refl _) ⟨dj,C,ω,aV.le_refl C,lR,(m.holes _).ext (Ext.drew w),he.ext (Ext.drew w)⟩
     .intro i;simp only[Ebn,Iy,Eal];constructor
      .intro hi;exact⟨hi,by simp[hi]⟩
      .exact fun hi=>hi.1
     .intro k i hi hk;simp only[Iy,Eal]at hk;split at hk<;>simp at hk
   .cases G
  .cases hc
 .cases hc
end
section
variable {P:Program}{C C0:aV}{ω:Nat->Option Loc}{w w0:World}{hp:qh}{env:Env}{a:Act}{ρ:Option Nat}
theorem xi {a:Act}{d:Nat}{v:Value}(h:d<a.tmps.size):(a.put (En d) v).eval (.tmp d)=v:=by
 simp[Act.eval,Act.put,Iy,h]
theorem qN {a:Act}{d j:Nat}{v:Value}(h:d≠j):(a.put (En d) v).eval (.tmp j)=a.eval (.tmp j):=by
 simp[Act.eval,Act.put,Iy,Uk h]
theorem tE {a:Act}{d:Nat}{v:Value}:(a.put (En d) v).tmps.size=a.tmps.size:=by simp[Act.put]
theorem vC {ops:Array Oper}{aaj:Exit->Act->World->Prop}{i d:Nat}{rest:List Nat}{o:Oper}{v:Value}{w':World}(hi:ops[i]?=En o)(hg:o.guard=Ig)(hd:o.dst=En d)(hn:∀c,o.op≠.defer c)(bJ:(execOp a.eval o).run P w=.ok (.value v) w')
  (hk:wpOpsIn (jV ρ) 0 P ops aaj rest (a.put (En d) v) w'):wpOpsIn (jV ρ) 0 P ops aaj (i::rest) a w:=by
 rw[wpOpsIn_cons];unfold wpOpIn;rw[hi];simp only[];rw[show Region.wanted o (yielded ops a.tmps)=H2 from by simp[Region.wanted,hg]];simp only[if_true];refine⟨fun _ _=>trivial,?_⟩;rw[Oper.semAt_eq _ _ _ hn,bJ];rw[<-hd]at hk;exact hk
theorem Oq {s d:Nat}{o:Oper}(h:FJ s d o=H2):o.op=.move (.tmp s)/\o.dst=En d/\o.guard=Ig:=by
 unfold FJ at h;split at h
 .rename_i Y I h3;simp only[Hc,beq_iff_eq]at h;obtain⟨rfl,rfl⟩:=h;exact⟨Y,I,h3⟩
 .cases h
theorem q85 {s d:Nat}{o:Oper}(h:Ue s d o=H2):o.op=.assign (.tmp s)/\o.dst=En d/\o.guard=Ig:=by
 unfold Ue at h;split at h
 .rename_i Y I h3;simp only[Hc,beq_iff_eq]at h;obtain⟨rfl,rfl⟩:=h;exact⟨Y,I,h3⟩
 .cases h
theorem joy {x d:Nat}{o:Oper}{t:TypeId}(h:Uf x d o=En t):∃c,o.op=.call c/\c.callee=.builtin .cap/\c.args=#[.tmp x]/\c.argTypes=#[t]/\o.dst=En d/\o.guard=Ig:=by
 unfold Uf at h;split at h
 .rename_i c _ Y I h3;split at h
  .rename_i h4 h5 h6;split at h
   .rename_i hk;simp only[Hc,beq_iff_eq]at hk;obtain⟨rfl,rfl⟩:=hk;cases h;exact⟨c,Y,h4,by apply R2;simpa using h5,by apply R2;simpa using h6,I,h3⟩
   .cases h
  .cases h
 .cases h
theorem jl8 {x d:Nat}{o:Oper}{t:TypeId}(h:Ug x d o=En t):∃c,o.op=.call c/\c.callee=.builtin .len/\c.args=#[.tmp x]/\c.argTypes=#[t]/\o.dst=En d/\o.guard=Ig:=by
 unfold Ug at h;split at h
 .rename_i c _ Y I h3;split at h
  .rename_i h4 h5 h6;split at h
   .rename_i hk;simp only[Hc,beq_iff_eq]at hk;obtain⟨rfl,rfl⟩:=hk;cases h;exact⟨c,Y,h4,by apply R2;simpa using h5,by apply R2;simpa using h6,I,h3⟩
   .cases h
  .cases h
 .cases h
theorem q7o {x h d:Nat}{o:Oper}{t:TypeId}(hh:NN x h d o=En t):o.op=.slice t (.tmp x) Ig (En (.tmp h)) Ig/\o.dst=En d/\o.guard=Ig:=by
 unfold NN at hh;split at hh
 .rename_i Y I h3;split at hh
  .rename_i hk;simp only[Hc,beq_iff_eq]at hk;obtain⟨⟨rfl,rfl⟩,rfl⟩:=hk;cases hh;exact⟨Y,I,h3⟩
  .cases hh
 .cases hh
theorem jl5 {x y d:Nat}{o:Oper}{t u:TypeId}(h:jpg x y d o=En (t,u)):∃c,o.op=.call c/\c.callee=.builtin .append/\c.args=#[.tmp x,.tmp y]/\c.argTypes=#[t,u]/\o.dst=En d/\o.guard=Ig:=by
 unfold jpg at h;split at h
 .rename_i c _ Y I h3;split at h
  .rename_i h4 h5 h6;split at h
   .rename_i hk;simp only[Hc,beq_iff_eq]at hk;obtain⟨⟨rfl,rfl⟩,rfl⟩:=hk;cases h;exact⟨c,Y,h4,by apply R2;simpa using h5,by apply R2;simpa using h6,I,h3⟩
   .cases h
  .cases h
 .cases h
theorem jdr {o:Oper}{t e:TypeId}{x h:Nat}{b:Option Addr}{len cap n:Nat}(ho:o.op=.slice t (.tmp x) Ig (En (.tmp h)) Ig)(ht:P.underlying t=En (.slice e)){sz:Nat}(hn:jt P e=En sz)(M:a.eval (.tmp x)=.slice b len cap)(hh:a.eval (.tmp h)=.int .i64 (n:Int))(hle:n<=cap):
  (execOp a.eval o).run P w=.ok (.value (.slice (if cap=0 then b else b.map (·.add 0)) n cap)) w:=by
 have hb:(0:Int)<=n/\(n:Int)<=cap:=by omega
 simp[execOp,ho,Instr.sliceAt,Instr.slice,run_underlying ht,M,Instr.sliceBounds,hh,Instr.sliceBound,asIntOf,hle,yt hn]
theorem jvv {id nt:Nat}{ops:Array Oper}{sz:Nat}(hg:Ie P nt ops=En sz)(m:aA P C ω w0 C0 hp w)(he:ar C ω w w0.heap.size env a.tmps)(dj:a.tmps.size=nt)(zG:Marks C w0.heap.size a.defers){z k:Nat}{xs:List AVal}{o1 o2:Bool}
  (h0:jp 0 env=En (.list H2 z xs,o1)) (Y:jp 1 env=En (.int .i64 (.ofNat k),o2)) (hk0:0<k) (hZ:k<=1073741824):
  (Code.region id ops Ir).wpIn (jV ρ) 0 P (fun e a' w'=>e=.normal/\dD P w0 C0 C nt ⟨[(0,.list Ir sz [],H2)],hp⟩ a' w') a w:=by
 unfold Ie at hg;split at hg
 .rename_i t u rZ;split at hg
  .rename_i e kk ht hu;split at hg
   .rename_i i hi;split at hg
    .rename_i hc;cases hg;simp only[Hc,decide_eq_true_eq,Option.isSome_iff_exists,beq_iff_eq]at hc;obtain⟨⟨⟨⟨⟨⟨zv,hz⟩,Ot⟩,VF⟩,hnt⟩,⟨zl,iM⟩⟩,sT⟩:=hc
     have zH:jt P e=En i.size:=by simp[jt,hi]
     unfold jro at rZ;split at rZ
     .rename_i p0 p1 p2 p3 p4 p5 p6 p7 p8 p9 VG;split at rZ
      .rename_i t2 t3 tt uu t7 t8 g2 g3 g5 g7 g8;split at rZ
       .rename_i dQ;cases rZ;simp only[Hc,beq_iff_eq]at dQ;obtain⟨⟨⟨⟨⟨⟨⟨⟨c0,c1⟩,c4⟩,c6⟩,c9⟩,x2⟩,x3⟩,x7⟩,x8⟩:=dQ;replace x2:=x2.symm;replace x3:=x3.symm;replace x7:=x7.symm;replace x8:=x8.symm;subst x2;subst x3;subst x7;subst x8
        have Jx:ops=#[p0,p1,p2,p3,p4,p5,p6,p7,p8,p9]:=by apply R2;simpa using VG
        subst Jx;obtain⟨v0,q0,r0,_⟩:=he 0 _ h0;obtain⟨v1,q1,r1,_⟩:=he 1 _ Y
        have jF:v0=.slice Ig 0 0:=by
         rcases r0.cU with⟨_,_,h⟩|⟨h,_⟩|⟨h,_⟩
         .exact h
         .cases h
         .cases h
        have pA:v1=.int .i64 (k:Int):=by cases r1;rfl
        subst jF;subst pA
        have hl:26<=a.tmps.size:=by omega
        have e0:a.eval (.tmp 0)=.slice Ig 0 0:=by simp[Act.eval,Iy,q0]
        have e1:a.eval (.tmp 1)=.int .i64 (k:Int):=by simp[Act.eval,Iy,q1]
        obtain⟨O,a0d,a0g⟩:=Oq c0;obtain⟨J,a1d,a1g⟩:=Oq c1;obtain⟨cc2,a2,b2,b2a,b2t,a2d,a2g⟩:=joy g2;obtain⟨a3,a3d,a3g⟩:=q7o g3;obtain⟨a4,a4d,a4g⟩:=Oq c4;obtain⟨cc5,a5,b5,b5a,b5t,a5d,a5g⟩:=jl5 g5;obtain⟨a6,a6d,a6g⟩:=Oq c6;obtain⟨cc7,a7,b7,b7a,b7t,a7d,a7g⟩:=jl8 g7;obtain⟨a8,a8d,a8g⟩:=q7o g8;obtain⟨a9,a9d,a9g⟩:=q85 c9;refine wpIn_region ?_;rw[show Tx (#[p0,p1,p2,p3,p4,p5,p6,p7,p8,p9]:Array Oper).size=[0,1,2,3,4,5,6,7,8,9]from rfl];refine vC (o:=p0) rfl a0g a0d (by simp[O]) (v:=.slice Ig 0 0) (w':=w) (by simp[execOp,O,e0]) ?_;refine vC (o:=p1) rfl a1g a1d (by simp[J]) (v:=.slice Ig 0 0) (w':=w) (by simp[execOp,J,qN,e0]) ?_;refine vC (o:=p2) rfl a2g a2d (by simp[a2]) (v:=.int .i64 0) (w':=w) ?_ ?_
        .have:(((a.put (En 17) (.slice Ig 0 0)).put (En 18) (.slice Ig 0 0))).eval (.tmp 18)=.slice Ig 0 0:=xi (by rw[tE];omega);simp[execOp,a2,resolve,b2,b2a,b2t,invoke,builtin,Builtin.cap_,run_underlying ht,this,goInt]
        refine vC (o:=p3) rfl a3g a3d (by simp[a3]) (v:=.slice Ig 0 0) (w':=w) ?_ ?_
        .have oL:((((a.put (En 17) (.slice Ig 0 0)).put (En 18) (.slice Ig 0 0))).put (En 19) (.int .i64 0)).eval (.tmp 17)=.slice Ig 0 0:=by
          rw[qN (by omega),qN (by omega),xi (by omega)]
         have pK:((((a.put (En 17) (.slice Ig 0 0)).put (En 18) (.slice Ig 0 0))).put (En 19) (.int .i64 0)).eval (.tmp 19)=.int .i64 ((0:Nat):Int):=by
          rw[xi (by rw[tE,tE];omega)];rfl
         have:=jdr (P:=P) (w:=w) (o:=p3) a3 ht zH oL pK (Eaf 0);simpa using this
        refine vC (o:=p4) rfl a4g a4d (by simp[a4]) (v:=.int .i64 (k:Int)) (w':=w) (by simp[execOp,a4,qN,e1]) ?_
        have ik:=Lib.run_append_nil_zeros w t u p5.type e i zv .i64 kk ht hu hi hz k hk0 Ot (by omega) (by
         have:k*i.bytes<=1073741824*4096:=Nat.mul_le_mul hZ VF
         omega)
        refine vC (o:=p5) rfl a5g a5d (by simp[a5]) (v:=.slice (En ⟨w.heap.size,0,Ig⟩) k (grownCap w k 0 e)) (w':=w.drew.alloc (.cells (Builtin.zeroCells zv.cells k++Builtin.zeroCells zv.cells (grownCap w k 0 e-k)) e)) ?_ ?_
        .generalize hA:(((((a.put (En 17) (.slice Ig 0 0)).put (En 18) (.slice Ig 0 0)).put (En 19) (.int .i64 0)).put (En 20) (.slice Ig 0 0)).put (En 21) (.int .i64 (k:Int)))=A
         have nx:A.eval (.tmp 20)=.slice Ig 0 0:=by
          rw[<-hA,qN (by omega),xi (by simp only[tE];omega)]
         have iq:A.eval (.tmp 21)=.int .i64 (k:Int):=by
          rw[<-hA,xi (by simp only[tE];omega)]
         simp[execOp,a5,resolve,b5,b5a,b5t,invoke,builtin,nx,iq,ik]
        generalize hW:w.drew.alloc (.cells (Builtin.zeroCells zv.cells k++Builtin.zeroCells zv.cells (grownCap w k 0 e-k)) e)=W;generalize hA:(((((a.put (En 17) (.slice Ig 0 0)).put (En 18) (.slice Ig 0 0)).put (En 19) (.int .i64 0)).put (En 20) (.slice Ig 0 0)).put (En 21) (.int .i64 (k:Int)))=A
        have hA0:A.eval (.tmp 0)=.slice Ig 0 0:=by rw[<-hA];simp only[qN (show(21:Nat)≠0 by omega),qN (show(20:Nat)≠0 by omega),qN (show(19:Nat)≠0 by omega),qN (show(18:Nat)≠0 by omega),qN (show(17:Nat)≠0 by omega),e0]
        have hAs:A.tmps.size=a.tmps.size:=by rw[<-hA];simp only[tE]
        have hAd:A.defers=a.defers:=by rw[<-hA];rfl
        generalize hcp:grownCap w k 0 e=cp
        have hcap:k<=cp:=by rw[<-hcp];simpa using grownCap_ge w k 0 e
        refine vC (o:=p6) rfl a6g a6d (by simp[a6]) (v:=.slice Ig 0 0) (w':=W) (by simp[execOp,a6,qN,hA0]) ?_;refine vC (o:=p7) rfl a7g a7d (by simp[a7]) (v:=.int .i64 0) (w':=W) ?_ ?_
        .generalize hB:((A.put (En 22) (.slice (En ⟨w.heap.size,0,Ig⟩) k cp)).put (En 23) (.slice Ig 0 0))=B
         have pL:B.eval (.tmp 23)=.slice Ig 0 0:=by
          rw[<-hB,xi (by rw[tE];omega)]
         simp[execOp,a7,resolve,b7,b7a,b7t,invoke,builtin,Builtin.len_,run_underlying ht,pL,goInt]
        refine vC (o:=p8) rfl a8g a8d (by simp[a8]) (v:=.slice (En ⟨w.heap.size,0,Ig⟩) 0 cp) (w':=W) ?_ ?_
        .generalize hB:(((A.put (En 22) (.slice (En ⟨w.heap.size,0,Ig⟩) k cp)).put (En 23) (.slice Ig 0 0)).put (En 24) (.int .i64 0))=B
         have gj:B.eval (.tmp 22)=.slice (En ⟨w.heap.size,0,Ig⟩) k cp:=by
          rw[<-hB,qN (by omega),qN (by omega),xi (by omega)]
         have lu:B.eval (.tmp 24)=.int .i64 ((0:Nat):Int):=by
          rw[<-hB,xi (by simp only[tE];omega)];rfl
         have:=jdr (P:=P) (w:=W) (o:=p8) a8 ht zH gj lu (Nat.zero_le cp);rw[if_neg (by omega)]at this;simp only[Option.map_some,add_lit,Ebc]at this;exact this
        refine vC (o:=p9) rfl a9g a9d (by simp[a9]) (v:=.slice (En ⟨w.heap.size,0,Ig⟩) 0 cp) (w':=W) ?_ ?_
        .have qO:((((A.put (En 22) (.slice (En ⟨w.heap.size,0,Ig⟩) k cp)).put (En 23) (.slice Ig 0 0)).put (En 24) (.int .i64 0)).put (En 25) (.slice (En ⟨w.heap.size,0,Ig⟩) 0 cp)).eval (.tmp 25)=.slice (En ⟨w.heap.size,0,Ig⟩) 0 cp:=by
          rw[xi (by simp only[tE];omega)]
         simp[execOp,a9,qO]
        -- the end
        have hxd:=Ext.drew w;obtain⟨zs,zvr,Jy,cV,mZ⟩:=vn (C:=C) iM
        have oC:zv.cells.size=i.size:=by
         have h3:zl.length=i.size:=by rw[iM]at sT;simpa using sT
         have h4:=cV.length
         have h5:zvr=zv:=by
          have:=Jy w;simp[zeroValue,typeInfo,hi,hz]at this;exact this.symm
         subst h5;simp only[Eav]at h4;omega
        have iG:=N0 (d:=.slot 0) (tmps:=a.tmps) (m.ext hxd) (he.ext hxd) (Builtin.zeroCells zv.cells k++Builtin.zeroCells zv.cells (cp-k)) e [] i.size cp [] (by simpa using aO.nil) (by simp) (by simp) (by simp) (by simp) (by
         have hlen:∀n,(Builtin.zeroCells zv.cells n).size=n*i.size:=fun n=>by simp[Builtin.zeroCells,oC]
         rw[Array.size_append,hlen,hlen,<-Nat.add_mul]
         exact Nat.mul_le_mul_right _ (by omega)) Ig
        rw[hcp]at hW;rw[hW]at iG;have hd0:w.drew.heap.size=w.heap.size:=rfl;rw[hd0]at iG;simp only[List.length_nil]at iG;clear hW hA0 Jy cV;generalize hB:(((A.put (En 22) (.slice (En ⟨w.heap.size,0,Ig⟩) k cp)).put (En 23) (.slice Ig 0 0)).put (En 24) (.int .i64 0)).put (En 25) (.slice (En ⟨w.heap.size,0,Ig⟩) 0 cp)=B
        have hBs:B.tmps.size=a.tmps.size:=by rw[<-hB];simp only[tE];omega
        have hBd:B.defers=a.defers:=by rw[<-hB,<-hAd];rfl
        obtain⟨C',ω',k1,k2,k3,k4,k5⟩:=iG
        have ny:dD P w0 C0 C nt ⟨[(0,.list Ir i.size [],H2)],hp⟩ (B.put (En 0) (.slice (En ⟨w.heap.size,0,Ig⟩) 0 cp)) W:=by
         refine⟨by rw[tE];omega,C',ω',k1,?_,k2,?_⟩
         .rw[show(B.put (En 0) (.slice (En ⟨w.heap.size,0,Ig⟩) 0 cp)).defers=B.defers from rfl,hBd];exact zG.mono k1
         .intro s x M;simp only[jp]at M
          cases hb:Ix 0 s with
          |false=>simp[hb]at M
          |true=>
           have:=Hq hb;subst this;simp only[hb,cond_true,En.injEq]at M;subst M;exact⟨_,by simp only[Act.put];rw[Array.getElem?_setIfInBounds_self_of_lt (by omega)],k4,k5⟩
        simp only[wpOpsIn];exact⟨trivial,ny⟩
       .cases rZ
      .cases rZ
     .cases rZ
    .cases hg
   .cases hg
  .cases hg
 .cases hg
end
def gm (ρ:Option Nat)(P:Program)(c:Code)(aaj:Exit->Act->World->Prop)(a:Act)(w:World):Prop:=
 ∀(b:Frame) (k:List Item) (cs:List Frame),b.roundOf=(jV ρ).round->(jV ρ).fn b.fn->(jV ρ).room (cs.length+1+0) ->
  ∃e a' w',aaj e a' w'/\ArrivesIn (Machine.fenced P (jV ρ)) P (lone (b.atR a (.code c::.inLoop c::k)) cs w) b k cs e a' w'
theorem gm.wpIn {ρ P c aaj a w}(h:gm ρ P c aaj a w):(Code.loop c).wpIn (jV ρ) 0 P aaj a w:=by
 intro b k cs zI hb Q;obtain⟨e,a',w',hq,fp⟩:=h b k cs zI hb Q;exact⟨e,a',w',hq,.of_steps (.one (fenced_calm hb Q rfl) stepR_loop) fp⟩
theorem gm.xj {ρ P c aaj a w}(h:c.wpIn (jV ρ) 0 P (Exit.then (gm ρ P c aaj) aaj) a w):gm ρ P c aaj a w:=by
 intro b k cs zI hb Q;obtain⟨e,a₁,w₁,hq,fp⟩:=h b (.inLoop c::k) cs zI hb Q
 cases e with
 |normal=>
  obtain⟨e₂,a₂,w₂,Jz,xk⟩:=hq b k cs zI hb Q;exact⟨e₂,a₂,w₂,Jz,.of_steps (StepsIn.trans fp (.one (fenced_calm hb Q rfl) stepR_inLoop)) xk⟩
 |exit id=>exact⟨_,a₁,w₁,hq,.pass (x:=.inLoop c) rfl (fun _ _=>.inl (by simp)) fp⟩|goto l=>exact⟨_,a₁,w₁,hq,.pass (x:=.inLoop c) rfl (fun _ _=>.inl (by simp)) fp⟩|ret=>exact⟨_,a₁,w₁,hq,.pass (x:=.inLoop c) rfl (fun _ _=>.inl (by simp)) fp⟩|panic ch=>exact⟨_,a₁,w₁,hq,.pass (x:=.inLoop c) rfl (fun _ _=>.inl (by simp)) fp⟩|outgrown=>exact⟨_,a₁,w₁,hq,.pass (x:=.inLoop c) rfl (fun _ _=>.inl (by simp)) fp⟩
section
variable {P:Program}{p:j8}{xc:XC}
def Ou (P:Program)(w0:World)(C0 C:aV)(nt:Nat)(x:q9)(bH:bg):Exit->Act->World->Prop:=fun e a' w'=>e=Bm x/\dD P w0 C0 C nt bH a' w'
def jcv (P:Program)(xc:XC):Prop:=
 ∀(ρ:Option Nat) (nt:Nat) (c:Code) (ca:bn) (st bH:bg) (x:q9),Ih P nt c ca->(ρ≠Ig->zr ca=H2)->xc ca st=En (x,bH) ->
  ∀(C:aV) (w0:World) (C0:aV) (a:Act) (w:World),dD P w0 C0 C nt st a w->c.wpIn (jV ρ) 0 P (Ou P w0 C0 C nt x bH) a w
theorem cL.JA (h:jcv P xc):cL P xc:=
 fun ρ nt c ca st bH x hc hn M C ω w0 C0 a w m he dj lR=>wpIn_mono (h ρ nt c ca st bH x hc hn M C w0 C0 a w ⟨dj,C,ω,aV.le_refl C,lR,m,he⟩) fun _ _ _ hq=>hq
def jhy (P:Program)(xc:XC):Prop:=
 ∀(ρ:Option Nat) (nt:Nat) (c:Code) (ca:bn) (st bH:bg) (x:q9),Ih P nt c ca->(ρ≠Ig->zr ca=H2)->xc (.loop ca) st=En (x,bH) ->
  ∀(C:aV) (w0:World) (C0:aV) (a:Act) (w:World),dD P w0 C0 C nt st a w->gm ρ P c (Ou P w0 C0 C nt x bH) a w
theorem dD.gc {w0 C0 C nt n st a w}(h:dD P w0 C0 C nt st a w)(hC:∀b r,C.β b=En r->b<n)(VH:∀b r,C0.β b=En r->b<n):dD P w0 C0 C nt (Abs.gc n st) a w:=by
 unfold Abs.gc
 cases hb:J2 st.heap.length n with
 |true=>exact h
 |false=>
  simp only[cond_false]
  cases nU:(mT n st.env&&qt n (st.heap.take n))with
  |false=>exact h
  |true=>
   simp only[cond_true];simp only[Hc]at nU;obtain⟨Y,C',ω',h3,I,h4,h5⟩:=h
   have hn:n<=st.heap.length:=by
    rcases Nat.lt_or_ge n st.heap.length with h|h
    .omega
    .rw[Eap h]at hb;cases hb
   exact⟨Y,C'.cut n,ω',aV.jM h3 hC,⟨I.choose,I.choose_spec.1,I.choose_spec.2.1,I.choose_spec.2.2⟩,h4.gc hn nU.2 VH,h5.cut nU.1⟩
theorem Ov {K w0 C0 C nt x bH aaj e a w}(h:Ou P w0 C0 C nt x bH e a w)(hn:x=.normal->dD P w0 C0 C nt bH a w->K a w)(ho:x≠.normal->dD P w0 C0 C nt bH a w->aaj (Bm x) a w):Exit.then K aaj e a w:=by
 obtain⟨rfl,h⟩:=h
 cases x with
 |normal=>exact hn rfl h|exit id=>exact ho (by simp) h|ret=>exact ho (by simp) h
theorem jbr {b:Frame}{a k cs w c}:step P (lone (b.atR a (.code (.scope c)::k)) cs w)=.next (lone (b.atR a (.code c::.inScope c::k)) cs w):=
 step_lone_go (by simp[stepG,stepG.exec,Frame.atR])
theorem q5q {b:Frame}{a k cs w c}:step P (lone (b.atR a (.inScope c::k)) cs w)=.next (lone (b.atR a k) cs w):=
 step_lone_go (by simp[stepG,stepG.exec,Frame.atR])
theorem qsj {F:Fence}{n c aaj a w}(h:c.wpIn F n P (Exit.noGoto aaj) a w):(Code.scope c).wpIn F n P aaj a w:=by
 intro b k cs zI hb Q;obtain⟨e,a₁,w₁,hq,fp⟩:=h b (.inScope c::k) cs zI hb Q;have Y:StepsIn (Machine.fenced P F) P (lone (b.atR a (.code (.scope c)::k)) cs w) (lone (b.atR a (.code c::.inScope c::k)) cs w):=.one (fenced_calm hb Q rfl) jbr
 cases e with
 |normal=>exact⟨.normal,a₁,w₁,hq,StepsIn.trans Y (StepsIn.trans fp (.one (fenced_calm hb Q rfl) q5q))⟩|goto l=>exact hq.elim
 |exit id=>
  refine⟨.exit id,a₁,w₁,hq,.of_steps Y ?_⟩;refine⟨fun k' hk=>fp.1 k' (by simp[exitTo,hk]),fun VI jN=>?_⟩;exact fp.2 VI (by simp[exitTo,jN])
 |ret=>exact⟨_,a₁,w₁,hq,.of_steps Y fp⟩|panic ch=>exact⟨_,a₁,w₁,hq,.of_steps Y fp⟩|outgrown=>exact⟨_,a₁,w₁,hq,.of_steps Y fp⟩
theorem aA.VJ {C C0 ω w0 w hp}(m:aA P C ω w0 C0 hp w):aA P { C with D:=fun r=>C.D r\/r=w.heap.size } ω w0 C0 hp (w.alloc (.deferred (En []))):=by
 have M:Ext w (w.alloc (.deferred (En []))):=Ext.alloc w _ (fun c t fr h=>by cases h);have m':=m.ext M
 exact { m' with
  fJ:=fun r Q=>by
   rcases Q with Q|Q
   ·exact m'.fJ r Q
   ·subst Q;rw[wV,if_pos rfl]
  grown:=⟨m.grown.k,m.grown.b,m.grown.w,fun r h=>.inl (m.grown.d r h),m.grown.t⟩
  box:=fun b x r fD hb=>bR.imp (C:=C) (C':={ C with D:=fun r=>C.D r\/r=w.heap.size }) ⟨fun _ _ _ h=>h,fun _ _ h=>h⟩ rfl (fun _ _ _ ho=>ho) (m'.box b x r fD hb) }
theorem jql (eV:b8 P p)(M:cL P xc){f ps x1 x2 f' J a2 h nt st bH x C w0 C0 a w}
  (hf:qr f=En f') (Y:iC P h nt x1=En J) (I:iC P h nt x2=En a2) (cJ:∀t∈ps.toList,t<nt) (G:mG p xc f' ps.toList J a2 st=En (x,bH)) (cw:dD P w0 C0 C nt st a w):
  (Code.rangeFunc f ps x1 x2).wpIn (jV Ig) 0 P (Ou P w0 C0 C nt x bH) a w:=by
 obtain⟨dj,Ca,ω,hle,zG,m,he⟩:=cw;unfold mG at G
 cases Ow:(zr J&&zr a2)with
 |false=>simp[Ow]at G
 |true=>
  simp only[Ow,cond_true]at G;simp only[Hc]at Ow;split at G
  .rename_i k first captured eO
   have vB:=qu he.cy hf eO;generalize Jb:a.eval f=fv at vB
   cases vB with
   |fn g g' _ _ as bs hg ha hb=>
    simp only[fV]at hg;subst hg;split at G
    .rename_i _r1 _r2 h' I9;split at G
     .rename_i l' FR
      cases kF:qt st.heap.length (h'.take st.heap.length)with
      |false=>simp[kF]at G
      |true=>
       simp only[kF,cond_true]at G
       .obtain⟨np,oI⟩:=I8 eV M I9
        -- the loop's record,and the block before it
        refine wpIn_rangeFunc fun fn _=>?_;generalize hlp:({ state:=.ready,pending:=Ig,fn:=fn,tmps:=a.tmps,params:=ps,assign:=x1,body:=x2,defers:=w.heap.size }:Loop)=lp;have mD:=(m.VJ).holes 1
        have eD:ar { Ca with D:=fun r=>Ca.D r\/r=w.heap.size } ω (w.alloc (.deferred (En []))) w0.heap.size st.env a.tmps:=fun s y hy=>
         let ⟨v,k1,k2,k3⟩:=he.ext (Ext.alloc w _ (fun c t fr h=>by cases h)) s y hy
         ⟨v,k1,bW.tn k2,k3⟩
        have JB:(st.heap++Ead 1 .hole)[st.heap.length]?=En .hole:=by simp
        have JC:(w.alloc (.deferred (En []))).heap.size=w.heap.size+1:=by rw[World.size_alloc]
        obtain⟨mB,eB,oM⟩:=mD.aQ eD JB (.loop lp) (fun c t fr h=>by cases h) (.loop ⟨st.env,ps.toList,J,a2,Ig⟩) (by
         intro C' ω' w' cY Oe;subst hlp
         exact⟨_,Oe,{ assign:=⟨h,by rw[dj];exact Y⟩,body:=⟨h,by rw[dj];exact I⟩,params:=rfl,fits:=fun t ht=>by rw[dj];exact cJ t ht,nr:=Ow,env:=fun s y hy=>let ⟨v,k1,k2,_⟩:=eD s y hy; ⟨v,k1,aO.mono cY k2⟩,state:=rfl,pending:=rfl }⟩)
        have bO:(st.heap++Ead 1 aM.hole).set st.heap.length (.loop ⟨st.env,ps.toList,J,a2,Ig⟩)=st.heap++[.loop ⟨st.env,ps.toList,J,a2,Ig⟩]:=by
         simp
        rw[bO]at mB;rw[JC]at mB eB oM;generalize hCB:aV.box { Ca with D:=fun r=>Ca.D r\/r=w.heap.size } st.heap.length (w.heap.size+1)=CB at mB eB oM;generalize hwB:(w.alloc (.deferred (En []))).alloc (.loop lp)=wB at mB eB
        have JD:CB.β st.heap.length=En (w.heap.size+1):=by rw[<-hCB];simp[aV.box]
        have hDB:∀r,Ca.D r\/r=w.heap.size->CB.D r:=fun r Q=>by rw[<-hCB];exact Q
        have hKB:∀ {i:mH},aO Ca i->aO CB i:=fun Q=>aO.mono oM (aO.imp (C:=Ca) (C':={ Ca with D:=fun r=>Ca.D r\/r=w.heap.size }) ⟨fun _ _ _ h=>h,fun _ _ h=>h⟩ Q);have JE:Ca.le CB:=⟨oM.k,oM.b,oM.w,fun r Q=>hDB r (.inl Q),oM.t⟩
        have eH:bq (CB.shared ω w0) (first++[.fn (.yield st.heap.length) [] []]++captured) (as++[Value.func (.yield (w.heap.size+1)) ⟨[]⟩ ⟨[]⟩]++bs):=by
         refine aO.imp (C:=CB) (C':=CB.shared ω w0) ⟨fun _ _ _ h=>h,fun _ _ h=>h⟩ ?_;exact bq.append (bq.append (hKB ha) (.cons _ _ _ _ (.fn _ _ _ _ _ _ ⟨_,JD,rfl⟩ .nil .nil) .nil)) (hKB hb)
        refine⟨w.heap.size+1,[{ target:=.collected w.heap.size,args:=#[] }],wB,{ target:=.fn (.func k) ⟨bs⟩,args:=⟨as⟩++#[Value.func (.yield (w.heap.size+1)) #[] #[]] },wB,k,⟨as++[Value.func (.yield (w.heap.size+1)) ⟨[]⟩ ⟨[]⟩]++bs⟩,wB,?_,?_,fun _ _=>trivial,?_,fun hd=>by simp[jV,Fence.wide]at hd,?_⟩
        .subst hlp;rw[<-hwB];simp[Instr.enterLoop,jV,Fence.wide,JC]
        .have hc:a.eval (.const (Value.func (.yield (w.heap.size+1)) #[] #[]))=Value.func (.yield (w.heap.size+1)) #[] #[]:=rfl;simp[resolve,Jb,Deferred.ofValue,hc]
        .have hq:(⟨as⟩:Array Value)++#[Value.func (.yield (w.heap.size+1)) #[] #[]]++(⟨bs⟩:Array Value)=⟨as++[Value.func (.yield (w.heap.size+1)) ⟨[]⟩ ⟨[]⟩]++bs⟩:=by
          apply R2;simp
         simp only[invoke,hq];exact qt5 np _ _
        .refine q0m.2 (CallsIn.mono (oI _ _ _ _ eH (Vd mB)) ?_);rintro ee w' ⟨u,C1,ω1,rfl,q1,q2,_,_⟩;obtain⟨m2,e2⟩:=qxa mB eB q2 q1;have Bx:CB.le (C1.back CB):=Og q1;have tw:(C1.back CB).β st.heap.length=En (w.heap.size+1):=Bx.b _ _ JD;obtain⟨nq,tz,vz⟩:=Oi m2 FR tw;have hlen:st.heap.length<h'.length:=(m2.lt _ _ tw).2;have VH:∀b r,C0.β b=En r->b<st.heap.length:=fun b r hb=>(m.lt b r (m.grown.b b r hb)).2;have m3:=m2.gc (Nat.le_of_lt hlen) kF VH
         have Bq:(Instr.getLoop (w.heap.size+1)).run P w'=.ok nq w':=by simp[Instr.getLoop,rU tz (by simp)]
         have tD:=(Ij.1 tz).1;have hu:oG w' (kh w' (w.heap.size+1) (.loop { nq with state:=.exhausted })) (w.heap.size+1):=FT tD (by simp)
         have mL:∀cs t fr,w'.heap[w.heap.size+1]?≠En (.cells cs t fr):=fun cs t fr hh=>by rw[tz]at hh;cases hh
         have VK:∀b,((C1.back CB).cut st.heap.length).β b≠En (w.heap.size+1):=fun b hb=>by
          simp only[aV.cut]at hb;split at hb
          .rename_i aW;have:=m2.inj b st.heap.length _ hb tw;omega
          .cases hb
         have dh:nq.state≠.busy->(Instr.endLoop (w.heap.size+1)).run P w'=.ok nq.pending (kh w' (w.heap.size+1) (.loop { nq with state:=.exhausted })):=fun FX=>by
          have fW:(nq.state == .busy)=Ir:=by
           cases cw:nq.state<;>first|rfl|exact absurd cw FX
          have hs2:=yV (P:=P) (x:=.loop { nq with state:=.exhausted }) tz (by simp);simp only[Instr.endLoop,Sem.run_bind,Bq,Result.andThen_ok,fW,J1,if_false,Sem.run_ite,hs2,Sem.run_pure]
         have m4:=m3.other (D':=((C1.back CB).cut st.heap.length).D) hu VK (Lz m.size (by omega)) mL (fun kk hk=>⟨hk,fun iP=>by
          have:=m3.fJ kk hk
          rw[iP,tz]at this;cases this⟩) m3.grown.d
         have Bz:Ca.le ((C1.back CB).cut st.heap.length):=aV.jM (aV.le_trans JE Bx) (fun b r hb=>(m.lt b r hb).2)
         have e4:ar ((C1.back CB).cut st.heap.length) (oK ω ω1 wB.heap.size) (kh w' (w.heap.size+1) (.loop { nq with state:=.exhausted })) w0.heap.size st.env a.tmps:=by
          intro s y hy;obtain⟨v,k1,k2,k3⟩:=he s y hy;obtain⟨v',j1,j2,j3⟩:=e2 s y hy;rw[k1]at j1;cases j1;exact⟨v,k1,aO.mono Bz k2,fun hh=>(((j3 hh).cut _).lQ (D':=((C1.back CB).cut st.heap.length).D) hu mL)⟩
         have ny:∀(xx:q9),dD P w0 C0 C nt { st with heap:=h'.take st.heap.length } { a with defers:=[{ target:=.collected w.heap.size,args:=#[] }]++a.defers } (kh w' (w.heap.size+1) (.loop { nq with state:=.exhausted })):=by
          intro _;refine⟨dj,_,_,aV.le_trans hle Bz,?_,m4,e4⟩;obtain⟨rs,g1,g2,g3⟩:=zG;refine⟨w.heap.size::rs,by rw[g1];rfl,Ebj.2 ⟨fun hm=>?_,g2⟩,?_⟩
          .have:=(Ij.1 (m.fJ _ (g3 _ hm).1)).1;omega
          .intro r Q;rcases Xn.1 Q with rfl|Q
           .exact⟨Bx.d _ (hDB _ (.inr rfl)),m.size⟩
           .exact⟨Bz.d _ (g3 r Q).1,(g3 r Q).2⟩
         simp only[rangePost];split at G
         .rename_i xl;cases G;refine⟨Ig,_,?_,rfl,ny .normal⟩;rw[dh (by rw[vz.state,xl];simp),vz.pending,xl]
         .cases G
         .rename_i xx UH xl;cases G
          cases x with
          |normal=>exact absurd rfl UH
          |ret=>
           refine⟨En .ret,_,?_,wpIn_ret ⟨rfl,ny .ret⟩⟩;rw[dh (by rw[vz.state,xl];simp),vz.pending,xl]
          |exit id=>
           refine⟨En (.exit id),_,?_,wpIn_exit ⟨rfl,ny .ret⟩⟩;rw[dh (by rw[vz.state,xl];simp),vz.pending,xl]
     .cases G
    .cases G
  .cases G
theorem Ox (eV:b8 P p):∀n,jcv P (aF p n)/\jhy P (aF p n)
 |0=>⟨fun ρ nt c ca st bH x _ _ M=>by simp[aF]at M,fun ρ nt c ca st bH x _ _ M=>by simp[aF]at M⟩
 |n+1=>by
  obtain⟨ih,ihl⟩:=Ox eV n
  have loop:jhy P (aF p (n+1)):=by
   intro ρ nt c ca st bH x hc hn M C w0 C0 a w cw;obtain⟨dj,C',ω',hle,lR,m,he⟩:=cw;have hC':∀b r,C'.β b=En r->b<st.heap.length:=fun b r hb=>(m.lt b r hb).2;refine gm.xj ?_;simp only[aF]at M;split at M
   .rename_i gp Y;refine wpIn_mono (ih ρ nt c ca st gp .normal hc hn Y C' w0 C0 a w ⟨dj,C',ω',aV.le_refl _,lR,m,he⟩) ?_;intro e a' w' hq;refine Ov hq (fun _ eQ=>?_) (fun h=>absurd rfl h);have I:=eQ.gc hC' (fun b r hb=>hC' b r (m.grown.2 b r hb));have h3:=ihl ρ nt c ca _ bH x hc hn M C' w0 C0 a' w' I;intro b k cs zI hb Q;obtain⟨e,a',w',hq,fp⟩:=h3 b k cs zI hb Q;obtain⟨q1,q2,C2,ω2,q4,q5⟩:=hq;exact⟨e,a',w',⟨q1,q2,C2,ω2,aV.le_trans hle q4,q5⟩,fp⟩
   .rename_i bN;refine wpIn_mono (ih ρ nt c ca st bH x hc hn M C w0 C0 a w ⟨dj,C',ω',hle,lR,m,he⟩) ?_;intro e a' w' hq;refine Ov hq (fun Ga eQ=>?_) (fun Ga eQ=>⟨rfl,eQ⟩);subst Ga;exact absurd M (bN bH)
  refine⟨?_,loop⟩;intro ρ nt c ca st bH x hc hn M C w0 C0 a w cw;obtain⟨h,dQ⟩:=hc
  cases c with
  |skip=>
   simp only[iC,En.injEq]at dQ;subst dQ;simp only[aF,En.injEq,T9.injEq]at M;obtain⟨rfl,rfl⟩:=M;exact wpIn_skip ⟨rfl,cw⟩
  |label l=>
   simp only[iC,En.injEq]at dQ;subst dQ;simp only[aF,En.injEq,T9.injEq]at M;obtain⟨rfl,rfl⟩:=M;exact wpIn_label ⟨rfl,cw⟩
  |region id ops draw=>
   simp only[iC]at dQ
   have dQ:(draw=Ir/\∃sz,Ie P nt ops=En sz/\ca=.grow sz)\/Ic P h nt id ops draw=En ca:=by
    split at dQ
    .rename_i sz VL;cases dQ;exact .inl ⟨rfl,sz,VL,rfl⟩
    .exact .inr dQ
   rcases dQ with⟨rfl,sz,VL,rfl⟩|dQ
   .simp only[aF]at M;split at M
    .rename_i z xs o1 k o2 e0 e1
     cases iP:(Iz 0 k&&J2 k 1073741824)with
     |false=>simp[iP]at M
     |true=>
      simp only[iP,cond_true,En.injEq,T9.injEq]at M;obtain⟨rfl,rfl⟩:=M;simp only[Hc]at iP;obtain⟨dj,C',ω',hle,lR,m,he⟩:=cw;refine wpIn_mono (jvv VL m he dj lR e0 e1 (Lg.mp iP.1) (Ik iP.2)) ?_;rintro e a' w' ⟨rfl,q1,C2,ω2,q4,q5⟩;exact⟨rfl,q1,C2,ω2,aV.le_trans hle q4,q5⟩
    .cases M
   have JF:∃na l keep,ca=.region na l keep:=by
    unfold Ic at dQ;split at dQ
    .split at dQ
     .simp only[En.injEq]at dQ;exact⟨_,_,_,dQ.symm⟩
     .cases dQ
    .cases dQ
   obtain⟨na,l,keep,eC⟩:=JF;subst eC;simp only[aF]at M;obtain⟨dj,C',ω',hle,lR,m,he⟩:=cw;refine wpIn_mono (jjr eV (cL.JA ih) dQ rfl M m he dj lR) ?_;rintro e a' w' ⟨q1,q2,C2,ω2,q4,q5⟩;exact⟨q1,q2,C2,ω2,aV.le_trans hle q4,q5⟩
  |seq c1 c2=>
   simp only[iC]at dQ;split at dQ
   .rename_i x1 x2 Y I;cases dQ
    have Gb:ρ≠Ig->zr x1=H2/\zr x2=H2:=fun hh=>by simpa[zr]using hn hh
    simp only[aF]at M;refine wpIn_seq ?_;split at M
    .rename_i gp yY;refine wpIn_mono (ih ρ nt c1 x1 st gp .normal ⟨h,Y⟩ (fun hh=>(Gb hh).1) yY C w0 C0 a w cw) ?_;intro e a' w' hq;exact Ov hq (fun _ eQ=>ih ρ nt c2 x2 gp bH x ⟨h,I⟩ (fun hh=>(Gb hh).2) M C w0 C0 a' w' eQ) (fun hh=>absurd rfl hh)
    .rename_i bN;refine wpIn_mono (ih ρ nt c1 x1 st bH x ⟨h,Y⟩ (fun hh=>(Gb hh).1) M C w0 C0 a w cw) ?_;intro e a' w' hq;refine Ov hq (fun Ga eQ=>?_) (fun Ga eQ=>⟨rfl,eQ⟩);subst Ga;exact absurd M (bN bH)
   .cases dQ
  |cond c c1 c2=>
   simp only[iC]at dQ;split at dQ
   .rename_i c' x1 x2 h0 Y I;cases dQ
    have Gb:ρ≠Ig->zr x1=H2/\zr x2=H2:=fun hh=>by simpa[zr]using hn hh
    simp only[aF]at M;split at M
    .rename_i t ht;have iQ:=cw;obtain⟨dj,C',ω',hle,lR,m,he⟩:=cw;have eO:=(qu he.cy h0 ht).dx;refine wpIn_cond eO ?_
     cases t with
     |true=>simp only[cond_true]at M;exact ih ρ nt c1 x1 st bH x ⟨h,Y⟩ (fun hh=>(Gb hh).1) M C w0 C0 a w iQ|false=>simp only[cond_false]at M;exact ih ρ nt c2 x2 st bH x ⟨h,I⟩ (fun hh=>(Gb hh).2) M C w0 C0 a w iQ
    .cases M
   .cases dQ
  |block id b=>
   simp only[iC]at dQ;obtain⟨b',hb,rfl⟩:=Ii.1 dQ;simp only[aF]at M;refine wpIn_block ?_;split at M
   .rename_i fU gp yY;refine wpIn_mono (ih ρ nt b b' st gp (.exit fU) ⟨h,hb⟩ (fun hh=>by simpa[zr]using hn hh) yY C w0 C0 a w cw) ?_;rintro e a' w' ⟨rfl,eQ⟩
    cases hid:Ix fU id with
    |true=>
     simp only[hid,cond_true,En.injEq,T9.injEq]at M;obtain⟨rfl,rfl⟩:=M;have:=Hq hid;subst this;simp only[Bm,Exit.inBlock,if_true];exact⟨rfl,eQ⟩
    |false=>
     simp only[hid,cond_false,En.injEq,T9.injEq]at M;obtain⟨rfl,rfl⟩:=M
     have bN:¬fU=id:=fun hh=>by subst hh;simp at hid
     simp only[Bm,Exit.inBlock,bN,if_false];exact⟨rfl,eQ⟩
   .rename_i bN;refine wpIn_mono (ih ρ nt b b' st bH x ⟨h,hb⟩ (fun hh=>by simpa[zr]using hn hh) M C w0 C0 a w cw) ?_;rintro e a' w' ⟨rfl,eQ⟩
    cases x with
    |normal=>exact⟨rfl,eQ⟩|ret=>exact⟨rfl,eQ⟩|exit fU=>exact absurd M (bN fU bH)
  |loop b=>
   simp only[iC]at dQ;obtain⟨b',hb,rfl⟩:=Ii.1 dQ;exact(loop ρ nt b b' st bH x ⟨h,hb⟩ (fun hh=>by simpa[zr]using hn hh) M C w0 C0 a w cw).wpIn
  |scope b=>
   simp only[iC]at dQ;obtain⟨b',hb,rfl⟩:=Ii.1 dQ
   have fD:aF p n b' st=En (x,bH):=by
    simp only[aF]at M;split at M
    .rename_i gp yY
     cases n with
     |zero=>simp[aF]at yY|succ n=>simp only[aF]at M;rw[yY];exact M
    .exact M
   refine qsj (wpIn_mono (ih ρ nt b b' st bH x ⟨h,hb⟩ (fun hh=>by simpa[zr]using hn hh) fD C w0 C0 a w cw) ?_);rintro e a' w' ⟨rfl,eQ⟩
   cases x with
   |normal=>exact⟨rfl,eQ⟩|exit id=>exact⟨rfl,eQ⟩|ret=>exact⟨rfl,eQ⟩
  |rangeFunc f ps x1 x2=>
   simp only[iC]at dQ;split at dQ
   .split at dQ
    .rename_i cJ;cases dQ;simp only[aF]at M
     cases ρ with
     |some l=>exact absurd (hn (by simp)) (by simp[zr])|none=>exact jql eV (cL.JA ih) (by assumption) (by assumption) (by assumption) (fun t ht=>by simpa using(Eba.1 cJ) t (by simpa using ht)) M cw
    .cases dQ
   .cases dQ
  |exit id=>
   simp only[iC,En.injEq]at dQ;subst dQ;simp only[aF,En.injEq,T9.injEq]at M;obtain⟨rfl,rfl⟩:=M;exact wpIn_exit ⟨rfl,cw⟩
  |ret=>
   simp only[iC,En.injEq]at dQ;subst dQ;simp only[aF,En.injEq,T9.injEq]at M;obtain⟨rfl,rfl⟩:=M;exact wpIn_ret ⟨rfl,cw⟩
  |_=>
   simp only[iC,En.injEq]at dQ;subst dQ;simp[aF]at M
theorem jdh (eV:b8 P p){n k args v ow}(h:ae p (aF p n) k args=En (v,ow))(hb:qp 0 args=H2):IsoCall P k args v ow:=
 (Oc eV (cL.JA (Ox eV n).1) h hb).2.2
end
def yq {α:Type}(n:Nat)(f:Nat->α):α:=match n with
 |0=>f 0|m+1=>f (Nat.succ m)
def VM {α:Type}(n:Int)(f:Int->α):α:=match n with
 | .ofNat a=>yq a fun a=>f (.ofNat a)
 | .negSucc a=>yq a fun a=>f (.negSucc a)
def JG {α:Type}(b:Bool)(f:Bool->α):α:=match b with
 |true=>f H2|false=>f Ir
def q4p {α:Type}(k:IntKind)(f:IntKind->α):α:=match k with
 | .i8=>f .i8 | .i16=>f .i16 | .i32=>f .i32 | .i64=>f .i64 | .u8=>f .u8 | .u16=>f .u16 | .u32=>f .u32 | .u64=>f .u64
def JH {α:Type}:aj->(aj->α)->α
 | [],f=>f []
 |c::s,f=>JH s fun s=>f (c::s)
def VN {α:Type}(g:Fn)(f:Fn->α):α:=match g with
 | .func k=>yq k fun k=>f (.func k)
 | .yield k=>yq k fun k=>f (.yield k)
 |g=>f g
mutual
def km {α:Type}:AVal->(AVal->α)->α
 | .bool b,f=>JG b fun b=>f (.bool b)
 | .int k n,f=>q4p k fun k=>VM n fun n=>f (.int k n)
 | .str s,f=>JH s fun s=>f (.str s)
 | .list b sz xs,f=>JG b fun b=>yq sz fun sz=>xm xs fun xs=>f (.list b sz xs)
 | .ms b o l,f=>yq b fun b=>yq o fun o=>yq l fun l=>f (.ms b o l)
 | .ptr b o,f=>yq b fun b=>yq o fun o=>f (.ptr b o)
 | .aq v,f=>km v fun v=>f (.aq v)
 | .db n,f=>yq n fun n=>f (.db n)
 | .bQ,f=>f .bQ
 | .map b,f=>yq b fun b=>f (.map b)
 | .cg,f=>f .cg
 | .fn g a c,f=>VN g fun g=>xm a fun a=>xm c fun c=>f (.fn g a c)
 | .cx,f=>f .cx
 | .agg cs,f=>xm cs fun cs=>f (.agg cs)
 | .aI cs,f=>xm cs fun cs=>f (.aI cs)
 | .undef,f=>f .undef| .any,f=>f .any
 | .az b bS len,f=>yq b fun b=>yq bS fun bS=>yq len fun len=>f (.az b bS len)
 | .dW b bS off,f=>yq b fun b=>yq bS fun bS=>yq off fun off=>f (.dW b bS off)
def xm {α:Type}:List AVal->(List AVal->α)->α
 | [],f=>f []
 |x::xs,f=>km x fun x=>xm xs fun xs=>f (x::xs)
end
def JI {α:Type}:Env->(Env->α)->α
 | [],f=>f []
 |(t,v,o)::e,f=>yq t fun t=>km v fun v=>JG o fun o=>JI e fun e=>f ((t,v,o)::e)
def Oy {α:Type}:List (AVal×Bool)->(List (AVal×Bool)->α)->α
 | [],f=>f []
 |(v,o)::e,f=>km v fun v=>JG o fun o=>Oy e fun e=>f ((v,o)::e)
def Oz {α:Type}:List (AVal×AVal)->(List (AVal×AVal)->α)->α
 | [],f=>f []
 |(k,v)::e,f=>km k fun k=>km v fun v=>Oz e fun e=>f ((k,v)::e)
def VO {α:Type}(x:Option q9)(f:Option q9->α):α:=match x with
 |none=>f Ig|some .normal=>f (En .normal)
 |some (.exit id)=>yq id fun id=>f (En (.exit id))
 |some .ret=>f (En .ret)
def VP {α:Type}:aM->(aM->α)->α
 | .hole,f=>f .hole
 | .cells cs,f=>Oy cs fun cs=>f (.cells cs)
 | .map es,f=>Oz es fun es=>f (.map es)
 | .iter s pos,f=>yq pos fun pos=>f (.iter s pos)
 | .gD t e l,f=>JH l fun l=>f (.gD t e l)
 | .dead,f=>f .dead
 -- (what a vector holds was forced when it was appended)
 | .vec sz bS xs,f=>yq sz fun sz=>yq bS fun bS=>f (.vec sz bS xs)
 | .loop l,f=>JI l.env fun e=>VO l.pending fun x=>f (.loop ⟨e,l.params,l.assign,l.body,x⟩)
def OA {α:Type}:qh->(qh->α)->α
 | [],f=>f []
 |b::h,f=>VP b fun b=>OA h fun h=>f (b::h)
def JJ {α:Type}(st:bg)(f:bg->α):α:=JI st.env fun e=>OA st.heap fun h=>f ⟨e,h⟩
section
variable {α:Type}
theorem sd (n:Nat)(f:Nat->α):yq n f=f n:=by cases n<;>rfl
theorem jbm (n:Int)(f:Int->α):VM n f=f n:=by cases n<;>simp[VM,sd]
theorem OB (n:Bool)(f:Bool->α):JG n f=f n:=by cases n<;>rfl
theorem q70 (n:IntKind)(f:IntKind->α):q4p n f=f n:=by cases n<;>rfl
theorem VQ:∀ (s:aj) (f:aj->α),JH s f=f s
 | [],_=>rfl
 |c::s,f=>by simp only[JH];rw[VQ s]
theorem jfl (g:Fn)(f:Fn->α):VN g f=f g:=by cases g<;>simp[VN,sd]
mutual
theorem JK:∀ (v:AVal) (f:AVal->α),km v f=f v
 | .bool b,f=>by simp only[km,OB]
 | .int k n,f=>by simp only[km,q70,jbm]
 | .str s,f=>by simp only[km,VQ]
 | .list b sz xs,f=>by simp only[km,OB,sd];rw[BA xs]
 | .ms b o l,f=>by simp only[km,sd]
 | .ptr b o,f=>by simp only[km,sd]
 | .aq v,f=>by simp only[km];rw[JK v]
 | .db n,f=>by simp only[km,sd]
 | .bQ,f=>by simp only[km]
 | .map b,f=>by simp only[km,sd]
 | .cg,f=>by simp only[km]
 | .fn g a c,f=>by simp only[km,jfl];rw[BA a,BA c]
 | .cx,f=>by simp only[km]
 | .agg cs,f=>by simp only[km];rw[BA cs]
 | .aI cs,f=>by simp only[km];rw[BA cs]
 | .undef,f=>by simp only[km]
 | .any,f=>by simp only[km]
 | .az b bS len,f=>by simp only[km,sd]
 | .dW b bS off,f=>by simp only[km,sd]
theorem BA:∀ (l:List AVal) (f:List AVal->α),xm l f=f l
 | [],f=>by simp only[xm]
 |x::xs,f=>by simp only[xm];rw[JK x,BA xs]
end
theorem VR:∀ (e:Env) (f:Env->α),JI e f=f e
 | [],_=>rfl
 |(t,v,o)::e,f=>by simp only[JI,sd,JK,OB];rw[VR e]
theorem qsd:∀ (e:List (AVal×Bool)) (f:List (AVal×Bool)->α),Oy e f=f e
 | [],_=>rfl
 |(v,o)::e,f=>by simp only[Oy,JK,OB];rw[qsd e]
theorem qn2:∀ (e:List (AVal×AVal)) (f:List (AVal×AVal)->α),Oz e f=f e
 | [],_=>rfl
 |(v,o)::e,f=>by simp only[Oz,JK];rw[qn2 e]
theorem q9j (x:Option q9)(f:Option q9->α):VO x f=f x:=by
 cases x with
 |none=>rfl|some x=>cases x<;>simp[VO,sd]
theorem jbg (b:aM)(f:aM->α):VP b f=f b:=by
 cases b<;>simp[VP,qsd,qn2,sd,VQ,VR,q9j,BA]
theorem qsx:∀ (h:qh) (f:qh->α),OA h f=f h
 | [],_=>rfl
 |b::h,f=>by simp only[OA,jbg];rw[qsx h]
theorem VS (st:bg)(f:bg->α):JJ st f=f st:=by simp only[JJ,VR,qsx]
end
def jJ (p:j8):Nat->XC
 |0,_,_=>Ig
 |n+1,c,st=>match c with
  | .skip=>En (.normal,st)
  | .region na ops keep=>match mF p (jJ p n) na ops keep st with
   |some (x,bH)=>JJ bH fun s=>En (x,s)
   |none=>Ig
  | .seq a b=>match jJ p n a st with
   |some (.normal,bH)=>jJ p n b bH|r=>r
  | .cond c a b=>match qi st.env c with
   |some (.bool t)=>bif t then jJ p n a st else jJ p n b st|_=>Ig
  | .block id body=>match jJ p n body st with
   |some (.exit fU,bH)=>bif Ix fU id then En (.normal,bH)else En (.exit fU,bH)|r=>r
  | .loop body=>match jJ p n body st with
   |some (.normal,bH)=>JJ (gc st.heap.length bH) fun s=>jJ p n (.loop body) s
   |r=>r
  | .rangeFunc f params assign body=>match mG p (jJ p n) f params assign body st with
   |some (x,bH)=>JJ bH fun s=>En (x,s)
   |none=>Ig
  | .exit id=>En (.exit id,st)| .ret=>En (.ret,st)
  | .grow sz=>match jp 0 st.env,jp 1 st.env with
   |some (.list H2 _ _,_),En (.int .i64 (.ofNat m),_)=>bif Iz 0 m&&J2 m 1073741824 then En (.normal,{ st with env:=[(0,.list Ir sz [],H2)] })else Ig|_,_=>Ig
  | .stuck=>Ig
theorem OC (p:j8):∀n,jJ p n=aF p n
 |0=>by funext c st;rfl
 |n+1=>by
  have ih:=OC p n;funext c st
  cases c with
  |region na ops keep=>
   simp only[jJ,aF,ih]
   cases mF p (aF p n) na ops keep st with
   |none=>rfl|some r=>simp only[VS]
  |rangeFunc f ps a b=>
   simp only[jJ,aF,ih]
   cases mG p (aF p n) f ps a b st with
   |none=>rfl|some r=>simp only[VS]
  |loop body=>
   simp only[jJ,aF,ih,VS];rfl
  |_=>simp only[jJ,aF,ih]<;>rfl
inductive bP where
 |leaf (k:Nat) (f:jU)
 |node (m:Nat) (a b:bP)
def bP.find:bP->Nat->Option jU
 | .leaf k f,n=>bif Ix k n then En f else Ig| .node m a b,n=>bif Iz n m then a.find n else b.find n
def bP.All (aaj:Nat->jU->Prop):bP->Prop
 | .leaf k f=>aaj k f| .node _ a b=>a.All aaj/\b.All aaj
theorem bP.gN {aaj}:∀ {t:bP} {k:Nat} {f:jU},t.All aaj->t.find k=En f->aaj k f
 | .leaf j g,k,f,h,hf=>by
  simp only[bP.find]at hf
  cases hb:Ix j k with
  |false=>simp[hb]at hf
  |true=>
   have:=Hq hb;subst this;simp only[hb,cond_true,En.injEq]at hf;subst hf;exact h
 | .node m a b,k,f,h,hf=>by
  simp only[bP.find]at hf
  cases hb:Iz k m with
  |true=>simp only[hb,cond_true]at hf;exact bP.gN h.1 hf|false=>simp only[hb,cond_false]at hf;exact bP.gN h.2 hf
def bP.prog (t:bP)(cD:AO)(maps:T3:=fun _=>Ig):j8:={ br:=t.find,cD:=cD,maps:=maps }
theorem jh6 {p n k args r}(h:ae p (jJ p n) k args=r):ae p (aF p n) k args=r:=by
 rw[<-OC];exact h
def Kw (w:World):Nat->Nat->Option Value:=fun r o=>(w.cell? ⟨r,o,Ig⟩).filter (·.oneCell')
theorem j6s {w r o v}(h:w.cell? ⟨r,o,Ig⟩=En v)(Y:v.oneCell'=H2):Kw w r o=En v:=by simp[Kw,h,Y]
theorem jcb {w r o v}(h:Kw w r o=En v):w.cell? ⟨r,o,Ig⟩=En v/\v.oneCell'=H2:=by
 unfold Kw at h;rw[Eah]at h;exact h
def qkq (P:Program)(t:TypeId):Bool:=match P.underlying t with
 |some (.struct _)=>H2|some (.array _ _)=>H2|_=>Ir
def OD (P:Program):Nat->List Field->Bool
 |_,[]=>H2|o,f::fs=>f.offset == o&&OD P (o+P.cellsOf f.type) fs
def OE (P:Program)(fs:List Field):Nat:=(fs.map fun f=>P.cellsOf f.type).sum
def tF (P:Program):Nat->TypeId->Bool
 |0,_=>Ir
 |n+1,t=>match P.underlying t with
  |some .bool=>P.cellsOf t == 1|some (.int _)=>P.cellsOf t == 1|some .string=>P.cellsOf t == 1|some (.slice e)=>P.cellsOf t == 1&&tF P n e&&decide (0<P.cellsOf e)
  |some (.struct fs)=>OD P 0 fs.toList&&OE P fs.toList == P.cellsOf t&&fs.toList.all fun f=>tF P n f.type
  |some (.array k e)=>P.cellsOf t == k*P.cellsOf e&&tF P n e|_=>Ir
def JL (ty:TypeId->List AVal->Prop):List Field->List AVal->Prop
 | [],cs=>cs=[]|f::fs,cs=>∃ys zs,cs=ys++zs/\ty f.type ys/\JL ty fs zs
def JM (ty:List AVal->Prop):Nat->List AVal->Prop
 |0,cs=>cs=[]|k+1,cs=>∃ys zs,cs=ys++zs/\ty ys/\JM ty k zs
def qbd (P:Program):Nat->TypeId->List AVal->Prop
 |0,_,_=>False
 |n+1,t,cs=>match P.underlying t with
  |some .bool=>∃b,cs=[.bool b]|some (.int k)=>∃m,cs=[.int k m]/\(Lit.int k m).wf=H2|some .string=>∃s,cs=[.str s]/\s.length<=maxLen|some (.slice e)=>cs=[.list H2 0 []]\/∃xs,cs=[.list Ir (P.cellsOf e) xs]/\xs.length<=maxLen/\∀y∈xs,qbd P n e y.flat/\y.isAgg=qkq P e|some (.struct fs)=>JL (qbd P n) fs.toList cs|some (.array k e)=>JM (qbd P n e) k cs|_=>False
section
variable {P:Program}{H:Type}{enc:TypeId×Value->H}{w:World}
theorem q41:∀ (fs:List Field) (o:Nat) (vs:List Value),OD P o fs=H2->vs.length=o+OE P fs->vs.drop o=(fs.map fun f=>(vs.drop f.offset).take (P.cellsOf f.type)).flatten
 | [],o,vs,_,hl=>by simp[OE]at hl;simp[hl]
 |f::fs,o,vs,ht,hl=>by
  simp only[OD,Hc,beq_iff_eq]at ht;obtain⟨rfl,ht⟩:=ht;have ih:=q41 fs _ vs ht (by simp[OE]at hl ⊢;omega);rw[Eaj,Ebe,<-ih,<-Ebo,Eao]
theorem Gc {α β:Type}{f}:∀ {l:List α} {ys:List β},l.mapM f=En ys->ys.length=l.length/\∀(i:Nat) (x:α),l[i]?=En x->∃y,ys[i]?=En y/\f x=En y
 | [],ys,h=>by simp at h;subst h;simp
 |a::l,ys,h=>by
  rw[Ebm]at h
  cases hf:f a with
  |none=>simp[hf]at h
  |some y=>
   cases Q:l.mapM f with
   |none=>simp[hf,Q]at h
   |some zs=>
    simp[hf,Q]at h;subst h;obtain⟨Y,I⟩:=Gc Q;refine⟨by simp[Y],fun i x M=>?_⟩
    cases i with
    |zero=>simp at M;subst M;exact⟨y,rfl,hf⟩|succ i=>simp at M;obtain⟨z,h3,h4⟩:=I i x M;exact⟨z,by simpa using h3,h4⟩
theorem q7n {base n a vs}(h:w.cells? base a n=En vs):vs.length=n/\∀(i:Nat) (v:Value),vs[i]?=En v->w.cell? (a.add i)=En v:=by
 unfold World.cells? at h;split at h
 .obtain⟨Y,I⟩:=Gc h;rw[Ebf]at Y;refine⟨Y,fun i v hv=>?_⟩
  have hi:i<n:=by rw[<-Y];exact(Io.1 hv).1
  obtain⟨y,h3,h4⟩:=I i i (by rw[N6 hi]);rw[hv]at h3;cases h3;exact h4
 .cases h
theorem qzp {ty:TypeId->List AVal->Prop}:∀(fs:List Field) (oN:List (List Value)),oN.length=fs.length->(∀(i:Nat) (f:Field) (vs:List Value),fs[i]?=En f->oN[i]?=En vs->∃cs,bq (.cf (Kw w)) cs vs/\ty f.type cs)->∃cs,bq (.cf (Kw w)) cs oN.flatten/\JL ty fs cs
 | [],oN,hl,_=>by
  have:oN=[]:=R1.1 (by simpa using hl);subst this;exact⟨[],.nil,rfl⟩
 |f::fs,[],hl,_=>by simp at hl
 |f::fs,vs::oN,hl,h=>by
  obtain⟨ys,Y,I⟩:=h 0 f vs rfl rfl;obtain⟨zs,h3,h4⟩:=qzp fs oN (by simpa using hl) (fun i f' tf hf hv=>h (i+1) f' tf (by simpa using hf) (by simpa using hv));exact⟨ys++zs,bq.append Y h3,ys,zs,rfl,I,h4⟩
theorem qwz {ty}:∀(k:Nat) (oN:List (List Value)),oN.length=k->(∀(i:Nat) vs,oN[i]?=En vs->∃cs,bq (.cf (Kw w)) cs vs/\ty cs)->∃cs,bq (.cf (Kw w)) cs oN.flatten/\JM ty k cs
 |0,oN,hl,_=>by
  have:oN=[]:=R1.1 hl;subst this;exact⟨[],.nil,rfl⟩
 |k+1,[],hl,_=>by simp at hl
 |k+1,vs::oN,hl,h=>by
  obtain⟨ys,Y,I⟩:=h 0 vs rfl;obtain⟨zs,h3,h4⟩:=qwz k oN (by simpa using hl) (fun i tf hv=>h (i+1) tf (by simpa using hv));exact⟨ys++zs,bq.append Y h3,ys,zs,rfl,I,h4⟩
theorem jdj (n:Nat):∀(k:Nat) (vs:List Value),vs.length=k*n->vs=((Tx k).map fun i=>(vs.drop (i*n)).take n).flatten
 |0,vs,hl=>by
  have:vs=[]:=R1.1 (by simpa using hl);simp[this]
 |k+1,vs,hl=>by
  have ih:=jdj n k (vs.drop n) (by simp[hl,Eac]);rw[List.range_succ_eq_map,Eaj,Ebe,List.map_map]
  have e:(Tx k).map ((fun i=>(vs.drop (i*n)).take n) ∘ Nat.succ)=(Tx k).map fun i=>((vs.drop n).drop (i*n)).take n:=by
   apply List.map_congr_left;intro i _;simp only[Function.comp,Ebo]
   congr 2
   rw[Eac];omega
  rw[e,<-ih];simp
theorem VT:∀ {n:Nat} {t:TypeId} {cs:List AVal},qbd P n t cs->∀x∈cs,qk x=H2
 |0,_,_,h=>h.elim
 |n+1,t,cs,h=>by
  have fsc:∀(fs:List Field) (cs:List AVal),JL (qbd P n) fs cs->∀x∈cs,qk x=H2:=by
   intro fs
   induction fs with
   |nil=>intro cs h;simp only[JL]at h;subst h;simp
   |cons f fs ih=>
    rintro cs ⟨ys,zs,rfl,Y,I⟩ x M;rcases Xc.1 M with M|M
    .exact VT Y x M
    .exact ih _ I x M
  have rsc:∀(e:TypeId) (k:Nat) (cs:List AVal),JM (qbd P n e) k cs->∀x∈cs,qk x=H2:=by
   intro e k
   induction k with
   |zero=>intro cs h;simp only[JM]at h;subst h;simp
   |succ k ih=>
    rintro cs ⟨ys,zs,rfl,Y,I⟩ x M;rcases Xc.1 M with M|M
    .exact VT Y x M
    .exact ih _ I x M
  simp only[qbd]at h;split at h
  .obtain⟨b,rfl⟩:=h;simp[qk]
  .obtain⟨m,rfl,_⟩:=h;simp[qk]
  .obtain⟨s,rfl,_⟩:=h;simp[qk]
  .rcases h with rfl|⟨xs,rfl,_⟩<;>simp[qk]
  .exact fsc _ _ h
  .exact rsc _ _ _ h
  .exact h.elim
theorem q2v {n}{t:TypeId}{cs}(h:qbd P n t cs)(ha:qkq P t=Ir):∃x,cs=[x]/\x.isAgg=Ir:=by
 cases n with
 |zero=>exact h.elim
 |succ n=>
  unfold qkq at ha;simp only[qbd]at h;split at h
  .obtain⟨b,rfl⟩:=h;exact⟨_,rfl,rfl⟩
  .obtain⟨m,rfl,_⟩:=h;exact⟨_,rfl,rfl⟩
  .obtain⟨s,rfl,_⟩:=h;exact⟨_,rfl,rfl⟩
  .rcases h with rfl|⟨xs,rfl,_⟩<;>exact⟨_,rfl,rfl⟩
  .rename_i hu;rw[hu]at ha;cases ha
  .rename_i hu;rw[hu]at ha;cases ha
  .exact h.elim
theorem read {held}:∀(n fuel:Nat) (t:TypeId) (vs:List Value) (d:DataW H) (ps:List MemPlace),tF P n t=H2->DataW.trod enc P w 0 (fun _=>H2) held fuel t vs=En (d,ps) ->
  ∃cs,bq (.cf (Kw w)) cs vs/\qbd P n t cs/\cs.length=P.cellsOf t
 |0,_,_,_,_,_,hp,_=>by simp[tF]at hp
 |n+1,0,_,_,_,_,_,h=>by simp[DataW.trod]at h
 |n+1,fuel+1,t,vs,d,ps,hp,h=>by
  simp only[tF]at hp;simp only[qbd];simp only[DataW.trod]at h
  cases hu:P.underlying t with
  |none=>simp[hu]at hp
  |some td=>
   rw[hu]at h hp
   cases td with
   |bool=>
    simp only[beq_iff_eq]at hp
    split at h<;>first|cases ‹En _=En _› | skip
    all_goals first|(rename_i heq;cases heq;done)|skip
    .exact⟨_,.cons _ _ _ _ (.bool _) .nil,⟨_,rfl⟩,by simp[hp]⟩
    .cases h
   |int k=>
    simp only[beq_iff_eq]at hp
    split at h<;>first|cases ‹En _=En _› | skip
    all_goals first|(rename_i heq;cases heq;done)|skip
    .split at h
     .rename_i hk;obtain⟨rfl,dB⟩:=hk;exact⟨_,.cons _ _ _ _ (.int _ _) .nil,⟨_,rfl,dB⟩,by simp[hp]⟩
     .cases h
    .cases h
   |string=>
    simp only[beq_iff_eq]at hp
    split at h<;>first|cases ‹En _=En _› | skip
    all_goals first|(rename_i heq;cases heq;done)|skip
    .rename_i s;split at h
     .rename_i hk;refine⟨[.str s.data.toList],.cons _ _ _ _ (aO.str s.data.toList) .nil,⟨_,rfl,?_⟩,by simp[hp]⟩;simpa using hk
     .cases h
    .cases h
   |slice e=>
    simp only[Hc,beq_iff_eq,decide_eq_true_eq]at hp;obtain⟨⟨ll,dZ⟩,hp3⟩:=hp
    split at h<;>first|cases ‹En _=En _› | skip
    all_goals first|(rename_i heq;cases heq;done)|skip
    .exact⟨_,.cons _ _ _ _ (.kD 0) .nil,.inl rfl,by simp[ll]⟩
    .rename_i a len cap;split at h
     .rename_i hk;obtain⟨_,dB,hk3⟩:=hk
      cases he:(Tx len).mapM (fun i=>(w.cells? 0 (a.add (i*P.cellsOf e)) (P.cellsOf e)).bind (DataW.trod enc P w 0 (fun _=>H2) held fuel e))with
      |none=>simp[he]at h
      |some elems=>
       simp only[he,Eab,if_true]at h
       cases Q:(Tx (cap-len)).mapM (fun j=>(w.cells? 0 (a.add ((len+j)*P.cellsOf e)) (P.cellsOf e)).bind (DataW.trod enc P w 0 (fun _=>H2) held fuel e))with
       |none=>simp[Q]at h
       |some rest=>
        obtain⟨he1,Oh⟩:=Gc he;obtain⟨ij,tw⟩:=Gc Q;rw[Ebf]at he1 ij
        have JN:0<cap->a.spot=Ig:=fun hc=>by
         have xn:∃z,(w.cells? 0 (a.add (0*P.cellsOf e)) (P.cellsOf e)).bind (DataW.trod enc P w 0 (fun _=>H2) held fuel e)=En z:=by
          by_cases hl:0<len
          .obtain⟨y,_,hy⟩:=Oh 0 0 (by rw[N6 hl]);exact⟨y,hy⟩
          .obtain⟨y,_,hy⟩:=tw 0 0 (by rw[N6 (by omega)])
           have Ip:len=0:=by omega
           subst Ip;exact⟨y,by simpa using hy⟩
         obtain⟨z0,xn⟩:=xn
         cases Gd:w.cells? 0 (a.add (0*P.cellsOf e)) (P.cellsOf e)with
         |none=>rw[Gd]at xn;cases xn
         |some us0=>
          obtain⟨d1,d2⟩:=q7n Gd;have dQ:=d2 0 _ (Lu (show 0<us0.length by omega));have:=World.cell?_spot dQ;simpa[Addr.add]using this
        by_cases hcap:0<cap
        .have Ot:=JN hcap;obtain⟨r,o,sp⟩:=a;simp only at Ot;subst Ot
         have elem:∀(i:Nat),i<len->∃y:AVal,cF (.cf (Kw w)) r y.flat (o+i*P.cellsOf e)/\y.flat.length=P.cellsOf e/\qbd P n e y.flat/\y.isAgg=qkq P e:=by
          intro i hi;obtain⟨z,_,hz⟩:=Oh i i (by rw[N6 hi])
          cases hc:w.cells? 0 ((⟨r,o,Ig⟩:Addr).add (i*P.cellsOf e)) (P.cellsOf e)with
          |none=>simp[hc]at hz
          |some us=>
           simp only[hc,Eab]at hz;obtain⟨c1,c2⟩:=q7n hc;obtain⟨cs,k1,k2,k3⟩:=read n fuel e us z.1 z.2 dZ hz;have dl:=A7 k1 (VT k2)
           have hcs:cF (.cf (Kw w)) r cs (o+i*P.cellsOf e):=cF.jE k1 fun j v hj=>by
            have Y:=c2 j v hj;rw[add_lit,add_lit]at Y;exact j6s Y (dl v (Lm hj))
           cases dp:qkq P e with
           |true=>exact⟨.agg cs,hcs,k3,k2,rfl⟩
           |false=>
            obtain⟨x,rfl,M⟩:=q2v k2 dp;have hf:x.flat=[x]:=qcc M;exact⟨x,by rw[hf];exact hcs,by rw[hf];exact k3,by rw[hf];exact k2,M⟩
         have rows:∀(m:Nat) (q:Nat),q+m=len->∃ys:List AVal,ys.length=m/\bE (.cf (Kw w)) r (P.cellsOf e) ys (o+q*P.cellsOf e)/\∀y∈ys,qbd P n e y.flat/\y.isAgg=qkq P e:=by
          intro m
          induction m with
          |zero=>intro q _;exact⟨[],rfl,.gh _ _ _,by simp⟩
          |succ m ih=>
           intro q hq;obtain⟨ys,y1,y2,y3⟩:=ih (q+1) (by omega);obtain⟨y,z1,z2,z3⟩:=elem q (by omega);refine⟨y::ys,by simp[y1],.dw _ _ _ _ _ z2 z1 ?_,?_⟩
           .rw[show o+q*P.cellsOf e+P.cellsOf e=o+(q+1)*P.cellsOf e from by rw[Eac];omega];exact y2
           .intro x M;rcases Xn.1 M with rfl|M
            .exact z3
            .exact y3 x M
         obtain⟨ys,y1,y2,y3⟩:=rows len 0 (by omega);rw[Nat.zero_mul,Ebc]at y2;subst y1;exact⟨_,.cons _ _ _ _ (.list (P.cellsOf e) ys r o cap dB y2) .nil,.inr ⟨ys,rfl,by omega,y3⟩,by simp[ll]⟩
        .have Gd:cap=0:=by omega
         have Ip:len=0:=by omega
         subst Gd;subst Ip;by_cases lJ:a.spot=Ig
         .obtain⟨r,o,sp⟩:=a;simp only at lJ;subst lJ;exact⟨_,.cons _ _ _ _ (.list (P.cellsOf e) [] r o 0 (by simp) (.gh _ _ _)) .nil,.inr ⟨[],rfl,by simp,by simp⟩,by simp[ll]⟩
         .exact⟨_,.cons _ _ _ _ (.kE (P.cellsOf e) a lJ) .nil,.inr ⟨[],rfl,by simp,by simp⟩,by simp[ll]⟩
     .cases h
    .cases h
   |struct fs=>
    simp only[Hc,beq_iff_eq,Ld]at hp;obtain⟨⟨ll,dZ⟩,hp3⟩:=hp;change (if vs.length=P.cellsOf t then(fs.toList.mapM fun f=>DataW.trod enc P w 0 (fun _=>H2) held fuel f.type ((vs.drop f.offset).take (P.cellsOf f.type))).map fun xs=>(DataW.agg (xs.map (·.1)),xs.flatMap (·.2))else Ig)=En (d,ps)at h
    .split at h
     .rename_i hl
      cases hm:fs.toList.mapM (fun f=>DataW.trod enc P w 0 (fun _=>H2) held fuel f.type ((vs.drop f.offset).take (P.cellsOf f.type)))with
      |none=>simp[hm]at h
      |some zs=>
       obtain⟨m1,m2⟩:=Gc hm;have iR:=q41 fs.toList 0 vs ll (by omega)
       obtain⟨cs,k1,k2⟩:=qzp (w:=w) (ty:=qbd P n) fs.toList (fs.toList.map fun f=>(vs.drop f.offset).take (P.cellsOf f.type)) (by simp) (fun i f us hf hv=>by
        obtain⟨z,_,hz⟩:=m2 i f hf
        have iD:us=(vs.drop f.offset).take (P.cellsOf f.type):=by
         rw[Rn,hf]at hv;simpa using hv.symm
        subst iD;obtain⟨cs,q1,q2,_⟩:=read n fuel f.type _ z.1 z.2 (hp3 f (Lm hf)) hz
        exact⟨cs,q1,q2⟩)
       rw[<-iR]at k1;exact⟨cs,by simpa using k1,k2,by have:=k1.length;simp at this;omega⟩
     .cases h
   |array k e=>
    simp only[Hc,beq_iff_eq]at hp;obtain⟨ll,dZ⟩:=hp;change (if vs.length=P.cellsOf t then((Tx k).mapM fun i=>DataW.trod enc P w 0 (fun _=>H2) held fuel e ((vs.drop (i*P.cellsOf e)).take (P.cellsOf e))).map fun xs=>(DataW.agg (xs.map (·.1)),xs.flatMap (·.2))else Ig)=En (d,ps)at h
    .split at h
     .rename_i hl
      cases hm:(Tx k).mapM (fun i=>DataW.trod enc P w 0 (fun _=>H2) held fuel e ((vs.drop (i*P.cellsOf e)).take (P.cellsOf e)))with
      |none=>simp[hm]at h
      |some zs=>
       obtain⟨m1,m2⟩:=Gc hm;have iR:=jdj (P.cellsOf e) k vs (by omega)
       obtain⟨cs,k1,k2⟩:=qwz (w:=w) (ty:=qbd P n e) k ((Tx k).map fun i=>(vs.drop (i*P.cellsOf e)).take (P.cellsOf e)) (by simp) (fun i us hv=>by
        have hi:i<k:=by
         have:=(Io.1 hv).1;simpa using this
        obtain⟨z,_,hz⟩:=m2 i i (by rw[N6 hi])
        have iD:us=(vs.drop (i*P.cellsOf e)).take (P.cellsOf e):=by
         rw[Rn,N6 hi]at hv;simpa using hv.symm
        subst iD;obtain⟨cs,q1,q2,_⟩:=read n fuel e _ z.1 z.2 dZ hz
        exact⟨cs,q1,q2⟩)
       rw[<-iR]at k1;exact⟨cs,k1,k2,by have:=k1.length;omega⟩
     .cases h
   |_=>simp at hp
end
open Go.ChangeShapes Go.WideShapes Go.ChangeAt Go.RowKit
section
variable {P:Program}{H:Type}{enc:TypeId×Value->H}{w:World}
def jij (P:Program)(n:Nat)(t:TypeId)(x:AVal):Prop:=qbd P n t x.flat/\x.isAgg=qkq P t
def qqb (P:Program)(n:Nat):List TypeId->List AVal->Prop
 | [],xs=>xs=[]|t::ts,xs=>∃y ys,xs=y::ys/\jij P n t y/\qqb P n ts ys
theorem js0 {n}{t:TypeId}{v d ps base}(hp:tF P n t=H2)(hv:Value.okWide P w .any base t v)(h:DataW.Trod enc P w 0 (fun _=>H2) H2 t v d ps):∃x,bW (.cf (Kw w)) x v/\jij P n t x:=by
 obtain⟨fuel,hf⟩:=h;obtain⟨cs,k1,k2,k3⟩:=read n fuel t _ d ps hp hf
 cases dp:qkq P t with
 |true=>
  have Jc:∃cells,v=.agg cells:=by
   unfold qkq at dp;unfold Value.okWide at hv;split at dp
   .rename_i fs hu;rw[hu]at hv;obtain⟨c,hc,_⟩:=hv;exact⟨c,hc⟩
   .rename_i a b hu;rw[hu]at hv;obtain⟨c,hc,_⟩:=hv;exact⟨c,hc⟩
   .cases dp
  obtain⟨cells,rfl⟩:=Jc;exact⟨.agg cs,.agg cs cells.toList k1,k2,dp.symm⟩
 |false=>
  obtain⟨x,rfl,M⟩:=q2v k2 dp
  have Jc:v.cells.toList=[v]:=by
   cases v with
   |agg c=>
    exfalso;unfold Value.okWide at hv;unfold qkq at dp
    cases n with
    |zero=>simp[tF]at hp
    |succ n=>
     simp only[tF]at hp
     cases hu:P.underlying t with
     |none=>rw[hu]at hp;cases hp
     |some td=>rw[hu]at hp hv dp;cases td<;>first|(simp at hp;done)|(simp at dp;done)|(simp[Cell.okWide,hu,Cell.ok]at hv;done)
   |_=>rfl
  rw[Jc]at k1
  cases k1 with
  |cons _ _ _ _ Y _=>exact⟨x,Y,by rw[qcc M];exact k2,by rw[M,dp]⟩
theorem jdk {n}:∀ {ts:List TypeId} {vs:List Value} {ds:List (DataW H)} {ps:List MemPlace},ts.all (tF P n)=H2->(∀(j:Nat) t v,ts[j]?=En t->vs[j]?=En v->∃base,Value.okWide P w .any base t v)->DataW.TrodAll enc P w 0 (fun _=>H2) H2 ts vs ds ps ->
  ds.length=ts.length/\∃xs,bq (.cf (Kw w)) xs vs/\qqb P n ts xs
 | [],[],[],ps,_,_,_=>⟨rfl,[],.nil,rfl⟩
 | [],[],_::_,ps,_,_,h=>by simp[DataW.TrodAll]at h
 | [],_::_,_,ps,_,_,h=>by simp[DataW.TrodAll]at h
 |_::_,[],_,ps,_,_,h=>by simp[DataW.TrodAll]at h
 |_::_,_::_,[],ps,_,_,h=>by simp[DataW.TrodAll]at h
 |t::ts,v::vs,d::ds,ps,hp,hv,h=>by
  obtain⟨p,q,Y,I,_⟩:=h;simp only[Eai,Hc]at hp;obtain⟨base,hb⟩:=hv 0 t v rfl rfl;obtain⟨x,k1,k2⟩:=js0 hp.1 hb Y;obtain⟨hl,xs,k3,k4⟩:=jdk hp.2 (fun j t' v' ht xh=>hv (j+1) t' v' (by simpa using ht) (by simpa using xh)) I;exact⟨by simp[hl],x::xs,.cons _ _ _ _ k1 k3,x,xs,rfl,k2,k4⟩
theorem Ext.frame {w'}(h:Ext w w')(may:MemPlace->Prop):w.keptBut w' may:=by
 refine⟨h.os,h.output,fun i hi=>?_⟩;rw[h.same i hi];split<;>simp_all
theorem Ext.sameAt {w'}(h:Ext w w'){p}(hp:p.block<w.heap.size):w.sameAt w' p:=by
 cases p with
 |cell b o=>exact World.cell?_of_block (w:=w) (h.same b hp)|map b=>exact h.same b hp
theorem q9b {w'}(M:Ext w w')(hl:laidOutB P=H2):∀ {ts:List TypeId} {vs:List Value} {ds:List (DataW H)} {ps:List MemPlace},ts.all (fun t=>P.readableRec t&&decide (t<P.types.size))=H2->DataW.TrodAll enc P w 0 (fun _=>H2) H2 ts vs ds ps ->
  DataW.TrodAll enc P w' 0 (fun b=>decide (b<w.heap.size)) H2 ts vs ds ps
 | [],[],[],ps,_,h=>h
 | [],[],_::_,ps,_,h=>by simp[DataW.TrodAll]at h
 | [],_::_,_,ps,_,h=>by simp[DataW.TrodAll]at h
 |_::_,[],_,ps,_,h=>by simp[DataW.TrodAll]at h
 |_::_,_::_,[],ps,_,h=>by simp[DataW.TrodAll]at h
 |t::ts,v::vs,d::ds,ps,Q,h=>by
  obtain⟨p,q,Y,I,h3⟩:=h;simp only[Eai,Hc,decide_eq_true_eq]at Q
  have aW:∀x∈p,x.block<w.heap.size:=by obtain⟨m,hm⟩:=Y;exact DataW.trod_lt m _ _ _ hm
  exact⟨p,q,WideElems.Trod_stays hl Q.1.1 Q.1.2 Y (fun x hm=>M.sameAt (aW x hm)) (fun x hm=>by simpa using aW x hm),q9b M hl Q.2 I,h3⟩
end
def nX (f g:XC):Prop:=∀c st r,f c st=En r->g c st=En r
section
variable {p:j8}{f g:XC}
theorem qsa (h:nX f g){af args hp r}(Q:rQ f af args hp=En r):rQ g af args hp=En r:=by
 unfold rQ at *
 cases hb:J2 args.length af.ntmps with
 |false=>simp[hb]at Q
 |true=>
  simp only[hb,cond_true]at Q ⊢;split at Q
  .rename_i st cw;rw[h _ _ _ cw];exact Q
  .rename_i st cw;rw[h _ _ _ cw];exact Q
  .cases Q
theorem OG (h:nX f g){k args hp r}(Q:ai p f k args hp=En r):ai p g k args hp=En r:=by
 unfold ai at *;split at Q
 .exact qsa h Q
 .exact Q
theorem OH (h:nX f g){k args r}(Q:ae p f k args=En r):ae p g k args=En r:=by
 unfold ae at *;split at Q
 .exact Q
 .split at Q
  .rename_i v o hh hc;rw[OG h hc];exact Q
  .cases Q
theorem qsy (h:nX f g){b args hp r}(Q:lG f b args hp=En r):lG g b args hp=En r:=by
 unfold lG at *;split at Q
 .split at Q
  .split at Q
   .rename_i st cw;rw[h _ _ _ cw];simp only[];split at Q
    .rename_i l1 eu
     cases ll:l1.pending.isNone with
     |false=>simp[ll]at Q
     |true=>
      simp only[ll,cond_true]at Q ⊢;split at Q
      .rename_i x bH iQ;rw[h _ _ _ iQ];exact Q
      .cases Q
    .cases Q
   .cases Q
  .cases Q
 .cases Q
theorem q5o (h:nX f g){h0 e hp md x l r}(Q:yh p f h0 e hp md x l=En r):yh p g h0 e hp md x l=En r:=by
 unfold yh at *;split at Q
 .cases md with
  |cf=>
   simp only[]at Q ⊢
   rename_i k first captured vs _ _
   cases hb:qp 0 (first++vs++captured)with
   |false=>rw[hb]at Q;cases Q
   |true=>
    rw[hb]at Q;simp only[cond_true]at Q ⊢;split at Q
    .rename_i v o hc;rw[OH h hc];exact Q
    .cases Q
  |red=>
   simp only[]at Q ⊢;split at Q
   .rename_i us hf
    cases hb:qp 0 us with
    |false=>rw[hb]at Q;cases Q
    |true=>
     rw[hb]at Q;simp only[cond_true]at Q ⊢;split at Q
     .rename_i v o hc;rw[OH h hc];exact Q
     .cases Q
   .cases Q
  |fI _=>
   simp only[]at Q ⊢
   rename_i k first captured vs _ _ _
   cases he:(first++vs++captured).isEmpty with
   |true=>rw[he]at Q;exact Q
   |false=>
    rw[he]at Q;simp only[cond_false]at Q ⊢
    cases hb:qp 0 (first++vs++captured)with
    |false=>rw[hb]at Q;cases Q
    |true=>
     rw[hb]at Q;simp only[cond_true]at Q ⊢;split at Q
     .rename_i v o hc;rw[OH h hc];exact Q
     .cases Q
  |shr=>
   simp only[]at Q ⊢;split at Q
   .rename_i v o hh hc;rw[OG h hc];exact Q
   .cases Q
 .cases md with
  |shr=>
   simp only[]at Q ⊢;split at Q
   .rename_i v hh hc;rw[qsy h hc];exact Q
   .cases Q
  |_=>simp at Q
 .cases Q
theorem jb1 (h:nX f g){h0 al e hp op r}(Q:qf p f h0 al e hp op=En r):qf p g h0 al e hp op=En r:=by
 cases op with
 |call md x l=>exact q5o h Q|append rk sz b x y=>cases rk<;>exact Q|cj rk sz b z n c=>cases rk<;>exact Q|_=>exact Q
theorem qsb (h:nX f g){h0 o st bH}(Q:yi p f h0 o st=En bH):yi p g h0 o st=En bH:=by
 unfold yi at *;split at Q
 .split at Q
  .rename_i r G;rw[jb1 h G];exact Q
  .cases Q
 .exact Q
 .cases Q
theorem VU (h:nX f g){h0}:∀ {l:List bX} {st bH:bg},fT p f h0 l st=En bH->fT p g h0 l st=En bH
 | [],_,_,Q=>Q
 |o::l,st,bH,Q=>by
  simp only[fT]at Q ⊢;split at Q
  .rename_i s1 Y;rw[qsb h Y];exact VU h Q
  .cases Q
theorem qts (h:nX f g){na l k st r}(Q:mF p f na l k st=En r):mF p g na l k st=En r:=by
 unfold mF at *;split at Q
 .rename_i s1 Y;rw[VU h Y];exact Q
 .cases Q
theorem qwy (h:nX f g){x ps a b st r}(Q:mG p f x ps a b st=En r):mG p g x ps a b st=En r:=by
 unfold mG at *
 cases hn:(zr a&&zr b)with
 |false=>simp[hn]at Q
 |true=>
  simp only[hn,cond_true]at Q ⊢;split at Q
  .split at Q
   .rename_i v o hh hc;rw[OG h hc];exact Q
   .cases Q
  .cases Q
end
theorem qy6 (p:j8):∀n,nX (aF p n) (aF p (n+1))
 |0=>fun c st r h=>by simp[aF]at h
 |n+1=>by
  have ih:=qy6 p n;intro c st r h
  cases c with
  |region na l k=>simp only[aF]at h ⊢;exact qts ih h|rangeFunc f ps a b=>simp only[aF]at h ⊢;exact qwy ih h
  |seq a b=>
   rw[aF]at h ⊢;split at h
   .rename_i gp Y;rw[ih _ _ _ Y];exact ih _ _ _ h
   .rename_i bN;rw[ih _ _ _ h];split
    .rename_i gp Y;cases Y;exact absurd h (bN _)
    .rfl
  |cond c a b=>
   rw[aF]at h ⊢;split at h
   .rename_i t ht;cases t
    .simp only[cond_false]at h ⊢;exact ih _ _ _ h
    .simp only[cond_true]at h ⊢;exact ih _ _ _ h
   .cases h
  |block id b=>
   rw[aF]at h ⊢;split at h
   .rename_i fU gp Y;rw[ih _ _ _ Y];exact h
   .rename_i bN;rw[ih _ _ _ h];split
    .rename_i fU gp Y;cases Y;exact absurd h (bN _ _)
    .rfl
  |loop b=>
   rw[aF]at h ⊢;split at h
   .rename_i gp Y;rw[ih _ _ _ Y];exact ih _ _ _ h
   .rename_i bN;rw[ih _ _ _ h];split
    .rename_i gp Y;cases Y;exact absurd h (bN _)
    .rfl
  |_=>exact h
theorem vD (p:j8){n m}(h:n<=m):nX (aF p n) (aF p m):=by
 induction h with
 |refl=>exact fun _ _ _ h=>h
 |step _ ih=>exact fun c st r Q=>qy6 p _ c st r (ih c st r Q)
open Classical in
noncomputable def X (p:j8):XC:=fun c st=>if h:∃r n,aF p n c st=En r then En (Classical.choose h)else Ig
theorem y4 {p c st r}:X p c st=En r↔∃n,aF p n c st=En r:=by
 unfold X;constructor
 .intro h;split at h
  .rename_i hh;cases h;exact Classical.choose_spec hh
  .cases h
 .rintro ⟨n,hn⟩;have hh:∃r n,aF p n c st=En r:=⟨r,n,hn⟩;rw[dif_pos hh];obtain⟨m,hm⟩:=Classical.choose_spec hh;have Y:=vD p (Xo n m) _ _ _ hn;have I:=vD p (Xm n m) _ _ _ hm;rw[Y]at I;exact I.symm
theorem pM {p}(n:Nat):nX (aF p n) (X p):=fun _ _ _ h=>y4.2 ⟨n,h⟩
section
variable {p:j8}
theorem q8s {af args hp r}(Q:rQ (X p) af args hp=En r):∃n,rQ (aF p n) af args hp=En r:=by
 have hr0:=Q;unfold rQ at Q
 cases hb:J2 args.length af.ntmps with
 |false=>simp[hb]at Q
 |true=>
  simp only[hb,cond_true]at Q
  have key:∀ {r'},X p af.body ⟨qG 0 args,hp⟩=En r'->∃n,rQ (aF p n) af args hp=En r:=by
   intro r' h;obtain⟨n,hn⟩:=y4.1 h;refine⟨n,?_⟩;unfold rQ;rw[hb,hn];rw[h]at Q;exact Q
  split at Q
  .rename_i st cw;exact key cw
  .rename_i st cw;exact key cw
  .cases Q
theorem OI {k args hp r}(Q:ai p (X p) k args hp=En r):∃n,ai p (aF p n) k args hp=En r:=by
 unfold ai at *
 cases h:p.br k with
 |none=>rw[h]at Q;exact⟨0,Q⟩|some f=>rw[h]at Q;exact q8s Q
theorem JO {k args r}(Q:ae p (X p) k args=En r):∃n,ae p (aF p n) k args=En r:=by
 unfold ae at *
 cases h:p.cD k with
 |some f=>rw[h]at Q;exact⟨0,Q⟩
 |none=>
  rw[h]at Q;simp only[]at Q ⊢;split at Q
  .rename_i v o hh hc;obtain⟨n,hn⟩:=OI hc;exact⟨n,by rw[hn];exact Q⟩
  .cases Q
theorem ja4 {b args hp r}(Q:lG (X p) b args hp=En r):∃n,lG (aF p n) b args hp=En r:=by
 unfold lG at Q;split at Q
 .rename_i l hl;split at Q
  .rename_i e xl hse;split at Q
   .rename_i st cw;split at Q
    .rename_i l1 eu
     cases ll:l1.pending.isNone with
     |false=>simp[ll]at Q
     |true=>
      simp only[ll,cond_true]at Q;split at Q
      .rename_i x bH iQ;obtain⟨n,hn⟩:=y4.1 cw;obtain⟨m,hm⟩:=y4.1 iQ;refine⟨max n m,?_⟩;have Y:=vD p (Xo n m) _ _ _ hn;have I:=vD p (Xm n m) _ _ _ hm;simp only[lG,hl,xl,hse,Y,eu,ll,cond_true,I];exact Q
      .cases Q
    .cases Q
   .cases Q
  .cases Q
 .cases Q
theorem q94 {h0 e hp md x l r}(Q:yh p (X p) h0 e hp md x l=En r):∃n,yh p (aF p n) h0 e hp md x l=En r:=by
 unfold yh at Q;split at Q
 .rename_i k first captured vs e1 e2
  cases md with
  |cf=>
   simp only[]at Q
   cases hb:qp 0 (first++vs++captured)with
   |false=>rw[hb]at Q;cases Q
   |true=>
    rw[hb]at Q;simp only[cond_true]at Q;split at Q
    .rename_i v o hc;obtain⟨n,hn⟩:=JO hc;refine⟨n,?_⟩;simp only[yh,e1,e2,hn];rw[hb];exact Q
    .cases Q
  |red=>
   simp only[]at Q;split at Q
   .rename_i us hf
    cases hb:qp 0 us with
    |false=>rw[hb]at Q;cases Q
    |true=>
     rw[hb]at Q;simp only[cond_true]at Q;split at Q
     .rename_i v o hc;obtain⟨n,hn⟩:=JO hc;refine⟨n,?_⟩;simp only[yh,e1,e2,hf,hn];rw[hb];exact Q
     .cases Q
   .cases Q
  |fI _=>
   simp only[]at Q
   cases he:(first++vs++captured).isEmpty with
   |true=>exact⟨0,by simp only[yh,e1,e2,he];rw[he]at Q;exact Q⟩
   |false=>
    rw[he]at Q;simp only[cond_false]at Q
    cases hb:qp 0 (first++vs++captured)with
    |false=>rw[hb]at Q;cases Q
    |true=>
     rw[hb]at Q;simp only[cond_true]at Q;split at Q
     .rename_i v o hc;obtain⟨n,hn⟩:=JO hc;refine⟨n,?_⟩;simp only[yh,e1,e2,hn];rw[he,hb];exact Q
     .cases Q
  |shr=>
   simp only[]at Q;split at Q
   .rename_i v o hh hc;obtain⟨n,hn⟩:=OI hc;refine⟨n,?_⟩;simp only[yh,e1,e2,hn];exact Q
   .cases Q
 .rename_i b vs e1 e2
  cases md with
  |shr=>
   simp only[]at Q;split at Q
   .rename_i v hh hc;obtain⟨n,hn⟩:=ja4 hc;refine⟨n,?_⟩;simp only[yh,e1,e2,hn];exact Q
   .cases Q
  |_=>simp at Q
 .cases Q
theorem jft {h0 al e hp op r}(Q:qf p (X p) h0 al e hp op=En r):∃n,qf p (aF p n) h0 al e hp op=En r:=by
 cases op with
 |call md x l=>exact q94 Q|append rk sz b x y=>cases rk<;>exact⟨0,Q⟩|cj rk sz b z n c=>cases rk<;>exact⟨0,Q⟩|_=>exact⟨0,Q⟩
theorem q9v {h0 o st bH}(Q:yi p (X p) h0 o st=En bH):∃n,yi p (aF p n) h0 o st=En bH:=by
 unfold yi at *
 cases hg:oy st.env o.guard with
 |none=>simp[hg]at Q
 |some b=>
  rw[hg]at Q
  cases b with
  |false=>exact⟨0,Q⟩
  |true=>
   simp only[]at Q ⊢;split at Q
   .rename_i r G;obtain⟨n,hn⟩:=jft G;exact⟨n,by rw[hn];exact Q⟩
   .cases Q
theorem jaw {h0}:∀ {l:List bX} {st bH:bg},fT p (X p) h0 l st=En bH->∃n,fT p (aF p n) h0 l st=En bH
 | [],_,_,Q=>⟨0,Q⟩
 |o::l,st,bH,Q=>by
  simp only[fT]at Q;split at Q
  .rename_i s1 Y;obtain⟨n,hn⟩:=q9v Y;obtain⟨m,hm⟩:=jaw Q;refine⟨max n m,?_⟩;simp only[fT];rw[qsb (vD p (Xo n m)) hn];exact VU (vD p (Xm n m)) hm
  .cases Q
theorem jbc {na l k st r}(Q:mF p (X p) na l k st=En r):∃n,mF p (aF p n) na l k st=En r:=by
 unfold mF at Q;split at Q
 .rename_i s1 Y;obtain⟨n,hn⟩:=jaw Y;exact⟨n,by unfold mF;rw[hn];exact Q⟩
 .cases Q
theorem jeu {x ps a b st r}(Q:mG p (X p) x ps a b st=En r):∃n,mG p (aF p n) x ps a b st=En r:=by
 unfold mG at Q
 cases hn:(zr a&&zr b)with
 |false=>simp[hn]at Q
 |true=>
  simp only[hn,cond_true]at Q;split at Q
  .rename_i k first captured eO
   split at Q
   .rename_i v o hh hc;obtain⟨n,kH⟩:=OI hc;refine⟨n,?_⟩;unfold mG;rw[hn,eO];simp only[cond_true];rw[kH];exact Q
   .cases Q
  .cases Q
theorem BD {α:Type}{x y:Option α}(Y:∀r,x=En r->y=En r)(I:∀r,y=En r->x=En r):x=y:=by
 cases x with
 |none=>
  cases y with
  |none=>rfl|some r=>exact(I r rfl)
 |some r=>exact(Y r rfl).symm
theorem jiy {st}:X p .skip st=En (.normal,st):=y4.2 ⟨1,rfl⟩
theorem jjo {id st}:X p (.exit id) st=En (.exit id,st):=y4.2 ⟨1,rfl⟩
theorem jrk {st}:X p .ret st=En (.ret,st):=y4.2 ⟨1,rfl⟩
theorem q7m {na:Nat}{l:List bX}{k st}:X p (.region na l k) st=mF p (X p) na l k st:=by
 refine BD (fun r h=>?_) (fun r h=>?_)
 .obtain⟨n,hn⟩:=y4.1 h
  cases n with
  |zero=>simp[aF]at hn|succ n=>simp only[aF]at hn;exact qts (pM n) hn
 .obtain⟨n,hn⟩:=jbc h;exact y4.2 ⟨n+1,by simp only[aF];exact hn⟩
theorem OJ {x:jw}{ps:List Nat}{a b st}:X p (.rangeFunc x ps a b) st=mG p (X p) x ps a b st:=by
 refine BD (fun r h=>?_) (fun r h=>?_)
 .obtain⟨n,hn⟩:=y4.1 h
  cases n with
  |zero=>simp[aF]at hn|succ n=>simp only[aF]at hn;exact qwy (pM n) hn
 .obtain⟨n,hn⟩:=jeu h;exact y4.2 ⟨n+1,by simp only[aF];exact hn⟩
theorem jrf {a b:bn}{st:bg}:X p (.seq a b) st=match X p a st with
  |some (.normal,bH)=>X p b bH
  |r=>r:=by
 refine BD (fun r h=>?_) (fun r h=>?_)
 .obtain⟨n,hn⟩:=y4.1 h
  cases n with
  |zero=>simp[aF]at hn
  |succ n=>
   rw[aF]at hn;split at hn
   .rename_i gp Y;rw[pM n _ _ _ Y];exact pM n _ _ _ hn
   .rename_i bN;rw[pM n _ _ _ hn];split
    .rename_i gp Y;cases Y;exact absurd hn (bN _)
    .rfl
 .split at h
  .rename_i gp Y;obtain⟨n,hn⟩:=y4.1 Y;obtain⟨m,hm⟩:=y4.1 h;refine y4.2 ⟨max n m+1,?_⟩;rw[aF,vD p (Xo n m) _ _ _ hn];exact vD p (Xm n m) _ _ _ hm
  .rename_i bN;obtain⟨n,hn⟩:=y4.1 h;refine y4.2 ⟨n+1,?_⟩;rw[aF,hn];split
   .rename_i gp Y;cases Y;exact absurd h (bN _)
   .rfl
theorem jk5 {c:jw}{a b:bn}{st}:X p (.cond c a b) st=match qi st.env c with
  |some (.bool t)=>bif t then X p a st else X p b st
  |_=>Ig:=by
 refine BD (fun r h=>?_) (fun r h=>?_)
 .obtain⟨n,hn⟩:=y4.1 h
  cases n with
  |zero=>simp[aF]at hn
  |succ n=>
   rw[aF]at hn;split at hn
   .rename_i t ht;rw[ht];cases t
    .simp only[cond_false]at hn ⊢;exact pM n _ _ _ hn
    .simp only[cond_true]at hn ⊢;exact pM n _ _ _ hn
   .cases hn
 .split at h
  .rename_i t ht;cases t
   .simp only[cond_false]at h;obtain⟨n,hn⟩:=y4.1 h;exact y4.2 ⟨n+1,by rw[aF,ht];exact hn⟩
   .simp only[cond_true]at h;obtain⟨n,hn⟩:=y4.1 h;exact y4.2 ⟨n+1,by rw[aF,ht];exact hn⟩
  .cases h
theorem jdq {id:Nat}{b:bn}{st}:X p (.block id b) st=match X p b st with
  |some (.exit fU,bH)=>bif Ix fU id then En (.normal,bH)else En (.exit fU,bH)
  |r=>r:=by
 refine BD (fun r h=>?_) (fun r h=>?_)
 .obtain⟨n,hn⟩:=y4.1 h
  cases n with
  |zero=>simp[aF]at hn
  |succ n=>
   rw[aF]at hn;split at hn
   .rename_i fU gp Y;rw[pM n _ _ _ Y];exact hn
   .rename_i bN;rw[pM n _ _ _ hn];split
    .rename_i fU gp Y;cases Y;exact absurd hn (bN _ _)
    .rfl
 .split at h
  .rename_i fU gp Y;obtain⟨n,hn⟩:=y4.1 Y;exact y4.2 ⟨n+1,by rw[aF,hn];exact h⟩
  .rename_i bN;obtain⟨n,hn⟩:=y4.1 h;refine y4.2 ⟨n+1,?_⟩;rw[aF,hn];split
   .rename_i fU gp Y;cases Y;exact absurd h (bN _ _)
   .rfl
theorem jkp {b:bn}{st:bg}:X p (.loop b) st=match X p b st with
  |some (.normal,bH)=>X p (.loop b) (gc st.heap.length bH)
  |r=>r:=by
 refine BD (fun r h=>?_) (fun r h=>?_)
 .obtain⟨n,hn⟩:=y4.1 h
  cases n with
  |zero=>simp[aF]at hn
  |succ n=>
   rw[aF]at hn;split at hn
   .rename_i gp Y;rw[pM n _ _ _ Y];exact pM n _ _ _ hn
   .rename_i bN;rw[pM n _ _ _ hn];split
    .rename_i gp Y;cases Y;exact absurd hn (bN _)
    .rfl
 .split at h
  .rename_i gp Y;obtain⟨n,hn⟩:=y4.1 Y;obtain⟨m,hm⟩:=y4.1 h;refine y4.2 ⟨max n m+1,?_⟩;rw[aF,vD p (Xo n m) _ _ _ hn];exact vD p (Xm n m) _ _ _ hm
  .rename_i bN;obtain⟨n,hn⟩:=y4.1 h;refine y4.2 ⟨n+1,?_⟩;rw[aF,hn];split
   .rename_i gp Y;cases Y;exact absurd h (bN _)
   .rfl
theorem jjn {sz:Nat}{st:bg}:X p (.grow sz) st=match jp 0 st.env,jp 1 st.env with
   |some (.list H2 _ _,_),En (.int .i64 (.ofNat m),_)=>bif Iz 0 m&&J2 m 1073741824 then En (.normal,{ st with env:=[(0,.list Ir sz [],H2)] })else Ig
   |_,_=>Ig:=by
 refine BD (fun r h=>?_) (fun r h=>?_)
 .obtain⟨n,hn⟩:=y4.1 h
  cases n with
  |zero=>simp[aF]at hn|succ n=>simp only[aF]at hn;exact hn
 .exact y4.2 ⟨1,by simp only[aF];exact h⟩
theorem q7f {P}(eV:b8 P p){k args v ow}(h:ae p (X p) k args=En (v,ow))(hb:qp 0 args=H2):IsoCall P k args v ow:=by
 obtain⟨n,hn⟩:=JO h;exact jdh eV hn hb
end
structure BE (p q:j8)(f g:XC):Prop where
 x:nX f g
 fn:∀k args hp r,ai p f k args hp=En r->ai q g k args hp=En r
 cf:∀k args r,ae p f k args=En r->ae q g k args=En r
 maps:∀k es,p.maps k=En es->q.maps k=En es
section
variable {p q:j8}{f g:XC}
theorem jbj (h:BE p q f g){h0 e hp md x l r}(Q:yh p f h0 e hp md x l=En r):yh q g h0 e hp md x l=En r:=by
 unfold yh at *;split at Q
 .cases md with
  |cf=>
   simp only[]at Q ⊢
   rename_i k first captured vs _ _
   cases hb:qp 0 (first++vs++captured)with
   |false=>rw[hb]at Q;cases Q
   |true=>
    rw[hb]at Q;simp only[cond_true]at Q ⊢;split at Q
    .rename_i v o hc;rw[h.cf _ _ _ hc];exact Q
    .cases Q
  |red=>
   simp only[]at Q ⊢;split at Q
   .rename_i us hf
    cases hb:qp 0 us with
    |false=>rw[hb]at Q;cases Q
    |true=>
     rw[hb]at Q;simp only[cond_true]at Q ⊢;split at Q
     .rename_i v o hc;rw[h.cf _ _ _ hc];exact Q
     .cases Q
   .cases Q
  |fI _=>
   simp only[]at Q ⊢
   rename_i k first captured vs _ _ _
   cases he:(first++vs++captured).isEmpty with
   |true=>
    rw[he]at Q;simp only[cond_true]at Q ⊢;split at Q
    .rename_i es hes;rw[h.maps _ _ hes];exact Q
    .cases Q
   |false=>
    rw[he]at Q;simp only[cond_false]at Q ⊢
    cases hb:qp 0 (first++vs++captured)with
    |false=>rw[hb]at Q;cases Q
    |true=>
     rw[hb]at Q;simp only[cond_true]at Q ⊢;split at Q
     .rename_i v o hc;rw[h.cf _ _ _ hc];exact Q
     .cases Q
  |shr=>
   simp only[]at Q ⊢;split at Q
   .rename_i v o hh hc;rw[h.fn _ _ _ _ hc];exact Q
   .cases Q
 .cases md with
  |shr=>
   simp only[]at Q ⊢;split at Q
   .rename_i v hh hc;rw[qsy h.x hc];exact Q
   .cases Q
  |_=>simp at Q
 .cases Q
theorem jid (h:BE p q f g){h0 al e hp op r}(Q:qf p f h0 al e hp op=En r):qf q g h0 al e hp op=En r:=by
 cases op with
 |call md x l=>exact jbj h Q|append rk sz b x y=>cases rk<;>exact Q|cj rk sz b z n c=>cases rk<;>exact Q|_=>exact Q
theorem ja9 (h:BE p q f g){h0 o st bH}(Q:yi p f h0 o st=En bH):yi q g h0 o st=En bH:=by
 unfold yi at *;split at Q
 .split at Q
  .rename_i r G;rw[jid h G];exact Q
  .cases Q
 .exact Q
 .cases Q
theorem jd2 (h:BE p q f g){h0}:∀ {l:List bX} {st bH:bg},fT p f h0 l st=En bH->fT q g h0 l st=En bH
 | [],_,_,Q=>Q
 |o::l,st,bH,Q=>by
  simp only[fT]at Q ⊢;split at Q
  .rename_i s1 Y;rw[ja9 h Y];exact jd2 h Q
  .cases Q
theorem jgu (h:BE p q f g){na l k st r}(Q:mF p f na l k st=En r):mF q g na l k st=En r:=by
 unfold mF at *;split at Q
 .rename_i s1 Y;rw[jd2 h Y];exact Q
 .cases Q
theorem jig (h:BE p q f g){x ps a b st r}(Q:mG p f x ps a b st=En r):mG q g x ps a b st=En r:=by
 unfold mG at *
 cases hn:(zr a&&zr b)with
 |false=>simp[hn]at Q
 |true=>
  simp only[hn,cond_true]at Q ⊢;split at Q
  .split at Q
   .rename_i v o hh hc;rw[h.fn _ _ _ _ hc];exact Q
   .cases Q
  .cases Q
end
structure gO (p q:j8):Prop where
 maps:∀k es,p.maps k=En es->q.maps k=En es
 br:∀k b,p.br k=En b->q.br k=En b\/(q.br k=Ig/\∃F,q.cH k=En F/\∀args hp r,ai p (X p) k args hp=En r->F args hp=En r)
 cH:∀k F,p.br k=Ig->p.cH k=En F->q.br k=Ig/\∃aae,q.cH k=En aae/\∀args hp r,F args hp=En r->aae args hp=En r
 cD:∀k,(∃F,q.cD k=En F/\∀args r,ae p (X p) k args=En r->F args=En r)\/(q.cD k=Ig/\p.cD k=Ig)
theorem q9r {p:j8}{xc:XC}{k args r}(h:ae p xc k args=En r):mC r.1=H2:=by
 unfold ae at h;split at h
 .split at h
  .rename_i v o _
   cases hv:mC v with
   |false=>rw[hv]at h;cases h|true=>rw[hv]at h;cases h;exact hv
  .cases h
 .split at h
  .split at h
   .rename_i v' _
    cases hv:mC v' with
    |false=>rw[hv]at h;cases h|true=>rw[hv]at h;cases h;exact hv
   .cases h
  .cases h
theorem gO.step {p q:j8}(h:gO p q){n:Nat}(M:nX (aF p n) (X q)):BE p q (aF p n) (X q):=by
 have hfn:∀k args hp r,ai p (aF p n) k args hp=En r->ai q (X q) k args hp=En r:=by
  intro k args hp r Q
  cases hb:p.br k with
  |some b=>
   rcases h.br k b hb with hq|⟨hq,F,hF,VW⟩
   .unfold ai at Q ⊢;rw[hb]at Q;rw[hq];exact qsa M Q
   .have:=VW args hp r (OG (pM n) Q);unfold ai;rw[hq,hF];exact this
  |none=>
   unfold ai at Q;rw[hb]at Q
   cases G:p.cH k with
   |none=>rw[G]at Q;cases Q
   |some F=>
    rw[G]at Q;obtain⟨hq,aae,hG,hGk⟩:=h.cH k F hb G;unfold ai;rw[hq,hG];exact hGk args hp r Q
 refine⟨M,hfn,?_,h.maps⟩;intro k args r Q;have ln:=q9r Q;rcases h.cD k with⟨F,hF,VW⟩|⟨hq,hp⟩
 .have:=VW args r (OH (pM n) Q);unfold ae;rw[hF];obtain⟨v,o⟩:=r;simp only[this];rw[ln];rfl
 .unfold ae at Q ⊢;rw[hp]at Q;rw[hq];simp only[]at Q ⊢;split at Q
  .rename_i v o hh hc;rw[hfn _ _ _ _ hc];exact Q
  .cases Q
theorem gO.aF {p q:j8}(h:gO p q):∀n,nX (aF p n) (X q)
 |0=>fun c st r Q=>by simp[Go.Abs.aF]at Q
 |n+1=>by
  have ih:=h.aF n;have G:=h.step ih;intro c st r Q
  cases c with
  |region na l k=>rw[q7m];simp only[Go.Abs.aF]at Q;exact jgu G Q|rangeFunc x ps a b=>rw[OJ];simp only[Go.Abs.aF]at Q;exact jig G Q|skip=>rw[jiy];simpa[Go.Abs.aF]using Q|exit id=>rw[jjo];simpa[Go.Abs.aF]using Q|ret=>rw[jrk];simpa[Go.Abs.aF]using Q
  |seq a b=>
   rw[jrf];rw[Go.Abs.aF]at Q;split at Q
   .rename_i gp Y;rw[ih _ _ _ Y];exact ih _ _ _ Q
   .rename_i bN;rw[ih _ _ _ Q];split
    .rename_i gp Y;cases Y;exact absurd Q (bN _)
    .rfl
  |cond c a b=>
   rw[jk5];rw[Go.Abs.aF]at Q;split at Q
   .rename_i t ht;rw[ht];cases t
    .exact ih _ _ _ Q
    .exact ih _ _ _ Q
   .cases Q
  |block id b=>
   rw[jdq];rw[Go.Abs.aF]at Q;split at Q
   .rename_i fU gp Y;rw[ih _ _ _ Y];exact Q
   .rename_i bN;rw[ih _ _ _ Q];split
    .rename_i fU gp Y;cases Y;exact absurd Q (bN _ _)
    .rfl
  |loop b=>
   rw[jkp];rw[Go.Abs.aF]at Q;split at Q
   .rename_i gp Y;rw[ih _ _ _ Y];exact ih _ _ _ Q
   .rename_i bN;rw[ih _ _ _ Q];split
    .rename_i gp Y;cases Y;exact absurd Q (bN _)
    .rfl
  |grow sz=>rw[jjn];rw[Go.Abs.aF]at Q;exact Q|stuck=>simp[Go.Abs.aF]at Q
theorem gO.ai {p q:j8}(h:gO p q){k args hp r}(Q:ai p (Go.Abs.X p) k args hp=En r):Go.Abs.ai q (Go.Abs.X q) k args hp=En r:=by
 obtain⟨n,hn⟩:=OI Q;exact(h.step (h.aF n)).fn _ _ _ _ hn
theorem gO.ae {p q:j8}(h:gO p q){k args r}(Q:ae p (Go.Abs.X p) k args=En r):Go.Abs.ae q (Go.Abs.X q) k args=En r:=by
 obtain⟨n,hn⟩:=JO Q;exact(h.step (h.aF n)).cf _ _ _ hn
end Go.Abs
namespace Go.Abs
section
variable {P:Program}
theorem Tabs.table {w}(h:Tabs P w){g}(hg:P.globalNamed qH=En g):Lib.TabIs P w qH .u64 Lib.pow10Tab:=(h g (.inl hg)).2.1 hg
theorem Tabs.length {w}(h:Tabs P w){g}(hg:P.globalNamed A2=En g):∃m,w.cell? ⟨g,0,Ig⟩=En (.int .i64 m):=(h g (.inr (.inl hg))).2.2.1 hg
theorem JP {k args v}(h:∀(K:Nat->Nat->Option Value) (w:World) (vs:List Value),Tabs P w->(∀r o u,K r o=En u->w.cell? ⟨r,o,Ig⟩=En u)->bq (.cf K) args vs ->
  ∃u,bW (.cf K) v u/\Calls P k ⟨vs⟩ w fun e w'=>e=.returned u/\Ext w w'):IsoCall P k args v Ir:=by
 intro K w vs ht Y I Q;obtain⟨u,hu,hc⟩:=h K w vs ht Y Q;refine callsIn_wide.2 (hc.mono ?_);rintro e w' ⟨rfl,M⟩;exact⟨u,K,rfl,M,fun _ _ _ h=>h,fun _ _ _=>rfl,fun r o x hk=>M.cell (Y r o x hk),I,hu,fun h=>by cases h⟩
theorem jcr {C r}:∀ {xs:List AVal} {us:List Value} {o:Nat},bq C xs us->(∀x∈xs,x.flat=[x])->(∀(j:Nat) u,us[j]?=En u->C.K r (o+j)=En u)->bE C r 1 xs o
 | [],_,o,_,_,_=>.gh _ _ _
 |x::xs,us,o,h,hf,hk=>by
  cases h with
  |cons _ _ u us M Q=>
   have FN:=hf x (Eae ..);refine .dw _ _ _ _ _ (by rw[FN];rfl) ?_ (jcr Q (fun y hy=>hf y (Eau _ hy)) fun j u hj=>?_)
   .rw[FN];exact .dE _ _ _ _ u (by have:=hk 0 u rfl;simpa using this) M (.iL _ _)
   .have:=hk (j+1) u (by simpa using hj);rw[show o+1+j=o+(j+1) by omega];exact this
theorem jli {k args xs us}{t:TypeId}(hf:∀x∈xs,x.flat=[x])(iD:∀K,bq (.cf K) xs us)(h1u:∀u∈us,u.oneCell'=H2)
  (h:∀(K:Nat->Nat->Option Value) (w:World) (vs:List Value),Tabs P w->(∀r o u,K r o=En u->w.cell? ⟨r,o,Ig⟩=En u)->bq (.cf K) args vs ->
  Calls P k ⟨vs⟩ w fun e w'=>e=.returned (.slice (En ⟨w.heap.size,0,Ig⟩) xs.length xs.length)/\w'=w.alloc (.cells us.toArray t)):IsoCall P k args (.list Ir 1 xs) Ir:=by
 intro K w vs ht Y I Q;refine callsIn_wide.2 ((h K w vs ht Y Q).mono ?_);rintro e w' ⟨rfl,rfl⟩;have M:Ext w (w.alloc (.cells us.toArray t)):=Ext.alloc w _ (fun c t fr h=>by cases h;rfl)
 have Jr:∀o u,K w.heap.size o=En u->False:=fun o u hk=>by
  have:=Y _ _ _ hk;simp only[World.cell?,Array.getElem?_eq_none (Eaf _)]at this;cases this
 refine⟨_,fun r o=>if r=w.heap.size then us[o]? else K r o,rfl,M,?_,?_,?_,?_,?_,fun h=>by cases h⟩
 .intro r o x hk;have bN:r≠w.heap.size:=fun e=>Jr o x (e▸hk);simp only[if_neg bN];exact hk
 .intro r o aW
  have bN:r≠w.heap.size:=by omega
  simp only[if_neg bN]
 .intro r o x hk;simp only[]at hk;split at hk
  .next Q=>
   subst Q
   have hg:(w.alloc (.cells us.toArray t)).heap[w.heap.size]?=En (.cells us.toArray t):=by rw[wV,if_pos rfl]
   simp only[World.cell?];rw[hg];simpa using hk
  .exact M.cell (Y r o x hk)
 .intro r o x hk;simp only[]at hk;split at hk
  .exact h1u x (Lm hk)
  .exact I r o x hk
 .refine .list _ _ _ _ _ (Eaf _) (jcr (iD _) hf fun j u hj=>?_);show(if w.heap.size=w.heap.size then us[0+j]? else K w.heap.size (0+j))=En u;rw[if_pos rfl,Xz];exact hj
theorem IsoCall.shr {k args v ow}(h:IsoCall P k args v ow)(hb:qp 0 args=H2)(hp:mC v=H2)(eV:qh):Bn P k args eV v Ir eV:=by
 intro C ω w vs Q m;have lh:bq (.cf C.K) args vs:=aO.shift (C:=C) (C':=.cf C.K) 0 (fun _ _ _ h=>h) (fun b r aW=>by omega) Q hb;refine CallsIn.mono (h C.K w vs m.tabs m.know m.dr lh) ?_;rintro e w' ⟨u,K',rfl,q1,q2,q3,q4,q5,q6,_⟩;refine⟨u,{ C with K:=K' },ω,rfl,⟨q2,fun _ _ h=>h,rfl,fun _ h=>h,fun _ h=>h⟩,m.cf q1 q2 q3 q4 q5,?_,fun h=>by cases h⟩;exact aO.shift (C:=.cf K') (C':={ C with K:=K' }) 0 (fun _ _ _ h=>h) (fun b r aW=>by omega) q6 hp
end
open Go
def Ge:aj->aj->Bool
 | [],[]=>H2|a::l,b::m=>bif Ix a.toNat b.toNat then Ge l m else Ir|_,_=>Ir
theorem qsi:∀ {l m:aj},Ge l m=H2->l=m
 | [],[],_=>rfl
 | [],_::_,h=>by simp[Ge]at h
 |_::_,[],h=>by simp[Ge]at h
 |a::l,b::m,h=>by
  simp only[Ge,J0]at h;split at h
  .next hb=>rw[UInt8.toNat_inj.1 (Hq hb),qsi h]
  .exact absurd h (by simp)
def OL:Int->Int->Bool
 | .ofNat a,.ofNat b=>Ix a b| .negSucc a,.negSucc b=>Ix a b|_,_=>Ir
theorem jbf:∀ {a b:Int},OL a b=H2->a=b
 | .ofNat _,.ofNat _,h=>by rw[Hq h]
 | .negSucc _,.negSucc _,h=>by rw[Hq h]
 | .ofNat _,.negSucc _,h=>by simp[OL]at h
 | .negSucc _,.ofNat _,h=>by simp[OL]at h
mutual
def jW:AVal->AVal->Bool
 | .bool a,.bool b=>a == b| .int k a,.int k' b=>bif decide (k=k')then OL a b else Ir| .str a,.str b=>Ge a b| .list a n xs,.list b m ys=>bif a == b then bif Ix n m then vE xs ys else Ir else Ir| .agg xs,.agg ys=>vE xs ys| .aI xs,.aI ys=>vE xs ys|_,_=>Ir
def vE:List AVal->List AVal->Bool
 | [],[]=>H2|a::l,b::m=>bif jW a b then vE l m else Ir|_,_=>Ir
end
mutual
theorem q4o:∀ {a b:AVal},jW a b=H2->a=b:=by
 intro a b h
 match a,b with
 | .bool _,.bool _=>simp only[jW,beq_iff_eq]at h;rw[h]
 | .int k a,.int k' b=>
  simp only[jW,J0,decide_eq_true_eq]at h;split at h
  .next hk=>rw[hk,jbf h]
  .exact absurd h (by simp)
 | .str _,.str _=>simp only[jW]at h;rw[qsi h]
 | .list a n xs,.list b m ys=>
  simp only[jW,J0,beq_iff_eq]at h;split at h
  .next Y=>
   split at h
   .next I=>rw[Y,Hq I,Gf h]
   .exact absurd h (by simp)
  .exact absurd h (by simp)
 | .agg _,.agg _=>simp only[jW]at h;rw[Gf h]| .aI _,.aI _=>simp only[jW]at h;rw[Gf h]| .bool _,.int .. | .bool _,.str _ | .bool _,.list .. | .bool _,.agg _ | .bool _,.aI _=>simp[jW]at h| .int ..,.bool _ | .int ..,.str _ | .int ..,.list .. | .int ..,.agg _ | .int ..,.aI _=>simp[jW]at h| .str _,.bool _ | .str _,.int .. | .str _,.list .. | .str _,.agg _ | .str _,.aI _=>simp[jW]at h| .list ..,.bool _ | .list ..,.int .. | .list ..,.str _ | .list ..,.agg _ | .list ..,.aI _=>simp[jW]at h| .agg _,.bool _ | .agg _,.int .. | .agg _,.str _ | .agg _,.list .. | .agg _,.aI _=>simp[jW]at h| .aI _,.bool _ | .aI _,.int .. | .aI _,.str _ | .aI _,.list .. | .aI _,.agg _=>simp[jW]at h| .ms ..,_ | .ptr ..,_ | .aq _,_ | .db _,_ | .bQ,_ | .map _,_ | .cg,_ | .fn ..,_ | .cx,_ | .undef,_ | .any,_ | .az ..,_ | .dW ..,_=>simp[jW]at h| .bool _,.ms .. | .bool _,.ptr .. | .bool _,.aq _ | .bool _,.db _ | .bool _,.bQ | .bool _,.map _ | .bool _,.cg | .bool _,.fn .. | .bool _,.cx | .bool _,.undef | .bool _,.az .. | .bool _,.dW ..=>simp[jW]at h| .int ..,.ms .. | .int ..,.ptr .. | .int ..,.aq _ | .int ..,.db _ | .int ..,.bQ | .int ..,.map _ | .int ..,.cg | .int ..,.fn .. | .int ..,.cx | .int ..,.undef | .int ..,.az .. | .int ..,.dW ..=>simp[jW]at h| .str ..,.ms .. | .str ..,.ptr .. | .str ..,.aq _ | .str ..,.db _ | .str ..,.bQ | .str ..,.map _ | .str ..,.cg | .str ..,.fn .. | .str ..,.cx | .str ..,.undef | .str ..,.az .. | .str ..,.dW ..=>simp[jW]at h| .list ..,.ms .. | .list ..,.ptr .. | .list ..,.aq _ | .list ..,.db _ | .list ..,.bQ | .list ..,.map _ | .list ..,.cg | .list ..,.fn .. | .list ..,.cx | .list ..,.undef | .list ..,.az .. | .list ..,.dW ..=>simp[jW]at h| .agg ..,.ms .. | .agg ..,.ptr .. | .agg ..,.aq _ | .agg ..,.db _ | .agg ..,.bQ | .agg ..,.map _ | .agg ..,.cg | .agg ..,.fn .. | .agg ..,.cx | .agg ..,.undef | .agg ..,.az .. | .agg ..,.dW ..=>simp[jW]at h| .aI ..,.ms .. | .aI ..,.ptr .. | .aI ..,.aq _ | .aI ..,.db _ | .aI ..,.bQ | .aI ..,.map _ | .aI ..,.cg | .aI ..,.fn .. | .aI ..,.cx | .aI ..,.undef | .aI ..,.az .. | .aI ..,.dW ..=>simp[jW]at h
theorem Gf:∀ {l m:List AVal},vE l m=H2->l=m:=by
 intro l m h
 match l,m with
 | [],[]=>rfl| [],_::_=>simp[vE]at h|_::_,[]=>simp[vE]at h
 |a::l,b::m=>
  simp only[vE,J0]at h;split at h
  .next Y=>rw[q4o Y,Gf h]
  .exact absurd h (by simp)
end
abbrev Row:=List AVal×AVal×Bool
def FB (args:List AVal):List Row->Option (AVal×Bool)
 | []=>Ig|r::l=>bif vE r.1 args then En r.2 else FB args l
theorem T0 {args x}:∀ {l:List Row},FB args l=En x->(args,x)∈l
 | [],h=>by simp[FB]at h
 |r::l,h=>by
  simp only[FB,J0]at h;split at h
  .next hb=>
   simp only[En.injEq]at h;rw[<-Gf hb,<-h];exact Eae ..
  .exact Eau _ (T0 h)
def TW (P:Program)(tab:Nat->ak Row):Prop:=
 ∀k l,tab k=En l->∀r∈l,IsoCall P k r.1 r.2.1 r.2.2
def yG:List (Nat×List Row)->Nat->ak Row
 | [],_=>Ig|(k,l)::t,n=>bif Ix k n then En l else yG t n
def VX (P:Program)(k:Nat):List Row->Prop
 | []=>True|r::l=>IsoCall P k r.1 r.2.1 r.2.2/\VX P k l
def jis (P:Program):List (Nat×List Row)->Prop
 | []=>True|(k,l)::t=>VX P k l/\jis P t
theorem q90 {P k}:∀ {l:List Row},VX P k l->∀r∈l,IsoCall P k r.1 r.2.1 r.2.2
 |r::l,h,x,M=>by
  cases M with
  |head=>exact h.1|tail _ M=>exact q90 h.2 x M
theorem TX {P}:∀ {t:List (Nat×List Row)},jis P t->TW P (yG t)
 |(j,m)::t,h,k,l,hk=>by
  simp only[yG,J0]at hk;split at hk
  .next hb=>
   rw[Hq hb]at h;simp only[En.injEq]at hk;subst hk;exact q90 h.1
  .exact TX h.2 k l hk
theorem qzg {P p}(h:b8 P p){n k b ow Y es}(Q:ai p (jJ p n) k [] []=En (.map b,ow,Y))(hb:Y[b]?=En (.map es))(he:ke 0 es=H2):Enters P k/\U8 P k es:=
 jgx h (cL.JA (Ox h n).1) (by rw[<-OC];exact Q) hb he
theorem jl {P p}(h:b8 P p){n k args v o}(Q:ae p (jJ p n) k args=some (v,o))(hb:qp 0 args=true:=by rfl):IsoCall P k args v o:=
 jdh h (jh6 Q) hb
end Go.Abs
