/- Each operation by itself, third part. -/
import Derived.Test.YtimdocpnkimlfaaGreatDoorAbsC
import Derived.RangeFuncLeaves
import Derived.OrdersIn
set_option linter.unusedVariables false
set_option linter.unusedSimpArgs false
open Option renaming some→I,map_eq_some_iff→Gt,none→Ia,getD_some→J9,isSome_none→Ma,isNone_some→Xp,bind_some→Yh,getD_none→Y0,map→Zn
open Bool renaming and_eq_true→En,true→Gq,false→G0,false_eq_true→G1,cond_eq_ite→J4,or_eq_true→Mx,false_or→U2,not_true→Xn,xor→Zm
open Nat renaming eq_of_beq_eq_true→Gn,le_of_ble_eq_true→Gs,beq→Gz,blt→Ib,blt_eq→Ie,ble→Ig,le_trans→J2,lt_of_lt_of_le→Mc,zero_add→U9,beq_refl→X4
open List renaming getElem?_set_ne→Gp,getElem?_eq_some_iff→Gy,all_eq_true→If,set_comm→Jp,length_set→J0,getElem?_set_self→J1,getElem?_eq_getElem→J5,mem_of_getElem?→J6,mem_zipIdx_iff_getElem?→J7,getElem?_map→N9,length_take→Oz,mem_append→U6,getElem?_set→Vb,mem_cons→Vg,ext_getElem?→Vh,isEmpty_iff→Vj,length_eq_zero_iff→Vk,length_map→Vm,mem_append_right→Vn,getElem?_eq_none→Vo,mem_append_left→Vp,pairwise_append→Vu,zip_cons_cons→Xo,pairwise_cons→X3,flatMap_cons→X5,length_drop→X6,cons_append→Yg,foldl_cons→Y4,replicate→Y8,mem_range→Zd,all_cons→Ze,map_cons→Zi,mem_map→Zj,map_nil→Zk,Sublist→Zl
open Array renaming getElem?_eq_some_iff→Gv,getD_eq_getD_getElem?→Ic,getElem?_eq_getElem→J8,getElem?_setIfInBounds_ne→St,getElem?_replicate→Vi,ext'→Vv,replicate→Y1
open Ne renaming symm→Ih
open Prod renaming mk→Vd
namespace Go.Abs
section
variable {P:Program}{p:zb}{xc:XC}{C C0:aH}{ω:Nat→Option Loc}{w w0:World}{hp:qh}{env:Env}{a:Act}{o:Oper}{d:Loc}{h:qj}{md:ew}{r h0:Nat}{dst:Option Nat}{al:Option (List Nat)}{cP:cU}{res:bj}
theorem jez (m:ax P C ω w0 C0 hp w)(e:ak C ω w w0.heap.size env a.tmps){t:TypeId}{ps}(ho:o.op=.build t ps)(hc:cV P h md r dst (.build t ps)=I cP)(hs:qf p xc h0 al env hp cP=I res):yj P C C0 w0 a d env o w res:=by
 simp only[cV]at hc
 split at hc
 ·rename_i fs z ht hz
  split at hc
  ·rename_i hall
   obtain⟨gf,mK,rfl⟩:=Gt.1 hc
   simp only[qf,qo]at hs
   split at hs
   ·rename_i qs hq
    split at hs
    ·rename_i cs hf
     obtain rfl:=qy hs
     exact ji m e (qw9 e.cq ho ht hz (fun f hf=>If.1 hall f hf) mK hq hf)
    ·cases hs
   ·cases hs
  ·cases hc
 ·rename_i len el z ht hz
  split at hc
  ·rename_i n hn
   obtain⟨gf,mK,rfl⟩:=Gt.1 hc
   simp only[qf,qo]at hs
   split at hs
   ·rename_i qs hq
    split at hs
    ·rename_i cs hf
     obtain rfl:=qy hs
     exact ji m e (qy3 e.cq ho ht hz hn mK hq hf)
    ·cases hs
   ·cases hs
  ·cases hc
 ·cases hc
theorem qzp (m:ax P C ω w0 C0 hp w)(e:ak C ω w w0.heap.size env a.tmps){t:TypeId}{n ps}(ho:o.op=.buildSlice t n ps)(hc:cV P h md r dst (.buildSlice t n ps)=I cP)(hs:qf p xc h0 al env hp cP=I res):yj P C C0 w0 a d env o w res:=by
 simp only[cV]at hc
 split at hc
 ·rename_i el ht
  split at hc
  ·rename_i sz z ag es hn hz dr mK
   split at hc
   ·rename_i hb
    cases hc
    simp only[En,decide_eq_true_eq,beq_iff_eq]at hb
    generalize (dst.map (h.vec.contains ·)).getD G0=bb at hs
    cases bb with
    |true=>
     simp only[if_true,qf,qp]at hs
     split at hs
     ·rename_i qs hq
      split at hs
      ·rename_i xs hx
       cases Bu:qx 0 xs with
       |false=>rw[Bu]at hs;cases hs
       |true=>
        rw[Bu]at hs
        simp only[cond_true]at hs
        split at hs
        ·rename_i h' dw
         obtain rfl:=qy hs
         exact .inl (jmp m e ho ht hn hz hb.1.1.1.1 hb.1.1.1.2 hb.1.1.2 mK hq hx Bu dw)
        ·cases hs
      ·cases hs
     ·cases hs
    |false=>
    simp only[G1,if_false,qf,qo]at hs
    split at hs
    ·rename_i qs hq
     split at hs
     ·rename_i xs hx
      cases hs
      exact .inl (qza m e ho ht hn hz hb.1.1.1.1 hb.1.1.1.2 hb.1.1.2 mK hq hx)
     ·cases hs
    ·cases hs
   ·cases hc
  ·cases hc
 ·cases hc
theorem q02 (m:ax P C ω w0 C0 hp w)(e:ak C ω w w0.heap.size env a.tmps){t:TypeId}{x y}(ho:o.op=.makeSlice t x y)(hc:cV P h md r dst (.makeSlice t x y)=I cP)(hs:qf p xc h0 al env hp cP=I res):yj P C C0 w0 a d env o w res:=by
 simp only[cV]at hc
 split at hc
 ·rename_i el ht
  split at hc
  ·rename_i sz b z ag x' y' hn hb hz dr h1 h2
   split at hc
   ·cases hc
    generalize hR:(if(Zn (fun x=>h.bP.contains x) dst).getD G0=Gq then I r else Ia)=R at hs
    cases R with
    |some rr=>
     simp only[qf,qp]at hs
     split at hs
     ·rename_i n c e1 e2
      cases hk:(Gz n c&&Ig n 1073741824&&Ig b 4096&&Gz z.length sz&&Ib 0 sz&&z.all qk)with
      |false=>simp[hk]at hs
      |true=>
       simp only[hk,cond_true]at hs
       split at hs
       ·rename_i h' dw
        obtain rfl:=qy hs
        simp only[En]at hk
        obtain⟨⟨⟨⟨⟨k1,k2⟩,k3⟩,k4⟩,k5⟩,k6⟩:=hk
        obtain rfl:=Gn k1
        exact .inl (qzt m e ho ht hn hb hz (Ie.mp k5) (Gn k4) h1 h2 e1 e2 (Gs k2) (Gs k3) dw)
       ·cases hs
     ·cases hs
    |none=>
     simp only[qf,qo]at hs
     split at hs
     ·rename_i n c e1 e2
      cases hk:(Gz n c&&Ig n 1073741824&&Ig b 4096&&Gz z.length sz&&Ib 0 sz&&z.all qk)with
      |false=>simp[hk]at hs
      |true=>
       simp only[hk,cond_true]at hs
       cases hs
       simp only[En]at hk
       obtain⟨⟨⟨⟨⟨k1,k2⟩,k3⟩,k4⟩,k5⟩,k6⟩:=hk
       obtain rfl:=Gn k1
       exact .inl (q7s m e ho ht hn hb hz (Ie.mp k5) (Gn k4) h1 h2 e1 e2 (Gs k2) (Gs k3))
     ·cases hs
   ·cases hc
  ·cases hc
 ·cases hc
theorem jd8 (m:ax P C ω w0 C0 hp w)(e:ak C ω w w0.heap.size env a.tmps){t:TypeId}{x lo hi mx}(ho:o.op=.slice t x lo hi mx)(hc:cV P h md r dst (.slice t x lo hi mx)=I cP)(hs:qf p xc h0 al env hp cP=I res):yj P C C0 w0 a d env o w res:=by
 cases mx with
 |some _=>simp[cV]at hc
 |none=>
  simp only[cV]at hc
  split at hc
  ·rename_i x' lK fC h1 h2 h3
   split at hc
   ·rename_i ht
    cases hc
    simp only[qf,qo]at hs
    split at hs
    ·rename_i s hv
     split at hs
     ·rename_i j hj
      split at hs
      ·rename_i i fC
       obtain rfl:=qy hs
       exact ji m e (q31 e.cq ho ht h1 h2 h3 hv hj fC)
      ·cases hs
     ·cases hs
    ·cases hs
   ·rename_i el ht
    obtain⟨sz,hn,rfl⟩:=Gt.1 hc
    simp only[qf,qo]at hs
    split at hs
    ·rename_i n dq xs hv
     cases hk:(Gz sz dq||xs.isEmpty)with
     |false=>simp[hk]at hs
     |true=>
      simp only[hk,cond_true]at hs
      split at hs
      ·rename_i j hj
       split at hs
       ·rename_i i fC
        obtain rfl:=qy hs
        refine ji m e (qz7 e.cq ho ht hn h1 h2 h3 hv (.inr ⟨n,dq,xs,rfl,?_,hj,fC,rfl⟩))
        rcases Mx _ _▸hk with hk|hk
        ·exact .inl (Gn hk)
        ·exact .inr (Vj.1 hk)
       ·cases hs
      ·cases hs
    ·rename_i b q len hv
     split at hs
     ·rename_i j hj
      split at hs
      ·rename_i i fC
       cases hk:(Gz i 0||Ib i j)with
       |false=>simp[hk]at hs
       |true=>
        simp only[hk,cond_true]at hs
        obtain rfl:=qy hs
        refine ji m e (qz7 e.cq ho ht hn h1 h2 h3 hv (.inl ⟨b,q,len,rfl,hj,fC,?_,rfl⟩))
        rcases Mx _ _▸hk with hk|hk
        ·exact .inl (Gn hk)
        ·exact .inr (Ie.mp hk)
      ·cases hs
     ·cases hs
    ·rename_i b bG len hv
     split at hs
     ·rename_i j hj
      split at hs
      ·rename_i i fC
       cases hk:Gz i 0 with
       |false=>simp[hk]at hs
       |true=>
        simp only[hk,cond_true]at hs
        obtain rfl:=qy hs
        obtain rfl:=Gn hk
        exact ji m e (jdz e.cq ho ht hn h1 h2 h3 hv hj fC)
      ·cases hs
     ·cases hs
    ·cases hs
   ·rename_i n el ht
    obtain⟨sz,hn,rfl⟩:=Gt.1 hc
    simp only[qf,qo]at hs
    split at hs
    ·rename_i b q hv
     split at hs
     ·rename_i j hj
      split at hs
      ·rename_i i fC
       cases hk:(Gz i 0||Ib i j)with
       |false=>simp[hk]at hs
       |true=>
        simp only[hk,cond_true]at hs
        obtain rfl:=qy hs
        refine ji m e (q5y e.cq ho ht hn h1 h2 h3 hv hj fC ?_)
        rcases Mx _ _▸hk with hk|hk
        ·exact .inl (Gn hk)
        ·exact .inr (Ie.mp hk)
      ·cases hs
     ·cases hs
    ·cases hs
   ·cases hc
  ·cases hc
theorem q1f (m:ax P C ω w0 C0 hp w)(e:ak C ω w w0.heap.size env a.tmps){t:TypeId}{x i}(ho:o.op=.fieldAddr t x i)(hc:cV P h md r dst (.fieldAddr t x i)=I cP)(hs:qf p xc h0 al env hp cP=I res):yj P C C0 w0 a d env o w res:=by
 simp only[cV]at hc
 split at hc
 ·rename_i fs ht
  split at hc
  ·rename_i f hf
   split at hc
   ·rename_i ag n x' dr hn h1
    split at hc
    ·rename_i hb
     cases hc
     simp only[En,decide_eq_true_eq]at hb
     simp only[qf,qo]at hs
     split at hs
     ·rename_i b q hv
      obtain rfl:=qy hs
      exact ji m e (qo5 (ag:=ag) e.cq ho ht hf hn hb.1 h1 hv (.inl ⟨b,q,rfl,rfl⟩))
     ·rename_i cs hv
      split at hs
      ·rename_i z hz
       cases hk:Zm ag z.isAgg with
       |true=>simp[hk]at hs
       |false=>
        simp only[hk,cond_false]at hs
        obtain rfl:=qy hs
        exact ji m e (qo5 e.cq ho ht hf hn hb.1 h1 hv (.inr ⟨cs,z,rfl,hz,hk,rfl⟩))
      ·cases hs
     ·rename_i b bG q hv
      obtain rfl:=qy hs
      exact ji m e (qzq e.cq ho ht hf hn hb.1 h1 hv)
     ·cases hs
    ·cases hc
   ·cases hc
  ·cases hc
 ·cases hc
theorem jet (m:ax P C ω w0 C0 hp w)(e:ak C ω w w0.heap.size env a.tmps){t:TypeId}{x i}(ho:o.op=.field t x i)(hc:cV P h md r dst (.field t x i)=I cP)(hs:qf p xc h0 al env hp cP=I res):yj P C C0 w0 a d env o w res:=by
 simp only[cV]at hc
 split at hc
 ·rename_i fs ht
  split at hc
  ·rename_i f hf
   split at hc
   ·rename_i ag n x' dr hn h1
    cases hc
    simp only[qf,qo]at hs
    split at hs
    ·rename_i cs hv
     obtain⟨z,hz,rfl⟩:=vz hs
     exact ji m e (jfo e.cq ho ht hf dr hn h1 hv hz)
    ·cases hs
   ·cases hc
  ·cases hc
 ·cases hc
theorem q1c (m:ax P C ω w0 C0 hp w)(e:ak C ω w w0.heap.size env a.tmps){t:TypeId}{x i}(ho:o.op=.indexAddr t x i)(hc:cV P h md r dst (.indexAddr t x i)=I cP)(hs:qf p xc h0 al env hp cP=I res):yj P C C0 w0 a d env o w res:=by
 simp only[cV]at hc
 split at hc
 ·rename_i x' i' h1 h2
  split at hc
  ·rename_i el ht
   split at hc
   ·rename_i sz hn
    split at hc
    ·cases hc
     simp only[qf,qo]at hs
     split at hs
     ·rename_i nl dq xs iv hv hi
      cases hk:(Gz sz dq||xs.isEmpty)with
      |false=>simp[hk]at hs
      |true=>
       simp only[hk,cond_true]at hs
       split at hs
       ·rename_i j hj
        split at hs
        ·rename_i z hz
         obtain rfl:=qy hs
         have bB:xs.isEmpty=G0:=by
          have:=(Gy.1 hz).1
          cases xs with
          |nil=>simp at this
          |cons _ _=>rfl
         rw[bB,Bool.or_false]at hk
         obtain rfl:=Gn hk
         exact ji m e (qo2 e.cq ho ht hn h1 h2 hv hi (.inr ⟨nl,xs,z,j,rfl,hj,hz,rfl⟩))
        ·cases hs
       ·cases hs
     ·rename_i b q len iv hv hi
      split at hs
      ·rename_i j hj
       obtain rfl:=qy hs
       exact ji m e (qo2 e.cq ho ht hn h1 h2 hv hi (.inl ⟨b,q,len,j,rfl,hj,rfl⟩))
      ·cases hs
     ·rename_i b bG len iv hv hi
      split at hs
      ·rename_i j hj
       obtain rfl:=qy hs
       exact ji m e (qz5 e.cq ho ht hn h1 h2 hv hi hj)
      ·cases hs
     ·cases hs
    ·cases hc
   ·cases hc
  ·rename_i n el ht
   split at hc
   ·rename_i sz ag hn dr
    split at hc
    ·cases hc
     simp only[qf,qo]at hs
     split at hs
     ·rename_i b q iv hv hi
      split at hs
      ·rename_i j hj
       obtain rfl:=qy hs
       exact ji m e (qps (ag:=ag) e.cq ho ht hn h1 h2 hv hi hj (.inl ⟨b,q,rfl,rfl⟩))
      ·cases hs
     ·rename_i cs iv hv hi
      split at hs
      ·rename_i j hj
       split at hs
       ·rename_i z hz
        cases hk:Zm ag z.isAgg with
        |true=>simp[hk]at hs
        |false=>
         simp only[hk,cond_false]at hs
         obtain rfl:=qy hs
         exact ji m e (qps e.cq ho ht hn h1 h2 hv hi hj (.inr ⟨cs,z,rfl,hz,hk,rfl⟩))
       ·cases hs
      ·cases hs
     ·cases hs
    ·cases hc
   ·cases hc
  ·cases hc
 ·cases hc
theorem jgm (m:ax P C ω w0 C0 hp w)(e:ak C ω w w0.heap.size env a.tmps){t:TypeId}{x i}(ho:o.op=.index t x i)(hc:cV P h md r dst (.index t x i)=I cP)(hs:qf p xc h0 al env hp cP=I res):yj P C C0 w0 a d env o w res:=by
 simp only[cV]at hc
 split at hc
 ·rename_i x' i' h1 h2
  split at hc
  ·rename_i ht
   cases hc
   simp only[qf,qo]at hs
   split at hs
   ·rename_i s iv hv hi
    split at hs
    ·rename_i j hj
     split at hs
     ·rename_i c dO
      obtain rfl:=qy hs
      exact ji m e (q5d e.cq ho ht h1 h2 hv hi hj dO)
     ·cases hs
    ·cases hs
   ·cases hs
  ·rename_i n el ht
   split at hc
   ·rename_i sz ag hn dr
    cases hc
    simp only[qf,qo]at hs
    split at hs
    ·rename_i cs iv hv hi
     split at hs
     ·rename_i j hj
      obtain⟨z,hz,rfl⟩:=vz hs
      exact ji m e (jfu e.cq ho ht dr hn h1 h2 hv hi hj hz)
     ·cases hs
    ·cases hs
   ·cases hc
  ·cases hc
 ·cases hc
theorem q79 (m:ax P C ω w0 C0 hp w)(e:ak C ω w w0.heap.size env a.tmps){c}(ho:o.op=.call c)(oV:∀f,c.callee≠.value f)(hc:A7 P h md r dst c=I cP)(hs:qf p xc h0 al env hp cP=I res):yj P C C0 w0 a d env o w res:=by
 unfold A7 at hc
 split at hc
 ·rename_i f hf;exact absurd hf (oV f)
 ·rename_i eg
  split at hc
  ·rename_i x t eu eS
   split at hc
   ·rename_i ht
    obtain⟨x',hx,rfl⟩:=Gt.1 hc
    simp only[qf,qo]at hs
    split at hs<;>first|(exfalso;omega)|skip
    ·rename_i s _ hv
     obtain rfl:=qy hs
     exact ji m e (U3 e.cq ho eg eu eS hx hv (.inl ⟨ht,s,rfl,rfl⟩))
    ·cases hs
   ·rename_i el ht
    obtain⟨x',hx,rfl⟩:=Gt.1 hc
    simp only[qf,qo]at hs
    split at hs<;>first|(exfalso;omega)|skip
    ·rename_i n sz xs _ hv
     obtain rfl:=qy hs
     exact ji m e (U3 e.cq ho eg eu eS hx hv (.inr ⟨⟨el,ht⟩,.inl ⟨n,sz,xs,rfl,rfl⟩⟩))
    ·rename_i b q n _ hv
     obtain rfl:=qy hs
     exact ji m e (U3 e.cq ho eg eu eS hx hv (.inr ⟨⟨el,ht⟩,.inr ⟨b,q,rfl⟩⟩))
    ·rename_i b bG n _ hv
     obtain rfl:=qy hs
     exact ji m e (jhj e.cq ho eg eu eS hx hv ht)
    ·cases hs
   ·cases hc
  ·cases hc
 ·rename_i eg
  split at hc
  ·rename_i x t eu eS
   split at hc
   ·rename_i el ht
    obtain⟨x',hx,rfl⟩:=Gt.1 hc
    simp only[qf,qo]at hs
    split at hs<;>first|(exfalso;omega)|skip
    ·rename_i sz xs _ hv
     obtain rfl:=qy hs
     refine ji m e ?_
     have ha:c.args=#[x]:=by apply Vv;simpa using eu
     have lM:c.argTypes=#[t]:=by apply Vv;simpa using eS
     refine⟨.int .i64 0,?_,.int _ _⟩
     have hq:∃b,a.eval x=.slice b 0 0:=by
      rcases(qw e.cq hx hv).de with⟨_,_,h⟩|⟨h,_⟩|⟨h,_⟩
      ·exact⟨_,h⟩
      ·cases h
      ·cases h
     obtain⟨b,hq⟩:=hq
     simp[execOp,ho,resolve,eg,ha,lM,invoke,builtin,Builtin.cap_,run_underlying ht,hq,goInt]
    ·cases hs
   ·cases hc
  ·cases hc
 ·rename_i eg
  split at hc
  ·rename_i x y t u eu eS
   split at hc
   ·rename_i el ut ht hu
    split at hc
    ·rename_i jO
     split at hc
     ·rename_i sz b x' y' hn hb h1 h2
      cases hc
      have hzero:∃z,yw P el=I z∧z.length=sz:=by
       have hz:=(En _ _▸jO).2
       rw[hn]at hz
       cases yZ:yw P el with
       |none=>simp[yZ]at hz
       |some z=>exact⟨z,rfl,by simpa[yZ]using hz⟩
      generalize (dst.map (h.vec.contains ·)).getD G0=bb at hs
      cases bb with
      |true=>
       simp only[if_true,qf,qp]at hs
       split at hs
       ·rename_i Vq vy e1 e2
        split at hs
        ·rename_i ys cW
         cases hk:(Ig ys.length 1073741824&&Ig b 4096&&Ib 0 sz&&!ys.isEmpty&&qx 0 ys&&Ib r 1000)with
         |false=>rw[hk]at hs;cases hs
         |true=>
          rw[hk]at hs
          simp only[cond_true]at hs
          split at hs
          ·rename_i h' dw
           obtain rfl:=qy hs
           simp only[En]at hk jO
           obtain⟨⟨⟨⟨⟨k1,k2⟩,k3⟩,k4⟩,k5⟩,_⟩:=hk
           exact .inl (ji7 m e ho eg eu eS ht hu jO.1 hn hb h1 h2 e1 e2 cW (Gs k1) (by intro h;rw[h]at k4;cases k4) (Gs k2) k5 hzero dw)
          ·cases hs
        ·cases hs
       ·rename_i bx bG len vy e1 e2
        split at hs
        ·rename_i dq dK xs gP
         split at hs
         ·rename_i ys cW
          cases hk:(Gz bG dK&&Gz sz dq&&Ig len xs.length&&Ig (len+ys.length) 1073741824&&Ig b 4096&&Ib 0 sz&&qx 0 ys&&Ib r 1000)with
          |false=>rw[hk]at hs;cases hs
          |true=>
           rw[hk]at hs
           simp only[cond_true]at hs
           split at hs
           ·rename_i h' bw
            obtain rfl:=qy hs
            simp only[En]at hk jO
            obtain⟨⟨⟨⟨⟨⟨⟨k1,k2⟩,k3⟩,k4⟩,k5⟩,k6⟩,k7⟩,_⟩:=hk
            obtain rfl:=Gn k1
            obtain rfl:=Gn k2
            exact .inl (jmq m e ho eg eu eS ht hu jO.1 hn hb h1 h2 e1 e2 cW gP (Gs k3) (Gs k4) (Gs k5) k7 hzero bw)
           ·cases hs
         ·cases hs
        ·cases hs
       ·cases hs
      |false=>
      simp only[G1,if_false]at hs
      generalize hR:(if(Zn (fun x=>h.bP.contains x) dst).getD G0=Gq then I r else Ia)=R at hs
      cases R with
      |some rr=>
       simp only[qf,qp]at hs
       split at hs
       ·rename_i dq vy e1 e2
        cases gp:((zu env x').isSome&&Gz sz dq)with
        |false=>simp[gp]at hs
        |true=>
         simp only[gp,cond_true]at hs
         split at hs
         ·rename_i ys cW
          cases dz:(Ig ys.length 1073741824&&Ig b 4096&&Ib 0 sz)with
          |false=>simp[dz]at hs
          |true=>
           simp only[dz,cond_true]at hs
           split at hs
           ·rename_i h' dw
            cases hs
            simp only[En]at dz jO gp
            obtain⟨⟨k2,k3⟩,k4⟩:=dz
            refine .inl (q1a m e ho eg eu eS ht hu jO.1 hn hb h1 h2 e1 e2 cW gp.1 rfl (Gs k2) (Gs k3) ?_ (Gn gp.2) dw)
            have hz:=jO.2
            rw[hn]at hz
            cases yZ:yw P el with
            |none=>simp[yZ]at hz
            |some z=>exact⟨z,rfl,by simpa[yZ]using hz⟩
           ·cases hs
         ·cases hs
       ·cases hs
      |none=>
       simp only[qf,qo]at hs
       split at hs
       ·rename_i n dq xs vy e1 e2
        cases gp:(n||(zu env x').isSome)with
        |false=>simp[gp]at hs
        |true=>
         simp only[gp,cond_true]at hs
         split at hs
         ·rename_i ys cW
          cases dz:((Gz sz dq||(xs.isEmpty&&n))&&Ig (xs.length+ys.length) 1073741824&&Ig b 4096&&Ib 0 sz)with
          |false=>simp[dz]at hs
          |true=>
           simp only[dz,cond_true]at hs
           cases hs
           simp only[En]at dz jO
           obtain⟨⟨⟨k1,k2⟩,k3⟩,k4⟩:=dz
           refine .inl (jb6 m e ho eg eu eS ht hu jO.1 hn hb h1 h2 e1 e2 cW (by simpa using gp) ?_ (Gs k2) (Gs k3) ?_)
           ·rcases Mx _ _▸k1 with k1|k1
            ·exact .inl (Gn k1)
            ·simp only[En,Vj]at k1;exact .inr k1
           ·have hz:=jO.2
            rw[hn]at hz
            cases yZ:yw P el with
            |none=>simp[yZ]at hz
            |some z=>exact⟨z,rfl,by simpa[yZ]using hz⟩
         ·cases hs
       ·cases hs
     ·cases hc
    ·cases hc
   ·cases hc
  ·cases hc
 ·rename_i eg
  split at hc
  ·rename_i x y t ts eu eS
   split at hc
   ·rename_i el ht
    split at hc
    ·rename_i sz x' y' hn h1 h2
     cases hc
     simp only[qf,qp]at hs
     split at hs
     ·rename_i b q len vy e1 e2
      cases hk:zd h0 al b with
      |false=>simp[hk]at hs
      |true=>
       simp only[hk,cond_true]at hs
       split at hs
       ·rename_i cs hcs
        split at hs
        ·rename_i n us cW
         split at hs
         ·rename_i eK ct
          cases dz:Gz us.length (n*sz)with
          |false=>simp[dz]at hs
          |true=>
           simp only[dz,cond_true]at hs
           split at hs
           ·rename_i h' bw
            obtain rfl:=qy hs
            exact .inl (jm9 m e ho eg eu eS ht hn h1 h2 e1 e2 hcs cW ct (Gn dz) bw)
           ·cases hs
         ·cases hs
        ·cases hs
       ·cases hs
     ·cases hs
    ·cases hc
   ·cases hc
  ·cases hc
 ·rename_i eg
  split at hc
  ·rename_i x y t ts eu eS
   split at hc
   ·rename_i kt el ht
    split at hc
    ·rename_i kd x' y' iK h1 h2
     cases hc
     simp only[qf,qp]at hs
     split at hs
     ·rename_i b kv e1 e2
      cases hk:zd h0 al b with
      |false=>simp[hk]at hs
      |true=>
       simp only[hk,cond_true]at hs
       split at hs
       ·rename_i es hb
        split at hs
        ·rename_i r hf
         split at hs
         ·rename_i h' bw
          obtain rfl:=qy hs
          exact .inl (jbl m e ho eg eu eS ht iK h1 h2 e1 e2 hb hf bw)
         ·cases hs
        ·cases hs
       ·cases hs
     ·cases hs
    ·cases hc
   ·cases hc
  ·cases hc
 ·rename_i eg
  obtain⟨l,hl,rfl⟩:=Gt.1 hc
  simp only[qf,qo]at hs
  split at hs
  ·rename_i v vs hv
   obtain⟨z,hz,rfl⟩:=vz hs
   exact ji m e (jfw (mx:=true) e.cq ho eg hl hv hz)
  ·cases hs
 ·rename_i eg
  obtain⟨l,hl,rfl⟩:=Gt.1 hc
  simp only[qf,qo]at hs
  split at hs
  ·rename_i v vs hv
   obtain⟨z,hz,rfl⟩:=vz hs
   exact ji m e (jfw (mx:=false) e.cq ho eg hl hv hz)
  ·cases hs
 ·cases hc
end
def aH.cut (C:aH)(n:Nat):aH:={ C with β:=fun b=>if b<n then C.β b else Ia }
theorem aH.fi (C:aH)(n:Nat):(C.cut n).le C where
 k _ _ _ h:=h
 b b r h:=by
  simp only[aH.cut]at h
  split at h
  ·exact h
  ·cases h
 w:=rfl
 d _ h:=h
theorem aH.iR {C C':aH}{n}(h:C.le C')(hn:∀b r,C.β b=I r→b<n):C.le (C'.cut n):=
 ⟨h.1,fun b r hb=>by simp only[aH.cut];rw[if_pos (hn b r hb)];exact h.2 b r hb,h.w,h.d,h.t⟩
section
variable {P:Program}{p:zb}{xc:XC}{C C0:aH}{ω:Nat→Option Loc}{w w0:World}{hp:qh}{env:Env}{tmps:Array Value}{B:Nat}
theorem aI.cut {ℓ x v}(n:Nat)(ho:aI C ω w B ℓ x v):aI (C.cut n) ω w B ℓ x v:=by
 unfold aI at *
 split at ho
 ·obtain⟨h1,h2,h3,h4,h5⟩:=ho
  exact⟨h1,h2,fun b hb=>h3 b ((aH.fi C n).2 b _ hb),h4,h5⟩
 ·obtain⟨h1,h2,h3,h4,h5⟩:=ho
  exact⟨h1,h2,fun b hb=>h3 b ((aH.fi C n).2 b _ hb),h4,h5⟩
 ·trivial
theorem bN.cut {x v n}(h:bN C x v)(hb:below n x=Gq):bN (C.cut n) x v:=
 aC.shift (C:=C) (C':=C.cut n) n (fun _ _ _ h=>h) (fun b r br hb=>by simp only[aH.cut];rw[if_pos br];exact hb) h hb
theorem Vx {n}:∀ {e:Env} {s:Nat} {x:AVal×Bool},nj n e=Gq→jj s e=I x→below n x.1=Gq
 | [],_,_,_,h=>by simp[jj]at h
 |(t,y)::e,s,x,hb,h=>by
  simp only[nj,En]at hb
  simp only[jj]at h
  cases lQ:Gz t s with
  |true=>simp only[lQ,cond_true,I.injEq]at h;subst h;exact hb.1
  |false=>simp only[lQ,cond_false]at h;exact Vx hb.2 h
theorem qo3 {n}:∀ {l:qh} {b:Nat} {x:bh},zw n l=Gq→l[b]?=I x→pF n x=Gq
 | [],_,_,_,h=>by simp at h
 |y::l,b,x,hb,h=>by
  simp only[zw,En]at hb
  cases b with
  |zero=>simp at h;subst h;exact hb.1
  |succ b=>simp at h;exact qo3 hb.2 h
theorem qmn {n}:∀ {l:List (AVal×Bool)} {j:Nat} {c:AVal×Bool},pE n l=Gq→l[j]?=I c→below n c.1=Gq
 | [],_,_,_,h=>by simp at h
 |(y,o)::l,j,c,hb,h=>by
  simp only[pE,En]at hb
  cases j with
  |zero=>simp at h;subst h;exact hb.1
  |succ j=>simp at h;exact qmn hb.2 h
theorem cL.cut {n es ms}(hr:cL C es ms):vg n es=Gq→cL (C.cut n) es ms:=by
 induction hr with
 |nil=>exact fun _=>.nil
 |cons k v es m ms hk hv _ ih=>
  intro hb
  simp only[vg,En]at hb
  exact .cons k v es m ms (bN.cut hk hb.1.1) (bN.cut hv hb.1.2) (ih hb.2)
theorem bD.cut {b r n x}(h:bD P C ω w B b r x)(hb:pF n x=Gq):bD P (C.cut n) ω w B b r x:=by
 cases x with
 |hole=>exact h
 |cells cs=>
  obtain⟨vs,el,h1,h2,h3⟩:=h
  exact⟨vs,el,h1,h2,fun j c hc=>let ⟨v,a,q,b,d⟩:=h3 j c hc; ⟨v,a,q,bN.cut b (qmn hb hc),fun e=>(d e).cut n⟩⟩
 |map es=>obtain⟨cf,clock,h1,h2⟩:=h;exact⟨cf,clock,h1,h2.cut hb⟩
 |iter s pos=>exact h
 |loop l=>obtain⟨lp,h1,h2⟩:=h;exact⟨lp,h1,{ h2 with env:=fun s x hx=>let ⟨v,a,b⟩:=h2.env s x hx; ⟨v,a,bN.cut b (Vx hb hx)⟩ }⟩
 |gi t e l=>obtain⟨p,v,h1,h2,h3,h4⟩:=h;exact⟨p,v,h1,h2,h3,h4.cut n⟩
 |dead=>exact h
 |vec sz bG xs=>exact eo.imp (C:=C) (C':=C.cut n) (ω:=ω) (ω':=ω) (B':=B) (fun _ _ _ h=>h) (fun _ h=>h) (fun _ h _=>h) rfl (fun q n' cap k=>⟨rfl,aI.cut (C:=C) n k⟩) h
theorem ax.gc (m:ax P C ω w0 C0 hp w){n:Nat}(hn:n≤hp.length)(hb:zw n (hp.take n)=Gq)(h0:∀b r,C0.β b=I r→b<n):ax P (C.cut n) ω w0 C0 (hp.take n) w where
 base:=m.base
 know:=m.know
 dv:=m.dv
 apart b r o hb:=m.apart b r o ((aH.fi C n).2 b r hb)
 inj b b' r h1 h2:=m.inj b b' r ((aH.fi C n).2 _ _ h1) ((aH.fi C n).2 _ _ h2)
 lt b r h:=by
  have h1:=m.lt b r ((aH.fi C n).2 _ _ h)
  refine⟨h1.1,?_⟩
  simp only[aH.cut]at h
  split at h
  ·rw[Oz];omega
  ·cases h
 size:=m.size
 frame:=m.frame
 fF:=m.fF
 os:=m.os
 output:=m.output
 fresh b r h:=m.fresh b r ((aH.fi C n).2 _ _ h)
 grown:=aH.iR m.grown h0
 old:=m.old
 box b x r hx hr:=by
  have br:b<n:=by
   have:=(Gy.1 hx).1
   rw[Oz]at this;omega
  have eR:hp[b]?=I x:=by rwa [List.getElem?_take_of_lt br]at hx
  exact(m.box b x r eR ((aH.fi C n).2 _ _ hr)).cut (qo3 hb hx)
 iH:=m.iH
theorem ak.cut {n}(e:ak C ω w B env tmps)(hb:nj n env=Gq):ak (C.cut n) ω w B env tmps:=
 fun s x hx=>let ⟨v,h1,h2,h3⟩:=e s x hx; ⟨v,h1,bN.cut h2 (Vx hb hx),fun h=>(h3 h).cut n⟩
def j1i (env:Env)(hp:qh)(r:nh)(ℓ:Loc)(x:AVal×Bool):Prop:=
 (∃s,ℓ=.slot s)∨∃t n b j ow cs,r=.cell t G0 n∧jj t env=I (.ptr b j,ow)∧ℓ=.cell b j∧jy hp b=I cs∧cs[j]?=I x
def Vy (C:aH)(ω:Nat→Option Loc)(w:World)(B:Nat)(env:Env)(hp:qh)(r:nh)(x:AVal×Bool)(v:Value):Prop:=bN C x.1 v∧(x.2=Gq→∃ℓ,aI C ω w B ℓ x.1 v∧j1i env hp r ℓ x)
theorem q36 {B'}(m:ax P C ω w0 C0 hp w)(hB:B'=w0.heap.size)(e:ak C ω w B' env tmps){rv r x}(hc:LW P rv=I r)(hr:vj ⟨env,hp⟩ r=I x):
  ∃v,((match rv with | .tmp t=>pure (tmps.getD t undef) | .cell a t=>do loadVar t (←asAddr (tmps.getD a undef)):Sem Value)).run P w=.ok v w∧Vy C ω w B' env hp r x v:=by
 subst hB
 cases rv with
 |tmp t=>
  simp only[LW]at hc
  cases hc
  simp only[vj]at hr
  obtain⟨v,h1,h2,h3⟩:=e t x hr
  refine⟨v,?_,h2,fun h=>⟨_,h3 h,.inl ⟨_,rfl⟩⟩⟩
  simp[Ic,h1]
 |cell t ty=>
  simp only[LW]at hc
  have key:∀ {ag:Bool} {n:Nat},yr P ty=I ag→js P ty=I n→(ag=G0→n=1)→vj ⟨env,hp⟩ (.cell t ag n)=I x→∃v,((do loadVar ty (←asAddr (tmps.getD t undef)):Sem Value)).run P w=.ok v w∧Vy C ω w w0.heap.size env hp (.cell t ag n) x v:=by
   intro ag n hg hn GI hr
   simp only[vj]at hr
   split at hr
   ·rename_i b q ow hl
    obtain⟨u,h1,h2,_⟩:=e t _ hl
    obtain⟨r,iJ,rfl⟩:=h2.dy
    have hu:tmps.getD t undef=.pointer (I ⟨r,q,Ia⟩):=by simp[Ic,h1]
    split at hr
    ·rename_i cs hcs
     have gO:=m.box b _ r (wK hcs) iJ
     split at hr
     ·rename_i us hH
      cases ag with
      |true=>
       simp only[cond_true,I.injEq]at hr
       subst hr
       obtain⟨vs,k1,_,k2,k3,_⟩:=gO.read hH
       refine⟨.agg ⟨vs⟩,?_,.agg _ _ k1,by simp⟩
       simp[hu,asAddr,GG hg hn k2 k3]
      |false=>
       simp only[cond_false]at hr
       split at hr
       ·rename_i c hc
        cases hr
        obtain⟨vs,te,g1,g2,g3⟩:=gO
        obtain⟨v,a1,a2,a3,a4⟩:=g3 q _ hc
        have ej:w.cell? ⟨r,q,Ia⟩=I v:=by
         simp only[World.cell?,g1]
         simpa using a1
        refine⟨v,?_,a3,fun h=>⟨_,a4 h,.inr ⟨_,_,_,_,_,_,rfl,hl,rfl,hcs,hc⟩⟩⟩
        simp[hu,asAddr,GH hg ej]
       ·cases hr
     ·cases hr
    ·cases hr
   ·cases hr
  split at hc
  ·rename_i n hg hn;cases hc;exact key hg hn (by simp) hr
  ·rename_i hg hn;cases hc;exact key hg hn (fun _=>rfl) hr
  ·cases hc
inductive kY (P:Program)(C:aH)(ω:Nat→Option Loc)(w:World)(B:Nat)(env:Env)(hp:qh):List nh→List (AVal×Bool)→List Value→Prop where
 |nil:kY P C ω w B env hp [] [] []
 |cons {r:nh} {x:AVal×Bool} {v:Value} {rs:List nh} {xs:List (AVal×Bool)} {vs:List Value} (h:Vy C ω w B env hp r x v) (t:kY P C ω w B env hp rs xs vs):kY P C ω w B env hp (r::rs) (x::xs) (v::vs)
theorem kY.cq {rs xs vs}(h:kY P C ω w B env hp rs xs vs):aV C (xs.map (·.1)) vs:=by
 induction h with
 |nil=>exact .nil
 |cons h _ ih=>exact .cons _ _ _ _ h.1 ih
theorem qov {B'}(m:ax P C ω w0 C0 hp w)(hB:B'=w0.heap.size)(e:ak C ω w B' env tmps):∀ {l:List ResultVar} {rs:List nh} {xs:List (AVal×Bool)},Bc P l=I rs→kq ⟨env,hp⟩ rs=I xs →
  ∃vs,(l.mapM fun(rv:ResultVar)=>(match rv with | .tmp t=>pure (tmps.getD t undef) | .cell a t=>do loadVar t (←asAddr (tmps.getD a undef)):Sem Value)).run P w=.ok vs w∧kY P C ω w B' env hp rs xs vs
 | [],rs,xs,hc,hr=>by
  simp[Bc]at hc;subst hc
  simp[kq]at hr;subst hr
  exact⟨[],rfl,.nil⟩
 |rv::l,rs,xs,hc,hr=>by
  simp only[Bc]at hc
  split at hc
  ·rename_i r Ey h1 h2
   cases hc
   simp only[kq]at hr
   split at hr
   ·rename_i x hx
    split at hr
    ·rename_i ys nx
     cases hr
     obtain⟨v,k1,k2⟩:=q36 m hB e h1 hx
     obtain⟨vs,j1,j2⟩:=qov m hB e h2 nx
     refine⟨v::vs,?_,.cons k2 j2⟩
     simp only[List.mapM_cons,Sem.run_bind,k1,Result.andThen_ok,j1,Sem.run_pure]
    ·cases hr
   ·cases hr
  ·cases hc
def EJ:List Value→Value
 | [v]=>v
 |vs=>.tuple ⟨vs⟩
theorem qwv (m:ax P C ω w0 C0 hp w){ω' b j v ow cs}(lA:jy hp b=I cs)(hc:cs[j]?=I (v,ow))(hω:∀b' j' y u,(b'≠b∨j'≠j)→aI C ω w w0.heap.size (.cell b' j') y u→aI C ω' w w0.heap.size (.cell b' j') y u):
  ax P C ω' w0 C0 (hp.set b (.cells (cs.set j (v,G0)))) w:=by
 by_cases hb:∃r,C.β b=I r
 ·obtain⟨r,hr⟩:=hb
  obtain⟨vs,te,hg,db,hold⟩:=m.box b _ r (wK lA) hr
  obtain⟨cv,k1,k2,k3,k4⟩:=hold j _ hc
  have hu:nE w w r:=⟨rfl,fun _ _=>rfl,fun c t fr h=>by rw[hg]at h;cases h;rfl,rfl,rfl⟩
  refine m.dX hu hr _ (fun b' j' y u fN hz=>hω b' j' y u (.inl fN) hz) ⟨vs,te,hg,by simpa using db,fun i c hi=>?_⟩
  rw[Vb]at hi
  split at hi
  ·rename_i pM
   subst pM
   split at hi
   ·cases hi;exact⟨cv,k1,k2,k3,by simp⟩
   ·cases hi
  ·rename_i pM
   obtain⟨u,a1,a2,a3,a4⟩:=hold i c hi
   exact⟨u,a1,a2,a3,fun h=>hω b i _ _ (.inr (Ih pM)) (a4 h)⟩
 ·refine { m with lt:=fun k r hk=>by rw[J0];exact m.lt k r hk,box:=fun k x r hx hk=>?_ }
  have kT:k≠b:=fun h=>hb ⟨r,h▸hk⟩
  rw[Gp (Ih kT)]at hx
  exact(m.box k x r hx hk).mono (aH.le_refl C) fun j' y u ho=>hω k j' y u (.inl kT) ho
theorem jnm (m:ax P C ω w0 C0 hp w){rs xs vs}(h:kY P C ω w w0.heap.size env hp rs xs vs):
  ∃ω',ax P C ω' w0 C0 (lx ⟨env,hp⟩ rs) w∧bN C (za xs).1 (EJ vs)∧((za xs).2=Gq→aI C ω' w w0.heap.size (.slot 0) (za xs).1 (EJ vs)):=by
 have same:∃ω',ax P C ω' w0 C0 hp w:=⟨ω,m⟩
 cases h with
 |nil=>exact⟨ω,m,by simpa[za,EJ]using aC.aB _ _ (aC.nil),by simp[za]⟩
 |cons hx ht=>
  cases ht with
  |cons hy ht=>
   have:=(kY.cons hx (kY.cons hy ht)).cq
   exact⟨ω,by simpa[lx]using m,by simpa[za,EJ]using aC.aB _ _ this,by simp[za]⟩
  |nil=>
   rename_i r x v
   obtain⟨h1,h2⟩:=hx
   simp only[za]
   -- without the flag
   have plain:ax P C ω w0 C0 (lx ⟨env,hp⟩ [r]) w:=by
    unfold lx
    split
    ·split
     ·split
      ·rename_i cs hcs
       split
       ·rename_i u hu
        exact qwv m hcs hu (fun _ _ _ _ _ h=>h)
       ·exact m
      ·exact m
     ·exact m
    ·exact m
   by_cases hk:x.2=Gq
   ·have gp:=hk
    obtain⟨ℓ,h3,h4⟩:=h2 gp
    refine⟨vt ω x.1 v (.slot 0),?_,h1,fun _=>Mb h3⟩
    rcases h4 with⟨s,rfl⟩|⟨t,n,b,j,ow,cs,rfl,g1,rfl,g2,g3⟩
    ·exact { plain with box:=fun b x r hx hb=>(plain.box b x r hx hb).mono (aH.le_refl C) fun j y u hz=>yV h3 (by simp) hz }
    ·obtain⟨xv,xo⟩:=x
     simp only at gp
     subst gp
     have:lx ⟨env,hp⟩ [.cell t G0 n]=hp.set b (.cells (cs.set j (xv,G0))):=by
      simp only[lx,g1,g2,g3]
     rw[this]
     exact qwv m g2 g3 fun b' j' y u bB hz=>yV h3 (by
      rcases bB with bB|bB
      ·simp[bB]
      ·simp[bB]) hz
   ·exact⟨ω,plain,h1,fun h=>absurd h hk⟩
theorem q7j {fn}(m:ax P C ω w0 C0 hp w)(e:ak C ω w w0.heap.size env tmps){rs xs}(hc:Bc P fn.results.toList=I rs)(hr:kq ⟨env,hp⟩ rs=I xs):
  ∃v ω',(results fn tmps).run P w=.ok v w∧ax P C ω' w0 C0 (lx ⟨env,hp⟩ rs) w∧bN C (za xs).1 v∧((za xs).2=Gq→aI C ω' w w0.heap.size (.slot 0) (za xs).1 v):=by
 obtain⟨vs,h1,h2⟩:=qov m rfl e hc hr
 have lO:(fn.results.mapM fun(rv:ResultVar)=>(match rv with | .tmp t=>pure (tmps.getD t undef) | .cell a t=>do loadVar t (←asAddr (tmps.getD a undef)):Sem Value)).run P w=.ok vs.toArray w:=by
  rw[Array.mapM_eq_mapM_toList]
  simp only[Sem.run_map]
  rw[h1]
  rfl
 have bE:(results fn tmps).run P w=.ok (if h:vs.toArray.size=1 then vs.toArray[0]else .tuple vs.toArray) w:=by
  unfold results
  rw[Sem.run_bind]
  exact congrArg (fun z=>Result.andThen z fun(a:Array Value) w'=>Sem.run P (pure (if h:a.size=1 then a[0]else Value.tuple a)) w') lO
 have hval:(if h:vs.toArray.size=1 then vs.toArray[0]else .tuple vs.toArray)=(EJ vs):=by
  match vs with
  | []=>rfl
  | [v]=>rfl
  |v::u::vs=>simp[EJ]
 rw[hval]at bE
 obtain⟨ω',q1,q2,q3⟩:=jnm m h2
 exact⟨_,ω',bE,q1,q2,q3⟩
end
section
variable {P:Program}{C C0:aH}{ω:Nat→Option Loc}{w w0:World}{hp:qh}
def rD (C:aH)(hp:qh)(r:Nat):Prop:=∃b sz bG xs r0 cap,hp[b]?=I (.vec sz bG xs)∧C.β b=I r0∧C.T (r0,bG,r,cap)
def Hid (C:aH)(hp:qh)(r:Nat):Prop:=(∃b,C.β b=I r)∨rD C hp r
theorem rD.is (m:ax P C ω w0 C0 hp w){r}(h:rD C hp r):(∃b,C.β b=I r)∨∃b sz bG xs n cap,hp[b]?=I (.vec sz bG xs)∧yQ C ω w w0.heap.size b r n cap:=by
 obtain⟨b,sz,bG,xs,r0,cap,h1,h2,h3⟩:=h
 obtain⟨q,kW,k1,k2,k3,k4,_⟩:=m.box b _ r0 h1 h2
 have:=(k2 _ h3 rfl).2 rfl
 simp only[Vd.injEq]at this
 obtain⟨rfl,rfl⟩:=this
 rcases k4 with rfl|k4
 ·exact .inl ⟨b,h2⟩
 ·exact .inr ⟨b,sz,bG,xs,_,_,h1,k4⟩
theorem Vz (m:ax P C ω w0 C0 hp w){r}(h:Hid C hp r)(o:Nat):C.K r o=Ia:=by
 rcases h with⟨b,hb⟩|h
 ·exact m.apart b r o hb
 ·rcases h.is m with⟨b,hb⟩|⟨b,sz,bG,xs,n,cap,_,h2⟩
  ·exact m.apart b r o hb
  ·exact h2.2.2.2.2.2.2 o (by simp)
theorem jfp {K}(hW:C.W=fun _=>False)(m:ax P C ω w0 (.bW K) hp w){r}(h:Hid C hp r):w0.heap.size≤r:=by
 have key:∀b,C.β b=I r→w0.heap.size≤r:=fun b hb=>by
  rcases m.fresh b r hb with h|h|h
  ·cases h
  ·exact h
  ·exact h.elim
 rcases h with⟨b,hb⟩|h
 ·exact key b hb
 ·rcases h.is m with⟨b,hb⟩|⟨b,sz,bG,xs,n,cap,_,h2⟩
  ·exact key b hb
  ·rcases h2.2.1 with h|h
   ·exact h
   ·rw[hW]at h;exact h.elim
theorem jsw (m:ax P C ω w0 C0 hp w){r}(h:Hid C hp r):r<w.heap.size:=by
 rcases h with⟨b,hb⟩|h
 ·exact(m.lt b r hb).1
 ·rcases h.is m with⟨b,hb⟩|⟨b,sz,bG,xs,n,cap,_,h2⟩
  ·exact(m.lt b r hb).1
  ·obtain⟨_,_,_,_,_,⟨cells,elem,h5,_⟩,_⟩:=h2
   exact(Gv.1 h5).1
open Classical in
noncomputable def zx (C:aH)(hp:qh)(w:World):Nat→Nat→Option Value:=fun r o=>if Hid C hp r then(w.cell? ⟨r,o,Ia⟩).filter (·.oneCell')else C.K r o
theorem G3 (m:ax P C ω w0 C0 hp w){r o x}(h:C.K r o=I x):zx C hp w r o=I x:=by
 unfold zx
 rw[if_neg]
 ·exact h
 ·intro hh
  rw[Vz m hh o]at h;cases h
theorem Mh (m:ax P C ω w0 C0 hp w){r o x}(h:zx C hp w r o=I x):w.cell? ⟨r,o,Ia⟩=I x∧x.oneCell'=Gq:=by
 unfold zx at h
 split at h
 ·rw[Option.filter_eq_some_iff]at h;exact h
 ·exact⟨m.know r o x h,m.dv r o x h⟩
theorem qss {r o x}(hb:Hid C hp r)(hc:w.cell? ⟨r,o,Ia⟩=I x)(h1:x.oneCell'=Gq):zx C hp w r o=I x:=by
 unfold zx
 rw[if_pos hb,hc]
 simp[h1]
theorem VA {b r o x}(hb:C.β b=I r)(hc:w.cell? ⟨r,o,Ia⟩=I x)(h1:x.oneCell'=Gq):zx C hp w r o=I x:=
 qss (.inl ⟨b,hb⟩) hc h1
theorem VB (m:ax P C ω w0 C0 hp w){x v}(h:bN C x v)(hb:below 0 x=Gq):bN (.bW (zx C hp w)) x v:=
 aC.shift (C:=C) (C':=.bW (zx C hp w)) 0 (fun _ _ _ h=>G3 m h) (fun b r br=>by omega) h hb
theorem qs7 {x v}(h:bN C x v)(h1:v.oneCell'=Gq):x.isAgg=G0:=by
 cases h<;>first|rfl|(simp[Value.oneCell']at h1)
theorem VC {C r}:∀ {ys:List AVal} {o:Nat},(∀j x,ys[j]?=I x→∃v,C.K r (o+j)=I v∧bN C x v)→cB C r ys o
 | [],o,_=>.iw _ _
 |x::ys,o,h=>by
  obtain⟨v,h1,h2⟩:=h 0 x rfl
  refine .dL _ _ _ _ v (by simpa using h1) h2 (VC fun j y hy=>?_)
  obtain⟨v,k1,k2⟩:=h (j+1) y (by simpa using hy)
  exact⟨v,by rw[show o+1+j=o+(j+1) by omega];exact k1,k2⟩
theorem VD {C r sz}(hz:0<sz):∀ {n:Nat} {xs:List AVal} {o:Nat},xs.length=n*sz→(∀x∈xs,x.isAgg=G0)→(∀j x,xs[j]?=I x→∃v,C.K r (o+j)=I v∧bN C x v)→bu C r sz (mH sz n xs) o
 |0,xs,o,_,_,_=>.fV _ _ _
 |n+1,xs,o,hl,hp,h=>by
  rw[Nat.succ_mul]at hl
  have hf:(bif Gz sz 1 then xs.headD .undef else AVal.agg (xs.take sz)).flat=xs.take sz:=by
   cases hb:Gz sz 1 with
   |false=>rfl
   |true=>
    have:=Gn hb
    subst this
    match xs,hl with
    |x::xs,_=>simp only[cond_true,List.headD_cons];rw[qa4 (hp x (List.mem_cons_self ..))];rfl
  refine .dF _ _ _ _ _ ?_ ?_ (VD hz ?_ (fun x hx=>hp x (List.mem_of_mem_drop hx)) fun j x hx=>?_)
  ·rw[hf,Oz];omega
  ·rw[hf]
   refine VC fun j x hx=>h j x ?_
   rw[List.getElem?_take]at hx
   split at hx
   ·exact hx
   ·cases hx
  ·rw[X6];omega
  ·rw[List.getElem?_drop]at hx
   obtain⟨v,k1,k2⟩:=h _ x hx
   exact⟨v,by rw[Nat.add_assoc];exact k1,k2⟩
theorem G4 {sz}:∀ {n:Nat} {xs:List AVal},(mH sz n xs).length=n
 |0,_=>rfl
 |n+1,xs=>by simp only[mH,List.length_cons];rw[G4]
theorem qqk {sz}(hz:1<sz):∀ {n:Nat} {xs:List AVal},xs.length=n*sz→qx 0 (mH sz n xs)=Gq→∀x∈xs,below 0 x=Gq
 |0,xs,hl,_=>by
  rw[Nat.zero_mul]at hl
  rw[Vk.1 hl]
  intro x hx;cases hx
 |n+1,xs,hl,h=>by
  have hb:Gz sz 1=G0:=by
   cases hc:Gz sz 1 with
   |false=>rfl
   |true=>have:=Gn hc;omega
  simp only[mH,hb,cond_false,qx,below,En]at h
  have ih:=qqk hz (n:=n) (xs:=xs.drop sz) (by rw[X6,hl,Nat.succ_mul];omega) h.2
  have ht:∀(ys:List AVal),qx 0 ys=Gq→∀x∈ys,below 0 x=Gq:=by
   intro ys
   induction ys with
   |nil=>intro _ x hx;cases hx
   |cons y ys ih=>
    intro hh x hx
    simp only[qx,En]at hh
    rcases Vg.1 hx with rfl|hx
    ·exact hh.1
    ·exact ih hh.2 x hx
  intro x hx
  rw[←List.take_append_drop sz xs]at hx
  rcases U6.1 hx with hx|hx
  ·exact ht _ h.1 x hx
  ·exact ih x hx
theorem VE (m:ax P C ω w0 C0 hp w){x x' v}(hf:kx hp x=I x')(h:bN C x v)(hb:below 0 x'=Gq):bN (.bW (zx C hp w)) x' v:=by
 unfold kx at hf
 split at hf
 ·rename_i b off len
  split at hf
  ·rename_i cs hcs
   cases du:Er off len cs with
   |true=>
    rw[du]at hf
    simp only[cond_true,I.injEq]at hf
    subst hf
    simp only[Er,En]at du
    obtain⟨⟨⟨r0,r1⟩,r2⟩,_⟩:=du
    have r0:=Gn r0
    have r2:=Gn r2
    have r1:1<cs.length / len:=by simpa using r1
    subst r0
    obtain⟨r,cap,iJ,hle,rfl⟩:=h.fe
    obtain⟨vs,elem,k1,k2,k3⟩:=m.box b _ r (wK hcs) iJ
    have jN:qx 0 (mH (cs.length / len) len (cs.map (·.1)))=Gq:=by simpa[below]using hb
    have VF:=qqk r1 (by rw[Vm];exact r2.symm) jN
    have hrr:bu (.bW (zx C hp w)) r (cs.length / len) (mH (cs.length / len) len (cs.map (·.1))) 0:=by
     refine VD (by omega) (by rw[Vm];exact r2.symm) (fun x hx=>?_) fun j x hx=>?_
     ·obtain⟨j,hj⟩:=List.getElem?_of_mem hx
      rw[N9,Gt]at hj
      obtain⟨c,hc,rfl⟩:=hj
      obtain⟨u,q1,q2,q3,_⟩:=k3 j c hc
      exact qs7 q3 q2
     ·have cR:=J6 hx
      rw[N9,Gt]at hx
      obtain⟨c,hc,rfl⟩:=hx
      obtain⟨u,q1,q2,q3,_⟩:=k3 j c hc
      have ej:w.cell? ⟨r,0+j,Ia⟩=I u:=by
       unfold World.cell?
       rw[k1]
       simp only[Ma,G1,if_false,U9]
       exact q1
      exact⟨u,VA iJ ej q2,VB m q3 (VF _ cR)⟩
    have:=aC.list (C:=.bW (zx C hp w)) (cs.length / len) (mH (cs.length / len) len (cs.map (·.1))) r 0 cap (by rw[G4];exact hle) hrr
    rw[G4]at this
    exact this
   |false=>
   rw[du]at hf
   simp only[cond_false]at hf
   split at hf
   ·rename_i us hH
    cases hf
    obtain⟨r,cap,iJ,hle,rfl⟩:=h.fe
    obtain⟨vs,k1,k0,k2,k3,k4⟩:=(m.box b _ r (wK hcs) iJ).read hH
    have jN:qx 0 us=Gq:=by simpa[below]using hb
    have gq:aV (.bW (zx C hp w)) us vs:=aC.shift (C:=C) (C':=.bW (zx C hp w)) 0 (fun _ _ _ h=>G3 m h) (fun b r br=>by omega) k1 jN
    have kD:∀(us:List AVal) (vs:List Value),aV C us vs→(∀v∈vs,v.oneCell'=Gq)→us.flatMap AVal.flat=us∧∀u∈us,u.flat.length=1:=by
     intro us
     induction us with
     |nil=>intro _ _ _;exact⟨rfl,by simp⟩
     |cons u us ih=>
      intro vs h h1
      cases h with
      |cons _ _ v vs hx h=>
       obtain⟨i1,i2⟩:=ih vs h (fun v hv=>h1 v (by simp[hv]))
       have yS:=qs7 hx (h1 v (by simp))
       rw[X5,qa4 yS,i1]
       refine⟨rfl,fun u' lS=>?_⟩
       rcases Vg.1 lS with rfl|lS
       ·rw[qa4 yS];rfl
       ·exact i2 u' lS
    obtain⟨f1,f2⟩:=kD us vs k1 k4
    have hcells:cB (.bW (zx C hp w)) r (us.flatMap AVal.flat) off:=by
     rw[f1]
     exact cB.iI gq fun j u hj=>VA iJ (k3 j u hj) (k4 u (J6 hj))
    have hl:us.length=len:=k0
    have:=aC.list (C:=.bW (zx C hp w)) 1 us r off cap (by omega) (bu.fa hcells f2)
    rw[hl]at this
    exact this
   ·cases hf
  ·cases hf
 ·rename_i b bG len
  split at hf
  ·rename_i sz dK xs gP
   cases hk:(Gz bG dK&&Ig len xs.length)with
   |false=>rw[hk]at hf;cases hf
   |true=>
    rw[hk]at hf
    simp only[cond_true,I.injEq]at hf
    subst hf
    simp only[En]at hk
    obtain rfl:=Gn hk.1
    have hlen:=Gs hk.2
    cases h with
    |aw _ _ _ r0 q cap hβ hT hl=>
     obtain⟨q',kW,k1,k2,k3,k4,_⟩:=m.box b _ r0 gP hβ
     have heq:=(k2 _ hT rfl).2 rfl
     simp only[Vd.injEq]at heq
     obtain⟨rfl,rfl⟩:=heq
     obtain⟨cells,t,vs,g1,g2,g3,g4,g5,g6,g7⟩:=k3
     have VG:Hid C hp q:=.inr ⟨b,sz,bG,xs,r0,cap,gP,hβ,hT⟩
     have hall:cB (.bW (zx C hp w)) q (xs.flatMap AVal.flat) 0:=by
      refine cB.iI (aC.imp (C:=.bW C.K) (C':=.bW (zx C hp w)) ⟨fun _ _ _ h=>G3 m h,fun _ _ h=>h⟩ g5) fun j u hj=>?_
      refine qss VG ?_ (g7 u (J6 hj))
      unfold World.cell?
      rw[g1]
      simp only[Ma,G1,if_false,U9]
      exact g6 j u hj
     have du:bu (.bW (zx C hp w)) q sz xs 0:=bu.fa hall g4
     have:=aC.list (C:=.bW (zx C hp w)) sz (xs.take len) q 0 cap (by rw[Oz];omega) (du.take len)
     rw[Oz,Nat.min_eq_left hlen]at this
     exact this
  ·cases hf
 ·cases hf
  exact VB m h hb
theorem VH (m:ax P C ω w0 C0 hp w):∀ {xs gd:List AVal} {vs:List Value},lI hp xs=I gd→aV C xs vs→qx 0 gd=Gq→aV (.bW (zx C hp w)) gd vs
 | [],gd,vs,hf,h,_=>by
  simp only[lI,I.injEq]at hf
  subst hf
  cases h
  exact .nil
 |x::xs,gd,vs,hf,h,hb=>by
  simp only[lI]at hf
  split at hf
  ·rename_i y hy
   split at hf
   ·rename_i ys nx
    cases hf
    simp only[qx,En]at hb
    cases h with
    |cons _ _ v vs hx h=>exact .cons _ _ _ _ (VE m hy hx hb.1) (VH m nx h hb.2)
   ·cases hf
  ·cases hf
theorem VI (m:ax P C ω w0 C0 hp w):∀ {xs gd:List AVal} {vs:List Value},aF.bC hp xs=I gd→aV C xs vs→qx 0 gd=Gq→aV (.bW (zx C hp w)) gd vs
 | [],gd,vs,hf,h,_=>by
  simp only[aF.bC,I.injEq]at hf
  subst hf
  cases h
  exact .nil
 |x::xs,gd,vs,hf,h,hb=>by
  cases h with
  |cons _ _ v vs hx h=>
   unfold aF.bC at hf
   split at hf
   ·cases ‹_::_=[]›
   ·rename_i cs rz heq
    cases heq
    split at hf
    ·rename_i y hy
     split at hf
     ·rename_i ys nx
      cases hf
      simp only[qx,below,En]at hb
      obtain⟨us,rfl,hu⟩:=bN.eL hx
      exact .cons _ _ _ _ (.agg _ _ (VH m hy hu hb.1)) (VI m nx h hb.2)
     ·cases hf
    ·cases hf
   ·rename_i heq
    cases heq
    split at hf
    ·rename_i y hy
     split at hf
     ·rename_i ys nx
      cases hf
      simp only[qx,En]at hb
      exact .cons _ _ _ _ (VE m hy hx hb.1) (VI m nx h hb.2)
     ·cases hf
    ·cases hf
theorem q7y (m:ax P C ω w0 C0 hp w){x x' v}(hf:aF hp x=I x')(h:bN C x v)(hb:below 0 x'=Gq):bN (.bW (zx C hp w)) x' v:=by
 unfold aF at hf
 split at hf
 ·split at hf
  ·rename_i ys nx
   cases hf
   obtain⟨us,rfl,hu⟩:=h.eL
   exact .agg _ _ (VH m nx hu (by simpa[below]using hb))
  ·cases hf
 ·split at hf
  ·rename_i ys nx
   cases hf
   cases h with
   |aB _ vs hu=>exact .aB _ _ (VI m nx hu (by simpa[below]using hb))
  ·cases hf
 ·exact VE m hf h hb
end
def Bz:jf→Exit
 | .normal=>.normal
 | .exit id=>.exit id
 | .ret=>.ret
def jF (ρ:Option Nat):Fence:={ Fence.wide with round:=ρ }
theorem qxv {ρ n P f args w R}:CallsIn (jF ρ) n P f args w R↔CallsIn Fence.wide n P f args w R:=Iff.rfl
def Marks (C:aH)(B:Nat)(ds:List Deferred):Prop:=∃rs:List Nat,ds=rs.map (fun r=>{ target:=.collected r,args:=#[] })∧rs.Nodup∧∀r∈rs,C.D r∧B≤r
theorem Marks.mono {C C' B ds}(h:Marks C B ds)(hle:C.le C'):Marks C' B ds:=
 let ⟨rs,h1,h2,h3⟩:=h; ⟨rs,h1,h2,fun r hr=>⟨hle.d r (h3 r hr).1,(h3 r hr).2⟩⟩
theorem Marks.nil {C B}:Marks C B []:=⟨[],rfl,List.nodup_nil,by simp⟩
def cM (P:Program)(xc:XC):Prop:=
 ∀(ρ:Option Nat) (nt:Nat) (c:Code) (ca:au) (st bV:bf) (x:jf),Gm P nt c ca→(ρ≠Ia→ya ca=Gq)→xc ca st=I (x,bV) →
  ∀(C:aH) (ω:Nat→Option Loc) (w0:World) (C0:aH) (a:Act) (w:World),ax P C ω w0 C0 st.heap w→ak C ω w w0.heap.size st.env a.tmps→a.tmps.size=nt→Marks C w0.heap.size a.defers →
   c.wpIn (jF ρ) 0 P (fun e a' w'=>e=Bz x∧a'.tmps.size=nt∧∃C' ω',C.le C'∧Marks C' w0.heap.size a'.defers∧ax P C' ω' w0 C0 bV.heap w'∧ak C' ω' w' w0.heap.size bV.env a'.tmps) a w
def IsoCall (P:Program)(k:Nat)(args:List AVal)(v:AVal)(ow:Bool):Prop:=
 ∀(K:Nat→Nat→Option Value) (w:World) (vs:List Value),Tabs P w →
  (∀r o u,K r o=I u→w.cell? ⟨r,o,Ia⟩=I u)→(∀r o u,K r o=I u→u.oneCell'=Gq)→aV (.bW K) args vs →
  CallsIn Fence.wide 0 P k ⟨vs⟩ w fun e w'=>∃u K',e=.returned u∧Ext w w'∧(∀r o x,K r o=I x→K' r o=I x)∧(∀r o,r<w.heap.size→K' r o=K r o) ∧
   (∀r o x,K' r o=I x→w'.cell? ⟨r,o,Ia⟩=I x)∧(∀r o x,K' r o=I x→x.oneCell'=Gq)∧bN (.bW K') v u ∧
   (ow=Gq→∃ℓ ω',aI (.bW K') ω' w' w.heap.size ℓ v u)
def Enters (P : Program) (k : Nat) : Prop := ∃ fn, P.funcs[k]? = I fn ∧ fn.name ≠ "runtime.NumGoroutine" ∧ fn.body.isSome
def BA (P:Program)(k:Nat)(args:List AVal)(h:qh)(v:AVal)(ow:Bool)(h':qh):Prop:=
 ∀(C:aH) (ω:Nat→Option Loc) (w:World) (vs:List Value),aV C args vs→ax P C ω w C h w →
  CallsIn Fence.wide 0 P k ⟨vs⟩ w fun e w'=>∃u C' ω',e=.returned u∧C.le C'∧ax P C' ω' w C h' w'∧bN C' v u∧(ow=Gq→aI C' ω' w' w.heap.size (.slot 0) v u)
def VJ (P:Program)(k:Nat)(es:List (AVal×AVal)):Prop:=
 ∀(K:Nat→Nat→Option Value) (w:World),Tabs P w →
  (∀r o u,K r o=I u→w.cell? ⟨r,o,Ia⟩=I u)→(∀r o u,K r o=I u→u.oneCell'=Gq) →
  CallsIn Fence.wide 0 P k ⟨[]⟩ w fun e w'=>∃q K' cf clock,e=.returned (.map (I q))∧Ext w w'∧(∀r o x,K r o=I x→K' r o=I x)∧(∀r o,r<w.heap.size→K' r o=K r o) ∧
   (∀r o x,K' r o=I x→w'.cell? ⟨r,o,Ia⟩=I x)∧(∀r o x,K' r o=I x→x.oneCell'=Gq)∧w.heap.size≤q∧w'.heap[q]?=I (.map cf clock)∧cL (.bW K') es cf.toList
structure bX (P:Program)(p:zb):Prop where
 fn:∀k f,p.bQ k=I f→∃fn h,P.funcs[k]?=I fn∧Gl P h fn=I f
 iM:∀k f,p.cO k=I f→Enters P k∧∀args v o,f args=I (v,o)→mG v=Gq→qx 0 args=Gq→IsoCall P k args v o
 mixed:P.follows .mixedOrders=Gq
 gh:∀k f,p.dP k=I f→Enters P k∧∀args h v o h',f args h=I (v,o,h')→BA P k args h v o h':=by intro k f h;cases h
 maps:∀k es,p.maps k=I es→Enters P k∧VJ P k es:=by intro k f h;cases h
theorem VK {P h fn f} (hc : Gl P h fn = I f) : ∃ c, fn.body = I c ∧ hE P h fn.ntmps c = I f.body ∧ Bc P fn.results.toList = I f.results ∧ f.ntmps = fn.ntmps ∧ fn.name ≠ "runtime.NumGoroutine" := by
 unfold Gl at hc
 split at hc
 ·rename_i c hb
  split at hc
  ·rename_i b rs h1 h2
   split at hc
   ·cases hc
   ·rename_i hn
    cases hc
    exact⟨c,hb,h1,h2,rfl,by simpa using hn⟩
  ·cases hc
 ·cases hc
theorem bX.enters {P p}(h:bX P p){k f}(hf:p.bQ k=I f):Enters P k:=by
 obtain⟨fn,hh,h1,h2⟩:=h.fn k f hf
 obtain⟨c,hb,_,_,_,hn⟩:=VK h2
 exact⟨fn,h1,hn,by simp[hb]⟩
theorem qp4 {P k}(h:Enters P k)(args:Array Value)(w:World):(callFunc k args).run P w=.ok (.enter k args) w:=by
 obtain⟨fn,h1,h2,h3⟩:=h
 simp[callFunc,h1,h2,Option.isNone_iff_eq_none,Option.isSome_iff_ne_none.1 h3]
section
variable {P:Program}{p:zb}{xc:XC}{C C0:aH}{ω:Nat→Option Loc}{w w0:World}{hp:qh}{env:Env}{tmps:Array Value}{B:Nat}{a:Act}{o:Oper}{d:Loc}
theorem qs3:∀ {args:List AVal} {i s:Nat} {x:AVal×Bool},jj s (oS i args)=I x→∃j,s=i+j∧args[j]?=I x.1∧x.2=G0
 | [],_,_,_,h=>by simp[oS,jj]at h
 |v::args,i,s,x,h=>by
  simp only[oS,jj]at h
  cases hb:Gz i s with
  |true=>
   simp only[hb,cond_true,I.injEq]at h
   subst h
   exact⟨0,(Gn hb).symm,rfl,rfl⟩
  |false=>
   simp only[hb,cond_false]at h
   obtain⟨j,h1,h2,h3⟩:=qs3 h
   exact⟨j+1,by omega,by simpa using h2,h3⟩
theorem jcs {r o v}(h:w.cell? ⟨r,o,Ia⟩=I v):∃cs t fr,w.heap[r]?=I (.cells cs t fr):=by
 unfold World.cell? at h
 split at h
 ·rename_i cs t fr hg;exact⟨cs,t,fr,hg⟩
 ·cases h
theorem ax.other {D'}(m:ax P C ω w0 C0 hp w){r w'}(hu:nE w w' r)(hβ:∀b,C.β b≠I r)(hr:w0.heap.size≤r)(lB:∀cs t fr,w.heap[r]?≠I (.cells cs t fr))(hD:∀k,D' k→C.D k∧k≠r)(h0:∀k,C0.D k→D' k):
  ax P { C with D:=D' } ω w0 C0 hp w':=by
 have c5:∀ {B:Nat} {ℓ:Loc} {x:AVal} {v:Value},aI C ω w B ℓ x v→aI { C with D:=D' } ω w' B ℓ x v:=by
  intro B ℓ x v ho
  unfold aI at *
  split at ho
  ·obtain⟨h1,h2,h3,h4,h8,⟨cells,elem,h5,h6⟩,h7⟩:=ho
   refine⟨h1,h2,h3,h4,h8,⟨cells,elem,?_,h6⟩,h7⟩
   rw[hu.other _ (fun h=>lB _ _ _ (h▸h5))]
   exact h5
  ·obtain⟨h1,h2,h3,h4,h8,⟨cells,elem,h5,h6⟩,h7⟩:=ho
   refine⟨h1,h2,h3,h4,h8,⟨cells,elem,?_,h6⟩,h7⟩
   rw[hu.other _ (fun h=>lB _ _ _ (h▸h5))]
   exact h5
  ·trivial
 refine { base:=m.base,know:=?_,dv:=m.dv,apart:=m.apart,inj:=m.inj,lt:=?_,size:=?_,frame:=?_,fF:=?_,os:=hu.os.trans m.os,output:=hu.output.trans m.output,fresh:=m.fresh,grown:=⟨m.grown.k,m.grown.b,m.grown.w,h0,m.grown.t⟩,old:=m.old,box:=?_,iH:=fun q hq=>by rw[hu.size];exact m.iH q hq }
 ·intro k p v hk
  have hc:=m.know _ _ _ hk
  have bB:k≠r:=fun h=>by
   obtain⟨cs,t,fr,hg⟩:=jcs hc
   exact lB cs t fr (h▸hg)
  simp only[World.cell?]at hc ⊢
  rw[hu.other k bB];exact hc
 ·intro b p hb
  rw[hu.size];exact m.lt b p hb
 ·rw[hu.size];exact m.size
 ·intro k hk hn hw
  rw[hu.other k (by omega)];exact m.frame k hk hn hw
 ·intro k hk
  obtain⟨h1,h2⟩:=hD k hk
  rw[hu.other k h2];exact m.fF k h1
 ·intro b x p hx hb
  refine bD.imp (C:=C) (C':={ C with D:=D' }) ⟨fun _ _ _ h=>h,fun _ _ h=>h⟩ (hu.other p (fun h=>hβ b (h▸hb))) (fun j y v ho=>c5 ho) (m.box b x p hx hb) (hq:=fun q n cap k=>by
   obtain⟨_,_,_,_,_,⟨cells,elem,h5,_⟩,_⟩:=k
   exact hu.other q (fun h=>lB _ _ _ (h▸h5)))
theorem aI.la {D' r w'}(hu:nE w w' r)(lB:∀cs t fr,w.heap[r]?≠I (.cells cs t fr)){ℓ x v}(ho:aI C ω w B ℓ x v):aI { C with D:=D' } ω w' B ℓ x v:=by
 unfold aI at *
 split at ho
 ·obtain⟨h1,h2,h3,h4,h8,⟨cells,elem,h5,h6⟩,h7⟩:=ho
  refine⟨h1,h2,h3,h4,h8,⟨cells,elem,?_,h6⟩,h7⟩
  rw[hu.other _ (fun h=>lB _ _ _ (h▸h5))]
  exact h5
 ·obtain⟨h1,h2,h3,h4,h8,⟨cells,elem,h5,h6⟩,h7⟩:=ho
  refine⟨h1,h2,h3,h4,h8,⟨cells,elem,?_,h6⟩,h7⟩
  rw[hu.other _ (fun h=>lB _ _ _ (h▸h5))]
  exact h5
 ·trivial
theorem bN.rE {D' x v}(h:bN C x v):bN { C with D:=D' } x v:=aC.imp (C:=C) (C':={ C with D:=D' }) ⟨fun _ _ _ h=>h,fun _ _ h=>h⟩ h
theorem ak.la {D' r w'}(hu:nE w w' r)(lB:∀cs t fr,w.heap[r]?≠I (.cells cs t fr))(e:ak C ω w B env tmps):ak { C with D:=D' } ω w' B env tmps:=
 fun s x hs=>let ⟨v,h1,h2,h3⟩:=e s x hs; ⟨v,h1,bN.rE h2,fun h=>(h3 h).la hu lB⟩
theorem q0q {fn R}:∀(rs:List Nat) (C':aH) (w:World),C.le C'→ax P C' ω w0 C hp w→ak C' ω w w0.heap.size env tmps→rs.Nodup→(∀r∈rs,C'.D r∧w0.heap.size≤r)→(∀k,C.D k→k<w0.heap.size) →
  (∀(C2:aH) (w2:World),C.le C2→C2.D=C.D→ax P C2 ω w0 C hp w2→ak C2 ω w2 w0.heap.size env tmps→∃v,(results fn tmps).run P w2=.ok v w2∧R (.returned v) w2) →
  LeavesInM Fence.wide 0 P fn tmps R (rs.map fun r=>{ target:=.collected r,args:=#[] }) .returning w
 | [],C',w,hle,m,e,_,_,hD,eF=>by
  have hr0:∀ {k},C.D k→C'.D k:=fun h=>hle.d _ h
  -- the marks are forgotten
  have m2:ax P { C' with D:=C.D } ω w0 C hp w:={ m with
   fF:=fun r hr=>m.fF r (hr0 hr)
   grown:=⟨m.grown.k,m.grown.b,m.grown.w,fun _ h=>h,m.grown.t⟩
   box:=fun b x r hx hb=>bD.imp (C:=C') (C':={ C' with D:=C.D }) ⟨fun _ _ _ h=>h,fun _ _ h=>h⟩ rfl (fun j y v ho=>ho) (m.box b x r hx hb) }
  have e2:ak { C' with D:=C.D } ω w w0.heap.size env tmps:=fun s x hs=>let ⟨v,h1,h2,h3⟩:=e s x hs; ⟨v,h1,bN.rE h2,h3⟩
  exact eF { C' with D:=C.D } w ⟨hle.k,hle.b,hle.w,fun _ h=>h,hle.t⟩ rfl m2 e2
 |r::rs,C',w,hle,m,e,qZ,G5,hD,eF=>by
  obtain⟨hDr,hBr⟩:=G5 r (by simp)
  have hg:=m.fF r hDr
  have br:=(Gv.1 hg).1
  have lB:∀cs t fr,w.heap[r]?≠I (.cells cs t fr):=fun cs t fr h=>by rw[hg]at h;cases h
  have hu:nE w (kj w r (.deferred Ia)) r:=EH br (by simp)
  have hβ:∀b,C'.β b≠I r:=by
   intro b hb
   obtain⟨x,hx⟩:=J5 (m.lt b r hb).2▸(⟨_,rfl⟩:∃x,I (hp[b]'(m.lt b r hb).2)=I x)
   have h0:=m.box b x r hx hb
   cases x with
   |hole=>exact h0
   |cells cs=>obtain⟨vs,elem,h1,_⟩:=h0;rw[hg]at h1;cases h1
   |map es=>obtain⟨cf,clock,h1,_⟩:=h0;rw[hg]at h1;cases h1
   |iter s pos=>have h1:w.heap[r]?=_:=h0;rw[hg]at h1;cases h1
   |loop l=>obtain⟨lp,h1,_⟩:=h0;rw[hg]at h1;cases h1
   |gi t e l=>obtain⟨p,v,h1,_⟩:=h0;rw[hg]at h1;cases h1
   |dead=>obtain⟨cs,t,h1⟩:=h0;rw[hg]at h1;cases h1
   |vec sz bG xs=>obtain⟨_,_,_,_,_,_,cs,t,h1⟩:=h0;rw[hg]at h1;cases h1
  have bE:(Instr.takeDeferred r).run P w=.ok [] (kj w r (.deferred Ia)):=by
   have hs:=yX (P:=P) (x:=.deferred Ia) hg (by simp)
   simp only[Instr.takeDeferred,Sem.run_bind,pK hg (by simp),Result.andThen_ok,hs,Sem.run_pure]
  refine⟨by simp,.inl ⟨r,_,rfl,bE,?_⟩⟩
  have G6:=List.nodup_cons.1 qZ
  have m2:=m.other (D':=fun k=>C'.D k∧k≠r) hu hβ hBr lB (fun k h=>h) (fun k h=>⟨hle.d k h,fun hk=>by have:=hD k h;omega⟩)
  exact q0q rs { C' with D:=fun k=>C'.D k∧k≠r } _ ⟨hle.k,hle.b,hle.w,fun k h=>⟨hle.d k h,fun hk=>by have:=hD k h;omega⟩,hle.t⟩ m2 (e.la hu lB) G6.2
   (fun k hk=>⟨⟨(G5 k (by simp[hk])).1,fun h=>G6.1 (h▸hk)⟩,(G5 k (by simp[hk])).2⟩) hD eF
theorem q65 (hx:cM P xc){k fn h f}(hfn:P.funcs[k]?=I fn)(hc:Gl P h fn=I f){args v ow h'}(hr:pI xc f args hp=I (v,ow,h')){vs}(eA:aV C args vs)(m:ax P C ω w C hp w):
  CallsIn Fence.wide 0 P k ⟨vs⟩ w fun e w'=>∃u C' ω',e=.returned u∧C.le C'∧ax P C' ω' w C h' w'∧bN C' v u∧(ow=Gq→aI C' ω' w' w.heap.size (.slot 0) v u):=by
 obtain⟨c,hb,h1,h2,h3,_⟩:=VK hc
 unfold pI at hr
 have hD:∀k,C.D k→k<w.heap.size:=fun k hk=>(Gv.1 (m.fF k hk)).1
 cases hle:Ig args.length f.ntmps with
 |false=>simp[hle]at hr
 |true=>
  simp only[hle,cond_true]at hr
  have hlen:=Gs hle
  have wJ:=eA.length
  refine callsIn_of_wp_marks hfn hb trivial ?_
  have db:((⟨vs⟩:Array Value)++Y1 (fn.ntmps-(⟨vs⟩:Array Value).size) undef).size=fn.ntmps:=by
   simp;omega
  have G7:ak C ω w w.heap.size (oS 0 args) ((⟨vs⟩:Array Value)++Y1 (fn.ntmps-(⟨vs⟩:Array Value).size) undef):=by
   intro s x hx
   obtain⟨j,rfl,hj,hf⟩:=qs3 hx
   obtain⟨u,k1,k2⟩:=eA.get hj
   have br:j<vs.length:=(Gy.1 k1).1
   refine⟨u,?_,k2,by simp[hf]⟩
   rw[U9,Array.getElem?_append_left (by simpa using br)]
   simpa using k1
  have fin:∀(st:bf) (a':Act) (w':World) (C':aH) (ω':Nat→Option Loc),C.le C'→Marks C' w.heap.size a'.defers→ax P C' ω' w C st.heap w'→ak C' ω' w' w.heap.size st.env a'.tmps →
    (match kq st f.results with
     |some xs=>I ((za xs).1,(za xs).2,lx st f.results)
     |none=>Ia)=I (v,ow,h') →
    LeavesInM Fence.wide 0 P fn a'.tmps (fun e w'=>∃u C' ω',e=.returned u∧C.le C'∧ax P C' ω' w C h' w'∧bN C' v u∧(ow=Gq→aI C' ω' w' w.heap.size (.slot 0) v u)) a'.defers .returning w':=by
   intro st a' w' C' ω' hle ⟨rs,hds,qZ,G5⟩ m' e' hr
   rw[hds]
   refine q0q (C:=C) (ω:=ω') (w0:=w) (hp:=st.heap) (env:=st.env) rs C' w' hle m' e' qZ G5 hD ?_
   intro C2 w2 jP _ m2 e2
   split at hr
   ·rename_i xs nA
    cases hr
    obtain⟨u,ω2,k1,k2,k3,k4⟩:=q7j (fn:=fn) m2 e2 h2 nA
    exact⟨u,k1,u,C2,ω2,rfl,jP,k2,k3,k4⟩
   ·cases hr
  split at hr
  ·rename_i st ct
   refine wpIn_mono (hx Ia fn.ntmps c f.body _ _ _ ⟨h,h1⟩ (fun h=>absurd rfl h) ct C ω w C _ w m G7 db Marks.nil) ?_
   rintro e a' w' ⟨rfl,q1,C',ω',q3,q2,q4,q5⟩
   exact fin st a' w' C' ω' q3 q2 q4 q5 hr
  ·rename_i st ct
   refine wpIn_mono (hx Ia fn.ntmps c f.body _ _ _ ⟨h,h1⟩ (fun h=>absurd rfl h) ct C ω w C _ w m G7 db Marks.nil) ?_
   rintro e a' w' ⟨rfl,q1,C',ω',q3,q2,q4,q5⟩
   exact fin st a' w' C' ω' q3 q2 q4 q5 hr
  ·cases hr
theorem q56 {K}(ht:Tabs P w)(h1:∀r o u,K r o=I u→w.cell? ⟨r,o,Ia⟩=I u)(h2:∀r o u,K r o=I u→u.oneCell'=Gq):ax P (.bW K) (fun _=>Ia) w (.bW K) [] w where
 base:=⟨ht,fun g _=>⟨fun b h=>(by cases h),fun h=>h⟩⟩
 know:=h1
 dv:=h2
 apart:=by simp[aH.bW]
 inj:=by simp[aH.bW]
 lt:=by simp[aH.bW]
 size:=Nat.le_refl _
 frame _ _ _ _:=rfl
 fF _ h:=h.elim
 os:=rfl
 output:=rfl
 fresh:=by simp[aH.bW]
 grown:=aH.le_refl _
 old _ _ _ _:=rfl
 box:=by simp
 iH _ h:=h.elim
theorem G8 (hp:bX P p)(hx:cM P xc){k args h h' v ow}(hr:qm p xc k args h=I (v,ow,h')):Enters P k∧BA P k args h v ow h':=by
 unfold qm at hr
 split at hr
 ·rename_i f hf
  obtain⟨fn,hh,hfn,G9⟩:=hp.fn k f hf
  exact⟨hp.enters hf,fun C ω w vs eA m=>q65 hx hfn G9 hr eA m⟩
 ·split at hr
  ·rename_i f hf
   obtain⟨he,hs⟩:=hp.gh k f hf
   exact⟨he,hs _ _ _ _ _ hr⟩
  ·cases hr
theorem cL.bW {es ms}(h:cL C es ms):vg 0 es=Gq→cL (.bW C.K) es ms:=by
 induction h with
 |nil=>exact fun _=>.nil
 |cons k v es m ms hk hv _ ih=>
  intro hb
  simp only[vg,En]at hb
  exact .cons _ _ _ _ _ (aC.shift (C:=C) (C':=.bW C.K) 0 (fun _ _ _ h=>h) (fun b r br=>by omega) hk hb.1.1) (aC.shift (C:=C) (C':=.bW C.K) 0 (fun _ _ _ h=>h) (fun b r br=>by omega) hv hb.1.2) (ih hb.2)
theorem jag (hp:bX P p)(hx:cM P xc){k b ow h1 es}(hr:qm p xc k [] []=I (.map b,ow,h1))(hb:h1[b]?=I (.map es))(he:vg 0 es=Gq):Enters P k∧VJ P k es:=by
 obtain⟨lV,nG⟩:=G8 hp hx hr
 refine⟨lV,fun K w ht g1 g2=>?_⟩
 refine CallsIn.mono (nG _ _ _ [] .nil (q56 (P:=P) ht g1 g2)) ?_
 rintro e w' ⟨u,C',ω',rfl,hle,m',gq,_⟩
 cases gq with
 |map _ q hq=>
  obtain⟨cf,clock,k1,k2⟩:=m'.box b _ q hb hq
  refine⟨q,C'.K,cf,clock,rfl,⟨m'.size,fun r hr=>m'.frame r hr (by simp[aH.bW]) (by simp[aH.bW]),m'.os,m'.output⟩,hle.1,fun r o hr=>m'.old r o hr (by simp[aH.bW]),m'.know,m'.dv,?_,k1,k2.bW he⟩
  rcases m'.fresh b q hq with h|h|h
  ·cases h
  ·exact h
  ·exact h.elim
theorem Mi (hp:bX P p)(hx:cM P xc){k args v ow}(hr:qc p xc k args=I (v,ow))(hb:qx 0 args=Gq):Enters P k∧mG v=Gq∧IsoCall P k args v ow:=by
 unfold qc at hr
 split at hr
 ·rename_i f hf
  obtain⟨he,Hc⟩:=hp.iM k f hf
  split at hr
  ·rename_i v' o' Hd
   cases lC:mG v' with
   |false=>simp[lC]at hr
   |true=>
    simp only[lC,cond_true]at hr
    cases hr
    exact⟨he,lC,Hc args _ _ Hd lC hb⟩
  ·cases hr
 ·split at hr
  ·rename_i v0 o' h' Hd
   split at hr
   ·rename_i v' EK
    cases lC:mG v' with
    |false=>simp[lC]at hr
    |true=>
     simp only[lC,cond_true]at hr
     cases hr
     obtain⟨lV,nG⟩:=G8 hp hx Hd
     ·refine⟨lV,lC,?_⟩
      intro K w vs ht h1 h2 eA
      have:=nG _ _ _ _ eA (q56 (P:=P) ht h1 h2)
      refine CallsIn.mono this ?_
      rintro e w' ⟨u,C',ω',rfl,hle,m',gq,c5⟩
      refine⟨u,zx C' h' w',rfl,?_,fun r o x hr=>G3 m' (hle.1 r o x hr),fun r o hr=>?_,fun r o x hr=>(Mh m' hr).1,fun r o x hr=>(Mh m' hr).2,q7y m' EK gq lC,?_⟩
      ·exact⟨m'.size,fun r hr=>m'.frame r hr (by simp[aH.bW]) (by simp[aH.bW]),m'.os,m'.output⟩
      ·have hold:=m'.old r o hr (by simp[aH.bW])
       unfold zx
       rw[if_neg]
       ·exact hold
       intro hh
       have:=jfp hle.w m' hh
       omega
      ·intro ho
       simp only[En]at ho
       have hℓ:=c5 ho.1
       refine⟨.slot 0,ω',?_⟩
       cases v0 with
       |list n sz xs=>
        have He:v=.list n sz xs:=by
         simp only[aF,kx,I.injEq]at EK
         exact EK.symm
        subst He
        unfold aI at *
        split at hℓ
        ·obtain⟨g1,g2,g3,g4,g5,g6,g7⟩:=hℓ
         refine⟨g1,.inl (g2.resolve_right (by rw[hle.w];exact fun h=>h)),by simp[aH.bW],g4,g5,g6,fun o zA=>?_⟩
         show zx C' h' w' _ o=Ia
         unfold zx
         rw[if_neg]
         ·exact g7 o zA
         ·rintro (⟨b,hb⟩|hh)
          ·exact g3 b hb
          ·rcases hh.is m' with⟨b,hb⟩|⟨b,_,_,_,_,_,_,h2⟩
           ·exact g3 b hb
           ·have:=h2.1;rw[g1]at this;simp at this
        all_goals trivial
       |_=>exact absurd ho.2 (by simp[AVal.cS])
   ·cases hr
  ·cases hr
end
section
variable {P:Program}{p:zb}{xc:XC}{C C0 C1:aH}{ω ω1:Nat→Option Loc}{w w' w0:World}{hp h1:qh}{env:Env}{tmps:Array Value}{B:Nat}{a:Act}{o:Oper}{d:Loc}
theorem aI.grow {K' ℓ x v}(hx:Ext w w')(hK:∀r o,r<w.heap.size→K' r o=C.K r o)(ho:aI C ω w B ℓ x v):aI { C with K:=K' } ω w' B ℓ x v:=by
 unfold aI at *
 split at ho
 ·obtain⟨h1,h2,h3,h4,h8,⟨cells,elem,h5,h6⟩,h7⟩:=ho
  have br:=(Gv.1 h5).1
  exact⟨h1,h2,h3,h4,h8,⟨cells,elem,hx.get h5,h6⟩,fun o ho=>by
   show K' _ o=Ia
   rw[hK _ o br];exact h7 o ho⟩
 ·obtain⟨h1,h2,h3,h4,h8,⟨cells,elem,h5,h6⟩,h7⟩:=ho
  have br:=(Gv.1 h5).1
  exact⟨h1,h2,h3,h4,h8,⟨cells,elem,hx.get h5,h6⟩,fun o ho=>by
   show K' _ o=Ia
   rw[hK _ o br];exact h7 o ho⟩
 ·trivial
theorem ax.bW {K'}(m:ax P C ω w0 C0 hp w)(hx:Ext w w')(hle:∀r o x,C.K r o=I x→K' r o=I x)(hK:∀r o,r<w.heap.size→K' r o=C.K r o)(hk:∀r o x,K' r o=I x→w'.cell? ⟨r,o,Ia⟩=I x)(h1:∀r o x,K' r o=I x→x.oneCell'=Gq):
  ax P { C with K:=K' } ω w0 C0 hp w' where
 base:=m.base
 know:=hk
 dv:=h1
 apart b r o hb:=by
  show K' r o=Ia
  rw[hK r o (m.lt b r hb).1];exact m.apart b r o hb
 inj:=m.inj
 lt b r hb:=⟨Mc (m.lt b r hb).1 hx.size,(m.lt b r hb).2⟩
 size:=J2 m.size hx.size
 frame:=(m.ext hx).frame
 fF:=(m.ext hx).fF
 os:=(m.ext hx).os
 output:=(m.ext hx).output
 fresh:=m.fresh
 grown:=aH.le_trans m.grown ⟨hle,fun _ _ h=>h,rfl,fun _ h=>h,fun _ h=>h⟩
 old r o hr hw:=by
  show K' r o=_
  rw[hK r o (Mc hr m.size)];exact m.old r o hr hw
 box b x r hb hr:=by
  have h0:=m.box b x r hb hr
  -- in the new world first,then in the richer context
  cases x with
  |hole=>exact h0
  |cells cs=>
   obtain⟨vs,elem,g1,g2,g3⟩:=h0
   exact⟨vs,elem,hx.get g1,g2,fun j c hc=>let ⟨v,a,q,b,d⟩:=g3 j c hc; ⟨v,a,q,aC.mono (C':={ C with K:=K' }) ⟨hle,fun _ _ h=>h,rfl,fun _ h=>h,fun _ h=>h⟩ b,fun e=>(d e).grow hx hK⟩⟩
  |map es=>obtain⟨cf,clock,g1,g2⟩:=h0;exact⟨cf,clock,hx.get g1,cL.mono (C:=C) (C':={ C with K:=K' }) ⟨hle,fun _ _ h=>h,rfl,fun _ h=>h,fun _ h=>h⟩ g2⟩
  |iter s pos=>exact hx.get h0
  |loop l=>obtain⟨lp,g1,g2⟩:=h0;exact⟨lp,hx.get g1,cD.mono (C:=C) (C':={ C with K:=K' }) ⟨hle,fun _ _ h=>h,rfl,fun _ h=>h,fun _ h=>h⟩ g2⟩
  |gi t e l=>obtain⟨p,v,g1,g2,g3,g4⟩:=h0;exact⟨p,v,hx.get g1,g2,g3,g4.grow hx hK⟩
  |dead=>obtain⟨cs,t,g1⟩:=h0;exact⟨cs,t,hx.get g1⟩
  |vec sz bG xs=>
   have hg:∀ {k:Nat} {c:Array Value} {t:TypeId},w.heap[k]?=I (.cells c t (0,0))→w'.heap[k]?=w.heap[k]?:=fun hk=>by rw[hx.get hk,hk]
   obtain⟨_,_,_,_,_,_,cs,t,g1⟩:=id h0
   refine eo.imp hle (fun _ h=>h) (fun _ h _=>h) (hg g1) (fun q n cap k=>⟨?_,k.grow hx hK⟩) h0
   obtain⟨_,_,_,_,_,⟨cells,elem,h5,_⟩,_⟩:=k
   exact hg h5
 iH q hq:=Mc (m.iH q hq) hx.size
theorem ak.bW {K'}(e:ak C ω w B env tmps)(hx:Ext w w')(hle:∀r o x,C.K r o=I x→K' r o=I x)(hK:∀r o,r<w.heap.size→K' r o=C.K r o):ak { C with K:=K' } ω w' B env tmps:=
 fun s x hs=>let ⟨v,h1,h2,h3⟩:=e s x hs; ⟨v,h1,aC.mono (C':={ C with K:=K' }) ⟨hle,fun _ _ h=>h,rfl,fun _ h=>h,fun _ h=>h⟩ h2,fun h=>(h3 h).grow hx hK⟩
theorem q5z (m:ax P C ω w0 C0 hp w)(e:ak C ω w w0.heap.size env tmps){v ow u K'}(hx:Ext w w')(hle:∀r o x,C.K r o=I x→K' r o=I x)(hK:∀r o,r<w.heap.size→K' r o=C.K r o)(hk:∀r o x,K' r o=I x→w'.cell? ⟨r,o,Ia⟩=I x)(h1:∀r o x,K' r o=I x→x.oneCell'=Gq)
  (lC:mG v=Gq) (hr:bN (.bW K') v u) (ho:ow=Gq→∃ℓ ω',aI (.bW K') ω' w' w.heap.size ℓ v u):zq P C0 w0 C tmps d env ⟨v,ow,Ia,hp⟩ u w':=by
 have m':=m.bW hx hle hK hk h1
 have e':=e.bW hx hle hK
 have jY:bN { C with K:=K' } v u:=aC.shift (C:=.bW K') (C':={ C with K:=K' }) 0 (fun _ _ _ h=>h) (fun b r br=>by omega) hr lC
 have cX:C.le { C with K:=K' }:=⟨hle,fun _ _ h=>h,rfl,fun _ h=>h,fun _ h=>h⟩
 by_cases hkL:∃(n:Bool) (sz:Nat) (xs:List AVal) (ad:Addr) (len cap:Nat),v=.list n sz xs∧u=.slice (I ad) len cap∧ow=Gq
 ·obtain⟨n,sz,xs,ad,len,cap,rfl,rfl,rfl⟩:=hkL
  obtain⟨ℓ,ω',g1,VL,g3,g4,g5,g6,g7⟩:=ho rfl
  have g2:w.heap.size≤ad.block:=VL.resolve_right (fun h=>h)
  have BD:∀ℓ x v,aI C ω w w0.heap.size ℓ x v→aI { C with K:=K' } (cQ ω ad.block d) w' w0.heap.size ℓ x v:=fun ℓ x v h=>by
   have h2:=(h.fresh (ℓ':=d) g2).grow hx hK
   exact h2
  refine⟨{ C with K:=K' },cQ ω ad.block d,cX,?_,?_,jY,fun _=>?_⟩
  ·have:=(m.kN ad.block d g2).bW hx hle hK hk h1
   exact this
  ·exact fun s x hs=>let ⟨v,h1,h2,h3⟩:=e s x hs; ⟨v,h1,aC.mono cX h2,fun h=>BD _ _ _ (h3 h)⟩
  ·refine⟨by simp[cQ],.inl (J2 m.size g2),fun b hb=>?_,g4,g5,g6,g7⟩
   have:=(m.lt b _ hb).1
   omega
 by_cases dz:∃(n:Nat) (ad:Addr),v=.dc n∧u=.pointer (I ad)∧ow=Gq
 ·obtain⟨n,ad,rfl,rfl,rfl⟩:=dz
  obtain⟨ℓ,ω',g1,VL,g3,g4,g5,g6,g7⟩:=ho rfl
  have g2:w.heap.size≤ad.block:=VL.resolve_right (fun h=>h)
  have BD:∀ℓ x v,aI C ω w w0.heap.size ℓ x v→aI { C with K:=K' } (cQ ω ad.block d) w' w0.heap.size ℓ x v:=fun ℓ x v h=>by
   have h2:=(h.fresh (ℓ':=d) g2).grow hx hK
   exact h2
  refine⟨{ C with K:=K' },cQ ω ad.block d,cX,?_,?_,jY,fun _=>?_⟩
  ·have:=(m.kN ad.block d g2).bW hx hle hK hk h1
   exact this
  ·exact fun s x hs=>let ⟨v,h1,h2,h3⟩:=e s x hs; ⟨v,h1,aC.mono cX h2,fun h=>BD _ _ _ (h3 h)⟩
  ·refine⟨by simp[cQ],.inl (J2 m.size g2),fun b hb=>?_,g4,g5,g6,g7⟩
   have:=(m.lt b _ hb).1
   omega
 ·refine⟨{ C with K:=K' },ω,cX,m',e',jY,fun h=>?_⟩
  cases v with
  |list n sz xs=>
   cases u with
   |slice q len cap=>
    cases q with
    |some ad=>exact absurd ⟨_,_,_,_,_,_,rfl,rfl,h⟩ hkL
    |none=>trivial
   |_=>trivial
  |dc n=>
   cases u with
   |pointer q=>
    cases q with
    |some ad=>exact absurd ⟨_,_,rfl,rfl,h⟩ dz
    |none=>trivial
   |_=>trivial
  |_=>trivial
theorem jih (m:ax P C ω w0 C0 hp w)(e:ak C ω w w0.heap.size env tmps){b q K' es cf clock}(hx:Ext w w')(hle:∀r o x,C.K r o=I x→K' r o=I x)(hK:∀r o,r<w.heap.size→K' r o=C.K r o)(hk:∀r o x,K' r o=I x→w'.cell? ⟨r,o,Ia⟩=I x)(h1:∀r o x,K' r o=I x→x.oneCell'=Gq)
  (hh:hp[b]?=I .hole) (hq:w.heap.size≤q) (hg:w'.heap[q]?=I (.map cf clock)) (hr:cL (.bW K') es cf.toList):zq P C0 w0 C tmps d env ⟨.map b,G0,Ia,hp.set b (.map es)⟩ (.map (I q)) w':=by
 have m':=m.bW hx hle hK hk h1
 have e':=e.bW hx hle hK
 have cX:C.le { C with K:=K' }:=⟨hle,fun _ _ h=>h,rfl,fun _ h=>h,fun _ h=>h⟩
 obtain⟨m2,e2,jP⟩:=m'.GL e' hh hg (fun k hk=>by have:=(m.lt k q hk).1;omega) (J2 m.size hq) (cL.imp (C:=.bW K') (C':={ C with K:=K' }) ⟨fun _ _ _ h=>h,fun b r h=>by simp[aH.bW]at h⟩ hr)
 exact⟨_,ω,aH.le_trans cX jP,m2,e2,.map _ _ (by simp[aH.box]),by simp⟩
theorem Hf {C C' x v}(hp:oe x=Gq)(h:bN C x v):bN C' x v:=by
 cases x<;>simp only[oe,G1]at hp<;>cases h<;>constructor
theorem ax.BE (m:ax P C ω w0 C0 hp w)(e:ak C ω w w0.heap.size env tmps){b q K' cells}{t:TypeId}{cs}(hx:Ext w w')(hle:∀r o x,C.K r o=I x→K' r o=I x)(hK:∀r o,r<w.heap.size→K' r o=C.K r o)(hk:∀r o x,K' r o=I x→w'.cell? ⟨r,o,Ia⟩=I x)(h1:∀r o x,K' r o=I x→x.oneCell'=Gq)
  (hq:w.heap.size≤q) (hn:∀o,K' q o=Ia) (hh:hp[b]?=I .hole) (hg:w'.heap[q]?=I (.cells cells t (0,0))) (hl:cs.length≤cells.size)
  (hcs:∀(j:Nat) (c:AVal×Bool),cs[j]?=I c→∃v,cells[j]?=I v∧v.oneCell'=Gq∧bN (({ C with K:=K' }:aH).box b q) c.1 v∧c.2=G0):
  ax P (({ C with K:=K' }:aH).box b q) ω w0 C0 (hp.set b (.cells cs)) w'∧ak (({ C with K:=K' }:aH).box b q) ω w' w0.heap.size env tmps∧C.le (({ C with K:=K' }:aH).box b q):=by
 have m':=m.bW hx hle hK hk h1
 have hβ:=GJ m hh
 have Bv:C.le { C with K:=K' }:=⟨hle,fun _ _ h=>h,rfl,fun _ h=>h,fun _ h=>h⟩
 have jP:({ C with K:=K' }:aH).le (({ C with K:=K' }:aH).box b q):=aH.kU (C:={ C with K:=K' }) (r:=q) hβ
 have cX:=aH.le_trans Bv jP
 have br:b<hp.length:=(Gy.1 hh).1
 have Mj:∀k,C.β k≠I q:=fun k hk=>by have:=(m.lt k q hk).1;omega
 have c5:∀ℓ x v,aI C ω w w0.heap.size ℓ x v→aI (({ C with K:=K' }:aH).box b q) ω w' w0.heap.size ℓ x v:=fun ℓ x v h=>aI.grow (C:=C.box b q) hx hK (aI.box (.inl hq) h)
 refine⟨{ m' with apart:=?_,inj:=?_,lt:=?_,fresh:=?_,grown:=aH.le_trans m'.grown jP,box:=?_ },?_,cX⟩
 ·intro k r o hk
  simp only[aH.box]at hk
  split at hk
  ·cases hk;exact hn o
  ·exact m'.apart k r o hk
 ·intro k k' r hk eV
  simp only[aH.box]at hk eV
  split at hk<;>split at eV
  ·rename_i h1 h2;rw[h1,h2]
  ·cases hk;exact absurd eV (Mj k')
  ·cases eV;exact absurd hk (Mj k)
  ·exact m.inj k k' r hk eV
 ·intro k r hk
  rw[J0]
  simp only[aH.box]at hk
  split at hk
  ·rename_i h1;cases hk;subst h1;exact⟨(Gv.1 hg).1,br⟩
  ·exact m'.lt k r hk
 ·intro k r hk
  simp only[aH.box]at hk
  split at hk
  ·cases hk;exact .inr (.inl (J2 m.size hq))
  ·exact m.fresh k r hk
 ·intro k y r hy hk
  simp only[aH.box]at hk
  split at hk
  ·rename_i h1
   subst h1
   cases hk
   rw[J1 br]at hy
   cases hy
   refine⟨cells,t,hg,hl,fun j c hc=>?_⟩
   obtain⟨v,a1,a2,a3,a4⟩:=hcs j c hc
   exact⟨v,a1,a2,a3,fun h=>by rw[a4]at h;cases h⟩
  ·rename_i h1
   rw[Gp (Ih h1)]at hy
   have h0:=m.box k y r hy hk
   cases y with
   |hole=>exact h0
   |cells cs=>
    obtain⟨vs,elem,g1,g2,g3⟩:=h0
    exact⟨vs,elem,hx.get g1,g2,fun j c hc=>let ⟨v,a,q,b,d⟩:=g3 j c hc; ⟨v,a,q,aC.mono cX b,fun e=>c5 _ _ _ (d e)⟩⟩
   |map es=>obtain⟨cf,clock,g1,g2⟩:=h0;exact⟨cf,clock,hx.get g1,cL.mono cX g2⟩
   |iter s pos=>exact hx.get h0
   |loop l=>obtain⟨lp,g1,g2⟩:=h0;exact⟨lp,hx.get g1,cD.mono cX g2⟩
   |gi t e l=>obtain⟨p,v,g1,g2,g3,g4⟩:=h0;exact⟨p,v,hx.get g1,g2,g3,c5 _ _ _ g4⟩
   |dead=>obtain⟨cs,t,g1⟩:=h0;exact⟨cs,t,hx.get g1⟩
   |vec sz bG xs=>
    have Ml:∀ {k:Nat} {c:Array Value} {t:TypeId},w.heap[k]?=I (.cells c t (0,0))→w'.heap[k]?=w.heap[k]?:=fun hk=>by rw[hx.get hk,hk]
    obtain⟨_,_,_,_,_,_,cs,t,g1⟩:=id h0
    refine eo.imp hle (fun _ h=>h) (fun _ h _=>h) (Ml g1) (fun q n cap k'=>⟨?_,c5 _ _ _ k'⟩) h0
    obtain⟨_,_,_,_,_,⟨cells,elem,h5,_⟩,_⟩:=k'
    exact Ml h5
 ·exact fun s y hy=>let ⟨v,h1,h2,h3⟩:=e s y hy; ⟨v,h1,aC.mono cX h2,fun h=>c5 _ _ _ (h3 h)⟩
theorem ax.Hg (m:ax P C ω w0 C0 hp w){b x}(hh:hp[b]?=I .hole):ax P C ω w0 C0 (hp.set b x) w:=by
 have hβ:=GJ m hh
 refine { m with lt:=fun k r hk=>by rw[J0];exact m.lt k r hk,box:=fun k y r hy hk=>?_ }
 by_cases kT:k=b
 ·subst kT;rw[hβ]at hk;cases hk
 ·rw[Gp (Ih kT)]at hy
  exact m.box k y r hy hk
theorem jeh (m:ax P C ω w0 C0 hp w)(e:ak C ω w w0.heap.size env tmps){v ow u h0 r res K'}(hx:Ext w w')(hle:∀r o x,C.K r o=I x→K' r o=I x)(hK:∀r o,r<w.heap.size→K' r o=C.K r o)(hk:∀r o x,K' r o=I x→w'.cell? ⟨r,o,Ia⟩=I x)(h1:∀r o x,K' r o=I x→x.oneCell'=Gq)
  (hr:bN (.bW K') v u) (ho:ow=Gq→∃ℓ ω',aI (.bW K') ω' w' w.heap.size ℓ v u) (ht:qO h0 hp r v ow=I res):zq P C0 w0 C tmps d env res u w':=by
 unfold qO at ht
 split at ht
 ·rename_i sz _
  split at ht
  ·rename_i h' hn
   have hv:=qy ht
   obtain⟨hh,rfl⟩:=y8 hn
   subst hv
   have cX:C.le { C with K:=K' }:=⟨hle,fun _ _ h=>h,rfl,fun _ h=>h,fun _ h=>h⟩
   refine⟨{ C with K:=K' },ω,cX,(m.bW hx hle hK hk h1).Hg hh,e.bW hx hle hK,aC.shift (C:=.bW K') (C':={ C with K:=K' }) 0 (fun _ _ _ h=>h) (fun b r br=>by omega) hr (by rfl),fun h=>by simp at h⟩
  ·cases ht
 ·rename_i sz xs
  cases hb:(xs.flatMap AVal.flat).all oe with
  |false=>rw[hb]at ht;cases ht
  |true=>
   rw[hb]at ht
   simp only[cond_true]at ht
   split at ht
   ·rename_i h' hn
    have hv:=qy ht
    obtain⟨hh,rfl⟩:=y8 hn
    subst hv
    obtain⟨ℓ,ω',ho⟩:=ho rfl
    cases hr with
    |jM sz a mJ=>
     simp only[aI]at ho
     exact absurd ho.2.2.2.1 mJ
    |list sz _ q o cap hl du=>
     simp only[aI]at ho
     obtain⟨o1,o2,o3,_,o5,⟨cells,elem,o6,o7,_⟩,o8⟩:=ho
     subst o5
     have hq:w.heap.size≤q:=o2.resolve_right (fun h=>h)
     let K2:Nat→Nat→Option Value:=fun r o=>if r=q then Ia else K' r o
     have Hh:∀ {r o x},K2 r o=I x→K' r o=I x:=by
      intro r o x h
      simp only[K2]at h
      split at h
      ·cases h
      ·exact h
     have jP:∀r o x,C.K r o=I x→K2 r o=I x:=by
      intro r o x h
      have br:r<w.heap.size:=by
       have:=m.know r o x h
       unfold World.cell? at this
       split at this
       ·rename_i c _ _ hc;exact(Gv.1 hc).1
       ·cases this
      have bB:r≠q:=by omega
      simp only[K2,if_neg bB]
      exact hle r o x h
     have VM:∀r o,r<w.heap.size→K2 r o=C.K r o:=by
      intro r o br
      have bB:r≠q:=by omega
      simp only[K2,if_neg bB]
      exact hK r o br
     have hcells:=bu.cells du
     have hlen:(xs.flatMap AVal.flat).length≤cells.size:=by
      rcases Nat.eq_zero_or_pos (xs.flatMap AVal.flat).length with h0|h0
      ·omega
      ·obtain⟨y,hy⟩:∃y,(xs.flatMap AVal.flat)[(xs.flatMap AVal.flat).length-1]?=I y:=⟨_,J5 (by omega)⟩
       obtain⟨v,hv,_⟩:=cB.get hcells hy
       have h3:=hk _ _ _ hv
       unfold World.cell? at h3
       rw[o6]at h3
       simp only[Ma,G1,if_false]at h3
       have:=(Gv.1 h3).1
       omega
     obtain⟨m2,e2,l2⟩:=m.BE e (b:=h0+r) (q:=q) (K':=K2) (cells:=cells) (t:=elem) (cs:=cellsOf (xs.flatMap AVal.flat)) hx jP VM (fun r o x h=>hk r o x (Hh h)) (fun r o x h=>h1 r o x (Hh h)) hq (fun o=>by simp[K2]) hh o6 (by rw[show(cellsOf (xs.flatMap AVal.flat)).length=(xs.flatMap AVal.flat).length by simp[cellsOf]];exact hlen) (by
      intro j c hc
      simp only[cellsOf,N9,Gt]at hc
      obtain⟨y,hy,rfl⟩:=hc
      obtain⟨v,hv,pL⟩:=cB.get hcells hy
      have h3:=hk _ _ _ hv
      unfold World.cell? at h3
      rw[o6]at h3
      simp only[Ma,G1,if_false,U9]at h3
      exact⟨v,h3,h1 _ _ _ hv,Hf (If.1 hb y (J6 hy)) pL,rfl⟩)
     exact⟨_,ω,l2,m2,e2,.ms _ 0 _ q cap (by simp[aH.box]) hl,fun h=>by simp at h⟩
   ·cases ht
 ·cases ht
theorem q99 (m:ax P C ω w0 C0 hp w){x x' v}(hf:UF hp x=I x')(h:bN C x v)(hb:Abs.below 0 x'=Gq):bN (.bW (zx C hp w)) x' v:=by
 unfold UF at hf
 split at hf
 ·rename_i b len
  split at hf
  ·rename_i cs hcs
   cases hc:(Gz (len*(cs.length / len)) cs.length&&Ib 0 (cs.length / len)&&cs.all (fun c=>oe c.1))with
   |false=>
    rw[hc,cond_false]at hf
    cases hl:Gz len 0 with
    |false=>rw[hl]at hf;cases hf
    |true=>
     rw[hl]at hf
     have hl:=Gn hl
     subst hl
     simp only[cond_true,I.injEq]at hf
     subst hf
     obtain⟨r,cap,iJ,hle,rfl⟩:=h.fe
     exact aC.list (C:=.bW (zx C hp w)) 8 [] r 0 cap (Nat.zero_le _) (.fV _ _ _)
   |true=>
    rw[hc]at hf
    simp only[cond_true,I.injEq]at hf
    subst hf
    simp only[En]at hc
    obtain⟨⟨c1,c2⟩,c3⟩:=hc
    have c1:=Gn c1
    have c2:0<cs.length / len:=by simpa using c2
    obtain⟨r,cap,iJ,hle,rfl⟩:=h.fe
    obtain⟨vs,elem,k1,k2,k3⟩:=m.box b _ r (wK hcs) iJ
    have du:bu (.bW (zx C hp w)) r (cs.length / len) (mH (cs.length / len) len (cs.map (·.1))) 0:=by
     refine VD c2 (by rw[Vm];exact c1.symm) (fun x hx=>?_) fun j x hx=>?_
     ·obtain⟨c,hc,rfl⟩:=Zj.1 hx
      have:=If.1 c3 c hc
      cases hq:c.1<;>rw[hq]at this<;>first|rfl|cases this
     ·rw[N9,Gt]at hx
      obtain⟨c,hc,rfl⟩:=hx
      obtain⟨u,q1,q2,q3,_⟩:=k3 j c hc
      have ej:w.cell? ⟨r,0+j,Ia⟩=I u:=by
       unfold World.cell?
       rw[k1]
       simp only[Ma,G1,if_false,U9]
       exact q1
      exact⟨u,VA iJ ej q2,Hf (If.1 c3 c (J6 hc)) q3⟩
    have:=aC.list (C:=.bW (zx C hp w)) (cs.length / len) (mH (cs.length / len) len (cs.map (·.1))) r 0 cap (by rw[G4];exact hle) du
    rw[G4]at this
    exact this
  ·cases hf
 ·cases hf
  exact VB m h hb
theorem qsu (m:ax P C ω w0 C0 hp w):∀ {xs gd:List AVal} {vs:List Value},yK hp xs=I gd→aV C xs vs→qx 0 gd=Gq→aV (.bW (zx C hp w)) gd vs
 | [],gd,vs,hf,h,_=>by
  simp only[yK,I.injEq]at hf
  subst hf
  cases h
  exact .nil
 |x::xs,gd,vs,hf,h,hb=>by
  simp only[yK]at hf
  split at hf
  ·rename_i y ys h1 h2
   cases hf
   cases h with
   |cons _ _ v vs hx h=>
    simp only[qx,En]at hb
    exact .cons _ _ _ _ (q99 m h1 hx hb.1) (qsu m h2 h hb.2)
  ·cases hf
theorem quw {C C' x v}(hp:yL x=Gq)(h:bN C x v):bN C' x v:=by
 cases x with
 |agg cs=>
  obtain⟨vs,rfl,hl⟩:=h.eL
  refine .agg _ _ ?_
  simp only[yL]at hp
  clear h
  induction cs generalizing vs with
  |nil=>cases hl;exact .nil
  |cons c cs ih=>
   cases hl with
   |cons _ _ v vs hx hl=>
    simp only[Ze,En]at hp
    exact .cons _ _ _ _ (Hf hp.1 hx) (ih hp.2 vs hl)
 |_=>exact Hf hp h
theorem jjv {C C' x v}(h:bN C x v):bN C' (Es x) v:=by
 unfold Es
 cases hp:yL x with
 |true=>exact quw hp h
 |false=>exact .any _
theorem q0u {C C'}:∀ {xs:List AVal} {vs:List Value},aV C xs vs→aV C' (xs.map Es) vs
 | [],_,h=>by cases h;exact .nil
 |x::xs,_,h=>by
  cases h with
  |cons _ _ v vs hx h=>exact .cons _ _ _ _ (jjv hx) (q0u h)
open Classical in
theorem jli (m:ax P C ω w0 C0 hp w)(e:ak C ω w w0.heap.size env tmps){v v' ow Hj u K'}(hx:Ext w w')(hle:∀r o x,zx C hp w r o=I x→K' r o=I x)(hK:∀r o,r<w.heap.size→K' r o=zx C hp w r o)(hk:∀r o x,K' r o=I x→w'.cell? ⟨r,o,Ia⟩=I x)(h1:∀r o x,K' r o=I x→x.oneCell'=Gq)
  (hr:bN (.bW K') v u) (ho:ow=Gq→∃ℓ ω',aI (.bW K') ω' w' w.heap.size ℓ v u) (ht:LP v ow=I (v',Hj)):zq P C0 w0 C tmps d env ⟨v',Hj,Ia,hp⟩ u w':=by
 let K2:Nat→Nat→Option Value:=fun r o=>if Hid C hp r then Ia else K' r o
 have Hh:∀ {r o x},K2 r o=I x→K' r o=I x:=by
  intro r o x h
  simp only[K2]at h
  split at h
  ·cases h
  ·exact h
 have jP:∀r o x,C.K r o=I x→K2 r o=I x:=by
  intro r o x h
  have hn:¬Hid C hp r:=by
   intro hh
   rw[Vz m hh o]at h;cases h
  simp only[K2,if_neg hn]
  exact hle r o x (G3 m h)
 have VM:∀r o,r<w.heap.size→K2 r o=C.K r o:=by
  intro r o br
  by_cases hb:Hid C hp r
  ·simp only[K2,if_pos hb]
   exact(Vz m hb o).symm
  ·simp only[K2,if_neg hb]
   rw[hK r o br]
   unfold zx
   rw[if_neg hb]
 have fin:∀(lC:mG v'=Gq) (jY:bN (.bW K2) v' u) (zA:Hj=Gq→∃ℓ ω',aI (.bW K2) ω' w' w.heap.size ℓ v' u),zq P C0 w0 C tmps d env ⟨v',Hj,Ia,hp⟩ u w':=fun lC jY zA=>
  q5z m e hx jP VM (fun r o x h=>hk r o x (Hh h)) (fun r o x h=>h1 r o x (Hh h)) lC jY zA
 have hZ:∀y,oe y=Gq→Abs.below 0 y=Gq:=fun y hy=>by cases y<;>first|rfl|cases hy
 have rF:∀ys:List AVal,ys.all oe=Gq→qx 0 ys=Gq:=by
  intro ys
  induction ys with
  |nil=>intro _;rfl
  |cons y ys ih=>
   intro h
   simp only[Ze,En]at h
   simp only[qx,En]
   exact⟨hZ y h.1,ih h.2⟩
 have ou:∀y,yL y=Gq→Abs.below 0 y=Gq:=fun y hy=>by
  cases y with
  |agg cs=>simp only[Abs.below];exact rF cs hy
  |_=>exact hZ _ hy
 unfold LP at ht
 split at ht
 ·rename_i sz xs
  cases hb:(xs.flatMap AVal.flat).all oe with
  |false=>rw[hb]at ht;cases ht
  |true=>
   rw[hb]at ht
   simp only[cond_true,I.injEq,Vd.injEq]at ht
   obtain⟨rfl,rfl⟩:=ht
   obtain⟨ℓ,ω',ho⟩:=ho rfl
   cases hr with
   |jM sz a mJ=>
    simp only[aI]at ho
    exact absurd ho.2.2.2.1 mJ
   |list sz _ q o cap hl du=>
    simp only[aI]at ho
    obtain⟨o1,o2,o3,o4,o5,o6,o8⟩:=ho
    have hq:w.heap.size≤q:=o2.resolve_right (fun h=>h)
    have EL:¬Hid C hp q:=by
     intro hh
     have:=jsw m hh
     omega
    have hKq:∀o,K2 q o=K' q o:=fun o=>by simp only[K2,if_neg EL]
    have hcells:=bu.cells du
    have qY:bu (.bW K2) q sz xs o:=by
     refine bu.fa (VC fun j x hx=>?_) (bu.sized du)
     obtain⟨u,hu,hxu⟩:=cB.get hcells hx
     exact⟨u,by rw[show(aH.bW K2).K=K2 from rfl,hKq];exact hu,Hf (If.1 hb x (J6 hx)) hxu⟩
    refine fin ?_ (.list sz _ q o cap hl qY) fun _=>⟨ℓ,ω',?_⟩
    ·show mG _=Gq
     unfold mG
     have jN:∀ys:List AVal,(ys.flatMap AVal.flat).all oe=Gq→qx 0 ys=Gq:=by
      intro ys
      induction ys with
      |nil=>intro _;rfl
      |cons y ys ih=>
       intro h
       rw[X5,List.all_append,En]at h
       simp only[qx,En]
       exact⟨by rw[←LX];exact rF _ h.1,ih h.2⟩
     simp only[Abs.below]
     exact jN xs hb
    ·simp only[aI]
     exact⟨o1,o2,o3,o4,o5,o6,fun o' zA=>by rw[show(aH.bW K2).K=K2 from rfl,hKq];exact o8 o' zA⟩
 ·simp only[I.injEq,Vd.injEq]at ht
  obtain⟨rfl,rfl⟩:=ht
  refine fin rfl ?_ (fun h=>by cases h)
  cases hr
  exact .jL _
 ·rename_i vs _
  simp only[I.injEq,Vd.injEq]at ht
  obtain⟨rfl,rfl⟩:=ht
  obtain⟨us,rfl,hl⟩:=hr.oo
  refine fin ?_ (.aB _ _ (q0u hl)) (fun h=>by cases h)
  show Abs.below 0 _=Gq
  simp only[Abs.below]
  have:∀ys:List AVal,qx 0 (ys.map Es)=Gq:=by
   intro ys
   induction ys with
   |nil=>rfl
   |cons y ys ih=>
    simp only[Zi,qx,En]
    refine⟨?_,ih⟩
    unfold Es
    cases hp:yL y with
    |true=>exact ou y hp
    |false=>rfl
  exact this _
 ·cases hb:yL v with
  |false=>rw[hb]at ht;cases ht
  |true=>
   rw[hb]at ht
   simp only[cond_true,I.injEq,Vd.injEq]at ht
   obtain⟨rfl,rfl⟩:=ht
   exact fin (ou v hb) (quw hb hr) (fun h=>by cases h)
def aH.shared (C:aH)(ω:Nat→Option Loc)(w0:World):aH:={ C with W:=fun r=>(∃b j,ω r=I (.cell b j))∧(w0.heap.size≤r∨C.W r) }
def rG (ω:Nat→Option Loc):Nat→Option Loc:=fun r=>match ω r with
 |some (.cell b j)=>I (.cell b j)
 |_=>Ia
theorem aI.shared {b j x v}(ho:aI C ω w w0.heap.size (.cell b j) x v):aI (C.shared ω w0) (rG ω) w w.heap.size (.cell b j) x v:=by
 unfold aI at *
 split at ho
 ·obtain⟨g1,g2,g3⟩:=ho
  exact⟨by simp[rG,g1],.inr ⟨⟨b,j,g1⟩,g2⟩,g3⟩
 ·obtain⟨g1,g2,g3⟩:=ho
  exact⟨by simp[rG,g1],.inr ⟨⟨b,j,g1⟩,g2⟩,g3⟩
 ·trivial
theorem VN (m:ax P C ω w0 C0 hp w):ax P (C.shared ω w0) (rG ω) w (C.shared ω w0) hp w where
 base:=⟨m.tabs,fun g hg=>by
  obtain⟨h1,h2⟩:=m.base.2 g hg
  have br:=(m.base.1 g hg).1
  refine⟨fun b hb=>?_,fun h=>?_⟩
  ·rcases m.fresh b g hb with h|h|h
   ·exact h1 b h
   ·omega
   ·exact h2 h
  ·rcases h.2 with h|h
   ·omega
   ·rw[m.grown.w]at h;exact h2 h⟩
 know:=m.know
 dv:=m.dv
 apart:=m.apart
 inj:=m.inj
 lt:=m.lt
 size:=Nat.le_refl _
 frame _ _ _ _:=rfl
 fF:=m.fF
 os:=rfl
 output:=rfl
 fresh _ _ h:=.inl h
 grown:=aH.le_refl _
 old _ _ _ _:=rfl
 box b x r hx hb:=bD.imp (C:=C) (C':=C.shared ω w0) ⟨fun _ _ _ h=>h,fun _ _ h=>h⟩ rfl (fun _ _ _ ho=>ho.shared) (m.box b x r hx hb)
 iH:=m.iH
def nH (ω ω1:Nat→Option Loc)(n:Nat):Nat→Option Loc:=fun r=>match decide (r<n),ω r with
 |true,I (.slot s)=>I (.slot s)
 |_,_=>rG ω1 r
def aH.back (C1 C:aH):aH:={ C1 with W:=C.W }
theorem Mm (hle:(C.shared ω w0).le C1):C.le (C1.back C):=⟨hle.k,hle.b,rfl,hle.d,hle.t⟩
theorem aI.rH {s x v}(m1:ax P C1 ω1 w (C.shared ω w0) h1 w')(ho:aI C ω w w0.heap.size (.slot s) x v):aI (C1.back C) (nH ω ω1 w.heap.size) w' w0.heap.size (.slot s) x v:=by
 unfold aI at *
 split at ho
 ·rename_i ad len cap
  obtain⟨g1,g2,g3,g4,g8,⟨cells,elem,g5,g6⟩,g7⟩:=ho
  have br:=(Gv.1 g5).1
  have BF:¬(C.shared ω w0).W ad.block:=fun h=>by
   obtain⟨⟨b,j,h⟩,_⟩:=h
   rw[g1]at h;cases h
  refine⟨by simp[nH,br,g1],g2,fun b hb=>?_,g4,g8,⟨cells,elem,?_,g6⟩,fun o ho=>?_⟩
  ·rcases m1.fresh b _ hb with h|h|h
   ·exact g3 b h
   ·omega
   ·exact BF h
  ·rw[m1.frame _ br g3 BF];exact g5
  ·have:=m1.old _ o br BF
   show C1.K _ o=Ia
   rw[this];exact g7 o ho
 ·rename_i ad
  obtain⟨g1,g2,g3,g4,g8,⟨cells,elem,g5,g6⟩,g7⟩:=ho
  have br:=(Gv.1 g5).1
  have BF:¬(C.shared ω w0).W ad.block:=fun h=>by
   obtain⟨⟨b,j,h⟩,_⟩:=h
   rw[g1]at h;cases h
  refine⟨by simp[nH,br,g1],g2,fun b hb=>?_,g4,g8,⟨cells,elem,?_,g6⟩,fun o ho=>?_⟩
  ·rcases m1.fresh b _ hb with h|h|h
   ·exact g3 b h
   ·omega
   ·exact BF h
  ·rw[m1.frame _ br g3 BF];exact g5
  ·have:=m1.old _ o br BF
   show C1.K _ o=Ia
   rw[this];exact g7 o ho
 ·trivial
theorem aI.rJ {b j x v}(m:ax P C ω w0 C0 hp w)(hW:C1.W=(C.shared ω w0).W)(ho:aI C1 ω1 w' w.heap.size (.cell b j) x v):aI (C1.back C) (nH ω ω1 w.heap.size) w' w0.heap.size (.cell b j) x v:=by
 unfold aI at *
 split at ho
 ·rename_i ad len cap
  obtain⟨g1,g2,g3⟩:=ho
  rw[hW]at g2
  refine⟨?_,?_,g3⟩
  ·unfold nH
   split
   ·rename_i s br hs
    have br:=of_decide_eq_true br
    rcases g2 with g2|⟨⟨b',j',g2⟩,_⟩
    ·omega
    ·rw[hs]at g2;cases g2
   ·simp[rG,g1]
  ·rcases g2 with g2|⟨_,g2⟩
   ·exact .inl (J2 m.size g2)
   ·exact g2
 ·rename_i ad
  obtain⟨g1,g2,g3⟩:=ho
  rw[hW]at g2
  refine⟨?_,?_,g3⟩
  ·unfold nH
   split
   ·rename_i s br hs
    have br:=of_decide_eq_true br
    rcases g2 with g2|⟨⟨b',j',g2⟩,_⟩
    ·omega
    ·rw[hs]at g2;cases g2
   ·simp[rG,g1]
  ·rcases g2 with g2|⟨_,g2⟩
   ·exact .inl (J2 m.size g2)
   ·exact g2
 ·trivial
theorem qst (m:ax P C ω w0 C0 hp w)(e:ak C ω w w0.heap.size env tmps)(m1:ax P C1 ω1 w (C.shared ω w0) h1 w')(hle:(C.shared ω w0).le C1):
  ax P (C1.back C) (nH ω ω1 w.heap.size) w0 C0 h1 w'∧ak (C1.back C) (nH ω ω1 w.heap.size) w' w0.heap.size env tmps:=by
 have hsh:∀r,r<w0.heap.size→¬C0.W r→¬(C.shared ω w0).W r:=fun r hr hw h=>by
  rcases h.2 with h|h
  ·omega
  ·rw[m.grown.w]at h;exact hw h
 constructor
 ·refine { base:=m.base,know:=m1.know,dv:=m1.dv,apart:=m1.apart,inj:=m1.inj,lt:=m1.lt,size:=J2 m.size m1.size,frame:=?_,fF:=m1.fF,os:=m1.os.trans m.os,output:=m1.output.trans m.output,fresh:=?_,grown:=aH.le_trans m.grown (Mm hle),old:=?_,box:=?_,iH:=m1.iH }
  ·intro r hr hn hw
   have jE:∀b,C.β b≠I r:=fun b hb=>by
    rcases m.fresh b r hb with h|h|h
    ·exact hn b h
    ·omega
    ·exact hw h
   rw[m1.frame r (Mc hr m.size) jE (hsh r hr hw)]
   exact m.frame r hr hn hw
  ·intro b r hb
   rcases m1.fresh b r hb with h|h|h
   ·exact m.fresh b r h
   ·exact .inr (.inl (J2 m.size h))
   ·exact .inr (h.2.imp id (fun h=>by rw[←m.grown.w];exact h))
  ·intro r o hr hw
   show C1.K r o=_
   rw[m1.old r o (Mc hr m.size) (hsh r hr hw)]
   exact m.old r o hr hw
  ·intro b x r hx hb
   exact bD.imp (C:=C1) (C':=C1.back C) ⟨fun _ _ _ h=>h,fun _ _ h=>h⟩ rfl (fun _ _ _ ho=>ho.rJ m hle.w) (m1.box b x r hx hb)
 ·exact fun s x hs=>let ⟨v,k1,k2,k3⟩:=e s x hs; ⟨v,k1,aC.mono (Mm hle) k2,fun h=>(k3 h).rH m1⟩
theorem bN.back {x v}(h:bN C1 x v):bN (C1.back C) x v:=aC.imp (C:=C1) (C':=C1.back C) ⟨fun _ _ _ h=>h,fun _ _ h=>h⟩ h
theorem qs1 (m:ax P C ω w0 C0 hp w)(e:ak C ω w w0.heap.size env tmps)(m1:ax P C1 ω1 w (C.shared ω w0) h1 w')(hle:(C.shared ω w0).le C1){v ow u}(hr:bN C1 v u)(ho:ow=Gq→aI C1 ω1 w' w.heap.size (.slot 0) v u):
  zq P C0 w0 C tmps d env ⟨v,ow,Ia,zg hp.length v h1⟩ u w':=by
 have hC:∀b r,C.β b=I r→b<hp.length:=fun b r h=>(m.lt b r h).2
 have cX:=Mm hle
 have jY:bN (C1.back C) v u:=hr.back
 -- the result's ownership first
 have step:∃ω',ax P (C1.back C) ω' w0 C0 h1 w'∧ak (C1.back C) ω' w' w0.heap.size env tmps∧(ow=Gq→aI (C1.back C) ω' w' w0.heap.size d v u):=by
  obtain⟨m2,e2⟩:=qst m e m1 hle
  cases ow with
  |false=>exact⟨_,m2,e2,by simp⟩
  |true=>
   by_cases hk:∃(n:Bool) (sz:Nat) (xs:List AVal) (ad:Addr) (len cap:Nat),v=.list n sz xs∧u=.slice (I ad) len cap
   ·obtain⟨n,sz,xs,ad,len,cap,rfl,rfl⟩:=hk
    obtain⟨g1,g2,g3,g4⟩:=ho rfl
    rw[hle.w]at g2
    have iT:nH ω ω1 w.heap.size ad.block=Ia:=by
     unfold nH
     split
     ·rename_i s br hs
      have br:=of_decide_eq_true br
      rcases g2 with g2|⟨⟨b',j',g2⟩,_⟩
      ·omega
      ·rw[hs]at g2;cases g2
     ·simp[rG,g1]
    refine⟨cQ (nH ω ω1 w.heap.size) ad.block d,m2.cQ _ _ (by simp[iT]),?_,fun _=>?_⟩
    ·exact fun s x hs=>let ⟨v,k1,k2,k3⟩:=e2 s x hs; ⟨v,k1,k2,fun h=>(k3 h).other (.inl (by simp[iT]))⟩
    ·refine⟨by simp[cQ],?_,g3,g4⟩
     rcases g2 with g2|⟨_,g2⟩
     ·exact .inl (J2 m.size g2)
     ·exact g2
   by_cases dz:∃(n:Nat) (ad:Addr),v=.dc n∧u=.pointer (I ad)
   ·obtain⟨n,ad,rfl,rfl⟩:=dz
    obtain⟨g1,g2,g3,g4⟩:=ho rfl
    rw[hle.w]at g2
    have iT:nH ω ω1 w.heap.size ad.block=Ia:=by
     unfold nH
     split
     ·rename_i s br hs
      have br:=of_decide_eq_true br
      rcases g2 with g2|⟨⟨b',j',g2⟩,_⟩
      ·omega
      ·rw[hs]at g2;cases g2
     ·simp[rG,g1]
    refine⟨cQ (nH ω ω1 w.heap.size) ad.block d,m2.cQ _ _ (by simp[iT]),?_,fun _=>?_⟩
    ·exact fun s x hs=>let ⟨v,k1,k2,k3⟩:=e2 s x hs; ⟨v,k1,k2,fun h=>(k3 h).other (.inl (by simp[iT]))⟩
    ·refine⟨by simp[cQ],?_,g3,g4⟩
     rcases g2 with g2|⟨_,g2⟩
     ·exact .inl (J2 m.size g2)
     ·exact g2
   ·refine⟨_,m2,e2,fun h=>?_⟩
    unfold aI
    split
    ·exact absurd ⟨_,_,_,_,_,_,rfl,rfl⟩ hk
    ·exact absurd ⟨_,_,rfl,rfl⟩ dz
    ·trivial
 obtain⟨ω',m2,e2,o2⟩:=step
 unfold zg
 cases hb:Ig h1.length hp.length with
 |true=>simp only[cond_true];exact⟨_,ω',cX,m2,e2,jY,o2⟩
 |false=>
  simp only[cond_false]
  cases lU:(below hp.length v&&zw hp.length (h1.take hp.length))with
  |false=>simp only[cond_false];exact⟨_,ω',cX,m2,e2,jY,o2⟩
  |true=>
   simp only[cond_true]
   simp only[En]at lU
   have br:hp.length≤h1.length:=by
    rcases Nat.lt_or_ge hp.length h1.length with h|h
    ·omega
    ·rw[Nat.ble_eq_true_of_le h]at hb;cases hb
   have h0:∀b r,C0.β b=I r→b<hp.length:=fun b r h=>hC b r (m.grown.2 b r h)
   have m3:=m2.gc br lU.2 h0
   refine⟨(C1.back C).cut hp.length,ω',aH.iR cX hC,m3,?_,bN.cut jY lU.1,fun h=>(o2 h).cut _⟩
   intro s x hs
   obtain⟨y,k1,k2,k3⟩:=e s x hs
   obtain⟨y',j1,j2,j3⟩:=e2 s x hs
   rw[k1]at j1
   cases j1
   exact⟨y,k1,aC.mono (aH.iR cX hC) k2,fun h=>(j3 h).cut _⟩
theorem bp.fK {e}(h:bp C e tmps):ak C ω w B (fK e) tmps:=by
 intro s x hx
 have key:∀ {e:Env} {x:AVal×Bool},jj s (Abs.fK e)=I x→∃o,jj s e=I (x.1,o)∧x.2=G0:=by
  intro e
  induction e with
  |nil=>intro x h;simp[Abs.fK,jj]at h
  |cons y e ih=>
   intro x h
   obtain⟨t,v,o⟩:=y
   simp only[Abs.fK,Zi,jj]at h ⊢
   cases hb:Gz t s with
   |true=>simp only[hb,cond_true,I.injEq]at h ⊢;subst h;exact⟨o,rfl,rfl⟩
   |false=>simp only[hb,cond_false]at h ⊢;exact ih h
 obtain⟨o,h1,h2⟩:=key hx
 obtain⟨v,h3,h4⟩:=h s _ h1
 exact⟨v,h3,h4,by simp[h2]⟩
theorem qsz:∀ {ts:List Nat} {vs:List AVal} {us:List Value} {e e':Env} {tmps:Array Value},wF e ts vs=I e'→aV C vs us→(∀t∈ts,t<tmps.size)→ak C ω w B e tmps →
  ts.length=us.length∧((ts.zip us).foldl (fun(tmps:Array Value) (x:Nat×Value)=>tmps.setIfInBounds x.1 x.2) tmps).size=tmps.size∧ak C ω w B e' ((ts.zip us).foldl (fun(tmps:Array Value) (x:Nat×Value)=>tmps.setIfInBounds x.1 x.2) tmps)
 | [],[],us,e,e',tmps,h,hr,_,he=>by
  simp only[wF,I.injEq]at h
  subst h
  cases hr
  exact⟨rfl,rfl,he⟩
 |t::ts,v::vs,us,e,e',tmps,h,hr,hf,he=>by
  simp only[wF]at h
  cases hr with
  |cons _ _ u us hu hr=>
   have Mn:ak C ω w B ((t,v,G0)::e) (tmps.setIfInBounds t u):=by
    intro s x hx
    simp only[jj]at hx
    cases hb:Gz t s with
    |true=>
     have:=Gn hb
     subst this
     simp only[hb,cond_true,I.injEq]at hx
     subst hx
     exact⟨u,by simp[hf t (by simp)],hu,by simp⟩
    |false=>
     simp only[hb,cond_false]at hx
     obtain⟨y,h1,h2,h3⟩:=he s x hx
     refine⟨y,?_,h2,h3⟩
     rw[St (fun hh=>by subst hh;simp at hb)]
     exact h1
   have ih:=qsz h hr (tmps:=tmps.setIfInBounds t u) (fun t' Gw=>by simpa using hf t' (by simp[Gw])) Mn
   refine⟨by simp[ih.1],?_,?_⟩
   ·simp only[Xo,Y4];rw[ih.2.1];simp
   ·simp only[Xo,Y4];exact ih.2.2
 | [],_::_,_,_,_,_,h,_,_,_=>by simp[wF]at h
 |_::_,[],_,_,_,_,h,_,_,_=>by simp[wF]at h
theorem Mp {b r l}(m:ax P C ω w0 C0 hp w)(hb:zm hp b=I (.loop l))(hr:C.β b=I r):∃lp,w.heap[r]?=I (.loop lp)∧cD P C l lp:=
 m.box b _ r hb hr
theorem Hk {b r l' lp BG}(m:ax P C ω w0 C0 hp w)(hr:C.β b=I r)(hg:w.heap[r]?=I (.loop lp))(hl:cD P C l' BG):
  (setObj r (.loop BG)).run P w=.ok () (kj w r (.loop BG))∧nE w (kj w r (.loop BG)) r∧ax P C ω w0 C0 (hp.set b (.loop l')) (kj w r (.loop BG)):=by
 have br:=(Gv.1 hg).1
 have hu:nE w (kj w r (.loop BG)) r:=EH br (by simp)
 exact⟨yX hg (by simp),hu,m.dX hu hr _ (fun _ _ _ _ _ h=>h) ⟨BG,GR br,hl⟩⟩
theorem jlq (hx:cM P xc)(m:ax P C ω w0 C0 hp w)(e:ak C ω w w0.heap.size env tmps){b r}(hr:C.β b=I r){args us}(ha:aV C args us){v h'}(hy:kL xc b args hp=I (v,h')):
  ∃f ov assign body,(Instr.yield r ⟨us⟩).run P w=.ok (.round r f ov assign body) w∧RoundIn Fence.wide 0 P r f ov assign body w fun ee w'=>∃u,ee=.returned u∧zq P C0 w0 C tmps d env ⟨v,G0,Ia,h'⟩ u w':=by
 unfold kL at hy
 split at hy
 ·rename_i l hl
  split at hy
  ·rename_i e0 hpend bw
   obtain⟨lp,hg,lr⟩:=Mp m hl hr
   have ms:=VN m
   have hH:aV (C.shared ω w0) args us:=aC.imp (C:=C) (C':=C.shared ω w0) ⟨fun _ _ _ h=>h,fun _ _ h=>h⟩ ha
   have hel:ak (C.shared ω w0) (rG ω) w w.heap.size (fK l.env) lp.tmps:=bp.fK (fun s x hs=>let ⟨v,h1,h2⟩:=lr.env s x hs; ⟨v,h1,aC.imp (C:=C) (C':=C.shared ω w0) ⟨fun _ _ _ h=>h,fun _ _ h=>h⟩ h2⟩)
   obtain⟨hlen,db,he0⟩:=qsz bw hH lr.fits hel
   have qT:(lp.params.zip (⟨us⟩:Array Value)).foldl (fun(tmps:Array Value) (x:Nat×Value)=>tmps.setIfInBounds x.1 x.2) lp.tmps=(l.params.zip us).foldl (fun(tmps:Array Value) (x:Nat×Value)=>tmps.setIfInBounds x.1 x.2) lp.tmps:=by
    rw[←Array.foldl_toList,Array.toList_zip,lr.params]
   have VO:lp.params.size=us.length:=by rw[←Array.length_toList,lr.params];exact hlen
   refine⟨lp.fn,(l.params.zip us).foldl (fun(tmps:Array Value) (x:Nat×Value)=>tmps.setIfInBounds x.1 x.2) lp.tmps,lp.assign,lp.body,?_,?_⟩
   ·have BH:(Instr.getLoop r).run P w=.ok lp w:=by simp[Instr.getLoop,pK hg (by simp)]
    have bB:¬((⟨us⟩:Array Value).size≠lp.params.size):=by simp[VO]
    simp only[Instr.yield,Sem.run_bind,BH,Result.andThen_ok,bB,if_false,Sem.run_pure,Sem.run_ite]
    rw[show((lp.params.zip (⟨us⟩:Array Value)).foldl (fun tmps (x:Nat×Value)=>match x with|(t,a)=>tmps.setIfInBounds t a) lp.tmps)=_ from qT]
   ·refine roundIn_of_wpIn trivial ?_
    split at hy
    ·rename_i st ct
     split at hy
     ·rename_i l1 iy
      cases kB:l1.pending.isNone with
      |false=>simp[kB]at hy
      |true=>
       simp only[kB,cond_true]at hy
       have Hl:l1.pending=Ia:=by simpa using kB
       split at hy
       ·rename_i x bV iC
        split at hy
        ·rename_i l2 oU
         cases hy
         refine wpIn_mono (hx (I r) lp.tmps.size lp.assign l.assign _ _ _ lr.assign (fun _=>lr.nr.1) ct (C.shared ω w0) (rG ω) w (C.shared ω w0) { tmps:=_,defers:=[] } w ms he0 db Marks.nil) ?_
         rintro ee a1 w1 ⟨rfl,q1,C1,ω1,q2,q3,q4,q5⟩
         have wM:=q2.b b r hr
         obtain⟨Mq,hg1,VP⟩:=Mp q4 iy wM
         have zB:Mq.state=.ready:=by rw[VP.state,Hl]
         have VQ:cD P C1 { l1 with pending:=I .normal } { Mq with state:=.busy }:={ VP with state:=rfl,pending:=by rw[VP.pending,Hl] }
         obtain⟨Hm,GM,m1⟩:=Hk q4 wM hg1 VQ
         have iJ:(Instr.beginRound r).run P w1=.ok () (kj w1 r (.loop { Mq with state:=.busy })):=by
          have BH:(Instr.getLoop r).run P w1=.ok Mq w1:=by simp[Instr.getLoop,pK hg1 (by simp)]
          simp only[Instr.beginRound,Sem.run_bind,BH,Result.andThen_ok,Hm,zB,Sem.run_pure]
         refine⟨_,iJ,?_⟩
         refine wpIn_mono (hx (I r) lp.tmps.size lp.body l.body _ _ _ lr.body (fun _=>lr.nr.2) iC C1 ω1 w (C.shared ω w0) a1 _ m1 (q5.dM GM wM) q1 q3) ?_
         rintro ee a2 w2 ⟨rfl,p1,C2,ω2,p2,p3,p4,p5⟩
         have rK:=p2.b b r wM
         obtain⟨lW,rL,vC⟩:=Mp p4 oU rK
         have BI:(Instr.getLoop r).run P w2=.ok lW w2:=by simp[Instr.getLoop,pK rL (by simp)]
         have fin:∀(VR:LoopState) (pd:Option Code) (ap:Option jf) (bb:Bool),cD P C2 { l2 with pending:=ap } { lW with state:=VR,pending:=pd } →
           zq P C0 w0 C tmps d env ⟨.bool bb,G0,Ia,zg hp.length (.bool Gq) (bV.heap.set b (.loop { l2 with pending:=ap }))⟩ (.bool bb) (kj w2 r (.loop { lW with state:=VR,pending:=pd })):=by
          intro VR pd ap bb vD
          obtain⟨kE,hu2,m2⟩:=Hk p4 rK rL vD
          have:=qs1 (d:=d) (v:=.bool bb) (ow:=false) (u:=.bool bb) m e m2 (aH.le_trans q2 p2) (.bool bb) (by simp)
          exact this
         cases x with
         |normal=>
          have vD:cD P C2 { l2 with pending:=Ia } { lW with state:=.ready,pending:=Ia }:={ vC with state:=rfl,pending:=rfl }
          obtain⟨kE,_,_⟩:=Hk p4 rK rL vD
          exact⟨.bool Gq,_,by simp only[Instr.endRound,Sem.run_bind,BI,Result.andThen_ok,Option.isNone_none,if_true,kE,Sem.run_pure],_,rfl,fin _ _ _ Gq vD⟩
         |ret=>
          have vD:cD P C2 { l2 with pending:=I .ret } { lW with state:=.done,pending:=I .ret }:={ vC with state:=rfl,pending:=rfl }
          obtain⟨kE,_,_⟩:=Hk p4 rK rL vD
          exact⟨.bool G0,_,by simp only[Instr.endRound,Sem.run_bind,BI,Result.andThen_ok,Xp,G1,if_false,kE,Sem.run_pure],_,rfl,fin _ _ _ G0 vD⟩
         |exit id=>
          have vD:cD P C2 { l2 with pending:=I (.exit id) } { lW with state:=.done,pending:=I (.exit id) }:={ vC with state:=rfl,pending:=rfl }
          obtain⟨kE,_,_⟩:=Hk p4 rK rL vD
          exact⟨.bool G0,_,by simp only[Instr.endRound,Sem.run_bind,BI,Result.andThen_ok,Xp,G1,if_false,kE,Sem.run_pure],_,rfl,fin _ _ _ G0 vD⟩
        ·cases hy
       ·cases hy
     ·cases hy
    ·cases hy
  ·cases hy
 ·cases hy
theorem jl7 {h md r h0 dst al cP res}(eE:bX P p)(hx:cM P xc)(m:ax P C ω w0 C0 hp w)(e:ak C ω w w0.heap.size env a.tmps){c}(ho:o.op=.call c){f}(oV:c.callee=.value f)
  (hc:A7 P h md r dst c=I cP) (hs:qf p xc h0 al env hp cP=I res):yj P C C0 w0 a d env o w res:=by
 unfold A7 at hc
 rw[oV]at hc
 simp only[]at hc
 split at hc
 ·rename_i f' args' h1 h2
  cases hc
  generalize md.at r=md at hs
  simp only[qf,yx]at hs
  split at hs
  ·rename_i k first captured vs e1 e2
   have zC:=qw e.cq h1 e1
   have VS:=EC e.cq h2 e2
   generalize hO:a.eval f=fv at zC
   cases zC with
   |fn g g' _ _ as bs hf ha hb=>
    simp only[fM]at hf
    subst hf
    have hall:aV C (first++vs++captured) (as++c.args.toList.map a.eval++bs):=aV.append (aV.append ha VS) hb
    have iU:Enters P k→(execOp a.eval o).run P w=.ok (.enter k ⟨as++c.args.toList.map a.eval++bs⟩) w:=by
     intro lV
     have eA:(⟨as⟩:Array Value)++Array.map a.eval c.args++(⟨bs⟩:Array Value)=⟨as++c.args.toList.map a.eval++bs⟩:=by
      apply Vv;simp
     simp[execOp,ho,resolve,oV,hO,Deferred.ofValue,invoke,eA,qp4 lV]
    cases md with
    |fT rk=>
     simp only[]at hs
     cases vq:(first++vs++captured).isEmpty with
     |false=>
      rw[vq]at hs
      simp only[cond_false]at hs
      cases kC:qx 0 (first++vs++captured)with
      |false=>rw[kC]at hs;cases hs
      |true=>
       rw[kC]at hs
       simp only[cond_true]at hs
       split at hs
       ·rename_i v ow wO
        obtain⟨lV,lC,rM⟩:=Mi eE hx wO kC
        have lX:aV (.bW C.K) (first++vs++captured) (as++c.args.toList.map a.eval++bs):=
         aC.shift (C:=C) (C':=.bW C.K) 0 (fun _ _ _ h=>h) (fun b r br=>by omega) hall kC
        refine .inr (.inr (.inl ⟨k,_,iU lV,CallsIn.mono (rM C.K w _ m.tabs m.know m.dv lX) ?_⟩))
        rintro ee w' ⟨u,K',rfl,q1,q2,q3,q4,q5,q6,q7⟩
        exact⟨u,rfl,jeh m e q1 q2 q3 q4 q5 q6 q7 hs⟩
       ·cases hs
     |true=>
      rw[vq]at hs
      simp only[cond_true]at hs
      split at hs
      ·rename_i es hm
       split at hs
       ·rename_i h' hn
        obtain rfl:=qy hs
        obtain⟨hh,rfl⟩:=y8 hn
        obtain⟨lV,lO⟩:=eE.maps k es hm
        have kP:as++c.args.toList.map a.eval++bs=[]:=by
         have h1:first++vs++captured=[]:=Vj.1 vq
         have h2:=hall.length
         rw[h1]at h2
         exact List.eq_nil_of_length_eq_zero h2
        refine .inr (.inr (.inl ⟨k,_,iU lV,?_⟩))
        rw[kP]
        refine CallsIn.mono (lO C.K w m.tabs m.know m.dv) ?_
        rintro ee w' ⟨q,K',cf,clock,rfl,q1,q2,q3,q4,q5,q6,q7,q8⟩
        exact⟨_,rfl,jih m e q1 q2 q3 q4 q5 hh q6 q7 q8⟩
       ·cases hs
      ·cases hs
    |bW=>
     simp only[]at hs
     cases vq:qx 0 (first++vs++captured)with
     |false=>rw[vq]at hs;cases hs
     |true=>
      rw[vq]at hs
      simp only[cond_true]at hs
      split at hs
      ·rename_i v ow wO
       cases hs
       obtain⟨lV,lC,rM⟩:=Mi eE hx wO vq
       have lX:aV (.bW C.K) (first++vs++captured) (as++c.args.toList.map a.eval++bs):=
        aC.shift (C:=C) (C':=.bW C.K) 0 (fun _ _ _ h=>h) (fun b r br=>by omega) hall vq
       refine .inr (.inr (.inl ⟨k,_,iU lV,CallsIn.mono (rM C.K w _ m.tabs m.know m.dv lX) ?_⟩))
       rintro ee w' ⟨u,K',rfl,q1,q2,q3,q4,q5,q6,q7⟩
       exact⟨u,rfl,q5z m e q1 q2 q3 q4 q5 lC q6 q7⟩
      ·cases hs
    |red=>
     simp only[]at hs
     split at hs
     ·rename_i xs EK
      cases kC:qx 0 xs with
      |false=>rw[kC]at hs;cases hs
      |true=>
       rw[kC]at hs
       simp only[cond_true]at hs
       split at hs
       ·rename_i v ow wO
        split at hs
        ·rename_i v' Hj hrd
         cases hs
         obtain⟨lV,lC,rM⟩:=Mi eE hx wO kC
         refine .inr (.inr (.inl ⟨k,_,iU lV,CallsIn.mono (rM (zx C hp w) w _ m.tabs (fun r o u h=>(Mh m h).1) (fun r o u h=>(Mh m h).2) (qsu m EK hall kC)) ?_⟩))
         rintro ee w' ⟨u,K',rfl,q1,q2,q3,q4,q5,q6,q7⟩
         exact⟨u,rfl,jli m e q1 q2 q3 q4 q5 q6 q7 hrd⟩
        ·cases hs
       ·cases hs
     ·cases hs
    |shr=>
     simp only[]at hs
     split at hs
     ·rename_i v ow h' G9
      cases hs
      ·obtain⟨lV,nG⟩:=G8 eE hx G9
       have lX:aV (C.shared ω w0) (first++vs++captured) (as++c.args.toList.map a.eval++bs):=aC.imp (C:=C) (C':=C.shared ω w0) ⟨fun _ _ _ h=>h,fun _ _ h=>h⟩ hall
       refine .inr (.inr (.inl ⟨k,_,iU lV,CallsIn.mono (nG _ _ _ _ lX (VN m)) ?_⟩))
       rintro ee w' ⟨u,C',ω',rfl,q1,q2,q3,q4⟩
       exact⟨u,rfl,qs1 m e q2 q1 q3 q4⟩
     ·cases hs
  ·rename_i b vs e1 e2
   have zC:=qw e.cq h1 e1
   have VS:=EC e.cq h2 e2
   generalize hO:a.eval f=fv at zC
   cases md with
   |bW=>simp at hs
   |fT _=>simp at hs
   |red=>simp at hs
   |shr=>
    simp only[]at hs
    split at hs
    ·rename_i v h' hy
     obtain rfl:=qy hs
     cases zC with
     |fn g g' _ _ as bs hf ha hb=>
      obtain⟨q,oX,rfl⟩:=hf
      cases ha
      cases hb
      obtain⟨ff,ov,assign,body,k1,k2⟩:=jlq (d:=d) hx m e oX VS hy
      refine .inr (.inr (.inr ⟨q,ff,ov,assign,body,?_,k2⟩))
      have eA:Array.map a.eval c.args=⟨c.args.toList.map a.eval⟩:=by
       apply Vv;simp
      rw[←eA]at k1
      simp[execOp,ho,resolve,oV,hO,Deferred.ofValue,invoke,k1]
    ·cases hs
  ·cases hs
 ·cases hc
theorem jtl {h md r h0 dst al cP res}(eE:bX P p)(hx:cM P xc)(m:ax P C ω w0 C0 hp w)(e:ak C ω w w0.heap.size env a.tmps)
  (nF:cP.iq=Ia) (hc:cV P h md r dst o.op=I cP) (hs:qf p xc h0 al env hp cP=I res):yj P C C0 w0 a d env o w res:=by
 cases ho:o.op<;>rw[ho]at hc
 case move x=>exact jia m e ho hc hs
 case assign x=>exact jbt m e ho hc hs
 case pick=>exact jit m e ho hc hs
 case alloc=>exact jfd m e ho hc hs
 case box=>exact jqu m e ho hc hs
 case build=>exact jez m e ho hc hs
 case buildSlice=>exact qzp m e ho hc hs
 case load=>exact jiv m e ho hc hs
 case store=>exact jfb m e ho nF hc hs
 case nilCheck=>exact q32 m e ho hc hs
 case binOp=>exact jqx m e ho hc hs
 case unOp=>exact jwm m e ho hc hs
 case convert=>exact jmu m e ho hc hs
 case makeFunc=>exact q5k m e ho hc hs
 case makeMap=>exact q7x m e ho hc hs
 case makeSlice=>exact q02 m e ho hc hs
 case slice=>exact jd8 m e ho hc hs
 case fieldAddr=>exact q1f m e ho hc hs
 case field=>exact jet m e ho hc hs
 case indexAddr=>exact q1c m e ho hc hs
 case index=>exact jgm m e ho hc hs
 case range=>exact jfx m e ho hc hs
 case extract=>exact q7v m e ho hc hs
 case call c=>
  have dU:A7 P h md r dst c=I cP:=hc
  by_cases hv:∃f,c.callee=.value f
  ·obtain⟨f,hf⟩:=hv
   exact jl7 eE hx m e ho hf dU hs
  ·exact q79 m e ho (fun f hf=>hv ⟨f,hf⟩) dU hs
 case lookup=>exact jcw m e ho hc hs
 case mapUpdate=>exact qo4 m e (.inl ho) hc hs
 case insert t x y z=>exact qo4 (h:=h) (md:=md) (r:=r) (dst:=dst) m e (.inr ho) (show cV P h md r dst (.mapUpdate t x y z)=I cP from hc) hs
 case next it b=>exact jl9 m e ho hc hs
 all_goals (simp[cV]at hc;done)
end
section
variable {p:zb}{xc:XC}{h0:Nat}{al:Option (List Nat)}
def Agree (l:List Nat)(e e':Env):Prop:=∀s∈l,jj s e=jj s e'
theorem Agree.app {l l' e e'}(h:Agree (l++l') e e'):Agree l e e'∧Agree l' e e':=
 ⟨fun s hs=>h s (Vp _ hs),fun s hs=>h s (Vn _ hs)⟩
theorem qt {e e' x}(h:Agree (zi x) e e'):qi e x=qi e' x:=by
 cases x with
 |tmp t=>simp only[qi,h t (by simp[zi])]
 |const v=>rfl
theorem EM {e e'}:∀ {l:List jx},Agree (yP l) e e'→gk e l=gk e' l
 | [],_=>rfl
 |x::l,h=>by
  have h':Agree (zi x++yP l) e e':=by simpa[yP]using h
  simp only[gk,qt h'.app.1,EM h'.app.2]
theorem EN {e e' x}(d n:Nat)(h:Agree (A8 x) e e'):fL e d n x=fL e' d n x:=by
 cases x with
 |none=>rfl
 |some x=>simp only[fL,qt (x:=x) h]
theorem VT {e e' x}(h:Agree (zi x) e e'):zu e x=zu e' x:=by
 cases x with
 |tmp t=>simp only[zu,h t (by simp[zi])]
 |const v=>rfl
theorem qks {e e'}:∀ {l:List (Nat×Nat×jx)},Agree (l.flatMap fun p=>zi p.2.2) e e'→kr e l=kr e' l
 | [],_=>rfl
 |(i,n,x)::l,h=>by
  have h':Agree (zi x++l.flatMap fun p=>zi p.2.2) e e':=by simpa using h
  simp only[kr,qt h'.app.1,qks h'.app.2]
theorem VU {e e' sz}:∀ {l:List (Nat×jx)},Agree (l.flatMap fun p=>zi p.2) e e'→yi e sz l=yi e' sz l
 | [],_=>rfl
 |(i,x)::l,h=>by
  have h':Agree (zi x++l.flatMap fun p=>zi p.2) e e':=by simpa using h
  simp only[yi,qt h'.app.1,VU h'.app.2]
theorem q6c {e e' h op}(ha:Agree op.reads e e'):qf p xc h0 al e h op=qf p xc h0 al e' h op:=by
 cases op with
 |move x=>simp only[qf,qo,qt (x:=x) ha]
 |take s=>simp only[qf,qo,ha s (by simp[cU.reads])]
 |pick c x y=>simp only[cU.reads]at ha;simp only[qf,qo,qt ha.app.1.app.1,qt ha.app.1.app.2,qt ha.app.2]
 |build z ps=>simp only[qf,qo,qks (l:=ps) ha]
 |buildSlice sz n z ps=>simp only[qf,qo,VU (l:=ps) ha]
 |nilCheck x=>simp only[qf,qo,qt (x:=x) ha]
 |gI n=>rfl
 |dV n s x=>
  simp only[cU.reads]at ha
  have h1:jj s e=jj s e':=ha s (by simp)
  have h2:Agree (zi x) e e':=fun t ht=>ha t (by simp[ht])
  simp only[qf,qo,h1,qt h2]
 |oP n x=>simp only[qf,qo,qt (x:=x) ha]
 |fH ag n x=>simp only[qf,qo,qt (x:=x) ha]
 |bin op x y=>simp only[cU.reads]at ha;simp only[qf,qo,qt ha.app.1,qt ha.app.2]
 |eqs ks n x y=>simp only[cU.reads]at ha;simp only[qf,qo,qt ha.app.1,qt ha.app.2]
 |beq n x y=>simp only[cU.reads]at ha;simp only[qf,qo,qt ha.app.1,qt ha.app.2]
 |fI k n x=>simp only[qf,qo,qt (x:=x) ha]
 |un op x=>simp only[qf,qo,qt (x:=x) ha]
 |conv k x=>simp only[qf,qo,qt (x:=x) ha]
 |fA x=>simp only[qf,qo,qt (x:=x) ha]
 |field ag off n x=>simp only[qf,qo,qt (x:=x) ha]
 |index ag l n x i=>simp only[cU.reads]at ha;simp only[qf,qo,qt ha.app.1,qt ha.app.2]
 |ey x i=>simp only[cU.reads]at ha;simp only[qf,qo,qt ha.app.1,qt ha.app.2]
 |fieldAddr ag off n x=>simp only[qf,qo,qt (x:=x) ha]
 |indexAddr sz x i=>simp only[cU.reads]at ha;simp only[qf,qo,qt ha.app.1,qt ha.app.2]
 |eY ag l sz x i=>simp only[cU.reads]at ha;simp only[qf,qo,qt ha.app.1,qt ha.app.2]
 |slice sz x lo hi=>simp only[cU.reads]at ha;simp only[qf,qo,qt ha.app.1.app.1,EN _ _ ha.app.1.app.2,EN _ _ ha.app.2]
 |eZ x lo hi=>simp only[cU.reads]at ha;simp only[qf,qo,qt ha.app.1.app.1,EN _ _ ha.app.1.app.2,EN _ _ ha.app.2]
 |gj l sz x lo hi=>simp only[cU.reads]at ha;simp only[qf,qo,qt ha.app.1.app.1,EN _ _ ha.app.1.app.2,EN _ _ ha.app.2]
 |gJ f x y=>simp only[cU.reads]at ha;simp only[qf,qo,EM ha.app.1,EM ha.app.2]
 |len k x=>simp only[qf,qo,qt (x:=x) ha]
 |append r sz b x y=>
  simp only[cU.reads]at ha
  cases r with
  |none=>simp only[qf,qo,qt ha.app.1,qt ha.app.2,VT ha.app.1]
  |some r=>simp only[qf,qp,qt ha.app.1,qt ha.app.2,VT ha.app.1]
 |il r sz b x y=>simp only[cU.reads]at ha;simp only[qf,qp,qt ha.app.1,qt ha.app.2]
 |iN r sz n z ps=>simp only[qf,qp,VU (l:=ps) ha]
 |cx r sz b z n c=>
  simp only[cU.reads]at ha
  cases r with
  |none=>simp only[qf,qo,qt ha.app.1,qt ha.app.2]
  |some r=>simp only[qf,qp,qt ha.app.1,qt ha.app.2]
 |mx l=>simp only[qf,qo,EM (l:=l) ha]
 |mn l=>simp only[qf,qo,EM (l:=l) ha]
 |extract x i=>simp only[qf,qo,qt (x:=x) ha]
 |load ag n x=>simp only[qf,ym,qt (x:=x) ha]
 |alloc r z=>rfl
 |gi r t e=>rfl
 |box r n x=>simp only[qf,qp,qt (x:=x) ha]
 |cE off x=>simp only[qf,qp,qt (x:=x) ha]
 |store n x y=>simp only[cU.reads]at ha;simp only[qf,qp,qt ha.app.1,qt ha.app.2,VT ha.app.2]
 |dW r=>rfl
 |dI r x=>simp only[qf,qp,qt (x:=x) ha]
 |call md f l=>simp only[cU.reads]at ha;simp only[qf,yx,qt ha.app.1,EM ha.app.2]
 |lookup kd z ok x y=>simp only[cU.reads]at ha;simp only[qf,ym,qt ha.app.1,qt ha.app.2]
 |mapUpdate kd x y z=>simp only[cU.reads]at ha;simp only[qf,qp,qt ha.app.1.app.1,qt ha.app.1.app.2,qt ha.app.2]
 |delete kd x y=>simp only[cU.reads]at ha;simp only[qf,qp,qt ha.app.1,qt ha.app.2]
 |copy sz x y=>simp only[cU.reads]at ha;simp only[qf,qp,qt ha.app.1,qt ha.app.2]
 |fJ x=>simp only[qf,qp,qt (x:=x) ha]
 |bad=>rfl
def bj.at (r:bj)(h:qh):bj:={ r with heap:=h }
theorem mM {h h' x r}(hs:val h x=I r):r.heap=h∧val h' x=I (r.at h'):=by
 simp only[val,I.injEq]at hs;subst hs;exact⟨rfl,rfl⟩
theorem jly (h:qh)(x:Option AVal):gK h x=(gK [] x).map (·.at h):=by cases x<;>rfl
theorem VW {α β:Type}(c:Bool)(x y:Option α)(f:α→β):(bif c then x else y).map f=bif c then x.map f else y.map f:=by cases c<;>rfl
theorem qpz (e:Env)(h:qh)(op:cU):qo e h op=(qo e [] op).map (·.at h):=by
 cases op with
 |append r sz b x y=>
  cases r with
  |some r=>rfl
  |none=>
   simp only[qo]
   repeat' split
   all_goals first
    |rfl
    |(simp only[VW];repeat' split)<;>rfl
 |cx r sz b z n c=>
  cases r with
  |some r=>rfl
  |none=>
   simp only[qo]
   repeat' split
   all_goals first
    |rfl
    |(simp only[VW];rfl)
 |_=>
  simp only[qo]
  repeat' split
  all_goals first
   |rfl
   |exact jly _ _
   |(simp only[VW];first|rfl|(repeat' split)<;>rfl)
theorem qs0 {e h}(h':qh){op r}(hs:qo e h op=I r):r.heap=h∧qo e h' op=I (r.at h'):=by
 rw[qpz]at hs
 obtain⟨r0,h1,rfl⟩:=Gt.1 hs
 refine⟨rfl,?_⟩
 rw[qpz,h1]
 rfl
end
section
variable {p:zb}{xc:XC}{h0:Nat}{al:Option (List Nat)}
def nV:Option bh→Bool
 |some (.vec ..)=>G0
 |some .hole=>G0
 |_=>Gq
theorem Hn {h b cs}(hc:jy h b=I cs):nV h[b]?=Gq:=by
 unfold jy at hc
 split at hc
 ·rename_i h1;rw[h1];rfl
 ·cases hc
theorem EO {h b x}(hb:zm h b=I x)(hx:nV (I x)=Gq):nV h[b]?=Gq:=by
 unfold zm at hb;rw[hb];exact hx
def VX:bh→Option Nat
 | .vec sz _ _=>I sz
 |_=>Ia
def HB (h0:Nat)(al:Option (List Nat))(F:qh→Option bj)(h:qh)(r:bj):Ba→Nat→Prop
 | .pure,_=>r.heap=h∧∀h',F h'=I (r.at h')
 | .read,_=>r.heap=h∧∀h':qh,(∀b,zd h0 al b=Gq→(pG al=Gq→nV h[b]?=Gq)→h'[b]?=h[b]?)→F h'=I (r.at h')
 | .alloc,k=>∃x,aJ h0 h k x=I r.heap∧∀h' h3,aJ h0 h' k x=I h3→F h'=I (r.at h3)
 | .write,_=>∃b x,zd h0 al b=Gq∧nV h[b]?=Gq∧nV (I x)=Gq∧jt h b x=I r.heap∧∀h' h3:qh,h'[b]?=h[b]?→jt h' b x=I h3→F h'=I (r.at h3)
 | .take,k=>∃b cs v o,zd h0 al b=Gq∧h[b]?=I (.cells cs)∧cs[k]?=I (v,o)∧r.heap=h.set b (.cells (cs.set k (v,G0))) ∧
   ∀(h':qh) (eK:List (AVal×Bool)),h'[b]?=I (.cells eK)→eK[k]?=I (v,o)→F h'=I (r.at (h'.set b (.cells (eK.set k (v,G0)))))
 | .fT,_=>False
 | .shr,_=>True
 | .oi,k=>∃q x y,(q=h0+k % 1000∧y=.hole∨VX y=I (k / 1000))∧h[q]?=I y∧r.heap=h.set q x∧VX x=I (k / 1000)∧∀h':qh,h'[q]?=I y→F h'=I (r.at (h'.set q x))
theorem Ho {h h' b}(hb:h'[b]?=h[b]?):jy h' b=jy h b:=by simp only[jy,hb]
theorem jgz {e h op r}(hs:qf p xc h0 al e h op=I r):HB h0 al (fun h=>qf p xc h0 al e h op) h r op.cl op.cZ:=by
 have gv:(∀h,qf p xc h0 al e h op=qo e h op)→op.cl=.pure→HB h0 al (fun h=>qf p xc h0 al e h op) h r op.cl op.cZ:=by
  intro heq dT
  rw[dT]
  rw[heq]at hs
  exact⟨(qs0 h hs).1,fun h'=>(heq h').trans (qs0 h' hs).2⟩
 cases op with
 |load ag n x=>
  simp only[qf,ym]at hs
  split at hs
  ·rename_i b o hv
   cases hk:zd h0 al b with
   |false=>simp[hk]at hs
   |true=>
    simp only[hk,cond_true]at hs
    split at hs
    ·rename_i cs hcs
     split at hs
     ·rename_i vs Me
      have key:r.heap=h∧∀h':qh,jy h' b=jy h b→ym h0 al e h' (.load ag n x)=I (r.at h'):=by
       cases ag with
       |true=>
        simp only[cond_true]at hs
        refine⟨(mM (h':=h) hs).1,fun h' hb=>?_⟩
        simp only[ym,hv,hk,cond_true,hb,hcs,Me]
        exact(mM (h':=h') hs).2
       |false=>
        simp only[cond_false]at hs
        split at hs
        ·refine⟨(mM (h':=h) hs).1,fun h' hb=>?_⟩
         simp only[ym,hv,hk,cond_true,hb,hcs,Me,cond_false]
         exact(mM (h':=h') hs).2
        ·cases hs
      exact⟨key.1,fun h' dr=>key.2 h' (Ho (dr b hk fun _=>Hn hcs))⟩
     ·cases hs
    ·cases hs
  ·rename_i v hv
   cases hk:(Zm ag v.isAgg||!(Gz v.flat.length n))with
   |true=>simp[hk]at hs
   |false=>
    simp only[hk,cond_false]at hs
    refine⟨(mM (h':=h) hs).1,fun h' _=>?_⟩
    simp only[qf,ym,hv,hk,cond_false]
    exact(mM (h':=h') hs).2
  ·rename_i b bG q hv
   cases hk:vh h0 al b with
   |false=>simp[hk]at hs
   |true=>
    simp only[hk,cond_true]at hs
    have iB:=hk
    simp only[vh,En,Bool.not_eq_true']at iB
    split at hs
    ·rename_i sz dK xs gP
     have jQ:∀h':qh,(∀b,zd h0 al b=Gq→(pG al=Gq→nV h[b]?=Gq)→h'[b]?=h[b]?)→zm h' b=I (.vec sz dK xs):=fun h' dr=>by
      unfold zm at gP ⊢;rw[dr b iB.1 (fun ho=>by rw[iB.2]at ho;cases ho),gP]
     cases dz:(Gz bG dK&&Ig (q+n) (xs.flatMap AVal.flat).length)with
     |false=>rw[dz]at hs;cases hs
     |true=>
      rw[dz]at hs
      simp only[cond_true]at hs
      cases ag with
      |true=>
       simp only[cond_true]at hs
       refine⟨(mM (h':=h) hs).1,fun h' dr=>?_⟩
       simp only[qf,ym,hv,hk,cond_true,jQ h' dr,dz]
       exact(mM (h':=h') hs).2
      |false=>
       simp only[cond_false]at hs
       split at hs
       ·rename_i z hz
        refine⟨(mM (h':=h) hs).1,fun h' dr=>?_⟩
        simp only[qf,ym,hv,hk,cond_true,jQ h' dr,dz,cond_false,hz]
        exact(mM (h':=h') hs).2
       ·cases hs
    ·cases hs
  ·cases hs
 |len k x=>exact gv (fun _=>rfl) rfl
 |alloc rk z=>
  simp only[qf,qp]at hs
  cases hk:z.all qk with
  |false=>simp[hk]at hs
  |true=>
   simp only[hk,cond_true]at hs
   split at hs
   ·rename_i h' hn
    have h1:=qy hs
    refine⟨_,by rw[h1];exact hn,fun g g3 hg=>?_⟩
    simp only[qf,qp,hk,cond_true]
    rw[show cU.cZ (.alloc rk z)=rk from rfl]at hg
    rw[hg,h1];rfl
   ·cases hs
 |box rk n x=>
  simp only[qf,qp]at hs
  split at hs
  ·rename_i v hv
   cases hk:(Gz v.flat.length n&&v.flat.all qk)with
   |false=>simp[hk]at hs
   |true=>
    simp only[hk,cond_true]at hs
    split at hs
    ·rename_i h' hn
     have h1:=qy hs
     refine⟨_,by rw[h1];exact hn,fun g g3 hg=>?_⟩
     simp only[qf,qp,hv,hk,cond_true]
     rw[show cU.cZ (.box rk n x)=rk from rfl]at hg
     rw[hg,h1];rfl
    ·cases hs
  ·cases hs
 |gi rk t e'=>
  simp only[qf,qp]at hs
  split at hs
  ·rename_i h' hn
   have h1:=qy hs
   refine⟨_,by rw[h1];exact hn,fun g g3 hg=>?_⟩
   simp only[qf,qp]
   rw[show cU.cZ (.gi rk t e')=rk from rfl]at hg
   rw[hg,h1];rfl
  ·cases hs
 |dW rk=>
  simp only[qf,qp]at hs
  split at hs
  ·rename_i h' hn
   have h1:=qy hs
   refine⟨_,by rw[h1];exact hn,fun g g3 hg=>?_⟩
   simp only[qf,qp]
   rw[show cU.cZ (.dW rk)=rk from rfl]at hg
   rw[hg,h1];rfl
  ·cases hs
 |dI rk x=>
  simp only[qf,qp]at hs
  split at hs
  ·rename_i s hv
   split at hs
   ·rename_i h' hn
    have h1:=qy hs
    refine⟨_,by rw[h1];exact hn,fun g g3 hg=>?_⟩
    simp only[qf,qp,hv]
    rw[show cU.cZ (.dI rk x)=rk from rfl]at hg
    rw[hg,h1];rfl
   ·cases hs
  ·cases hs
 |cE off x=>
  simp only[qf,qp]at hs
  split at hs
  ·rename_i b o hv
   cases hk:zd h0 al b&&vi off o with
   |false=>simp[hk]at hs
   |true=>
    simp only[hk,cond_true]at hs
    have eV:zd h0 al b=Gq:=by simp only[En]at hk;exact hk.1
    split at hs
    ·rename_i cs hcs
     split at hs
     ·rename_i v ow hq
      split at hs
      ·rename_i h' bw
       cases hs
       have ox:=bw
       unfold jt at ox
       cases br:Ib b h.length with
       |false=>simp[br]at ox
       |true=>
        simp only[br,cond_true,I.injEq]at ox
        cases off with
        |none=>
         refine⟨b,_,eV,Hn hcs,rfl,bw,fun g g3 hb hg=>?_⟩
         simp only[qf,qp,hv,hk,cond_true,Ho hb,hcs,hq,hg]
         rfl
        |some k=>
         have hko:k=o:=by
          simp only[En,vi]at hk;exact Gn hk.2
         subst hko
         have hhb:h[b]?=I (.cells cs):=by
          unfold jy at hcs
          split at hcs
          ·rename_i eK h';cases hcs;exact h'
          ·cases hcs
         refine⟨b,cs,v,ow,eV,hhb,hq,ox.symm,fun g eK hg dU=>?_⟩
         have dU:eK[k]?=I (v,ow):=dU
         have hlg:b<g.length:=(Gy.1 hg).1
         have lA:jy g b=I eK:=by simp only[jy,hg]
         have hsg:jt g b (.cells (eK.set k (v,G0)))=I (g.set b (.cells (eK.set k (v,G0)))):=by
          unfold jt;rw[Ie.mpr hlg];rfl
         simp only[qf,qp,hv,hk,cond_true,lA,dU,hsg]
         rfl
      ·cases hs
     ·cases hs
    ·cases hs
  ·cases hs
 |store n x y=>
  simp only[qf,qp]at hs
  split at hs
  ·rename_i b o v hv hy
   cases hk:zd h0 al b with
   |false=>simp[hk]at hs
   |true=>
    simp only[hk,cond_true]at hs
    split at hs
    ·rename_i cs hcs
     split at hs
     ·rename_i t ht
      cases dz:(Gz n 1&&v.cS&&Ib o cs.length)with
      |false=>simp[dz]at hs
      |true=>
       simp only[dz,cond_true]at hs
       split at hs
       ·rename_i h' bw
        cases hs
        refine⟨b,_,hk,Hn hcs,rfl,bw,fun g g3 hb hg=>?_⟩
        simp only[qf,qp,hv,hy,hk,cond_true,Ho hb,hcs,ht,dz,hg]
        rfl
       ·cases hs
     ·rename_i ht
      cases dz:Gz v.flat.length n with
      |false=>simp[dz]at hs
      |true=>
       simp only[dz,cond_true]at hs
       split at hs
       ·rename_i eK ct
        split at hs
        ·rename_i h' bw
         have h1:=qy hs
         refine⟨b,_,hk,Hn hcs,rfl,by rw[h1];exact bw,fun g g3 hb hg=>?_⟩
         simp only[qf,qp,hv,hy,hk,cond_true,Ho hb,hcs,ht,dz,ct,hg,h1]
         rfl
        ·cases hs
       ·cases hs
    ·cases hs
  ·cases hs
 |call md f l=>
  cases md with
  |shr=>trivial
  |red=>trivial
  |fT rk=>
   simp only[qf,yx]at hs
   split at hs
   ·rename_i k first captured vs e1 e2
    cases hb:(first++vs++captured).isEmpty with
    |false=>
     rw[hb]at hs
     simp only[cond_false]at hs
     cases lU:qx 0 (first++vs++captured)with
     |false=>rw[lU]at hs;cases hs
     |true=>
      rw[lU]at hs
      simp only[cond_true]at hs
      split at hs
      ·rename_i v o wO
       have goal:∃x,aJ h0 h rk x=I r.heap∧∀g g3,aJ h0 g rk x=I g3→qO h0 g rk v o=I (r.at g3):=by
        unfold qO at hs
        split at hs
        ·split at hs
         ·rename_i h' hn
          have h1:=qy hs
          refine⟨_,by rw[h1];exact hn,fun g g3 hg=>?_⟩
          simp only[qO,hg,h1];rfl
         ·cases hs
        ·rename_i sz xs
         cases G2:(xs.flatMap AVal.flat).all oe with
         |false=>rw[G2]at hs;cases hs
         |true=>
          rw[G2]at hs
          simp only[cond_true]at hs
          split at hs
          ·rename_i h' hn
           have h1:=qy hs
           refine⟨_,by rw[h1];exact hn,fun g g3 hg=>?_⟩
           simp only[qO,G2,cond_true,hg,h1];rfl
          ·cases hs
        ·cases hs
       obtain⟨x,g1,g2⟩:=goal
       refine⟨x,g1,fun g g3 hg=>?_⟩
       simp only[qf,yx,e1,e2,wO]
       rw[hb,lU]
       exact g2 g g3 hg
      ·cases hs
    |true=>
     rw[hb]at hs
     simp only[cond_true]at hs
     split at hs
     ·rename_i es hm
      split at hs
      ·rename_i h' hn
       have h1:=qy hs
       refine⟨_,by rw[h1];exact hn,fun g g3 hg=>?_⟩
       simp only[qf,yx,e1,e2,hm]
       rw[hb]
       simp only[cond_true]
       rw[show cU.cZ (.call (.fT rk) f l)=rk from rfl]at hg
       rw[hg,h1];rfl
      ·cases hs
     ·cases hs
   ·cases hs
   ·cases hs
  |bW=>
   simp only[qf,yx]at hs
   split at hs
   ·rename_i k first captured vs e1 e2
    cases hb:qx 0 (first++vs++captured)with
    |false=>rw[hb]at hs;cases hs
    |true=>
     rw[hb]at hs
     simp only[cond_true]at hs
     split at hs
     ·rename_i v o wO
      cases hs
      refine⟨rfl,fun h'=>?_⟩
      simp only[qf,yx,e1,e2,wO]
      rw[hb]
      rfl
     ·cases hs
   ·cases hs
   ·cases hs
 |append rk sz b x y=>
  cases rk with
  |none=>exact gv (fun _=>rfl) rfl
  |some rk=>
   simp only[qf,qp]at hs
   split at hs
   ·rename_i dq vy e1 e2
    cases gp:((zu e x).isSome&&Gz sz dq)with
    |false=>simp[gp]at hs
    |true=>
     simp only[gp,cond_true]at hs
     split at hs
     ·rename_i ys cW
      cases dz:(Ig ys.length 1073741824&&Ig b 4096&&Ib 0 sz)with
      |false=>simp[dz]at hs
      |true=>
       simp only[dz,cond_true]at hs
       split at hs
       ·rename_i h' hn
        cases hs
        refine⟨_,hn,fun g g3 hg=>?_⟩
        simp only[qf,qp,e1,e2,gp,cW,dz,cond_true]
        rw[show cU.cZ (.append (I rk) sz b x y)=rk from rfl]at hg
        rw[hg];rfl
       ·cases hs
     ·cases hs
   ·cases hs
 |il rk sz bt x y=>
  simp only[qf,qp]at hs
  split at hs
  ·rename_i Vq vy e1 e2
   split at hs
   ·rename_i ys cW
    cases hk:(Ig ys.length 1073741824&&Ig bt 4096&&Ib 0 sz&&!ys.isEmpty&&qx 0 ys&&Ib rk 1000)with
    |false=>rw[hk]at hs;cases hs
    |true=>
     rw[hk]at hs
     simp only[cond_true]at hs
     split at hs
     ·rename_i h' dw
      obtain rfl:=qy hs
      obtain⟨i1,i2⟩:=y8 dw
      have hrk:rk<1000:=by simp only[En]at hk;exact Ie.mp hk.2
      have m1:(rk+1000*sz) % 1000=rk:=by omega
      have m2:(rk+1000*sz) / 1000=sz:=by omega
      refine⟨h0+rk,.vec sz 0 ys,.hole,.inl ⟨by show _=h0+(rk+1000*sz) % 1000;rw[m1],rfl⟩,i1,i2,by show I sz=I ((rk+1000*sz) / 1000);rw[m2],fun g hg=>?_⟩
      simp only[qf,qp,e1,e2,cW,hk,cond_true,aJ,hg]
      rfl
     ·cases hs
   ·cases hs
  ·rename_i b bG len vy e1 e2
   split at hs
   ·rename_i dq dK xs gP
    split at hs
    ·rename_i ys cW
     cases hk:(Gz bG dK&&Gz sz dq&&Ig len xs.length&&Ig (len+ys.length) 1073741824&&Ig bt 4096&&Ib 0 sz&&qx 0 ys&&Ib rk 1000)with
     |false=>rw[hk]at hs;cases hs
     |true=>
      rw[hk]at hs
      simp only[cond_true]at hs
      split at hs
      ·rename_i h' bw
       obtain rfl:=qy hs
       have eV:=hk
       simp only[En]at eV
       obtain⟨⟨⟨⟨⟨⟨⟨_,k2⟩,_⟩,_⟩,_⟩,_⟩,_⟩,k8⟩:=eV
       have db:=Gn k2
       have hrk:rk<1000:=Ie.mp k8
       have m2:(rk+1000*sz) / 1000=sz:=by omega
       have br:b<h.length:=by unfold zm at gP;exact(Gy.1 gP).1
       have hh:h'=h.set b (.vec sz (bG+1) (xs.take len++ys)):=by
        unfold jt at bw
        rw[Ie.mpr br]at bw
        simpa using bw.symm
       refine⟨b,.vec sz (bG+1) (xs.take len++ys),.vec dq dK xs,.inr (by show I dq=I ((rk+1000*sz) / 1000);rw[m2,db]),gP,hh,by show I sz=I ((rk+1000*sz) / 1000);rw[m2],fun g hg=>?_⟩
       have jQ:zm g b=I (.vec dq dK xs):=hg
       have wP:b<g.length:=(Gy.1 hg).1
       simp only[qf,qp,e1,e2,jQ,cW,hk,cond_true,jt,Ie.mpr wP]
       rfl
      ·cases hs
    ·cases hs
   ·cases hs
  ·cases hs
 |iN rk sz n z ps=>trivial
 |cx rk sz b z n c=>
  cases rk with
  |none=>exact gv (fun _=>rfl) rfl
  |some rk=>
   simp only[qf,qp]at hs
   split at hs
   ·rename_i n' c' e1 e2
    cases hk:(Gz n' c'&&Ig n' 1073741824&&Ig b 4096&&Gz z.length sz&&Ib 0 sz&&z.all qk)with
    |false=>simp[hk]at hs
    |true=>
     simp only[hk,cond_true]at hs
     split at hs
     ·rename_i h' hn
      have h1:=qy hs
      refine⟨_,by rw[h1];exact hn,fun g g3 hg=>?_⟩
      simp only[qf,qp,e1,e2,hk,cond_true]
      rw[show cU.cZ (.cx (I rk) sz b z n c)=rk from rfl]at hg
      rw[hg,h1];rfl
     ·cases hs
   ·cases hs
 |lookup kd z ok x y=>
  simp only[qf,ym]at hs
  split at hs
  ·rename_i b kv e1 e2
   cases hk:zd h0 al b with
   |false=>simp[hk]at hs
   |true=>
    simp only[hk,cond_true]at hs
    split at hs
    ·rename_i es hb
     have jQ:∀h':qh,(∀b,zd h0 al b=Gq→(pG al=Gq→nV h[b]?=Gq)→h'[b]?=h[b]?)→zm h' b=I (.map es):=fun h' dr=>by
      have VY:=EO hb rfl
      unfold zm at hb ⊢;rw[dr b hk fun _=>VY,hb]
     split at hs
     ·rename_i i v hf
      refine⟨(mM (h':=h) hs).1,fun h' dr=>?_⟩
      simp only[qf,ym,e1,e2,hk,cond_true,jQ h' dr,hf]
      exact(mM (h':=h') hs).2
     ·rename_i hf
      refine⟨(mM (h':=h) hs).1,fun h' dr=>?_⟩
      simp only[qf,ym,e1,e2,hk,cond_true,jQ h' dr,hf]
      exact(mM (h':=h') hs).2
     ·cases hs
    ·cases hs
  ·rename_i kv e1 e2
   refine⟨(mM (h':=h) hs).1,fun h' dr=>?_⟩
   simp only[qf,ym,e1,e2]
   exact(mM (h':=h') hs).2
  ·cases hs
 |mapUpdate kd x y z=>
  simp only[qf,qp]at hs
  split at hs
  ·rename_i b kv v e1 e2 e3
   cases hk:zd h0 al b with
   |false=>simp[hk]at hs
   |true=>
    simp only[hk,cond_true]at hs
    split at hs
    ·rename_i es hb
     have jQ:∀h':qh,h'[b]?=h[b]?→zm h' b=I (.map es):=fun h' dr=>by
      unfold zm at hb ⊢;rw[dr,hb]
     split at hs
     ·rename_i i u hf
      split at hs
      ·rename_i h' bw
       have h1:=qy hs
       refine⟨b,_,hk,EO hb rfl,rfl,by rw[h1];exact bw,fun g g3 fN hg=>?_⟩
       simp only[qf,qp,e1,e2,e3,hk,cond_true,jQ g fN,hf,hg,h1]
       rfl
      ·cases hs
     ·rename_i hf
      cases hl:Ig es.length 1073741824 with
      |false=>simp[hl]at hs
      |true=>
       simp only[hl,cond_true]at hs
       split at hs
       ·rename_i h' bw
        have h1:=qy hs
        refine⟨b,_,hk,EO hb rfl,rfl,by rw[h1];exact bw,fun g g3 fN hg=>?_⟩
        simp only[qf,qp,e1,e2,e3,hk,cond_true,jQ g fN,hf,hl,hg,h1]
        rfl
       ·cases hs
     ·cases hs
    ·cases hs
  ·cases hs
 |delete kd x y=>
  simp only[qf,qp]at hs
  split at hs
  ·rename_i b kv e1 e2
   cases hk:zd h0 al b with
   |false=>simp[hk]at hs
   |true=>
    simp only[hk,cond_true]at hs
    split at hs
    ·rename_i es hb
     have jQ:∀h':qh,h'[b]?=h[b]?→zm h' b=I (.map es):=fun h' dr=>by
      unfold zm at hb ⊢;rw[dr,hb]
     split at hs
     ·rename_i rr hf
      split at hs
      ·rename_i h' bw
       have h1:=qy hs
       refine⟨b,_,hk,EO hb rfl,rfl,by rw[h1];exact bw,fun g g3 fN hg=>?_⟩
       simp only[qf,qp,e1,e2,hk,cond_true,jQ g fN,hf,hg,h1]
       rfl
      ·cases hs
     ·cases hs
    ·cases hs
  ·cases hs
 |copy sz x y=>
  simp only[qf,qp]at hs
  split at hs
  ·rename_i b o len vy e1 e2
   cases hk:zd h0 al b with
   |false=>simp[hk]at hs
   |true=>
    simp only[hk,cond_true]at hs
    split at hs
    ·rename_i cs hcs
     split at hs
     ·rename_i n us cW
      split at hs
      ·rename_i eK ct
       cases dz:Gz us.length (n*sz)with
       |false=>simp[dz]at hs
       |true=>
        simp only[dz,cond_true]at hs
        split at hs
        ·rename_i h' bw
         have h1:=qy hs
         refine⟨b,_,hk,Hn hcs,rfl,by rw[h1];exact bw,fun g g3 hb hg=>?_⟩
         simp only[qf,qp,e1,e2,hk,cond_true,Ho hb,hcs,cW,ct,dz,hg,h1]
         rfl
        ·cases hs
      ·cases hs
     ·cases hs
    ·cases hs
  ·cases hs
 |fJ x=>
  simp only[qf,qp]at hs
  split at hs
  ·rename_i b hv
   cases hk:zd h0 al b with
   |false=>simp[hk]at hs
   |true=>
    simp only[hk,cond_true]at hs
    split at hs
    ·rename_i s pos hb
     have br:b<h.length:=by unfold zm at hb;exact(Gy.1 hb).1
     cases hp:Ib pos s.length with
     |true=>
      simp only[hp,cond_true]at hs
      split at hs
      ·rename_i h' bw
       have h1:=qy hs
       refine⟨b,_,hk,EO hb rfl,rfl,by rw[h1];exact bw,fun g g3 fN hg=>?_⟩
       have jQ:zm g b=I (.iter s pos):=by unfold zm at hb ⊢;rw[fN,hb]
       simp only[qf,qp,hv,hk,cond_true,jQ,hp,hg,h1]
       rfl
      ·cases hs
     |false=>
      simp only[hp,cond_false]at hs
      have h1:=qy hs
      have Hp:h.set b (.iter s pos)=h:=by
       unfold zm at hb
       apply Vh
       intro k
       rw[Vb]
       split
       ·rename_i hbk;subst hbk;first|exact hb.symm|rw[if_pos br,hb]
       ·rfl
      refine⟨b,.iter s pos,hk,EO hb rfl,rfl,by rw[h1];unfold jt;rw[Ie.mpr br];simp[Hp],fun g g3 fN hg=>?_⟩
      have jQ:zm g b=I (.iter s pos):=by unfold zm at hb ⊢;rw[fN,hb]
      have wP:b<g.length:=by unfold zm at jQ;exact(Gy.1 jQ).1
      have BJ:g3=g:=by
       unfold jt at hg
       rw[Ie.mpr wP]at hg
       simp only[cond_true,I.injEq]at hg
       rw[←hg]
       unfold zm at jQ
       apply Vh
       intro k
       rw[Vb]
       split
       ·rename_i hbk;subst hbk;first|exact jQ.symm|rw[if_pos wP,jQ]
       ·rfl
      simp only[qf,qp,hv,hk,cond_true,jQ,hp,cond_false,h1,BJ]
      rfl
    ·cases hs
  ·cases hs
 |_=>exact gv (fun _=>rfl) rfl
theorem zD {h h' b x}(hs:jt h b x=I h'):b<h.length∧h'=h.set b x:=by
 unfold jt at hs
 cases hb:Ib b h.length with
 |false=>simp[hb]at hs
 |true=>exact⟨Ie.mp hb,by simpa[hb]using hs.symm⟩
theorem BK {h b x}(hb:b<h.length):jt h b x=I (h.set b x):=by
 unfold jt
 rw[Ie.mpr hb];rfl
theorem EP {h k x}(hh:h[h0+k]?=I .hole):aJ h0 h k x=I (h.set (h0+k) x):=by
 unfold aJ;rw[hh]
theorem EQ {b k}(h:zd h0 al b=Gq)(hk:nw al k=G0):b≠h0+k:=by
 intro hb
 subst hb
 cases al with
 |none=>simp[nw]at hk
 |some l=>
  simp only[zd,nw]at h hk
  have h1:Ib (h0+k) h0=G0:=by
   cases hh:Ib (h0+k) h0 with
   |false=>rfl
   |true=>have:=Ie.mp hh;omega
  cases he:oR l with
  |false=>
   rw[he]at h hk
   simp only[cond_false]at h hk
   rw[h1,U2,show h0+k-h0=k from by omega,hk]at h
   cases h
  |true=>
   rw[he]at h hk
   simp only[cond_true]at h hk
   cases l with
   |nil=>cases he
   |cons x l=>
    simp only[AZ]at h
    cases hx:Ib x 2000 with
    |true=>rw[hx]at h;simp only[cond_true,h1,Bool.and_false]at h;cases h
    |false=>
     rw[hx]at h
     simp only[cond_false]at h
     cases hx4:Ib x 4000 with
     |false=>rw[hx4]at h;simp only[cond_false,h1]at h;cases h
     |true=>
      rw[hx4]at h
      simp only[cond_true]at h
      have h2:=Gn h
      have h3:¬x<2000:=fun hh=>by rw[Ie.mpr hh]at hx;cases hx
      have h4:x=2000+k:=by omega
      rw[show(x::l).headD 0=x from rfl,h4,X4]at hk
      cases hk
theorem qqh {l:List Nat}{x}(h:(!(l.contains x))=Gq):l.contains x=G0:=by
 cases hc:l.contains x with
 |false=>rfl
 |true=>rw[hc]at h;cases h
theorem VZ {V0 V1:Option (List Nat)}{b b'}(h:Ez V0 V1=Gq)(h1:zd h0 V0 b=Gq)(h2:zd h0 V1 b'=Gq):b≠b':=by
 intro hb
 subst hb
 cases V0 with
 |none=>cases h
 |some l=>
  cases V1 with
  |none=>cases h
  |some m=>
   simp only[Ez,zd]at h h1 h2
   have inv:∀ {k:List Nat},oR k=Gq→Ib (k.headD 0) 4000=Gq→AZ h0 k b=Gq→(1000≤k.headD 0)∧((k.headD 0<2000∧b=k.headD 0-1000∧b<h0)∨(2000≤k.headD 0∧b=h0+(k.headD 0-2000))):=by
    intro k he h4 hq
    cases k with
    |nil=>cases he
    |cons x k=>
     refine⟨Gs he,?_⟩
     simp only[AZ]at hq
     cases hx:Ib x 2000 with
     |true=>
      rw[hx]at hq
      simp only[cond_true,En]at hq
      exact .inl ⟨Ie.mp hx,Gn hq.1,Ie.mp hq.2⟩
     |false=>
      rw[hx,show Ib x 4000=Gq from h4]at hq
      simp only[cond_false,cond_true]at hq
      have h3:¬x<2000:=fun hh=>by rw[Ie.mpr hh]at hx;cases hx
      exact .inr ⟨by show 2000≤x;omega,Gn hq⟩
   have old:∀ {k:List Nat} {r:Nat},b=h0+r→k.contains r=G0→(Ib b h0||k.contains (b-h0))=Gq→False:=by
    intro k r iJ hc hq
    have h3:Ib b h0=G0:=by
     cases hh:Ib b h0 with
     |false=>rfl
     |true=>have:=Ie.mp hh;omega
    rw[h3,U2,show b-h0=r by omega,hc]at hq
    cases hq
   cases hl:oR l with
   |true=>
    rw[hl]at h h1
    simp only[cond_true]at h h1
    cases hm:oR m with
    |true=>
     rw[hm]at h h2
     simp only[cond_true,En]at h h2
     obtain⟨i1,i2⟩:=inv hl h.1.2 h1
     obtain⟨i3,i4⟩:=inv hm h.2 h2
     have bB:l.headD 0≠m.headD 0:=fun e=>by rw[e,X4]at h;exact absurd h.1.1 (by simp)
     omega
    |false=>
     rw[hm]at h h2
     simp only[cond_false,En]at h h2
     obtain⟨i1,i2⟩:=inv hl h.1.2 h1
     have h3:=Gs h.1.1
     exact old (by omega) (qqh h.2) h2
   |false=>
    rw[hl]at h h1
    simp only[cond_false,En]at h h1
    obtain⟨⟨⟨h3,h4⟩,h6⟩,h5⟩:=h
    rw[h3]at h2
    simp only[cond_true]at h2
    obtain⟨i3,i4⟩:=inv h3 h6 h2
    have h4:=Gs h4
    exact old (by omega) (qqh h5) h1
theorem V2 {F h r k}(H:HB h0 al F h r .take k):HB h0 al F h r .write k:=by
 obtain⟨b,cs,v,o,hb,hc,hv,hs,h4⟩:=H
 have br:b<h.length:=(Gy.1 hc).1
 refine⟨b,.cells (cs.set k (v,G0)),hb,by rw[hc];rfl,rfl,by rw[hs];exact BK br,fun h' h3 hh bw=>?_⟩
 rw[h4 h' cs (by rw[hh];exact hc) hv]
 obtain⟨_,s2⟩:=zD bw
 rw[s2]
theorem jjl {ca cb ka kb pN pO Fa Fb h ra rb}(zE:Fb h=I rb)(Hq:Fa rb.heap=I ra)(Hb:HB h0 pO Fb h rb cb kb)(Ha:HB h0 pN Fa rb.heap ra ca ka)
  (eg:cb=.read∨cb=.write∨cb=.take) (eu:ca=.read∨ca=.write∨ca=.take) (rN:Ez pO pN=Gq):
  ∃h1,Fa h=I (ra.at h1)∧Fb h1=I (rb.at ra.heap):=by
 have hat:∀r:bj,r.at r.heap=r:=fun _=>rfl
 have wb:(cb=.read∧HB h0 pO Fb h rb .read kb)∨HB h0 pO Fb h rb .write kb:=by
  rcases eg with rfl|rfl|rfl
  ·exact .inl ⟨rfl,Hb⟩
  ·exact .inr Hb
  ·exact .inr (V2 Hb)
 have wa:(ca=.read∧HB h0 pN Fa rb.heap ra .read ka)∨HB h0 pN Fa rb.heap ra .write ka:=by
  rcases eu with rfl|rfl|rfl
  ·exact .inl ⟨rfl,Ha⟩
  ·exact .inr Ha
  ·exact .inr (V2 Ha)
 rcases wb with⟨_,h1,h2⟩|⟨b,x,hb,_,_,hs,h2⟩
 ·rcases wa with⟨_,h3,h4⟩|⟨b',y,fN,_,_,hJ,h4⟩
  ·exact⟨h,h4 h (fun b _ _=>by rw[h1]),by rw[h3,hat];exact zE⟩
  ·rw[h1]at hJ
   obtain⟨s1,s2⟩:=zD hJ
   refine⟨ra.heap,by rw[hat,←Hq,h1],h2 _ (fun b hb _=>?_)⟩
   rw[s2,Gp (Ih (VZ rN hb fN))]
 ·obtain⟨s1,s2⟩:=zD hs
  rcases wa with⟨_,h3,h4⟩|⟨b',y,fN,_,_,hJ,h4⟩
  ·refine⟨h,h4 h (fun b' fN _=>?_),by rw[h3,hat];exact zE⟩
   rw[s2,Gp (VZ rN hb fN)]
  ·obtain⟨s3,s4⟩:=zD hJ
   have bB:=VZ rN hb fN
   rw[s2,J0]at s3
   refine⟨h.set b' y,h4 _ _ (by rw[s2,Gp bB]) (BK s3),h2 _ _ (by rw[Gp (Ih bB)]) ?_⟩
   rw[BK (by rw[J0];exact s1),s4,s2,Jp _ _ (Ih bB)]
def Mr (ca cb:Ba)(ka kb:Nat)(pN pO:Option (List Nat)):Prop:=
 (cb=.oi∧ca=.oi∧kb % 1000≠ka % 1000∧kb / 1000≠ka / 1000)∨(cb=.oi∧(ca=.read∨ca=.write∨ca=.take)∧pG pN=Gq)∨((cb=.read∨cb=.write∨cb=.take)∧ca=.oi∧pG pO=Gq)
theorem jwr {ca cb ka kb pN pO Fa Fb h ra rb}(zE:Fb h=I rb)(Hq:Fa rb.heap=I ra)(Hb:HB h0 pO Fb h rb cb kb)(Ha:HB h0 pN Fa rb.heap ra ca ka)
  (dN:Mr ca cb ka kb pN pO):∃h1,Fa h=I (ra.at h1)∧Fb h1=I (rb.at ra.heap):=by
 have hat:∀r:bj,r.at r.heap=r:=fun _=>rfl
 have Hr:∀ {c:Ba} {k:Nat} {al:Option (List Nat)} {F:qh→Option bj} {g:qh} {r:bj},HB h0 al F g r c k→(c=.read∨c=.write∨c=.take)→HB h0 al F g r .read k∨HB h0 al F g r .write k:=by
  intro c k al F g r H hc
  rcases hc with rfl|rfl|rfl
  ·exact .inl H
  ·exact .inr H
  ·exact .inr (V2 H)
 have nvs:∀ {x:bh} {z:Nat},VX x=I z→nV (I x)=G0:=fun {x z} h=>by cases x<;>first|rfl|cases h
 rcases dN with⟨rfl,rfl,n1,n2⟩|⟨rfl,eu,hs⟩|⟨eg,rfl,hs⟩
 ·obtain⟨q,x,y,hq,hy,hh,hx,hF⟩:=Hb
  obtain⟨q',x',y',Mj,rh,V3,eR,hF'⟩:=Ha
  have br:q<h.length:=(Gy.1 hy).1
  have bB:q≠q':=by
   intro he
   subst he
   rw[hh,J1 br]at rh
   cases rh
   rcases Mj with⟨_,rfl⟩|h4
   ·cases hx
   ·rw[hx]at h4;exact n2 (I.inj h4)
  rw[hh,Gp bB]at rh
  refine⟨h.set q' x',hF' h rh,?_⟩
  rw[hF _ (by rw[Gp (Ih bB)];exact hy),V3,hh,Jp _ _ bB]
 ·obtain⟨q,x,y,hq,hy,hh,hx,hF⟩:=Hb
  have br:q<h.length:=(Gy.1 hy).1
  -- the box that the append wrote is a vector now
  have dw:nV rb.heap[q]?=G0:=by rw[hh,J1 br];exact nvs hx
  rcases Hr Ha eu with⟨h3,h4⟩|⟨b,z,hb,hn,V4,hz,h4⟩
  ·refine⟨h,h4 h (fun b hb hn=>?_),by rw[h3,hat];exact zE⟩
   have bB:b≠q:=fun e=>by subst e;rw[hn hs]at dw;cases dw
   rw[hh,Gp (Ih bB)]
  ·have bB:b≠q:=fun e=>by subst e;rw[hn]at dw;cases dw
   obtain⟨s1,s2⟩:=zD hz
   rw[hh,J0]at s1
   refine⟨h.set b z,h4 _ _ (by rw[hh,Gp (Ih bB)]) (BK s1),?_⟩
   rw[hF _ (by rw[Gp bB];exact hy),s2,hh,Jp _ _ bB]
 ·obtain⟨q,x,y,hq,hy,hh,hx,hF⟩:=Ha
  have hold:nV (I y)=G0:=by
   rcases hq with⟨_,rfl⟩|h1
   ·rfl
   ·exact nvs h1
  rcases Hr Hb eg with⟨h3,h4⟩|⟨b,z,hb,hn,V4,hz,h4⟩
  ·rw[h3]at hy hh
   refine⟨h.set q x,hF h hy,?_⟩
   rw[h4 (h.set q x) (fun b hb hn=>by
    have bB:b≠q:=fun e=>by subst e;rw[hy]at hn;rw[hold]at hn;exact absurd (hn hs) (by simp)
    rw[Gp (Ih bB)]),hh]
  ·obtain⟨s1,s2⟩:=zD hz
   have bB:b≠q:=by
    intro e
    subst e
    rw[s2,J1 s1]at hy
    rw[I.inj hy,hold]at V4
    cases V4
   rw[s2,Gp bB]at hy
   refine⟨h.set q x,hF h hy,h4 _ _ (by rw[Gp (Ih bB)]) ?_⟩
   rw[BK (by rw[J0];exact s1),hh,s2,Jp _ _ (Ih bB)]
theorem jqg {ca cb ka kb pN pO Fa Fb h ra rb}(zE:Fb h=I rb)(Hq:Fa rb.heap=I ra)(Hb:HB h0 pO Fb h rb cb kb)(Ha:HB h0 pN Fa rb.heap ra ca ka)
  (dN:cb=.pure∨ca=.pure∨(cb=.read∧ca=.read)∨(cb=.alloc∧ca=.alloc∧kb≠ka)∨(cb=.alloc∧(ca=.read∨ca=.write∨ca=.take)∧nw pN kb=G0)∨((cb=.read∨cb=.write∨cb=.take)∧ca=.alloc∧nw pO ka=G0)∨(cb=.take∧ca=.take∧kb≠ka)):
  ∃h1,Fa h=I (ra.at h1)∧Fb h1=I (rb.at ra.heap):=by
 have hat:∀r:bj,r.at r.heap=r:=fun _=>rfl
 rcases dN with rfl|rfl|⟨rfl,rfl⟩|⟨rfl,rfl,bB⟩|⟨rfl,eu,oY⟩|⟨eg,rfl,oY⟩|⟨rfl,rfl,bB⟩
 ·obtain⟨h1,h2⟩:=Hb
  exact⟨ra.heap,by rw[hat,←Hq,h1],h2 _⟩
 ·obtain⟨h1,h2⟩:=Ha
  exact⟨h,h2 _,by rw[h1,hat];exact zE⟩
 ·obtain⟨h1,h2⟩:=Hb
  obtain⟨h3,h4⟩:=Ha
  exact⟨h,h4 h (fun b _ _=>by rw[h1]),by rw[h3,hat];exact zE⟩
 ·obtain⟨x,n1,n2⟩:=Hb
  obtain⟨y,n3,n4⟩:=Ha
  obtain⟨i1,i2⟩:=y8 n1
  obtain⟨i3,i4⟩:=y8 n3
  rw[i2,Gp (by omega)]at i3
  refine⟨h.set (h0+ka) y,n4 _ _ (EP i3),n2 _ _ ?_⟩
  rw[EP (by rw[Gp (by omega)];exact i1),i4,i2,Jp _ _ (by omega)]
 ·obtain⟨x,n1,n2⟩:=Hb
  obtain⟨i1,i2⟩:=y8 n1
  rcases eu with rfl|rfl|rfl
  ·obtain⟨h3,h4⟩:=Ha
   refine⟨h,h4 h (fun b hb _=>?_),by rw[h3,hat];exact zE⟩
   rw[i2,Gp (Ih (EQ hb oY))]
  ·obtain⟨b,y,hb,_,_,hs,h4⟩:=Ha
   obtain⟨s1,s2⟩:=zD hs
   have bB:=EQ hb oY
   rw[i2,J0]at s1
   refine⟨h.set b y,h4 _ _ (by rw[i2,Gp (Ih bB)]) (BK s1),n2 _ _ ?_⟩
   rw[EP (by rw[Gp bB];exact i1),s2,i2,Jp _ _ bB]
  ·obtain⟨b,cs,v,o,hb,hc,hv,hs,h4⟩:=Ha
   have bB:=EQ hb oY
   rw[i2,Gp (Ih bB)]at hc
   refine⟨_,h4 _ _ hc hv,n2 _ _ ?_⟩
   rw[EP (by rw[Gp bB];exact i1),hs,i2,Jp _ _ bB]
 ·obtain⟨y,n3,n4⟩:=Ha
  obtain⟨i3,i4⟩:=y8 n3
  rcases eg with rfl|rfl|rfl
  ·obtain⟨h1,h2⟩:=Hb
   refine⟨ra.heap,by rw[hat,←Hq,h1],h2 _ (fun b hb _=>?_)⟩
   rw[i4,h1,Gp (Ih (EQ hb oY))]
  ·obtain⟨b,x,hb,_,_,hs,h2⟩:=Hb
   obtain⟨s1,s2⟩:=zD hs
   have bB:=EQ hb oY
   rw[s2,Gp bB]at i3
   refine⟨h.set (h0+ka) y,n4 _ _ (EP i3),h2 _ _ (by rw[Gp (Ih bB)]) ?_⟩
   rw[BK (by rw[J0];exact s1),i4,s2,Jp _ _ (Ih bB)]
  ·obtain⟨b,cs,v,o,hb,hc,hv,hs,h2⟩:=Hb
   have bB:=EQ hb oY
   rw[hs,Gp bB]at i3
   refine⟨h.set (h0+ka) y,n4 _ _ (EP i3),?_⟩
   rw[h2 _ cs (by rw[Gp (Ih bB)];exact hc) hv,i4,hs,Jp _ _ (Ih bB)]
 ·obtain⟨b,cs,v,o,hb,hc,hv,hs,h2⟩:=Hb
  obtain⟨b',eK,v',o',fN,dU,vE,hJ,h4⟩:=Ha
  have br:b<h.length:=(Gy.1 hc).1
  by_cases ER:b'=b
  ·subst ER
   rw[hs,J1 br]at dU
   cases dU
   rw[Gp bB]at vE
   refine⟨h.set b' (.cells (cs.set ka (v',G0))),h4 h cs hc vE,?_⟩
   rw[h2 _ (cs.set ka (v',G0)) (by rw[J1 br]) (by rw[Gp (Ih bB)];exact hv),hJ,hs]
   simp only[List.set_set]
   rw[Jp _ _ bB]
  ·rw[hs,Gp (Ih ER)]at dU
   refine⟨h.set b' (.cells (eK.set ka (v',G0))),h4 h eK dU vE,?_⟩
   rw[h2 _ cs (by rw[Gp ER];exact hc) hv,hJ,hs,Jp _ _ ER]
end
section
variable {p:zb}{xc:XC}{h0:Nat}
def lY (p:zb)(xc:XC)(h0:Nat)(o:b8)(e:Env)(h:qh):Option bj:=
 match np e o.guard with
 |some Gq=>qf p xc h0 o.al e h o.op
 |some G0=>I ⟨.undef,G0,Ia,h⟩
 |none=>Ia
def pP (o:b8)(e:Env)(r:bj):Env:=og (yf e r.strip) o.dst r.v r.own
theorem ES (o:b8)(st:bf):yz p xc h0 o st=(lY p xc h0 o st.env st.heap).map fun r=>⟨pP o st.env r,r.heap⟩:=by
 unfold yz lY
 cases hg:np st.env o.guard with
 |none=>rfl
 |some b=>
  cases b with
  |false=>rfl
  |true=>
   simp only[]
   cases qf p xc h0 o.al st.env st.heap o.op<;>rfl
theorem q03 {e e' g}(h:Agree (match g with|some g=>[g.1]|none=>[]) e e'):np e g=np e' g:=by
 cases g with
 |none=>rfl
 |some g=>simp only[np,h g.1 (by simp)]
theorem V5 {o e e' h}(ha:Agree o.reads e e'):lY p xc h0 o e h=lY p xc h0 o e' h:=by
 have h1:Agree o.op.reads e e':=(Agree.app ha).1
 have h2:=(Agree.app ha).2
 simp only[lY,q03 h2,q6c h1]
theorem q69 {h0 r h v o res}(hs:qO h0 h r v o=I res):res.strip=Ia:=by
 unfold qO at hs
 simp only[J4,val]at hs
 repeat' split at hs
 all_goals first
  |(cases hs;done)
  |(cases hs;rfl)
theorem q1d {al e h op r}(hs:qf p xc h0 al e h op=I r){s}(hr:r.strip=I s):s∈op.fU:=by
 have own:∀ {x:jx},zu e x=I s→s∈zi x:=by
  intro x h
  obtain⟨rfl,_⟩:=Gx h
  simp[zi]
 have oy:∀ {x:AVal},val h x=I r→False:=fun hv=>by rw[qy hv]at hr;cases hr
 have BL:∀ {x:Option AVal},gK h x=I r→False:=fun hv=>by obtain⟨_,_,h1⟩:=vz hv;rw[h1]at hr;cases hr
 cases op with
 |take t=>
  simp only[qf,qo]at hs
  split at hs
  ·cases hs;simp at hr;simp[cU.fU,hr]
  ·cases hs
 |append rk sz b x y=>
  cases rk with
  |some rk=>
   simp only[qf,qp,J4]at hs
   repeat' split at hs
   all_goals first
    |(cases hs;done)
    |(cases hs;exact own hr)
  |none=>
   simp only[qf,qo,J4]at hs
   repeat' split at hs
   all_goals first
    |(cases hs;done)
    |(cases hs;exact own hr)
 |store n x y=>
  simp only[qf,qp,J4]at hs
  repeat' split at hs
  all_goals first
   |(cases hs;done)
   |exact(oy hs).elim
   |(rename_i ht _ _ _ _;cases hs;simp only[I.injEq]at hr;subst hr;exact own ht)
   |(unfold val at hs;cases hs;cases hr;done)
   |skip
 |cx rk sz b z n c=>
  cases rk with
  |some rk=>
   simp only[qf,qp,J4]at hs
   repeat' split at hs
   all_goals first
    |(cases hs;done)
    |exact(oy hs).elim
    |(unfold val at hs;cases hs;cases hr;done)
  |none=>
   simp only[qf,qo,J4]at hs
   repeat' split at hs
   all_goals first
    |(cases hs;done)
    |(cases hs;cases hr;done)
 |call md f l=>
  cases md<;>simp only[qf,yx,J4]at hs
  all_goals
   repeat' split at hs
  all_goals first
   |(cases hs;done)
   |exact(oy hs).elim
   |(cases hs;cases hr;done)
   |(rw[q69 hs]at hr;cases hr;done)
 |_=>
  simp only[qf,qo,ym,qp,J4]at hs
  repeat' split at hs
  all_goals first
   |(cases hs;done)
   |exact(oy hs).elim
   |exact(BL hs).elim
   |(cases hs;cases hr;done)
   |(unfold val at hs;cases hs;cases hr;done)
theorem qyf {o e h r}(hs:lY p xc h0 o e h=I r){s}(hr:r.strip=I s):s∈o.op.fU:=by
 unfold lY at hs
 split at hs
 ·exact q1d hs hr
 ·cases hs;cases hr
 ·cases hs
theorem ET {s x e}:jj s ((s,x)::e)=I x:=by
 simp only[jj,X4,cond_true]
theorem Ms {s t x e}(h:s≠t):jj s ((t,x)::e)=jj s e:=by
 have:Gz t s=G0:=by
  cases hb:Gz t s with
  |false=>rfl
  |true=>exact absurd (Gn hb).symm h
 simp only[jj,this,cond_false]
theorem V6 {s e x}(h:∀t,x=I t→s≠t):jj s (yf e x)=jj s e:=by
 cases x with
 |none=>rfl
 |some t=>
  simp only[yf]
  split
  ·exact Ms (h t rfl)
  ·rfl
theorem qte {s e e' x}(h:jj s e=jj s e'):jj s (yf e x)=jj s (yf e' x):=by
 cases x with
 |none=>exact h
 |some t=>
  by_cases ct:s=t
  ·subst ct
   simp only[yf]
   rw[←h]
   cases hl:jj s e with
   |none=>simp only[];rw[hl,←h,hl]
   |some y=>simp only[];rw[ET,ET]
  ·rw[V6 (fun u hu=>by cases hu;exact ct),V6 (fun u hu=>by cases hu;exact ct)]
   exact h
theorem V7 {s e d v o}(h:∀t,d=I t→s≠t):jj s (og e d v o)=jj s e:=by
 cases d with
 |none=>rfl
 |some t=>exact Ms (h t rfl)
theorem qyv {s e e' d v o}(h:jj s e=jj s e'):jj s (og e d v o)=jj s (og e' d v o):=by
 cases d with
 |none=>exact h
 |some t=>
  by_cases ct:s=t
  ·subst ct;simp only[og];rw[ET,ET]
  ·rw[V7 (fun u hu=>by cases hu;exact ct),V7 (fun u hu=>by cases hu;exact ct)];exact h
theorem V8 {o s e e' r}(h:jj s e=jj s e'):jj s (pP o e r)=jj s (pP o e' r):=qyv (qte h)
theorem EU {o s e r}(hr:∀t,r.strip=I t→t∈o.op.fU)(h:s ∉ o.writes):jj s (pP o e r)=jj s e:=by
 unfold pP
 rw[V7,V6]
 ·intro t ht ct
  exact h (Vn _ (ct▸hr t ht))
 ·intro t ht ct
  exact h (Vp _ (by rw[ht,ct];simp))
theorem jfl {o e r h}:pP o e (r.at h)=pP o e r:=rfl
def jR (a b:bf):Prop:=a.heap=b.heap∧∀s,jj s a.env=jj s b.env
theorem jR.refl (a:bf):jR a a:=⟨rfl,fun _=>rfl⟩
theorem jR.trans {a b c}(h:jR a b)(k:jR b c):jR a c:=⟨h.1.trans k.1,fun s=>(h.2 s).trans (k.2 s)⟩
theorem qy8 {o a b a'}(h:jR a b)(hs:yz p xc h0 o a=I a'):∃b',yz p xc h0 o b=I b'∧jR a' b':=by
 rw[ES]at hs
 obtain⟨r,hr,rfl⟩:=Gt.1 hs
 rw[V5 (e':=b.env) (fun s _=>h.2 s),h.1]at hr
 refine⟨⟨pP o b.env r,r.heap⟩,by rw[ES,hr];rfl,rfl,fun s=>V8 (h.2 s)⟩
theorem qxb:∀ {l:List b8} {a b a':bf},jR a b→gm p xc h0 l a=I a'→∃b',gm p xc h0 l b=I b'∧jR a' b'
 | [],a,b,a',h,hs=>by simp only[gm,I.injEq]at hs ⊢;subst hs;exact⟨b,rfl,h⟩
 |o::l,a,b,a',h,hs=>by
  simp only[gm]at hs
  split at hs
  ·rename_i a1 h1
   obtain⟨b1,k1,k2⟩:=qy8 h h1
   obtain⟨b',k3,k4⟩:=qxb k2 hs
   exact⟨b',by simp only[gm,k1,k3],k4⟩
  ·cases hs
theorem jgi {o e h r}(hs:lY p xc h0 o e h=I r):∃c k,HB h0 o.al (lY p xc h0 o e) h r c k∧(c=.pure∨(c=o.op.cl∧k=o.op.cZ)):=by
 unfold lY at hs
 cases hg:np e o.guard with
 |none=>rw[hg]at hs;cases hs
 |some b=>
  cases b with
  |false=>
   rw[hg]at hs
   cases hs
   exact⟨.pure,0,⟨rfl,fun h'=>by simp only[lY,hg];rfl⟩,.inl rfl⟩
  |true=>
   rw[hg]at hs
   have:=jgz hs
   have heq:(fun h=>qf p xc h0 o.al e h o.op)=lY p xc h0 o e:=by
    funext h;simp only[lY,hg]
   rw[heq]at this
   exact⟨_,_,this,.inr ⟨rfl,rfl⟩⟩
theorem jah {a b}(h:UK a b=Gq):a.op.cl=.pure∨b.op.cl=.pure∨a.op.cl=.fT∨b.op.cl=.fT∨(a.op.cl=.read∧b.op.cl=.read)∨(a.op.cl=.alloc∧b.op.cl=.alloc∧a.op.cZ≠b.op.cZ) ∨
  (a.op.cl=.alloc∧(b.op.cl=.read∨b.op.cl=.write∨b.op.cl=.take)∧nw b.al a.op.cZ=G0)∨((a.op.cl=.read∨a.op.cl=.write∨a.op.cl=.take)∧b.op.cl=.alloc∧nw a.al b.op.cZ=G0)∨(a.op.cl=.take∧b.op.cl=.take∧a.op.cZ≠b.op.cZ)∨((a.op.cl=.read∨a.op.cl=.write∨a.op.cl=.take)∧(b.op.cl=.read∨b.op.cl=.write∨b.op.cl=.take)∧Ez a.al b.al=Gq)∨Mr b.op.cl a.op.cl b.op.cZ a.op.cZ b.al a.al:=by
 unfold UK at h
 rw[Mx]at h
 rcases h with h|h
 ·simp only[En]at h
  obtain⟨⟨h1,h2⟩,h3⟩:=h
  have hb:∀ {c:Ba},c.box=Gq→c=.read∨c=.write∨c=.take:=fun {c} hc=>by cases c<;>first|(cases hc;done)|simp
  simp only[hb h1,hb h2,h3,and_self,or_true,true_or]
 unfold Mr
 cases ha:a.op.cl<;>cases hb:b.op.cl<;>simp_all
theorem V9 {a b}(h:Gj a b=Gq){s}(hs:s∈a):s ∉ b:=by
 unfold Gj at h
 rw[If]at h
 have:=h s hs
 simpa using this
theorem zhj {a b st s1 s2}(hm:Bb b a=Gq)(h1:yz p xc h0 b st=I s1)(h2:yz p xc h0 a s1=I s2):
  ∃t1 t2,yz p xc h0 a st=I t1∧yz p xc h0 b t1=I t2∧jR s2 t2:=by
 rw[ES]at h1
 obtain⟨rb,hb,rfl⟩:=Gt.1 h1
 rw[ES]at h2
 obtain⟨ra,ha,rfl⟩:=Gt.1 h2
 simp only[Bb,En]at hm
 obtain⟨⟨⟨hc,d1⟩,d2⟩,d3⟩:=hm
 have sb:∀t,rb.strip=I t→t∈b.op.fU:=fun t ht=>qyf hb ht
 have sa:∀t,ra.strip=I t→t∈a.op.fU:=fun t ht=>qyf ha ht
 -- the later one reads nothing that the earlier one writes
 have Mt:lY p xc h0 a st.env rb.heap=I ra:=by
  rw[←ha]
  refine V5 fun s hs=>(EU sb ?_).symm
  exact fun hw=>V9 d1 hw hs
 obtain⟨cb,kb,Hb,ob⟩:=jgi hb
 obtain⟨ca,ka,Ha,oa⟩:=jgi Mt
 have rN:((cb=.read∨cb=.write∨cb=.take)∧(ca=.read∨ca=.write∨ca=.take)∧Ez b.al a.al=Gq)∨(cb=.pure∨ca=.pure∨(cb=.read∧ca=.read)∨(cb=.alloc∧ca=.alloc∧kb≠ka)∨(cb=.alloc∧(ca=.read∨ca=.write∨ca=.take)∧nw a.al kb=G0)∨((cb=.read∨cb=.write∨cb=.take)∧ca=.alloc∧nw b.al ka=G0)∨(cb=.take∧ca=.take∧kb≠ka))∨Mr ca cb ka kb a.al b.al:=by
  rcases ob with rfl|⟨rfl,rfl⟩
  ·exact .inr (.inl (.inl rfl))
  rcases oa with rfl|⟨rfl,rfl⟩
  ·exact .inr (.inl (.inr (.inl rfl)))
  rcases jah hc with h|h|h|h|h|h|h|h|h|h|h
  ·exact .inr (.inl (.inl h))
  ·exact .inr (.inl (.inr (.inl h)))
  ·rw[h]at Hb;exact Hb.elim
  ·rw[h]at Ha;exact Ha.elim
  ·exact .inr (.inl (.inr (.inr (.inl h))))
  ·exact .inr (.inl (.inr (.inr (.inr (.inl h)))))
  ·exact .inr (.inl (.inr (.inr (.inr (.inr (.inl h))))))
  ·exact .inr (.inl (.inr (.inr (.inr (.inr (.inr (.inl h)))))))
  ·exact .inr (.inl (.inr (.inr (.inr (.inr (.inr (.inr h)))))))
  ·exact .inl h
  ·exact .inr (.inr h)
 have hsw:∃h1,lY p xc h0 a st.env st.heap=I (ra.at h1)∧lY p xc h0 b st.env h1=I (rb.at ra.heap):=by
  rcases rN with⟨q1,q2,q3⟩|dN|dN
  ·exact jjl hb Mt Hb Ha q1 q2 q3
  ·exact jqg hb Mt Hb Ha dN
  ·exact jwr hb Mt Hb Ha dN
 obtain⟨h3,k1,k2⟩:=hsw
 have k2':lY p xc h0 b (pP a st.env (ra.at h3)) h3=I (rb.at ra.heap):=by
  rw[←k2]
  refine V5 fun s hs=>EU (fun t ht=>sa t ht) ?_
  exact fun hw=>V9 d3 hw hs
 refine⟨⟨pP a st.env (ra.at h3),h3⟩,⟨pP b (pP a st.env (ra.at h3)) (rb.at ra.heap),ra.heap⟩,by rw[ES,k1];rfl,by rw[ES];simp only[k2'];rfl,rfl,fun s=>?_⟩
 simp only[jfl]
 by_cases hw:s∈a.writes
 ·have EL:s ∉ b.writes:=fun h=>V9 d2 h hw
  rw[EU sb EL]
  exact V8 (EU sb EL)
 ·rw[EU sa hw]
  exact V8 (EU sa hw).symm
theorem qva:∀ {l1 l2:List b8} {a:b8} {st s2:bf},(∀b∈l1,Bb b a=Gq)→gm p xc h0 (l1++a::l2) st=I s2 →
  ∃t1 t2,yz p xc h0 a st=I t1∧gm p xc h0 (l1++l2) t1=I t2∧jR s2 t2
 | [],l2,a,st,s2,_,hs=>by
  simp only[List.nil_append,gm]at hs
  split at hs
  ·rename_i t1 h1;exact⟨t1,s2,h1,hs,jR.refl _⟩
  ·cases hs
 |b::l1,l2,a,st,s2,hm,hs=>by
  simp only[Yg,gm]at hs
  split at hs
  ·rename_i s h1
   obtain⟨u1,u2,h2,h3,h4⟩:=qva (fun c hc=>hm c (by simp[hc])) hs
   obtain⟨t1,t2,h5,h6,h7⟩:=zhj (hm b (by simp)) h1 h2
   obtain⟨u3,h8,h9⟩:=qxb h7 h3
   exact⟨t1,u3,h5,by simp only[Yg,gm,h6,h8],h4.trans h9⟩
  ·cases hs
end
def dC (P:Program)(w0:World)(C0 C:aH)(nt:Nat)(st:bf)(a:Act)(w:World):Prop:=
 a.tmps.size=nt∧∃C' ω',C.le C'∧Marks C' w0.heap.size a.defers∧ax P C' ω' w0 C0 st.heap w∧ak C' ω' w w0.heap.size st.env a.tmps
structure Hs (P:Program)(nt:Nat)(ops:Array Oper)(o:Oper)(ao:b8):Prop where
 op:∃h md r,(cV P h md r o.dst o.op).getD .bad=ao.op
 guard:Ew ops o.guard=I ao.guard
 dst:ao.dst=ao.op.yO o.dst
 fits:∀d,o.dst=I d→d<nt
 vfits:∀d,ao.op.iq=I d→d<nt
 Ht:∀d,ao.op.iq=I d→o.dst=Ia∧o.guard=Ia
section
variable {P:Program}{p:zb}{xc:XC}{C C0:aH}{w0:World}{nt h0:Nat}{ops:Array Oper}{ρ:Option Nat}
theorem dC.eqv {st bV a w}(h:dC P w0 C0 C nt st a w)(he:jR st bV):dC P w0 C0 C nt bV a w:=by
 obtain⟨h1,C',ω',h3,h2,h4,h5⟩:=h
 exact⟨h1,C',ω',h3,h2,he.1▸h4,fun s x hx=>h5 s x (by rw[he.2 s];exact hx)⟩
theorem ak.putAt {ω w B d e tmps v u o}(he:ak C ω w B e tmps)(hd:d<tmps.size)(hr:bN C v u)(ho:o=Gq→aI C ω w B (.slot d) v u):ak C ω w B ((d,v,o)::e) (tmps.setIfInBounds d u):=by
 intro s x hx
 by_cases Wa:s=d
 ·subst Wa
  rw[ET]at hx
  cases hx
  exact⟨u,by simp[hd],hr,ho⟩
 ·rw[Ms Wa]at hx
  obtain⟨y,h1,h2,h3⟩:=he s x hx
  exact⟨y,by rw[St (Ih Wa)];exact h1,h2,h3⟩
theorem Mu {ao:b8}{st:bf}{a:Act}{w:World}{C1:aH}{ω1:Nat→Option Loc}{e:Env}{h:qh}{v:AVal}{u:Value}{own:Bool}{o:Oper}(hd:ao.dst=o.dst)(hf:∀d,o.dst=I d→d<nt)(hs:a.tmps.size=nt)(lb:Marks C1 w0.heap.size a.defers)(hle:C.le C1)(m:ax P C1 ω1 w0 C0 h w)(he:ak C1 ω1 w w0.heap.size e a.tmps)(hr:bN C1 v u)(ho:own=Gq→aI C1 ω1 w w0.heap.size (.slot (o.dst.getD 0)) v u):
  dC P w0 C0 C nt ⟨og e ao.dst v own,h⟩ (a.put o.dst u) w:=by
 rw[hd]
 cases Mv:o.dst with
 |none=>exact⟨hs,C1,ω1,hle,lb,m,he⟩
 |some d=>
  rw[Mv]at ho
  refine⟨by simpa[Act.put]using hs,C1,ω1,hle,lb,m,?_⟩
  exact he.putAt (hs▸hf d Mv) hr ho
theorem qz8 {o:Oper}{ao:b8}{e tmps ω w B b}(he:ak C ω w B e tmps)(hg:Ew ops o.guard=I ao.guard)(hb:np e ao.guard=I b):Region.wanted o (yielded ops tmps)=b:=by
 unfold Region.wanted
 cases hog:o.guard with
 |none=>
  rw[hog]at hg
  simp only[Ew,I.injEq]at hg
  rw[←hg]at hb
  simp only[np,I.injEq]at hb
  exact hb
 |some g=>
  obtain⟨j,want⟩:=g
  rw[hog]at hg
  simp only[Ew]at hg
  split at hg
  ·rename_i d hd
   have hgd:=I.inj hg
   rw[←hgd]at hb
   simp only[np]at hb
   split at hb
   ·rename_i c ow hl
    cases hb
    obtain⟨v,h1,h2,_⟩:=he d _ hl
    have:=h2.dx
    subst this
    simp only[yielded,hd,Yh,h1]
    cases c<;>cases want<;>rfl
   ·rename_i ow hl
    cases hb
    obtain⟨v,h1,h2,_⟩:=he d _ hl
    have hv:v=.tuple #[]:=by cases h2;rfl
    subst hv
    simp only[yielded,hd,Yh,h1]
    rfl
   ·cases hb
  ·cases hg
theorem q7u {h md r d op n s y}(Hu:∀t x z,op≠.store t x z):(cV P h md r d op).getD .bad≠.dV n s y:=by
 intro hc
 cases lf:cV P h md r d op with
 |none=>rw[lf]at hc;cases hc
 |some a=>
  rw[lf]at hc
  simp only[J9]at hc
  subst hc
  cases op<;>simp only[cV,cond_eq_ite]at lf<;>(try exact Hu _ _ _ rfl)<;>(repeat' split at lf)<;>(try split at lf)<;>(try contradiction)<;>(try simp at lf)<;>(try (split at lf<;>simp at lf))<;>(try (unfold LR at lf; (repeat' split at lf)<;>simp at lf))<;>(try (simp only[UI,Eu]at lf; (repeat' split at lf)<;>simp at lf))<;>(try (simp only[A7]at lf; (repeat' split at lf)<;>(try contradiction)<;>(try simp at lf)<;>(try (split at lf<;>simp at lf))))
theorem q8k (eE:bX P p)(hx:cM P xc){i:Nat}{o:Oper}{ao:b8}{st bV:bf}{a:Act}{w:World}{Q:Exit→Act→World→Prop}{K:Act→World→Prop}(hi:ops[i]?=I o)(hr:Hs P nt ops o ao)(hs:yz p xc h0 ao st=I bV)(ct:dC P w0 C0 C nt st a w)
  (hK:∀a' w',dC P w0 C0 C nt bV a' w'→K a' w'):wpOpIn (jF ρ) 0 P ops Q i K a w:=by
 obtain⟨db,C1,ω1,hle,lb,m,he⟩:=ct
 unfold wpOpIn
 rw[hi]
 simp only[]
 unfold yz at hs
 split at hs
 ·rename_i hg
  rw[qz8 he hr.guard hg]
  simp only[if_true]
  split at hs
  ·rename_i res eF
   cases hs
   obtain⟨h,md,r,hop⟩:=hr.op
   cases nF:ao.op.iq with
   |some sv=>
    -- the one write of a variable
    have BM:∃n y',ao.op=.dV n sv y':=by
     cases zF:ao.op<;>rw[zF]at nF<;>simp[cU.iq]at nF
     subst nF;exact⟨_,_,rfl⟩
    obtain⟨n,y',zF⟩:=BM
    have hdd:ao.dst=I sv:=by rw[hr.dst,zF];rfl
    rw[zF]at eF hop
    have ct:∃t x y,o.op=.store t x y∧js P t=I n∧qu x=I (.tmp sv)∧qu y=I y':=by
     cases hoo:o.op<;>rw[hoo]at hop
     case store t x y=>
      simp only[cV]at hop
      split at hop
      ·rename_i n' x' yy hn h1 h2
       simp only[J9]at hop
       cases lT:LS h x' with
       |none=>rw[lT]at hop;cases hop
       |some s'=>
        rw[lT]at hop
        simp only[cU.dV.injEq]at hop
        obtain⟨rfl,rfl,rfl⟩:=hop
        refine⟨t,x,y,rfl,hn,?_,h2⟩
        unfold LS at lT
        split at lT
        ·split at lT
         ·cases lT;exact h1
         ·cases lT
        ·cases lT
      ·cases hop
     all_goals exact absurd hop (q7u (by simp))
    obtain⟨t,x,y,ho,hn,h1,h2⟩:=ct
    simp only[qf,qo]at eF
    split at eF
    ·rename_i mm v hl e2
     cases hk:(Gz mm n&&Gz v.flat.length n&&v.flat.all qk)with
     |false=>rw[hk]at eF;cases eF
     |true=>
      rw[hk]at eF
      simp only[cond_true,val,I.injEq]at eF
      subst eF
      simp only[En]at hk
      obtain⟨⟨k1,k2⟩,k3⟩:=hk
      obtain rfl:=Gn k1
      obtain⟨w',C',ω',bE,cX,m',e'⟩:=jaa m he ho hn h1 h2 hl e2 (Gn k2) k3
      refine⟨fun _ _=>trivial,?_⟩
      rw[Oper.semAt_eq _ _ _ (fun c hc=>by rw[ho]at hc;cases hc),bE]
      have Mv:o.dst=Ia:=(hr.Ht sv nF).1
      refine hK _ _ ?_
      rw[Mv,hdd]
      exact⟨db,C',ω',aH.le_trans hle cX,lb.mono cX,m',e'⟩
    ·cases eF
   |none=>
   have rO:ao.dst=o.dst:=by rw[hr.dst];cases zF:ao.op<;>rw[zF]at nF<;>first|rfl|simp[cU.iq]at nF
   have bE:yj P C1 C0 w0 a (.slot (o.dst.getD 0)) st.env o w res:=by
    cases hc:cV P h md r o.dst o.op with
    |none=>rw[hc]at hop;simp only[Y0]at hop;rw[←hop]at eF;simp[qf,qo]at eF
    |some cP=>rw[hc]at hop;simp only[J9]at hop;subst hop;exact jtl eE hx m he nF hc eF
   have fin:∀v w',zq P C0 w0 C1 a.tmps (.slot (o.dst.getD 0)) st.env res v w'→K (a.put o.dst v) w':=by
    rintro v w' ⟨C2,ω2,h1,h2,h3,h4,h5⟩
    exact hK _ _ (Mu (st:=st) rO hr.fits db (lb.mono h1) (aH.le_trans hle h1) h2 h3 h4 h5)
   refine⟨fun _ _=>trivial,?_⟩
   rw[Oper.semAt_eq _ _ _ (fun c hc=>by
    rw[hc]at hop
    simp only[cV,Y0]at hop
    rw[←hop]at eF
    simp[qf,qo]at eF)]
   rcases bE with⟨v,w',h1,h2⟩|⟨w',h1,h2⟩|⟨f,args,h1,h2⟩|⟨l,f,tmps,assign,body,h1,h2⟩
   ·rw[h1];exact fin v w' h2
   ·rw[h1];exact fin undef w' h2
   ·rw[h1]
    refine⟨fun h=>by simp[jF,Fence.wide]at h,CallsIn.mono (qxv.2 h2) ?_⟩
    rintro e w' ⟨v,rfl,ia⟩
    exact fin v w' ia
   ·rw[h1]
    have oZ:RoundIn (jF ρ) 0 P l f tmps assign body w _:=h2
    refine⟨fun h=>by simp[jF,Fence.wide]at h,RoundIn.mono oZ ?_⟩
    rintro e w' ⟨v,rfl,ia⟩
    exact fin v w' ia
  ·cases hs
 ·rename_i hg
  cases hs
  rw[qz8 he hr.guard hg]
  simp only[G1,if_false]
  have rO:ao.dst=o.dst:=by
   cases nF:ao.op.iq with
   |none=>rw[hr.dst];cases zF:ao.op<;>rw[zF]at nF<;>first|rfl|simp[cU.iq]at nF
   |some sv=>
    have h1:=hr.guard
    rw[(hr.Ht sv nF).2]at h1
    simp only[Ew,I.injEq]at h1
    rw[←h1]at hg
    simp[np]at hg
  exact⟨fun _ _=>trivial,hK _ _ (Mu (st:=st) rO hr.fits db lb hle m he .undef (by simp))⟩
 ·cases hs
inductive lZ (P:Program)(nt:Nat)(ops:Array Oper):List Nat→List b8→Prop where
 |nil:lZ P nt ops [] []
 |cons {i:Nat} {o:Oper} {ao:b8} {l:List Nat} {lo:List b8} (hi:ops[i]?=I o) (h:Hs P nt ops o ao) (t:lZ P nt ops l lo):lZ P nt ops (i::l) (ao::lo)
theorem q8f (eE:bX P p)(hx:cM P xc){Q bV}(hQ:∀a' w',dC P w0 C0 C nt bV a' w'→Q .normal a' w'):∀ {l:List Nat} {lo:List b8} {st:bf} {a:Act} {w:World},lZ P nt ops l lo→gm p xc h0 lo st=I bV→dC P w0 C0 C nt st a w→wpOpsIn (jF ρ) 0 P ops Q l a w
 | [],_,st,a,w,.nil,hs,ct=>by
  simp only[gm,I.injEq]at hs
  subst hs
  exact hQ _ _ ct
 |i::l,_,st,a,w,.cons hi h t,hs,ct=>by
  simp only[gm]at hs
  split at hs
  ·rename_i s1 h1
   rw[wpOpsIn_cons]
   exact q8k eE hx hi h h1 ct fun a' w' iC=>q8f eE hx hQ t hs iC
  ·cases hs
theorem q0f {h id iG draw}:∀ {os:List Oper} {i:Nat} {rs Ey:List (Nat×Nat)} {l:List b8},Gi P h nt id ops iG draw os i rs=I (l,Ey)→(∀j,os[j]?=ops[i+j]?)→lZ P nt ops (List.range' i os.length) l
 | [],i,rs,Ey,l,hc,_=>by
  simp only[Gi,I.injEq,Vd.injEq]at hc
  rw[←hc.1];exact .nil
 |o::os,i,rs,Ey,l,hc,hos=>by
  simp only[Gi]at hc
  split at hc
  ·rename_i g hg
   split at hc
   ·rename_i cJ
    split at hc
    ·rename_i l1 rs1 Hv
     simp only[I.injEq,Vd.injEq]at hc
     rw[←hc.1]
     simp only[En]at cJ
     obtain⟨⟨hf1,hf2⟩,hf3⟩:=cJ
     refine .cons (o:=o) (by rw[←Nat.add_zero i,←hos 0];rfl) ⟨⟨h,jeb h id i,rs.length,rfl⟩,hg,rfl,fun d hd=>?_,fun d hd=>?_,fun d hd=>?_⟩ ?_
     ·rw[hd]at hf1
      simpa using hf1
     ·simp only at hd
      rw[hd]at hf2
      simpa using hf2
     ·simp only at hd
      rw[hd]at hf3
      simpa using hf3
     ·exact q0f Hv (fun j=>by rw[show i+1+j=i+(j+1)from by omega,←hos (j+1)];rfl)
    ·cases hc
   ·cases hc
  ·cases hc
theorem ax.holes {ω w hp}(m:ax P C ω w0 C0 hp w)(n:Nat):ax P C ω w0 C0 (hp++Y8 n .hole) w:=
 { m with
  lt:=fun b r hb=>⟨(m.lt b r hb).1,by rw[List.length_append];have:=(m.lt b r hb).2;omega⟩
  box:=fun b x r hx hb=>m.box b x r (by rw[List.getElem?_append_left (m.lt b r hb).2]at hx;exact hx) hb }
theorem q3q {l e s x}:jj s (qL e l)=I x→jj s e=I x:=by
 induction l with
 |nil=>simp[qL,jj]
 |cons t l ih=>
  intro h
  simp only[qL]at h
  split at h
  ·rename_i y hy
   by_cases ct:s=t
   ·subst ct;rw[ET]at h;rw[hy];exact h
   ·rw[Ms ct]at h;exact ih h
  ·exact ih h
theorem dC.keep {st a w k}(h:dC P w0 C0 C nt st a w):dC P w0 C0 C nt (A5 st k) a w:=by
 cases k with
 |none=>exact h
 |some l=>
  obtain⟨h1,C',ω',h3,h2,h4,h5⟩:=h
  exact⟨h1,C',ω',h3,h2,h4,fun s x hx=>h5 s x (q3q hx)⟩
theorem qsw {listed:Array Bool}{i j d}:(listed.setIfInBounds i Gq).getD j d=if i=j∧j<listed.size then Gq else listed.getD j d:=by
 simp only[Ic,Array.getElem?_setIfInBounds]
 by_cases lL:i=j
 ·subst lL
  by_cases hl:i<listed.size
  ·simp[hl]
  ·simp[hl]
 ·simp[lL]
theorem jR.Hw {a b}(h:jR a b):jR b a:=⟨h.1.symm,fun s=>(h.2 s).symm⟩
def pick (full:List b8)(l:List Nat):List b8:=l.map fun i=>full.getD i default
theorem lZ.get {l lo}(h:lZ P nt ops l lo):l.length=lo.length∧∀k i,l[k]?=I i→∃o,ops[i]?=I o∧Hs P nt ops o (lo.getD k default):=by
 induction h with
 |nil=>exact⟨rfl,by simp⟩
 |cons hi h t ih=>
  refine⟨by simp[ih.1],fun k i hk=>?_⟩
  cases k with
  |zero=>simp at hk;subst hk;exact⟨_,hi,h⟩
  |succ k=>simp at hk;obtain⟨o,h1,h2⟩:=ih.2 k i hk;exact⟨o,h1,by simpa using h2⟩
theorem jye {full:List b8}{iG:Array Nat}(eE:bX P p)(hx:cM P xc){Q bV}(hQ:∀a' w',dC P w0 C0 C nt bV a' w'→Q .normal a' w')
  (rP:∀i o,ops[i]?=I o→Hs P nt ops o (full.getD i default)) (Hx:∀i j,i<j→j<ops.size→(iG.getD j 0).testBit i=G0→Bb (full.getD i default) (full.getD j default)=Gq)
  (Wb:∀j o i,ops[j]?=I o→i<ops.size→(iG.getD j 0).testBit i=Gq→∃e∈o.after,Region.binds .any e=Gq∧(e.on=i∨(iG.getD e.on 0).testBit i=Gq))
  (Hy:∀i o,ops[i]?=I o→∀e∈o.after,Region.binds .any e=Gq→e.on<i):
  ∀(fuel:Nat) (listed:Array Bool) (l:List Nat) (st s2:bf) (a:Act) (w:World),listed.size=ops.size→l.Pairwise (· < ·)→(∀i,i∈l↔i<ops.size∧listed.getD i Gq=G0)→l.length≤fuel →
   (∀k i,i<ops.size→listed.getD k G0=Gq→(iG.getD k 0).testBit i=Gq→listed.getD i G0=Gq)→gm p xc h0 (pick full l) st=I s2→jR s2 bV→dC P w0 C0 C nt st a w→wpAnyIn (jF ρ) 0 P .any ops Q fuel listed a w:=by
 intro fuel
 induction fuel with
 |zero=>
  intro listed l st s2 a w db gw cR hlen lg hs heq ct
  have hl:l=[]:=Vk.1 (by omega)
  subst hl
  simp only[pick,Zk,gm,I.injEq]at hs
  subst hs
  refine⟨?_,hQ _ _ (ct.eqv heq)⟩
  cases hr:Region.ready .any ops listed with
  |nil=>rfl
  |cons i rs=>
   have hi:i∈Region.ready .any ops listed:=by rw[hr];simp
   obtain⟨h1,o,ho,_⟩:=mem_ready.1 hi
   have:=(cR i).2 ⟨(Gv.1 ho).1,h1⟩
   cases this
 |succ fuel ih=>
  intro listed l st s2 a w db gw cR hlen lg hs heq ct
  refine⟨fun hr=>?_,fun i hi=>?_⟩
  ·cases l with
   |nil=>
    simp only[pick,Zk,gm,I.injEq]at hs
    subst hs
    exact hQ _ _ (ct.eqv heq)
   |cons i l=>
    exfalso
    obtain⟨h1,h2⟩:=(cR i).1 (by simp)
    have hi:i∈Region.ready .any ops listed:=by
     refine mem_ready.2 ⟨h2,ops[i],J8 h1,fun e he hb=>?_⟩
     have br:=Hy i _ (J8 h1) e he hb
     have bB:e.on ∉ i::l:=fun hm=>by
      rcases Vg.1 hm with h|h
      ·omega
      ·have:=(X3.1 gw).1 _ h;omega
     have h3:¬(listed.getD e.on Gq=G0):=fun h=>bB ((cR e.on).2 ⟨by omega,h⟩)
     have rQ:e.on<listed.size:=by omega
     simp only[Ic,J8 rQ,J9]at h3 ⊢
     simpa using h3
    rw[hr]at hi
    cases hi
  ·obtain⟨h1,o,ho,hall⟩:=mem_ready.1 hi
   have br:=(Gv.1 ho).1
   have him:i∈l:=(cR i).2 ⟨br,h1⟩
   obtain⟨l1,l2,rfl⟩:=List.append_of_mem him
   have Wc:∀k,k∈l1++i::l2→listed.getD k G0=Gq→False:=fun k hk hl=>by
    obtain⟨k1,k2⟩:=(cR k).1 hk
    have rQ:k<listed.size:=by omega
    simp only[Ic,J8 rQ,J9]at hl k2
    rw[hl]at k2;cases k2
   have hbi:∀k,k<ops.size→(iG.getD i 0).testBit k=Gq→listed.getD k G0=Gq:=fun k hk hb=>by
    obtain⟨e,he,kC,h2|h2⟩:=Wb i o k ho hk hb
    ·rw[←h2];exact hall e he kC
    ·exact lg e.on k hk (hall e he kC) h2
   have hm:∀b∈pick full l1,Bb b (full.getD i default)=Gq:=by
    intro b hb
    obtain⟨k,hk,rfl⟩:=Zj.1 hb
    have BN:k<i:=(Vu.1 gw).2.2 k hk i (by simp)
    refine Hx k i BN br ?_
    cases Wd:(iG.getD i 0).testBit k with
    |false=>rfl
    |true=>exact(Wc k (by simp[hk]) (hbi k (by omega) Wd)).elim
   have Wf:pick full (l1++i::l2)=pick full l1++full.getD i default::pick full l2:=by simp[pick]
   rw[Wf]at hs
   obtain⟨t1,t2,g1,g2,g3⟩:=qva hm hs
   refine q8k eE hx ho (rP i o ho) g1 ct fun a' w' iC=>?_
   refine ih (listed.setIfInBounds i Gq) (l1++l2) t1 t2 a' w' (by simpa using db) ?_ ?_ ?_ ?_ (by rw[show pick full (l1++l2)=pick full l1++pick full l2 from by simp[pick]];exact g2) (jR.trans (jR.Hw g3) heq) iC
   ·exact gw.sublist (Zl.append (Zl.refl _) (List.sublist_cons_self _ _))
   ·intro k
    rw[qsw]
    have Hz:i ∉ l1∧i ∉ l2:=by
     have h:=Vu.1 gw
     refine⟨fun hi1=>?_,fun hi2=>?_⟩
     ·have:=h.2.2 i hi1 i (by simp);omega
     ·have:=(X3.1 h.2.1).1 i hi2;omega
    constructor
    ·intro hk
     have BN:k≠i:=fun h=>by
      subst h
      rcases U6.1 hk with h|h
      ·exact Hz.1 h
      ·exact Hz.2 h
     have:=(cR k).1 (by rcases U6.1 hk with h|h<;>simp[h])
     rw[if_neg (by omega)]
     exact this
    ·rintro ⟨k1,k2⟩
     split at k2
     ·cases k2
     ·rename_i bB
      have BN:k≠i:=fun h=>bB ⟨h.symm,by omega⟩
      have:=(cR k).2 ⟨k1,k2⟩
      rcases U6.1 this with h|h
      ·simp[h]
      ·rcases Vg.1 h with h|h
       ·exact absurd h BN
       ·simp[h]
   ·simp at hlen ⊢;omega
   ·intro k j hj hk hb
    rw[qsw]at hk ⊢
    split
    ·rfl
    ·split at hk
     ·rename_i rR
      rw[←rR.1]at hb
      exact hbi j hj hb
     ·exact lg k j hj hk hb
theorem q7i {iG l}(h:UL iG l=Gq){i j}(lL:i<j)(hj:j<l.length)(hb:(iG.getD j 0).testBit i=G0):Bb (l.getD i default) (l.getD j default)=Gq:=by
 unfold UL at h
 rw[If]at h
 have h1:=h (l[j],j) (J7.2 (by simp[hj]))
 simp only[]at h1
 rw[If]at h1
 have h2:=h1 (l[i]'(by omega),i) (J7.2 (by simp))
 simp only[lL,hb,decide_true,Xn,U2]at h2
 simp only[List.getD_eq_getElem?_getD,J5 hj,J5 (show i<l.length by omega),J9]
 exact h2
theorem jb9 {iG}(h:UN iG ops=Gq){j i o}(ho:ops[j]?=I o)(hi:i<ops.size)(hb:(iG.getD j 0).testBit i=Gq):∃e∈o.after,Region.binds .any e=Gq∧(e.on=i∨(iG.getD e.on 0).testBit i=Gq):=by
 unfold UN at h
 rw[If]at h
 have h1:=h (o,j) (J7.2 (by simpa using ho))
 simp only[]at h1
 rw[If]at h1
 have h2:=h1 i (Zd.2 hi)
 rw[hb]at h2
 simp only[Xn,U2,Array.any_eq_true']at h2
 obtain⟨e,he,h3⟩:=h2
 simp only[En,Mx,beq_iff_eq]at h3
 exact⟨e,he,h3.1,h3.2⟩
theorem q6j (h:UM ops=Gq){i o}(ho:ops[i]?=I o):∀e∈o.after,Region.binds .any e=Gq→e.on<i:=by
 intro e he hb
 unfold UM at h
 rw[If]at h
 have h1:=h (o,i) (J7.2 (by simpa using ho))
 simp only[Array.all_eq_true']at h1
 have:=h1 e he
 simpa[hb]using this
theorem je9 (eE:bX P p)(hx:cM P xc){id:Nat}{draw:Bool}{ca h na l keep}(hc:Gk P h nt id ops draw=I ca)(eu:ca=.region na l keep){st bV x}(hs:nq p xc na l keep st=I (x,bV)){ω a w}
  (m:ax P C ω w0 C0 st.heap w) (he:ak C ω w w0.heap.size st.env a.tmps) (db:a.tmps.size=nt) (lb:Marks C w0.heap.size a.defers):
  (Code.region id ops draw).wpIn (jF ρ) 0 P (fun e a' w'=>e=Bz x∧dC P w0 C0 C nt bV a' w') a w:=by
 subst eu
 unfold Gk at hc
 split at hc
 ·rename_i l' rs hl
  split at hc
  ·rename_i hd
   simp only[I.injEq,au.region.injEq]at hc
   obtain⟨rfl,rfl,ot⟩:=hc
   unfold nq at hs
   split at hs
   ·rename_i s1 h1
    cases hs
    have zG:lZ P nt ops (List.range' 0 ops.size) l':=by
     have:=q0f hl (ops:=ops) (fun j=>by simp)
     simpa using this
    have hQ:∀a' w',dC P w0 C0 C nt s1 a' w'→(fun e a' w'=>e=Bz .normal∧dC P w0 C0 C nt (A5 s1 keep) a' w') Exit.normal a' w':=fun a' w' ct=>⟨rfl,ct.keep⟩
    cases draw with
    |false=>
     refine wpIn_region ?_
     rw[List.range_eq_range']
     exact q8f eE hx hQ zG h1 ⟨db,C,ω,aH.le_refl C,lb,m.holes _,he⟩
    |true=>
     simp only[Xn,U2,En]at hd
     obtain⟨⟨d1,d2⟩,d3⟩:=hd
     refine wpIn_region_any eE.mixed ?_
     obtain⟨hlen,Wg⟩:=zG.get
     have hlen':l'.length=ops.size:=by rw[←hlen];simp
     have rP:∀i o,ops[i]?=I o→Hs P nt ops o (l'.getD i default):=by
      intro i o ho
      have hi:=(Gv.1 ho).1
      obtain⟨o',h2,h3⟩:=Wg i i (by rw[List.getElem?_range' hi];simp)
      rw[ho]at h2;cases h2;exact h3
     have Wf:pick l' (List.range ops.size)=l':=by
      apply Vh
      intro k
      simp only[pick,N9]
      by_cases hk:k<ops.size
      ·rw[List.getElem?_range hk]
       simp[J5 (show k<l'.length by omega)]
      ·rw[Vo (by simpa using hk),Vo (by omega)];rfl
     refine jye (iG:=Region.before ops) (full:=l') eE hx hQ rP (fun i j h2 h3 h4=>q7i d1 h2 (by omega) h4) (fun j o i h2 h3 h4=>jb9 d3 h2 h3 h4) (fun i o h2=>q6j d2 h2) ops.size _ (List.range ops.size) ⟨st.env,st.heap++Y8 rs.length .hole⟩ s1 a _ (by simp) List.pairwise_lt_range ?_ (by simp) ?_ (by rw[Wf];exact h1) (jR.refl _) ⟨db,C,ω,aH.le_refl C,lb,(m.holes _).ext (Ext.drew w),he.ext (Ext.drew w)⟩
     ·intro i
      simp only[Zd,Ic,Vi]
      constructor
      ·intro hi;exact⟨hi,by simp[hi]⟩
      ·exact fun hi=>hi.1
     ·intro k i hi hk
      simp only[Ic,Vi]at hk
      split at hk<;>simp at hk
   ·cases hs
  ·cases hc
 ·cases hc
end
end Go.Abs
