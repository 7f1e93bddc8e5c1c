/- Each operation by itself, third part. -/
import Derived.Test.YtimdocpnkimlfaaGreatDoorAbsC
import Derived.RangeFuncLeaves
import Derived.OrdersIn
set_option linter.unusedVariables false
set_option linter.unusedSimpArgs false
open Option renaming some→I,map_eq_some_iff→Gt,none→G2,getD_some→Jo,isSome_none→Ld,isNone_some→Ya,bind_some→Yu,getD_none→Eaa,map→Eal
open Bool renaming and_eq_true→En,true→Gp,false→Gy,false_eq_true→Gz,cond_eq_ite→Je,or_eq_true→L9,false_or→Qe,not_true→X2,xor→Eak
open Nat renaming eq_of_beq_eq_true→Es,le_of_ble_eq_true→Gs,beq→Gx,blt→G3,blt_eq→G5,ble→G7,le_trans→Jd,lt_of_lt_of_le→Le,zero_add→Qr,beq_refl→Yc
open List renaming getElem?_set_ne→E9,getElem?_eq_some_iff→Gv,all_eq_true→G6,set_comm→Ie,length_set→If,getElem?_set_self→Jc,getElem?_eq_getElem→Jf,mem_of_getElem?→Jg,mem_zipIdx_iff_getElem?→Jj,getElem?_map→Nk,length_take→Nn,mem_append→Qn,getElem?_set→Qt,mem_cons→R0,ext_getElem?→St,isEmpty_iff→S5,length_eq_zero_iff→S6,length_map→T6,mem_append_right→T7,getElem?_eq_none→Xw,mem_append_left→Xx,pairwise_append→Xy,zip_cons_cons→X9,pairwise_cons→Yb,flatMap_cons→Ye,length_drop→Yq,cons_append→Yr,foldl_cons→Eac,replicate→Ead,mem_range→Eae,all_cons→Eaf,map_cons→Eag,mem_map→Eah,map_nil→Eai,Sublist→Eaj
open Array renaming getElem?_eq_some_iff→Gu,getD_eq_getD_getElem?→G4,getElem?_eq_getElem→Jn,getElem?_setIfInBounds_ne→Np,getElem?_replicate→S4,ext'→Xz,replicate→Eab
open Ne renaming symm→H9
open Prod renaming mk→Qw
namespace Go.Abs
section
variable {P:Program}{p:jz}{xc:XC}{C C0:aK}{ω:Nat→Option Loc}{w w0:World}{hp:qh}{env:Env}{a:Act}{o:Oper}{d:Loc}{h:qk}{md:ep}{r h0:Nat}{dst:Option Nat}{al:Option (List Nat)}{cP:cU}{res:bm}
theorem jc3 (m:az P C ω w0 C0 hp w)(e:ak C ω w w0.heap.size env a.tmps){t:TypeId}{ps}(ho:o.op=.build t ps)(hc:cV P h md r dst (.build t ps)=I cP)(hs:qf p xc h0 al env hp cP=I res):yd P C C0 w0 a d env o w res:=by
 simp only[cV]at hc
 split at hc
 ·rename_i fs z ht hz
  split at hc
  ·rename_i hall
   obtain⟨fR,mI,rfl⟩:=Gt.1 hc
   simp only[qf,qo]at hs
   split at hs
   ·rename_i qs hq
    split at hs
    ·rename_i cs hf
     obtain rfl:=qy hs
     exact jh m e (qu6 e.ct ho ht hz (fun f hf=>G6.1 hall f hf) mI hq hf)
    ·cases hs
   ·cases hs
  ·cases hc
 ·rename_i len el z ht hz
  split at hc
  ·rename_i n hn
   obtain⟨fR,mI,rfl⟩:=Gt.1 hc
   simp only[qf,qo]at hs
   split at hs
   ·rename_i qs hq
    split at hs
    ·rename_i cs hf
     obtain rfl:=qy hs
     exact jh m e (qx9 e.ct ho ht hz hn mI hq hf)
    ·cases hs
   ·cases hs
  ·cases hc
 ·cases hc
theorem qy1 (m:az P C ω w0 C0 hp w)(e:ak C ω w w0.heap.size env a.tmps){t:TypeId}{n ps}(ho:o.op=.buildSlice t n ps)(hc:cV P h md r dst (.buildSlice t n ps)=I cP)(hs:qf p xc h0 al env hp cP=I res):yd P C C0 w0 a d env o w res:=by
 simp only[cV]at hc
 split at hc
 ·rename_i el ht
  split at hc
  ·rename_i sz z ag es hn hz dk mI
   split at hc
   ·rename_i hb
    cases hc
    simp only[En,decide_eq_true_eq,beq_iff_eq]at hb
    generalize (dst.map (h.vec.contains ·)).getD Gy=bb at hs
    cases bb with
    |true=>
     simp only[if_true,qf,qp]at hs
     split at hs
     ·rename_i qs hq
      split at hs
      ·rename_i xs hx
       cases Az:qw 0 xs with
       |false=>rw[Az]at hs;cases hs
       |true=>
        rw[Az]at hs
        simp only[cond_true]at hs
        split at hs
        ·rename_i h' dr
         obtain rfl:=qy hs
         exact .inl (jg3 m e ho ht hn hz hb.1.1.1.1 hb.1.1.1.2 hb.1.1.2 mI hq hx Az dr)
        ·cases hs
      ·cases hs
     ·cases hs
    |false=>
    simp only[Gz,if_false,qf,qo]at hs
    split at hs
    ·rename_i qs hq
     split at hs
     ·rename_i xs hx
      cases hs
      exact .inl (qxs m e ho ht hn hz hb.1.1.1.1 hb.1.1.1.2 hb.1.1.2 mI hq hx)
     ·cases hs
    ·cases hs
   ·cases hc
  ·cases hc
 ·cases hc
theorem q0i (m:az P C ω w0 C0 hp w)(e:ak C ω w w0.heap.size env a.tmps){t:TypeId}{x y}(ho:o.op=.makeSlice t x y)(hc:cV P h md r dst (.makeSlice t x y)=I cP)(hs:qf p xc h0 al env hp cP=I res):yd P C C0 w0 a d env o w res:=by
 simp only[cV]at hc
 split at hc
 ·rename_i el ht
  split at hc
  ·rename_i sz b z ag x' y' hn hb hz dk h1 h2
   split at hc
   ·cases hc
    generalize hR:(if(Eal (fun x=>h.bU.contains x) dst).getD Gy=Gp then I r else G2)=R at hs
    cases R with
    |some rr=>
     simp only[qf,qp]at hs
     split at hs
     ·rename_i n c e1 e2
      cases hk:(Gx n c&&G7 n 1073741824&&G7 b 4096&&Gx z.length sz&&G3 0 sz&&z.all ql)with
      |false=>simp[hk]at hs
      |true=>
       simp only[hk,cond_true]at hs
       split at hs
       ·rename_i h' dr
        obtain rfl:=qy hs
        simp only[En]at hk
        obtain⟨⟨⟨⟨⟨k1,k2⟩,k3⟩,k4⟩,k5⟩,k6⟩:=hk
        obtain rfl:=Es k1
        exact .inl (qx0 m e ho ht hn hb hz (G5.mp k5) (Es k4) h1 h2 e1 e2 (Gs k2) (Gs k3) dr)
       ·cases hs
     ·cases hs
    |none=>
     simp only[qf,qo]at hs
     split at hs
     ·rename_i n c e1 e2
      cases hk:(Gx n c&&G7 n 1073741824&&G7 b 4096&&Gx z.length sz&&G3 0 sz&&z.all ql)with
      |false=>simp[hk]at hs
      |true=>
       simp only[hk,cond_true]at hs
       cases hs
       simp only[En]at hk
       obtain⟨⟨⟨⟨⟨k1,k2⟩,k3⟩,k4⟩,k5⟩,k6⟩:=hk
       obtain rfl:=Es k1
       exact .inl (q6z m e ho ht hn hb hz (G5.mp k5) (Es k4) h1 h2 e1 e2 (Gs k2) (Gs k3))
     ·cases hs
   ·cases hc
  ·cases hc
 ·cases hc
theorem jd2 (m:az P C ω w0 C0 hp w)(e:ak C ω w w0.heap.size env a.tmps){t:TypeId}{x lo hi mx}(ho:o.op=.slice t x lo hi mx)(hc:cV P h md r dst (.slice t x lo hi mx)=I cP)(hs:qf p xc h0 al env hp cP=I res):yd P C C0 w0 a d env o w res:=by
 cases mx with
 |some _=>simp[cV]at hc
 |none=>
  simp only[cV]at hc
  split at hc
  ·rename_i x' lL fY h1 h2 h3
   split at hc
   ·rename_i ht
    cases hc
    simp only[qf,qo]at hs
    split at hs
    ·rename_i s hv
     split at hs
     ·rename_i j hj
      split at hs
      ·rename_i i fY
       obtain rfl:=qy hs
       exact jh m e (q16 e.ct ho ht h1 h2 h3 hv hj fY)
      ·cases hs
     ·cases hs
    ·cases hs
   ·rename_i el ht
    obtain⟨sz,hn,rfl⟩:=Gt.1 hc
    simp only[qf,qo]at hs
    split at hs
    ·rename_i n dj xs hv
     cases hk:(Gx sz dj||xs.isEmpty)with
     |false=>simp[hk]at hs
     |true=>
      simp only[hk,cond_true]at hs
      split at hs
      ·rename_i j hj
       split at hs
       ·rename_i i fY
        obtain rfl:=qy hs
        refine jh m e (qzt e.ct ho ht hn h1 h2 h3 hv (.inr ⟨n,dj,xs,rfl,?_,hj,fY,rfl⟩))
        rcases L9 _ _▸hk with hk|hk
        ·exact .inl (Es hk)
        ·exact .inr (S5.1 hk)
       ·cases hs
      ·cases hs
    ·rename_i b q len hv
     split at hs
     ·rename_i j hj
      split at hs
      ·rename_i i fY
       cases hk:(Gx i 0||G3 i j)with
       |false=>simp[hk]at hs
       |true=>
        simp only[hk,cond_true]at hs
        obtain rfl:=qy hs
        refine jh m e (qzt e.ct ho ht hn h1 h2 h3 hv (.inl ⟨b,q,len,rfl,hj,fY,?_,rfl⟩))
        rcases L9 _ _▸hk with hk|hk
        ·exact .inl (Es hk)
        ·exact .inr (G5.mp hk)
      ·cases hs
     ·cases hs
    ·rename_i b bN len hv
     split at hs
     ·rename_i j hj
      split at hs
      ·rename_i i fY
       cases hk:Gx i 0 with
       |false=>simp[hk]at hs
       |true=>
        simp only[hk,cond_true]at hs
        obtain rfl:=qy hs
        obtain rfl:=Es hk
        exact jh m e (q9z e.ct ho ht hn h1 h2 h3 hv hj fY)
      ·cases hs
     ·cases hs
    ·cases hs
   ·rename_i n el ht
    obtain⟨sz,hn,rfl⟩:=Gt.1 hc
    simp only[qf,qo]at hs
    split at hs
    ·rename_i b q hv
     split at hs
     ·rename_i j hj
      split at hs
      ·rename_i i fY
       cases hk:(Gx i 0||G3 i j)with
       |false=>simp[hk]at hs
       |true=>
        simp only[hk,cond_true]at hs
        obtain rfl:=qy hs
        refine jh m e (q4k e.ct ho ht hn h1 h2 h3 hv hj fY ?_)
        rcases L9 _ _▸hk with hk|hk
        ·exact .inl (Es hk)
        ·exact .inr (G5.mp hk)
      ·cases hs
     ·cases hs
    ·cases hs
   ·cases hc
  ·cases hc
theorem q0h (m:az P C ω w0 C0 hp w)(e:ak C ω w w0.heap.size env a.tmps){t:TypeId}{x i}(ho:o.op=.fieldAddr t x i)(hc:cV P h md r dst (.fieldAddr t x i)=I cP)(hs:qf p xc h0 al env hp cP=I res):yd P C C0 w0 a d env o w res:=by
 simp only[cV]at hc
 split at hc
 ·rename_i fs ht
  split at hc
  ·rename_i f hf
   split at hc
   ·rename_i ag n x' dk hn h1
    split at hc
    ·rename_i hb
     cases hc
     simp only[En,decide_eq_true_eq]at hb
     simp only[qf,qo]at hs
     split at hs
     ·rename_i b q hv
      obtain rfl:=qy hs
      exact jh m e (qod (ag:=ag) e.ct ho ht hf hn hb.1 h1 hv (.inl ⟨b,q,rfl,rfl⟩))
     ·rename_i cs hv
      split at hs
      ·rename_i z hz
       cases hk:Eak ag z.isAgg with
       |true=>simp[hk]at hs
       |false=>
        simp only[hk,cond_false]at hs
        obtain rfl:=qy hs
        exact jh m e (qod e.ct ho ht hf hn hb.1 h1 hv (.inr ⟨cs,z,rfl,hz,hk,rfl⟩))
      ·cases hs
     ·rename_i b bN q hv
      obtain rfl:=qy hs
      exact jh m e (qx6 e.ct ho ht hf hn hb.1 h1 hv)
     ·cases hs
    ·cases hc
   ·cases hc
  ·cases hc
 ·cases hc
theorem jet (m:az P C ω w0 C0 hp w)(e:ak C ω w w0.heap.size env a.tmps){t:TypeId}{x i}(ho:o.op=.field t x i)(hc:cV P h md r dst (.field t x i)=I cP)(hs:qf p xc h0 al env hp cP=I res):yd P C C0 w0 a d env o w res:=by
 simp only[cV]at hc
 split at hc
 ·rename_i fs ht
  split at hc
  ·rename_i f hf
   split at hc
   ·rename_i ag n x' dk hn h1
    cases hc
    simp only[qf,qo]at hs
    split at hs
    ·rename_i cs hv
     obtain⟨z,hz,rfl⟩:=uU hs
     exact jh m e (jcc e.ct ho ht hf dk hn h1 hv hz)
    ·cases hs
   ·cases hc
  ·cases hc
 ·cases hc
theorem q0d (m:az P C ω w0 C0 hp w)(e:ak C ω w w0.heap.size env a.tmps){t:TypeId}{x i}(ho:o.op=.indexAddr t x i)(hc:cV P h md r dst (.indexAddr t x i)=I cP)(hs:qf p xc h0 al env hp cP=I res):yd P C C0 w0 a d env o w res:=by
 simp only[cV]at hc
 split at hc
 ·rename_i x' i' h1 h2
  split at hc
  ·rename_i el ht
   split at hc
   ·rename_i sz hn
    split at hc
    ·cases hc
     simp only[qf,qo]at hs
     split at hs
     ·rename_i nl dj xs iv hv hi
      cases hk:(Gx sz dj||xs.isEmpty)with
      |false=>simp[hk]at hs
      |true=>
       simp only[hk,cond_true]at hs
       split at hs
       ·rename_i j hj
        split at hs
        ·rename_i z hz
         obtain rfl:=qy hs
         have bL:xs.isEmpty=Gy:=by
          have:=(Gv.1 hz).1
          cases xs with
          |nil=>simp at this
          |cons _ _=>rfl
         rw[bL,Bool.or_false]at hk
         obtain rfl:=Es hk
         exact jh m e (qob e.ct ho ht hn h1 h2 hv hi (.inr ⟨nl,xs,z,j,rfl,hj,hz,rfl⟩))
        ·cases hs
       ·cases hs
     ·rename_i b q len iv hv hi
      split at hs
      ·rename_i j hj
       obtain rfl:=qy hs
       exact jh m e (qob e.ct ho ht hn h1 h2 hv hi (.inl ⟨b,q,len,j,rfl,hj,rfl⟩))
      ·cases hs
     ·rename_i b bN len iv hv hi
      split at hs
      ·rename_i j hj
       obtain rfl:=qy hs
       exact jh m e (qyy e.ct ho ht hn h1 h2 hv hi hj)
      ·cases hs
     ·cases hs
    ·cases hc
   ·cases hc
  ·rename_i n el ht
   split at hc
   ·rename_i sz ag hn dk
    split at hc
    ·cases hc
     simp only[qf,qo]at hs
     split at hs
     ·rename_i b q iv hv hi
      split at hs
      ·rename_i j hj
       obtain rfl:=qy hs
       exact jh m e (qpl (ag:=ag) e.ct ho ht hn h1 h2 hv hi hj (.inl ⟨b,q,rfl,rfl⟩))
      ·cases hs
     ·rename_i cs iv hv hi
      split at hs
      ·rename_i j hj
       split at hs
       ·rename_i z hz
        cases hk:Eak ag z.isAgg with
        |true=>simp[hk]at hs
        |false=>
         simp only[hk,cond_false]at hs
         obtain rfl:=qy hs
         exact jh m e (qpl e.ct ho ht hn h1 h2 hv hi hj (.inr ⟨cs,z,rfl,hz,hk,rfl⟩))
       ·cases hs
      ·cases hs
     ·cases hs
    ·cases hc
   ·cases hc
  ·cases hc
 ·cases hc
theorem jcb (m:az P C ω w0 C0 hp w)(e:ak C ω w w0.heap.size env a.tmps){t:TypeId}{x i}(ho:o.op=.index t x i)(hc:cV P h md r dst (.index t x i)=I cP)(hs:qf p xc h0 al env hp cP=I res):yd P C C0 w0 a d env o w res:=by
 simp only[cV]at hc
 split at hc
 ·rename_i x' i' h1 h2
  split at hc
  ·rename_i ht
   cases hc
   simp only[qf,qo]at hs
   split at hs
   ·rename_i s iv hv hi
    split at hs
    ·rename_i j hj
     split at hs
     ·rename_i c dK
      obtain rfl:=qy hs
      exact jh m e (q32 e.ct ho ht h1 h2 hv hi hj dK)
     ·cases hs
    ·cases hs
   ·cases hs
  ·rename_i n el ht
   split at hc
   ·rename_i sz ag hn dk
    cases hc
    simp only[qf,qo]at hs
    split at hs
    ·rename_i cs iv hv hi
     split at hs
     ·rename_i j hj
      obtain⟨z,hz,rfl⟩:=uU hs
      exact jh m e (jep e.ct ho ht dk hn h1 h2 hv hi hj hz)
     ·cases hs
    ·cases hs
   ·cases hc
  ·cases hc
 ·cases hc
theorem q6d (m:az P C ω w0 C0 hp w)(e:ak C ω w w0.heap.size env a.tmps){c}(ho:o.op=.call c)(oJ:∀f,c.callee≠.value f)(hc:Ac P h md r dst c=I cP)(hs:qf p xc h0 al env hp cP=I res):yd P C C0 w0 a d env o w res:=by
 unfold Ac at hc
 split at hc
 ·rename_i f hf;exact absurd hf (oJ f)
 ·rename_i ea
  split at hc
  ·rename_i x t eo eP
   split at hc
   ·rename_i ht
    obtain⟨x',hx,rfl⟩:=Gt.1 hc
    simp only[qf,qo]at hs
    split at hs<;>first|(exfalso;omega)|skip
    ·rename_i s _ hv
     obtain rfl:=qy hs
     exact jh m e (Qx e.ct ho ea eo eP hx hv (.inl ⟨ht,s,rfl,rfl⟩))
    ·cases hs
   ·rename_i el ht
    obtain⟨x',hx,rfl⟩:=Gt.1 hc
    simp only[qf,qo]at hs
    split at hs<;>first|(exfalso;omega)|skip
    ·rename_i n sz xs _ hv
     obtain rfl:=qy hs
     exact jh m e (Qx e.ct ho ea eo eP hx hv (.inr ⟨⟨el,ht⟩,.inl ⟨n,sz,xs,rfl,rfl⟩⟩))
    ·rename_i b q n _ hv
     obtain rfl:=qy hs
     exact jh m e (Qx e.ct ho ea eo eP hx hv (.inr ⟨⟨el,ht⟩,.inr ⟨b,q,rfl⟩⟩))
    ·rename_i b bN n _ hv
     obtain rfl:=qy hs
     exact jh m e (jlg e.ct ho ea eo eP hx hv ht)
    ·cases hs
   ·cases hc
  ·cases hc
 ·rename_i ea
  split at hc
  ·rename_i x t eo eP
   split at hc
   ·rename_i el ht
    obtain⟨x',hx,rfl⟩:=Gt.1 hc
    simp only[qf,qo]at hs
    split at hs<;>first|(exfalso;omega)|skip
    ·rename_i sz xs _ hv
     obtain rfl:=qy hs
     refine jh m e ?_
     have ha:c.args=#[x]:=by apply Xz;simpa using eo
     have lM:c.argTypes=#[t]:=by apply Xz;simpa using eP
     refine⟨.int .i64 0,?_,.int _ _⟩
     have hq:∃b,a.eval x=.slice b 0 0:=by
      rcases(qv e.ct hx hv).da with⟨_,_,h⟩|⟨h,_⟩|⟨h,_⟩
      ·exact⟨_,h⟩
      ·cases h
      ·cases h
     obtain⟨b,hq⟩:=hq
     simp[execOp,ho,resolve,ea,ha,lM,invoke,builtin,Builtin.cap_,run_underlying ht,hq,goInt]
    ·cases hs
   ·cases hc
  ·cases hc
 ·rename_i ea
  split at hc
  ·rename_i x y t u eo eP
   split at hc
   ·rename_i el ut ht hu
    split at hc
    ·rename_i jL
     split at hc
     ·rename_i sz b x' y' hn hb h1 h2
      cases hc
      have hzero:∃z,yr P el=I z∧z.length=sz:=by
       have hz:=(En _ _▸jL).2
       rw[hn]at hz
       cases xV:yr P el with
       |none=>simp[xV]at hz
       |some z=>exact⟨z,rfl,by simpa[xV]using hz⟩
      generalize (dst.map (h.vec.contains ·)).getD Gy=bb at hs
      cases bb with
      |true=>
       simp only[if_true,qf,qp]at hs
       split at hs
       ·rename_i QU vy e1 e2
        split at hs
        ·rename_i ys cW
         cases hk:(G7 ys.length 1073741824&&G7 b 4096&&G3 0 sz&&!ys.isEmpty&&qw 0 ys&&G3 r 1000)with
         |false=>rw[hk]at hs;cases hs
         |true=>
          rw[hk]at hs
          simp only[cond_true]at hs
          split at hs
          ·rename_i h' dr
           obtain rfl:=qy hs
           simp only[En]at hk jL
           obtain⟨⟨⟨⟨⟨k1,k2⟩,k3⟩,k4⟩,k5⟩,_⟩:=hk
           exact .inl (jig m e ho ea eo eP ht hu jL.1 hn hb h1 h2 e1 e2 cW (Gs k1) (by intro h;rw[h]at k4;cases k4) (Gs k2) k5 hzero dr)
          ·cases hs
        ·cases hs
       ·rename_i bx bN len vy e1 e2
        split at hs
        ·rename_i dj dG xs gG
         split at hs
         ·rename_i ys cW
          cases hk:(Gx bN dG&&Gx sz dj&&G7 len xs.length&&G7 (len+ys.length) 1073741824&&G7 b 4096&&G3 0 sz&&qw 0 ys&&G3 r 1000)with
          |false=>rw[hk]at hs;cases hs
          |true=>
           rw[hk]at hs
           simp only[cond_true]at hs
           split at hs
           ·rename_i h' bJ
            obtain rfl:=qy hs
            simp only[En]at hk jL
            obtain⟨⟨⟨⟨⟨⟨⟨k1,k2⟩,k3⟩,k4⟩,k5⟩,k6⟩,k7⟩,_⟩:=hk
            obtain rfl:=Es k1
            obtain rfl:=Es k2
            exact .inl (jf0 m e ho ea eo eP ht hu jL.1 hn hb h1 h2 e1 e2 cW gG (Gs k3) (Gs k4) (Gs k5) k7 hzero bJ)
           ·cases hs
         ·cases hs
        ·cases hs
       ·cases hs
      |false=>
      simp only[Gz,if_false]at hs
      generalize hR:(if(Eal (fun x=>h.bU.contains x) dst).getD Gy=Gp then I r else G2)=R at hs
      cases R with
      |some rr=>
       simp only[qf,qp]at hs
       split at hs
       ·rename_i dj vy e1 e2
        cases fX:((zj env x').isSome&&Gx sz dj)with
        |false=>simp[fX]at hs
        |true=>
         simp only[fX,cond_true]at hs
         split at hs
         ·rename_i ys cW
          cases dx:(G7 ys.length 1073741824&&G7 b 4096&&G3 0 sz)with
          |false=>simp[dx]at hs
          |true=>
           simp only[dx,cond_true]at hs
           split at hs
           ·rename_i h' dr
            cases hs
            simp only[En]at dx jL fX
            obtain⟨⟨k2,k3⟩,k4⟩:=dx
            refine .inl (qz9 m e ho ea eo eP ht hu jL.1 hn hb h1 h2 e1 e2 cW fX.1 rfl (Gs k2) (Gs k3) ?_ (Es fX.2) dr)
            have hz:=jL.2
            rw[hn]at hz
            cases xV:yr P el with
            |none=>simp[xV]at hz
            |some z=>exact⟨z,rfl,by simpa[xV]using hz⟩
           ·cases hs
         ·cases hs
       ·cases hs
      |none=>
       simp only[qf,qo]at hs
       split at hs
       ·rename_i n dj xs vy e1 e2
        cases fX:(n||(zj env x').isSome)with
        |false=>simp[fX]at hs
        |true=>
         simp only[fX,cond_true]at hs
         split at hs
         ·rename_i ys cW
          cases dx:((Gx sz dj||(xs.isEmpty&&n))&&G7 (xs.length+ys.length) 1073741824&&G7 b 4096&&G3 0 sz)with
          |false=>simp[dx]at hs
          |true=>
           simp only[dx,cond_true]at hs
           cases hs
           simp only[En]at dx jL
           obtain⟨⟨⟨k1,k2⟩,k3⟩,k4⟩:=dx
           refine .inl (jby m e ho ea eo eP ht hu jL.1 hn hb h1 h2 e1 e2 cW (by simpa using fX) ?_ (Gs k2) (Gs k3) ?_)
           ·rcases L9 _ _▸k1 with k1|k1
            ·exact .inl (Es k1)
            ·simp only[En,S5]at k1;exact .inr k1
           ·have hz:=jL.2
            rw[hn]at hz
            cases xV:yr P el with
            |none=>simp[xV]at hz
            |some z=>exact⟨z,rfl,by simpa[xV]using hz⟩
         ·cases hs
       ·cases hs
     ·cases hc
    ·cases hc
   ·cases hc
  ·cases hc
 ·rename_i ea
  split at hc
  ·rename_i x y t ts eo eP
   split at hc
   ·rename_i el ht
    split at hc
    ·rename_i sz x' y' hn h1 h2
     cases hc
     simp only[qf,qp]at hs
     split at hs
     ·rename_i b q len vy e1 e2
      cases hk:j9 h0 al b with
      |false=>simp[hk]at hs
      |true=>
       simp only[hk,cond_true]at hs
       split at hs
       ·rename_i cs hcs
        split at hs
        ·rename_i n us cW
         split at hs
         ·rename_i eE cr
          cases dx:Gx us.length (n*sz)with
          |false=>simp[dx]at hs
          |true=>
           simp only[dx,cond_true]at hs
           split at hs
           ·rename_i h' bJ
            obtain rfl:=qy hs
            exact .inl (jlc m e ho ea eo eP ht hn h1 h2 e1 e2 hcs cW cr (Es dx) bJ)
           ·cases hs
         ·cases hs
        ·cases hs
       ·cases hs
     ·cases hs
    ·cases hc
   ·cases hc
  ·cases hc
 ·rename_i ea
  split at hc
  ·rename_i x y t ts eo eP
   split at hc
   ·rename_i kt el ht
    split at hc
    ·rename_i kd x' y' iI h1 h2
     cases hc
     simp only[qf,qp]at hs
     split at hs
     ·rename_i b kv e1 e2
      cases hk:j9 h0 al b with
      |false=>simp[hk]at hs
      |true=>
       simp only[hk,cond_true]at hs
       split at hs
       ·rename_i es hb
        split at hs
        ·rename_i r hf
         split at hs
         ·rename_i h' bJ
          obtain rfl:=qy hs
          exact .inl (ja9 m e ho ea eo eP ht iI h1 h2 e1 e2 hb hf bJ)
         ·cases hs
        ·cases hs
       ·cases hs
     ·cases hs
    ·cases hc
   ·cases hc
  ·cases hc
 ·rename_i ea
  obtain⟨l,hl,rfl⟩:=Gt.1 hc
  simp only[qf,qo]at hs
  split at hs
  ·rename_i v vs hv
   obtain⟨z,hz,rfl⟩:=uU hs
   exact jh m e (jc4 (mx:=true) e.ct ho ea hl hv hz)
  ·cases hs
 ·rename_i ea
  obtain⟨l,hl,rfl⟩:=Gt.1 hc
  simp only[qf,qo]at hs
  split at hs
  ·rename_i v vs hv
   obtain⟨z,hz,rfl⟩:=uU hs
   exact jh m e (jc4 (mx:=false) e.ct ho ea hl hv hz)
  ·cases hs
 ·cases hc
end
def aK.cut (C:aK)(n:Nat):aK:={ C with β:=fun b=>if b<n then C.β b else G2 }
theorem aK.fa (C:aK)(n:Nat):(C.cut n).le C where
 k _ _ _ h:=h
 b b r h:=by
  simp only[aK.cut]at h
  split at h
  ·exact h
  ·cases h
 w:=rfl
 d _ h:=h
theorem aK.iR {C C':aK}{n}(h:C.le C')(hn:∀b r,C.β b=I r→b<n):C.le (C'.cut n):=
 ⟨h.1,fun b r hb=>by simp only[aK.cut];rw[if_pos (hn b r hb)];exact h.2 b r hb,h.w,h.d,h.t⟩
section
variable {P:Program}{p:jz}{xc:XC}{C C0:aK}{ω:Nat→Option Loc}{w w0:World}{hp:qh}{env:Env}{tmps:Array Value}{B:Nat}
theorem aO.cut {ℓ x v}(n:Nat)(ho:aO C ω w B ℓ x v):aO (C.cut n) ω w B ℓ x v:=by
 unfold aO at *
 split at ho
 ·obtain⟨h1,h2,h3,h4,h5⟩:=ho
  exact⟨h1,h2,fun b hb=>h3 b ((aK.fa C n).2 b _ hb),h4,h5⟩
 ·obtain⟨h1,h2,h3,h4,h5⟩:=ho
  exact⟨h1,h2,fun b hb=>h3 b ((aK.fa C n).2 b _ hb),h4,h5⟩
 ·trivial
theorem bT.cut {x v n}(h:bT C x v)(hb:below n x=Gp):bT (C.cut n) x v:=
 aH.shift (C:=C) (C':=C.cut n) n (fun _ _ _ h=>h) (fun b r bz hb=>by simp only[aK.cut];rw[if_pos bz];exact hb) h hb
theorem Q5 {n}:∀ {e:Env} {s:Nat} {x:AVal×Bool},mS n e=Gp→ji s e=I x→below n x.1=Gp
 | [],_,_,_,h=>by simp[ji]at h
 |(t,y)::e,s,x,hb,h=>by
  simp only[mS,En]at hb
  simp only[ji]at h
  cases lQ:Gx t s with
  |true=>simp only[lQ,cond_true,I.injEq]at h;subst h;exact hb.1
  |false=>simp only[lQ,cond_false]at h;exact Q5 hb.2 h
theorem qn7 {n}:∀ {l:qh} {b:Nat} {x:bg},zk n l=Gp→l[b]?=I x→po n x=Gp
 | [],_,_,_,h=>by simp at h
 |y::l,b,x,hb,h=>by
  simp only[zk,En]at hb
  cases b with
  |zero=>simp at h;subst h;exact hb.1
  |succ b=>simp at h;exact qn7 hb.2 h
theorem qls {n}:∀ {l:List (AVal×Bool)} {j:Nat} {c:AVal×Bool},pn n l=Gp→l[j]?=I c→below n c.1=Gp
 | [],_,_,_,h=>by simp at h
 |(y,o)::l,j,c,hb,h=>by
  simp only[pn,En]at hb
  cases j with
  |zero=>simp at h;subst h;exact hb.1
  |succ j=>simp at h;exact qls hb.2 h
theorem cI.cut {n es ms}(hr:cI C es ms):uF n es=Gp→cI (C.cut n) es ms:=by
 induction hr with
 |nil=>exact fun _=>.nil
 |cons k v es m ms hk hv _ ih=>
  intro hb
  simp only[uF,En]at hb
  exact .cons k v es m ms (bT.cut hk hb.1.1) (bT.cut hv hb.1.2) (ih hb.2)
theorem bK.cut {b r n x}(h:bK P C ω w B b r x)(hb:po n x=Gp):bK P (C.cut n) ω w B b r x:=by
 cases x with
 |hole=>exact h
 |cells cs=>
  obtain⟨vs,el,h1,h2,h3⟩:=h
  exact⟨vs,el,h1,h2,fun j c hc=>let ⟨v,a,q,b,d⟩:=h3 j c hc; ⟨v,a,q,bT.cut b (qls hb hc),fun e=>(d e).cut n⟩⟩
 |map es=>obtain⟨cj,clock,h1,h2⟩:=h;exact⟨cj,clock,h1,h2.cut hb⟩
 |iter s pos=>exact h
 |loop l=>obtain⟨lp,h1,h2⟩:=h;exact⟨lp,h1,{ h2 with env:=fun s x hx=>let ⟨v,a,b⟩:=h2.env s x hx; ⟨v,a,bT.cut b (Q5 hb hx)⟩ }⟩
 |fU t e l=>obtain⟨p,v,h1,h2,h3,h4⟩:=h;exact⟨p,v,h1,h2,h3,h4.cut n⟩
 |dead=>exact h
 |vec sz bN xs=>exact ej.imp (C:=C) (C':=C.cut n) (ω:=ω) (ω':=ω) (B':=B) (fun _ _ _ h=>h) (fun _ h=>h) (fun _ h _=>h) rfl (fun q n' cap k=>⟨rfl,aO.cut (C:=C) n k⟩) h
theorem az.gc (m:az P C ω w0 C0 hp w){n:Nat}(hn:n≤hp.length)(hb:zk n (hp.take n)=Gp)(h0:∀b r,C0.β b=I r→b<n):az P (C.cut n) ω w0 C0 (hp.take n) w where
 base:=m.base
 know:=m.know
 dq:=m.dq
 apart b r o hb:=m.apart b r o ((aK.fa C n).2 b r hb)
 inj b b' r h1 h2:=m.inj b b' r ((aK.fa C n).2 _ _ h1) ((aK.fa C n).2 _ _ h2)
 lt b r h:=by
  have h1:=m.lt b r ((aK.fa C n).2 _ _ h)
  refine⟨h1.1,?_⟩
  simp only[aK.cut]at h
  split at h
  ·rw[Nn];omega
  ·cases h
 size:=m.size
 frame:=m.frame
 fo:=m.fo
 os:=m.os
 output:=m.output
 fresh b r h:=m.fresh b r ((aK.fa C n).2 _ _ h)
 grown:=aK.iR m.grown h0
 old:=m.old
 box b x r hx hr:=by
  have bz:b<n:=by
   have:=(Gv.1 hx).1
   rw[Nn]at this;omega
  have fj:hp[b]?=I x:=by rwa [List.getElem?_take_of_lt bz]at hx
  exact(m.box b x r fj ((aK.fa C n).2 _ _ hr)).cut (qn7 hb hx)
 iF:=m.iF
theorem ak.cut {n}(e:ak C ω w B env tmps)(hb:mS n env=Gp):ak (C.cut n) ω w B env tmps:=
 fun s x hx=>let ⟨v,h1,h2,h3⟩:=e s x hx; ⟨v,h1,bT.cut h2 (Q5 hb hx),fun h=>(h3 h).cut n⟩
def j2d (env:Env)(hp:qh)(r:mR)(ℓ:Loc)(x:AVal×Bool):Prop:=
 (∃s,ℓ=.slot s)∨∃t n b j ow cs,r=.cell t Gy n∧ji t env=I (.ptr b j,ow)∧ℓ=.cell b j∧jt hp b=I cs∧cs[j]?=I x
def Q6 (C:aK)(ω:Nat→Option Loc)(w:World)(B:Nat)(env:Env)(hp:qh)(r:mR)(x:AVal×Bool)(v:Value):Prop:=bT C x.1 v∧(x.2=Gp→∃ℓ,aO C ω w B ℓ x.1 v∧j2d env hp r ℓ x)
theorem q1w {B'}(m:az P C ω w0 C0 hp w)(hB:B'=w0.heap.size)(e:ak C ω w B' env tmps){rv r x}(hc:Kp P rv=I r)(hr:uI ⟨env,hp⟩ r=I x):
  ∃v,((match rv with | .tmp t=>pure (tmps.getD t undef) | .cell a t=>do loadVar t (←asAddr (tmps.getD a undef)):Sem Value)).run P w=.ok v w∧Q6 C ω w B' env hp r x v:=by
 subst hB
 cases rv with
 |tmp t=>
  simp only[Kp]at hc
  cases hc
  simp only[uI]at hr
  obtain⟨v,h1,h2,h3⟩:=e t x hr
  refine⟨v,?_,h2,fun h=>⟨_,h3 h,.inl ⟨_,rfl⟩⟩⟩
  simp[G4,h1]
 |cell t ty=>
  simp only[Kp]at hc
  have key:∀ {ag:Bool} {n:Nat},ym P ty=I ag→jm P ty=I n→(ag=Gy→n=1)→uI ⟨env,hp⟩ (.cell t ag n)=I x→∃v,((do loadVar ty (←asAddr (tmps.getD t undef)):Sem Value)).run P w=.ok v w∧Q6 C ω w w0.heap.size env hp (.cell t ag n) x v:=by
   intro ag n hg hn FD hr
   simp only[uI]at hr
   split at hr
   ·rename_i b q ow hl
    obtain⟨u,h1,h2,_⟩:=e t _ hl
    obtain⟨r,iH,rfl⟩:=h2.dw
    have hu:tmps.getD t undef=.pointer (I ⟨r,q,G2⟩):=by simp[G4,h1]
    split at hr
    ·rename_i cs hcs
     have gF:=m.box b _ r (vW hcs) iH
     split at hr
     ·rename_i us gV
      cases ag with
      |true=>
       simp only[cond_true,I.injEq]at hr
       subst hr
       obtain⟨vs,k1,_,k2,k3,_⟩:=gF.read gV
       refine⟨.agg ⟨vs⟩,?_,.agg _ _ k1,by simp⟩
       simp[hu,asAddr,FB hg hn k2 k3]
      |false=>
       simp only[cond_false]at hr
       split at hr
       ·rename_i c hc
        cases hr
        obtain⟨vs,te,g1,g2,g3⟩:=gF
        obtain⟨v,a1,a2,a3,a4⟩:=g3 q _ hc
        have eg:w.cell? ⟨r,q,G2⟩=I v:=by
         simp only[World.cell?,g1]
         simpa using a1
        refine⟨v,?_,a3,fun h=>⟨_,a4 h,.inr ⟨_,_,_,_,_,_,rfl,hl,rfl,hcs,hc⟩⟩⟩
        simp[hu,asAddr,FC hg eg]
       ·cases hr
     ·cases hr
    ·cases hr
   ·cases hr
  split at hc
  ·rename_i n hg hn;cases hc;exact key hg hn (by simp) hr
  ·rename_i hg hn;cases hc;exact key hg hn (fun _=>rfl) hr
  ·cases hc
inductive kQ (P:Program)(C:aK)(ω:Nat→Option Loc)(w:World)(B:Nat)(env:Env)(hp:qh):List mR→List (AVal×Bool)→List Value→Prop where
 |nil:kQ P C ω w B env hp [] [] []
 |cons {r:mR} {x:AVal×Bool} {v:Value} {rs:List mR} {xs:List (AVal×Bool)} {vs:List Value} (h:Q6 C ω w B env hp r x v) (t:kQ P C ω w B env hp rs xs vs):kQ P C ω w B env hp (r::rs) (x::xs) (v::vs)
theorem kQ.ct {rs xs vs}(h:kQ P C ω w B env hp rs xs vs):aW C (xs.map (·.1)) vs:=by
 induction h with
 |nil=>exact .nil
 |cons h _ ih=>exact .cons _ _ _ _ h.1 ih
theorem qoe {B'}(m:az P C ω w0 C0 hp w)(hB:B'=w0.heap.size)(e:ak C ω w B' env tmps):∀ {l:List ResultVar} {rs:List mR} {xs:List (AVal×Bool)},Ag P l=I rs→ko ⟨env,hp⟩ rs=I xs →
  ∃vs,(l.mapM fun(rv:ResultVar)=>(match rv with | .tmp t=>pure (tmps.getD t undef) | .cell a t=>do loadVar t (←asAddr (tmps.getD a undef)):Sem Value)).run P w=.ok vs w∧kQ P C ω w B' env hp rs xs vs
 | [],rs,xs,hc,hr=>by
  simp[Ag]at hc;subst hc
  simp[ko]at hr;subst hr
  exact⟨[],rfl,.nil⟩
 |rv::l,rs,xs,hc,hr=>by
  simp only[Ag]at hc
  split at hc
  ·rename_i r Dm h1 h2
   cases hc
   simp only[ko]at hr
   split at hr
   ·rename_i x hx
    split at hr
    ·rename_i ys mY
     cases hr
     obtain⟨v,k1,k2⟩:=q1w m hB e h1 hx
     obtain⟨vs,j1,j2⟩:=qoe m hB e h2 mY
     refine⟨v::vs,?_,.cons k2 j2⟩
     simp only[List.mapM_cons,Sem.run_bind,k1,Result.andThen_ok,j1,Sem.run_pure]
    ·cases hr
   ·cases hr
  ·cases hc
def Dy:List Value→Value
 | [v]=>v
 |vs=>.tuple ⟨vs⟩
theorem qve (m:az P C ω w0 C0 hp w){ω' b j v ow cs}(lx:jt hp b=I cs)(hc:cs[j]?=I (v,ow))(hω:∀b' j' y u,(b'≠b∨j'≠j)→aO C ω w w0.heap.size (.cell b' j') y u→aO C ω' w w0.heap.size (.cell b' j') y u):
  az P C ω' w0 C0 (hp.set b (.cells (cs.set j (v,Gy)))) w:=by
 by_cases hb:∃r,C.β b=I r
 ·obtain⟨r,hr⟩:=hb
  obtain⟨vs,te,hg,c7,hold⟩:=m.box b _ r (vW lx) hr
  obtain⟨cv,k1,k2,k3,k4⟩:=hold j _ hc
  have hu:nj w w r:=⟨rfl,fun _ _=>rfl,fun c t fr h=>by rw[hg]at h;cases h;rfl,rfl,rfl⟩
  refine m.dW hu hr _ (fun b' j' y u fE hz=>hω b' j' y u (.inl fE) hz) ⟨vs,te,hg,by simpa using c7,fun i c hi=>?_⟩
  rw[Qt]at hi
  split at hi
  ·rename_i pA
   subst pA
   split at hi
   ·cases hi;exact⟨cv,k1,k2,k3,by simp⟩
   ·cases hi
  ·rename_i pA
   obtain⟨u,a1,a2,a3,a4⟩:=hold i c hi
   exact⟨u,a1,a2,a3,fun h=>hω b i _ _ (.inr (H9 pA)) (a4 h)⟩
 ·refine { m with lt:=fun k r hk=>by rw[If];exact m.lt k r hk,box:=fun k x r hx hk=>?_ }
  have kL:k≠b:=fun h=>hb ⟨r,h▸hk⟩
  rw[E9 (H9 kL)]at hx
  exact(m.box k x r hx hk).mono (aK.le_refl C) fun j' y u ho=>hω k j' y u (.inl kL) ho
theorem jiq (m:az P C ω w0 C0 hp w){rs xs vs}(h:kQ P C ω w w0.heap.size env hp rs xs vs):
  ∃ω',az P C ω' w0 C0 (ky ⟨env,hp⟩ rs) w∧bT C (jy xs).1 (Dy vs)∧((jy xs).2=Gp→aO C ω' w w0.heap.size (.slot 0) (jy xs).1 (Dy vs)):=by
 have same:∃ω',az P C ω' w0 C0 hp w:=⟨ω,m⟩
 cases h with
 |nil=>exact⟨ω,m,by simpa[jy,Dy]using aH.aI _ _ (aH.nil),by simp[jy]⟩
 |cons hx ht=>
  cases ht with
  |cons hy ht=>
   have:=(kQ.cons hx (kQ.cons hy ht)).ct
   exact⟨ω,by simpa[ky]using m,by simpa[jy,Dy]using aH.aI _ _ this,by simp[jy]⟩
  |nil=>
   rename_i r x v
   obtain⟨h1,h2⟩:=hx
   simp only[jy]
   -- without the flag
   have plain:az P C ω w0 C0 (ky ⟨env,hp⟩ [r]) w:=by
    unfold ky
    split
    ·split
     ·split
      ·rename_i cs hcs
       split
       ·rename_i u hu
        exact qve m hcs hu (fun _ _ _ _ _ h=>h)
       ·exact m
      ·exact m
     ·exact m
    ·exact m
   by_cases hk:x.2=Gp
   ·have fX:=hk
    obtain⟨ℓ,h3,h4⟩:=h2 fX
    refine⟨uR ω x.1 v (.slot 0),?_,h1,fun _=>KF h3⟩
    rcases h4 with⟨s,rfl⟩|⟨t,n,b,j,ow,cs,rfl,g1,rfl,g2,g3⟩
    ·exact { plain with box:=fun b x r hx hb=>(plain.box b x r hx hb).mono (aK.le_refl C) fun j y u hz=>xS h3 (by simp) hz }
    ·obtain⟨xv,xo⟩:=x
     simp only at fX
     subst fX
     have:ky ⟨env,hp⟩ [.cell t Gy n]=hp.set b (.cells (cs.set j (xv,Gy))):=by
      simp only[ky,g1,g2,g3]
     rw[this]
     exact qve m g2 g3 fun b' j' y u bL hz=>xS h3 (by
      rcases bL with bL|bL
      ·simp[bL]
      ·simp[bL]) hz
   ·exact⟨ω,plain,h1,fun h=>absurd h hk⟩
theorem q6c {fn}(m:az P C ω w0 C0 hp w)(e:ak C ω w w0.heap.size env tmps){rs xs}(hc:Ag P fn.results.toList=I rs)(hr:ko ⟨env,hp⟩ rs=I xs):
  ∃v ω',(results fn tmps).run P w=.ok v w∧az P C ω' w0 C0 (ky ⟨env,hp⟩ rs) w∧bT C (jy xs).1 v∧((jy xs).2=Gp→aO C ω' w w0.heap.size (.slot 0) (jy xs).1 v):=by
 obtain⟨vs,h1,h2⟩:=qoe m rfl e hc hr
 have lO:(fn.results.mapM fun(rv:ResultVar)=>(match rv with | .tmp t=>pure (tmps.getD t undef) | .cell a t=>do loadVar t (←asAddr (tmps.getD a undef)):Sem Value)).run P w=.ok vs.toArray w:=by
  rw[Array.mapM_eq_mapM_toList]
  simp only[Sem.run_map]
  rw[h1]
  rfl
 have bE:(results fn tmps).run P w=.ok (if h:vs.toArray.size=1 then vs.toArray[0]else .tuple vs.toArray) w:=by
  unfold results
  rw[Sem.run_bind]
  exact congrArg (fun z=>Result.andThen z fun(a:Array Value) w'=>Sem.run P (pure (if h:a.size=1 then a[0]else Value.tuple a)) w') lO
 have hval:(if h:vs.toArray.size=1 then vs.toArray[0]else .tuple vs.toArray)=(Dy vs):=by
  match vs with
  | []=>rfl
  | [v]=>rfl
  |v::u::vs=>simp[Dy]
 rw[hval]at bE
 obtain⟨ω',q1,q2,q3⟩:=jiq m h2
 exact⟨_,ω',bE,q1,q2,q3⟩
end
section
variable {P:Program}{C C0:aK}{ω:Nat→Option Loc}{w w0:World}{hp:qh}
def qX (C:aK)(hp:qh)(r:Nat):Prop:=∃b sz bN xs r0 cap,hp[b]?=I (.vec sz bN xs)∧C.β b=I r0∧C.T (r0,bN,r,cap)
def Hid (C:aK)(hp:qh)(r:Nat):Prop:=(∃b,C.β b=I r)∨qX C hp r
theorem qX.is (m:az P C ω w0 C0 hp w){r}(h:qX C hp r):(∃b,C.β b=I r)∨∃b sz bN xs n cap,hp[b]?=I (.vec sz bN xs)∧xN C ω w w0.heap.size b r n cap:=by
 obtain⟨b,sz,bN,xs,r0,cap,h1,h2,h3⟩:=h
 obtain⟨q,kN,k1,k2,k3,k4,_⟩:=m.box b _ r0 h1 h2
 have:=(k2 _ h3 rfl).2 rfl
 simp only[Qw.injEq]at this
 obtain⟨rfl,rfl⟩:=this
 rcases k4 with rfl|k4
 ·exact .inl ⟨b,h2⟩
 ·exact .inr ⟨b,sz,bN,xs,_,_,h1,k4⟩
theorem Q7 (m:az P C ω w0 C0 hp w){r}(h:Hid C hp r)(o:Nat):C.K r o=G2:=by
 rcases h with⟨b,hb⟩|h
 ·exact m.apart b r o hb
 ·rcases h.is m with⟨b,hb⟩|⟨b,sz,bN,xs,n,cap,_,h2⟩
  ·exact m.apart b r o hb
  ·exact h2.2.2.2.2.2.2 o (by simp)
theorem jdg {K}(hW:C.W=fun _=>False)(m:az P C ω w0 (.b3 K) hp w){r}(h:Hid C hp r):w0.heap.size≤r:=by
 have key:∀b,C.β b=I r→w0.heap.size≤r:=fun b hb=>by
  rcases m.fresh b r hb with h|h|h
  ·cases h
  ·exact h
  ·exact h.elim
 rcases h with⟨b,hb⟩|h
 ·exact key b hb
 ·rcases h.is m with⟨b,hb⟩|⟨b,sz,bN,xs,n,cap,_,h2⟩
  ·exact key b hb
  ·rcases h2.2.1 with h|h
   ·exact h
   ·rw[hW]at h;exact h.elim
theorem jsq (m:az P C ω w0 C0 hp w){r}(h:Hid C hp r):r<w.heap.size:=by
 rcases h with⟨b,hb⟩|h
 ·exact(m.lt b r hb).1
 ·rcases h.is m with⟨b,hb⟩|⟨b,sz,bN,xs,n,cap,_,h2⟩
  ·exact(m.lt b r hb).1
  ·obtain⟨_,_,_,_,_,⟨cells,elem,h5,_⟩,_⟩:=h2
   exact(Gu.1 h5).1
open Classical in
noncomputable def zn (C:aK)(hp:qh)(w:World):Nat→Nat→Option Value:=fun r o=>if Hid C hp r then(w.cell? ⟨r,o,G2⟩).filter (·.oneCell')else C.K r o
theorem FV (m:az P C ω w0 C0 hp w){r o x}(h:C.K r o=I x):zn C hp w r o=I x:=by
 unfold zn
 rw[if_neg]
 ·exact h
 ·intro hh
  rw[Q7 m hh o]at h;cases h
theorem KM (m:az P C ω w0 C0 hp w){r o x}(h:zn C hp w r o=I x):w.cell? ⟨r,o,G2⟩=I x∧x.oneCell'=Gp:=by
 unfold zn at h
 split at h
 ·rw[Option.filter_eq_some_iff]at h;exact h
 ·exact⟨m.know r o x h,m.dq r o x h⟩
theorem qr4 {r o x}(hb:Hid C hp r)(hc:w.cell? ⟨r,o,G2⟩=I x)(h1:x.oneCell'=Gp):zn C hp w r o=I x:=by
 unfold zn
 rw[if_pos hb,hc]
 simp[h1]
theorem Q9 {b r o x}(hb:C.β b=I r)(hc:w.cell? ⟨r,o,G2⟩=I x)(h1:x.oneCell'=Gp):zn C hp w r o=I x:=
 qr4 (.inl ⟨b,hb⟩) hc h1
theorem Ra (m:az P C ω w0 C0 hp w){x v}(h:bT C x v)(hb:below 0 x=Gp):bT (.b3 (zn C hp w)) x v:=
 aH.shift (C:=C) (C':=.b3 (zn C hp w)) 0 (fun _ _ _ h=>FV m h) (fun b r bz=>by omega) h hb
theorem qsc {x v}(h:bT C x v)(h1:v.oneCell'=Gp):x.isAgg=Gy:=by
 cases h<;>first|rfl|(simp[Value.oneCell']at h1)
theorem Rb {C r}:∀ {ys:List AVal} {o:Nat},(∀j x,ys[j]?=I x→∃v,C.K r (o+j)=I v∧bT C x v)→cy C r ys o
 | [],o,_=>.ie _ _
 |x::ys,o,h=>by
  obtain⟨v,h1,h2⟩:=h 0 x rfl
  refine .dH _ _ _ _ v (by simpa using h1) h2 (Rb fun j y hy=>?_)
  obtain⟨v,k1,k2⟩:=h (j+1) y (by simpa using hy)
  exact⟨v,by rw[show o+1+j=o+(j+1) by omega];exact k1,k2⟩
theorem Rc {C r sz}(hz:0<sz):∀ {n:Nat} {xs:List AVal} {o:Nat},xs.length=n*sz→(∀x∈xs,x.isAgg=Gy)→(∀j x,xs[j]?=I x→∃v,C.K r (o+j)=I v∧bT C x v)→bA C r sz (mG sz n xs) o
 |0,xs,o,_,_,_=>.fL _ _ _
 |n+1,xs,o,hl,hp,h=>by
  rw[Nat.succ_mul]at hl
  have hf:(bif Gx sz 1 then xs.headD .undef else AVal.agg (xs.take sz)).flat=xs.take sz:=by
   cases hb:Gx sz 1 with
   |false=>rfl
   |true=>
    have:=Es hb
    subst this
    match xs,hl with
    |x::xs,_=>simp only[cond_true,List.headD_cons];rw[qbv (hp x (List.mem_cons_self ..))];rfl
  refine .dA _ _ _ _ _ ?_ ?_ (Rc hz ?_ (fun x hx=>hp x (List.mem_of_mem_drop hx)) fun j x hx=>?_)
  ·rw[hf,Nn];omega
  ·rw[hf]
   refine Rb fun j x hx=>h j x ?_
   rw[List.getElem?_take]at hx
   split at hx
   ·exact hx
   ·cases hx
  ·rw[Yq];omega
  ·rw[List.getElem?_drop]at hx
   obtain⟨v,k1,k2⟩:=h _ x hx
   exact⟨v,by rw[Nat.add_assoc];exact k1,k2⟩
theorem FW {sz}:∀ {n:Nat} {xs:List AVal},(mG sz n xs).length=n
 |0,_=>rfl
 |n+1,xs=>by simp only[mG,List.length_cons];rw[FW]
theorem qo4 {sz}(hz:1<sz):∀ {n:Nat} {xs:List AVal},xs.length=n*sz→qw 0 (mG sz n xs)=Gp→∀x∈xs,below 0 x=Gp
 |0,xs,hl,_=>by
  rw[Nat.zero_mul]at hl
  rw[S6.1 hl]
  intro x hx;cases hx
 |n+1,xs,hl,h=>by
  have hb:Gx sz 1=Gy:=by
   cases hc:Gx sz 1 with
   |false=>rfl
   |true=>have:=Es hc;omega
  simp only[mG,hb,cond_false,qw,below,En]at h
  have ih:=qo4 hz (n:=n) (xs:=xs.drop sz) (by rw[Yq,hl,Nat.succ_mul];omega) h.2
  have ht:∀(ys:List AVal),qw 0 ys=Gp→∀x∈ys,below 0 x=Gp:=by
   intro ys
   induction ys with
   |nil=>intro _ x hx;cases hx
   |cons y ys ih=>
    intro hh x hx
    simp only[qw,En]at hh
    rcases R0.1 hx with rfl|hx
    ·exact hh.1
    ·exact ih hh.2 x hx
  intro x hx
  rw[←List.take_append_drop sz xs]at hx
  rcases Qn.1 hx with hx|hx
  ·exact ht _ h.1 x hx
  ·exact ih x hx
theorem Rf (m:az P C ω w0 C0 hp w){x x' v}(hf:kq hp x=I x')(h:bT C x v)(hb:below 0 x'=Gp):bT (.b3 (zn C hp w)) x' v:=by
 unfold kq at hf
 split at hf
 ·rename_i b off len
  split at hf
  ·rename_i cs hcs
   cases dl:Dg off len cs with
   |true=>
    rw[dl]at hf
    simp only[cond_true,I.injEq]at hf
    subst hf
    simp only[Dg,En]at dl
    obtain⟨⟨⟨r0,r1⟩,r2⟩,_⟩:=dl
    have r0:=Es r0
    have r2:=Es r2
    have r1:1<cs.length / len:=by simpa using r1
    subst r0
    obtain⟨r,cap,iH,hle,rfl⟩:=h.eX
    obtain⟨vs,elem,k1,k2,k3⟩:=m.box b _ r (vW hcs) iH
    have jK:qw 0 (mG (cs.length / len) len (cs.map (·.1)))=Gp:=by simpa[below]using hb
    have Rg:=qo4 r1 (by rw[T6];exact r2.symm) jK
    have hrr:bA (.b3 (zn C hp w)) r (cs.length / len) (mG (cs.length / len) len (cs.map (·.1))) 0:=by
     refine Rc (by omega) (by rw[T6];exact r2.symm) (fun x hx=>?_) fun j x hx=>?_
     ·obtain⟨j,hj⟩:=List.getElem?_of_mem hx
      rw[Nk,Gt]at hj
      obtain⟨c,hc,rfl⟩:=hj
      obtain⟨u,q1,q2,q3,_⟩:=k3 j c hc
      exact qsc q3 q2
     ·have du:=Jg hx
      rw[Nk,Gt]at hx
      obtain⟨c,hc,rfl⟩:=hx
      obtain⟨u,q1,q2,q3,_⟩:=k3 j c hc
      have eg:w.cell? ⟨r,0+j,G2⟩=I u:=by
       unfold World.cell?
       rw[k1]
       simp only[Ld,Gz,if_false,Qr]
       exact q1
      exact⟨u,Q9 iH eg q2,Ra m q3 (Rg _ du)⟩
    have:=aH.list (C:=.b3 (zn C hp w)) (cs.length / len) (mG (cs.length / len) len (cs.map (·.1))) r 0 cap (by rw[FW];exact hle) hrr
    rw[FW]at this
    exact this
   |false=>
   rw[dl]at hf
   simp only[cond_false]at hf
   split at hf
   ·rename_i us gV
    cases hf
    obtain⟨r,cap,iH,hle,rfl⟩:=h.eX
    obtain⟨vs,k1,k0,k2,k3,k4⟩:=(m.box b _ r (vW hcs) iH).read gV
    have jK:qw 0 us=Gp:=by simpa[below]using hb
    have fZ:aW (.b3 (zn C hp w)) us vs:=aH.shift (C:=C) (C':=.b3 (zn C hp w)) 0 (fun _ _ _ h=>FV m h) (fun b r bz=>by omega) k1 jK
    have kA:∀(us:List AVal) (vs:List Value),aW C us vs→(∀v∈vs,v.oneCell'=Gp)→us.flatMap AVal.flat=us∧∀u∈us,u.flat.length=1:=by
     intro us
     induction us with
     |nil=>intro _ _ _;exact⟨rfl,by simp⟩
     |cons u us ih=>
      intro vs h h1
      cases h with
      |cons _ _ v vs hx h=>
       obtain⟨i1,i2⟩:=ih vs h (fun v hv=>h1 v (by simp[hv]))
       have xP:=qsc hx (h1 v (by simp))
       rw[Ye,qbv xP,i1]
       refine⟨rfl,fun u' oe=>?_⟩
       rcases R0.1 oe with rfl|oe
       ·rw[qbv xP];rfl
       ·exact i2 u' oe
    obtain⟨f1,f2⟩:=kA us vs k1 k4
    have hcells:cy (.b3 (zn C hp w)) r (us.flatMap AVal.flat) off:=by
     rw[f1]
     exact cy.iG fZ fun j u hj=>Q9 iH (k3 j u hj) (k4 u (Jg hj))
    have hl:us.length=len:=k0
    have:=aH.list (C:=.b3 (zn C hp w)) 1 us r off cap (by omega) (bA.eU hcells f2)
    rw[hl]at this
    exact this
   ·cases hf
  ·cases hf
 ·rename_i b bN len
  split at hf
  ·rename_i sz dG xs gG
   cases hk:(Gx bN dG&&G7 len xs.length)with
   |false=>rw[hk]at hf;cases hf
   |true=>
    rw[hk]at hf
    simp only[cond_true,I.injEq]at hf
    subst hf
    simp only[En]at hk
    obtain rfl:=Es hk.1
    have hlen:=Gs hk.2
    cases h with
    |aj _ _ _ r0 q cap hβ hT hl=>
     obtain⟨q',kN,k1,k2,k3,k4,_⟩:=m.box b _ r0 gG hβ
     have heq:=(k2 _ hT rfl).2 rfl
     simp only[Qw.injEq]at heq
     obtain⟨rfl,rfl⟩:=heq
     obtain⟨cells,t,vs,g1,g2,g3,g4,g5,g6,g7⟩:=k3
     have Rh:Hid C hp q:=.inr ⟨b,sz,bN,xs,r0,cap,gG,hβ,hT⟩
     have hall:cy (.b3 (zn C hp w)) q (xs.flatMap AVal.flat) 0:=by
      refine cy.iG (aH.imp (C:=.b3 C.K) (C':=.b3 (zn C hp w)) ⟨fun _ _ _ h=>FV m h,fun _ _ h=>h⟩ g5) fun j u hj=>?_
      refine qr4 Rh ?_ (g7 u (Jg hj))
      unfold World.cell?
      rw[g1]
      simp only[Ld,Gz,if_false,Qr]
      exact g6 j u hj
     have dl:bA (.b3 (zn C hp w)) q sz xs 0:=bA.eU hall g4
     have:=aH.list (C:=.b3 (zn C hp w)) sz (xs.take len) q 0 cap (by rw[Nn];omega) (dl.take len)
     rw[Nn,Nat.min_eq_left hlen]at this
     exact this
  ·cases hf
 ·cases hf
  exact Ra m h hb
theorem Ri (m:az P C ω w0 C0 hp w):∀ {xs fQ:List AVal} {vs:List Value},lJ hp xs=I fQ→aW C xs vs→qw 0 fQ=Gp→aW (.b3 (zn C hp w)) fQ vs
 | [],fQ,vs,hf,h,_=>by
  simp only[lJ,I.injEq]at hf
  subst hf
  cases h
  exact .nil
 |x::xs,fQ,vs,hf,h,hb=>by
  simp only[lJ]at hf
  split at hf
  ·rename_i y hy
   split at hf
   ·rename_i ys mY
    cases hf
    simp only[qw,En]at hb
    cases h with
    |cons _ _ v vs hx h=>exact .cons _ _ _ _ (Rf m hy hx hb.1) (Ri m mY h hb.2)
   ·cases hf
  ·cases hf
theorem Rj (m:az P C ω w0 C0 hp w):∀ {xs fQ:List AVal} {vs:List Value},aJ.bH hp xs=I fQ→aW C xs vs→qw 0 fQ=Gp→aW (.b3 (zn C hp w)) fQ vs
 | [],fQ,vs,hf,h,_=>by
  simp only[aJ.bH,I.injEq]at hf
  subst hf
  cases h
  exact .nil
 |x::xs,fQ,vs,hf,h,hb=>by
  cases h with
  |cons _ _ v vs hx h=>
   unfold aJ.bH at hf
   split at hf
   ·cases ‹_::_=[]›
   ·rename_i cs qU heq
    cases heq
    split at hf
    ·rename_i y hy
     split at hf
     ·rename_i ys mY
      cases hf
      simp only[qw,below,En]at hb
      obtain⟨us,rfl,hu⟩:=bT.eF hx
      exact .cons _ _ _ _ (.agg _ _ (Ri m hy hu hb.1)) (Rj m mY h hb.2)
     ·cases hf
    ·cases hf
   ·rename_i heq
    cases heq
    split at hf
    ·rename_i y hy
     split at hf
     ·rename_i ys mY
      cases hf
      simp only[qw,En]at hb
      exact .cons _ _ _ _ (Rf m hy hx hb.1) (Rj m mY h hb.2)
     ·cases hf
    ·cases hf
theorem q54 (m:az P C ω w0 C0 hp w){x x' v}(hf:aJ hp x=I x')(h:bT C x v)(hb:below 0 x'=Gp):bT (.b3 (zn C hp w)) x' v:=by
 unfold aJ at hf
 split at hf
 ·split at hf
  ·rename_i ys mY
   cases hf
   obtain⟨us,rfl,hu⟩:=h.eF
   exact .agg _ _ (Ri m mY hu (by simpa[below]using hb))
  ·cases hf
 ·split at hf
  ·rename_i ys mY
   cases hf
   cases h with
   |aI _ vs hu=>exact .aI _ _ (Rj m mY hu (by simpa[below]using hb))
  ·cases hf
 ·exact Rf m hf h hb
end
def AE:je→Exit
 | .normal=>.normal
 | .exit id=>.exit id
 | .ret=>.ret
def jE (ρ:Option Nat):Fence:={ Fence.wide with round:=ρ }
theorem qxd {ρ n P f args w R}:CallsIn (jE ρ) n P f args w R↔CallsIn Fence.wide n P f args w R:=Iff.rfl
def Marks (C:aK)(B:Nat)(ds:List Deferred):Prop:=∃rs:List Nat,ds=rs.map (fun r=>{ target:=.collected r,args:=#[] })∧rs.Nodup∧∀r∈rs,C.D r∧B≤r
theorem Marks.mono {C C' B ds}(h:Marks C B ds)(hle:C.le C'):Marks C' B ds:=
 let ⟨rs,h1,h2,h3⟩:=h; ⟨rs,h1,h2,fun r hr=>⟨hle.d r (h3 r hr).1,(h3 r hr).2⟩⟩
theorem Marks.nil {C B}:Marks C B []:=⟨[],rfl,List.nodup_nil,by simp⟩
def cJ (P:Program)(xc:XC):Prop:=
 ∀(ρ:Option Nat) (nt:Nat) (c:Code) (ca:aw) (st bZ:bf) (x:je),Fk P nt c ca→(ρ≠G2→zu ca=Gp)→xc ca st=I (x,bZ) →
  ∀(C:aK) (ω:Nat→Option Loc) (w0:World) (C0:aK) (a:Act) (w:World),az P C ω w0 C0 st.heap w→ak C ω w w0.heap.size st.env a.tmps→a.tmps.size=nt→Marks C w0.heap.size a.defers →
   c.wpIn (jE ρ) 0 P (fun e a' w'=>e=AE x∧a'.tmps.size=nt∧∃C' ω',C.le C'∧Marks C' w0.heap.size a'.defers∧az P C' ω' w0 C0 bZ.heap w'∧ak C' ω' w' w0.heap.size bZ.env a'.tmps) a w
def IsoCall (P:Program)(k:Nat)(args:List AVal)(v:AVal)(ow:Bool):Prop:=
 ∀(K:Nat→Nat→Option Value) (w:World) (vs:List Value),Tabs P w →
  (∀r o u,K r o=I u→w.cell? ⟨r,o,G2⟩=I u)→(∀r o u,K r o=I u→u.oneCell'=Gp)→aW (.b3 K) args vs →
  CallsIn Fence.wide 0 P k ⟨vs⟩ w fun e w'=>∃u K',e=.returned u∧Ext w w'∧(∀r o x,K r o=I x→K' r o=I x)∧(∀r o,r<w.heap.size→K' r o=K r o) ∧
   (∀r o x,K' r o=I x→w'.cell? ⟨r,o,G2⟩=I x)∧(∀r o x,K' r o=I x→x.oneCell'=Gp)∧bT (.b3 K') v u ∧
   (ow=Gp→∃ℓ ω',aO (.b3 K') ω' w' w.heap.size ℓ v u)
def Enters (P : Program) (k : Nat) : Prop := ∃ fn, P.funcs[k]? = I fn ∧ fn.name ≠ "runtime.NumGoroutine" ∧ fn.body.isSome
def AF (P:Program)(k:Nat)(args:List AVal)(h:qh)(v:AVal)(ow:Bool)(h':qh):Prop:=
 ∀(C:aK) (ω:Nat→Option Loc) (w:World) (vs:List Value),aW C args vs→az P C ω w C h w →
  CallsIn Fence.wide 0 P k ⟨vs⟩ w fun e w'=>∃u C' ω',e=.returned u∧C.le C'∧az P C' ω' w C h' w'∧bT C' v u∧(ow=Gp→aO C' ω' w' w.heap.size (.slot 0) v u)
def Rk (P:Program)(k:Nat)(es:List (AVal×AVal)):Prop:=
 ∀(K:Nat→Nat→Option Value) (w:World),Tabs P w →
  (∀r o u,K r o=I u→w.cell? ⟨r,o,G2⟩=I u)→(∀r o u,K r o=I u→u.oneCell'=Gp) →
  CallsIn Fence.wide 0 P k ⟨[]⟩ w fun e w'=>∃q K' cj clock,e=.returned (.map (I q))∧Ext w w'∧(∀r o x,K r o=I x→K' r o=I x)∧(∀r o,r<w.heap.size→K' r o=K r o) ∧
   (∀r o x,K' r o=I x→w'.cell? ⟨r,o,G2⟩=I x)∧(∀r o x,K' r o=I x→x.oneCell'=Gp)∧w.heap.size≤q∧w'.heap[q]?=I (.map cj clock)∧cI (.b3 K') es cj.toList
structure b6 (P:Program)(p:jz):Prop where
 fn:∀k f,p.bG k=I f→∃fn h,P.funcs[k]?=I fn∧Fj P h fn=I f
 iK:∀k f,p.cO k=I f→Enters P k∧∀args v o,f args=I (v,o)→mF v=Gp→qw 0 args=Gp→IsoCall P k args v o
 mixed:P.follows .mixedOrders=Gp
 fT:∀k f,p.dL k=I f→Enters P k∧∀args h v o h',f args h=I (v,o,h')→AF P k args h v o h':=by intro k f h;cases h
 maps:∀k es,p.maps k=I es→Enters P k∧Rk P k es:=by intro k f h;cases h
theorem Rl {P h fn f} (hc : Fj P h fn = I f) : ∃ c, fn.body = I c ∧ gU P h fn.ntmps c = I f.body ∧ Ag P fn.results.toList = I f.results ∧ f.ntmps = fn.ntmps ∧ fn.name ≠ "runtime.NumGoroutine" := by
 unfold Fj at hc
 split at hc
 ·rename_i c hb
  split at hc
  ·rename_i b rs h1 h2
   split at hc
   ·cases hc
   ·rename_i hn
    cases hc
    exact⟨c,hb,h1,h2,rfl,by simpa using hn⟩
  ·cases hc
 ·cases hc
theorem b6.enters {P p}(h:b6 P p){k f}(hf:p.bG k=I f):Enters P k:=by
 obtain⟨fn,hh,h1,h2⟩:=h.fn k f hf
 obtain⟨c,hb,_,_,_,hn⟩:=Rl h2
 exact⟨fn,h1,hn,by simp[hb]⟩
theorem qpk {P k}(h:Enters P k)(args:Array Value)(w:World):(callFunc k args).run P w=.ok (.enter k args) w:=by
 obtain⟨fn,h1,h2,h3⟩:=h
 simp[callFunc,h1,h2,Option.isNone_iff_eq_none,Option.isSome_iff_ne_none.1 h3]
section
variable {P:Program}{p:jz}{xc:XC}{C C0:aK}{ω:Nat→Option Loc}{w w0:World}{hp:qh}{env:Env}{tmps:Array Value}{B:Nat}{a:Act}{o:Oper}{d:Loc}
theorem qr6:∀ {args:List AVal} {i s:Nat} {x:AVal×Bool},ji s (oH i args)=I x→∃j,s=i+j∧args[j]?=I x.1∧x.2=Gy
 | [],_,_,_,h=>by simp[oH,ji]at h
 |v::args,i,s,x,h=>by
  simp only[oH,ji]at h
  cases hb:Gx i s with
  |true=>
   simp only[hb,cond_true,I.injEq]at h
   subst h
   exact⟨0,(Es hb).symm,rfl,rfl⟩
  |false=>
   simp only[hb,cond_false]at h
   obtain⟨j,h1,h2,h3⟩:=qr6 h
   exact⟨j+1,by omega,by simpa using h2,h3⟩
theorem jbb {r o v}(h:w.cell? ⟨r,o,G2⟩=I v):∃cs t fr,w.heap[r]?=I (.cells cs t fr):=by
 unfold World.cell? at h
 split at h
 ·rename_i cs t fr hg;exact⟨cs,t,fr,hg⟩
 ·cases h
theorem az.other {D'}(m:az P C ω w0 C0 hp w){r w'}(hu:nj w w' r)(hβ:∀b,C.β b≠I r)(hr:w0.heap.size≤r)(ly:∀cs t fr,w.heap[r]?≠I (.cells cs t fr))(hD:∀k,D' k→C.D k∧k≠r)(h0:∀k,C0.D k→D' k):
  az P { C with D:=D' } ω w0 C0 hp w':=by
 have c5:∀ {B:Nat} {ℓ:Loc} {x:AVal} {v:Value},aO C ω w B ℓ x v→aO { C with D:=D' } ω w' B ℓ x v:=by
  intro B ℓ x v ho
  unfold aO at *
  split at ho
  ·obtain⟨h1,h2,h3,h4,h8,⟨cells,elem,h5,h6⟩,h7⟩:=ho
   refine⟨h1,h2,h3,h4,h8,⟨cells,elem,?_,h6⟩,h7⟩
   rw[hu.other _ (fun h=>ly _ _ _ (h▸h5))]
   exact h5
  ·obtain⟨h1,h2,h3,h4,h8,⟨cells,elem,h5,h6⟩,h7⟩:=ho
   refine⟨h1,h2,h3,h4,h8,⟨cells,elem,?_,h6⟩,h7⟩
   rw[hu.other _ (fun h=>ly _ _ _ (h▸h5))]
   exact h5
  ·trivial
 refine { base:=m.base,know:=?_,dq:=m.dq,apart:=m.apart,inj:=m.inj,lt:=?_,size:=?_,frame:=?_,fo:=?_,os:=hu.os.trans m.os,output:=hu.output.trans m.output,fresh:=m.fresh,grown:=⟨m.grown.k,m.grown.b,m.grown.w,h0,m.grown.t⟩,old:=m.old,box:=?_,iF:=fun q hq=>by rw[hu.size];exact m.iF q hq }
 ·intro k p v hk
  have hc:=m.know _ _ _ hk
  have bL:k≠r:=fun h=>by
   obtain⟨cs,t,fr,hg⟩:=jbb hc
   exact ly cs t fr (h▸hg)
  simp only[World.cell?]at hc ⊢
  rw[hu.other k bL];exact hc
 ·intro b p hb
  rw[hu.size];exact m.lt b p hb
 ·rw[hu.size];exact m.size
 ·intro k hk hn hw
  rw[hu.other k (by omega)];exact m.frame k hk hn hw
 ·intro k hk
  obtain⟨h1,h2⟩:=hD k hk
  rw[hu.other k h2];exact m.fo k h1
 ·intro b x p hx hb
  refine bK.imp (C:=C) (C':={ C with D:=D' }) ⟨fun _ _ _ h=>h,fun _ _ h=>h⟩ (hu.other p (fun h=>hβ b (h▸hb))) (fun j y v ho=>c5 ho) (m.box b x p hx hb) (hq:=fun q n cap k=>by
   obtain⟨_,_,_,_,_,⟨cells,elem,h5,_⟩,_⟩:=k
   exact hu.other q (fun h=>ly _ _ _ (h▸h5)))
theorem aO.kT {D' r w'}(hu:nj w w' r)(ly:∀cs t fr,w.heap[r]?≠I (.cells cs t fr)){ℓ x v}(ho:aO C ω w B ℓ x v):aO { C with D:=D' } ω w' B ℓ x v:=by
 unfold aO at *
 split at ho
 ·obtain⟨h1,h2,h3,h4,h8,⟨cells,elem,h5,h6⟩,h7⟩:=ho
  refine⟨h1,h2,h3,h4,h8,⟨cells,elem,?_,h6⟩,h7⟩
  rw[hu.other _ (fun h=>ly _ _ _ (h▸h5))]
  exact h5
 ·obtain⟨h1,h2,h3,h4,h8,⟨cells,elem,h5,h6⟩,h7⟩:=ho
  refine⟨h1,h2,h3,h4,h8,⟨cells,elem,?_,h6⟩,h7⟩
  rw[hu.other _ (fun h=>ly _ _ _ (h▸h5))]
  exact h5
 ·trivial
theorem bT.qY {D' x v}(h:bT C x v):bT { C with D:=D' } x v:=aH.imp (C:=C) (C':={ C with D:=D' }) ⟨fun _ _ _ h=>h,fun _ _ h=>h⟩ h
theorem ak.kT {D' r w'}(hu:nj w w' r)(ly:∀cs t fr,w.heap[r]?≠I (.cells cs t fr))(e:ak C ω w B env tmps):ak { C with D:=D' } ω w' B env tmps:=
 fun s x hs=>let ⟨v,h1,h2,h3⟩:=e s x hs; ⟨v,h1,bT.qY h2,fun h=>(h3 h).kT hu ly⟩
theorem qz1 {fn R}:∀(rs:List Nat) (C':aK) (w:World),C.le C'→az P C' ω w0 C hp w→ak C' ω w w0.heap.size env tmps→rs.Nodup→(∀r∈rs,C'.D r∧w0.heap.size≤r)→(∀k,C.D k→k<w0.heap.size) →
  (∀(C2:aK) (w2:World),C.le C2→C2.D=C.D→az P C2 ω w0 C hp w2→ak C2 ω w2 w0.heap.size env tmps→∃v,(results fn tmps).run P w2=.ok v w2∧R (.returned v) w2) →
  LeavesInM Fence.wide 0 P fn tmps R (rs.map fun r=>{ target:=.collected r,args:=#[] }) .returning w
 | [],C',w,hle,m,e,_,_,hD,eC=>by
  have hr0:∀ {k},C.D k→C'.D k:=fun h=>hle.d _ h
  -- the marks are forgotten
  have m2:az P { C' with D:=C.D } ω w0 C hp w:={ m with
   fo:=fun r hr=>m.fo r (hr0 hr)
   grown:=⟨m.grown.k,m.grown.b,m.grown.w,fun _ h=>h,m.grown.t⟩
   box:=fun b x r hx hb=>bK.imp (C:=C') (C':={ C' with D:=C.D }) ⟨fun _ _ _ h=>h,fun _ _ h=>h⟩ rfl (fun j y v ho=>ho) (m.box b x r hx hb) }
  have e2:ak { C' with D:=C.D } ω w w0.heap.size env tmps:=fun s x hs=>let ⟨v,h1,h2,h3⟩:=e s x hs; ⟨v,h1,bT.qY h2,h3⟩
  exact eC { C' with D:=C.D } w ⟨hle.k,hle.b,hle.w,fun _ h=>h,hle.t⟩ rfl m2 e2
 |r::rs,C',w,hle,m,e,qO,FX,hD,eC=>by
  obtain⟨hDr,hBr⟩:=FX r (by simp)
  have hg:=m.fo r hDr
  have bz:=(Gu.1 hg).1
  have ly:∀cs t fr,w.heap[r]?≠I (.cells cs t fr):=fun cs t fr h=>by rw[hg]at h;cases h
  have hu:nj w (kh w r (.deferred G2)) r:=Dw bz (by simp)
  have hβ:∀b,C'.β b≠I r:=by
   intro b hb
   obtain⟨x,hx⟩:=Jf (m.lt b r hb).2▸(⟨_,rfl⟩:∃x,I (hp[b]'(m.lt b r hb).2)=I x)
   have h0:=m.box b x r hx hb
   cases x with
   |hole=>exact h0
   |cells cs=>obtain⟨vs,elem,h1,_⟩:=h0;rw[hg]at h1;cases h1
   |map es=>obtain⟨cj,clock,h1,_⟩:=h0;rw[hg]at h1;cases h1
   |iter s pos=>have h1:w.heap[r]?=_:=h0;rw[hg]at h1;cases h1
   |loop l=>obtain⟨lp,h1,_⟩:=h0;rw[hg]at h1;cases h1
   |fU t e l=>obtain⟨p,v,h1,_⟩:=h0;rw[hg]at h1;cases h1
   |dead=>obtain⟨cs,t,h1⟩:=h0;rw[hg]at h1;cases h1
   |vec sz bN xs=>obtain⟨_,_,_,_,_,_,cs,t,h1⟩:=h0;rw[hg]at h1;cases h1
  have bE:(Instr.takeDeferred r).run P w=.ok [] (kh w r (.deferred G2)):=by
   have hs:=xU (P:=P) (x:=.deferred G2) hg (by simp)
   simp only[Instr.takeDeferred,Sem.run_bind,px hg (by simp),Result.andThen_ok,hs,Sem.run_pure]
  refine⟨by simp,.inl ⟨r,_,rfl,bE,?_⟩⟩
  have FY:=List.nodup_cons.1 qO
  have m2:=m.other (D':=fun k=>C'.D k∧k≠r) hu hβ hBr ly (fun k h=>h) (fun k h=>⟨hle.d k h,fun hk=>by have:=hD k h;omega⟩)
  exact qz1 rs { C' with D:=fun k=>C'.D k∧k≠r } _ ⟨hle.k,hle.b,hle.w,fun k h=>⟨hle.d k h,fun hk=>by have:=hD k h;omega⟩,hle.t⟩ m2 (e.kT hu ly) FY.2
   (fun k hk=>⟨⟨(FX k (by simp[hk])).1,fun h=>FY.1 (h▸hk)⟩,(FX k (by simp[hk])).2⟩) hD eC
theorem q56 (hx:cJ P xc){k fn h f}(hfn:P.funcs[k]?=I fn)(hc:Fj P h fn=I f){args v ow h'}(hr:pv xc f args hp=I (v,ow,h')){vs}(ey:aW C args vs)(m:az P C ω w C hp w):
  CallsIn Fence.wide 0 P k ⟨vs⟩ w fun e w'=>∃u C' ω',e=.returned u∧C.le C'∧az P C' ω' w C h' w'∧bT C' v u∧(ow=Gp→aO C' ω' w' w.heap.size (.slot 0) v u):=by
 obtain⟨c,hb,h1,h2,h3,_⟩:=Rl hc
 unfold pv at hr
 have hD:∀k,C.D k→k<w.heap.size:=fun k hk=>(Gu.1 (m.fo k hk)).1
 cases hle:G7 args.length f.ntmps with
 |false=>simp[hle]at hr
 |true=>
  simp only[hle,cond_true]at hr
  have hlen:=Gs hle
  have qF:=ey.length
  refine callsIn_of_wp_marks hfn hb trivial ?_
  have c7:((⟨vs⟩:Array Value)++Eab (fn.ntmps-(⟨vs⟩:Array Value).size) undef).size=fn.ntmps:=by
   simp;omega
  have FZ:ak C ω w w.heap.size (oH 0 args) ((⟨vs⟩:Array Value)++Eab (fn.ntmps-(⟨vs⟩:Array Value).size) undef):=by
   intro s x hx
   obtain⟨j,rfl,hj,hf⟩:=qr6 hx
   obtain⟨u,k1,k2⟩:=ey.get hj
   have bz:j<vs.length:=(Gv.1 k1).1
   refine⟨u,?_,k2,by simp[hf]⟩
   rw[Qr,Array.getElem?_append_left (by simpa using bz)]
   simpa using k1
  have fin:∀(st:bf) (a':Act) (w':World) (C':aK) (ω':Nat→Option Loc),C.le C'→Marks C' w.heap.size a'.defers→az P C' ω' w C st.heap w'→ak C' ω' w' w.heap.size st.env a'.tmps →
    (match ko st f.results with
     |some xs=>I ((jy xs).1,(jy xs).2,ky st f.results)
     |none=>G2)=I (v,ow,h') →
    LeavesInM Fence.wide 0 P fn a'.tmps (fun e w'=>∃u C' ω',e=.returned u∧C.le C'∧az P C' ω' w C h' w'∧bT C' v u∧(ow=Gp→aO C' ω' w' w.heap.size (.slot 0) v u)) a'.defers .returning w':=by
   intro st a' w' C' ω' hle ⟨rs,hds,qO,FX⟩ m' e' hr
   rw[hds]
   refine qz1 (C:=C) (ω:=ω') (w0:=w) (hp:=st.heap) (env:=st.env) rs C' w' hle m' e' qO FX hD ?_
   intro C2 w2 jM _ m2 e2
   split at hr
   ·rename_i xs nf
    cases hr
    obtain⟨u,ω2,k1,k2,k3,k4⟩:=q6c (fn:=fn) m2 e2 h2 nf
    exact⟨u,k1,u,C2,ω2,rfl,jM,k2,k3,k4⟩
   ·cases hr
  split at hr
  ·rename_i st cr
   refine wpIn_mono (hx G2 fn.ntmps c f.body _ _ _ ⟨h,h1⟩ (fun h=>absurd rfl h) cr C ω w C _ w m FZ c7 Marks.nil) ?_
   rintro e a' w' ⟨rfl,q1,C',ω',q3,q2,q4,q5⟩
   exact fin st a' w' C' ω' q3 q2 q4 q5 hr
  ·rename_i st cr
   refine wpIn_mono (hx G2 fn.ntmps c f.body _ _ _ ⟨h,h1⟩ (fun h=>absurd rfl h) cr C ω w C _ w m FZ c7 Marks.nil) ?_
   rintro e a' w' ⟨rfl,q1,C',ω',q3,q2,q4,q5⟩
   exact fin st a' w' C' ω' q3 q2 q4 q5 hr
  ·cases hr
theorem q26 {K}(ht:Tabs P w)(h1:∀r o u,K r o=I u→w.cell? ⟨r,o,G2⟩=I u)(h2:∀r o u,K r o=I u→u.oneCell'=Gp):az P (.b3 K) (fun _=>G2) w (.b3 K) [] w where
 base:=⟨ht,fun g _=>⟨fun b h=>(by cases h),fun h=>h⟩⟩
 know:=h1
 dq:=h2
 apart:=by simp[aK.b3]
 inj:=by simp[aK.b3]
 lt:=by simp[aK.b3]
 size:=Nat.le_refl _
 frame _ _ _ _:=rfl
 fo _ h:=h.elim
 os:=rfl
 output:=rfl
 fresh:=by simp[aK.b3]
 grown:=aK.le_refl _
 old _ _ _ _:=rfl
 box:=by simp
 iF _ h:=h.elim
theorem F0 (hp:b6 P p)(hx:cJ P xc){k args h h' v ow}(hr:qm p xc k args h=I (v,ow,h')):Enters P k∧AF P k args h v ow h':=by
 unfold qm at hr
 split at hr
 ·rename_i f hf
  obtain⟨fn,hh,hfn,AG⟩:=hp.fn k f hf
  exact⟨hp.enters hf,fun C ω w vs ey m=>q56 hx hfn AG hr ey m⟩
 ·split at hr
  ·rename_i f hf
   obtain⟨he,hs⟩:=hp.fT k f hf
   exact⟨he,hs _ _ _ _ _ hr⟩
  ·cases hr
theorem cI.b3 {es ms}(h:cI C es ms):uF 0 es=Gp→cI (.b3 C.K) es ms:=by
 induction h with
 |nil=>exact fun _=>.nil
 |cons k v es m ms hk hv _ ih=>
  intro hb
  simp only[uF,En]at hb
  exact .cons _ _ _ _ _ (aH.shift (C:=C) (C':=.b3 C.K) 0 (fun _ _ _ h=>h) (fun b r bz=>by omega) hk hb.1.1) (aH.shift (C:=C) (C':=.b3 C.K) 0 (fun _ _ _ h=>h) (fun b r bz=>by omega) hv hb.1.2) (ih hb.2)
theorem q76 (hp:b6 P p)(hx:cJ P xc){k b ow h1 es}(hr:qm p xc k [] []=I (.map b,ow,h1))(hb:h1[b]?=I (.map es))(he:uF 0 es=Gp):Enters P k∧Rk P k es:=by
 obtain⟨lU,nq⟩:=F0 hp hx hr
 refine⟨lU,fun K w ht g1 g2=>?_⟩
 refine CallsIn.mono (nq _ _ _ [] .nil (q26 (P:=P) ht g1 g2)) ?_
 rintro e w' ⟨u,C',ω',rfl,hle,m',fZ,_⟩
 cases fZ with
 |map _ q hq=>
  obtain⟨cj,clock,k1,k2⟩:=m'.box b _ q hb hq
  refine⟨q,C'.K,cj,clock,rfl,⟨m'.size,fun r hr=>m'.frame r hr (by simp[aK.b3]) (by simp[aK.b3]),m'.os,m'.output⟩,hle.1,fun r o hr=>m'.old r o hr (by simp[aK.b3]),m'.know,m'.dq,?_,k1,k2.b3 he⟩
  rcases m'.fresh b q hq with h|h|h
  ·cases h
  ·exact h
  ·exact h.elim
theorem KN (hp:b6 P p)(hx:cJ P xc){k args v ow}(hr:qc p xc k args=I (v,ow))(hb:qw 0 args=Gp):Enters P k∧mF v=Gp∧IsoCall P k args v ow:=by
 unfold qc at hr
 split at hr
 ·rename_i f hf
  obtain⟨he,F1⟩:=hp.iK k f hf
  split at hr
  ·rename_i v' o' F2
   cases lz:mF v' with
   |false=>simp[lz]at hr
   |true=>
    simp only[lz,cond_true]at hr
    cases hr
    exact⟨he,lz,F1 args _ _ F2 lz hb⟩
  ·cases hr
 ·split at hr
  ·rename_i v0 o' h' F2
   split at hr
   ·rename_i v' Dz
    cases lz:mF v' with
    |false=>simp[lz]at hr
    |true=>
     simp only[lz,cond_true]at hr
     cases hr
     obtain⟨lU,nq⟩:=F0 hp hx F2
     ·refine⟨lU,lz,?_⟩
      intro K w vs ht h1 h2 ey
      have:=nq _ _ _ _ ey (q26 (P:=P) ht h1 h2)
      refine CallsIn.mono this ?_
      rintro e w' ⟨u,C',ω',rfl,hle,m',fZ,c5⟩
      refine⟨u,zn C' h' w',rfl,?_,fun r o x hr=>FV m' (hle.1 r o x hr),fun r o hr=>?_,fun r o x hr=>(KM m' hr).1,fun r o x hr=>(KM m' hr).2,q54 m' Dz fZ lz,?_⟩
      ·exact⟨m'.size,fun r hr=>m'.frame r hr (by simp[aK.b3]) (by simp[aK.b3]),m'.os,m'.output⟩
      ·have hold:=m'.old r o hr (by simp[aK.b3])
       unfold zn
       rw[if_neg]
       ·exact hold
       intro hh
       have:=jdg hle.w m' hh
       omega
      ·intro ho
       simp only[En]at ho
       have hℓ:=c5 ho.1
       refine⟨.slot 0,ω',?_⟩
       cases v0 with
       |list n sz xs=>
        have F3:v=.list n sz xs:=by
         simp only[aJ,kq,I.injEq]at Dz
         exact Dz.symm
        subst F3
        unfold aO at *
        split at hℓ
        ·obtain⟨g1,g2,g3,g4,g5,g6,g7⟩:=hℓ
         refine⟨g1,.inl (g2.resolve_right (by rw[hle.w];exact fun h=>h)),by simp[aK.b3],g4,g5,g6,fun o xW=>?_⟩
         show zn C' h' w' _ o=G2
         unfold zn
         rw[if_neg]
         ·exact g7 o xW
         ·rintro (⟨b,hb⟩|hh)
          ·exact g3 b hb
          ·rcases hh.is m' with⟨b,hb⟩|⟨b,_,_,_,_,_,_,h2⟩
           ·exact g3 b hb
           ·have:=h2.1;rw[g1]at this;simp at this
        all_goals trivial
       |_=>exact absurd ho.2 (by simp[AVal.cS])
   ·cases hr
  ·cases hr
end
section
variable {P:Program}{p:jz}{xc:XC}{C C0 C1:aK}{ω ω1:Nat→Option Loc}{w w' w0:World}{hp h1:qh}{env:Env}{tmps:Array Value}{B:Nat}{a:Act}{o:Oper}{d:Loc}
theorem aO.grow {K' ℓ x v}(hx:Ext w w')(hK:∀r o,r<w.heap.size→K' r o=C.K r o)(ho:aO C ω w B ℓ x v):aO { C with K:=K' } ω w' B ℓ x v:=by
 unfold aO at *
 split at ho
 ·obtain⟨h1,h2,h3,h4,h8,⟨cells,elem,h5,h6⟩,h7⟩:=ho
  have bz:=(Gu.1 h5).1
  exact⟨h1,h2,h3,h4,h8,⟨cells,elem,hx.get h5,h6⟩,fun o ho=>by
   show K' _ o=G2
   rw[hK _ o bz];exact h7 o ho⟩
 ·obtain⟨h1,h2,h3,h4,h8,⟨cells,elem,h5,h6⟩,h7⟩:=ho
  have bz:=(Gu.1 h5).1
  exact⟨h1,h2,h3,h4,h8,⟨cells,elem,hx.get h5,h6⟩,fun o ho=>by
   show K' _ o=G2
   rw[hK _ o bz];exact h7 o ho⟩
 ·trivial
theorem az.b3 {K'}(m:az P C ω w0 C0 hp w)(hx:Ext w w')(hle:∀r o x,C.K r o=I x→K' r o=I x)(hK:∀r o,r<w.heap.size→K' r o=C.K r o)(hk:∀r o x,K' r o=I x→w'.cell? ⟨r,o,G2⟩=I x)(h1:∀r o x,K' r o=I x→x.oneCell'=Gp):
  az P { C with K:=K' } ω w0 C0 hp w' where
 base:=m.base
 know:=hk
 dq:=h1
 apart b r o hb:=by
  show K' r o=G2
  rw[hK r o (m.lt b r hb).1];exact m.apart b r o hb
 inj:=m.inj
 lt b r hb:=⟨Le (m.lt b r hb).1 hx.size,(m.lt b r hb).2⟩
 size:=Jd m.size hx.size
 frame:=(m.ext hx).frame
 fo:=(m.ext hx).fo
 os:=(m.ext hx).os
 output:=(m.ext hx).output
 fresh:=m.fresh
 grown:=aK.le_trans m.grown ⟨hle,fun _ _ h=>h,rfl,fun _ h=>h,fun _ h=>h⟩
 old r o hr hw:=by
  show K' r o=_
  rw[hK r o (Le hr m.size)];exact m.old r o hr hw
 box b x r hb hr:=by
  have h0:=m.box b x r hb hr
  -- in the new world first,then in the richer context
  cases x with
  |hole=>exact h0
  |cells cs=>
   obtain⟨vs,elem,g1,g2,g3⟩:=h0
   exact⟨vs,elem,hx.get g1,g2,fun j c hc=>let ⟨v,a,q,b,d⟩:=g3 j c hc; ⟨v,a,q,aH.mono (C':={ C with K:=K' }) ⟨hle,fun _ _ h=>h,rfl,fun _ h=>h,fun _ h=>h⟩ b,fun e=>(d e).grow hx hK⟩⟩
  |map es=>obtain⟨cj,clock,g1,g2⟩:=h0;exact⟨cj,clock,hx.get g1,cI.mono (C:=C) (C':={ C with K:=K' }) ⟨hle,fun _ _ h=>h,rfl,fun _ h=>h,fun _ h=>h⟩ g2⟩
  |iter s pos=>exact hx.get h0
  |loop l=>obtain⟨lp,g1,g2⟩:=h0;exact⟨lp,hx.get g1,cz.mono (C:=C) (C':={ C with K:=K' }) ⟨hle,fun _ _ h=>h,rfl,fun _ h=>h,fun _ h=>h⟩ g2⟩
  |fU t e l=>obtain⟨p,v,g1,g2,g3,g4⟩:=h0;exact⟨p,v,hx.get g1,g2,g3,g4.grow hx hK⟩
  |dead=>obtain⟨cs,t,g1⟩:=h0;exact⟨cs,t,hx.get g1⟩
  |vec sz bN xs=>
   have hg:∀ {k:Nat} {c:Array Value} {t:TypeId},w.heap[k]?=I (.cells c t (0,0))→w'.heap[k]?=w.heap[k]?:=fun hk=>by rw[hx.get hk,hk]
   obtain⟨_,_,_,_,_,_,cs,t,g1⟩:=id h0
   refine ej.imp hle (fun _ h=>h) (fun _ h _=>h) (hg g1) (fun q n cap k=>⟨?_,k.grow hx hK⟩) h0
   obtain⟨_,_,_,_,_,⟨cells,elem,h5,_⟩,_⟩:=k
   exact hg h5
 iF q hq:=Le (m.iF q hq) hx.size
theorem ak.b3 {K'}(e:ak C ω w B env tmps)(hx:Ext w w')(hle:∀r o x,C.K r o=I x→K' r o=I x)(hK:∀r o,r<w.heap.size→K' r o=C.K r o):ak { C with K:=K' } ω w' B env tmps:=
 fun s x hs=>let ⟨v,h1,h2,h3⟩:=e s x hs; ⟨v,h1,aH.mono (C':={ C with K:=K' }) ⟨hle,fun _ _ h=>h,rfl,fun _ h=>h,fun _ h=>h⟩ h2,fun h=>(h3 h).grow hx hK⟩
theorem q31 (m:az P C ω w0 C0 hp w)(e:ak C ω w w0.heap.size env tmps){v ow u K'}(hx:Ext w w')(hle:∀r o x,C.K r o=I x→K' r o=I x)(hK:∀r o,r<w.heap.size→K' r o=C.K r o)(hk:∀r o x,K' r o=I x→w'.cell? ⟨r,o,G2⟩=I x)(h1:∀r o x,K' r o=I x→x.oneCell'=Gp)
  (lz:mF v=Gp) (hr:bT (.b3 K') v u) (ho:ow=Gp→∃ℓ ω',aO (.b3 K') ω' w' w.heap.size ℓ v u):zi P C0 w0 C tmps d env ⟨v,ow,G2,hp⟩ u w':=by
 have m':=m.b3 hx hle hK hk h1
 have e':=e.b3 hx hle hK
 have jW:bT { C with K:=K' } v u:=aH.shift (C:=.b3 K') (C':={ C with K:=K' }) 0 (fun _ _ _ h=>h) (fun b r bz=>by omega) hr lz
 have cX:C.le { C with K:=K' }:=⟨hle,fun _ _ h=>h,rfl,fun _ h=>h,fun _ h=>h⟩
 by_cases hkL:∃(n:Bool) (sz:Nat) (xs:List AVal) (ad:Addr) (len cap:Nat),v=.list n sz xs∧u=.slice (I ad) len cap∧ow=Gp
 ·obtain⟨n,sz,xs,ad,len,cap,rfl,rfl,rfl⟩:=hkL
  obtain⟨ℓ,ω',g1,Rm,g3,g4,g5,g6,g7⟩:=ho rfl
  have g2:w.heap.size≤ad.block:=Rm.resolve_right (fun h=>h)
  have AH:∀ℓ x v,aO C ω w w0.heap.size ℓ x v→aO { C with K:=K' } (cR ω ad.block d) w' w0.heap.size ℓ x v:=fun ℓ x v h=>by
   have h2:=(h.fresh (ℓ':=d) g2).grow hx hK
   exact h2
  refine⟨{ C with K:=K' },cR ω ad.block d,cX,?_,?_,jW,fun _=>?_⟩
  ·have:=(m.kI ad.block d g2).b3 hx hle hK hk h1
   exact this
  ·exact fun s x hs=>let ⟨v,h1,h2,h3⟩:=e s x hs; ⟨v,h1,aH.mono cX h2,fun h=>AH _ _ _ (h3 h)⟩
  ·refine⟨by simp[cR],.inl (Jd m.size g2),fun b hb=>?_,g4,g5,g6,g7⟩
   have:=(m.lt b _ hb).1
   omega
 by_cases dx:∃(n:Nat) (ad:Addr),v=.c8 n∧u=.pointer (I ad)∧ow=Gp
 ·obtain⟨n,ad,rfl,rfl,rfl⟩:=dx
  obtain⟨ℓ,ω',g1,Rm,g3,g4,g5,g6,g7⟩:=ho rfl
  have g2:w.heap.size≤ad.block:=Rm.resolve_right (fun h=>h)
  have AH:∀ℓ x v,aO C ω w w0.heap.size ℓ x v→aO { C with K:=K' } (cR ω ad.block d) w' w0.heap.size ℓ x v:=fun ℓ x v h=>by
   have h2:=(h.fresh (ℓ':=d) g2).grow hx hK
   exact h2
  refine⟨{ C with K:=K' },cR ω ad.block d,cX,?_,?_,jW,fun _=>?_⟩
  ·have:=(m.kI ad.block d g2).b3 hx hle hK hk h1
   exact this
  ·exact fun s x hs=>let ⟨v,h1,h2,h3⟩:=e s x hs; ⟨v,h1,aH.mono cX h2,fun h=>AH _ _ _ (h3 h)⟩
  ·refine⟨by simp[cR],.inl (Jd m.size g2),fun b hb=>?_,g4,g5,g6,g7⟩
   have:=(m.lt b _ hb).1
   omega
 ·refine⟨{ C with K:=K' },ω,cX,m',e',jW,fun h=>?_⟩
  cases v with
  |list n sz xs=>
   cases u with
   |slice q len cap=>
    cases q with
    |some ad=>exact absurd ⟨_,_,_,_,_,_,rfl,rfl,h⟩ hkL
    |none=>trivial
   |_=>trivial
  |c8 n=>
   cases u with
   |pointer q=>
    cases q with
    |some ad=>exact absurd ⟨_,_,rfl,rfl,h⟩ dx
    |none=>trivial
   |_=>trivial
  |_=>trivial
theorem jgh (m:az P C ω w0 C0 hp w)(e:ak C ω w w0.heap.size env tmps){b q K' es cj clock}(hx:Ext w w')(hle:∀r o x,C.K r o=I x→K' r o=I x)(hK:∀r o,r<w.heap.size→K' r o=C.K r o)(hk:∀r o x,K' r o=I x→w'.cell? ⟨r,o,G2⟩=I x)(h1:∀r o x,K' r o=I x→x.oneCell'=Gp)
  (hh:hp[b]?=I .hole) (hq:w.heap.size≤q) (hg:w'.heap[q]?=I (.map cj clock)) (hr:cI (.b3 K') es cj.toList):zi P C0 w0 C tmps d env ⟨.map b,Gy,G2,hp.set b (.map es)⟩ (.map (I q)) w':=by
 have m':=m.b3 hx hle hK hk h1
 have e':=e.b3 hx hle hK
 have cX:C.le { C with K:=K' }:=⟨hle,fun _ _ h=>h,rfl,fun _ h=>h,fun _ h=>h⟩
 obtain⟨m2,e2,jM⟩:=m'.FG e' hh hg (fun k hk=>by have:=(m.lt k q hk).1;omega) (Jd m.size hq) (cI.imp (C:=.b3 K') (C':={ C with K:=K' }) ⟨fun _ _ _ h=>h,fun b r h=>by simp[aK.b3]at h⟩ hr)
 exact⟨_,ω,aK.le_trans cX jM,m2,e2,.map _ _ (by simp[aK.box]),by simp⟩
theorem F4 {C C' x v}(hp:nW x=Gp)(h:bT C x v):bT C' x v:=by
 cases x<;>simp only[nW,Gz]at hp<;>cases h<;>constructor
theorem az.AJ (m:az P C ω w0 C0 hp w)(e:ak C ω w w0.heap.size env tmps){b q K' cells}{t:TypeId}{cs}(hx:Ext w w')(hle:∀r o x,C.K r o=I x→K' r o=I x)(hK:∀r o,r<w.heap.size→K' r o=C.K r o)(hk:∀r o x,K' r o=I x→w'.cell? ⟨r,o,G2⟩=I x)(h1:∀r o x,K' r o=I x→x.oneCell'=Gp)
  (hq:w.heap.size≤q) (hn:∀o,K' q o=G2) (hh:hp[b]?=I .hole) (hg:w'.heap[q]?=I (.cells cells t (0,0))) (hl:cs.length≤cells.size)
  (hcs:∀(j:Nat) (c:AVal×Bool),cs[j]?=I c→∃v,cells[j]?=I v∧v.oneCell'=Gp∧bT (({ C with K:=K' }:aK).box b q) c.1 v∧c.2=Gy):
  az P (({ C with K:=K' }:aK).box b q) ω w0 C0 (hp.set b (.cells cs)) w'∧ak (({ C with K:=K' }:aK).box b q) ω w' w0.heap.size env tmps∧C.le (({ C with K:=K' }:aK).box b q):=by
 have m':=m.b3 hx hle hK hk h1
 have hβ:=FE m hh
 have AA:C.le { C with K:=K' }:=⟨hle,fun _ _ h=>h,rfl,fun _ h=>h,fun _ h=>h⟩
 have jM:({ C with K:=K' }:aK).le (({ C with K:=K' }:aK).box b q):=aK.kM (C:={ C with K:=K' }) (r:=q) hβ
 have cX:=aK.le_trans AA jM
 have bz:b<hp.length:=(Gv.1 hh).1
 have KO:∀k,C.β k≠I q:=fun k hk=>by have:=(m.lt k q hk).1;omega
 have c5:∀ℓ x v,aO C ω w w0.heap.size ℓ x v→aO (({ C with K:=K' }:aK).box b q) ω w' w0.heap.size ℓ x v:=fun ℓ x v h=>aO.grow (C:=C.box b q) hx hK (aO.box (.inl hq) h)
 refine⟨{ m' with apart:=?_,inj:=?_,lt:=?_,fresh:=?_,grown:=aK.le_trans m'.grown jM,box:=?_ },?_,cX⟩
 ·intro k r o hk
  simp only[aK.box]at hk
  split at hk
  ·cases hk;exact hn o
  ·exact m'.apart k r o hk
 ·intro k k' r hk eQ
  simp only[aK.box]at hk eQ
  split at hk<;>split at eQ
  ·rename_i h1 h2;rw[h1,h2]
  ·cases hk;exact absurd eQ (KO k')
  ·cases eQ;exact absurd hk (KO k)
  ·exact m.inj k k' r hk eQ
 ·intro k r hk
  rw[If]
  simp only[aK.box]at hk
  split at hk
  ·rename_i h1;cases hk;subst h1;exact⟨(Gu.1 hg).1,bz⟩
  ·exact m'.lt k r hk
 ·intro k r hk
  simp only[aK.box]at hk
  split at hk
  ·cases hk;exact .inr (.inl (Jd m.size hq))
  ·exact m.fresh k r hk
 ·intro k y r hy hk
  simp only[aK.box]at hk
  split at hk
  ·rename_i h1
   subst h1
   cases hk
   rw[Jc bz]at hy
   cases hy
   refine⟨cells,t,hg,hl,fun j c hc=>?_⟩
   obtain⟨v,a1,a2,a3,a4⟩:=hcs j c hc
   exact⟨v,a1,a2,a3,fun h=>by rw[a4]at h;cases h⟩
  ·rename_i h1
   rw[E9 (H9 h1)]at hy
   have h0:=m.box k y r hy hk
   cases y with
   |hole=>exact h0
   |cells cs=>
    obtain⟨vs,elem,g1,g2,g3⟩:=h0
    exact⟨vs,elem,hx.get g1,g2,fun j c hc=>let ⟨v,a,q,b,d⟩:=g3 j c hc; ⟨v,a,q,aH.mono cX b,fun e=>c5 _ _ _ (d e)⟩⟩
   |map es=>obtain⟨cj,clock,g1,g2⟩:=h0;exact⟨cj,clock,hx.get g1,cI.mono cX g2⟩
   |iter s pos=>exact hx.get h0
   |loop l=>obtain⟨lp,g1,g2⟩:=h0;exact⟨lp,hx.get g1,cz.mono cX g2⟩
   |fU t e l=>obtain⟨p,v,g1,g2,g3,g4⟩:=h0;exact⟨p,v,hx.get g1,g2,g3,c5 _ _ _ g4⟩
   |dead=>obtain⟨cs,t,g1⟩:=h0;exact⟨cs,t,hx.get g1⟩
   |vec sz bN xs=>
    have KP:∀ {k:Nat} {c:Array Value} {t:TypeId},w.heap[k]?=I (.cells c t (0,0))→w'.heap[k]?=w.heap[k]?:=fun hk=>by rw[hx.get hk,hk]
    obtain⟨_,_,_,_,_,_,cs,t,g1⟩:=id h0
    refine ej.imp hle (fun _ h=>h) (fun _ h _=>h) (KP g1) (fun q n cap k'=>⟨?_,c5 _ _ _ k'⟩) h0
    obtain⟨_,_,_,_,_,⟨cells,elem,h5,_⟩,_⟩:=k'
    exact KP h5
 ·exact fun s y hy=>let ⟨v,h1,h2,h3⟩:=e s y hy; ⟨v,h1,aH.mono cX h2,fun h=>c5 _ _ _ (h3 h)⟩
theorem az.F5 (m:az P C ω w0 C0 hp w){b x}(hh:hp[b]?=I .hole):az P C ω w0 C0 (hp.set b x) w:=by
 have hβ:=FE m hh
 refine { m with lt:=fun k r hk=>by rw[If];exact m.lt k r hk,box:=fun k y r hy hk=>?_ }
 by_cases kL:k=b
 ·subst kL;rw[hβ]at hk;cases hk
 ·rw[E9 (H9 kL)]at hy
  exact m.box k y r hy hk
theorem jea (m:az P C ω w0 C0 hp w)(e:ak C ω w w0.heap.size env tmps){v ow u h0 r res K'}(hx:Ext w w')(hle:∀r o x,C.K r o=I x→K' r o=I x)(hK:∀r o,r<w.heap.size→K' r o=C.K r o)(hk:∀r o x,K' r o=I x→w'.cell? ⟨r,o,G2⟩=I x)(h1:∀r o x,K' r o=I x→x.oneCell'=Gp)
  (hr:bT (.b3 K') v u) (ho:ow=Gp→∃ℓ ω',aO (.b3 K') ω' w' w.heap.size ℓ v u) (ht:qC h0 hp r v ow=I res):zi P C0 w0 C tmps d env res u w':=by
 unfold qC at ht
 split at ht
 ·rename_i sz _
  split at ht
  ·rename_i h' hn
   have hv:=qy ht
   obtain⟨hh,rfl⟩:=yx hn
   subst hv
   have cX:C.le { C with K:=K' }:=⟨hle,fun _ _ h=>h,rfl,fun _ h=>h,fun _ h=>h⟩
   refine⟨{ C with K:=K' },ω,cX,(m.b3 hx hle hK hk h1).F5 hh,e.b3 hx hle hK,aH.shift (C:=.b3 K') (C':={ C with K:=K' }) 0 (fun _ _ _ h=>h) (fun b r bz=>by omega) hr (by rfl),fun h=>by simp at h⟩
  ·cases ht
 ·rename_i sz xs
  cases hb:(xs.flatMap AVal.flat).all nW with
  |false=>rw[hb]at ht;cases ht
  |true=>
   rw[hb]at ht
   simp only[cond_true]at ht
   split at ht
   ·rename_i h' hn
    have hv:=qy ht
    obtain⟨hh,rfl⟩:=yx hn
    subst hv
    obtain⟨ℓ,ω',ho⟩:=ho rfl
    cases hr with
    |jJ sz a mH=>
     simp only[aO]at ho
     exact absurd ho.2.2.2.1 mH
    |list sz _ q o cap hl dl=>
     simp only[aO]at ho
     obtain⟨o1,o2,o3,_,o5,⟨cells,elem,o6,o7,_⟩,o8⟩:=ho
     subst o5
     have hq:w.heap.size≤q:=o2.resolve_right (fun h=>h)
     let K2:Nat→Nat→Option Value:=fun r o=>if r=q then G2 else K' r o
     have F6:∀ {r o x},K2 r o=I x→K' r o=I x:=by
      intro r o x h
      simp only[K2]at h
      split at h
      ·cases h
      ·exact h
     have jM:∀r o x,C.K r o=I x→K2 r o=I x:=by
      intro r o x h
      have bz:r<w.heap.size:=by
       have:=m.know r o x h
       unfold World.cell? at this
       split at this
       ·rename_i c _ _ hc;exact(Gu.1 hc).1
       ·cases this
      have bL:r≠q:=by omega
      simp only[K2,if_neg bL]
      exact hle r o x h
     have Rn:∀r o,r<w.heap.size→K2 r o=C.K r o:=by
      intro r o bz
      have bL:r≠q:=by omega
      simp only[K2,if_neg bL]
      exact hK r o bz
     have hcells:=bA.cells dl
     have hlen:(xs.flatMap AVal.flat).length≤cells.size:=by
      rcases Nat.eq_zero_or_pos (xs.flatMap AVal.flat).length with h0|h0
      ·omega
      ·obtain⟨y,hy⟩:∃y,(xs.flatMap AVal.flat)[(xs.flatMap AVal.flat).length-1]?=I y:=⟨_,Jf (by omega)⟩
       obtain⟨v,hv,_⟩:=cy.get hcells hy
       have h3:=hk _ _ _ hv
       unfold World.cell? at h3
       rw[o6]at h3
       simp only[Ld,Gz,if_false]at h3
       have:=(Gu.1 h3).1
       omega
     obtain⟨m2,e2,l2⟩:=m.AJ e (b:=h0+r) (q:=q) (K':=K2) (cells:=cells) (t:=elem) (cs:=cellsOf (xs.flatMap AVal.flat)) hx jM Rn (fun r o x h=>hk r o x (F6 h)) (fun r o x h=>h1 r o x (F6 h)) hq (fun o=>by simp[K2]) hh o6 (by rw[show(cellsOf (xs.flatMap AVal.flat)).length=(xs.flatMap AVal.flat).length by simp[cellsOf]];exact hlen) (by
      intro j c hc
      simp only[cellsOf,Nk,Gt]at hc
      obtain⟨y,hy,rfl⟩:=hc
      obtain⟨v,hv,pz⟩:=cy.get hcells hy
      have h3:=hk _ _ _ hv
      unfold World.cell? at h3
      rw[o6]at h3
      simp only[Ld,Gz,if_false,Qr]at h3
      exact⟨v,h3,h1 _ _ _ hv,F4 (G6.1 hb y (Jg hy)) pz,rfl⟩)
     exact⟨_,ω,l2,m2,e2,.ms _ 0 _ q cap (by simp[aK.box]) hl,fun h=>by simp at h⟩
   ·cases ht
 ·cases ht
theorem q9u (m:az P C ω w0 C0 hp w){x x' v}(hf:Qa hp x=I x')(h:bT C x v)(hb:Abs.below 0 x'=Gp):bT (.b3 (zn C hp w)) x' v:=by
 unfold Qa at hf
 split at hf
 ·rename_i b len
  split at hf
  ·rename_i cs hcs
   cases hc:(Gx (len*(cs.length / len)) cs.length&&G3 0 (cs.length / len)&&cs.all (fun c=>nW c.1))with
   |false=>
    rw[hc,cond_false]at hf
    cases hl:Gx len 0 with
    |false=>rw[hl]at hf;cases hf
    |true=>
     rw[hl]at hf
     have hl:=Es hl
     subst hl
     simp only[cond_true,I.injEq]at hf
     subst hf
     obtain⟨r,cap,iH,hle,rfl⟩:=h.eX
     exact aH.list (C:=.b3 (zn C hp w)) 8 [] r 0 cap (Nat.zero_le _) (.fL _ _ _)
   |true=>
    rw[hc]at hf
    simp only[cond_true,I.injEq]at hf
    subst hf
    simp only[En]at hc
    obtain⟨⟨c1,c2⟩,c3⟩:=hc
    have c1:=Es c1
    have c2:0<cs.length / len:=by simpa using c2
    obtain⟨r,cap,iH,hle,rfl⟩:=h.eX
    obtain⟨vs,elem,k1,k2,k3⟩:=m.box b _ r (vW hcs) iH
    have dl:bA (.b3 (zn C hp w)) r (cs.length / len) (mG (cs.length / len) len (cs.map (·.1))) 0:=by
     refine Rc c2 (by rw[T6];exact c1.symm) (fun x hx=>?_) fun j x hx=>?_
     ·obtain⟨c,hc,rfl⟩:=Eah.1 hx
      have:=G6.1 c3 c hc
      cases hq:c.1<;>rw[hq]at this<;>first|rfl|cases this
     ·rw[Nk,Gt]at hx
      obtain⟨c,hc,rfl⟩:=hx
      obtain⟨u,q1,q2,q3,_⟩:=k3 j c hc
      have eg:w.cell? ⟨r,0+j,G2⟩=I u:=by
       unfold World.cell?
       rw[k1]
       simp only[Ld,Gz,if_false,Qr]
       exact q1
      exact⟨u,Q9 iH eg q2,F4 (G6.1 c3 c (Jg hc)) q3⟩
    have:=aH.list (C:=.b3 (zn C hp w)) (cs.length / len) (mG (cs.length / len) len (cs.map (·.1))) r 0 cap (by rw[FW];exact hle) dl
    rw[FW]at this
    exact this
  ·cases hf
 ·cases hf
  exact Ra m h hb
theorem qr9 (m:az P C ω w0 C0 hp w):∀ {xs fQ:List AVal} {vs:List Value},xG hp xs=I fQ→aW C xs vs→qw 0 fQ=Gp→aW (.b3 (zn C hp w)) fQ vs
 | [],fQ,vs,hf,h,_=>by
  simp only[xG,I.injEq]at hf
  subst hf
  cases h
  exact .nil
 |x::xs,fQ,vs,hf,h,hb=>by
  simp only[xG]at hf
  split at hf
  ·rename_i y ys h1 h2
   cases hf
   cases h with
   |cons _ _ v vs hx h=>
    simp only[qw,En]at hb
    exact .cons _ _ _ _ (q9u m h1 hx hb.1) (qr9 m h2 h hb.2)
  ·cases hf
theorem quh {C C' x v}(hp:xH x=Gp)(h:bT C x v):bT C' x v:=by
 cases x with
 |agg cs=>
  obtain⟨vs,rfl,hl⟩:=h.eF
  refine .agg _ _ ?_
  simp only[xH]at hp
  clear h
  induction cs generalizing vs with
  |nil=>cases hl;exact .nil
  |cons c cs ih=>
   cases hl with
   |cons _ _ v vs hx hl=>
    simp only[Eaf,En]at hp
    exact .cons _ _ _ _ (F4 hp.1 hx) (ih hp.2 vs hl)
 |_=>exact F4 hp h
theorem ji1 {C C' x v}(h:bT C x v):bT C' (Dh x) v:=by
 unfold Dh
 cases hp:xH x with
 |true=>exact quh hp h
 |false=>exact .any _
theorem qzq {C C'}:∀ {xs:List AVal} {vs:List Value},aW C xs vs→aW C' (xs.map Dh) vs
 | [],_,h=>by cases h;exact .nil
 |x::xs,_,h=>by
  cases h with
  |cons _ _ v vs hx h=>exact .cons _ _ _ _ (ji1 hx) (qzq h)
open Classical in
theorem jf3 (m:az P C ω w0 C0 hp w)(e:ak C ω w w0.heap.size env tmps){v v' ow F7 u K'}(hx:Ext w w')(hle:∀r o x,zn C hp w r o=I x→K' r o=I x)(hK:∀r o,r<w.heap.size→K' r o=zn C hp w r o)(hk:∀r o x,K' r o=I x→w'.cell? ⟨r,o,G2⟩=I x)(h1:∀r o x,K' r o=I x→x.oneCell'=Gp)
  (hr:bT (.b3 K') v u) (ho:ow=Gp→∃ℓ ω',aO (.b3 K') ω' w' w.heap.size ℓ v u) (ht:Kj v ow=I (v',F7)):zi P C0 w0 C tmps d env ⟨v',F7,G2,hp⟩ u w':=by
 let K2:Nat→Nat→Option Value:=fun r o=>if Hid C hp r then G2 else K' r o
 have F6:∀ {r o x},K2 r o=I x→K' r o=I x:=by
  intro r o x h
  simp only[K2]at h
  split at h
  ·cases h
  ·exact h
 have jM:∀r o x,C.K r o=I x→K2 r o=I x:=by
  intro r o x h
  have hn:¬Hid C hp r:=by
   intro hh
   rw[Q7 m hh o]at h;cases h
  simp only[K2,if_neg hn]
  exact hle r o x (FV m h)
 have Rn:∀r o,r<w.heap.size→K2 r o=C.K r o:=by
  intro r o bz
  by_cases hb:Hid C hp r
  ·simp only[K2,if_pos hb]
   exact(Q7 m hb o).symm
  ·simp only[K2,if_neg hb]
   rw[hK r o bz]
   unfold zn
   rw[if_neg hb]
 have fin:∀(lz:mF v'=Gp) (jW:bT (.b3 K2) v' u) (xW:F7=Gp→∃ℓ ω',aO (.b3 K2) ω' w' w.heap.size ℓ v' u),zi P C0 w0 C tmps d env ⟨v',F7,G2,hp⟩ u w':=fun lz jW xW=>
  q31 m e hx jM Rn (fun r o x h=>hk r o x (F6 h)) (fun r o x h=>h1 r o x (F6 h)) lz jW xW
 have gX:∀y,nW y=Gp→Abs.below 0 y=Gp:=fun y hy=>by cases y<;>first|rfl|cases hy
 have qZ:∀ys:List AVal,ys.all nW=Gp→qw 0 ys=Gp:=by
  intro ys
  induction ys with
  |nil=>intro _;rfl
  |cons y ys ih=>
   intro h
   simp only[Eaf,En]at h
   simp only[qw,En]
   exact⟨gX y h.1,ih h.2⟩
 have og:∀y,xH y=Gp→Abs.below 0 y=Gp:=fun y hy=>by
  cases y with
  |agg cs=>simp only[Abs.below];exact qZ cs hy
  |_=>exact gX _ hy
 unfold Kj at ht
 split at ht
 ·rename_i sz xs
  cases hb:(xs.flatMap AVal.flat).all nW with
  |false=>rw[hb]at ht;cases ht
  |true=>
   rw[hb]at ht
   simp only[cond_true,I.injEq,Qw.injEq]at ht
   obtain⟨rfl,rfl⟩:=ht
   obtain⟨ℓ,ω',ho⟩:=ho rfl
   cases hr with
   |jJ sz a mH=>
    simp only[aO]at ho
    exact absurd ho.2.2.2.1 mH
   |list sz _ q o cap hl dl=>
    simp only[aO]at ho
    obtain⟨o1,o2,o3,o4,o5,o6,o8⟩:=ho
    have hq:w.heap.size≤q:=o2.resolve_right (fun h=>h)
    have DA:¬Hid C hp q:=by
     intro hh
     have:=jsq m hh
     omega
    have hKq:∀o,K2 q o=K' q o:=fun o=>by simp only[K2,if_neg DA]
    have hcells:=bA.cells dl
    have qN:bA (.b3 K2) q sz xs o:=by
     refine bA.eU (Rb fun j x hx=>?_) (bA.sized dl)
     obtain⟨u,hu,hxu⟩:=cy.get hcells hx
     exact⟨u,by rw[show(aK.b3 K2).K=K2 from rfl,hKq];exact hu,F4 (G6.1 hb x (Jg hx)) hxu⟩
    refine fin ?_ (.list sz _ q o cap hl qN) fun _=>⟨ℓ,ω',?_⟩
    ·show mF _=Gp
     unfold mF
     have jK:∀ys:List AVal,(ys.flatMap AVal.flat).all nW=Gp→qw 0 ys=Gp:=by
      intro ys
      induction ys with
      |nil=>intro _;rfl
      |cons y ys ih=>
       intro h
       rw[Ye,List.all_append,En]at h
       simp only[qw,En]
       exact⟨by rw[←Kq];exact qZ _ h.1,ih h.2⟩
     simp only[Abs.below]
     exact jK xs hb
    ·simp only[aO]
     exact⟨o1,o2,o3,o4,o5,o6,fun o' xW=>by rw[show(aK.b3 K2).K=K2 from rfl,hKq];exact o8 o' xW⟩
 ·simp only[I.injEq,Qw.injEq]at ht
  obtain⟨rfl,rfl⟩:=ht
  refine fin rfl ?_ (fun h=>by cases h)
  cases hr
  exact .jI _
 ·rename_i vs _
  simp only[I.injEq,Qw.injEq]at ht
  obtain⟨rfl,rfl⟩:=ht
  obtain⟨us,rfl,hl⟩:=hr.n8
  refine fin ?_ (.aI _ _ (qzq hl)) (fun h=>by cases h)
  show Abs.below 0 _=Gp
  simp only[Abs.below]
  have:∀ys:List AVal,qw 0 (ys.map Dh)=Gp:=by
   intro ys
   induction ys with
   |nil=>rfl
   |cons y ys ih=>
    simp only[Eag,qw,En]
    refine⟨?_,ih⟩
    unfold Dh
    cases hp:xH y with
    |true=>exact og y hp
    |false=>rfl
  exact this _
 ·cases hb:xH v with
  |false=>rw[hb]at ht;cases ht
  |true=>
   rw[hb]at ht
   simp only[cond_true,I.injEq,Qw.injEq]at ht
   obtain⟨rfl,rfl⟩:=ht
   exact fin (og v hb) (quh hb hr) (fun h=>by cases h)
def aK.shared (C:aK)(ω:Nat→Option Loc)(w0:World):aK:={ C with W:=fun r=>(∃b j,ω r=I (.cell b j))∧(w0.heap.size≤r∨C.W r) }
def rh (ω:Nat→Option Loc):Nat→Option Loc:=fun r=>match ω r with
 |some (.cell b j)=>I (.cell b j)
 |_=>G2
theorem aO.shared {b j x v}(ho:aO C ω w w0.heap.size (.cell b j) x v):aO (C.shared ω w0) (rh ω) w w.heap.size (.cell b j) x v:=by
 unfold aO at *
 split at ho
 ·obtain⟨g1,g2,g3⟩:=ho
  exact⟨by simp[rh,g1],.inr ⟨⟨b,j,g1⟩,g2⟩,g3⟩
 ·obtain⟨g1,g2,g3⟩:=ho
  exact⟨by simp[rh,g1],.inr ⟨⟨b,j,g1⟩,g2⟩,g3⟩
 ·trivial
theorem Ro (m:az P C ω w0 C0 hp w):az P (C.shared ω w0) (rh ω) w (C.shared ω w0) hp w where
 base:=⟨m.tabs,fun g hg=>by
  obtain⟨h1,h2⟩:=m.base.2 g hg
  have bz:=(m.base.1 g hg).1
  refine⟨fun b hb=>?_,fun h=>?_⟩
  ·rcases m.fresh b g hb with h|h|h
   ·exact h1 b h
   ·omega
   ·exact h2 h
  ·rcases h.2 with h|h
   ·omega
   ·rw[m.grown.w]at h;exact h2 h⟩
 know:=m.know
 dq:=m.dq
 apart:=m.apart
 inj:=m.inj
 lt:=m.lt
 size:=Nat.le_refl _
 frame _ _ _ _:=rfl
 fo:=m.fo
 os:=rfl
 output:=rfl
 fresh _ _ h:=.inl h
 grown:=aK.le_refl _
 old _ _ _ _:=rfl
 box b x r hx hb:=bK.imp (C:=C) (C':=C.shared ω w0) ⟨fun _ _ _ h=>h,fun _ _ h=>h⟩ rfl (fun _ _ _ ho=>ho.shared) (m.box b x r hx hb)
 iF:=m.iF
def nu (ω ω1:Nat→Option Loc)(n:Nat):Nat→Option Loc:=fun r=>match decide (r<n),ω r with
 |true,I (.slot s)=>I (.slot s)
 |_,_=>rh ω1 r
def aK.back (C1 C:aK):aK:={ C1 with W:=C.W }
theorem KQ (hle:(C.shared ω w0).le C1):C.le (C1.back C):=⟨hle.k,hle.b,rfl,hle.d,hle.t⟩
theorem aO.ri {s x v}(m1:az P C1 ω1 w (C.shared ω w0) h1 w')(ho:aO C ω w w0.heap.size (.slot s) x v):aO (C1.back C) (nu ω ω1 w.heap.size) w' w0.heap.size (.slot s) x v:=by
 unfold aO at *
 split at ho
 ·rename_i ad len cap
  obtain⟨g1,g2,g3,g4,g8,⟨cells,elem,g5,g6⟩,g7⟩:=ho
  have bz:=(Gu.1 g5).1
  have AK:¬(C.shared ω w0).W ad.block:=fun h=>by
   obtain⟨⟨b,j,h⟩,_⟩:=h
   rw[g1]at h;cases h
  refine⟨by simp[nu,bz,g1],g2,fun b hb=>?_,g4,g8,⟨cells,elem,?_,g6⟩,fun o ho=>?_⟩
  ·rcases m1.fresh b _ hb with h|h|h
   ·exact g3 b h
   ·omega
   ·exact AK h
  ·rw[m1.frame _ bz g3 AK];exact g5
  ·have:=m1.old _ o bz AK
   show C1.K _ o=G2
   rw[this];exact g7 o ho
 ·rename_i ad
  obtain⟨g1,g2,g3,g4,g8,⟨cells,elem,g5,g6⟩,g7⟩:=ho
  have bz:=(Gu.1 g5).1
  have AK:¬(C.shared ω w0).W ad.block:=fun h=>by
   obtain⟨⟨b,j,h⟩,_⟩:=h
   rw[g1]at h;cases h
  refine⟨by simp[nu,bz,g1],g2,fun b hb=>?_,g4,g8,⟨cells,elem,?_,g6⟩,fun o ho=>?_⟩
  ·rcases m1.fresh b _ hb with h|h|h
   ·exact g3 b h
   ·omega
   ·exact AK h
  ·rw[m1.frame _ bz g3 AK];exact g5
  ·have:=m1.old _ o bz AK
   show C1.K _ o=G2
   rw[this];exact g7 o ho
 ·trivial
theorem aO.rj {b j x v}(m:az P C ω w0 C0 hp w)(hW:C1.W=(C.shared ω w0).W)(ho:aO C1 ω1 w' w.heap.size (.cell b j) x v):aO (C1.back C) (nu ω ω1 w.heap.size) w' w0.heap.size (.cell b j) x v:=by
 unfold aO at *
 split at ho
 ·rename_i ad len cap
  obtain⟨g1,g2,g3⟩:=ho
  rw[hW]at g2
  refine⟨?_,?_,g3⟩
  ·unfold nu
   split
   ·rename_i s bz hs
    have bz:=of_decide_eq_true bz
    rcases g2 with g2|⟨⟨b',j',g2⟩,_⟩
    ·omega
    ·rw[hs]at g2;cases g2
   ·simp[rh,g1]
  ·rcases g2 with g2|⟨_,g2⟩
   ·exact .inl (Jd m.size g2)
   ·exact g2
 ·rename_i ad
  obtain⟨g1,g2,g3⟩:=ho
  rw[hW]at g2
  refine⟨?_,?_,g3⟩
  ·unfold nu
   split
   ·rename_i s bz hs
    have bz:=of_decide_eq_true bz
    rcases g2 with g2|⟨⟨b',j',g2⟩,_⟩
    ·omega
    ·rw[hs]at g2;cases g2
   ·simp[rh,g1]
  ·rcases g2 with g2|⟨_,g2⟩
   ·exact .inl (Jd m.size g2)
   ·exact g2
 ·trivial
theorem qr8 (m:az P C ω w0 C0 hp w)(e:ak C ω w w0.heap.size env tmps)(m1:az P C1 ω1 w (C.shared ω w0) h1 w')(hle:(C.shared ω w0).le C1):
  az P (C1.back C) (nu ω ω1 w.heap.size) w0 C0 h1 w'∧ak (C1.back C) (nu ω ω1 w.heap.size) w' w0.heap.size env tmps:=by
 have hsh:∀r,r<w0.heap.size→¬C0.W r→¬(C.shared ω w0).W r:=fun r hr hw h=>by
  rcases h.2 with h|h
  ·omega
  ·rw[m.grown.w]at h;exact hw h
 constructor
 ·refine { base:=m.base,know:=m1.know,dq:=m1.dq,apart:=m1.apart,inj:=m1.inj,lt:=m1.lt,size:=Jd m.size m1.size,frame:=?_,fo:=m1.fo,os:=m1.os.trans m.os,output:=m1.output.trans m.output,fresh:=?_,grown:=aK.le_trans m.grown (KQ hle),old:=?_,box:=?_,iF:=m1.iF }
  ·intro r hr hn hw
   have jD:∀b,C.β b≠I r:=fun b hb=>by
    rcases m.fresh b r hb with h|h|h
    ·exact hn b h
    ·omega
    ·exact hw h
   rw[m1.frame r (Le hr m.size) jD (hsh r hr hw)]
   exact m.frame r hr hn hw
  ·intro b r hb
   rcases m1.fresh b r hb with h|h|h
   ·exact m.fresh b r h
   ·exact .inr (.inl (Jd m.size h))
   ·exact .inr (h.2.imp id (fun h=>by rw[←m.grown.w];exact h))
  ·intro r o hr hw
   show C1.K r o=_
   rw[m1.old r o (Le hr m.size) (hsh r hr hw)]
   exact m.old r o hr hw
  ·intro b x r hx hb
   exact bK.imp (C:=C1) (C':=C1.back C) ⟨fun _ _ _ h=>h,fun _ _ h=>h⟩ rfl (fun _ _ _ ho=>ho.rj m hle.w) (m1.box b x r hx hb)
 ·exact fun s x hs=>let ⟨v,k1,k2,k3⟩:=e s x hs; ⟨v,k1,aH.mono (KQ hle) k2,fun h=>(k3 h).ri m1⟩
theorem bT.back {x v}(h:bT C1 x v):bT (C1.back C) x v:=aH.imp (C:=C1) (C':=C1.back C) ⟨fun _ _ _ h=>h,fun _ _ h=>h⟩ h
theorem qr5 (m:az P C ω w0 C0 hp w)(e:ak C ω w w0.heap.size env tmps)(m1:az P C1 ω1 w (C.shared ω w0) h1 w')(hle:(C.shared ω w0).le C1){v ow u}(hr:bT C1 v u)(ho:ow=Gp→aO C1 ω1 w' w.heap.size (.slot 0) v u):
  zi P C0 w0 C tmps d env ⟨v,ow,G2,jp hp.length v h1⟩ u w':=by
 have hC:∀b r,C.β b=I r→b<hp.length:=fun b r h=>(m.lt b r h).2
 have cX:=KQ hle
 have jW:bT (C1.back C) v u:=hr.back
 -- the result's ownership first
 have step:∃ω',az P (C1.back C) ω' w0 C0 h1 w'∧ak (C1.back C) ω' w' w0.heap.size env tmps∧(ow=Gp→aO (C1.back C) ω' w' w0.heap.size d v u):=by
  obtain⟨m2,e2⟩:=qr8 m e m1 hle
  cases ow with
  |false=>exact⟨_,m2,e2,by simp⟩
  |true=>
   by_cases hk:∃(n:Bool) (sz:Nat) (xs:List AVal) (ad:Addr) (len cap:Nat),v=.list n sz xs∧u=.slice (I ad) len cap
   ·obtain⟨n,sz,xs,ad,len,cap,rfl,rfl⟩:=hk
    obtain⟨g1,g2,g3,g4⟩:=ho rfl
    rw[hle.w]at g2
    have iT:nu ω ω1 w.heap.size ad.block=G2:=by
     unfold nu
     split
     ·rename_i s bz hs
      have bz:=of_decide_eq_true bz
      rcases g2 with g2|⟨⟨b',j',g2⟩,_⟩
      ·omega
      ·rw[hs]at g2;cases g2
     ·simp[rh,g1]
    refine⟨cR (nu ω ω1 w.heap.size) ad.block d,m2.cR _ _ (by simp[iT]),?_,fun _=>?_⟩
    ·exact fun s x hs=>let ⟨v,k1,k2,k3⟩:=e2 s x hs; ⟨v,k1,k2,fun h=>(k3 h).other (.inl (by simp[iT]))⟩
    ·refine⟨by simp[cR],?_,g3,g4⟩
     rcases g2 with g2|⟨_,g2⟩
     ·exact .inl (Jd m.size g2)
     ·exact g2
   by_cases dx:∃(n:Nat) (ad:Addr),v=.c8 n∧u=.pointer (I ad)
   ·obtain⟨n,ad,rfl,rfl⟩:=dx
    obtain⟨g1,g2,g3,g4⟩:=ho rfl
    rw[hle.w]at g2
    have iT:nu ω ω1 w.heap.size ad.block=G2:=by
     unfold nu
     split
     ·rename_i s bz hs
      have bz:=of_decide_eq_true bz
      rcases g2 with g2|⟨⟨b',j',g2⟩,_⟩
      ·omega
      ·rw[hs]at g2;cases g2
     ·simp[rh,g1]
    refine⟨cR (nu ω ω1 w.heap.size) ad.block d,m2.cR _ _ (by simp[iT]),?_,fun _=>?_⟩
    ·exact fun s x hs=>let ⟨v,k1,k2,k3⟩:=e2 s x hs; ⟨v,k1,k2,fun h=>(k3 h).other (.inl (by simp[iT]))⟩
    ·refine⟨by simp[cR],?_,g3,g4⟩
     rcases g2 with g2|⟨_,g2⟩
     ·exact .inl (Jd m.size g2)
     ·exact g2
   ·refine⟨_,m2,e2,fun h=>?_⟩
    unfold aO
    split
    ·exact absurd ⟨_,_,_,_,_,_,rfl,rfl⟩ hk
    ·exact absurd ⟨_,_,rfl,rfl⟩ dx
    ·trivial
 obtain⟨ω',m2,e2,o2⟩:=step
 unfold jp
 cases hb:G7 h1.length hp.length with
 |true=>simp only[cond_true];exact⟨_,ω',cX,m2,e2,jW,o2⟩
 |false=>
  simp only[cond_false]
  cases lT:(below hp.length v&&zk hp.length (h1.take hp.length))with
  |false=>simp only[cond_false];exact⟨_,ω',cX,m2,e2,jW,o2⟩
  |true=>
   simp only[cond_true]
   simp only[En]at lT
   have bz:hp.length≤h1.length:=by
    rcases Nat.lt_or_ge hp.length h1.length with h|h
    ·omega
    ·rw[Nat.ble_eq_true_of_le h]at hb;cases hb
   have h0:∀b r,C0.β b=I r→b<hp.length:=fun b r h=>hC b r (m.grown.2 b r h)
   have m3:=m2.gc bz lT.2 h0
   refine⟨(C1.back C).cut hp.length,ω',aK.iR cX hC,m3,?_,bT.cut jW lT.1,fun h=>(o2 h).cut _⟩
   intro s x hs
   obtain⟨y,k1,k2,k3⟩:=e s x hs
   obtain⟨y',j1,j2,j3⟩:=e2 s x hs
   rw[k1]at j1
   cases j1
   exact⟨y,k1,aH.mono (aK.iR cX hC) k2,fun h=>(j3 h).cut _⟩
theorem bw.fB {e}(h:bw C e tmps):ak C ω w B (fB e) tmps:=by
 intro s x hx
 have key:∀ {e:Env} {x:AVal×Bool},ji s (Abs.fB e)=I x→∃o,ji s e=I (x.1,o)∧x.2=Gy:=by
  intro e
  induction e with
  |nil=>intro x h;simp[Abs.fB,ji]at h
  |cons y e ih=>
   intro x h
   obtain⟨t,v,o⟩:=y
   simp only[Abs.fB,Eag,ji]at h ⊢
   cases hb:Gx t s with
   |true=>simp only[hb,cond_true,I.injEq]at h ⊢;subst h;exact⟨o,rfl,rfl⟩
   |false=>simp only[hb,cond_false]at h ⊢;exact ih h
 obtain⟨o,h1,h2⟩:=key hx
 obtain⟨v,h3,h4⟩:=h s _ h1
 exact⟨v,h3,h4,by simp[h2]⟩
theorem qsb:∀ {ts:List Nat} {vs:List AVal} {us:List Value} {e e':Env} {tmps:Array Value},vS e ts vs=I e'→aW C vs us→(∀t∈ts,t<tmps.size)→ak C ω w B e tmps →
  ts.length=us.length∧((ts.zip us).foldl (fun(tmps:Array Value) (x:Nat×Value)=>tmps.setIfInBounds x.1 x.2) tmps).size=tmps.size∧ak C ω w B e' ((ts.zip us).foldl (fun(tmps:Array Value) (x:Nat×Value)=>tmps.setIfInBounds x.1 x.2) tmps)
 | [],[],us,e,e',tmps,h,hr,_,he=>by
  simp only[vS,I.injEq]at h
  subst h
  cases hr
  exact⟨rfl,rfl,he⟩
 |t::ts,v::vs,us,e,e',tmps,h,hr,hf,he=>by
  simp only[vS]at h
  cases hr with
  |cons _ _ u us hu hr=>
   have KR:ak C ω w B ((t,v,Gy)::e) (tmps.setIfInBounds t u):=by
    intro s x hx
    simp only[ji]at hx
    cases hb:Gx t s with
    |true=>
     have:=Es hb
     subst this
     simp only[hb,cond_true,I.injEq]at hx
     subst hx
     exact⟨u,by simp[hf t (by simp)],hu,by simp⟩
    |false=>
     simp only[hb,cond_false]at hx
     obtain⟨y,h1,h2,h3⟩:=he s x hx
     refine⟨y,?_,h2,h3⟩
     rw[Np (fun hh=>by subst hh;simp at hb)]
     exact h1
   have ih:=qsb h hr (tmps:=tmps.setIfInBounds t u) (fun t' Fv=>by simpa using hf t' (by simp[Fv])) KR
   refine⟨by simp[ih.1],?_,?_⟩
   ·simp only[X9,Eac];rw[ih.2.1];simp
   ·simp only[X9,Eac];exact ih.2.2
 | [],_::_,_,_,_,_,h,_,_,_=>by simp[vS]at h
 |_::_,[],_,_,_,_,h,_,_,_=>by simp[vS]at h
theorem KS {b r l}(m:az P C ω w0 C0 hp w)(hb:zc hp b=I (.loop l))(hr:C.β b=I r):∃lp,w.heap[r]?=I (.loop lp)∧cz P C l lp:=
 m.box b _ r hb hr
theorem F8 {b r l' lp AL}(m:az P C ω w0 C0 hp w)(hr:C.β b=I r)(hg:w.heap[r]?=I (.loop lp))(hl:cz P C l' AL):
  (setObj r (.loop AL)).run P w=.ok () (kh w r (.loop AL))∧nj w (kh w r (.loop AL)) r∧az P C ω w0 C0 (hp.set b (.loop l')) (kh w r (.loop AL)):=by
 have bz:=(Gu.1 hg).1
 have hu:nj w (kh w r (.loop AL)) r:=Dw bz (by simp)
 exact⟨xU hg (by simp),hu,m.dW hu hr _ (fun _ _ _ _ _ h=>h) ⟨AL,FL bz,hl⟩⟩
theorem jft (hx:cJ P xc)(m:az P C ω w0 C0 hp w)(e:ak C ω w w0.heap.size env tmps){b r}(hr:C.β b=I r){args us}(ha:aW C args us){v h'}(hy:kG xc b args hp=I (v,h')):
  ∃f oh assign body,(Instr.yield r ⟨us⟩).run P w=.ok (.round r f oh assign body) w∧RoundIn Fence.wide 0 P r f oh assign body w fun ee w'=>∃u,ee=.returned u∧zi P C0 w0 C tmps d env ⟨v,Gy,G2,h'⟩ u w':=by
 unfold kG at hy
 split at hy
 ·rename_i l hl
  split at hy
  ·rename_i e0 hpend bJ
   obtain⟨lp,hg,lr⟩:=KS m hl hr
   have ms:=Ro m
   have gV:aW (C.shared ω w0) args us:=aH.imp (C:=C) (C':=C.shared ω w0) ⟨fun _ _ _ h=>h,fun _ _ h=>h⟩ ha
   have hel:ak (C.shared ω w0) (rh ω) w w.heap.size (fB l.env) lp.tmps:=bw.fB (fun s x hs=>let ⟨v,h1,h2⟩:=lr.env s x hs; ⟨v,h1,aH.imp (C:=C) (C':=C.shared ω w0) ⟨fun _ _ _ h=>h,fun _ _ h=>h⟩ h2⟩)
   obtain⟨hlen,c7,he0⟩:=qsb bJ gV lr.fits hel
   have qI:(lp.params.zip (⟨us⟩:Array Value)).foldl (fun(tmps:Array Value) (x:Nat×Value)=>tmps.setIfInBounds x.1 x.2) lp.tmps=(l.params.zip us).foldl (fun(tmps:Array Value) (x:Nat×Value)=>tmps.setIfInBounds x.1 x.2) lp.tmps:=by
    rw[←Array.foldl_toList,Array.toList_zip,lr.params]
   have Rp:lp.params.size=us.length:=by rw[←Array.length_toList,lr.params];exact hlen
   refine⟨lp.fn,(l.params.zip us).foldl (fun(tmps:Array Value) (x:Nat×Value)=>tmps.setIfInBounds x.1 x.2) lp.tmps,lp.assign,lp.body,?_,?_⟩
   ·have AO:(Instr.getLoop r).run P w=.ok lp w:=by simp[Instr.getLoop,px hg (by simp)]
    have bL:¬((⟨us⟩:Array Value).size≠lp.params.size):=by simp[Rp]
    simp only[Instr.yield,Sem.run_bind,AO,Result.andThen_ok,bL,if_false,Sem.run_pure,Sem.run_ite]
    rw[show((lp.params.zip (⟨us⟩:Array Value)).foldl (fun tmps (x:Nat×Value)=>match x with|(t,a)=>tmps.setIfInBounds t a) lp.tmps)=_ from qI]
   ·refine roundIn_of_wpIn trivial ?_
    split at hy
    ·rename_i st cr
     split at hy
     ·rename_i l1 ig
      cases jZ:l1.pending.isNone with
      |false=>simp[jZ]at hy
      |true=>
       simp only[jZ,cond_true]at hy
       have F9:l1.pending=G2:=by simpa using jZ
       split at hy
       ·rename_i x bZ iw
        split at hy
        ·rename_i l2 oc
         cases hy
         refine wpIn_mono (hx (I r) lp.tmps.size lp.assign l.assign _ _ _ lr.assign (fun _=>lr.nr.1) cr (C.shared ω w0) (rh ω) w (C.shared ω w0) { tmps:=_,defers:=[] } w ms he0 c7 Marks.nil) ?_
         rintro ee a1 w1 ⟨rfl,q1,C1,ω1,q2,q3,q4,q5⟩
         have vY:=q2.b b r hr
         obtain⟨KT,hg1,Rq⟩:=KS q4 ig vY
         have xX:KT.state=.ready:=by rw[Rq.state,F9]
         have Rr:cz P C1 { l1 with pending:=I .normal } { KT with state:=.busy }:={ Rq with state:=rfl,pending:=by rw[Rq.pending,F9] }
         obtain⟨Ga,FH,m1⟩:=F8 q4 vY hg1 Rr
         have iH:(Instr.beginRound r).run P w1=.ok () (kh w1 r (.loop { KT with state:=.busy })):=by
          have AO:(Instr.getLoop r).run P w1=.ok KT w1:=by simp[Instr.getLoop,px hg1 (by simp)]
          simp only[Instr.beginRound,Sem.run_bind,AO,Result.andThen_ok,Ga,xX,Sem.run_pure]
         refine⟨_,iH,?_⟩
         refine wpIn_mono (hx (I r) lp.tmps.size lp.body l.body _ _ _ lr.body (fun _=>lr.nr.2) iw C1 ω1 w (C.shared ω w0) a1 _ m1 (q5.dI FH vY) q1 q3) ?_
         rintro ee a2 w2 ⟨rfl,p1,C2,ω2,p2,p3,p4,p5⟩
         have rm:=p2.b b r vY
         obtain⟨lV,rn,uX⟩:=KS p4 oc rm
         have AP:(Instr.getLoop r).run P w2=.ok lV w2:=by simp[Instr.getLoop,px rn (by simp)]
         have fin:∀(Rs:LoopState) (pd:Option Code) (ap:Option je) (bb:Bool),cz P C2 { l2 with pending:=ap } { lV with state:=Rs,pending:=pd } →
           zi P C0 w0 C tmps d env ⟨.bool bb,Gy,G2,jp hp.length (.bool Gp) (bZ.heap.set b (.loop { l2 with pending:=ap }))⟩ (.bool bb) (kh w2 r (.loop { lV with state:=Rs,pending:=pd })):=by
          intro Rs pd ap bb uY
          obtain⟨kB,hu2,m2⟩:=F8 p4 rm rn uY
          have:=qr5 (d:=d) (v:=.bool bb) (ow:=false) (u:=.bool bb) m e m2 (aK.le_trans q2 p2) (.bool bb) (by simp)
          exact this
         cases x with
         |normal=>
          have uY:cz P C2 { l2 with pending:=G2 } { lV with state:=.ready,pending:=G2 }:={ uX with state:=rfl,pending:=rfl }
          obtain⟨kB,_,_⟩:=F8 p4 rm rn uY
          exact⟨.bool Gp,_,by simp only[Instr.endRound,Sem.run_bind,AP,Result.andThen_ok,Option.isNone_none,if_true,kB,Sem.run_pure],_,rfl,fin _ _ _ Gp uY⟩
         |ret=>
          have uY:cz P C2 { l2 with pending:=I .ret } { lV with state:=.done,pending:=I .ret }:={ uX with state:=rfl,pending:=rfl }
          obtain⟨kB,_,_⟩:=F8 p4 rm rn uY
          exact⟨.bool Gy,_,by simp only[Instr.endRound,Sem.run_bind,AP,Result.andThen_ok,Ya,Gz,if_false,kB,Sem.run_pure],_,rfl,fin _ _ _ Gy uY⟩
         |exit id=>
          have uY:cz P C2 { l2 with pending:=I (.exit id) } { lV with state:=.done,pending:=I (.exit id) }:={ uX with state:=rfl,pending:=rfl }
          obtain⟨kB,_,_⟩:=F8 p4 rm rn uY
          exact⟨.bool Gy,_,by simp only[Instr.endRound,Sem.run_bind,AP,Result.andThen_ok,Ya,Gz,if_false,kB,Sem.run_pure],_,rfl,fin _ _ _ Gy uY⟩
        ·cases hy
       ·cases hy
     ·cases hy
    ·cases hy
  ·cases hy
 ·cases hy
theorem jje {h md r h0 dst al cP res}(eA:b6 P p)(hx:cJ P xc)(m:az P C ω w0 C0 hp w)(e:ak C ω w w0.heap.size env a.tmps){c}(ho:o.op=.call c){f}(oJ:c.callee=.value f)
  (hc:Ac P h md r dst c=I cP) (hs:qf p xc h0 al env hp cP=I res):yd P C C0 w0 a d env o w res:=by
 unfold Ac at hc
 rw[oJ]at hc
 simp only[]at hc
 split at hc
 ·rename_i f' args' h1 h2
  cases hc
  generalize md.at r=md at hs
  simp only[qf,yt]at hs
  split at hs
  ·rename_i k first captured vs e1 e2
   have uZ:=qv e.ct h1 e1
   have Rt:=Dr e.ct h2 e2
   generalize eM:a.eval f=fv at uZ
   cases uZ with
   |fn g g' _ _ as bs hf ha hb=>
    simp only[fD]at hf
    subst hf
    have hall:aW C (first++vs++captured) (as++c.args.toList.map a.eval++bs):=aW.append (aW.append ha Rt) hb
    have iU:Enters P k→(execOp a.eval o).run P w=.ok (.enter k ⟨as++c.args.toList.map a.eval++bs⟩) w:=by
     intro lU
     have ey:(⟨as⟩:Array Value)++Array.map a.eval c.args++(⟨bs⟩:Array Value)=⟨as++c.args.toList.map a.eval++bs⟩:=by
      apply Xz;simp
     simp[execOp,ho,resolve,oJ,eM,Deferred.ofValue,invoke,ey,qpk lU]
    cases md with
    |fJ rk=>
     simp only[]at hs
     cases uP:(first++vs++captured).isEmpty with
     |false=>
      rw[uP]at hs
      simp only[cond_false]at hs
      cases lv:qw 0 (first++vs++captured)with
      |false=>rw[lv]at hs;cases hs
      |true=>
       rw[lv]at hs
       simp only[cond_true]at hs
       split at hs
       ·rename_i v ow wc
        obtain⟨lU,lz,rz⟩:=KN eA hx wc lv
        have lW:aW (.b3 C.K) (first++vs++captured) (as++c.args.toList.map a.eval++bs):=
         aH.shift (C:=C) (C':=.b3 C.K) 0 (fun _ _ _ h=>h) (fun b r bz=>by omega) hall lv
        refine .inr (.inr (.inl ⟨k,_,iU lU,CallsIn.mono (rz C.K w _ m.tabs m.know m.dq lW) ?_⟩))
        rintro ee w' ⟨u,K',rfl,q1,q2,q3,q4,q5,q6,q7⟩
        exact⟨u,rfl,jea m e q1 q2 q3 q4 q5 q6 q7 hs⟩
       ·cases hs
     |true=>
      rw[uP]at hs
      simp only[cond_true]at hs
      split at hs
      ·rename_i es hm
       split at hs
       ·rename_i h' hn
        obtain rfl:=qy hs
        obtain⟨hh,rfl⟩:=yx hn
        obtain⟨lU,lO⟩:=eA.maps k es hm
        have kJ:as++c.args.toList.map a.eval++bs=[]:=by
         have h1:first++vs++captured=[]:=S5.1 uP
         have h2:=hall.length
         rw[h1]at h2
         exact List.eq_nil_of_length_eq_zero h2
        refine .inr (.inr (.inl ⟨k,_,iU lU,?_⟩))
        rw[kJ]
        refine CallsIn.mono (lO C.K w m.tabs m.know m.dq) ?_
        rintro ee w' ⟨q,K',cj,clock,rfl,q1,q2,q3,q4,q5,q6,q7,q8⟩
        exact⟨_,rfl,jgh m e q1 q2 q3 q4 q5 hh q6 q7 q8⟩
       ·cases hs
      ·cases hs
    |b3=>
     simp only[]at hs
     cases uP:qw 0 (first++vs++captured)with
     |false=>rw[uP]at hs;cases hs
     |true=>
      rw[uP]at hs
      simp only[cond_true]at hs
      split at hs
      ·rename_i v ow wc
       cases hs
       obtain⟨lU,lz,rz⟩:=KN eA hx wc uP
       have lW:aW (.b3 C.K) (first++vs++captured) (as++c.args.toList.map a.eval++bs):=
        aH.shift (C:=C) (C':=.b3 C.K) 0 (fun _ _ _ h=>h) (fun b r bz=>by omega) hall uP
       refine .inr (.inr (.inl ⟨k,_,iU lU,CallsIn.mono (rz C.K w _ m.tabs m.know m.dq lW) ?_⟩))
       rintro ee w' ⟨u,K',rfl,q1,q2,q3,q4,q5,q6,q7⟩
       exact⟨u,rfl,q31 m e q1 q2 q3 q4 q5 lz q6 q7⟩
      ·cases hs
    |red=>
     simp only[]at hs
     split at hs
     ·rename_i xs Dz
      cases lv:qw 0 xs with
      |false=>rw[lv]at hs;cases hs
      |true=>
       rw[lv]at hs
       simp only[cond_true]at hs
       split at hs
       ·rename_i v ow wc
        split at hs
        ·rename_i v' F7 hrd
         cases hs
         obtain⟨lU,lz,rz⟩:=KN eA hx wc lv
         refine .inr (.inr (.inl ⟨k,_,iU lU,CallsIn.mono (rz (zn C hp w) w _ m.tabs (fun r o u h=>(KM m h).1) (fun r o u h=>(KM m h).2) (qr9 m Dz hall lv)) ?_⟩))
         rintro ee w' ⟨u,K',rfl,q1,q2,q3,q4,q5,q6,q7⟩
         exact⟨u,rfl,jf3 m e q1 q2 q3 q4 q5 q6 q7 hrd⟩
        ·cases hs
       ·cases hs
     ·cases hs
    |shr=>
     simp only[]at hs
     split at hs
     ·rename_i v ow h' AG
      cases hs
      ·obtain⟨lU,nq⟩:=F0 eA hx AG
       have lW:aW (C.shared ω w0) (first++vs++captured) (as++c.args.toList.map a.eval++bs):=aH.imp (C:=C) (C':=C.shared ω w0) ⟨fun _ _ _ h=>h,fun _ _ h=>h⟩ hall
       refine .inr (.inr (.inl ⟨k,_,iU lU,CallsIn.mono (nq _ _ _ _ lW (Ro m)) ?_⟩))
       rintro ee w' ⟨u,C',ω',rfl,q1,q2,q3,q4⟩
       exact⟨u,rfl,qr5 m e q2 q1 q3 q4⟩
     ·cases hs
  ·rename_i b vs e1 e2
   have uZ:=qv e.ct h1 e1
   have Rt:=Dr e.ct h2 e2
   generalize eM:a.eval f=fv at uZ
   cases md with
   |b3=>simp at hs
   |fJ _=>simp at hs
   |red=>simp at hs
   |shr=>
    simp only[]at hs
    split at hs
    ·rename_i v h' hy
     obtain rfl:=qy hs
     cases uZ with
     |fn g g' _ _ as bs hf ha hb=>
      obtain⟨q,oL,rfl⟩:=hf
      cases ha
      cases hb
      obtain⟨ff,oh,assign,body,k1,k2⟩:=jft (d:=d) hx m e oL Rt hy
      refine .inr (.inr (.inr ⟨q,ff,oh,assign,body,?_,k2⟩))
      have ey:Array.map a.eval c.args=⟨c.args.toList.map a.eval⟩:=by
       apply Xz;simp
      rw[←ey]at k1
      simp[execOp,ho,resolve,oJ,eM,Deferred.ofValue,invoke,k1]
    ·cases hs
  ·cases hs
 ·cases hc
theorem jwm {h md r h0 dst al cP res}(eA:b6 P p)(hx:cJ P xc)(m:az P C ω w0 C0 hp w)(e:ak C ω w w0.heap.size env a.tmps)
  (np:cP.ic=G2) (hc:cV P h md r dst o.op=I cP) (hs:qf p xc h0 al env hp cP=I res):yd P C C0 w0 a d env o w res:=by
 cases ho:o.op<;>rw[ho]at hc
 case move x=>exact jja m e ho hc hs
 case assign x=>exact q9w m e ho hc hs
 case pick=>exact jkx m e ho hc hs
 case alloc=>exact jch m e ho hc hs
 case box=>exact jnt m e ho hc hs
 case build=>exact jc3 m e ho hc hs
 case buildSlice=>exact qy1 m e ho hc hs
 case load=>exact jlo m e ho hc hs
 case store=>exact jd3 m e ho np hc hs
 case nilCheck=>exact q4j m e ho hc hs
 case binOp=>exact jo1 m e ho hc hs
 case unOp=>exact jxg m e ho hc hs
 case convert=>exact jhq m e ho hc hs
 case makeFunc=>exact q4t m e ho hc hs
 case makeMap=>exact q53 m e ho hc hs
 case makeSlice=>exact q0i m e ho hc hs
 case slice=>exact jd2 m e ho hc hs
 case fieldAddr=>exact q0h m e ho hc hs
 case field=>exact jet m e ho hc hs
 case indexAddr=>exact q0d m e ho hc hs
 case index=>exact jcb m e ho hc hs
 case range=>exact jc2 m e ho hc hs
 case extract=>exact q6g m e ho hc hs
 case call c=>
  have dT:Ac P h md r dst c=I cP:=hc
  by_cases hv:∃f,c.callee=.value f
  ·obtain⟨f,hf⟩:=hv
   exact jje eA hx m e ho hf dT hs
  ·exact q6d m e ho (fun f hf=>hv ⟨f,hf⟩) dT hs
 case lookup=>exact ja0 m e ho hc hs
 case mapUpdate=>exact qof m e (.inl ho) hc hs
 case insert t x y z=>exact qof (h:=h) (md:=md) (r:=r) (dst:=dst) m e (.inr ho) (show cV P h md r dst (.mapUpdate t x y z)=I cP from hc) hs
 case next it b=>exact jjh m e ho hc hs
 all_goals (simp[cV]at hc;done)
end
section
variable {p:jz}{xc:XC}{h0:Nat}{al:Option (List Nat)}
def Agree (l:List Nat)(e e':Env):Prop:=∀s∈l,ji s e=ji s e'
theorem Agree.app {l l' e e'}(h:Agree (l++l') e e'):Agree l e e'∧Agree l' e e':=
 ⟨fun s hs=>h s (Xx _ hs),fun s hs=>h s (T7 _ hs)⟩
theorem qr {e e' x}(h:Agree (zb x) e e'):qi e x=qi e' x:=by
 cases x with
 |tmp t=>simp only[qi,h t (by simp[zb])]
 |const v=>rfl
theorem DB {e e'}:∀ {l:List js},Agree (xM l) e e'→kz e l=kz e' l
 | [],_=>rfl
 |x::l,h=>by
  have h':Agree (zb x++xM l) e e':=by simpa[xM]using h
  simp only[kz,qr h'.app.1,DB h'.app.2]
theorem DC {e e' x}(d n:Nat)(h:Agree (Ad x) e e'):fC e d n x=fC e' d n x:=by
 cases x with
 |none=>rfl
 |some x=>simp only[fC,qr (x:=x) h]
theorem Ru {e e' x}(h:Agree (zb x) e e'):zj e x=zj e' x:=by
 cases x with
 |tmp t=>simp only[zj,h t (by simp[zb])]
 |const v=>rfl
theorem qkm {e e'}:∀ {l:List (Nat×Nat×js)},Agree (l.flatMap fun p=>zb p.2.2) e e'→kn e l=kn e' l
 | [],_=>rfl
 |(i,n,x)::l,h=>by
  have h':Agree (zb x++l.flatMap fun p=>zb p.2.2) e e':=by simpa using h
  simp only[kn,qr h'.app.1,qkm h'.app.2]
theorem Rv {e e' sz}:∀ {l:List (Nat×js)},Agree (l.flatMap fun p=>zb p.2) e e'→yc e sz l=yc e' sz l
 | [],_=>rfl
 |(i,x)::l,h=>by
  have h':Agree (zb x++l.flatMap fun p=>zb p.2) e e':=by simpa using h
  simp only[yc,qr h'.app.1,Rv h'.app.2]
theorem q4v {e e' h op}(ha:Agree op.reads e e'):qf p xc h0 al e h op=qf p xc h0 al e' h op:=by
 cases op with
 |move x=>simp only[qf,qo,qr (x:=x) ha]
 |take s=>simp only[qf,qo,ha s (by simp[cU.reads])]
 |pick c x y=>simp only[cU.reads]at ha;simp only[qf,qo,qr ha.app.1.app.1,qr ha.app.1.app.2,qr ha.app.2]
 |build z ps=>simp only[qf,qo,qkm (l:=ps) ha]
 |buildSlice sz n z ps=>simp only[qf,qo,Rv (l:=ps) ha]
 |nilCheck x=>simp only[qf,qo,qr (x:=x) ha]
 |gy n=>rfl
 |dV n s x=>
  simp only[cU.reads]at ha
  have h1:ji s e=ji s e':=ha s (by simp)
  have h2:Agree (zb x) e e':=fun t ht=>ha t (by simp[ht])
  simp only[qf,qo,h1,qr h2]
 |oE n x=>simp only[qf,qo,qr (x:=x) ha]
 |fq ag n x=>simp only[qf,qo,qr (x:=x) ha]
 |bin op x y=>simp only[cU.reads]at ha;simp only[qf,qo,qr ha.app.1,qr ha.app.2]
 |eqs ks n x y=>simp only[cU.reads]at ha;simp only[qf,qo,qr ha.app.1,qr ha.app.2]
 |beq n x y=>simp only[cU.reads]at ha;simp only[qf,qo,qr ha.app.1,qr ha.app.2]
 |ft k n x=>simp only[qf,qo,qr (x:=x) ha]
 |un op x=>simp only[qf,qo,qr (x:=x) ha]
 |conv k x=>simp only[qf,qo,qr (x:=x) ha]
 |fh x=>simp only[qf,qo,qr (x:=x) ha]
 |field ag off n x=>simp only[qf,qo,qr (x:=x) ha]
 |index ag l n x i=>simp only[cU.reads]at ha;simp only[qf,qo,qr ha.app.1,qr ha.app.2]
 |et x i=>simp only[cU.reads]at ha;simp only[qf,qo,qr ha.app.1,qr ha.app.2]
 |fieldAddr ag off n x=>simp only[qf,qo,qr (x:=x) ha]
 |indexAddr sz x i=>simp only[cU.reads]at ha;simp only[qf,qo,qr ha.app.1,qr ha.app.2]
 |eS ag l sz x i=>simp only[cU.reads]at ha;simp only[qf,qo,qr ha.app.1,qr ha.app.2]
 |slice sz x lo hi=>simp only[cU.reads]at ha;simp only[qf,qo,qr ha.app.1.app.1,DC _ _ ha.app.1.app.2,DC _ _ ha.app.2]
 |eT x lo hi=>simp only[cU.reads]at ha;simp only[qf,qo,qr ha.app.1.app.1,DC _ _ ha.app.1.app.2,DC _ _ ha.app.2]
 |fV l sz x lo hi=>simp only[cU.reads]at ha;simp only[qf,qo,qr ha.app.1.app.1,DC _ _ ha.app.1.app.2,DC _ _ ha.app.2]
 |gA f x y=>simp only[cU.reads]at ha;simp only[qf,qo,DB ha.app.1,DB ha.app.2]
 |len k x=>simp only[qf,qo,qr (x:=x) ha]
 |append r sz b x y=>
  simp only[cU.reads]at ha
  cases r with
  |none=>simp only[qf,qo,qr ha.app.1,qr ha.app.2,Ru ha.app.1]
  |some r=>simp only[qf,qp,qr ha.app.1,qr ha.app.2,Ru ha.app.1]
 |ia r sz b x y=>simp only[cU.reads]at ha;simp only[qf,qp,qr ha.app.1,qr ha.app.2]
 |ib r sz n z ps=>simp only[qf,qp,Rv (l:=ps) ha]
 |cu r sz b z n c=>
  simp only[cU.reads]at ha
  cases r with
  |none=>simp only[qf,qo,qr ha.app.1,qr ha.app.2]
  |some r=>simp only[qf,qp,qr ha.app.1,qr ha.app.2]
 |mx l=>simp only[qf,qo,DB (l:=l) ha]
 |mn l=>simp only[qf,qo,DB (l:=l) ha]
 |extract x i=>simp only[qf,qo,qr (x:=x) ha]
 |load ag n x=>simp only[qf,yi,qr (x:=x) ha]
 |alloc r z=>rfl
 |fU r t e=>rfl
 |box r n x=>simp only[qf,qp,qr (x:=x) ha]
 |cA off x=>simp only[qf,qp,qr (x:=x) ha]
 |store n x y=>simp only[cU.reads]at ha;simp only[qf,qp,qr ha.app.1,qr ha.app.2,Ru ha.app.2]
 |eu r=>rfl
 |dE r x=>simp only[qf,qp,qr (x:=x) ha]
 |call md f l=>simp only[cU.reads]at ha;simp only[qf,yt,qr ha.app.1,DB ha.app.2]
 |lookup kd z ok x y=>simp only[cU.reads]at ha;simp only[qf,yi,qr ha.app.1,qr ha.app.2]
 |mapUpdate kd x y z=>simp only[cU.reads]at ha;simp only[qf,qp,qr ha.app.1.app.1,qr ha.app.1.app.2,qr ha.app.2]
 |delete kd x y=>simp only[cU.reads]at ha;simp only[qf,qp,qr ha.app.1,qr ha.app.2]
 |copy sz x y=>simp only[cU.reads]at ha;simp only[qf,qp,qr ha.app.1,qr ha.app.2]
 |fA x=>simp only[qf,qp,qr (x:=x) ha]
 |bad=>rfl
def bm.at (r:bm)(h:qh):bm:={ r with heap:=h }
theorem mK {h h' x r}(hs:val h x=I r):r.heap=h∧val h' x=I (r.at h'):=by
 simp only[val,I.injEq]at hs;subst hs;exact⟨rfl,rfl⟩
theorem jkb (h:qh)(x:Option AVal):gB h x=(gB [] x).map (·.at h):=by cases x<;>rfl
theorem Rw {α β:Type}(c:Bool)(x y:Option α)(f:α→β):(bif c then x else y).map f=bif c then x.map f else y.map f:=by cases c<;>rfl
theorem qo6 (e:Env)(h:qh)(op:cU):qo e h op=(qo e [] op).map (·.at h):=by
 cases op with
 |append r sz b x y=>
  cases r with
  |some r=>rfl
  |none=>
   simp only[qo]
   repeat' split
   all_goals first
    |rfl
    |(simp only[Rw];repeat' split)<;>rfl
 |cu r sz b z n c=>
  cases r with
  |some r=>rfl
  |none=>
   simp only[qo]
   repeat' split
   all_goals first
    |rfl
    |(simp only[Rw];rfl)
 |_=>
  simp only[qo]
  repeat' split
  all_goals first
   |rfl
   |exact jkb _ _
   |(simp only[Rw];first|rfl|(repeat' split)<;>rfl)
theorem qse {e h}(h':qh){op r}(hs:qo e h op=I r):r.heap=h∧qo e h' op=I (r.at h'):=by
 rw[qo6]at hs
 obtain⟨r0,h1,rfl⟩:=Gt.1 hs
 refine⟨rfl,?_⟩
 rw[qo6,h1]
 rfl
end
section
variable {p:jz}{xc:XC}{h0:Nat}{al:Option (List Nat)}
def nV:Option bg→Bool
 |some (.vec ..)=>Gy
 |some .hole=>Gy
 |_=>Gp
theorem Gb {h b cs}(hc:jt h b=I cs):nV h[b]?=Gp:=by
 unfold jt at hc
 split at hc
 ·rename_i h1;rw[h1];rfl
 ·cases hc
theorem DE {h b x}(hb:zc h b=I x)(hx:nV (I x)=Gp):nV h[b]?=Gp:=by
 unfold zc at hb;rw[hb];exact hx
def Rx:bg→Option Nat
 | .vec sz _ _=>I sz
 |_=>G2
def HB (h0:Nat)(al:Option (List Nat))(F:qh→Option bm)(h:qh)(r:bm):Ae→Nat→Prop
 | .pure,_=>r.heap=h∧∀h',F h'=I (r.at h')
 | .read,_=>r.heap=h∧∀h':qh,(∀b,j9 h0 al b=Gp→(pq al=Gp→nV h[b]?=Gp)→h'[b]?=h[b]?)→F h'=I (r.at h')
 | .alloc,k=>∃x,aS h0 h k x=I r.heap∧∀h' h3,aS h0 h' k x=I h3→F h'=I (r.at h3)
 | .write,_=>∃b x,j9 h0 al b=Gp∧nV h[b]?=Gp∧nV (I x)=Gp∧jr h b x=I r.heap∧∀h' h3:qh,h'[b]?=h[b]?→jr h' b x=I h3→F h'=I (r.at h3)
 | .take,k=>∃b cs v o,j9 h0 al b=Gp∧h[b]?=I (.cells cs)∧cs[k]?=I (v,o)∧r.heap=h.set b (.cells (cs.set k (v,Gy))) ∧
   ∀(h':qh) (eE:List (AVal×Bool)),h'[b]?=I (.cells eE)→eE[k]?=I (v,o)→F h'=I (r.at (h'.set b (.cells (eE.set k (v,Gy)))))
 | .fJ,_=>False
 | .shr,_=>True
 | .nZ,k=>∃q x y,(q=h0+k % 1000∧y=.hole∨Rx y=I (k / 1000))∧h[q]?=I y∧r.heap=h.set q x∧Rx x=I (k / 1000)∧∀h':qh,h'[q]?=I y→F h'=I (r.at (h'.set q x))
theorem Gc {h h' b}(hb:h'[b]?=h[b]?):jt h' b=jt h b:=by simp only[jt,hb]
theorem jc6 {e h op r}(hs:qf p xc h0 al e h op=I r):HB h0 al (fun h=>qf p xc h0 al e h op) h r op.cl op.cZ:=by
 have gf:(∀h,qf p xc h0 al e h op=qo e h op)→op.cl=.pure→HB h0 al (fun h=>qf p xc h0 al e h op) h r op.cl op.cZ:=by
  intro heq dS
  rw[dS]
  rw[heq]at hs
  exact⟨(qse h hs).1,fun h'=>(heq h').trans (qse h' hs).2⟩
 cases op with
 |load ag n x=>
  simp only[qf,yi]at hs
  split at hs
  ·rename_i b o hv
   cases hk:j9 h0 al b with
   |false=>simp[hk]at hs
   |true=>
    simp only[hk,cond_true]at hs
    split at hs
    ·rename_i cs hcs
     split at hs
     ·rename_i vs KI
      have key:r.heap=h∧∀h':qh,jt h' b=jt h b→yi h0 al e h' (.load ag n x)=I (r.at h'):=by
       cases ag with
       |true=>
        simp only[cond_true]at hs
        refine⟨(mK (h':=h) hs).1,fun h' hb=>?_⟩
        simp only[yi,hv,hk,cond_true,hb,hcs,KI]
        exact(mK (h':=h') hs).2
       |false=>
        simp only[cond_false]at hs
        split at hs
        ·refine⟨(mK (h':=h) hs).1,fun h' hb=>?_⟩
         simp only[yi,hv,hk,cond_true,hb,hcs,KI,cond_false]
         exact(mK (h':=h') hs).2
        ·cases hs
      exact⟨key.1,fun h' dk=>key.2 h' (Gc (dk b hk fun _=>Gb hcs))⟩
     ·cases hs
    ·cases hs
  ·rename_i v hv
   cases hk:(Eak ag v.isAgg||!(Gx v.flat.length n))with
   |true=>simp[hk]at hs
   |false=>
    simp only[hk,cond_false]at hs
    refine⟨(mK (h':=h) hs).1,fun h' _=>?_⟩
    simp only[qf,yi,hv,hk,cond_false]
    exact(mK (h':=h') hs).2
  ·rename_i b bN q hv
   cases hk:uG h0 al b with
   |false=>simp[hk]at hs
   |true=>
    simp only[hk,cond_true]at hs
    have iq:=hk
    simp only[uG,En,Bool.not_eq_true']at iq
    split at hs
    ·rename_i sz dG xs gG
     have jN:∀h':qh,(∀b,j9 h0 al b=Gp→(pq al=Gp→nV h[b]?=Gp)→h'[b]?=h[b]?)→zc h' b=I (.vec sz dG xs):=fun h' dk=>by
      unfold zc at gG ⊢;rw[dk b iq.1 (fun ho=>by rw[iq.2]at ho;cases ho),gG]
     cases dx:(Gx bN dG&&G7 (q+n) (xs.flatMap AVal.flat).length)with
     |false=>rw[dx]at hs;cases hs
     |true=>
      rw[dx]at hs
      simp only[cond_true]at hs
      cases ag with
      |true=>
       simp only[cond_true]at hs
       refine⟨(mK (h':=h) hs).1,fun h' dk=>?_⟩
       simp only[qf,yi,hv,hk,cond_true,jN h' dk,dx]
       exact(mK (h':=h') hs).2
      |false=>
       simp only[cond_false]at hs
       split at hs
       ·rename_i z hz
        refine⟨(mK (h':=h) hs).1,fun h' dk=>?_⟩
        simp only[qf,yi,hv,hk,cond_true,jN h' dk,dx,cond_false,hz]
        exact(mK (h':=h') hs).2
       ·cases hs
    ·cases hs
  ·cases hs
 |len k x=>exact gf (fun _=>rfl) rfl
 |alloc rk z=>
  simp only[qf,qp]at hs
  cases hk:z.all ql with
  |false=>simp[hk]at hs
  |true=>
   simp only[hk,cond_true]at hs
   split at hs
   ·rename_i h' hn
    have h1:=qy hs
    refine⟨_,by rw[h1];exact hn,fun g g3 hg=>?_⟩
    simp only[qf,qp,hk,cond_true]
    rw[show cU.cZ (.alloc rk z)=rk from rfl]at hg
    rw[hg,h1];rfl
   ·cases hs
 |box rk n x=>
  simp only[qf,qp]at hs
  split at hs
  ·rename_i v hv
   cases hk:(Gx v.flat.length n&&v.flat.all ql)with
   |false=>simp[hk]at hs
   |true=>
    simp only[hk,cond_true]at hs
    split at hs
    ·rename_i h' hn
     have h1:=qy hs
     refine⟨_,by rw[h1];exact hn,fun g g3 hg=>?_⟩
     simp only[qf,qp,hv,hk,cond_true]
     rw[show cU.cZ (.box rk n x)=rk from rfl]at hg
     rw[hg,h1];rfl
    ·cases hs
  ·cases hs
 |fU rk t e'=>
  simp only[qf,qp]at hs
  split at hs
  ·rename_i h' hn
   have h1:=qy hs
   refine⟨_,by rw[h1];exact hn,fun g g3 hg=>?_⟩
   simp only[qf,qp]
   rw[show cU.cZ (.fU rk t e')=rk from rfl]at hg
   rw[hg,h1];rfl
  ·cases hs
 |eu rk=>
  simp only[qf,qp]at hs
  split at hs
  ·rename_i h' hn
   have h1:=qy hs
   refine⟨_,by rw[h1];exact hn,fun g g3 hg=>?_⟩
   simp only[qf,qp]
   rw[show cU.cZ (.eu rk)=rk from rfl]at hg
   rw[hg,h1];rfl
  ·cases hs
 |dE rk x=>
  simp only[qf,qp]at hs
  split at hs
  ·rename_i s hv
   split at hs
   ·rename_i h' hn
    have h1:=qy hs
    refine⟨_,by rw[h1];exact hn,fun g g3 hg=>?_⟩
    simp only[qf,qp,hv]
    rw[show cU.cZ (.dE rk x)=rk from rfl]at hg
    rw[hg,h1];rfl
   ·cases hs
  ·cases hs
 |cA off x=>
  simp only[qf,qp]at hs
  split at hs
  ·rename_i b o hv
   cases hk:j9 h0 al b&&uH off o with
   |false=>simp[hk]at hs
   |true=>
    simp only[hk,cond_true]at hs
    have eQ:j9 h0 al b=Gp:=by simp only[En]at hk;exact hk.1
    split at hs
    ·rename_i cs hcs
     split at hs
     ·rename_i v ow hq
      split at hs
      ·rename_i h' bJ
       cases hs
       have oi:=bJ
       unfold jr at oi
       cases bz:G3 b h.length with
       |false=>simp[bz]at oi
       |true=>
        simp only[bz,cond_true,I.injEq]at oi
        cases off with
        |none=>
         refine⟨b,_,eQ,Gb hcs,rfl,bJ,fun g g3 hb hg=>?_⟩
         simp only[qf,qp,hv,hk,cond_true,Gc hb,hcs,hq,hg]
         rfl
        |some k=>
         have hko:k=o:=by
          simp only[En,uH]at hk;exact Es hk.2
         subst hko
         have hhb:h[b]?=I (.cells cs):=by
          unfold jt at hcs
          split at hcs
          ·rename_i eE h';cases hcs;exact h'
          ·cases hcs
         refine⟨b,cs,v,ow,eQ,hhb,hq,oi.symm,fun g eE hg dT=>?_⟩
         have dT:eE[k]?=I (v,ow):=dT
         have hlg:b<g.length:=(Gv.1 hg).1
         have lx:jt g b=I eE:=by simp only[jt,hg]
         have hsg:jr g b (.cells (eE.set k (v,Gy)))=I (g.set b (.cells (eE.set k (v,Gy)))):=by
          unfold jr;rw[G5.mpr hlg];rfl
         simp only[qf,qp,hv,hk,cond_true,lx,dT,hsg]
         rfl
      ·cases hs
     ·cases hs
    ·cases hs
  ·cases hs
 |store n x y=>
  simp only[qf,qp]at hs
  split at hs
  ·rename_i b o v hv hy
   cases hk:j9 h0 al b with
   |false=>simp[hk]at hs
   |true=>
    simp only[hk,cond_true]at hs
    split at hs
    ·rename_i cs hcs
     split at hs
     ·rename_i t ht
      cases dx:(Gx n 1&&v.cS&&G3 o cs.length)with
      |false=>simp[dx]at hs
      |true=>
       simp only[dx,cond_true]at hs
       split at hs
       ·rename_i h' bJ
        cases hs
        refine⟨b,_,hk,Gb hcs,rfl,bJ,fun g g3 hb hg=>?_⟩
        simp only[qf,qp,hv,hy,hk,cond_true,Gc hb,hcs,ht,dx,hg]
        rfl
       ·cases hs
     ·rename_i ht
      cases dx:Gx v.flat.length n with
      |false=>simp[dx]at hs
      |true=>
       simp only[dx,cond_true]at hs
       split at hs
       ·rename_i eE cr
        split at hs
        ·rename_i h' bJ
         have h1:=qy hs
         refine⟨b,_,hk,Gb hcs,rfl,by rw[h1];exact bJ,fun g g3 hb hg=>?_⟩
         simp only[qf,qp,hv,hy,hk,cond_true,Gc hb,hcs,ht,dx,cr,hg,h1]
         rfl
        ·cases hs
       ·cases hs
    ·cases hs
  ·cases hs
 |call md f l=>
  cases md with
  |shr=>trivial
  |red=>trivial
  |fJ rk=>
   simp only[qf,yt]at hs
   split at hs
   ·rename_i k first captured vs e1 e2
    cases hb:(first++vs++captured).isEmpty with
    |false=>
     rw[hb]at hs
     simp only[cond_false]at hs
     cases lT:qw 0 (first++vs++captured)with
     |false=>rw[lT]at hs;cases hs
     |true=>
      rw[lT]at hs
      simp only[cond_true]at hs
      split at hs
      ·rename_i v o wc
       have goal:∃x,aS h0 h rk x=I r.heap∧∀g g3,aS h0 g rk x=I g3→qC h0 g rk v o=I (r.at g3):=by
        unfold qC at hs
        split at hs
        ·split at hs
         ·rename_i h' hn
          have h1:=qy hs
          refine⟨_,by rw[h1];exact hn,fun g g3 hg=>?_⟩
          simp only[qC,hg,h1];rfl
         ·cases hs
        ·rename_i sz xs
         cases FU:(xs.flatMap AVal.flat).all nW with
         |false=>rw[FU]at hs;cases hs
         |true=>
          rw[FU]at hs
          simp only[cond_true]at hs
          split at hs
          ·rename_i h' hn
           have h1:=qy hs
           refine⟨_,by rw[h1];exact hn,fun g g3 hg=>?_⟩
           simp only[qC,FU,cond_true,hg,h1];rfl
          ·cases hs
        ·cases hs
       obtain⟨x,g1,g2⟩:=goal
       refine⟨x,g1,fun g g3 hg=>?_⟩
       simp only[qf,yt,e1,e2,wc]
       rw[hb,lT]
       exact g2 g g3 hg
      ·cases hs
    |true=>
     rw[hb]at hs
     simp only[cond_true]at hs
     split at hs
     ·rename_i es hm
      split at hs
      ·rename_i h' hn
       have h1:=qy hs
       refine⟨_,by rw[h1];exact hn,fun g g3 hg=>?_⟩
       simp only[qf,yt,e1,e2,hm]
       rw[hb]
       simp only[cond_true]
       rw[show cU.cZ (.call (.fJ rk) f l)=rk from rfl]at hg
       rw[hg,h1];rfl
      ·cases hs
     ·cases hs
   ·cases hs
   ·cases hs
  |b3=>
   simp only[qf,yt]at hs
   split at hs
   ·rename_i k first captured vs e1 e2
    cases hb:qw 0 (first++vs++captured)with
    |false=>rw[hb]at hs;cases hs
    |true=>
     rw[hb]at hs
     simp only[cond_true]at hs
     split at hs
     ·rename_i v o wc
      cases hs
      refine⟨rfl,fun h'=>?_⟩
      simp only[qf,yt,e1,e2,wc]
      rw[hb]
      rfl
     ·cases hs
   ·cases hs
   ·cases hs
 |append rk sz b x y=>
  cases rk with
  |none=>exact gf (fun _=>rfl) rfl
  |some rk=>
   simp only[qf,qp]at hs
   split at hs
   ·rename_i dj vy e1 e2
    cases fX:((zj e x).isSome&&Gx sz dj)with
    |false=>simp[fX]at hs
    |true=>
     simp only[fX,cond_true]at hs
     split at hs
     ·rename_i ys cW
      cases dx:(G7 ys.length 1073741824&&G7 b 4096&&G3 0 sz)with
      |false=>simp[dx]at hs
      |true=>
       simp only[dx,cond_true]at hs
       split at hs
       ·rename_i h' hn
        cases hs
        refine⟨_,hn,fun g g3 hg=>?_⟩
        simp only[qf,qp,e1,e2,fX,cW,dx,cond_true]
        rw[show cU.cZ (.append (I rk) sz b x y)=rk from rfl]at hg
        rw[hg];rfl
       ·cases hs
     ·cases hs
   ·cases hs
 |ia rk sz bt x y=>
  simp only[qf,qp]at hs
  split at hs
  ·rename_i QU vy e1 e2
   split at hs
   ·rename_i ys cW
    cases hk:(G7 ys.length 1073741824&&G7 bt 4096&&G3 0 sz&&!ys.isEmpty&&qw 0 ys&&G3 rk 1000)with
    |false=>rw[hk]at hs;cases hs
    |true=>
     rw[hk]at hs
     simp only[cond_true]at hs
     split at hs
     ·rename_i h' dr
      obtain rfl:=qy hs
      obtain⟨i1,i2⟩:=yx dr
      have hrk:rk<1000:=by simp only[En]at hk;exact G5.mp hk.2
      have m1:(rk+1000*sz) % 1000=rk:=by omega
      have m2:(rk+1000*sz) / 1000=sz:=by omega
      refine⟨h0+rk,.vec sz 0 ys,.hole,.inl ⟨by show _=h0+(rk+1000*sz) % 1000;rw[m1],rfl⟩,i1,i2,by show I sz=I ((rk+1000*sz) / 1000);rw[m2],fun g hg=>?_⟩
      simp only[qf,qp,e1,e2,cW,hk,cond_true,aS,hg]
      rfl
     ·cases hs
   ·cases hs
  ·rename_i b bN len vy e1 e2
   split at hs
   ·rename_i dj dG xs gG
    split at hs
    ·rename_i ys cW
     cases hk:(Gx bN dG&&Gx sz dj&&G7 len xs.length&&G7 (len+ys.length) 1073741824&&G7 bt 4096&&G3 0 sz&&qw 0 ys&&G3 rk 1000)with
     |false=>rw[hk]at hs;cases hs
     |true=>
      rw[hk]at hs
      simp only[cond_true]at hs
      split at hs
      ·rename_i h' bJ
       obtain rfl:=qy hs
       have eQ:=hk
       simp only[En]at eQ
       obtain⟨⟨⟨⟨⟨⟨⟨_,k2⟩,_⟩,_⟩,_⟩,_⟩,_⟩,k8⟩:=eQ
       have c7:=Es k2
       have hrk:rk<1000:=G5.mp k8
       have m2:(rk+1000*sz) / 1000=sz:=by omega
       have bz:b<h.length:=by unfold zc at gG;exact(Gv.1 gG).1
       have hh:h'=h.set b (.vec sz (bN+1) (xs.take len++ys)):=by
        unfold jr at bJ
        rw[G5.mpr bz]at bJ
        simpa using bJ.symm
       refine⟨b,.vec sz (bN+1) (xs.take len++ys),.vec dj dG xs,.inr (by show I dj=I ((rk+1000*sz) / 1000);rw[m2,c7]),gG,hh,by show I sz=I ((rk+1000*sz) / 1000);rw[m2],fun g hg=>?_⟩
       have jN:zc g b=I (.vec dj dG xs):=hg
       have wh:b<g.length:=(Gv.1 hg).1
       simp only[qf,qp,e1,e2,jN,cW,hk,cond_true,jr,G5.mpr wh]
       rfl
      ·cases hs
    ·cases hs
   ·cases hs
  ·cases hs
 |ib rk sz n z ps=>trivial
 |cu rk sz b z n c=>
  cases rk with
  |none=>exact gf (fun _=>rfl) rfl
  |some rk=>
   simp only[qf,qp]at hs
   split at hs
   ·rename_i n' c' e1 e2
    cases hk:(Gx n' c'&&G7 n' 1073741824&&G7 b 4096&&Gx z.length sz&&G3 0 sz&&z.all ql)with
    |false=>simp[hk]at hs
    |true=>
     simp only[hk,cond_true]at hs
     split at hs
     ·rename_i h' hn
      have h1:=qy hs
      refine⟨_,by rw[h1];exact hn,fun g g3 hg=>?_⟩
      simp only[qf,qp,e1,e2,hk,cond_true]
      rw[show cU.cZ (.cu (I rk) sz b z n c)=rk from rfl]at hg
      rw[hg,h1];rfl
     ·cases hs
   ·cases hs
 |lookup kd z ok x y=>
  simp only[qf,yi]at hs
  split at hs
  ·rename_i b kv e1 e2
   cases hk:j9 h0 al b with
   |false=>simp[hk]at hs
   |true=>
    simp only[hk,cond_true]at hs
    split at hs
    ·rename_i es hb
     have jN:∀h':qh,(∀b,j9 h0 al b=Gp→(pq al=Gp→nV h[b]?=Gp)→h'[b]?=h[b]?)→zc h' b=I (.map es):=fun h' dk=>by
      have Ry:=DE hb rfl
      unfold zc at hb ⊢;rw[dk b hk fun _=>Ry,hb]
     split at hs
     ·rename_i i v hf
      refine⟨(mK (h':=h) hs).1,fun h' dk=>?_⟩
      simp only[qf,yi,e1,e2,hk,cond_true,jN h' dk,hf]
      exact(mK (h':=h') hs).2
     ·rename_i hf
      refine⟨(mK (h':=h) hs).1,fun h' dk=>?_⟩
      simp only[qf,yi,e1,e2,hk,cond_true,jN h' dk,hf]
      exact(mK (h':=h') hs).2
     ·cases hs
    ·cases hs
  ·rename_i kv e1 e2
   refine⟨(mK (h':=h) hs).1,fun h' dk=>?_⟩
   simp only[qf,yi,e1,e2]
   exact(mK (h':=h') hs).2
  ·cases hs
 |mapUpdate kd x y z=>
  simp only[qf,qp]at hs
  split at hs
  ·rename_i b kv v e1 e2 e3
   cases hk:j9 h0 al b with
   |false=>simp[hk]at hs
   |true=>
    simp only[hk,cond_true]at hs
    split at hs
    ·rename_i es hb
     have jN:∀h':qh,h'[b]?=h[b]?→zc h' b=I (.map es):=fun h' dk=>by
      unfold zc at hb ⊢;rw[dk,hb]
     split at hs
     ·rename_i i u hf
      split at hs
      ·rename_i h' bJ
       have h1:=qy hs
       refine⟨b,_,hk,DE hb rfl,rfl,by rw[h1];exact bJ,fun g g3 fE hg=>?_⟩
       simp only[qf,qp,e1,e2,e3,hk,cond_true,jN g fE,hf,hg,h1]
       rfl
      ·cases hs
     ·rename_i hf
      cases hl:G7 es.length 1073741824 with
      |false=>simp[hl]at hs
      |true=>
       simp only[hl,cond_true]at hs
       split at hs
       ·rename_i h' bJ
        have h1:=qy hs
        refine⟨b,_,hk,DE hb rfl,rfl,by rw[h1];exact bJ,fun g g3 fE hg=>?_⟩
        simp only[qf,qp,e1,e2,e3,hk,cond_true,jN g fE,hf,hl,hg,h1]
        rfl
       ·cases hs
     ·cases hs
    ·cases hs
  ·cases hs
 |delete kd x y=>
  simp only[qf,qp]at hs
  split at hs
  ·rename_i b kv e1 e2
   cases hk:j9 h0 al b with
   |false=>simp[hk]at hs
   |true=>
    simp only[hk,cond_true]at hs
    split at hs
    ·rename_i es hb
     have jN:∀h':qh,h'[b]?=h[b]?→zc h' b=I (.map es):=fun h' dk=>by
      unfold zc at hb ⊢;rw[dk,hb]
     split at hs
     ·rename_i rr hf
      split at hs
      ·rename_i h' bJ
       have h1:=qy hs
       refine⟨b,_,hk,DE hb rfl,rfl,by rw[h1];exact bJ,fun g g3 fE hg=>?_⟩
       simp only[qf,qp,e1,e2,hk,cond_true,jN g fE,hf,hg,h1]
       rfl
      ·cases hs
     ·cases hs
    ·cases hs
  ·cases hs
 |copy sz x y=>
  simp only[qf,qp]at hs
  split at hs
  ·rename_i b o len vy e1 e2
   cases hk:j9 h0 al b with
   |false=>simp[hk]at hs
   |true=>
    simp only[hk,cond_true]at hs
    split at hs
    ·rename_i cs hcs
     split at hs
     ·rename_i n us cW
      split at hs
      ·rename_i eE cr
       cases dx:Gx us.length (n*sz)with
       |false=>simp[dx]at hs
       |true=>
        simp only[dx,cond_true]at hs
        split at hs
        ·rename_i h' bJ
         have h1:=qy hs
         refine⟨b,_,hk,Gb hcs,rfl,by rw[h1];exact bJ,fun g g3 hb hg=>?_⟩
         simp only[qf,qp,e1,e2,hk,cond_true,Gc hb,hcs,cW,cr,dx,hg,h1]
         rfl
        ·cases hs
      ·cases hs
     ·cases hs
    ·cases hs
  ·cases hs
 |fA x=>
  simp only[qf,qp]at hs
  split at hs
  ·rename_i b hv
   cases hk:j9 h0 al b with
   |false=>simp[hk]at hs
   |true=>
    simp only[hk,cond_true]at hs
    split at hs
    ·rename_i s pos hb
     have bz:b<h.length:=by unfold zc at hb;exact(Gv.1 hb).1
     cases hp:G3 pos s.length with
     |true=>
      simp only[hp,cond_true]at hs
      split at hs
      ·rename_i h' bJ
       have h1:=qy hs
       refine⟨b,_,hk,DE hb rfl,rfl,by rw[h1];exact bJ,fun g g3 fE hg=>?_⟩
       have jN:zc g b=I (.iter s pos):=by unfold zc at hb ⊢;rw[fE,hb]
       simp only[qf,qp,hv,hk,cond_true,jN,hp,hg,h1]
       rfl
      ·cases hs
     |false=>
      simp only[hp,cond_false]at hs
      have h1:=qy hs
      have Gd:h.set b (.iter s pos)=h:=by
       unfold zc at hb
       apply St
       intro k
       rw[Qt]
       split
       ·rename_i hbk;subst hbk;first|exact hb.symm|rw[if_pos bz,hb]
       ·rfl
      refine⟨b,.iter s pos,hk,DE hb rfl,rfl,by rw[h1];unfold jr;rw[G5.mpr bz];simp[Gd],fun g g3 fE hg=>?_⟩
      have jN:zc g b=I (.iter s pos):=by unfold zc at hb ⊢;rw[fE,hb]
      have wh:b<g.length:=by unfold zc at jN;exact(Gv.1 jN).1
      have AQ:g3=g:=by
       unfold jr at hg
       rw[G5.mpr wh]at hg
       simp only[cond_true,I.injEq]at hg
       rw[←hg]
       unfold zc at jN
       apply St
       intro k
       rw[Qt]
       split
       ·rename_i hbk;subst hbk;first|exact jN.symm|rw[if_pos wh,jN]
       ·rfl
      simp only[qf,qp,hv,hk,cond_true,jN,hp,cond_false,h1,AQ]
      rfl
    ·cases hs
  ·cases hs
 |_=>exact gf (fun _=>rfl) rfl
theorem xY {h h' b x}(hs:jr h b x=I h'):b<h.length∧h'=h.set b x:=by
 unfold jr at hs
 cases hb:G3 b h.length with
 |false=>simp[hb]at hs
 |true=>exact⟨G5.mp hb,by simpa[hb]using hs.symm⟩
theorem AR {h b x}(hb:b<h.length):jr h b x=I (h.set b x):=by
 unfold jr
 rw[G5.mpr hb];rfl
theorem DF {h k x}(hh:h[h0+k]?=I .hole):aS h0 h k x=I (h.set (h0+k) x):=by
 unfold aS;rw[hh]
theorem DG {b k}(h:j9 h0 al b=Gp)(hk:mX al k=Gy):b≠h0+k:=by
 intro hb
 subst hb
 cases al with
 |none=>simp[mX]at hk
 |some l=>
  simp only[j9,mX]at h hk
  have h1:G3 (h0+k) h0=Gy:=by
   cases hh:G3 (h0+k) h0 with
   |false=>rfl
   |true=>have:=G5.mp hh;omega
  cases he:oG l with
  |false=>
   rw[he]at h hk
   simp only[cond_false]at h hk
   rw[h1,Qe,show h0+k-h0=k from by omega,hk]at h
   cases h
  |true=>
   rw[he]at h hk
   simp only[cond_true]at h hk
   cases l with
   |nil=>cases he
   |cons x l=>
    simp only[zX]at h
    cases hx:G3 x 2000 with
    |true=>rw[hx]at h;simp only[cond_true,h1,Bool.and_false]at h;cases h
    |false=>
     rw[hx]at h
     simp only[cond_false]at h
     cases hx4:G3 x 4000 with
     |false=>rw[hx4]at h;simp only[cond_false,h1]at h;cases h
     |true=>
      rw[hx4]at h
      simp only[cond_true]at h
      have h2:=Es h
      have h3:¬x<2000:=fun hh=>by rw[G5.mpr hh]at hx;cases hx
      have h4:x=2000+k:=by omega
      rw[show(x::l).headD 0=x from rfl,h4,Yc]at hk
      cases hk
theorem qox {l:List Nat}{x}(h:(!(l.contains x))=Gp):l.contains x=Gy:=by
 cases hc:l.contains x with
 |false=>rfl
 |true=>rw[hc]at h;cases h
theorem Rz {RA RB:Option (List Nat)}{b b'}(h:Dn RA RB=Gp)(h1:j9 h0 RA b=Gp)(h2:j9 h0 RB b'=Gp):b≠b':=by
 intro hb
 subst hb
 cases RA with
 |none=>cases h
 |some l=>
  cases RB with
  |none=>cases h
  |some m=>
   simp only[Dn,j9]at h h1 h2
   have inv:∀ {k:List Nat},oG k=Gp→G3 (k.headD 0) 4000=Gp→zX h0 k b=Gp→(1000≤k.headD 0)∧((k.headD 0<2000∧b=k.headD 0-1000∧b<h0)∨(2000≤k.headD 0∧b=h0+(k.headD 0-2000))):=by
    intro k he h4 hq
    cases k with
    |nil=>cases he
    |cons x k=>
     refine⟨Gs he,?_⟩
     simp only[zX]at hq
     cases hx:G3 x 2000 with
     |true=>
      rw[hx]at hq
      simp only[cond_true,En]at hq
      exact .inl ⟨G5.mp hx,Es hq.1,G5.mp hq.2⟩
     |false=>
      rw[hx,show G3 x 4000=Gp from h4]at hq
      simp only[cond_false,cond_true]at hq
      have h3:¬x<2000:=fun hh=>by rw[G5.mpr hh]at hx;cases hx
      exact .inr ⟨by show 2000≤x;omega,Es hq⟩
   have old:∀ {k:List Nat} {r:Nat},b=h0+r→k.contains r=Gy→(G3 b h0||k.contains (b-h0))=Gp→False:=by
    intro k r iH hc hq
    have h3:G3 b h0=Gy:=by
     cases hh:G3 b h0 with
     |false=>rfl
     |true=>have:=G5.mp hh;omega
    rw[h3,Qe,show b-h0=r by omega,hc]at hq
    cases hq
   cases hl:oG l with
   |true=>
    rw[hl]at h h1
    simp only[cond_true]at h h1
    cases hm:oG m with
    |true=>
     rw[hm]at h h2
     simp only[cond_true,En]at h h2
     obtain⟨i1,i2⟩:=inv hl h.1.2 h1
     obtain⟨i3,i4⟩:=inv hm h.2 h2
     have bL:l.headD 0≠m.headD 0:=fun e=>by rw[e,Yc]at h;exact absurd h.1.1 (by simp)
     omega
    |false=>
     rw[hm]at h h2
     simp only[cond_false,En]at h h2
     obtain⟨i1,i2⟩:=inv hl h.1.2 h1
     have h3:=Gs h.1.1
     exact old (by omega) (qox h.2) h2
   |false=>
    rw[hl]at h h1
    simp only[cond_false,En]at h h1
    obtain⟨⟨⟨h3,h4⟩,h6⟩,h5⟩:=h
    rw[h3]at h2
    simp only[cond_true]at h2
    obtain⟨i3,i4⟩:=inv h3 h6 h2
    have h4:=Gs h4
    exact old (by omega) (qox h5) h1
theorem RC {F h r k}(H:HB h0 al F h r .take k):HB h0 al F h r .write k:=by
 obtain⟨b,cs,v,o,hb,hc,hv,hs,h4⟩:=H
 have bz:b<h.length:=(Gv.1 hc).1
 refine⟨b,.cells (cs.set k (v,Gy)),hb,by rw[hc];rfl,rfl,by rw[hs];exact AR bz,fun h' h3 hh bJ=>?_⟩
 rw[h4 h' cs (by rw[hh];exact hc) hv]
 obtain⟨_,s2⟩:=xY bJ
 rw[s2]
theorem jgb {ca cb ka kb pB pC Fa Fb h ra rb}(xZ:Fb h=I rb)(Ge:Fa rb.heap=I ra)(Hb:HB h0 pC Fb h rb cb kb)(Ha:HB h0 pB Fa rb.heap ra ca ka)
  (ea:cb=.read∨cb=.write∨cb=.take) (eo:ca=.read∨ca=.write∨ca=.take) (nv:Dn pC pB=Gp):
  ∃h1,Fa h=I (ra.at h1)∧Fb h1=I (rb.at ra.heap):=by
 have hat:∀r:bm,r.at r.heap=r:=fun _=>rfl
 have wb:(cb=.read∧HB h0 pC Fb h rb .read kb)∨HB h0 pC Fb h rb .write kb:=by
  rcases ea with rfl|rfl|rfl
  ·exact .inl ⟨rfl,Hb⟩
  ·exact .inr Hb
  ·exact .inr (RC Hb)
 have wa:(ca=.read∧HB h0 pB Fa rb.heap ra .read ka)∨HB h0 pB Fa rb.heap ra .write ka:=by
  rcases eo with rfl|rfl|rfl
  ·exact .inl ⟨rfl,Ha⟩
  ·exact .inr Ha
  ·exact .inr (RC Ha)
 rcases wb with⟨_,h1,h2⟩|⟨b,x,hb,_,_,hs,h2⟩
 ·rcases wa with⟨_,h3,h4⟩|⟨b',y,fE,_,_,gW,h4⟩
  ·exact⟨h,h4 h (fun b _ _=>by rw[h1]),by rw[h3,hat];exact xZ⟩
  ·rw[h1]at gW
   obtain⟨s1,s2⟩:=xY gW
   refine⟨ra.heap,by rw[hat,←Ge,h1],h2 _ (fun b hb _=>?_)⟩
   rw[s2,E9 (H9 (Rz nv hb fE))]
 ·obtain⟨s1,s2⟩:=xY hs
  rcases wa with⟨_,h3,h4⟩|⟨b',y,fE,_,_,gW,h4⟩
  ·refine⟨h,h4 h (fun b' fE _=>?_),by rw[h3,hat];exact xZ⟩
   rw[s2,E9 (Rz nv hb fE)]
  ·obtain⟨s3,s4⟩:=xY gW
   have bL:=Rz nv hb fE
   rw[s2,If]at s3
   refine⟨h.set b' y,h4 _ _ (by rw[s2,E9 bL]) (AR s3),h2 _ _ (by rw[E9 (H9 bL)]) ?_⟩
   rw[AR (by rw[If];exact s1),s4,s2,Ie _ _ (H9 bL)]
def KU (ca cb:Ae)(ka kb:Nat)(pB pC:Option (List Nat)):Prop:=
 (cb=.nZ∧ca=.nZ∧kb % 1000≠ka % 1000∧kb / 1000≠ka / 1000)∨(cb=.nZ∧(ca=.read∨ca=.write∨ca=.take)∧pq pB=Gp)∨((cb=.read∨cb=.write∨cb=.take)∧ca=.nZ∧pq pC=Gp)
theorem jtj {ca cb ka kb pB pC Fa Fb h ra rb}(xZ:Fb h=I rb)(Ge:Fa rb.heap=I ra)(Hb:HB h0 pC Fb h rb cb kb)(Ha:HB h0 pB Fa rb.heap ra ca ka)
  (dJ:KU ca cb ka kb pB pC):∃h1,Fa h=I (ra.at h1)∧Fb h1=I (rb.at ra.heap):=by
 have hat:∀r:bm,r.at r.heap=r:=fun _=>rfl
 have Gf:∀ {c:Ae} {k:Nat} {al:Option (List Nat)} {F:qh→Option bm} {g:qh} {r:bm},HB h0 al F g r c k→(c=.read∨c=.write∨c=.take)→HB h0 al F g r .read k∨HB h0 al F g r .write k:=by
  intro c k al F g r H hc
  rcases hc with rfl|rfl|rfl
  ·exact .inl H
  ·exact .inr H
  ·exact .inr (RC H)
 have nvs:∀ {x:bg} {z:Nat},Rx x=I z→nV (I x)=Gy:=fun {x z} h=>by cases x<;>first|rfl|cases h
 rcases dJ with⟨rfl,rfl,n1,n2⟩|⟨rfl,eo,hs⟩|⟨ea,rfl,hs⟩
 ·obtain⟨q,x,y,hq,hy,hh,hx,hF⟩:=Hb
  obtain⟨q',x',y',KO,qP,RD,fj,hF'⟩:=Ha
  have bz:q<h.length:=(Gv.1 hy).1
  have bL:q≠q':=by
   intro he
   subst he
   rw[hh,Jc bz]at qP
   cases qP
   rcases KO with⟨_,rfl⟩|h4
   ·cases hx
   ·rw[hx]at h4;exact n2 (I.inj h4)
  rw[hh,E9 bL]at qP
  refine⟨h.set q' x',hF' h qP,?_⟩
  rw[hF _ (by rw[E9 (H9 bL)];exact hy),RD,hh,Ie _ _ bL]
 ·obtain⟨q,x,y,hq,hy,hh,hx,hF⟩:=Hb
  have bz:q<h.length:=(Gv.1 hy).1
  -- the box that the append wrote is a vector now
  have dr:nV rb.heap[q]?=Gy:=by rw[hh,Jc bz];exact nvs hx
  rcases Gf Ha eo with⟨h3,h4⟩|⟨b,z,hb,hn,RE,hz,h4⟩
  ·refine⟨h,h4 h (fun b hb hn=>?_),by rw[h3,hat];exact xZ⟩
   have bL:b≠q:=fun e=>by subst e;rw[hn hs]at dr;cases dr
   rw[hh,E9 (H9 bL)]
  ·have bL:b≠q:=fun e=>by subst e;rw[hn]at dr;cases dr
   obtain⟨s1,s2⟩:=xY hz
   rw[hh,If]at s1
   refine⟨h.set b z,h4 _ _ (by rw[hh,E9 (H9 bL)]) (AR s1),?_⟩
   rw[hF _ (by rw[E9 bL];exact hy),s2,hh,Ie _ _ bL]
 ·obtain⟨q,x,y,hq,hy,hh,hx,hF⟩:=Ha
  have hold:nV (I y)=Gy:=by
   rcases hq with⟨_,rfl⟩|h1
   ·rfl
   ·exact nvs h1
  rcases Gf Hb ea with⟨h3,h4⟩|⟨b,z,hb,hn,RE,hz,h4⟩
  ·rw[h3]at hy hh
   refine⟨h.set q x,hF h hy,?_⟩
   rw[h4 (h.set q x) (fun b hb hn=>by
    have bL:b≠q:=fun e=>by subst e;rw[hy]at hn;rw[hold]at hn;exact absurd (hn hs) (by simp)
    rw[E9 (H9 bL)]),hh]
  ·obtain⟨s1,s2⟩:=xY hz
   have bL:b≠q:=by
    intro e
    subst e
    rw[s2,Jc s1]at hy
    rw[I.inj hy,hold]at RE
    cases RE
   rw[s2,E9 bL]at hy
   refine⟨h.set q x,hF h hy,h4 _ _ (by rw[E9 (H9 bL)]) ?_⟩
   rw[AR (by rw[If];exact s1),hh,s2,Ie _ _ (H9 bL)]
theorem jnc {ca cb ka kb pB pC Fa Fb h ra rb}(xZ:Fb h=I rb)(Ge:Fa rb.heap=I ra)(Hb:HB h0 pC Fb h rb cb kb)(Ha:HB h0 pB Fa rb.heap ra ca ka)
  (dJ:cb=.pure∨ca=.pure∨(cb=.read∧ca=.read)∨(cb=.alloc∧ca=.alloc∧kb≠ka)∨(cb=.alloc∧(ca=.read∨ca=.write∨ca=.take)∧mX pB kb=Gy)∨((cb=.read∨cb=.write∨cb=.take)∧ca=.alloc∧mX pC ka=Gy)∨(cb=.take∧ca=.take∧kb≠ka)):
  ∃h1,Fa h=I (ra.at h1)∧Fb h1=I (rb.at ra.heap):=by
 have hat:∀r:bm,r.at r.heap=r:=fun _=>rfl
 rcases dJ with rfl|rfl|⟨rfl,rfl⟩|⟨rfl,rfl,bL⟩|⟨rfl,eo,oM⟩|⟨ea,rfl,oM⟩|⟨rfl,rfl,bL⟩
 ·obtain⟨h1,h2⟩:=Hb
  exact⟨ra.heap,by rw[hat,←Ge,h1],h2 _⟩
 ·obtain⟨h1,h2⟩:=Ha
  exact⟨h,h2 _,by rw[h1,hat];exact xZ⟩
 ·obtain⟨h1,h2⟩:=Hb
  obtain⟨h3,h4⟩:=Ha
  exact⟨h,h4 h (fun b _ _=>by rw[h1]),by rw[h3,hat];exact xZ⟩
 ·obtain⟨x,n1,n2⟩:=Hb
  obtain⟨y,n3,n4⟩:=Ha
  obtain⟨i1,i2⟩:=yx n1
  obtain⟨i3,i4⟩:=yx n3
  rw[i2,E9 (by omega)]at i3
  refine⟨h.set (h0+ka) y,n4 _ _ (DF i3),n2 _ _ ?_⟩
  rw[DF (by rw[E9 (by omega)];exact i1),i4,i2,Ie _ _ (by omega)]
 ·obtain⟨x,n1,n2⟩:=Hb
  obtain⟨i1,i2⟩:=yx n1
  rcases eo with rfl|rfl|rfl
  ·obtain⟨h3,h4⟩:=Ha
   refine⟨h,h4 h (fun b hb _=>?_),by rw[h3,hat];exact xZ⟩
   rw[i2,E9 (H9 (DG hb oM))]
  ·obtain⟨b,y,hb,_,_,hs,h4⟩:=Ha
   obtain⟨s1,s2⟩:=xY hs
   have bL:=DG hb oM
   rw[i2,If]at s1
   refine⟨h.set b y,h4 _ _ (by rw[i2,E9 (H9 bL)]) (AR s1),n2 _ _ ?_⟩
   rw[DF (by rw[E9 bL];exact i1),s2,i2,Ie _ _ bL]
  ·obtain⟨b,cs,v,o,hb,hc,hv,hs,h4⟩:=Ha
   have bL:=DG hb oM
   rw[i2,E9 (H9 bL)]at hc
   refine⟨_,h4 _ _ hc hv,n2 _ _ ?_⟩
   rw[DF (by rw[E9 bL];exact i1),hs,i2,Ie _ _ bL]
 ·obtain⟨y,n3,n4⟩:=Ha
  obtain⟨i3,i4⟩:=yx n3
  rcases ea with rfl|rfl|rfl
  ·obtain⟨h1,h2⟩:=Hb
   refine⟨ra.heap,by rw[hat,←Ge,h1],h2 _ (fun b hb _=>?_)⟩
   rw[i4,h1,E9 (H9 (DG hb oM))]
  ·obtain⟨b,x,hb,_,_,hs,h2⟩:=Hb
   obtain⟨s1,s2⟩:=xY hs
   have bL:=DG hb oM
   rw[s2,E9 bL]at i3
   refine⟨h.set (h0+ka) y,n4 _ _ (DF i3),h2 _ _ (by rw[E9 (H9 bL)]) ?_⟩
   rw[AR (by rw[If];exact s1),i4,s2,Ie _ _ (H9 bL)]
  ·obtain⟨b,cs,v,o,hb,hc,hv,hs,h2⟩:=Hb
   have bL:=DG hb oM
   rw[hs,E9 bL]at i3
   refine⟨h.set (h0+ka) y,n4 _ _ (DF i3),?_⟩
   rw[h2 _ cs (by rw[E9 (H9 bL)];exact hc) hv,i4,hs,Ie _ _ (H9 bL)]
 ·obtain⟨b,cs,v,o,hb,hc,hv,hs,h2⟩:=Hb
  obtain⟨b',eE,v',o',fE,dT,vb,gW,h4⟩:=Ha
  have bz:b<h.length:=(Gv.1 hc).1
  by_cases DH:b'=b
  ·subst DH
   rw[hs,Jc bz]at dT
   cases dT
   rw[E9 bL]at vb
   refine⟨h.set b' (.cells (cs.set ka (v',Gy))),h4 h cs hc vb,?_⟩
   rw[h2 _ (cs.set ka (v',Gy)) (by rw[Jc bz]) (by rw[E9 (H9 bL)];exact hv),gW,hs]
   simp only[List.set_set]
   rw[Ie _ _ bL]
  ·rw[hs,E9 (H9 DH)]at dT
   refine⟨h.set b' (.cells (eE.set ka (v',Gy))),h4 h eE dT vb,?_⟩
   rw[h2 _ cs (by rw[E9 DH];exact hc) hv,gW,hs,Ie _ _ DH]
end
section
variable {p:jz}{xc:XC}{h0:Nat}
def lX (p:jz)(xc:XC)(h0:Nat)(o:cf)(e:Env)(h:qh):Option bm:=
 match mT e o.guard with
 |some Gp=>qf p xc h0 o.al e h o.op
 |some Gy=>I ⟨.undef,Gy,G2,h⟩
 |none=>G2
def pD (o:cf)(e:Env)(r:bm):Env:=nX (z8 e r.strip) o.dst r.v r.own
theorem DI (o:cf)(st:bf):yu p xc h0 o st=(lX p xc h0 o st.env st.heap).map fun r=>⟨pD o st.env r,r.heap⟩:=by
 unfold yu lX
 cases hg:mT st.env o.guard with
 |none=>rfl
 |some b=>
  cases b with
  |false=>rfl
  |true=>
   simp only[]
   cases qf p xc h0 o.al st.env st.heap o.op<;>rfl
theorem q0o {e e' g}(h:Agree (match g with|some g=>[g.1]|none=>[]) e e'):mT e g=mT e' g:=by
 cases g with
 |none=>rfl
 |some g=>simp only[mT,h g.1 (by simp)]
theorem RF {o e e' h}(ha:Agree o.reads e e'):lX p xc h0 o e h=lX p xc h0 o e' h:=by
 have h1:Agree o.op.reads e e':=(Agree.app ha).1
 have h2:=(Agree.app ha).2
 simp only[lX,q0o h2,q4v h1]
theorem q6a {h0 r h v o res}(hs:qC h0 h r v o=I res):res.strip=G2:=by
 unfold qC at hs
 simp only[Je,val]at hs
 repeat' split at hs
 all_goals first
  |(cases hs;done)
  |(cases hs;rfl)
theorem q0c {al e h op r}(hs:qf p xc h0 al e h op=I r){s}(hr:r.strip=I s):s∈op.fK:=by
 have own:∀ {x:js},zj e x=I s→s∈zb x:=by
  intro x h
  obtain⟨rfl,_⟩:=Fw h
  simp[zb]
 have oj:∀ {x:AVal},val h x=I r→False:=fun hv=>by rw[qy hv]at hr;cases hr
 have AU:∀ {x:Option AVal},gB h x=I r→False:=fun hv=>by obtain⟨_,_,h1⟩:=uU hv;rw[h1]at hr;cases hr
 cases op with
 |take t=>
  simp only[qf,qo]at hs
  split at hs
  ·cases hs;simp at hr;simp[cU.fK,hr]
  ·cases hs
 |append rk sz b x y=>
  cases rk with
  |some rk=>
   simp only[qf,qp,Je]at hs
   repeat' split at hs
   all_goals first
    |(cases hs;done)
    |(cases hs;exact own hr)
  |none=>
   simp only[qf,qo,Je]at hs
   repeat' split at hs
   all_goals first
    |(cases hs;done)
    |(cases hs;exact own hr)
 |store n x y=>
  simp only[qf,qp,Je]at hs
  repeat' split at hs
  all_goals first
   |(cases hs;done)
   |exact(oj hs).elim
   |(rename_i ht _ _ _ _;cases hs;simp only[I.injEq]at hr;subst hr;exact own ht)
   |(unfold val at hs;cases hs;cases hr;done)
   |skip
 |cu rk sz b z n c=>
  cases rk with
  |some rk=>
   simp only[qf,qp,Je]at hs
   repeat' split at hs
   all_goals first
    |(cases hs;done)
    |exact(oj hs).elim
    |(unfold val at hs;cases hs;cases hr;done)
  |none=>
   simp only[qf,qo,Je]at hs
   repeat' split at hs
   all_goals first
    |(cases hs;done)
    |(cases hs;cases hr;done)
 |call md f l=>
  cases md<;>simp only[qf,yt,Je]at hs
  all_goals
   repeat' split at hs
  all_goals first
   |(cases hs;done)
   |exact(oj hs).elim
   |(cases hs;cases hr;done)
   |(rw[q6a hs]at hr;cases hr;done)
 |_=>
  simp only[qf,qo,yi,qp,Je]at hs
  repeat' split at hs
  all_goals first
   |(cases hs;done)
   |exact(oj hs).elim
   |exact(AU hs).elim
   |(cases hs;cases hr;done)
   |(unfold val at hs;cases hs;cases hr;done)
theorem qti {o e h r}(hs:lX p xc h0 o e h=I r){s}(hr:r.strip=I s):s∈o.op.fK:=by
 unfold lX at hs
 split at hs
 ·exact q0c hs hr
 ·cases hs;cases hr
 ·cases hs
theorem DJ {s x e}:ji s ((s,x)::e)=I x:=by
 simp only[ji,Yc,cond_true]
theorem KW {s t x e}(h:s≠t):ji s ((t,x)::e)=ji s e:=by
 have:Gx t s=Gy:=by
  cases hb:Gx t s with
  |false=>rfl
  |true=>exact absurd (Es hb).symm h
 simp only[ji,this,cond_false]
theorem RG {s e x}(h:∀t,x=I t→s≠t):ji s (z8 e x)=ji s e:=by
 cases x with
 |none=>rfl
 |some t=>
  simp only[z8]
  split
  ·exact KW (h t rfl)
  ·rfl
theorem qsx {s e e' x}(h:ji s e=ji s e'):ji s (z8 e x)=ji s (z8 e' x):=by
 cases x with
 |none=>exact h
 |some t=>
  by_cases cr:s=t
  ·subst cr
   simp only[z8]
   rw[←h]
   cases hl:ji s e with
   |none=>simp only[];rw[hl,←h,hl]
   |some y=>simp only[];rw[DJ,DJ]
  ·rw[RG (fun u hu=>by cases hu;exact cr),RG (fun u hu=>by cases hu;exact cr)]
   exact h
theorem RH {s e d v o}(h:∀t,d=I t→s≠t):ji s (nX e d v o)=ji s e:=by
 cases d with
 |none=>rfl
 |some t=>exact KW (h t rfl)
theorem qyr {s e e' d v o}(h:ji s e=ji s e'):ji s (nX e d v o)=ji s (nX e' d v o):=by
 cases d with
 |none=>exact h
 |some t=>
  by_cases cr:s=t
  ·subst cr;simp only[nX];rw[DJ,DJ]
  ·rw[RH (fun u hu=>by cases hu;exact cr),RH (fun u hu=>by cases hu;exact cr)];exact h
theorem RI {o s e e' r}(h:ji s e=ji s e'):ji s (pD o e r)=ji s (pD o e' r):=qyr (qsx h)
theorem DK {o s e r}(hr:∀t,r.strip=I t→t∈o.op.fK)(h:s ∉ o.writes):ji s (pD o e r)=ji s e:=by
 unfold pD
 rw[RH,RG]
 ·intro t ht cr
  exact h (T7 _ (cr▸hr t ht))
 ·intro t ht cr
  exact h (Xx _ (by rw[ht,cr];simp))
theorem jee {o e r h}:pD o e (r.at h)=pD o e r:=rfl
def jO (a b:bf):Prop:=a.heap=b.heap∧∀s,ji s a.env=ji s b.env
theorem jO.refl (a:bf):jO a a:=⟨rfl,fun _=>rfl⟩
theorem jO.trans {a b c}(h:jO a b)(k:jO b c):jO a c:=⟨h.1.trans k.1,fun s=>(h.2 s).trans (k.2 s)⟩
theorem qyo {o a b a'}(h:jO a b)(hs:yu p xc h0 o a=I a'):∃b',yu p xc h0 o b=I b'∧jO a' b':=by
 rw[DI]at hs
 obtain⟨r,hr,rfl⟩:=Gt.1 hs
 rw[RF (e':=b.env) (fun s _=>h.2 s),h.1]at hr
 refine⟨⟨pD o b.env r,r.heap⟩,by rw[DI,hr];rfl,rfl,fun s=>RI (h.2 s)⟩
theorem qvo:∀ {l:List cf} {a b a':bf},jO a b→fW p xc h0 l a=I a'→∃b',fW p xc h0 l b=I b'∧jO a' b'
 | [],a,b,a',h,hs=>by simp only[fW,I.injEq]at hs ⊢;subst hs;exact⟨b,rfl,h⟩
 |o::l,a,b,a',h,hs=>by
  simp only[fW]at hs
  split at hs
  ·rename_i a1 h1
   obtain⟨b1,k1,k2⟩:=qyo h h1
   obtain⟨b',k3,k4⟩:=qvo k2 hs
   exact⟨b',by simp only[fW,k1,k3],k4⟩
  ·cases hs
theorem jb9 {o e h r}(hs:lX p xc h0 o e h=I r):∃c k,HB h0 o.al (lX p xc h0 o e) h r c k∧(c=.pure∨(c=o.op.cl∧k=o.op.cZ)):=by
 unfold lX at hs
 cases hg:mT e o.guard with
 |none=>rw[hg]at hs;cases hs
 |some b=>
  cases b with
  |false=>
   rw[hg]at hs
   cases hs
   exact⟨.pure,0,⟨rfl,fun h'=>by simp only[lX,hg];rfl⟩,.inl rfl⟩
  |true=>
   rw[hg]at hs
   have:=jc6 hs
   have heq:(fun h=>qf p xc h0 o.al e h o.op)=lX p xc h0 o e:=by
    funext h;simp only[lX,hg]
   rw[heq]at this
   exact⟨_,_,this,.inr ⟨rfl,rfl⟩⟩
theorem jal {a b}(h:Qf a b=Gp):a.op.cl=.pure∨b.op.cl=.pure∨a.op.cl=.fJ∨b.op.cl=.fJ∨(a.op.cl=.read∧b.op.cl=.read)∨(a.op.cl=.alloc∧b.op.cl=.alloc∧a.op.cZ≠b.op.cZ) ∨
  (a.op.cl=.alloc∧(b.op.cl=.read∨b.op.cl=.write∨b.op.cl=.take)∧mX b.al a.op.cZ=Gy)∨((a.op.cl=.read∨a.op.cl=.write∨a.op.cl=.take)∧b.op.cl=.alloc∧mX a.al b.op.cZ=Gy)∨(a.op.cl=.take∧b.op.cl=.take∧a.op.cZ≠b.op.cZ)∨((a.op.cl=.read∨a.op.cl=.write∨a.op.cl=.take)∧(b.op.cl=.read∨b.op.cl=.write∨b.op.cl=.take)∧Dn a.al b.al=Gp)∨KU b.op.cl a.op.cl b.op.cZ a.op.cZ b.al a.al:=by
 unfold Qf at h
 rw[L9]at h
 rcases h with h|h
 ·simp only[En]at h
  obtain⟨⟨h1,h2⟩,h3⟩:=h
  have hb:∀ {c:Ae},c.box=Gp→c=.read∨c=.write∨c=.take:=fun {c} hc=>by cases c<;>first|(cases hc;done)|simp
  simp only[hb h1,hb h2,h3,and_self,or_true,true_or]
 unfold KU
 cases ha:a.op.cl<;>cases hb:b.op.cl<;>simp_all
theorem RJ {a b}(h:Fh a b=Gp){s}(hs:s∈a):s ∉ b:=by
 unfold Fh at h
 rw[G6]at h
 have:=h s hs
 simpa using this
theorem zct {a b st s1 s2}(hm:Af b a=Gp)(h1:yu p xc h0 b st=I s1)(h2:yu p xc h0 a s1=I s2):
  ∃t1 t2,yu p xc h0 a st=I t1∧yu p xc h0 b t1=I t2∧jO s2 t2:=by
 rw[DI]at h1
 obtain⟨rb,hb,rfl⟩:=Gt.1 h1
 rw[DI]at h2
 obtain⟨ra,ha,rfl⟩:=Gt.1 h2
 simp only[Af,En]at hm
 obtain⟨⟨⟨hc,d1⟩,d2⟩,d3⟩:=hm
 have sb:∀t,rb.strip=I t→t∈b.op.fK:=fun t ht=>qti hb ht
 have sa:∀t,ra.strip=I t→t∈a.op.fK:=fun t ht=>qti ha ht
 -- the later one reads nothing that the earlier one writes
 have KX:lX p xc h0 a st.env rb.heap=I ra:=by
  rw[←ha]
  refine RF fun s hs=>(DK sb ?_).symm
  exact fun hw=>RJ d1 hw hs
 obtain⟨cb,kb,Hb,ob⟩:=jb9 hb
 obtain⟨ca,ka,Ha,oa⟩:=jb9 KX
 have nv:((cb=.read∨cb=.write∨cb=.take)∧(ca=.read∨ca=.write∨ca=.take)∧Dn b.al a.al=Gp)∨(cb=.pure∨ca=.pure∨(cb=.read∧ca=.read)∨(cb=.alloc∧ca=.alloc∧kb≠ka)∨(cb=.alloc∧(ca=.read∨ca=.write∨ca=.take)∧mX a.al kb=Gy)∨((cb=.read∨cb=.write∨cb=.take)∧ca=.alloc∧mX b.al ka=Gy)∨(cb=.take∧ca=.take∧kb≠ka))∨KU ca cb ka kb a.al b.al:=by
  rcases ob with rfl|⟨rfl,rfl⟩
  ·exact .inr (.inl (.inl rfl))
  rcases oa with rfl|⟨rfl,rfl⟩
  ·exact .inr (.inl (.inr (.inl rfl)))
  rcases jal hc with h|h|h|h|h|h|h|h|h|h|h
  ·exact .inr (.inl (.inl h))
  ·exact .inr (.inl (.inr (.inl h)))
  ·rw[h]at Hb;exact Hb.elim
  ·rw[h]at Ha;exact Ha.elim
  ·exact .inr (.inl (.inr (.inr (.inl h))))
  ·exact .inr (.inl (.inr (.inr (.inr (.inl h)))))
  ·exact .inr (.inl (.inr (.inr (.inr (.inr (.inl h))))))
  ·exact .inr (.inl (.inr (.inr (.inr (.inr (.inr (.inl h)))))))
  ·exact .inr (.inl (.inr (.inr (.inr (.inr (.inr (.inr h)))))))
  ·exact .inl h
  ·exact .inr (.inr h)
 have hsw:∃h1,lX p xc h0 a st.env st.heap=I (ra.at h1)∧lX p xc h0 b st.env h1=I (rb.at ra.heap):=by
  rcases nv with⟨q1,q2,q3⟩|dJ|dJ
  ·exact jgb hb KX Hb Ha q1 q2 q3
  ·exact jnc hb KX Hb Ha dJ
  ·exact jtj hb KX Hb Ha dJ
 obtain⟨h3,k1,k2⟩:=hsw
 have k2':lX p xc h0 b (pD a st.env (ra.at h3)) h3=I (rb.at ra.heap):=by
  rw[←k2]
  refine RF fun s hs=>DK (fun t ht=>sa t ht) ?_
  exact fun hw=>RJ d3 hw hs
 refine⟨⟨pD a st.env (ra.at h3),h3⟩,⟨pD b (pD a st.env (ra.at h3)) (rb.at ra.heap),ra.heap⟩,by rw[DI,k1];rfl,by rw[DI];simp only[k2'];rfl,rfl,fun s=>?_⟩
 simp only[jee]
 by_cases hw:s∈a.writes
 ·have DA:s ∉ b.writes:=fun h=>RJ d2 h hw
  rw[DK sb DA]
  exact RI (DK sb DA)
 ·rw[DK sa hw]
  exact RI (DK sa hw).symm
theorem qw2:∀ {l1 l2:List cf} {a:cf} {st s2:bf},(∀b∈l1,Af b a=Gp)→fW p xc h0 (l1++a::l2) st=I s2 →
  ∃t1 t2,yu p xc h0 a st=I t1∧fW p xc h0 (l1++l2) t1=I t2∧jO s2 t2
 | [],l2,a,st,s2,_,hs=>by
  simp only[List.nil_append,fW]at hs
  split at hs
  ·rename_i t1 h1;exact⟨t1,s2,h1,hs,jO.refl _⟩
  ·cases hs
 |b::l1,l2,a,st,s2,hm,hs=>by
  simp only[Yr,fW]at hs
  split at hs
  ·rename_i s h1
   obtain⟨u1,u2,h2,h3,h4⟩:=qw2 (fun c hc=>hm c (by simp[hc])) hs
   obtain⟨t1,t2,h5,h6,h7⟩:=zct (hm b (by simp)) h1 h2
   obtain⟨u3,h8,h9⟩:=qvo h7 h3
   exact⟨t1,u3,h5,by simp only[Yr,fW,h6,h8],h4.trans h9⟩
  ·cases hs
end
def dz (P:Program)(w0:World)(C0 C:aK)(nt:Nat)(st:bf)(a:Act)(w:World):Prop:=
 a.tmps.size=nt∧∃C' ω',C.le C'∧Marks C' w0.heap.size a.defers∧az P C' ω' w0 C0 st.heap w∧ak C' ω' w w0.heap.size st.env a.tmps
structure Gg (P:Program)(nt:Nat)(ops:Array Oper)(o:Oper)(ao:cf):Prop where
 op:∃h md r,(cV P h md r o.dst o.op).getD .bad=ao.op
 guard:Dl ops o.guard=I ao.guard
 dst:ao.dst=ao.op.xK o.dst
 fits:∀d,o.dst=I d→d<nt
 vfits:∀d,ao.op.ic=I d→d<nt
 Gh:∀d,ao.op.ic=I d→o.dst=G2∧o.guard=G2
section
variable {P:Program}{p:jz}{xc:XC}{C C0:aK}{w0:World}{nt h0:Nat}{ops:Array Oper}{ρ:Option Nat}
theorem dz.eqv {st bZ a w}(h:dz P w0 C0 C nt st a w)(he:jO st bZ):dz P w0 C0 C nt bZ a w:=by
 obtain⟨h1,C',ω',h3,h2,h4,h5⟩:=h
 exact⟨h1,C',ω',h3,h2,he.1▸h4,fun s x hx=>h5 s x (by rw[he.2 s];exact hx)⟩
theorem ak.putAt {ω w B d e tmps v u o}(he:ak C ω w B e tmps)(hd:d<tmps.size)(hr:bT C v u)(ho:o=Gp→aO C ω w B (.slot d) v u):ak C ω w B ((d,v,o)::e) (tmps.setIfInBounds d u):=by
 intro s x hx
 by_cases RL:s=d
 ·subst RL
  rw[DJ]at hx
  cases hx
  exact⟨u,by simp[hd],hr,ho⟩
 ·rw[KW RL]at hx
  obtain⟨y,h1,h2,h3⟩:=he s x hx
  exact⟨y,by rw[Np (H9 RL)];exact h1,h2,h3⟩
theorem jeu {ao:cf}{st:bf}{a:Act}{w:World}{C1:aK}{ω1:Nat→Option Loc}{e:Env}{h:qh}{v:AVal}{u:Value}{own:Bool}{o:Oper}(hd:ao.dst=o.dst)(hf:∀d,o.dst=I d→d<nt)(hs:a.tmps.size=nt)(kU:Marks C1 w0.heap.size a.defers)(hle:C.le C1)(m:az P C1 ω1 w0 C0 h w)(he:ak C1 ω1 w w0.heap.size e a.tmps)(hr:bT C1 v u)(ho:own=Gp→aO C1 ω1 w w0.heap.size (.slot (o.dst.getD 0)) v u):
  dz P w0 C0 C nt ⟨nX e ao.dst v own,h⟩ (a.put o.dst u) w:=by
 rw[hd]
 cases KY:o.dst with
 |none=>exact⟨hs,C1,ω1,hle,kU,m,he⟩
 |some d=>
  rw[KY]at ho
  refine⟨by simpa[Act.put]using hs,C1,ω1,hle,kU,m,?_⟩
  exact he.putAt (hs▸hf d KY) hr ho
theorem qzv {o:Oper}{ao:cf}{e tmps ω w B b}(he:ak C ω w B e tmps)(hg:Dl ops o.guard=I ao.guard)(hb:mT e ao.guard=I b):Region.wanted o (yielded ops tmps)=b:=by
 unfold Region.wanted
 cases hog:o.guard with
 |none=>
  rw[hog]at hg
  simp only[Dl,I.injEq]at hg
  rw[←hg]at hb
  simp only[mT,I.injEq]at hb
  exact hb
 |some g=>
  obtain⟨j,want⟩:=g
  rw[hog]at hg
  simp only[Dl]at hg
  split at hg
  ·rename_i d hd
   have hgd:=I.inj hg
   rw[←hgd]at hb
   simp only[mT]at hb
   split at hb
   ·rename_i c ow hl
    cases hb
    obtain⟨v,h1,h2,_⟩:=he d _ hl
    have:=h2.dv
    subst this
    simp only[yielded,hd,Yu,h1]
    cases c<;>cases want<;>rfl
   ·rename_i ow hl
    cases hb
    obtain⟨v,h1,h2,_⟩:=he d _ hl
    have hv:v=.tuple #[]:=by cases h2;rfl
    subst hv
    simp only[yielded,hd,Yu,h1]
    rfl
   ·cases hb
  ·cases hg
theorem q6h {h md r d op n s y}(Gi:∀t x z,op≠.store t x z):(cV P h md r d op).getD .bad≠.dV n s y:=by
 intro hc
 cases kW:cV P h md r d op with
 |none=>rw[kW]at hc;cases hc
 |some a=>
  rw[kW]at hc
  simp only[Jo]at hc
  subst hc
  cases op<;>simp only[cV,cond_eq_ite]at kW<;>(try exact Gi _ _ _ rfl)<;>(repeat' split at kW)<;>(try split at kW)<;>(try contradiction)<;>(try simp at kW)<;>(try (split at kW<;>simp at kW))<;>(try (unfold Kl at kW; (repeat' split at kW)<;>simp at kW))<;>(try (simp only[Qd,Dj]at kW; (repeat' split at kW)<;>simp at kW))<;>(try (simp only[Ac]at kW; (repeat' split at kW)<;>(try contradiction)<;>(try simp at kW)<;>(try (split at kW<;>simp at kW))))
theorem q7e (eA:b6 P p)(hx:cJ P xc){i:Nat}{o:Oper}{ao:cf}{st bZ:bf}{a:Act}{w:World}{Q:Exit→Act→World→Prop}{K:Act→World→Prop}(hi:ops[i]?=I o)(hr:Gg P nt ops o ao)(hs:yu p xc h0 ao st=I bZ)(cr:dz P w0 C0 C nt st a w)
  (hK:∀a' w',dz P w0 C0 C nt bZ a' w'→K a' w'):wpOpIn (jE ρ) 0 P ops Q i K a w:=by
 obtain⟨c7,C1,ω1,hle,kU,m,he⟩:=cr
 unfold wpOpIn
 rw[hi]
 simp only[]
 unfold yu at hs
 split at hs
 ·rename_i hg
  rw[qzv he hr.guard hg]
  simp only[if_true]
  split at hs
  ·rename_i res eC
   cases hs
   obtain⟨h,md,r,hop⟩:=hr.op
   cases np:ao.op.ic with
   |some sv=>
    -- the one write of a variable
    have AV:∃n y',ao.op=.dV n sv y':=by
     cases x5:ao.op<;>rw[x5]at np<;>simp[cU.ic]at np
     subst np;exact⟨_,_,rfl⟩
    obtain⟨n,y',x5⟩:=AV
    have hdd:ao.dst=I sv:=by rw[hr.dst,x5];rfl
    rw[x5]at eC hop
    have cr:∃t x y,o.op=.store t x y∧jm P t=I n∧qt x=I (.tmp sv)∧qt y=I y':=by
     cases hoo:o.op<;>rw[hoo]at hop
     case store t x y=>
      simp only[cV]at hop
      split at hop
      ·rename_i n' x' yy hn h1 h2
       simp only[Jo]at hop
       cases lS:Km h x' with
       |none=>rw[lS]at hop;cases hop
       |some s'=>
        rw[lS]at hop
        simp only[cU.dV.injEq]at hop
        obtain⟨rfl,rfl,rfl⟩:=hop
        refine⟨t,x,y,rfl,hn,?_,h2⟩
        unfold Km at lS
        split at lS
        ·split at lS
         ·cases lS;exact h1
         ·cases lS
        ·cases lS
      ·cases hop
     all_goals exact absurd hop (q6h (by simp))
    obtain⟨t,x,y,ho,hn,h1,h2⟩:=cr
    simp only[qf,qo]at eC
    split at eC
    ·rename_i mm v hl e2
     cases hk:(Gx mm n&&Gx v.flat.length n&&v.flat.all ql)with
     |false=>rw[hk]at eC;cases eC
     |true=>
      rw[hk]at eC
      simp only[cond_true,val,I.injEq]at eC
      subst eC
      simp only[En]at hk
      obtain⟨⟨k1,k2⟩,k3⟩:=hk
      obtain rfl:=Es k1
      obtain⟨w',C',ω',bE,cX,m',e'⟩:=jba m he ho hn h1 h2 hl e2 (Es k2) k3
      refine⟨fun _ _=>trivial,?_⟩
      rw[Oper.semAt_eq _ _ _ (fun c hc=>by rw[ho]at hc;cases hc),bE]
      have KY:o.dst=G2:=(hr.Gh sv np).1
      refine hK _ _ ?_
      rw[KY,hdd]
      exact⟨c7,C',ω',aK.le_trans hle cX,kU.mono cX,m',e'⟩
    ·cases eC
   |none=>
   have rA:ao.dst=o.dst:=by rw[hr.dst];cases x5:ao.op<;>rw[x5]at np<;>first|rfl|simp[cU.ic]at np
   have bE:yd P C1 C0 w0 a (.slot (o.dst.getD 0)) st.env o w res:=by
    cases hc:cV P h md r o.dst o.op with
    |none=>rw[hc]at hop;simp only[Eaa]at hop;rw[←hop]at eC;simp[qf,qo]at eC
    |some cP=>rw[hc]at hop;simp only[Jo]at hop;subst hop;exact jwm eA hx m he np hc eC
   have fin:∀v w',zi P C0 w0 C1 a.tmps (.slot (o.dst.getD 0)) st.env res v w'→K (a.put o.dst v) w':=by
    rintro v w' ⟨C2,ω2,h1,h2,h3,h4,h5⟩
    exact hK _ _ (jeu (st:=st) rA hr.fits c7 (kU.mono h1) (aK.le_trans hle h1) h2 h3 h4 h5)
   refine⟨fun _ _=>trivial,?_⟩
   rw[Oper.semAt_eq _ _ _ (fun c hc=>by
    rw[hc]at hop
    simp only[cV,Eaa]at hop
    rw[←hop]at eC
    simp[qf,qo]at eC)]
   rcases bE with⟨v,w',h1,h2⟩|⟨w',h1,h2⟩|⟨f,args,h1,h2⟩|⟨l,f,tmps,assign,body,h1,h2⟩
   ·rw[h1];exact fin v w' h2
   ·rw[h1];exact fin undef w' h2
   ·rw[h1]
    refine⟨fun h=>by simp[jE,Fence.wide]at h,CallsIn.mono (qxd.2 h2) ?_⟩
    rintro e w' ⟨v,rfl,gY⟩
    exact fin v w' gY
   ·rw[h1]
    have oN:RoundIn (jE ρ) 0 P l f tmps assign body w _:=h2
    refine⟨fun h=>by simp[jE,Fence.wide]at h,RoundIn.mono oN ?_⟩
    rintro e w' ⟨v,rfl,gY⟩
    exact fin v w' gY
  ·cases hs
 ·rename_i hg
  cases hs
  rw[qzv he hr.guard hg]
  simp only[Gz,if_false]
  have rA:ao.dst=o.dst:=by
   cases np:ao.op.ic with
   |none=>rw[hr.dst];cases x5:ao.op<;>rw[x5]at np<;>first|rfl|simp[cU.ic]at np
   |some sv=>
    have h1:=hr.guard
    rw[(hr.Gh sv np).2]at h1
    simp only[Dl,I.injEq]at h1
    rw[←h1]at hg
    simp[mT]at hg
  exact⟨fun _ _=>trivial,hK _ _ (jeu (st:=st) rA hr.fits c7 kU hle m he .undef (by simp))⟩
 ·cases hs
inductive lY (P:Program)(nt:Nat)(ops:Array Oper):List Nat→List cf→Prop where
 |nil:lY P nt ops [] []
 |cons {i:Nat} {o:Oper} {ao:cf} {l:List Nat} {lo:List cf} (hi:ops[i]?=I o) (h:Gg P nt ops o ao) (t:lY P nt ops l lo):lY P nt ops (i::l) (ao::lo)
theorem q7j (eA:b6 P p)(hx:cJ P xc){Q bZ}(hQ:∀a' w',dz P w0 C0 C nt bZ a' w'→Q .normal a' w'):∀ {l:List Nat} {lo:List cf} {st:bf} {a:Act} {w:World},lY P nt ops l lo→fW p xc h0 lo st=I bZ→dz P w0 C0 C nt st a w→wpOpsIn (jE ρ) 0 P ops Q l a w
 | [],_,st,a,w,.nil,hs,cr=>by
  simp only[fW,I.injEq]at hs
  subst hs
  exact hQ _ _ cr
 |i::l,_,st,a,w,.cons hi h t,hs,cr=>by
  simp only[fW]at hs
  split at hs
  ·rename_i s1 h1
   rw[wpOpsIn_cons]
   exact q7e eA hx hi h h1 cr fun a' w' iw=>q7j eA hx hQ t hs iw
  ·cases hs
theorem qzp {h id iE draw}:∀ {os:List Oper} {i:Nat} {rs Dm:List (Nat×Nat)} {l:List cf},Fg P h nt id ops iE draw os i rs=I (l,Dm)→(∀j,os[j]?=ops[i+j]?)→lY P nt ops (List.range' i os.length) l
 | [],i,rs,Dm,l,hc,_=>by
  simp only[Fg,I.injEq,Qw.injEq]at hc
  rw[←hc.1];exact .nil
 |o::os,i,rs,Dm,l,hc,hos=>by
  simp only[Fg]at hc
  split at hc
  ·rename_i g hg
   split at hc
   ·rename_i cG
    split at hc
    ·rename_i l1 oO Gj
     simp only[I.injEq,Qw.injEq]at hc
     rw[←hc.1]
     simp only[En]at cG
     obtain⟨⟨hf1,hf2⟩,hf3⟩:=cG
     refine .cons (o:=o) (by rw[←Nat.add_zero i,←hos 0];rfl) ⟨⟨h,jew h id i,rs.length,rfl⟩,hg,rfl,fun d hd=>?_,fun d hd=>?_,fun d hd=>?_⟩ ?_
     ·rw[hd]at hf1
      simpa using hf1
     ·simp only at hd
      rw[hd]at hf2
      simpa using hf2
     ·simp only at hd
      rw[hd]at hf3
      simpa using hf3
     ·exact qzp Gj (fun j=>by rw[show i+1+j=i+(j+1)from by omega,←hos (j+1)];rfl)
    ·cases hc
   ·cases hc
  ·cases hc
theorem az.holes {ω w hp}(m:az P C ω w0 C0 hp w)(n:Nat):az P C ω w0 C0 (hp++Ead n .hole) w:=
 { m with
  lt:=fun b r hb=>⟨(m.lt b r hb).1,by rw[List.length_append];have:=(m.lt b r hb).2;omega⟩
  box:=fun b x r hx hb=>m.box b x r (by rw[List.getElem?_append_left (m.lt b r hb).2]at hx;exact hx) hb }
theorem q2x {l e s x}:ji s (pY e l)=I x→ji s e=I x:=by
 induction l with
 |nil=>simp[pY,ji]
 |cons t l ih=>
  intro h
  simp only[pY]at h
  split at h
  ·rename_i y hy
   by_cases cr:s=t
   ·subst cr;rw[DJ]at h;rw[hy];exact h
   ·rw[KW cr]at h;exact ih h
  ·exact ih h
theorem dz.keep {st a w k}(h:dz P w0 C0 C nt st a w):dz P w0 C0 C nt (Aa st k) a w:=by
 cases k with
 |none=>exact h
 |some l=>
  obtain⟨h1,C',ω',h3,h2,h4,h5⟩:=h
  exact⟨h1,C',ω',h3,h2,h4,fun s x hx=>h5 s x (q2x hx)⟩
theorem qr2 {listed:Array Bool}{i j d}:(listed.setIfInBounds i Gp).getD j d=if i=j∧j<listed.size then Gp else listed.getD j d:=by
 simp only[G4,Array.getElem?_setIfInBounds]
 by_cases qH:i=j
 ·subst qH
  by_cases hl:i<listed.size
  ·simp[hl]
  ·simp[hl]
 ·simp[qH]
theorem jO.Gk {a b}(h:jO a b):jO b a:=⟨h.1.symm,fun s=>(h.2 s).symm⟩
def pick (full:List cf)(l:List Nat):List cf:=l.map fun i=>full.getD i default
theorem lY.get {l lo}(h:lY P nt ops l lo):l.length=lo.length∧∀k i,l[k]?=I i→∃o,ops[i]?=I o∧Gg P nt ops o (lo.getD k default):=by
 induction h with
 |nil=>exact⟨rfl,by simp⟩
 |cons hi h t ih=>
  refine⟨by simp[ih.1],fun k i hk=>?_⟩
  cases k with
  |zero=>simp at hk;subst hk;exact⟨_,hi,h⟩
  |succ k=>simp at hk;obtain⟨o,h1,h2⟩:=ih.2 k i hk;exact⟨o,h1,by simpa using h2⟩
theorem jsl {full:List cf}{iE:Array Nat}(eA:b6 P p)(hx:cJ P xc){Q bZ}(hQ:∀a' w',dz P w0 C0 C nt bZ a' w'→Q .normal a' w')
  (rC:∀i o,ops[i]?=I o→Gg P nt ops o (full.getD i default)) (Gl:∀i j,i<j→j<ops.size→(iE.getD j 0).testBit i=Gy→Af (full.getD i default) (full.getD j default)=Gp)
  (RM:∀j o i,ops[j]?=I o→i<ops.size→(iE.getD j 0).testBit i=Gp→∃e∈o.after,Region.binds .any e=Gp∧(e.on=i∨(iE.getD e.on 0).testBit i=Gp))
  (Gm:∀i o,ops[i]?=I o→∀e∈o.after,Region.binds .any e=Gp→e.on<i):
  ∀(fuel:Nat) (listed:Array Bool) (l:List Nat) (st s2:bf) (a:Act) (w:World),listed.size=ops.size→l.Pairwise (· < ·)→(∀i,i∈l↔i<ops.size∧listed.getD i Gp=Gy)→l.length≤fuel →
   (∀k i,i<ops.size→listed.getD k Gy=Gp→(iE.getD k 0).testBit i=Gp→listed.getD i Gy=Gp)→fW p xc h0 (pick full l) st=I s2→jO s2 bZ→dz P w0 C0 C nt st a w→wpAnyIn (jE ρ) 0 P .any ops Q fuel listed a w:=by
 intro fuel
 induction fuel with
 |zero=>
  intro listed l st s2 a w c7 gg du hlen kX hs heq cr
  have hl:l=[]:=S6.1 (by omega)
  subst hl
  simp only[pick,Eai,fW,I.injEq]at hs
  subst hs
  refine⟨?_,hQ _ _ (cr.eqv heq)⟩
  cases hr:Region.ready .any ops listed with
  |nil=>rfl
  |cons i rs=>
   have hi:i∈Region.ready .any ops listed:=by rw[hr];simp
   obtain⟨h1,o,ho,_⟩:=mem_ready.1 hi
   have:=(du i).2 ⟨(Gu.1 ho).1,h1⟩
   cases this
 |succ fuel ih=>
  intro listed l st s2 a w c7 gg du hlen kX hs heq cr
  refine⟨fun hr=>?_,fun i hi=>?_⟩
  ·cases l with
   |nil=>
    simp only[pick,Eai,fW,I.injEq]at hs
    subst hs
    exact hQ _ _ (cr.eqv heq)
   |cons i l=>
    exfalso
    obtain⟨h1,h2⟩:=(du i).1 (by simp)
    have hi:i∈Region.ready .any ops listed:=by
     refine mem_ready.2 ⟨h2,ops[i],Jn h1,fun e he hb=>?_⟩
     have bz:=Gm i _ (Jn h1) e he hb
     have bL:e.on ∉ i::l:=fun hm=>by
      rcases R0.1 hm with h|h
      ·omega
      ·have:=(Yb.1 gg).1 _ h;omega
     have h3:¬(listed.getD e.on Gp=Gy):=fun h=>bL ((du e.on).2 ⟨by omega,h⟩)
     have rD:e.on<listed.size:=by omega
     simp only[G4,Jn rD,Jo]at h3 ⊢
     simpa using h3
    rw[hr]at hi
    cases hi
  ·obtain⟨h1,o,ho,hall⟩:=mem_ready.1 hi
   have bz:=(Gu.1 ho).1
   have him:i∈l:=(du i).2 ⟨bz,h1⟩
   obtain⟨l1,l2,rfl⟩:=List.append_of_mem him
   have RN:∀k,k∈l1++i::l2→listed.getD k Gy=Gp→False:=fun k hk hl=>by
    obtain⟨k1,k2⟩:=(du k).1 hk
    have rD:k<listed.size:=by omega
    simp only[G4,Jn rD,Jo]at hl k2
    rw[hl]at k2;cases k2
   have hbi:∀k,k<ops.size→(iE.getD i 0).testBit k=Gp→listed.getD k Gy=Gp:=fun k hk hb=>by
    obtain⟨e,he,lv,h2|h2⟩:=RM i o k ho hk hb
    ·rw[←h2];exact hall e he lv
    ·exact kX e.on k hk (hall e he lv) h2
   have hm:∀b∈pick full l1,Af b (full.getD i default)=Gp:=by
    intro b hb
    obtain⟨k,hk,rfl⟩:=Eah.1 hb
    have AW:k<i:=(Xy.1 gg).2.2 k hk i (by simp)
    refine Gl k i AW bz ?_
    cases RO:(iE.getD i 0).testBit k with
    |false=>rfl
    |true=>exact(RN k (by simp[hk]) (hbi k (by omega) RO)).elim
   have RP:pick full (l1++i::l2)=pick full l1++full.getD i default::pick full l2:=by simp[pick]
   rw[RP]at hs
   obtain⟨t1,t2,g1,g2,g3⟩:=qw2 hm hs
   refine q7e eA hx ho (rC i o ho) g1 cr fun a' w' iw=>?_
   refine ih (listed.setIfInBounds i Gp) (l1++l2) t1 t2 a' w' (by simpa using c7) ?_ ?_ ?_ ?_ (by rw[show pick full (l1++l2)=pick full l1++pick full l2 from by simp[pick]];exact g2) (jO.trans (jO.Gk g3) heq) iw
   ·exact gg.sublist (Eaj.append (Eaj.refl _) (List.sublist_cons_self _ _))
   ·intro k
    rw[qr2]
    have Gn:i ∉ l1∧i ∉ l2:=by
     have h:=Xy.1 gg
     refine⟨fun hi1=>?_,fun hi2=>?_⟩
     ·have:=h.2.2 i hi1 i (by simp);omega
     ·have:=(Yb.1 h.2.1).1 i hi2;omega
    constructor
    ·intro hk
     have AW:k≠i:=fun h=>by
      subst h
      rcases Qn.1 hk with h|h
      ·exact Gn.1 h
      ·exact Gn.2 h
     have:=(du k).1 (by rcases Qn.1 hk with h|h<;>simp[h])
     rw[if_neg (by omega)]
     exact this
    ·rintro ⟨k1,k2⟩
     split at k2
     ·cases k2
     ·rename_i bL
      have AW:k≠i:=fun h=>bL ⟨h.symm,by omega⟩
      have:=(du k).2 ⟨k1,k2⟩
      rcases Qn.1 this with h|h
      ·simp[h]
      ·rcases R0.1 h with h|h
       ·exact absurd h AW
       ·simp[h]
   ·simp at hlen ⊢;omega
   ·intro k j hj hk hb
    rw[qr2]at hk ⊢
    split
    ·rfl
    ·split at hk
     ·rename_i rE
      rw[←rE.1]at hb
      exact hbi j hj hb
     ·exact kX k j hj hk hb
theorem q6x {iE l}(h:Qg iE l=Gp){i j}(qH:i<j)(hj:j<l.length)(hb:(iE.getD j 0).testBit i=Gy):Af (l.getD i default) (l.getD j default)=Gp:=by
 unfold Qg at h
 rw[G6]at h
 have h1:=h (l[j],j) (Jj.2 (by simp[hj]))
 simp only[]at h1
 rw[G6]at h1
 have h2:=h1 (l[i]'(by omega),i) (Jj.2 (by simp))
 simp only[qH,hb,decide_true,X2,Qe]at h2
 simp only[List.getD_eq_getElem?_getD,Jf hj,Jf (show i<l.length by omega),Jo]
 exact h2
theorem jat {iE}(h:Qi iE ops=Gp){j i o}(ho:ops[j]?=I o)(hi:i<ops.size)(hb:(iE.getD j 0).testBit i=Gp):∃e∈o.after,Region.binds .any e=Gp∧(e.on=i∨(iE.getD e.on 0).testBit i=Gp):=by
 unfold Qi at h
 rw[G6]at h
 have h1:=h (o,j) (Jj.2 (by simpa using ho))
 simp only[]at h1
 rw[G6]at h1
 have h2:=h1 i (Eae.2 hi)
 rw[hb]at h2
 simp only[X2,Qe,Array.any_eq_true']at h2
 obtain⟨e,he,h3⟩:=h2
 simp only[En,L9,beq_iff_eq]at h3
 exact⟨e,he,h3.1,h3.2⟩
theorem q3v (h:Qh ops=Gp){i o}(ho:ops[i]?=I o):∀e∈o.after,Region.binds .any e=Gp→e.on<i:=by
 intro e he hb
 unfold Qh at h
 rw[G6]at h
 have h1:=h (o,i) (Jj.2 (by simpa using ho))
 simp only[Array.all_eq_true']at h1
 have:=h1 e he
 simpa[hb]using this
theorem jca (eA:b6 P p)(hx:cJ P xc){id:Nat}{draw:Bool}{ca h na l keep}(hc:Fi P h nt id ops draw=I ca)(eo:ca=.region na l keep){st bZ x}(hs:mU p xc na l keep st=I (x,bZ)){ω a w}
  (m:az P C ω w0 C0 st.heap w) (he:ak C ω w w0.heap.size st.env a.tmps) (c7:a.tmps.size=nt) (kU:Marks C w0.heap.size a.defers):
  (Code.region id ops draw).wpIn (jE ρ) 0 P (fun e a' w'=>e=AE x∧dz P w0 C0 C nt bZ a' w') a w:=by
 subst eo
 unfold Fi at hc
 split at hc
 ·rename_i l' rs hl
  split at hc
  ·rename_i hd
   simp only[I.injEq,aw.region.injEq]at hc
   obtain⟨rfl,rfl,od⟩:=hc
   unfold mU at hs
   split at hs
   ·rename_i s1 h1
    cases hs
    have x6:lY P nt ops (List.range' 0 ops.size) l':=by
     have:=qzp hl (ops:=ops) (fun j=>by simp)
     simpa using this
    have hQ:∀a' w',dz P w0 C0 C nt s1 a' w'→(fun e a' w'=>e=AE .normal∧dz P w0 C0 C nt (Aa s1 keep) a' w') Exit.normal a' w':=fun a' w' cr=>⟨rfl,cr.keep⟩
    cases draw with
    |false=>
     refine wpIn_region ?_
     rw[List.range_eq_range']
     exact q7j eA hx hQ x6 h1 ⟨c7,C,ω,aK.le_refl C,kU,m.holes _,he⟩
    |true=>
     simp only[X2,Qe,En]at hd
     obtain⟨⟨d1,d2⟩,d3⟩:=hd
     refine wpIn_region_any eA.mixed ?_
     obtain⟨hlen,RQ⟩:=x6.get
     have hlen':l'.length=ops.size:=by rw[←hlen];simp
     have rC:∀i o,ops[i]?=I o→Gg P nt ops o (l'.getD i default):=by
      intro i o ho
      have hi:=(Gu.1 ho).1
      obtain⟨o',h2,h3⟩:=RQ i i (by rw[List.getElem?_range' hi];simp)
      rw[ho]at h2;cases h2;exact h3
     have RP:pick l' (List.range ops.size)=l':=by
      apply St
      intro k
      simp only[pick,Nk]
      by_cases hk:k<ops.size
      ·rw[List.getElem?_range hk]
       simp[Jf (show k<l'.length by omega)]
      ·rw[Xw (by simpa using hk),Xw (by omega)];rfl
     refine jsl (iE:=Region.before ops) (full:=l') eA hx hQ rC (fun i j h2 h3 h4=>q6x d1 h2 (by omega) h4) (fun j o i h2 h3 h4=>jat d3 h2 h3 h4) (fun i o h2=>q3v d2 h2) ops.size _ (List.range ops.size) ⟨st.env,st.heap++Ead rs.length .hole⟩ s1 a _ (by simp) List.pairwise_lt_range ?_ (by simp) ?_ (by rw[RP];exact h1) (jO.refl _) ⟨c7,C,ω,aK.le_refl C,kU,(m.holes _).ext (Ext.drew w),he.ext (Ext.drew w)⟩
     ·intro i
      simp only[Eae,G4,S4]
      constructor
      ·intro hi;exact⟨hi,by simp[hi]⟩
      ·exact fun hi=>hi.1
     ·intro k i hi hk
      simp only[G4,S4]at hk
      split at hk<;>simp at hk
   ·cases hs
  ·cases hc
 ·cases hc
end
end Go.Abs
