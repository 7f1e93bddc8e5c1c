/- Each operation by itself, third part. -/
import Derived.Test.YtimdocpnkimlfaaGreatDoorAbsC
import Derived.RangeFuncLeaves
import Derived.OrdersIn
set_option linter.unusedVariables false
set_option linter.unusedSimpArgs false
open Option renaming some→I,map_eq_some_iff→G7,none→If,getD_some→Q9,isSome_none→Ra,isNone_some→Ue,bind_some→Ye,getD_none→Yf,map→Eac
open Bool renaming and_eq_true→En,true→Gy,false→Hd,false_eq_true→He,cond_eq_ite→Ny,or_eq_true→Rf,false_or→Rn,not_true→T5,xor→Eab
open Nat renaming eq_of_beq_eq_true→Gt,le_of_ble_eq_true→Gz,beq→Hc,blt→Ig,blt_eq→Ix,ble→Jp,le_trans→Me,lt_of_lt_of_le→Rb,zero_add→R9,beq_refl→Ul
open List renaming getElem?_set_ne→Gx,getElem?_eq_some_iff→G9,all_eq_true→Jk,set_comm→Jr,length_set→Lg,getElem?_set_self→Lh,getElem?_eq_getElem→Nz,mem_of_getElem?→Qw,mem_zipIdx_iff_getElem?→Q6,getElem?_map→Rg,length_take→Rh,mem_append→Ro,getElem?_set→Sb,mem_cons→Sd,ext_getElem?→Se,isEmpty_iff→Sh,length_eq_zero_iff→Si,length_map→St,mem_append_right→Tm,getElem?_eq_none→Tn,mem_append_left→Tp,pairwise_append→T3,zip_cons_cons→T6,pairwise_cons→Uf,flatMap_cons→X2,length_drop→X6,cons_append→Yb,foldl_cons→Yh,replicate→Yi,mem_range→Yj,all_cons→Yk,map_cons→Ym,mem_map→Yv,map_nil→Yy,Sublist→Eaa
open Array renaming getElem?_eq_some_iff→G8,getD_eq_getD_getElem?→Ik,getElem?_eq_getElem→Q7,getElem?_setIfInBounds_ne→Ri,getElem?_replicate→Sf,ext'→T4,replicate→Yg
open Ne renaming symm→Jq
open Prod renaming mk→Sc
namespace Go.Abs
section
variable {P:Program}{p:jz}{xc:XC}{C C0:aM}{ω:Nat→Option Loc}{w w0:World}{hp:qi}{env:Env}{a:Act}{o:Oper}{d:Loc}{h:qj}{md:eE}{r h0:Nat}{dst:Option Nat}{al:Option (List Nat)}{cO:cV}{res:bj}
theorem jc9 (m:az P C ω w0 C0 hp w)(e:aq C ω w w0.heap.size env a.tmps){t:TypeId}{ps}(ho:o.op=.build t ps)(hc:cW P h md r dst (.build t ps)=I cO)(hs:qf p xc h0 al env hp cO=I res):yh P C C0 w0 a d env o w res:=by
 simp only[cW]at hc
 split at hc
 ·rename_i fs z ht hz
  split at hc
  ·rename_i hall
   obtain⟨fU,mr,rfl⟩:=G7.1 hc
   simp only[qf,qp]at hs
   split at hs
   ·rename_i qs hq
    split at hs
    ·rename_i cs hf
     obtain rfl:=qz hs
     exact jh m e (qw5 e.cr ho ht hz (fun f hf=>Jk.1 hall f hf) mr hq hf)
    ·cases hs
   ·cases hs
  ·cases hc
 ·rename_i len el z ht hz
  split at hc
  ·rename_i n hn
   obtain⟨fU,mr,rfl⟩:=G7.1 hc
   simp only[qf,qp]at hs
   split at hs
   ·rename_i qs hq
    split at hs
    ·rename_i cs hf
     obtain rfl:=qz hs
     exact jh m e (qzb e.cr ho ht hz hn mr hq hf)
    ·cases hs
   ·cases hs
  ·cases hc
 ·cases hc
theorem qyh (m:az P C ω w0 C0 hp w)(e:aq C ω w w0.heap.size env a.tmps){t:TypeId}{n ps}(ho:o.op=.buildSlice t n ps)(hc:cW P h md r dst (.buildSlice t n ps)=I cO)(hs:qf p xc h0 al env hp cO=I res):yh P C C0 w0 a d env o w res:=by
 simp only[cW]at hc
 split at hc
 ·rename_i el ht
  split at hc
  ·rename_i sz z ag es hn hz dm mr
   split at hc
   ·rename_i hb
    cases hc
    simp only[En,decide_eq_true_eq,beq_iff_eq]at hb
    generalize (dst.map (h.vec.contains ·)).getD Hd=bb at hs
    cases bb with
    |true=>
     simp only[if_true,qf,qq]at hs
     split at hs
     ·rename_i qs hq
      split at hs
      ·rename_i xs hx
       cases AK:qy 0 xs with
       |false=>rw[AK]at hs;cases hs
       |true=>
        rw[AK]at hs
        simp only[cond_true]at hs
        split at hs
        ·rename_i h' dh
         obtain rfl:=qz hs
         exact .inl (jlt m e ho ht hn hz hb.1.1.1.1 hb.1.1.1.2 hb.1.1.2 mr hq hx AK dh)
        ·cases hs
      ·cases hs
     ·cases hs
    |false=>
    simp only[He,if_false,qf,qp]at hs
    split at hs
    ·rename_i qs hq
     split at hs
     ·rename_i xs hx
      cases hs
      exact .inl (qyp m e ho ht hn hz hb.1.1.1.1 hb.1.1.1.2 hb.1.1.2 mr hq hx)
     ·cases hs
    ·cases hs
   ·cases hc
  ·cases hc
 ·cases hc
theorem q0p (m:az P C ω w0 C0 hp w)(e:aq C ω w w0.heap.size env a.tmps){t:TypeId}{x y}(ho:o.op=.makeSlice t x y)(hc:cW P h md r dst (.makeSlice t x y)=I cO)(hs:qf p xc h0 al env hp cO=I res):yh P C C0 w0 a d env o w res:=by
 simp only[cW]at hc
 split at hc
 ·rename_i el ht
  split at hc
  ·rename_i sz b z ag x' y' hn hb hz dm h1 h2
   split at hc
   ·cases hc
    generalize hR:(if(Eac (fun x=>h.bS.contains x) dst).getD Hd=Gy then I r else If)=R at hs
    cases R with
    |some rr=>
     simp only[qf,qq]at hs
     split at hs
     ·rename_i n c e1 e2
      cases hk:(Hc n c&&Jp n 1073741824&&Jp b 4096&&Hc z.length sz&&Ig 0 sz&&z.all qk)with
      |false=>simp[hk]at hs
      |true=>
       simp only[hk,cond_true]at hs
       split at hs
       ·rename_i h' dh
        obtain rfl:=qz hs
        simp only[En]at hk
        obtain⟨⟨⟨⟨⟨k1,k2⟩,k3⟩,k4⟩,k5⟩,k6⟩:=hk
        obtain rfl:=Gt k1
        exact .inl (qx8 m e ho ht hn hb hz (Ix.mp k5) (Gt k4) h1 h2 e1 e2 (Gz k2) (Gz k3) dh)
       ·cases hs
     ·cases hs
    |none=>
     simp only[qf,qp]at hs
     split at hs
     ·rename_i n c e1 e2
      cases hk:(Hc n c&&Jp n 1073741824&&Jp b 4096&&Hc z.length sz&&Ig 0 sz&&z.all qk)with
      |false=>simp[hk]at hs
      |true=>
       simp only[hk,cond_true]at hs
       cases hs
       simp only[En]at hk
       obtain⟨⟨⟨⟨⟨k1,k2⟩,k3⟩,k4⟩,k5⟩,k6⟩:=hk
       obtain rfl:=Gt k1
       exact .inl (q6v m e ho ht hn hb hz (Ix.mp k5) (Gt k4) h1 h2 e1 e2 (Gz k2) (Gz k3))
     ·cases hs
   ·cases hc
  ·cases hc
 ·cases hc
theorem jc3 (m:az P C ω w0 C0 hp w)(e:aq C ω w w0.heap.size env a.tmps){t:TypeId}{x lo hi mx}(ho:o.op=.slice t x lo hi mx)(hc:cW P h md r dst (.slice t x lo hi mx)=I cO)(hs:qf p xc h0 al env hp cO=I res):yh P C C0 w0 a d env o w res:=by
 cases mx with
 |some _=>simp[cW]at hc
 |none=>
  simp only[cW]at hc
  split at hc
  ·rename_i x' lA gg h1 h2 h3
   split at hc
   ·rename_i ht
    cases hc
    simp only[qf,qp]at hs
    split at hs
    ·rename_i s hv
     split at hs
     ·rename_i j hj
      split at hs
      ·rename_i i gg
       obtain rfl:=qz hs
       exact jh m e (q3b e.cr ho ht h1 h2 h3 hv hj gg)
      ·cases hs
     ·cases hs
    ·cases hs
   ·rename_i el ht
    obtain⟨sz,hn,rfl⟩:=G7.1 hc
    simp only[qf,qp]at hs
    split at hs
    ·rename_i n dl xs hv
     cases hk:(Hc sz dl||xs.isEmpty)with
     |false=>simp[hk]at hs
     |true=>
      simp only[hk,cond_true]at hs
      split at hs
      ·rename_i j hj
       split at hs
       ·rename_i i gg
        obtain rfl:=qz hs
        refine jh m e (qzo e.cr ho ht hn h1 h2 h3 hv (.inr ⟨n,dl,xs,rfl,?_,hj,gg,rfl⟩))
        rcases Rf _ _▸hk with hk|hk
        ·exact .inl (Gt hk)
        ·exact .inr (Sh.1 hk)
       ·cases hs
      ·cases hs
    ·rename_i b q len hv
     split at hs
     ·rename_i j hj
      split at hs
      ·rename_i i gg
       cases hk:(Hc i 0||Ig i j)with
       |false=>simp[hk]at hs
       |true=>
        simp only[hk,cond_true]at hs
        obtain rfl:=qz hs
        refine jh m e (qzo e.cr ho ht hn h1 h2 h3 hv (.inl ⟨b,q,len,rfl,hj,gg,?_,rfl⟩))
        rcases Rf _ _▸hk with hk|hk
        ·exact .inl (Gt hk)
        ·exact .inr (Ix.mp hk)
      ·cases hs
     ·cases hs
    ·rename_i b bL len hv
     split at hs
     ·rename_i j hj
      split at hs
      ·rename_i i gg
       cases hk:Hc i 0 with
       |false=>simp[hk]at hs
       |true=>
        simp only[hk,cond_true]at hs
        obtain rfl:=qz hs
        obtain rfl:=Gt hk
        exact jh m e (jcm e.cr ho ht hn h1 h2 h3 hv hj gg)
      ·cases hs
     ·cases hs
    ·cases hs
   ·rename_i n el ht
    obtain⟨sz,hn,rfl⟩:=G7.1 hc
    simp only[qf,qp]at hs
    split at hs
    ·rename_i b q hv
     split at hs
     ·rename_i j hj
      split at hs
      ·rename_i i gg
       cases hk:(Hc i 0||Ig i j)with
       |false=>simp[hk]at hs
       |true=>
        simp only[hk,cond_true]at hs
        obtain rfl:=qz hs
        refine jh m e (q4f e.cr ho ht hn h1 h2 h3 hv hj gg ?_)
        rcases Rf _ _▸hk with hk|hk
        ·exact .inl (Gt hk)
        ·exact .inr (Ix.mp hk)
      ·cases hs
     ·cases hs
    ·cases hs
   ·cases hc
  ·cases hc
theorem q0z (m:az P C ω w0 C0 hp w)(e:aq C ω w w0.heap.size env a.tmps){t:TypeId}{x i}(ho:o.op=.fieldAddr t x i)(hc:cW P h md r dst (.fieldAddr t x i)=I cO)(hs:qf p xc h0 al env hp cO=I res):yh P C C0 w0 a d env o w res:=by
 simp only[cW]at hc
 split at hc
 ·rename_i fs ht
  split at hc
  ·rename_i f hf
   split at hc
   ·rename_i ag n x' dm hn h1
    split at hc
    ·rename_i hb
     cases hc
     simp only[En,decide_eq_true_eq]at hb
     simp only[qf,qp]at hs
     split at hs
     ·rename_i b q hv
      obtain rfl:=qz hs
      exact jh m e (qoj (ag:=ag) e.cr ho ht hf hn hb.1 h1 hv (.inl ⟨b,q,rfl,rfl⟩))
     ·rename_i cs hv
      split at hs
      ·rename_i z hz
       cases hk:Eab ag z.isAgg with
       |true=>simp[hk]at hs
       |false=>
        simp only[hk,cond_false]at hs
        obtain rfl:=qz hs
        exact jh m e (qoj e.cr ho ht hf hn hb.1 h1 hv (.inr ⟨cs,z,rfl,hz,hk,rfl⟩))
      ·cases hs
     ·rename_i b bL q hv
      obtain rfl:=qz hs
      exact jh m e (qyl e.cr ho ht hf hn hb.1 h1 hv)
     ·cases hs
    ·cases hc
   ·cases hc
  ·cases hc
 ·cases hc
theorem jdj (m:az P C ω w0 C0 hp w)(e:aq C ω w w0.heap.size env a.tmps){t:TypeId}{x i}(ho:o.op=.field t x i)(hc:cW P h md r dst (.field t x i)=I cO)(hs:qf p xc h0 al env hp cO=I res):yh P C C0 w0 a d env o w res:=by
 simp only[cW]at hc
 split at hc
 ·rename_i fs ht
  split at hc
  ·rename_i f hf
   split at hc
   ·rename_i ag n x' dm hn h1
    cases hc
    simp only[qf,qp]at hs
    split at hs
    ·rename_i cs hv
     obtain⟨z,hz,rfl⟩:=vh hs
     exact jh m e (jd5 e.cr ho ht hf dm hn h1 hv hz)
    ·cases hs
   ·cases hc
  ·cases hc
 ·cases hc
theorem q01 (m:az P C ω w0 C0 hp w)(e:aq C ω w w0.heap.size env a.tmps){t:TypeId}{x i}(ho:o.op=.indexAddr t x i)(hc:cW P h md r dst (.indexAddr t x i)=I cO)(hs:qf p xc h0 al env hp cO=I res):yh P C C0 w0 a d env o w res:=by
 simp only[cW]at hc
 split at hc
 ·rename_i x' i' h1 h2
  split at hc
  ·rename_i el ht
   split at hc
   ·rename_i sz hn
    split at hc
    ·cases hc
     simp only[qf,qp]at hs
     split at hs
     ·rename_i nl dl xs iv hv hi
      cases hk:(Hc sz dl||xs.isEmpty)with
      |false=>simp[hk]at hs
      |true=>
       simp only[hk,cond_true]at hs
       split at hs
       ·rename_i j hj
        split at hs
        ·rename_i z hz
         obtain rfl:=qz hs
         have bI:xs.isEmpty=Hd:=by
          have:=(G9.1 hz).1
          cases xs with
          |nil=>simp at this
          |cons _ _=>rfl
         rw[bI,Bool.or_false]at hk
         obtain rfl:=Gt hk
         exact jh m e (qok e.cr ho ht hn h1 h2 hv hi (.inr ⟨nl,xs,z,j,rfl,hj,hz,rfl⟩))
        ·cases hs
       ·cases hs
     ·rename_i b q len iv hv hi
      split at hs
      ·rename_i j hj
       obtain rfl:=qz hs
       exact jh m e (qok e.cr ho ht hn h1 h2 hv hi (.inl ⟨b,q,len,j,rfl,hj,rfl⟩))
      ·cases hs
     ·rename_i b bL len iv hv hi
      split at hs
      ·rename_i j hj
       obtain rfl:=qz hs
       exact jh m e (qzk e.cr ho ht hn h1 h2 hv hi hj)
      ·cases hs
     ·cases hs
    ·cases hc
   ·cases hc
  ·rename_i n el ht
   split at hc
   ·rename_i sz ag hn dm
    split at hc
    ·cases hc
     simp only[qf,qp]at hs
     split at hs
     ·rename_i b q iv hv hi
      split at hs
      ·rename_i j hj
       obtain rfl:=qz hs
       exact jh m e (qoy (ag:=ag) e.cr ho ht hn h1 h2 hv hi hj (.inl ⟨b,q,rfl,rfl⟩))
      ·cases hs
     ·rename_i cs iv hv hi
      split at hs
      ·rename_i j hj
       split at hs
       ·rename_i z hz
        cases hk:Eab ag z.isAgg with
        |true=>simp[hk]at hs
        |false=>
         simp only[hk,cond_false]at hs
         obtain rfl:=qz hs
         exact jh m e (qoy e.cr ho ht hn h1 h2 hv hi hj (.inr ⟨cs,z,rfl,hz,hk,rfl⟩))
       ·cases hs
      ·cases hs
     ·cases hs
    ·cases hc
   ·cases hc
  ·cases hc
 ·cases hc
theorem jfi (m:az P C ω w0 C0 hp w)(e:aq C ω w w0.heap.size env a.tmps){t:TypeId}{x i}(ho:o.op=.index t x i)(hc:cW P h md r dst (.index t x i)=I cO)(hs:qf p xc h0 al env hp cO=I res):yh P C C0 w0 a d env o w res:=by
 simp only[cW]at hc
 split at hc
 ·rename_i x' i' h1 h2
  split at hc
  ·rename_i ht
   cases hc
   simp only[qf,qp]at hs
   split at hs
   ·rename_i s iv hv hi
    split at hs
    ·rename_i j hj
     split at hs
     ·rename_i c dR
      obtain rfl:=qz hs
      exact jh m e (q20 e.cr ho ht h1 h2 hv hi hj dR)
     ·cases hs
    ·cases hs
   ·cases hs
  ·rename_i n el ht
   split at hc
   ·rename_i sz ag hn dm
    cases hc
    simp only[qf,qp]at hs
    split at hs
    ·rename_i cs iv hv hi
     split at hs
     ·rename_i j hj
      obtain⟨z,hz,rfl⟩:=vh hs
      exact jh m e (jed e.cr ho ht dm hn h1 h2 hv hi hj hz)
     ·cases hs
    ·cases hs
   ·cases hc
  ·cases hc
 ·cases hc
theorem q7i (m:az P C ω w0 C0 hp w)(e:aq C ω w w0.heap.size env a.tmps){c}(ho:o.op=.call c)(oI:∀f,c.callee≠.value f)(hc:Aj P h md r dst c=I cO)(hs:qf p xc h0 al env hp cO=I res):yh P C C0 w0 a d env o w res:=by
 unfold Aj at hc
 split at hc
 ·rename_i f hf;exact absurd hf (oI f)
 ·rename_i ek
  split at hc
  ·rename_i x t eC eV
   split at hc
   ·rename_i ht
    obtain⟨x',hx,rfl⟩:=G7.1 hc
    simp only[qf,qp]at hs
    split at hs<;>first|(exfalso;omega)|skip
    ·rename_i s _ hv
     obtain rfl:=qz hs
     exact jh m e (QP e.cr ho ek eC eV hx hv (.inl ⟨ht,s,rfl,rfl⟩))
    ·cases hs
   ·rename_i el ht
    obtain⟨x',hx,rfl⟩:=G7.1 hc
    simp only[qf,qp]at hs
    split at hs<;>first|(exfalso;omega)|skip
    ·rename_i n sz xs _ hv
     obtain rfl:=qz hs
     exact jh m e (QP e.cr ho ek eC eV hx hv (.inr ⟨⟨el,ht⟩,.inl ⟨n,sz,xs,rfl,rfl⟩⟩))
    ·rename_i b q n _ hv
     obtain rfl:=qz hs
     exact jh m e (QP e.cr ho ek eC eV hx hv (.inr ⟨⟨el,ht⟩,.inr ⟨b,q,rfl⟩⟩))
    ·rename_i b bL n _ hv
     obtain rfl:=qz hs
     exact jh m e (jki e.cr ho ek eC eV hx hv ht)
    ·cases hs
   ·cases hc
  ·cases hc
 ·rename_i ek
  split at hc
  ·rename_i x t eC eV
   split at hc
   ·rename_i el ht
    obtain⟨x',hx,rfl⟩:=G7.1 hc
    simp only[qf,qp]at hs
    split at hs<;>first|(exfalso;omega)|skip
    ·rename_i sz xs _ hv
     obtain rfl:=qz hs
     refine jh m e ?_
     have ha:c.args=#[x]:=by apply T4;simpa using eC
     have lB:c.argTypes=#[t]:=by apply T4;simpa using eV
     refine⟨.int .i64 0,?_,.int _ _⟩
     have hq:∃b,a.eval x=.slice b 0 0:=by
      rcases(qx e.cr hx hv).dc with⟨_,_,h⟩|⟨h,_⟩|⟨h,_⟩
      ·exact⟨_,h⟩
      ·cases h
      ·cases h
     obtain⟨b,hq⟩:=hq
     simp[execOp,ho,resolve,ek,ha,lB,invoke,builtin,Builtin.cap_,run_underlying ht,hq,goInt]
    ·cases hs
   ·cases hc
  ·cases hc
 ·rename_i ek
  split at hc
  ·rename_i x y t u eC eV
   split at hc
   ·rename_i el ut ht hu
    split at hc
    ·rename_i jL
     split at hc
     ·rename_i sz b x' y' hn hb h1 h2
      cases hc
      have hzero:∃z,yw P el=I z∧z.length=sz:=by
       have hz:=(En _ _▸jL).2
       rw[hn]at hz
       cases yD:yw P el with
       |none=>simp[yD]at hz
       |some z=>exact⟨z,rfl,by simpa[yD]using hz⟩
      generalize (dst.map (h.vec.contains ·)).getD Hd=bb at hs
      cases bb with
      |true=>
       simp only[if_true,qf,qq]at hs
       split at hs
       ·rename_i Rj vy e1 e2
        split at hs
        ·rename_i ys cX
         cases hk:(Jp ys.length 1073741824&&Jp b 4096&&Ig 0 sz&&!ys.isEmpty&&qy 0 ys&&Ig r 1000)with
         |false=>rw[hk]at hs;cases hs
         |true=>
          rw[hk]at hs
          simp only[cond_true]at hs
          split at hs
          ·rename_i h' dh
           obtain rfl:=qz hs
           simp only[En]at hk jL
           obtain⟨⟨⟨⟨⟨k1,k2⟩,k3⟩,k4⟩,k5⟩,_⟩:=hk
           exact .inl (jlz m e ho ek eC eV ht hu jL.1 hn hb h1 h2 e1 e2 cX (Gz k1) (by intro h;rw[h]at k4;cases k4) (Gz k2) k5 hzero dh)
          ·cases hs
        ·cases hs
       ·rename_i bx bL len vy e1 e2
        split at hs
        ·rename_i dl dN xs gL
         split at hs
         ·rename_i ys cX
          cases hk:(Hc bL dN&&Hc sz dl&&Jp len xs.length&&Jp (len+ys.length) 1073741824&&Jp b 4096&&Ig 0 sz&&qy 0 ys&&Ig r 1000)with
          |false=>rw[hk]at hs;cases hs
          |true=>
           rw[hk]at hs
           simp only[cond_true]at hs
           split at hs
           ·rename_i h' bF
            obtain rfl:=qz hs
            simp only[En]at hk jL
            obtain⟨⟨⟨⟨⟨⟨⟨k1,k2⟩,k3⟩,k4⟩,k5⟩,k6⟩,k7⟩,_⟩:=hk
            obtain rfl:=Gt k1
            obtain rfl:=Gt k2
            exact .inl (ji9 m e ho ek eC eV ht hu jL.1 hn hb h1 h2 e1 e2 cX gL (Gz k3) (Gz k4) (Gz k5) k7 hzero bF)
           ·cases hs
         ·cases hs
        ·cases hs
       ·cases hs
      |false=>
      simp only[He,if_false]at hs
      generalize hR:(if(Eac (fun x=>h.bS.contains x) dst).getD Hd=Gy then I r else If)=R at hs
      cases R with
      |some rr=>
       simp only[qf,qq]at hs
       split at hs
       ·rename_i dl vy e1 e2
        cases gf:((zm env x').isSome&&Hc sz dl)with
        |false=>simp[gf]at hs
        |true=>
         simp only[gf,cond_true]at hs
         split at hs
         ·rename_i ys cX
          cases dA:(Jp ys.length 1073741824&&Jp b 4096&&Ig 0 sz)with
          |false=>simp[dA]at hs
          |true=>
           simp only[dA,cond_true]at hs
           split at hs
           ·rename_i h' dh
            cases hs
            simp only[En]at dA jL gf
            obtain⟨⟨k2,k3⟩,k4⟩:=dA
            refine .inl (q0y m e ho ek eC eV ht hu jL.1 hn hb h1 h2 e1 e2 cX gf.1 rfl (Gz k2) (Gz k3) ?_ (Gt gf.2) dh)
            have hz:=jL.2
            rw[hn]at hz
            cases yD:yw P el with
            |none=>simp[yD]at hz
            |some z=>exact⟨z,rfl,by simpa[yD]using hz⟩
           ·cases hs
         ·cases hs
       ·cases hs
      |none=>
       simp only[qf,qp]at hs
       split at hs
       ·rename_i n dl xs vy e1 e2
        cases gf:(n||(zm env x').isSome)with
        |false=>simp[gf]at hs
        |true=>
         simp only[gf,cond_true]at hs
         split at hs
         ·rename_i ys cX
          cases dA:((Hc sz dl||(xs.isEmpty&&n))&&Jp (xs.length+ys.length) 1073741824&&Jp b 4096&&Ig 0 sz)with
          |false=>simp[dA]at hs
          |true=>
           simp only[dA,cond_true]at hs
           cases hs
           simp only[En]at dA jL
           obtain⟨⟨⟨k1,k2⟩,k3⟩,k4⟩:=dA
           refine .inl (jce m e ho ek eC eV ht hu jL.1 hn hb h1 h2 e1 e2 cX (by simpa using gf) ?_ (Gz k2) (Gz k3) ?_)
           ·rcases Rf _ _▸k1 with k1|k1
            ·exact .inl (Gt k1)
            ·simp only[En,Sh]at k1;exact .inr k1
           ·have hz:=jL.2
            rw[hn]at hz
            cases yD:yw P el with
            |none=>simp[yD]at hz
            |some z=>exact⟨z,rfl,by simpa[yD]using hz⟩
         ·cases hs
       ·cases hs
     ·cases hc
    ·cases hc
   ·cases hc
  ·cases hc
 ·rename_i ek
  split at hc
  ·rename_i x y t ts eC eV
   split at hc
   ·rename_i el ht
    split at hc
    ·rename_i sz x' y' hn h1 h2
     cases hc
     simp only[qf,qq]at hs
     split at hs
     ·rename_i b q len vy e1 e2
      cases hk:za h0 al b with
      |false=>simp[hk]at hs
      |true=>
       simp only[hk,cond_true]at hs
       split at hs
       ·rename_i cs hcs
        split at hs
        ·rename_i n us cX
         split at hs
         ·rename_i eN cq
          cases dA:Hc us.length (n*sz)with
          |false=>simp[dA]at hs
          |true=>
           simp only[dA,cond_true]at hs
           split at hs
           ·rename_i h' bF
            obtain rfl:=qz hs
            exact .inl (jic m e ho ek eC eV ht hn h1 h2 e1 e2 hcs cX cq (Gt dA) bF)
           ·cases hs
         ·cases hs
        ·cases hs
       ·cases hs
     ·cases hs
    ·cases hc
   ·cases hc
  ·cases hc
 ·rename_i ek
  split at hc
  ·rename_i x y t ts eC eV
   split at hc
   ·rename_i kt el ht
    split at hc
    ·rename_i kd x' y' iJ h1 h2
     cases hc
     simp only[qf,qq]at hs
     split at hs
     ·rename_i b kv e1 e2
      cases hk:za h0 al b with
      |false=>simp[hk]at hs
      |true=>
       simp only[hk,cond_true]at hs
       split at hs
       ·rename_i es hb
        split at hs
        ·rename_i r hf
         split at hs
         ·rename_i h' bF
          obtain rfl:=qz hs
          exact .inl (jat m e ho ek eC eV ht iJ h1 h2 e1 e2 hb hf bF)
         ·cases hs
        ·cases hs
       ·cases hs
     ·cases hs
    ·cases hc
   ·cases hc
  ·cases hc
 ·rename_i ek
  obtain⟨l,hl,rfl⟩:=G7.1 hc
  simp only[qf,qp]at hs
  split at hs
  ·rename_i v vs hv
   obtain⟨z,hz,rfl⟩:=vh hs
   exact jh m e (jds (mx:=true) e.cr ho ek hl hv hz)
  ·cases hs
 ·rename_i ek
  obtain⟨l,hl,rfl⟩:=G7.1 hc
  simp only[qf,qp]at hs
  split at hs
  ·rename_i v vs hv
   obtain⟨z,hz,rfl⟩:=vh hs
   exact jh m e (jds (mx:=false) e.cr ho ek hl hv hz)
  ·cases hs
 ·cases hc
end
def aM.cut (C:aM)(n:Nat):aM:={ C with β:=fun b=>if b<n then C.β b else If }
theorem aM.fh (C:aM)(n:Nat):(C.cut n).le C where
 k _ _ _ h:=h
 b b r h:=by
  simp only[aM.cut]at h
  split at h
  ·exact h
  ·cases h
 w:=rfl
 d _ h:=h
theorem aM.iQ {C C':aM}{n}(h:C.le C')(hn:∀b r,C.β b=I r→b<n):C.le (C'.cut n):=
 ⟨h.1,fun b r hb=>by simp only[aM.cut];rw[if_pos (hn b r hb)];exact h.2 b r hb,h.w,h.d,h.t⟩
section
variable {P:Program}{p:jz}{xc:XC}{C C0:aM}{ω:Nat→Option Loc}{w w0:World}{hp:qi}{env:Env}{tmps:Array Value}{B:Nat}
theorem aO.cut {ℓ x v}(n:Nat)(ho:aO C ω w B ℓ x v):aO (C.cut n) ω w B ℓ x v:=by
 unfold aO at *
 split at ho
 ·obtain⟨h1,h2,h3,h4,h5⟩:=ho
  exact⟨h1,h2,fun b hb=>h3 b ((aM.fh C n).2 b _ hb),h4,h5⟩
 ·obtain⟨h1,h2,h3,h4,h5⟩:=ho
  exact⟨h1,h2,fun b hb=>h3 b ((aM.fh C n).2 b _ hb),h4,h5⟩
 ·trivial
theorem bR.cut {x v n}(h:bR C x v)(hb:below n x=Gy):bR (C.cut n) x v:=
 aI.shift (C:=C) (C':=C.cut n) n (fun _ _ _ h=>h) (fun b r bw hb=>by simp only[aM.cut];rw[if_pos bw];exact hb) h hb
theorem Rq {n}:∀ {e:Env} {s:Nat} {x:AVal×Bool},mP n e=Gy→ji s e=I x→below n x.1=Gy
 | [],_,_,_,h=>by simp[ji]at h
 |(t,y)::e,s,x,hb,h=>by
  simp only[mP,En]at hb
  simp only[ji]at h
  cases lF:Hc t s with
  |true=>simp only[lF,cond_true,I.injEq]at h;subst h;exact hb.1
  |false=>simp only[lF,cond_false]at h;exact Rq hb.2 h
theorem qoi {n}:∀ {l:qi} {b:Nat} {x:bh},zn n l=Gy→l[b]?=I x→pw n x=Gy
 | [],_,_,_,h=>by simp at h
 |y::l,b,x,hb,h=>by
  simp only[zn,En]at hb
  cases b with
  |zero=>simp at h;subst h;exact hb.1
  |succ b=>simp at h;exact qoi hb.2 h
theorem ql6 {n}:∀ {l:List (AVal×Bool)} {j:Nat} {c:AVal×Bool},pv n l=Gy→l[j]?=I c→below n c.1=Gy
 | [],_,_,_,h=>by simp at h
 |(y,o)::l,j,c,hb,h=>by
  simp only[pv,En]at hb
  cases j with
  |zero=>simp at h;subst h;exact hb.1
  |succ j=>simp at h;exact ql6 hb.2 h
theorem cI.cut {n es ms}(hr:cI C es ms):uP n es=Gy→cI (C.cut n) es ms:=by
 induction hr with
 |nil=>exact fun _=>.nil
 |cons k v es m ms hk hv _ ih=>
  intro hb
  simp only[uP,En]at hb
  exact .cons k v es m ms (bR.cut hk hb.1.1) (bR.cut hv hb.1.2) (ih hb.2)
theorem bG.cut {b r n x}(h:bG P C ω w B b r x)(hb:pw n x=Gy):bG P (C.cut n) ω w B b r x:=by
 cases x with
 |hole=>exact h
 |cells cs=>
  obtain⟨vs,el,h1,h2,h3⟩:=h
  exact⟨vs,el,h1,h2,fun j c hc=>let ⟨v,a,q,b,d⟩:=h3 j c hc; ⟨v,a,q,bR.cut b (ql6 hb hc),fun e=>(d e).cut n⟩⟩
 |map es=>obtain⟨cg,clock,h1,h2⟩:=h;exact⟨cg,clock,h1,h2.cut hb⟩
 |iter s pos=>exact h
 |loop l=>obtain⟨lp,h1,h2⟩:=h;exact⟨lp,h1,{ h2 with env:=fun s x hx=>let ⟨v,a,b⟩:=h2.env s x hx; ⟨v,a,bR.cut b (Rq hb hx)⟩ }⟩
 |fX t e l=>obtain⟨p,v,h1,h2,h3,h4⟩:=h;exact⟨p,v,h1,h2,h3,h4.cut n⟩
 |dead=>exact h
 |vec sz bL xs=>exact ew.imp (C:=C) (C':=C.cut n) (ω:=ω) (ω':=ω) (B':=B) (fun _ _ _ h=>h) (fun _ h=>h) (fun _ h _=>h) rfl (fun q n' cap k=>⟨rfl,aO.cut (C:=C) n k⟩) h
theorem az.gc (m:az P C ω w0 C0 hp w){n:Nat}(hn:n≤hp.length)(hb:zn n (hp.take n)=Gy)(h0:∀b r,C0.β b=I r→b<n):az P (C.cut n) ω w0 C0 (hp.take n) w where
 base:=m.base
 know:=m.know
 dw:=m.dw
 apart b r o hb:=m.apart b r o ((aM.fh C n).2 b r hb)
 inj b b' r h1 h2:=m.inj b b' r ((aM.fh C n).2 _ _ h1) ((aM.fh C n).2 _ _ h2)
 lt b r h:=by
  have h1:=m.lt b r ((aM.fh C n).2 _ _ h)
  refine⟨h1.1,?_⟩
  simp only[aM.cut]at h
  split at h
  ·rw[Rh];omega
  ·cases h
 size:=m.size
 frame:=m.frame
 ft:=m.ft
 os:=m.os
 output:=m.output
 fresh b r h:=m.fresh b r ((aM.fh C n).2 _ _ h)
 grown:=aM.iQ m.grown h0
 old:=m.old
 box b x r hx hr:=by
  have bw:b<n:=by
   have:=(G9.1 hx).1
   rw[Rh]at this;omega
  have fp:hp[b]?=I x:=by rwa [List.getElem?_take_of_lt bw]at hx
  exact(m.box b x r fp ((aM.fh C n).2 _ _ hr)).cut (qoi hb hx)
 iF:=m.iF
theorem aq.cut {n}(e:aq C ω w B env tmps)(hb:mP n env=Gy):aq (C.cut n) ω w B env tmps:=
 fun s x hx=>let ⟨v,h1,h2,h3⟩:=e s x hx; ⟨v,h1,bR.cut h2 (Rq hb hx),fun h=>(h3 h).cut n⟩
def j65 (env:Env)(hp:qi)(r:mO)(ℓ:Loc)(x:AVal×Bool):Prop:=
 (∃s,ℓ=.slot s)∨∃t n b j ow cs,r=.cell t Hd n∧ji t env=I (.ptr b j,ow)∧ℓ=.cell b j∧ju hp b=I cs∧cs[j]?=I x
def Rr (C:aM)(ω:Nat→Option Loc)(w:World)(B:Nat)(env:Env)(hp:qi)(r:mO)(x:AVal×Bool)(v:Value):Prop:=bR C x.1 v∧(x.2=Gy→∃ℓ,aO C ω w B ℓ x.1 v∧j65 env hp r ℓ x)
theorem q2z {B'}(m:az P C ω w0 C0 hp w)(hB:B'=w0.heap.size)(e:aq C ω w B' env tmps){rv r x}(hc:Ks P rv=I r)(hr:uS ⟨env,hp⟩ r=I x):
  ∃v,((match rv with | .tmp t=>pure (tmps.getD t undef) | .cell a t=>do loadVar t (←asAddr (tmps.getD a undef)):Sem Value)).run P w=.ok v w∧Rr C ω w B' env hp r x v:=by
 subst hB
 cases rv with
 |tmp t=>
  simp only[Ks]at hc
  cases hc
  simp only[uS]at hr
  obtain⟨v,h1,h2,h3⟩:=e t x hr
  refine⟨v,?_,h2,fun h=>⟨_,h3 h,.inl ⟨_,rfl⟩⟩⟩
  simp[Ik,h1]
 |cell t ty=>
  simp only[Ks]at hc
  have key:∀ {ag:Bool} {n:Nat},yr P ty=I ag→jp P ty=I n→(ag=Hd→n=1)→uS ⟨env,hp⟩ (.cell t ag n)=I x→∃v,((do loadVar ty (←asAddr (tmps.getD t undef)):Sem Value)).run P w=.ok v w∧Rr C ω w w0.heap.size env hp (.cell t ag n) x v:=by
   intro ag n hg hn FG hr
   simp only[uS]at hr
   split at hr
   ·rename_i b q ow hl
    obtain⟨u,h1,h2,_⟩:=e t _ hl
    obtain⟨r,iI,rfl⟩:=h2.dz
    have hu:tmps.getD t undef=.pointer (I ⟨r,q,If⟩):=by simp[Ik,h1]
    split at hr
    ·rename_i cs hcs
     have gK:=m.box b _ r (wo hcs) iI
     split at hr
     ·rename_i us gZ
      cases ag with
      |true=>
       simp only[cond_true,I.injEq]at hr
       subst hr
       obtain⟨vs,k1,_,k2,k3,_⟩:=gK.read gZ
       refine⟨.agg ⟨vs⟩,?_,.agg _ _ k1,by simp⟩
       simp[hu,asAddr,FE hg hn k2 k3]
      |false=>
       simp only[cond_false]at hr
       split at hr
       ·rename_i c hc
        cases hr
        obtain⟨vs,te,g1,g2,g3⟩:=gK
        obtain⟨v,a1,a2,a3,a4⟩:=g3 q _ hc
        have ep:w.cell? ⟨r,q,If⟩=I v:=by
         simp only[World.cell?,g1]
         simpa using a1
        refine⟨v,?_,a3,fun h=>⟨_,a4 h,.inr ⟨_,_,_,_,_,_,rfl,hl,rfl,hcs,hc⟩⟩⟩
        simp[hu,asAddr,FF hg ep]
       ·cases hr
     ·cases hr
    ·cases hr
   ·cases hr
  split at hc
  ·rename_i n hg hn;cases hc;exact key hg hn (by simp) hr
  ·rename_i hg hn;cases hc;exact key hg hn (fun _=>rfl) hr
  ·cases hc
inductive kM (P:Program)(C:aM)(ω:Nat→Option Loc)(w:World)(B:Nat)(env:Env)(hp:qi):List mO→List (AVal×Bool)→List Value→Prop where
 |nil:kM P C ω w B env hp [] [] []
 |cons {r:mO} {x:AVal×Bool} {v:Value} {rs:List mO} {xs:List (AVal×Bool)} {vs:List Value} (h:Rr C ω w B env hp r x v) (t:kM P C ω w B env hp rs xs vs):kM P C ω w B env hp (r::rs) (x::xs) (v::vs)
theorem kM.cr {rs xs vs}(h:kM P C ω w B env hp rs xs vs):aW C (xs.map (·.1)) vs:=by
 induction h with
 |nil=>exact .nil
 |cons h _ ih=>exact .cons _ _ _ _ h.1 ih
theorem qoo {B'}(m:az P C ω w0 C0 hp w)(hB:B'=w0.heap.size)(e:aq C ω w B' env tmps):∀ {l:List ResultVar} {rs:List mO} {xs:List (AVal×Bool)},Ao P l=I rs→km ⟨env,hp⟩ rs=I xs →
  ∃vs,(l.mapM fun(rv:ResultVar)=>(match rv with | .tmp t=>pure (tmps.getD t undef) | .cell a t=>do loadVar t (←asAddr (tmps.getD a undef)):Sem Value)).run P w=.ok vs w∧kM P C ω w B' env hp rs xs vs
 | [],rs,xs,hc,hr=>by
  simp[Ao]at hc;subst hc
  simp[km]at hr;subst hr
  exact⟨[],rfl,.nil⟩
 |rv::l,rs,xs,hc,hr=>by
  simp only[Ao]at hc
  split at hc
  ·rename_i r Dw h1 h2
   cases hc
   simp only[km]at hr
   split at hr
   ·rename_i x hx
    split at hr
    ·rename_i ys mV
     cases hr
     obtain⟨v,k1,k2⟩:=q2z m hB e h1 hx
     obtain⟨vs,j1,j2⟩:=qoo m hB e h2 mV
     refine⟨v::vs,?_,.cons k2 j2⟩
     simp only[List.mapM_cons,Sem.run_bind,k1,Result.andThen_ok,j1,Sem.run_pure]
    ·cases hr
   ·cases hr
  ·cases hc
def DH:List Value→Value
 | [v]=>v
 |vs=>.tuple ⟨vs⟩
theorem qww (m:az P C ω w0 C0 hp w){ω' b j v ow cs}(lm:ju hp b=I cs)(hc:cs[j]?=I (v,ow))(hω:∀b' j' y u,(b'≠b∨j'≠j)→aO C ω w w0.heap.size (.cell b' j') y u→aO C ω' w w0.heap.size (.cell b' j') y u):
  az P C ω' w0 C0 (hp.set b (.cells (cs.set j (v,Hd)))) w:=by
 by_cases hb:∃r,C.β b=I r
 ·obtain⟨r,hr⟩:=hb
  obtain⟨vs,te,hg,da,hold⟩:=m.box b _ r (wo lm) hr
  obtain⟨cv,k1,k2,k3,k4⟩:=hold j _ hc
  have hu:ng w w r:=⟨rfl,fun _ _=>rfl,fun c t fr h=>by rw[hg]at h;cases h;rfl,rfl,rfl⟩
  refine m.ec hu hr _ (fun b' j' y u fH hz=>hω b' j' y u (.inl fH) hz) ⟨vs,te,hg,by simpa using da,fun i c hi=>?_⟩
  rw[Sb]at hi
  split at hi
  ·rename_i pD
   subst pD
   split at hi
   ·cases hi;exact⟨cv,k1,k2,k3,by simp⟩
   ·cases hi
  ·rename_i pD
   obtain⟨u,a1,a2,a3,a4⟩:=hold i c hi
   exact⟨u,a1,a2,a3,fun h=>hω b i _ _ (.inr (Jq pD)) (a4 h)⟩
 ·refine { m with lt:=fun k r hk=>by rw[Lg];exact m.lt k r hk,box:=fun k x r hx hk=>?_ }
  have kI:k≠b:=fun h=>hb ⟨r,h▸hk⟩
  rw[Gx (Jq kI)]at hx
  exact(m.box k x r hx hk).mono (aM.le_refl C) fun j' y u ho=>hω k j' y u (.inl kI) ho
theorem jix (m:az P C ω w0 C0 hp w){rs xs vs}(h:kM P C ω w w0.heap.size env hp rs xs vs):
  ∃ω',az P C ω' w0 C0 (kx ⟨env,hp⟩ rs) w∧bR C (j6 xs).1 (DH vs)∧((j6 xs).2=Gy→aO C ω' w w0.heap.size (.slot 0) (j6 xs).1 (DH vs)):=by
 have same:∃ω',az P C ω' w0 C0 hp w:=⟨ω,m⟩
 cases h with
 |nil=>exact⟨ω,m,by simpa[j6,DH]using aI.aJ _ _ (aI.nil),by simp[j6]⟩
 |cons hx ht=>
  cases ht with
  |cons hy ht=>
   have:=(kM.cons hx (kM.cons hy ht)).cr
   exact⟨ω,by simpa[kx]using m,by simpa[j6,DH]using aI.aJ _ _ this,by simp[j6]⟩
  |nil=>
   rename_i r x v
   obtain⟨h1,h2⟩:=hx
   simp only[j6]
   -- without the flag
   have plain:az P C ω w0 C0 (kx ⟨env,hp⟩ [r]) w:=by
    unfold kx
    split
    ·split
     ·split
      ·rename_i cs hcs
       split
       ·rename_i u hu
        exact qww m hcs hu (fun _ _ _ _ _ h=>h)
       ·exact m
      ·exact m
     ·exact m
    ·exact m
   by_cases hk:x.2=Gy
   ·have gf:=hk
    obtain⟨ℓ,h3,h4⟩:=h2 gf
    refine⟨vb ω x.1 v (.slot 0),?_,h1,fun _=>KJ h3⟩
    rcases h4 with⟨s,rfl⟩|⟨t,n,b,j,ow,cs,rfl,g1,rfl,g2,g3⟩
    ·exact { plain with box:=fun b x r hx hb=>(plain.box b x r hx hb).mono (aM.le_refl C) fun j y u hz=>yA h3 (by simp) hz }
    ·obtain⟨xv,xo⟩:=x
     simp only at gf
     subst gf
     have:kx ⟨env,hp⟩ [.cell t Hd n]=hp.set b (.cells (cs.set j (xv,Hd))):=by
      simp only[kx,g1,g2,g3]
     rw[this]
     exact qww m g2 g3 fun b' j' y u bI hz=>yA h3 (by
      rcases bI with bI|bI
      ·simp[bI]
      ·simp[bI]) hz
   ·exact⟨ω,plain,h1,fun h=>absurd h hk⟩
theorem q7a {fn}(m:az P C ω w0 C0 hp w)(e:aq C ω w w0.heap.size env tmps){rs xs}(hc:Ao P fn.results.toList=I rs)(hr:km ⟨env,hp⟩ rs=I xs):
  ∃v ω',(results fn tmps).run P w=.ok v w∧az P C ω' w0 C0 (kx ⟨env,hp⟩ rs) w∧bR C (j6 xs).1 v∧((j6 xs).2=Gy→aO C ω' w w0.heap.size (.slot 0) (j6 xs).1 v):=by
 obtain⟨vs,h1,h2⟩:=qoo m rfl e hc hr
 have lD:(fn.results.mapM fun(rv:ResultVar)=>(match rv with | .tmp t=>pure (tmps.getD t undef) | .cell a t=>do loadVar t (←asAddr (tmps.getD a undef)):Sem Value)).run P w=.ok vs.toArray w:=by
  rw[Array.mapM_eq_mapM_toList]
  simp only[Sem.run_map]
  rw[h1]
  rfl
 have bH:(results fn tmps).run P w=.ok (if h:vs.toArray.size=1 then vs.toArray[0]else .tuple vs.toArray) w:=by
  unfold results
  rw[Sem.run_bind]
  exact congrArg (fun z=>Result.andThen z fun(a:Array Value) w'=>Sem.run P (pure (if h:a.size=1 then a[0]else Value.tuple a)) w') lD
 have hval:(if h:vs.toArray.size=1 then vs.toArray[0]else .tuple vs.toArray)=(DH vs):=by
  match vs with
  | []=>rfl
  | [v]=>rfl
  |v::u::vs=>simp[DH]
 rw[hval]at bH
 obtain⟨ω',q1,q2,q3⟩:=jix m h2
 exact⟨_,ω',bH,q1,q2,q3⟩
end
section
variable {P:Program}{C C0:aM}{ω:Nat→Option Loc}{w w0:World}{hp:qi}
def qZ (C:aM)(hp:qi)(r:Nat):Prop:=∃b sz bL xs r0 cap,hp[b]?=I (.vec sz bL xs)∧C.β b=I r0∧C.T (r0,bL,r,cap)
def Hid (C:aM)(hp:qi)(r:Nat):Prop:=(∃b,C.β b=I r)∨qZ C hp r
theorem qZ.is (m:az P C ω w0 C0 hp w){r}(h:qZ C hp r):(∃b,C.β b=I r)∨∃b sz bL xs n cap,hp[b]?=I (.vec sz bL xs)∧xY C ω w w0.heap.size b r n cap:=by
 obtain⟨b,sz,bL,xs,r0,cap,h1,h2,h3⟩:=h
 obtain⟨q,kK,k1,k2,k3,k4,_⟩:=m.box b _ r0 h1 h2
 have:=(k2 _ h3 rfl).2 rfl
 simp only[Sc.injEq]at this
 obtain⟨rfl,rfl⟩:=this
 rcases k4 with rfl|k4
 ·exact .inl ⟨b,h2⟩
 ·exact .inr ⟨b,sz,bL,xs,_,_,h1,k4⟩
theorem Rs (m:az P C ω w0 C0 hp w){r}(h:Hid C hp r)(o:Nat):C.K r o=If:=by
 rcases h with⟨b,hb⟩|h
 ·exact m.apart b r o hb
 ·rcases h.is m with⟨b,hb⟩|⟨b,sz,bL,xs,n,cap,_,h2⟩
  ·exact m.apart b r o hb
  ·exact h2.2.2.2.2.2.2 o (by simp)
theorem jfn {K}(hW:C.W=fun _=>False)(m:az P C ω w0 (.bY K) hp w){r}(h:Hid C hp r):w0.heap.size≤r:=by
 have key:∀b,C.β b=I r→w0.heap.size≤r:=fun b hb=>by
  rcases m.fresh b r hb with h|h|h
  ·cases h
  ·exact h
  ·exact h.elim
 rcases h with⟨b,hb⟩|h
 ·exact key b hb
 ·rcases h.is m with⟨b,hb⟩|⟨b,sz,bL,xs,n,cap,_,h2⟩
  ·exact key b hb
  ·rcases h2.2.1 with h|h
   ·exact h
   ·rw[hW]at h;exact h.elim
theorem jxl (m:az P C ω w0 C0 hp w){r}(h:Hid C hp r):r<w.heap.size:=by
 rcases h with⟨b,hb⟩|h
 ·exact(m.lt b r hb).1
 ·rcases h.is m with⟨b,hb⟩|⟨b,sz,bL,xs,n,cap,_,h2⟩
  ·exact(m.lt b r hb).1
  ·obtain⟨_,_,_,_,_,⟨cells,elem,h5,_⟩,_⟩:=h2
   exact(G8.1 h5).1
open Classical in
noncomputable def zp (C:aM)(hp:qi)(w:World):Nat→Nat→Option Value:=fun r o=>if Hid C hp r then(w.cell? ⟨r,o,If⟩).filter (·.oneCell')else C.K r o
theorem FY (m:az P C ω w0 C0 hp w){r o x}(h:C.K r o=I x):zp C hp w r o=I x:=by
 unfold zp
 rw[if_neg]
 ·exact h
 ·intro hh
  rw[Rs m hh o]at h;cases h
theorem KP (m:az P C ω w0 C0 hp w){r o x}(h:zp C hp w r o=I x):w.cell? ⟨r,o,If⟩=I x∧x.oneCell'=Gy:=by
 unfold zp at h
 split at h
 ·rw[Option.filter_eq_some_iff]at h;exact h
 ·exact⟨m.know r o x h,m.dw r o x h⟩
theorem qsn {r o x}(hb:Hid C hp r)(hc:w.cell? ⟨r,o,If⟩=I x)(h1:x.oneCell'=Gy):zp C hp w r o=I x:=by
 unfold zp
 rw[if_pos hb,hc]
 simp[h1]
theorem Rt {b r o x}(hb:C.β b=I r)(hc:w.cell? ⟨r,o,If⟩=I x)(h1:x.oneCell'=Gy):zp C hp w r o=I x:=
 qsn (.inl ⟨b,hb⟩) hc h1
theorem Ru (m:az P C ω w0 C0 hp w){x v}(h:bR C x v)(hb:below 0 x=Gy):bR (.bY (zp C hp w)) x v:=
 aI.shift (C:=C) (C':=.bY (zp C hp w)) 0 (fun _ _ _ h=>FY m h) (fun b r bw=>by omega) h hb
theorem qsl {x v}(h:bR C x v)(h1:v.oneCell'=Gy):x.isAgg=Hd:=by
 cases h<;>first|rfl|(simp[Value.oneCell']at h1)
theorem Rv {C r}:∀ {ys:List AVal} {o:Nat},(∀j x,ys[j]?=I x→∃v,C.K r (o+j)=I v∧bR C x v)→cz C r ys o
 | [],o,_=>.il _ _
 |x::ys,o,h=>by
  obtain⟨v,h1,h2⟩:=h 0 x rfl
  refine .dO _ _ _ _ v (by simpa using h1) h2 (Rv fun j y hy=>?_)
  obtain⟨v,k1,k2⟩:=h (j+1) y (by simpa using hy)
  exact⟨v,by rw[show o+1+j=o+(j+1) by omega];exact k1,k2⟩
theorem Rw {C r sz}(hz:0<sz):∀ {n:Nat} {xs:List AVal} {o:Nat},xs.length=n*sz→(∀x∈xs,x.isAgg=Hd)→(∀j x,xs[j]?=I x→∃v,C.K r (o+j)=I v∧bR C x v)→bz C r sz (mf sz n xs) o
 |0,xs,o,_,_,_=>.fN _ _ _
 |n+1,xs,o,hl,hp,h=>by
  rw[Nat.succ_mul]at hl
  have hf:(bif Hc sz 1 then xs.headD .undef else AVal.agg (xs.take sz)).flat=xs.take sz:=by
   cases hb:Hc sz 1 with
   |false=>rfl
   |true=>
    have:=Gt hb
    subst this
    match xs,hl with
    |x::xs,_=>simp only[cond_true,List.headD_cons];rw[qa5 (hp x (List.mem_cons_self ..))];rfl
  refine .dH _ _ _ _ _ ?_ ?_ (Rw hz ?_ (fun x hx=>hp x (List.mem_of_mem_drop hx)) fun j x hx=>?_)
  ·rw[hf,Rh];omega
  ·rw[hf]
   refine Rv fun j x hx=>h j x ?_
   rw[List.getElem?_take]at hx
   split at hx
   ·exact hx
   ·cases hx
  ·rw[X6];omega
  ·rw[List.getElem?_drop]at hx
   obtain⟨v,k1,k2⟩:=h _ x hx
   exact⟨v,by rw[Nat.add_assoc];exact k1,k2⟩
theorem FZ {sz}:∀ {n:Nat} {xs:List AVal},(mf sz n xs).length=n
 |0,_=>rfl
 |n+1,xs=>by simp only[mf,List.length_cons];rw[FZ]
theorem qor {sz}(hz:1<sz):∀ {n:Nat} {xs:List AVal},xs.length=n*sz→qy 0 (mf sz n xs)=Gy→∀x∈xs,below 0 x=Gy
 |0,xs,hl,_=>by
  rw[Nat.zero_mul]at hl
  rw[Si.1 hl]
  intro x hx;cases hx
 |n+1,xs,hl,h=>by
  have hb:Hc sz 1=Hd:=by
   cases hc:Hc sz 1 with
   |false=>rfl
   |true=>have:=Gt hc;omega
  simp only[mf,hb,cond_false,qy,below,En]at h
  have ih:=qor hz (n:=n) (xs:=xs.drop sz) (by rw[X6,hl,Nat.succ_mul];omega) h.2
  have ht:∀(ys:List AVal),qy 0 ys=Gy→∀x∈ys,below 0 x=Gy:=by
   intro ys
   induction ys with
   |nil=>intro _ x hx;cases hx
   |cons y ys ih=>
    intro hh x hx
    simp only[qy,En]at hh
    rcases Sd.1 hx with rfl|hx
    ·exact hh.1
    ·exact ih hh.2 x hx
  intro x hx
  rw[←List.take_append_drop sz xs]at hx
  rcases Ro.1 hx with hx|hx
  ·exact ht _ h.1 x hx
  ·exact ih x hx
theorem Rx (m:az P C ω w0 C0 hp w){x x' v}(hf:yq hp x=I x')(h:bR C x v)(hb:below 0 x'=Gy):bR (.bY (zp C hp w)) x' v:=by
 unfold yq at hf
 split at hf
 ·rename_i b off len
  split at hf
  ·rename_i cs hcs
   cases dp:Dq off len cs with
   |true=>
    rw[dp]at hf
    simp only[cond_true,I.injEq]at hf
    subst hf
    simp only[Dq,En]at dp
    obtain⟨⟨⟨r0,r1⟩,r2⟩,_⟩:=dp
    have r0:=Gt r0
    have r2:=Gt r2
    have r1:1<cs.length / len:=by simpa using r1
    subst r0
    obtain⟨r,cap,iI,hle,rfl⟩:=h.fc
    obtain⟨vs,elem,k1,k2,k3⟩:=m.box b _ r (wo hcs) iI
    have jK:qy 0 (mf (cs.length / len) len (cs.map (·.1)))=Gy:=by simpa[below]using hb
    have Ry:=qor r1 (by rw[St];exact r2.symm) jK
    have hrr:bz (.bY (zp C hp w)) r (cs.length / len) (mf (cs.length / len) len (cs.map (·.1))) 0:=by
     refine Rw (by omega) (by rw[St];exact r2.symm) (fun x hx=>?_) fun j x hx=>?_
     ·obtain⟨j,hj⟩:=List.getElem?_of_mem hx
      rw[Rg,G7]at hj
      obtain⟨c,hc,rfl⟩:=hj
      obtain⟨u,q1,q2,q3,_⟩:=k3 j c hc
      exact qsl q3 q2
     ·have dx:=Qw hx
      rw[Rg,G7]at hx
      obtain⟨c,hc,rfl⟩:=hx
      obtain⟨u,q1,q2,q3,_⟩:=k3 j c hc
      have ep:w.cell? ⟨r,0+j,If⟩=I u:=by
       unfold World.cell?
       rw[k1]
       simp only[Ra,He,if_false,R9]
       exact q1
      exact⟨u,Rt iI ep q2,Ru m q3 (Ry _ dx)⟩
    have:=aI.list (C:=.bY (zp C hp w)) (cs.length / len) (mf (cs.length / len) len (cs.map (·.1))) r 0 cap (by rw[FZ];exact hle) hrr
    rw[FZ]at this
    exact this
   |false=>
   rw[dp]at hf
   simp only[cond_false]at hf
   split at hf
   ·rename_i us gZ
    cases hf
    obtain⟨r,cap,iI,hle,rfl⟩:=h.fc
    obtain⟨vs,k1,k0,k2,k3,k4⟩:=(m.box b _ r (wo hcs) iI).read gZ
    have jK:qy 0 us=Gy:=by simpa[below]using hb
    have gh:aW (.bY (zp C hp w)) us vs:=aI.shift (C:=C) (C':=.bY (zp C hp w)) 0 (fun _ _ _ h=>FY m h) (fun b r bw=>by omega) k1 jK
    have jY:∀(us:List AVal) (vs:List Value),aW C us vs→(∀v∈vs,v.oneCell'=Gy)→us.flatMap AVal.flat=us∧∀u∈us,u.flat.length=1:=by
     intro us
     induction us with
     |nil=>intro _ _ _;exact⟨rfl,by simp⟩
     |cons u us ih=>
      intro vs h h1
      cases h with
      |cons _ _ v vs hx h=>
       obtain⟨i1,i2⟩:=ih vs h (fun v hv=>h1 v (by simp[hv]))
       have x5:=qsl hx (h1 v (by simp))
       rw[X2,qa5 x5,i1]
       refine⟨rfl,fun u' pA=>?_⟩
       rcases Sd.1 pA with rfl|pA
       ·rw[qa5 x5];rfl
       ·exact i2 u' pA
    obtain⟨f1,f2⟩:=jY us vs k1 k4
    have hcells:cz (.bY (zp C hp w)) r (us.flatMap AVal.flat) off:=by
     rw[f1]
     exact cz.iG gh fun j u hj=>Rt iI (k3 j u hj) (k4 u (Qw hj))
    have hl:us.length=len:=k0
    have:=aI.list (C:=.bY (zp C hp w)) 1 us r off cap (by omega) (bz.eZ hcells f2)
    rw[hl]at this
    exact this
   ·cases hf
  ·cases hf
 ·rename_i b bL len
  split at hf
  ·rename_i sz dN xs gL
   cases hk:(Hc bL dN&&Jp len xs.length)with
   |false=>rw[hk]at hf;cases hf
   |true=>
    rw[hk]at hf
    simp only[cond_true,I.injEq]at hf
    subst hf
    simp only[En]at hk
    obtain rfl:=Gt hk.1
    have hlen:=Gz hk.2
    cases h with
    |aj _ _ _ r0 q cap hβ hT hl=>
     obtain⟨q',kK,k1,k2,k3,k4,_⟩:=m.box b _ r0 gL hβ
     have heq:=(k2 _ hT rfl).2 rfl
     simp only[Sc.injEq]at heq
     obtain⟨rfl,rfl⟩:=heq
     obtain⟨cells,t,vs,g1,g2,g3,g4,g5,g6,g7⟩:=k3
     have Rz:Hid C hp q:=.inr ⟨b,sz,bL,xs,r0,cap,gL,hβ,hT⟩
     have hall:cz (.bY (zp C hp w)) q (xs.flatMap AVal.flat) 0:=by
      refine cz.iG (aI.imp (C:=.bY C.K) (C':=.bY (zp C hp w)) ⟨fun _ _ _ h=>FY m h,fun _ _ h=>h⟩ g5) fun j u hj=>?_
      refine qsn Rz ?_ (g7 u (Qw hj))
      unfold World.cell?
      rw[g1]
      simp only[Ra,He,if_false,R9]
      exact g6 j u hj
     have dp:bz (.bY (zp C hp w)) q sz xs 0:=bz.eZ hall g4
     have:=aI.list (C:=.bY (zp C hp w)) sz (xs.take len) q 0 cap (by rw[Rh];omega) (dp.take len)
     rw[Rh,Nat.min_eq_left hlen]at this
     exact this
  ·cases hf
 ·cases hf
  exact Ru m h hb
theorem RA (m:az P C ω w0 C0 hp w):∀ {xs fT:List AVal} {vs:List Value},ly hp xs=I fT→aW C xs vs→qy 0 fT=Gy→aW (.bY (zp C hp w)) fT vs
 | [],fT,vs,hf,h,_=>by
  simp only[ly,I.injEq]at hf
  subst hf
  cases h
  exact .nil
 |x::xs,fT,vs,hf,h,hb=>by
  simp only[ly]at hf
  split at hf
  ·rename_i y hy
   split at hf
   ·rename_i ys mV
    cases hf
    simp only[qy,En]at hb
    cases h with
    |cons _ _ v vs hx h=>exact .cons _ _ _ _ (Rx m hy hx hb.1) (RA m mV h hb.2)
   ·cases hf
  ·cases hf
theorem RB (m:az P C ω w0 C0 hp w):∀ {xs fT:List AVal} {vs:List Value},aK.bE hp xs=I fT→aW C xs vs→qy 0 fT=Gy→aW (.bY (zp C hp w)) fT vs
 | [],fT,vs,hf,h,_=>by
  simp only[aK.bE,I.injEq]at hf
  subst hf
  cases h
  exact .nil
 |x::xs,fT,vs,hf,h,hb=>by
  cases h with
  |cons _ _ v vs hx h=>
   unfold aK.bE at hf
   split at hf
   ·cases ‹_::_=[]›
   ·rename_i cs qW heq
    cases heq
    split at hf
    ·rename_i y hy
     split at hf
     ·rename_i ys mV
      cases hf
      simp only[qy,below,En]at hb
      obtain⟨us,rfl,hu⟩:=bR.eO hx
      exact .cons _ _ _ _ (.agg _ _ (RA m hy hu hb.1)) (RB m mV h hb.2)
     ·cases hf
    ·cases hf
   ·rename_i heq
    cases heq
    split at hf
    ·rename_i y hy
     split at hf
     ·rename_i ys mV
      cases hf
      simp only[qy,En]at hb
      exact .cons _ _ _ _ (Rx m hy hx hb.1) (RB m mV h hb.2)
     ·cases hf
    ·cases hf
theorem q69 (m:az P C ω w0 C0 hp w){x x' v}(hf:aK hp x=I x')(h:bR C x v)(hb:below 0 x'=Gy):bR (.bY (zp C hp w)) x' v:=by
 unfold aK at hf
 split at hf
 ·split at hf
  ·rename_i ys mV
   cases hf
   obtain⟨us,rfl,hu⟩:=h.eO
   exact .agg _ _ (RA m mV hu (by simpa[below]using hb))
  ·cases hf
 ·split at hf
  ·rename_i ys mV
   cases hf
   cases h with
   |aJ _ vs hu=>exact .aJ _ _ (RB m mV hu (by simpa[below]using hb))
  ·cases hf
 ·exact Rx m hf h hb
end
def AP:jf→Exit
 | .normal=>.normal
 | .exit id=>.exit id
 | .ret=>.ret
def jF (ρ:Option Nat):Fence:={ Fence.wide with round:=ρ }
theorem qwm {ρ n P f args w R}:CallsIn (jF ρ) n P f args w R↔CallsIn Fence.wide n P f args w R:=Iff.rfl
def Marks (C:aM)(B:Nat)(ds:List Deferred):Prop:=∃rs:List Nat,ds=rs.map (fun r=>{ target:=.collected r,args:=#[] })∧rs.Nodup∧∀r∈rs,C.D r∧B≤r
theorem Marks.mono {C C' B ds}(h:Marks C B ds)(hle:C.le C'):Marks C' B ds:=
 let ⟨rs,h1,h2,h3⟩:=h; ⟨rs,h1,h2,fun r hr=>⟨hle.d r (h3 r hr).1,(h3 r hr).2⟩⟩
theorem Marks.nil {C B}:Marks C B []:=⟨[],rfl,List.nodup_nil,by simp⟩
def cJ (P:Program)(xc:XC):Prop:=
 ∀(ρ:Option Nat) (nt:Nat) (c:Code) (ca:aw) (st bX:aY) (x:jf),Fo P nt c ca→(ρ≠If→zz ca=Gy)→xc ca st=I (x,bX) →
  ∀(C:aM) (ω:Nat→Option Loc) (w0:World) (C0:aM) (a:Act) (w:World),az P C ω w0 C0 st.heap w→aq C ω w w0.heap.size st.env a.tmps→a.tmps.size=nt→Marks C w0.heap.size a.defers →
   c.wpIn (jF ρ) 0 P (fun e a' w'=>e=AP x∧a'.tmps.size=nt∧∃C' ω',C.le C'∧Marks C' w0.heap.size a'.defers∧az P C' ω' w0 C0 bX.heap w'∧aq C' ω' w' w0.heap.size bX.env a'.tmps) a w
def IsoCall (P:Program)(k:Nat)(args:List AVal)(v:AVal)(ow:Bool):Prop:=
 ∀(K:Nat→Nat→Option Value) (w:World) (vs:List Value),Tabs P w →
  (∀r o u,K r o=I u→w.cell? ⟨r,o,If⟩=I u)→(∀r o u,K r o=I u→u.oneCell'=Gy)→aW (.bY K) args vs →
  CallsIn Fence.wide 0 P k ⟨vs⟩ w fun e w'=>∃u K',e=.returned u∧Ext w w'∧(∀r o x,K r o=I x→K' r o=I x)∧(∀r o,r<w.heap.size→K' r o=K r o) ∧
   (∀r o x,K' r o=I x→w'.cell? ⟨r,o,If⟩=I x)∧(∀r o x,K' r o=I x→x.oneCell'=Gy)∧bR (.bY K') v u ∧
   (ow=Gy→∃ℓ ω',aO (.bY K') ω' w' w.heap.size ℓ v u)
def Enters (P : Program) (k : Nat) : Prop := ∃ fn, P.funcs[k]? = I fn ∧ fn.name ≠ "runtime.NumGoroutine" ∧ fn.body.isSome
def AQ (P:Program)(k:Nat)(args:List AVal)(h:qi)(v:AVal)(ow:Bool)(h':qi):Prop:=
 ∀(C:aM) (ω:Nat→Option Loc) (w:World) (vs:List Value),aW C args vs→az P C ω w C h w →
  CallsIn Fence.wide 0 P k ⟨vs⟩ w fun e w'=>∃u C' ω',e=.returned u∧C.le C'∧az P C' ω' w C h' w'∧bR C' v u∧(ow=Gy→aO C' ω' w' w.heap.size (.slot 0) v u)
def RC (P:Program)(k:Nat)(es:List (AVal×AVal)):Prop:=
 ∀(K:Nat→Nat→Option Value) (w:World),Tabs P w →
  (∀r o u,K r o=I u→w.cell? ⟨r,o,If⟩=I u)→(∀r o u,K r o=I u→u.oneCell'=Gy) →
  CallsIn Fence.wide 0 P k ⟨[]⟩ w fun e w'=>∃q K' cg clock,e=.returned (.map (I q))∧Ext w w'∧(∀r o x,K r o=I x→K' r o=I x)∧(∀r o,r<w.heap.size→K' r o=K r o) ∧
   (∀r o x,K' r o=I x→w'.cell? ⟨r,o,If⟩=I x)∧(∀r o x,K' r o=I x→x.oneCell'=Gy)∧w.heap.size≤q∧w'.heap[q]?=I (.map cg clock)∧cI (.bY K') es cg.toList
structure bZ (P:Program)(p:jz):Prop where
 fn:∀k f,p.bO k=I f→∃fn h,P.funcs[k]?=I fn∧Fm P h fn=I f
 iL:∀k f,p.cN k=I f→Enters P k∧∀args v o,f args=I (v,o)→mc v=Gy→qy 0 args=Gy→IsoCall P k args v o
 mixed:P.follows .mixedOrders=Gy
 fW:∀k f,p.dS k=I f→Enters P k∧∀args h v o h',f args h=I (v,o,h')→AQ P k args h v o h':=by intro k f h;cases h
 maps:∀k es,p.maps k=I es→Enters P k∧RC P k es:=by intro k f h;cases h
theorem RD {P h fn f} (hc : Fm P h fn = I f) : ∃ c, fn.body = I c ∧ gY P h fn.ntmps c = I f.body ∧ Ao P fn.results.toList = I f.results ∧ f.ntmps = fn.ntmps ∧ fn.name ≠ "runtime.NumGoroutine" := by
 unfold Fm at hc
 split at hc
 ·rename_i c hb
  split at hc
  ·rename_i b rs h1 h2
   split at hc
   ·cases hc
   ·rename_i hn
    cases hc
    exact⟨c,hb,h1,h2,rfl,by simpa using hn⟩
  ·cases hc
 ·cases hc
theorem bZ.enters {P p}(h:bZ P p){k f}(hf:p.bO k=I f):Enters P k:=by
 obtain⟨fn,hh,h1,h2⟩:=h.fn k f hf
 obtain⟨c,hb,_,_,_,hn⟩:=RD h2
 exact⟨fn,h1,hn,by simp[hb]⟩
theorem qpi {P k}(h:Enters P k)(args:Array Value)(w:World):(callFunc k args).run P w=.ok (.enter k args) w:=by
 obtain⟨fn,h1,h2,h3⟩:=h
 simp[callFunc,h1,h2,Option.isNone_iff_eq_none,Option.isSome_iff_ne_none.1 h3]
section
variable {P:Program}{p:jz}{xc:XC}{C C0:aM}{ω:Nat→Option Loc}{w w0:World}{hp:qi}{env:Env}{tmps:Array Value}{B:Nat}{a:Act}{o:Oper}{d:Loc}
theorem qsp:∀ {args:List AVal} {i s:Nat} {x:AVal×Bool},ji s (oF i args)=I x→∃j,s=i+j∧args[j]?=I x.1∧x.2=Hd
 | [],_,_,_,h=>by simp[oF,ji]at h
 |v::args,i,s,x,h=>by
  simp only[oF,ji]at h
  cases hb:Hc i s with
  |true=>
   simp only[hb,cond_true,I.injEq]at h
   subst h
   exact⟨0,(Gt hb).symm,rfl,rfl⟩
  |false=>
   simp only[hb,cond_false]at h
   obtain⟨j,h1,h2,h3⟩:=qsp h
   exact⟨j+1,by omega,by simpa using h2,h3⟩
theorem jah {r o v}(h:w.cell? ⟨r,o,If⟩=I v):∃cs t fr,w.heap[r]?=I (.cells cs t fr):=by
 unfold World.cell? at h
 split at h
 ·rename_i cs t fr hg;exact⟨cs,t,fr,hg⟩
 ·cases h
theorem az.other {D'}(m:az P C ω w0 C0 hp w){r w'}(hu:ng w w' r)(hβ:∀b,C.β b≠I r)(hr:w0.heap.size≤r)(ln:∀cs t fr,w.heap[r]?≠I (.cells cs t fr))(hD:∀k,D' k→C.D k∧k≠r)(h0:∀k,C0.D k→D' k):
  az P { C with D:=D' } ω w0 C0 hp w':=by
 have c7:∀ {B:Nat} {ℓ:Loc} {x:AVal} {v:Value},aO C ω w B ℓ x v→aO { C with D:=D' } ω w' B ℓ x v:=by
  intro B ℓ x v ho
  unfold aO at *
  split at ho
  ·obtain⟨h1,h2,h3,h4,h8,⟨cells,elem,h5,h6⟩,h7⟩:=ho
   refine⟨h1,h2,h3,h4,h8,⟨cells,elem,?_,h6⟩,h7⟩
   rw[hu.other _ (fun h=>ln _ _ _ (h▸h5))]
   exact h5
  ·obtain⟨h1,h2,h3,h4,h8,⟨cells,elem,h5,h6⟩,h7⟩:=ho
   refine⟨h1,h2,h3,h4,h8,⟨cells,elem,?_,h6⟩,h7⟩
   rw[hu.other _ (fun h=>ln _ _ _ (h▸h5))]
   exact h5
  ·trivial
 refine { base:=m.base,know:=?_,dw:=m.dw,apart:=m.apart,inj:=m.inj,lt:=?_,size:=?_,frame:=?_,ft:=?_,os:=hu.os.trans m.os,output:=hu.output.trans m.output,fresh:=m.fresh,grown:=⟨m.grown.k,m.grown.b,m.grown.w,h0,m.grown.t⟩,old:=m.old,box:=?_,iF:=fun q hq=>by rw[hu.size];exact m.iF q hq }
 ·intro k p v hk
  have hc:=m.know _ _ _ hk
  have bI:k≠r:=fun h=>by
   obtain⟨cs,t,fr,hg⟩:=jah hc
   exact ln cs t fr (h▸hg)
  simp only[World.cell?]at hc ⊢
  rw[hu.other k bI];exact hc
 ·intro b p hb
  rw[hu.size];exact m.lt b p hb
 ·rw[hu.size];exact m.size
 ·intro k hk hn hw
  rw[hu.other k (by omega)];exact m.frame k hk hn hw
 ·intro k hk
  obtain⟨h1,h2⟩:=hD k hk
  rw[hu.other k h2];exact m.ft k h1
 ·intro b x p hx hb
  refine bG.imp (C:=C) (C':={ C with D:=D' }) ⟨fun _ _ _ h=>h,fun _ _ h=>h⟩ (hu.other p (fun h=>hβ b (h▸hb))) (fun j y v ho=>c7 ho) (m.box b x p hx hb) (hq:=fun q n cap k=>by
   obtain⟨_,_,_,_,_,⟨cells,elem,h5,_⟩,_⟩:=k
   exact hu.other q (fun h=>ln _ _ _ (h▸h5)))
theorem aO.kN {D' r w'}(hu:ng w w' r)(ln:∀cs t fr,w.heap[r]?≠I (.cells cs t fr)){ℓ x v}(ho:aO C ω w B ℓ x v):aO { C with D:=D' } ω w' B ℓ x v:=by
 unfold aO at *
 split at ho
 ·obtain⟨h1,h2,h3,h4,h8,⟨cells,elem,h5,h6⟩,h7⟩:=ho
  refine⟨h1,h2,h3,h4,h8,⟨cells,elem,?_,h6⟩,h7⟩
  rw[hu.other _ (fun h=>ln _ _ _ (h▸h5))]
  exact h5
 ·obtain⟨h1,h2,h3,h4,h8,⟨cells,elem,h5,h6⟩,h7⟩:=ho
  refine⟨h1,h2,h3,h4,h8,⟨cells,elem,?_,h6⟩,h7⟩
  rw[hu.other _ (fun h=>ln _ _ _ (h▸h5))]
  exact h5
 ·trivial
theorem bR.rh {D' x v}(h:bR C x v):bR { C with D:=D' } x v:=aI.imp (C:=C) (C':={ C with D:=D' }) ⟨fun _ _ _ h=>h,fun _ _ h=>h⟩ h
theorem aq.kN {D' r w'}(hu:ng w w' r)(ln:∀cs t fr,w.heap[r]?≠I (.cells cs t fr))(e:aq C ω w B env tmps):aq { C with D:=D' } ω w' B env tmps:=
 fun s x hs=>let ⟨v,h1,h2,h3⟩:=e s x hs; ⟨v,h1,bR.rh h2,fun h=>(h3 h).kN hu ln⟩
theorem qz8 {fn R}:∀(rs:List Nat) (C':aM) (w:World),C.le C'→az P C' ω w0 C hp w→aq C' ω w w0.heap.size env tmps→rs.Nodup→(∀r∈rs,C'.D r∧w0.heap.size≤r)→(∀k,C.D k→k<w0.heap.size) →
  (∀(C2:aM) (w2:World),C.le C2→C2.D=C.D→az P C2 ω w0 C hp w2→aq C2 ω w2 w0.heap.size env tmps→∃v,(results fn tmps).run P w2=.ok v w2∧R (.returned v) w2) →
  LeavesInM Fence.wide 0 P fn tmps R (rs.map fun r=>{ target:=.collected r,args:=#[] }) .returning w
 | [],C',w,hle,m,e,_,_,hD,eL=>by
  have hr0:∀ {k},C.D k→C'.D k:=fun h=>hle.d _ h
  -- the marks are forgotten
  have m2:az P { C' with D:=C.D } ω w0 C hp w:={ m with
   ft:=fun r hr=>m.ft r (hr0 hr)
   grown:=⟨m.grown.k,m.grown.b,m.grown.w,fun _ h=>h,m.grown.t⟩
   box:=fun b x r hx hb=>bG.imp (C:=C') (C':={ C' with D:=C.D }) ⟨fun _ _ _ h=>h,fun _ _ h=>h⟩ rfl (fun j y v ho=>ho) (m.box b x r hx hb) }
  have e2:aq { C' with D:=C.D } ω w w0.heap.size env tmps:=fun s x hs=>let ⟨v,h1,h2,h3⟩:=e s x hs; ⟨v,h1,bR.rh h2,h3⟩
  exact eL { C' with D:=C.D } w ⟨hle.k,hle.b,hle.w,fun _ h=>h,hle.t⟩ rfl m2 e2
 |r::rs,C',w,hle,m,e,qQ,F0,hD,eL=>by
  obtain⟨hDr,hBr⟩:=F0 r (by simp)
  have hg:=m.ft r hDr
  have bw:=(G8.1 hg).1
  have ln:∀cs t fr,w.heap[r]?≠I (.cells cs t fr):=fun cs t fr h=>by rw[hg]at h;cases h
  have hu:ng w (ke w r (.deferred If)) r:=DF bw (by simp)
  have hβ:∀b,C'.β b≠I r:=by
   intro b hb
   obtain⟨x,hx⟩:=Nz (m.lt b r hb).2▸(⟨_,rfl⟩:∃x,I (hp[b]'(m.lt b r hb).2)=I x)
   have h0:=m.box b x r hx hb
   cases x with
   |hole=>exact h0
   |cells cs=>obtain⟨vs,elem,h1,_⟩:=h0;rw[hg]at h1;cases h1
   |map es=>obtain⟨cg,clock,h1,_⟩:=h0;rw[hg]at h1;cases h1
   |iter s pos=>have h1:w.heap[r]?=_:=h0;rw[hg]at h1;cases h1
   |loop l=>obtain⟨lp,h1,_⟩:=h0;rw[hg]at h1;cases h1
   |fX t e l=>obtain⟨p,v,h1,_⟩:=h0;rw[hg]at h1;cases h1
   |dead=>obtain⟨cs,t,h1⟩:=h0;rw[hg]at h1;cases h1
   |vec sz bL xs=>obtain⟨_,_,_,_,_,_,cs,t,h1⟩:=h0;rw[hg]at h1;cases h1
  have bH:(Instr.takeDeferred r).run P w=.ok [] (ke w r (.deferred If)):=by
   have hs:=yC (P:=P) (x:=.deferred If) hg (by simp)
   simp only[Instr.takeDeferred,Sem.run_bind,pB hg (by simp),Result.andThen_ok,hs,Sem.run_pure]
  refine⟨by simp,.inl ⟨r,_,rfl,bH,?_⟩⟩
  have F1:=List.nodup_cons.1 qQ
  have m2:=m.other (D':=fun k=>C'.D k∧k≠r) hu hβ hBr ln (fun k h=>h) (fun k h=>⟨hle.d k h,fun hk=>by have:=hD k h;omega⟩)
  exact qz8 rs { C' with D:=fun k=>C'.D k∧k≠r } _ ⟨hle.k,hle.b,hle.w,fun k h=>⟨hle.d k h,fun hk=>by have:=hD k h;omega⟩,hle.t⟩ m2 (e.kN hu ln) F1.2
   (fun k hk=>⟨⟨(F0 k (by simp[hk])).1,fun h=>F1.1 (h▸hk)⟩,(F0 k (by simp[hk])).2⟩) hD eL
theorem q6y (hx:cJ P xc){k fn h f}(hfn:P.funcs[k]?=I fn)(hc:Fm P h fn=I f){args v ow h'}(hr:py xc f args hp=I (v,ow,h')){vs}(eI:aW C args vs)(m:az P C ω w C hp w):
  CallsIn Fence.wide 0 P k ⟨vs⟩ w fun e w'=>∃u C' ω',e=.returned u∧C.le C'∧az P C' ω' w C h' w'∧bR C' v u∧(ow=Gy→aO C' ω' w' w.heap.size (.slot 0) v u):=by
 obtain⟨c,hb,h1,h2,h3,_⟩:=RD hc
 unfold py at hr
 have hD:∀k,C.D k→k<w.heap.size:=fun k hk=>(G8.1 (m.ft k hk)).1
 cases hle:Jp args.length f.ntmps with
 |false=>simp[hle]at hr
 |true=>
  simp only[hle,cond_true]at hr
  have hlen:=Gz hle
  have wm:=eI.length
  refine callsIn_of_wp_marks hfn hb trivial ?_
  have da:((⟨vs⟩:Array Value)++Yg (fn.ntmps-(⟨vs⟩:Array Value).size) undef).size=fn.ntmps:=by
   simp;omega
  have F2:aq C ω w w.heap.size (oF 0 args) ((⟨vs⟩:Array Value)++Yg (fn.ntmps-(⟨vs⟩:Array Value).size) undef):=by
   intro s x hx
   obtain⟨j,rfl,hj,hf⟩:=qsp hx
   obtain⟨u,k1,k2⟩:=eI.get hj
   have bw:j<vs.length:=(G9.1 k1).1
   refine⟨u,?_,k2,by simp[hf]⟩
   rw[R9,Array.getElem?_append_left (by simpa using bw)]
   simpa using k1
  have fin:∀(st:aY) (a':Act) (w':World) (C':aM) (ω':Nat→Option Loc),C.le C'→Marks C' w.heap.size a'.defers→az P C' ω' w C st.heap w'→aq C' ω' w' w.heap.size st.env a'.tmps →
    (match km st f.results with
     |some xs=>I ((j6 xs).1,(j6 xs).2,kx st f.results)
     |none=>If)=I (v,ow,h') →
    LeavesInM Fence.wide 0 P fn a'.tmps (fun e w'=>∃u C' ω',e=.returned u∧C.le C'∧az P C' ω' w C h' w'∧bR C' v u∧(ow=Gy→aO C' ω' w' w.heap.size (.slot 0) v u)) a'.defers .returning w':=by
   intro st a' w' C' ω' hle ⟨rs,hds,qQ,F0⟩ m' e' hr
   rw[hds]
   refine qz8 (C:=C) (ω:=ω') (w0:=w) (hp:=st.heap) (env:=st.env) rs C' w' hle m' e' qQ F0 hD ?_
   intro C2 w2 jM _ m2 e2
   split at hr
   ·rename_i xs mY
    cases hr
    obtain⟨u,ω2,k1,k2,k3,k4⟩:=q7a (fn:=fn) m2 e2 h2 mY
    exact⟨u,k1,u,C2,ω2,rfl,jM,k2,k3,k4⟩
   ·cases hr
  split at hr
  ·rename_i st cq
   refine wpIn_mono (hx If fn.ntmps c f.body _ _ _ ⟨h,h1⟩ (fun h=>absurd rfl h) cq C ω w C _ w m F2 da Marks.nil) ?_
   rintro e a' w' ⟨rfl,q1,C',ω',q3,q2,q4,q5⟩
   exact fin st a' w' C' ω' q3 q2 q4 q5 hr
  ·rename_i st cq
   refine wpIn_mono (hx If fn.ntmps c f.body _ _ _ ⟨h,h1⟩ (fun h=>absurd rfl h) cq C ω w C _ w m F2 da Marks.nil) ?_
   rintro e a' w' ⟨rfl,q1,C',ω',q3,q2,q4,q5⟩
   exact fin st a' w' C' ω' q3 q2 q4 q5 hr
  ·cases hr
theorem q34 {K}(ht:Tabs P w)(h1:∀r o u,K r o=I u→w.cell? ⟨r,o,If⟩=I u)(h2:∀r o u,K r o=I u→u.oneCell'=Gy):az P (.bY K) (fun _=>If) w (.bY K) [] w where
 base:=⟨ht,fun g _=>⟨fun b h=>(by cases h),fun h=>h⟩⟩
 know:=h1
 dw:=h2
 apart:=by simp[aM.bY]
 inj:=by simp[aM.bY]
 lt:=by simp[aM.bY]
 size:=Nat.le_refl _
 frame _ _ _ _:=rfl
 ft _ h:=h.elim
 os:=rfl
 output:=rfl
 fresh:=by simp[aM.bY]
 grown:=aM.le_refl _
 old _ _ _ _:=rfl
 box:=by simp
 iF _ h:=h.elim
theorem F3 (hp:bZ P p)(hx:cJ P xc){k args h h' v ow}(hr:qo p xc k args h=I (v,ow,h')):Enters P k∧AQ P k args h v ow h':=by
 unfold qo at hr
 split at hr
 ·rename_i f hf
  obtain⟨fn,hh,hfn,F4⟩:=hp.fn k f hf
  exact⟨hp.enters hf,fun C ω w vs eI m=>q6y hx hfn F4 hr eI m⟩
 ·split at hr
  ·rename_i f hf
   obtain⟨he,hs⟩:=hp.fW k f hf
   exact⟨he,hs _ _ _ _ _ hr⟩
  ·cases hr
theorem cI.bY {es ms}(h:cI C es ms):uP 0 es=Gy→cI (.bY C.K) es ms:=by
 induction h with
 |nil=>exact fun _=>.nil
 |cons k v es m ms hk hv _ ih=>
  intro hb
  simp only[uP,En]at hb
  exact .cons _ _ _ _ _ (aI.shift (C:=C) (C':=.bY C.K) 0 (fun _ _ _ h=>h) (fun b r bw=>by omega) hk hb.1.1) (aI.shift (C:=C) (C':=.bY C.K) 0 (fun _ _ _ h=>h) (fun b r bw=>by omega) hv hb.1.2) (ih hb.2)
theorem q89 (hp:bZ P p)(hx:cJ P xc){k b ow h1 es}(hr:qo p xc k [] []=I (.map b,ow,h1))(hb:h1[b]?=I (.map es))(he:uP 0 es=Gy):Enters P k∧RC P k es:=by
 obtain⟨lJ,ni⟩:=F3 hp hx hr
 refine⟨lJ,fun K w ht g1 g2=>?_⟩
 refine CallsIn.mono (ni _ _ _ [] .nil (q34 (P:=P) ht g1 g2)) ?_
 rintro e w' ⟨u,C',ω',rfl,hle,m',gh,_⟩
 cases gh with
 |map _ q hq=>
  obtain⟨cg,clock,k1,k2⟩:=m'.box b _ q hb hq
  refine⟨q,C'.K,cg,clock,rfl,⟨m'.size,fun r hr=>m'.frame r hr (by simp[aM.bY]) (by simp[aM.bY]),m'.os,m'.output⟩,hle.1,fun r o hr=>m'.old r o hr (by simp[aM.bY]),m'.know,m'.dw,?_,k1,k2.bY he⟩
  rcases m'.fresh b q hq with h|h|h
  ·cases h
  ·exact h
  ·exact h.elim
theorem KQ (hp:bZ P p)(hx:cJ P xc){k args v ow}(hr:qc p xc k args=I (v,ow))(hb:qy 0 args=Gy):Enters P k∧mc v=Gy∧IsoCall P k args v ow:=by
 unfold qc at hr
 split at hr
 ·rename_i f hf
  obtain⟨he,F5⟩:=hp.iL k f hf
  split at hr
  ·rename_i v' o' F6
   cases lq:mc v' with
   |false=>simp[lq]at hr
   |true=>
    simp only[lq,cond_true]at hr
    cases hr
    exact⟨he,lq,F5 args _ _ F6 lq hb⟩
  ·cases hr
 ·split at hr
  ·rename_i v0 o' h' F6
   split at hr
   ·rename_i v' DI
    cases lq:mc v' with
    |false=>simp[lq]at hr
    |true=>
     simp only[lq,cond_true]at hr
     cases hr
     obtain⟨lJ,ni⟩:=F3 hp hx F6
     ·refine⟨lJ,lq,?_⟩
      intro K w vs ht h1 h2 eI
      have:=ni _ _ _ _ eI (q34 (P:=P) ht h1 h2)
      refine CallsIn.mono this ?_
      rintro e w' ⟨u,C',ω',rfl,hle,m',gh,c7⟩
      refine⟨u,zp C' h' w',rfl,?_,fun r o x hr=>FY m' (hle.1 r o x hr),fun r o hr=>?_,fun r o x hr=>(KP m' hr).1,fun r o x hr=>(KP m' hr).2,q69 m' DI gh lq,?_⟩
      ·exact⟨m'.size,fun r hr=>m'.frame r hr (by simp[aM.bY]) (by simp[aM.bY]),m'.os,m'.output⟩
      ·have hold:=m'.old r o hr (by simp[aM.bY])
       unfold zp
       rw[if_neg]
       ·exact hold
       intro hh
       have:=jfn hle.w m' hh
       omega
      ·intro ho
       simp only[En]at ho
       have hℓ:=c7 ho.1
       refine⟨.slot 0,ω',?_⟩
       cases v0 with
       |list n sz xs=>
        have F7:v=.list n sz xs:=by
         simp only[aK,yq,I.injEq]at DI
         exact DI.symm
        subst F7
        unfold aO at *
        split at hℓ
        ·obtain⟨g1,g2,g3,g4,g5,g6,g7⟩:=hℓ
         refine⟨g1,.inl (g2.resolve_right (by rw[hle.w];exact fun h=>h)),by simp[aM.bY],g4,g5,g6,fun o yE=>?_⟩
         show zp C' h' w' _ o=If
         unfold zp
         rw[if_neg]
         ·exact g7 o yE
         ·rintro (⟨b,hb⟩|hh)
          ·exact g3 b hb
          ·rcases hh.is m' with⟨b,hb⟩|⟨b,_,_,_,_,_,_,h2⟩
           ·exact g3 b hb
           ·have:=h2.1;rw[g1]at this;simp at this
        all_goals trivial
       |_=>exact absurd ho.2 (by simp[AVal.cR])
   ·cases hr
  ·cases hr
end
section
variable {P:Program}{p:jz}{xc:XC}{C C0 C1:aM}{ω ω1:Nat→Option Loc}{w w' w0:World}{hp h1:qi}{env:Env}{tmps:Array Value}{B:Nat}{a:Act}{o:Oper}{d:Loc}
theorem aO.grow {K' ℓ x v}(hx:Ext w w')(hK:∀r o,r<w.heap.size→K' r o=C.K r o)(ho:aO C ω w B ℓ x v):aO { C with K:=K' } ω w' B ℓ x v:=by
 unfold aO at *
 split at ho
 ·obtain⟨h1,h2,h3,h4,h8,⟨cells,elem,h5,h6⟩,h7⟩:=ho
  have bw:=(G8.1 h5).1
  exact⟨h1,h2,h3,h4,h8,⟨cells,elem,hx.get h5,h6⟩,fun o ho=>by
   show K' _ o=If
   rw[hK _ o bw];exact h7 o ho⟩
 ·obtain⟨h1,h2,h3,h4,h8,⟨cells,elem,h5,h6⟩,h7⟩:=ho
  have bw:=(G8.1 h5).1
  exact⟨h1,h2,h3,h4,h8,⟨cells,elem,hx.get h5,h6⟩,fun o ho=>by
   show K' _ o=If
   rw[hK _ o bw];exact h7 o ho⟩
 ·trivial
theorem az.bY {K'}(m:az P C ω w0 C0 hp w)(hx:Ext w w')(hle:∀r o x,C.K r o=I x→K' r o=I x)(hK:∀r o,r<w.heap.size→K' r o=C.K r o)(hk:∀r o x,K' r o=I x→w'.cell? ⟨r,o,If⟩=I x)(h1:∀r o x,K' r o=I x→x.oneCell'=Gy):
  az P { C with K:=K' } ω w0 C0 hp w' where
 base:=m.base
 know:=hk
 dw:=h1
 apart b r o hb:=by
  show K' r o=If
  rw[hK r o (m.lt b r hb).1];exact m.apart b r o hb
 inj:=m.inj
 lt b r hb:=⟨Rb (m.lt b r hb).1 hx.size,(m.lt b r hb).2⟩
 size:=Me m.size hx.size
 frame:=(m.ext hx).frame
 ft:=(m.ext hx).ft
 os:=(m.ext hx).os
 output:=(m.ext hx).output
 fresh:=m.fresh
 grown:=aM.le_trans m.grown ⟨hle,fun _ _ h=>h,rfl,fun _ h=>h,fun _ h=>h⟩
 old r o hr hw:=by
  show K' r o=_
  rw[hK r o (Rb hr m.size)];exact m.old r o hr hw
 box b x r hb hr:=by
  have h0:=m.box b x r hb hr
  -- in the new world first,then in the richer context
  cases x with
  |hole=>exact h0
  |cells cs=>
   obtain⟨vs,elem,g1,g2,g3⟩:=h0
   exact⟨vs,elem,hx.get g1,g2,fun j c hc=>let ⟨v,a,q,b,d⟩:=g3 j c hc; ⟨v,a,q,aI.mono (C':={ C with K:=K' }) ⟨hle,fun _ _ h=>h,rfl,fun _ h=>h,fun _ h=>h⟩ b,fun e=>(d e).grow hx hK⟩⟩
  |map es=>obtain⟨cg,clock,g1,g2⟩:=h0;exact⟨cg,clock,hx.get g1,cI.mono (C:=C) (C':={ C with K:=K' }) ⟨hle,fun _ _ h=>h,rfl,fun _ h=>h,fun _ h=>h⟩ g2⟩
  |iter s pos=>exact hx.get h0
  |loop l=>obtain⟨lp,g1,g2⟩:=h0;exact⟨lp,hx.get g1,cA.mono (C:=C) (C':={ C with K:=K' }) ⟨hle,fun _ _ h=>h,rfl,fun _ h=>h,fun _ h=>h⟩ g2⟩
  |fX t e l=>obtain⟨p,v,g1,g2,g3,g4⟩:=h0;exact⟨p,v,hx.get g1,g2,g3,g4.grow hx hK⟩
  |dead=>obtain⟨cs,t,g1⟩:=h0;exact⟨cs,t,hx.get g1⟩
  |vec sz bL xs=>
   have hg:∀ {k:Nat} {c:Array Value} {t:TypeId},w.heap[k]?=I (.cells c t (0,0))→w'.heap[k]?=w.heap[k]?:=fun hk=>by rw[hx.get hk,hk]
   obtain⟨_,_,_,_,_,_,cs,t,g1⟩:=id h0
   refine ew.imp hle (fun _ h=>h) (fun _ h _=>h) (hg g1) (fun q n cap k=>⟨?_,k.grow hx hK⟩) h0
   obtain⟨_,_,_,_,_,⟨cells,elem,h5,_⟩,_⟩:=k
   exact hg h5
 iF q hq:=Rb (m.iF q hq) hx.size
theorem aq.bY {K'}(e:aq C ω w B env tmps)(hx:Ext w w')(hle:∀r o x,C.K r o=I x→K' r o=I x)(hK:∀r o,r<w.heap.size→K' r o=C.K r o):aq { C with K:=K' } ω w' B env tmps:=
 fun s x hs=>let ⟨v,h1,h2,h3⟩:=e s x hs; ⟨v,h1,aI.mono (C':={ C with K:=K' }) ⟨hle,fun _ _ h=>h,rfl,fun _ h=>h,fun _ h=>h⟩ h2,fun h=>(h3 h).grow hx hK⟩
theorem q28 (m:az P C ω w0 C0 hp w)(e:aq C ω w w0.heap.size env tmps){v ow u K'}(hx:Ext w w')(hle:∀r o x,C.K r o=I x→K' r o=I x)(hK:∀r o,r<w.heap.size→K' r o=C.K r o)(hk:∀r o x,K' r o=I x→w'.cell? ⟨r,o,If⟩=I x)(h1:∀r o x,K' r o=I x→x.oneCell'=Gy)
  (lq:mc v=Gy) (hr:bR (.bY K') v u) (ho:ow=Gy→∃ℓ ω',aO (.bY K') ω' w' w.heap.size ℓ v u):zk P C0 w0 C tmps d env ⟨v,ow,If,hp⟩ u w':=by
 have m':=m.bY hx hle hK hk h1
 have e':=e.bY hx hle hK
 have iH:bR { C with K:=K' } v u:=aI.shift (C:=.bY K') (C':={ C with K:=K' }) 0 (fun _ _ _ h=>h) (fun b r bw=>by omega) hr lq
 have cY:C.le { C with K:=K' }:=⟨hle,fun _ _ h=>h,rfl,fun _ h=>h,fun _ h=>h⟩
 by_cases hkL:∃(n:Bool) (sz:Nat) (xs:List AVal) (ad:Addr) (len cap:Nat),v=.list n sz xs∧u=.slice (I ad) len cap∧ow=Gy
 ·obtain⟨n,sz,xs,ad,len,cap,rfl,rfl,rfl⟩:=hkL
  obtain⟨ℓ,ω',g1,RE,g3,g4,g5,g6,g7⟩:=ho rfl
  have g2:w.heap.size≤ad.block:=RE.resolve_right (fun h=>h)
  have AR:∀ℓ x v,aO C ω w w0.heap.size ℓ x v→aO { C with K:=K' } (cQ ω ad.block d) w' w0.heap.size ℓ x v:=fun ℓ x v h=>by
   have h2:=(h.fresh (ℓ':=d) g2).grow hx hK
   exact h2
  refine⟨{ C with K:=K' },cQ ω ad.block d,cY,?_,?_,iH,fun _=>?_⟩
  ·have:=(m.kF ad.block d g2).bY hx hle hK hk h1
   exact this
  ·exact fun s x hs=>let ⟨v,h1,h2,h3⟩:=e s x hs; ⟨v,h1,aI.mono cY h2,fun h=>AR _ _ _ (h3 h)⟩
  ·refine⟨by simp[cQ],.inl (Me m.size g2),fun b hb=>?_,g4,g5,g6,g7⟩
   have:=(m.lt b _ hb).1
   omega
 by_cases dA:∃(n:Nat) (ad:Addr),v=.db n∧u=.pointer (I ad)∧ow=Gy
 ·obtain⟨n,ad,rfl,rfl,rfl⟩:=dA
  obtain⟨ℓ,ω',g1,RE,g3,g4,g5,g6,g7⟩:=ho rfl
  have g2:w.heap.size≤ad.block:=RE.resolve_right (fun h=>h)
  have AR:∀ℓ x v,aO C ω w w0.heap.size ℓ x v→aO { C with K:=K' } (cQ ω ad.block d) w' w0.heap.size ℓ x v:=fun ℓ x v h=>by
   have h2:=(h.fresh (ℓ':=d) g2).grow hx hK
   exact h2
  refine⟨{ C with K:=K' },cQ ω ad.block d,cY,?_,?_,iH,fun _=>?_⟩
  ·have:=(m.kF ad.block d g2).bY hx hle hK hk h1
   exact this
  ·exact fun s x hs=>let ⟨v,h1,h2,h3⟩:=e s x hs; ⟨v,h1,aI.mono cY h2,fun h=>AR _ _ _ (h3 h)⟩
  ·refine⟨by simp[cQ],.inl (Me m.size g2),fun b hb=>?_,g4,g5,g6,g7⟩
   have:=(m.lt b _ hb).1
   omega
 ·refine⟨{ C with K:=K' },ω,cY,m',e',iH,fun h=>?_⟩
  cases v with
  |list n sz xs=>
   cases u with
   |slice q len cap=>
    cases q with
    |some ad=>exact absurd ⟨_,_,_,_,_,_,rfl,rfl,h⟩ hkL
    |none=>trivial
   |_=>trivial
  |db n=>
   cases u with
   |pointer q=>
    cases q with
    |some ad=>exact absurd ⟨_,_,rfl,rfl,h⟩ dA
    |none=>trivial
   |_=>trivial
  |_=>trivial
theorem jij (m:az P C ω w0 C0 hp w)(e:aq C ω w w0.heap.size env tmps){b q K' es cg clock}(hx:Ext w w')(hle:∀r o x,C.K r o=I x→K' r o=I x)(hK:∀r o,r<w.heap.size→K' r o=C.K r o)(hk:∀r o x,K' r o=I x→w'.cell? ⟨r,o,If⟩=I x)(h1:∀r o x,K' r o=I x→x.oneCell'=Gy)
  (hh:hp[b]?=I .hole) (hq:w.heap.size≤q) (hg:w'.heap[q]?=I (.map cg clock)) (hr:cI (.bY K') es cg.toList):zk P C0 w0 C tmps d env ⟨.map b,Hd,If,hp.set b (.map es)⟩ (.map (I q)) w':=by
 have m':=m.bY hx hle hK hk h1
 have e':=e.bY hx hle hK
 have cY:C.le { C with K:=K' }:=⟨hle,fun _ _ h=>h,rfl,fun _ h=>h,fun _ h=>h⟩
 obtain⟨m2,e2,jM⟩:=m'.FJ e' hh hg (fun k hk=>by have:=(m.lt k q hk).1;omega) (Me m.size hq) (cI.imp (C:=.bY K') (C':={ C with K:=K' }) ⟨fun _ _ _ h=>h,fun b r h=>by simp[aM.bY]at h⟩ hr)
 exact⟨_,ω,aM.le_trans cY jM,m2,e2,.map _ _ (by simp[aM.box]),by simp⟩
theorem F8 {C C' x v}(hp:nQ x=Gy)(h:bR C x v):bR C' x v:=by
 cases x<;>simp only[nQ,He]at hp<;>cases h<;>constructor
theorem az.AU (m:az P C ω w0 C0 hp w)(e:aq C ω w w0.heap.size env tmps){b q K' cells}{t:TypeId}{cs}(hx:Ext w w')(hle:∀r o x,C.K r o=I x→K' r o=I x)(hK:∀r o,r<w.heap.size→K' r o=C.K r o)(hk:∀r o x,K' r o=I x→w'.cell? ⟨r,o,If⟩=I x)(h1:∀r o x,K' r o=I x→x.oneCell'=Gy)
  (hq:w.heap.size≤q) (hn:∀o,K' q o=If) (hh:hp[b]?=I .hole) (hg:w'.heap[q]?=I (.cells cells t (0,0))) (hl:cs.length≤cells.size)
  (hcs:∀(j:Nat) (c:AVal×Bool),cs[j]?=I c→∃v,cells[j]?=I v∧v.oneCell'=Gy∧bR (({ C with K:=K' }:aM).box b q) c.1 v∧c.2=Hd):
  az P (({ C with K:=K' }:aM).box b q) ω w0 C0 (hp.set b (.cells cs)) w'∧aq (({ C with K:=K' }:aM).box b q) ω w' w0.heap.size env tmps∧C.le (({ C with K:=K' }:aM).box b q):=by
 have m':=m.bY hx hle hK hk h1
 have hβ:=FH m hh
 have AL:C.le { C with K:=K' }:=⟨hle,fun _ _ h=>h,rfl,fun _ h=>h,fun _ h=>h⟩
 have jM:({ C with K:=K' }:aM).le (({ C with K:=K' }:aM).box b q):=aM.kJ (C:={ C with K:=K' }) (r:=q) hβ
 have cY:=aM.le_trans AL jM
 have bw:b<hp.length:=(G9.1 hh).1
 have KR:∀k,C.β k≠I q:=fun k hk=>by have:=(m.lt k q hk).1;omega
 have c7:∀ℓ x v,aO C ω w w0.heap.size ℓ x v→aO (({ C with K:=K' }:aM).box b q) ω w' w0.heap.size ℓ x v:=fun ℓ x v h=>aO.grow (C:=C.box b q) hx hK (aO.box (.inl hq) h)
 refine⟨{ m' with apart:=?_,inj:=?_,lt:=?_,fresh:=?_,grown:=aM.le_trans m'.grown jM,box:=?_ },?_,cY⟩
 ·intro k r o hk
  simp only[aM.box]at hk
  split at hk
  ·cases hk;exact hn o
  ·exact m'.apart k r o hk
 ·intro k k' r hk eW
  simp only[aM.box]at hk eW
  split at hk<;>split at eW
  ·rename_i h1 h2;rw[h1,h2]
  ·cases hk;exact absurd eW (KR k')
  ·cases eW;exact absurd hk (KR k)
  ·exact m.inj k k' r hk eW
 ·intro k r hk
  rw[Lg]
  simp only[aM.box]at hk
  split at hk
  ·rename_i h1;cases hk;subst h1;exact⟨(G8.1 hg).1,bw⟩
  ·exact m'.lt k r hk
 ·intro k r hk
  simp only[aM.box]at hk
  split at hk
  ·cases hk;exact .inr (.inl (Me m.size hq))
  ·exact m.fresh k r hk
 ·intro k y r hy hk
  simp only[aM.box]at hk
  split at hk
  ·rename_i h1
   subst h1
   cases hk
   rw[Lh bw]at hy
   cases hy
   refine⟨cells,t,hg,hl,fun j c hc=>?_⟩
   obtain⟨v,a1,a2,a3,a4⟩:=hcs j c hc
   exact⟨v,a1,a2,a3,fun h=>by rw[a4]at h;cases h⟩
  ·rename_i h1
   rw[Gx (Jq h1)]at hy
   have h0:=m.box k y r hy hk
   cases y with
   |hole=>exact h0
   |cells cs=>
    obtain⟨vs,elem,g1,g2,g3⟩:=h0
    exact⟨vs,elem,hx.get g1,g2,fun j c hc=>let ⟨v,a,q,b,d⟩:=g3 j c hc; ⟨v,a,q,aI.mono cY b,fun e=>c7 _ _ _ (d e)⟩⟩
   |map es=>obtain⟨cg,clock,g1,g2⟩:=h0;exact⟨cg,clock,hx.get g1,cI.mono cY g2⟩
   |iter s pos=>exact hx.get h0
   |loop l=>obtain⟨lp,g1,g2⟩:=h0;exact⟨lp,hx.get g1,cA.mono cY g2⟩
   |fX t e l=>obtain⟨p,v,g1,g2,g3,g4⟩:=h0;exact⟨p,v,hx.get g1,g2,g3,c7 _ _ _ g4⟩
   |dead=>obtain⟨cs,t,g1⟩:=h0;exact⟨cs,t,hx.get g1⟩
   |vec sz bL xs=>
    have KS:∀ {k:Nat} {c:Array Value} {t:TypeId},w.heap[k]?=I (.cells c t (0,0))→w'.heap[k]?=w.heap[k]?:=fun hk=>by rw[hx.get hk,hk]
    obtain⟨_,_,_,_,_,_,cs,t,g1⟩:=id h0
    refine ew.imp hle (fun _ h=>h) (fun _ h _=>h) (KS g1) (fun q n cap k'=>⟨?_,c7 _ _ _ k'⟩) h0
    obtain⟨_,_,_,_,_,⟨cells,elem,h5,_⟩,_⟩:=k'
    exact KS h5
 ·exact fun s y hy=>let ⟨v,h1,h2,h3⟩:=e s y hy; ⟨v,h1,aI.mono cY h2,fun h=>c7 _ _ _ (h3 h)⟩
theorem az.F9 (m:az P C ω w0 C0 hp w){b x}(hh:hp[b]?=I .hole):az P C ω w0 C0 (hp.set b x) w:=by
 have hβ:=FH m hh
 refine { m with lt:=fun k r hk=>by rw[Lg];exact m.lt k r hk,box:=fun k y r hy hk=>?_ }
 by_cases kI:k=b
 ·subst kI;rw[hβ]at hk;cases hk
 ·rw[Gx (Jq kI)]at hy
  exact m.box k y r hy hk
theorem jde (m:az P C ω w0 C0 hp w)(e:aq C ω w w0.heap.size env tmps){v ow u h0 r res K'}(hx:Ext w w')(hle:∀r o x,C.K r o=I x→K' r o=I x)(hK:∀r o,r<w.heap.size→K' r o=C.K r o)(hk:∀r o x,K' r o=I x→w'.cell? ⟨r,o,If⟩=I x)(h1:∀r o x,K' r o=I x→x.oneCell'=Gy)
  (hr:bR (.bY K') v u) (ho:ow=Gy→∃ℓ ω',aO (.bY K') ω' w' w.heap.size ℓ v u) (ht:qH h0 hp r v ow=I res):zk P C0 w0 C tmps d env res u w':=by
 unfold qH at ht
 split at ht
 ·rename_i sz _
  split at ht
  ·rename_i h' hn
   have hv:=qz ht
   obtain⟨hh,rfl⟩:=y6 hn
   subst hv
   have cY:C.le { C with K:=K' }:=⟨hle,fun _ _ h=>h,rfl,fun _ h=>h,fun _ h=>h⟩
   refine⟨{ C with K:=K' },ω,cY,(m.bY hx hle hK hk h1).F9 hh,e.bY hx hle hK,aI.shift (C:=.bY K') (C':={ C with K:=K' }) 0 (fun _ _ _ h=>h) (fun b r bw=>by omega) hr (by rfl),fun h=>by simp at h⟩
  ·cases ht
 ·rename_i sz xs
  cases hb:(xs.flatMap AVal.flat).all nQ with
  |false=>rw[hb]at ht;cases ht
  |true=>
   rw[hb]at ht
   simp only[cond_true]at ht
   split at ht
   ·rename_i h' hn
    have hv:=qz ht
    obtain⟨hh,rfl⟩:=y6 hn
    subst hv
    obtain⟨ℓ,ω',ho⟩:=ho rfl
    cases hr with
    |jJ sz a mg=>
     simp only[aO]at ho
     exact absurd ho.2.2.2.1 mg
    |list sz _ q o cap hl dp=>
     simp only[aO]at ho
     obtain⟨o1,o2,o3,_,o5,⟨cells,elem,o6,o7,_⟩,o8⟩:=ho
     subst o5
     have hq:w.heap.size≤q:=o2.resolve_right (fun h=>h)
     let K2:Nat→Nat→Option Value:=fun r o=>if r=q then If else K' r o
     have Ga:∀ {r o x},K2 r o=I x→K' r o=I x:=by
      intro r o x h
      simp only[K2]at h
      split at h
      ·cases h
      ·exact h
     have jM:∀r o x,C.K r o=I x→K2 r o=I x:=by
      intro r o x h
      have bw:r<w.heap.size:=by
       have:=m.know r o x h
       unfold World.cell? at this
       split at this
       ·rename_i c _ _ hc;exact(G8.1 hc).1
       ·cases this
      have bI:r≠q:=by omega
      simp only[K2,if_neg bI]
      exact hle r o x h
     have RF:∀r o,r<w.heap.size→K2 r o=C.K r o:=by
      intro r o bw
      have bI:r≠q:=by omega
      simp only[K2,if_neg bI]
      exact hK r o bw
     have hcells:=bz.cells dp
     have hlen:(xs.flatMap AVal.flat).length≤cells.size:=by
      rcases Nat.eq_zero_or_pos (xs.flatMap AVal.flat).length with h0|h0
      ·omega
      ·obtain⟨y,hy⟩:∃y,(xs.flatMap AVal.flat)[(xs.flatMap AVal.flat).length-1]?=I y:=⟨_,Nz (by omega)⟩
       obtain⟨v,hv,_⟩:=cz.get hcells hy
       have h3:=hk _ _ _ hv
       unfold World.cell? at h3
       rw[o6]at h3
       simp only[Ra,He,if_false]at h3
       have:=(G8.1 h3).1
       omega
     obtain⟨m2,e2,l2⟩:=m.AU e (b:=h0+r) (q:=q) (K':=K2) (cells:=cells) (t:=elem) (cs:=cellsOf (xs.flatMap AVal.flat)) hx jM RF (fun r o x h=>hk r o x (Ga h)) (fun r o x h=>h1 r o x (Ga h)) hq (fun o=>by simp[K2]) hh o6 (by rw[show(cellsOf (xs.flatMap AVal.flat)).length=(xs.flatMap AVal.flat).length by simp[cellsOf]];exact hlen) (by
      intro j c hc
      simp only[cellsOf,Rg,G7]at hc
      obtain⟨y,hy,rfl⟩:=hc
      obtain⟨v,hv,pC⟩:=cz.get hcells hy
      have h3:=hk _ _ _ hv
      unfold World.cell? at h3
      rw[o6]at h3
      simp only[Ra,He,if_false,R9]at h3
      exact⟨v,h3,h1 _ _ _ hv,F8 (Jk.1 hb y (Qw hy)) pC,rfl⟩)
     exact⟨_,ω,l2,m2,e2,.ms _ 0 _ q cap (by simp[aM.box]) hl,fun h=>by simp at h⟩
   ·cases ht
 ·cases ht
theorem q8u (m:az P C ω w0 C0 hp w){x x' v}(hf:Qs hp x=I x')(h:bR C x v)(hb:Abs.below 0 x'=Gy):bR (.bY (zp C hp w)) x' v:=by
 unfold Qs at hf
 split at hf
 ·rename_i b len
  split at hf
  ·rename_i cs hcs
   cases hc:(Hc (len*(cs.length / len)) cs.length&&Ig 0 (cs.length / len)&&cs.all (fun c=>nQ c.1))with
   |false=>
    rw[hc,cond_false]at hf
    cases hl:Hc len 0 with
    |false=>rw[hl]at hf;cases hf
    |true=>
     rw[hl]at hf
     have hl:=Gt hl
     subst hl
     simp only[cond_true,I.injEq]at hf
     subst hf
     obtain⟨r,cap,iI,hle,rfl⟩:=h.fc
     exact aI.list (C:=.bY (zp C hp w)) 8 [] r 0 cap (Nat.zero_le _) (.fN _ _ _)
   |true=>
    rw[hc]at hf
    simp only[cond_true,I.injEq]at hf
    subst hf
    simp only[En]at hc
    obtain⟨⟨c1,c2⟩,c3⟩:=hc
    have c1:=Gt c1
    have c2:0<cs.length / len:=by simpa using c2
    obtain⟨r,cap,iI,hle,rfl⟩:=h.fc
    obtain⟨vs,elem,k1,k2,k3⟩:=m.box b _ r (wo hcs) iI
    have dp:bz (.bY (zp C hp w)) r (cs.length / len) (mf (cs.length / len) len (cs.map (·.1))) 0:=by
     refine Rw c2 (by rw[St];exact c1.symm) (fun x hx=>?_) fun j x hx=>?_
     ·obtain⟨c,hc,rfl⟩:=Yv.1 hx
      have:=Jk.1 c3 c hc
      cases hq:c.1<;>rw[hq]at this<;>first|rfl|cases this
     ·rw[Rg,G7]at hx
      obtain⟨c,hc,rfl⟩:=hx
      obtain⟨u,q1,q2,q3,_⟩:=k3 j c hc
      have ep:w.cell? ⟨r,0+j,If⟩=I u:=by
       unfold World.cell?
       rw[k1]
       simp only[Ra,He,if_false,R9]
       exact q1
      exact⟨u,Rt iI ep q2,F8 (Jk.1 c3 c (Qw hc)) q3⟩
    have:=aI.list (C:=.bY (zp C hp w)) (cs.length / len) (mf (cs.length / len) len (cs.map (·.1))) r 0 cap (by rw[FZ];exact hle) dp
    rw[FZ]at this
    exact this
  ·cases hf
 ·cases hf
  exact Ru m h hb
theorem qsh (m:az P C ω w0 C0 hp w):∀ {xs fT:List AVal} {vs:List Value},xS hp xs=I fT→aW C xs vs→qy 0 fT=Gy→aW (.bY (zp C hp w)) fT vs
 | [],fT,vs,hf,h,_=>by
  simp only[xS,I.injEq]at hf
  subst hf
  cases h
  exact .nil
 |x::xs,fT,vs,hf,h,hb=>by
  simp only[xS]at hf
  split at hf
  ·rename_i y ys h1 h2
   cases hf
   cases h with
   |cons _ _ v vs hx h=>
    simp only[qy,En]at hb
    exact .cons _ _ _ _ (q8u m h1 hx hb.1) (qsh m h2 h hb.2)
  ·cases hf
theorem quz {C C' x v}(hp:xT x=Gy)(h:bR C x v):bR C' x v:=by
 cases x with
 |agg cs=>
  obtain⟨vs,rfl,hl⟩:=h.eO
  refine .agg _ _ ?_
  simp only[xT]at hp
  clear h
  induction cs generalizing vs with
  |nil=>cases hl;exact .nil
  |cons c cs ih=>
   cases hl with
   |cons _ _ v vs hx hl=>
    simp only[Yk,En]at hp
    exact .cons _ _ _ _ (F8 hp.1 hx) (ih hp.2 vs hl)
 |_=>exact F8 hp h
theorem jkv {C C' x v}(h:bR C x v):bR C' (Dr x) v:=by
 unfold Dr
 cases hp:xT x with
 |true=>exact quz hp h
 |false=>exact .any _
theorem qzw {C C'}:∀ {xs:List AVal} {vs:List Value},aW C xs vs→aW C' (xs.map Dr) vs
 | [],_,h=>by cases h;exact .nil
 |x::xs,_,h=>by
  cases h with
  |cons _ _ v vs hx h=>exact .cons _ _ _ _ (jkv hx) (qzw h)
open Classical in
theorem jfz (m:az P C ω w0 C0 hp w)(e:aq C ω w w0.heap.size env tmps){v v' ow Gb u K'}(hx:Ext w w')(hle:∀r o x,zp C hp w r o=I x→K' r o=I x)(hK:∀r o,r<w.heap.size→K' r o=zp C hp w r o)(hk:∀r o x,K' r o=I x→w'.cell? ⟨r,o,If⟩=I x)(h1:∀r o x,K' r o=I x→x.oneCell'=Gy)
  (hr:bR (.bY K') v u) (ho:ow=Gy→∃ℓ ω',aO (.bY K') ω' w' w.heap.size ℓ v u) (ht:Km v ow=I (v',Gb)):zk P C0 w0 C tmps d env ⟨v',Gb,If,hp⟩ u w':=by
 let K2:Nat→Nat→Option Value:=fun r o=>if Hid C hp r then If else K' r o
 have Ga:∀ {r o x},K2 r o=I x→K' r o=I x:=by
  intro r o x h
  simp only[K2]at h
  split at h
  ·cases h
  ·exact h
 have jM:∀r o x,C.K r o=I x→K2 r o=I x:=by
  intro r o x h
  have hn:¬Hid C hp r:=by
   intro hh
   rw[Rs m hh o]at h;cases h
  simp only[K2,if_neg hn]
  exact hle r o x (FY m h)
 have RF:∀r o,r<w.heap.size→K2 r o=C.K r o:=by
  intro r o bw
  by_cases hb:Hid C hp r
  ·simp only[K2,if_pos hb]
   exact(Rs m hb o).symm
  ·simp only[K2,if_neg hb]
   rw[hK r o bw]
   unfold zp
   rw[if_neg hb]
 have fin:∀(lq:mc v'=Gy) (iH:bR (.bY K2) v' u) (yE:Gb=Gy→∃ℓ ω',aO (.bY K2) ω' w' w.heap.size ℓ v' u),zk P C0 w0 C tmps d env ⟨v',Gb,If,hp⟩ u w':=fun lq iH yE=>
  q28 m e hx jM RF (fun r o x h=>hk r o x (Ga h)) (fun r o x h=>h1 r o x (Ga h)) lq iH yE
 have hO:∀y,nQ y=Gy→Abs.below 0 y=Gy:=fun y hy=>by cases y<;>first|rfl|cases hy
 have ri:∀ys:List AVal,ys.all nQ=Gy→qy 0 ys=Gy:=by
  intro ys
  induction ys with
  |nil=>intro _;rfl
  |cons y ys ih=>
   intro h
   simp only[Yk,En]at h
   simp only[qy,En]
   exact⟨hO y h.1,ih h.2⟩
 have n9:∀y,xT y=Gy→Abs.below 0 y=Gy:=fun y hy=>by
  cases y with
  |agg cs=>simp only[Abs.below];exact ri cs hy
  |_=>exact hO _ hy
 unfold Km at ht
 split at ht
 ·rename_i sz xs
  cases hb:(xs.flatMap AVal.flat).all nQ with
  |false=>rw[hb]at ht;cases ht
  |true=>
   rw[hb]at ht
   simp only[cond_true,I.injEq,Sc.injEq]at ht
   obtain⟨rfl,rfl⟩:=ht
   obtain⟨ℓ,ω',ho⟩:=ho rfl
   cases hr with
   |jJ sz a mg=>
    simp only[aO]at ho
    exact absurd ho.2.2.2.1 mg
   |list sz _ q o cap hl dp=>
    simp only[aO]at ho
    obtain⟨o1,o2,o3,o4,o5,o6,o8⟩:=ho
    have hq:w.heap.size≤q:=o2.resolve_right (fun h=>h)
    have DJ:¬Hid C hp q:=by
     intro hh
     have:=jxl m hh
     omega
    have hKq:∀o,K2 q o=K' q o:=fun o=>by simp only[K2,if_neg DJ]
    have hcells:=bz.cells dp
    have qP:bz (.bY K2) q sz xs o:=by
     refine bz.eZ (Rv fun j x hx=>?_) (bz.sized dp)
     obtain⟨u,hu,hxu⟩:=cz.get hcells hx
     exact⟨u,by rw[show(aM.bY K2).K=K2 from rfl,hKq];exact hu,F8 (Jk.1 hb x (Qw hx)) hxu⟩
    refine fin ?_ (.list sz _ q o cap hl qP) fun _=>⟨ℓ,ω',?_⟩
    ·show mc _=Gy
     unfold mc
     have jK:∀ys:List AVal,(ys.flatMap AVal.flat).all nQ=Gy→qy 0 ys=Gy:=by
      intro ys
      induction ys with
      |nil=>intro _;rfl
      |cons y ys ih=>
       intro h
       rw[X2,List.all_append,En]at h
       simp only[qy,En]
       exact⟨by rw[←Kt];exact ri _ h.1,ih h.2⟩
     simp only[Abs.below]
     exact jK xs hb
    ·simp only[aO]
     exact⟨o1,o2,o3,o4,o5,o6,fun o' yE=>by rw[show(aM.bY K2).K=K2 from rfl,hKq];exact o8 o' yE⟩
 ·simp only[I.injEq,Sc.injEq]at ht
  obtain⟨rfl,rfl⟩:=ht
  refine fin rfl ?_ (fun h=>by cases h)
  cases hr
  exact .jI _
 ·rename_i vs _
  simp only[I.injEq,Sc.injEq]at ht
  obtain⟨rfl,rfl⟩:=ht
  obtain⟨us,rfl,hl⟩:=hr.nZ
  refine fin ?_ (.aJ _ _ (qzw hl)) (fun h=>by cases h)
  show Abs.below 0 _=Gy
  simp only[Abs.below]
  have:∀ys:List AVal,qy 0 (ys.map Dr)=Gy:=by
   intro ys
   induction ys with
   |nil=>rfl
   |cons y ys ih=>
    simp only[Ym,qy,En]
    refine⟨?_,ih⟩
    unfold Dr
    cases hp:xT y with
    |true=>exact n9 y hp
    |false=>rfl
  exact this _
 ·cases hb:xT v with
  |false=>rw[hb]at ht;cases ht
  |true=>
   rw[hb]at ht
   simp only[cond_true,I.injEq,Sc.injEq]at ht
   obtain⟨rfl,rfl⟩:=ht
   exact fin (n9 v hb) (quz hb hr) (fun h=>by cases h)
def aM.shared (C:aM)(ω:Nat→Option Loc)(w0:World):aM:={ C with W:=fun r=>(∃b j,ω r=I (.cell b j))∧(w0.heap.size≤r∨C.W r) }
def rj (ω:Nat→Option Loc):Nat→Option Loc:=fun r=>match ω r with
 |some (.cell b j)=>I (.cell b j)
 |_=>If
theorem aO.shared {b j x v}(ho:aO C ω w w0.heap.size (.cell b j) x v):aO (C.shared ω w0) (rj ω) w w.heap.size (.cell b j) x v:=by
 unfold aO at *
 split at ho
 ·obtain⟨g1,g2,g3⟩:=ho
  exact⟨by simp[rj,g1],.inr ⟨⟨b,j,g1⟩,g2⟩,g3⟩
 ·obtain⟨g1,g2,g3⟩:=ho
  exact⟨by simp[rj,g1],.inr ⟨⟨b,j,g1⟩,g2⟩,g3⟩
 ·trivial
theorem RG (m:az P C ω w0 C0 hp w):az P (C.shared ω w0) (rj ω) w (C.shared ω w0) hp w where
 base:=⟨m.tabs,fun g hg=>by
  obtain⟨h1,h2⟩:=m.base.2 g hg
  have bw:=(m.base.1 g hg).1
  refine⟨fun b hb=>?_,fun h=>?_⟩
  ·rcases m.fresh b g hb with h|h|h
   ·exact h1 b h
   ·omega
   ·exact h2 h
  ·rcases h.2 with h|h
   ·omega
   ·rw[m.grown.w]at h;exact h2 h⟩
 know:=m.know
 dw:=m.dw
 apart:=m.apart
 inj:=m.inj
 lt:=m.lt
 size:=Nat.le_refl _
 frame _ _ _ _:=rfl
 ft:=m.ft
 os:=rfl
 output:=rfl
 fresh _ _ h:=.inl h
 grown:=aM.le_refl _
 old _ _ _ _:=rfl
 box b x r hx hb:=bG.imp (C:=C) (C':=C.shared ω w0) ⟨fun _ _ _ h=>h,fun _ _ h=>h⟩ rfl (fun _ _ _ ho=>ho.shared) (m.box b x r hx hb)
 iF:=m.iF
def nj (ω ω1:Nat→Option Loc)(n:Nat):Nat→Option Loc:=fun r=>match decide (r<n),ω r with
 |true,I (.slot s)=>I (.slot s)
 |_,_=>rj ω1 r
def aM.back (C1 C:aM):aM:={ C1 with W:=C.W }
theorem KT (hle:(C.shared ω w0).le C1):C.le (C1.back C):=⟨hle.k,hle.b,rfl,hle.d,hle.t⟩
theorem aO.rm {s x v}(m1:az P C1 ω1 w (C.shared ω w0) h1 w')(ho:aO C ω w w0.heap.size (.slot s) x v):aO (C1.back C) (nj ω ω1 w.heap.size) w' w0.heap.size (.slot s) x v:=by
 unfold aO at *
 split at ho
 ·rename_i ad len cap
  obtain⟨g1,g2,g3,g4,g8,⟨cells,elem,g5,g6⟩,g7⟩:=ho
  have bw:=(G8.1 g5).1
  have AV:¬(C.shared ω w0).W ad.block:=fun h=>by
   obtain⟨⟨b,j,h⟩,_⟩:=h
   rw[g1]at h;cases h
  refine⟨by simp[nj,bw,g1],g2,fun b hb=>?_,g4,g8,⟨cells,elem,?_,g6⟩,fun o ho=>?_⟩
  ·rcases m1.fresh b _ hb with h|h|h
   ·exact g3 b h
   ·omega
   ·exact AV h
  ·rw[m1.frame _ bw g3 AV];exact g5
  ·have:=m1.old _ o bw AV
   show C1.K _ o=If
   rw[this];exact g7 o ho
 ·rename_i ad
  obtain⟨g1,g2,g3,g4,g8,⟨cells,elem,g5,g6⟩,g7⟩:=ho
  have bw:=(G8.1 g5).1
  have AV:¬(C.shared ω w0).W ad.block:=fun h=>by
   obtain⟨⟨b,j,h⟩,_⟩:=h
   rw[g1]at h;cases h
  refine⟨by simp[nj,bw,g1],g2,fun b hb=>?_,g4,g8,⟨cells,elem,?_,g6⟩,fun o ho=>?_⟩
  ·rcases m1.fresh b _ hb with h|h|h
   ·exact g3 b h
   ·omega
   ·exact AV h
  ·rw[m1.frame _ bw g3 AV];exact g5
  ·have:=m1.old _ o bw AV
   show C1.K _ o=If
   rw[this];exact g7 o ho
 ·trivial
theorem aO.rn {b j x v}(m:az P C ω w0 C0 hp w)(hW:C1.W=(C.shared ω w0).W)(ho:aO C1 ω1 w' w.heap.size (.cell b j) x v):aO (C1.back C) (nj ω ω1 w.heap.size) w' w0.heap.size (.cell b j) x v:=by
 unfold aO at *
 split at ho
 ·rename_i ad len cap
  obtain⟨g1,g2,g3⟩:=ho
  rw[hW]at g2
  refine⟨?_,?_,g3⟩
  ·unfold nj
   split
   ·rename_i s bw hs
    have bw:=of_decide_eq_true bw
    rcases g2 with g2|⟨⟨b',j',g2⟩,_⟩
    ·omega
    ·rw[hs]at g2;cases g2
   ·simp[rj,g1]
  ·rcases g2 with g2|⟨_,g2⟩
   ·exact .inl (Me m.size g2)
   ·exact g2
 ·rename_i ad
  obtain⟨g1,g2,g3⟩:=ho
  rw[hW]at g2
  refine⟨?_,?_,g3⟩
  ·unfold nj
   split
   ·rename_i s bw hs
    have bw:=of_decide_eq_true bw
    rcases g2 with g2|⟨⟨b',j',g2⟩,_⟩
    ·omega
    ·rw[hs]at g2;cases g2
   ·simp[rj,g1]
  ·rcases g2 with g2|⟨_,g2⟩
   ·exact .inl (Me m.size g2)
   ·exact g2
 ·trivial
theorem qsm (m:az P C ω w0 C0 hp w)(e:aq C ω w w0.heap.size env tmps)(m1:az P C1 ω1 w (C.shared ω w0) h1 w')(hle:(C.shared ω w0).le C1):
  az P (C1.back C) (nj ω ω1 w.heap.size) w0 C0 h1 w'∧aq (C1.back C) (nj ω ω1 w.heap.size) w' w0.heap.size env tmps:=by
 have hsh:∀r,r<w0.heap.size→¬C0.W r→¬(C.shared ω w0).W r:=fun r hr hw h=>by
  rcases h.2 with h|h
  ·omega
  ·rw[m.grown.w]at h;exact hw h
 constructor
 ·refine { base:=m.base,know:=m1.know,dw:=m1.dw,apart:=m1.apart,inj:=m1.inj,lt:=m1.lt,size:=Me m.size m1.size,frame:=?_,ft:=m1.ft,os:=m1.os.trans m.os,output:=m1.output.trans m.output,fresh:=?_,grown:=aM.le_trans m.grown (KT hle),old:=?_,box:=?_,iF:=m1.iF }
  ·intro r hr hn hw
   have jE:∀b,C.β b≠I r:=fun b hb=>by
    rcases m.fresh b r hb with h|h|h
    ·exact hn b h
    ·omega
    ·exact hw h
   rw[m1.frame r (Rb hr m.size) jE (hsh r hr hw)]
   exact m.frame r hr hn hw
  ·intro b r hb
   rcases m1.fresh b r hb with h|h|h
   ·exact m.fresh b r h
   ·exact .inr (.inl (Me m.size h))
   ·exact .inr (h.2.imp id (fun h=>by rw[←m.grown.w];exact h))
  ·intro r o hr hw
   show C1.K r o=_
   rw[m1.old r o (Rb hr m.size) (hsh r hr hw)]
   exact m.old r o hr hw
  ·intro b x r hx hb
   exact bG.imp (C:=C1) (C':=C1.back C) ⟨fun _ _ _ h=>h,fun _ _ h=>h⟩ rfl (fun _ _ _ ho=>ho.rn m hle.w) (m1.box b x r hx hb)
 ·exact fun s x hs=>let ⟨v,k1,k2,k3⟩:=e s x hs; ⟨v,k1,aI.mono (KT hle) k2,fun h=>(k3 h).rm m1⟩
theorem bR.back {x v}(h:bR C1 x v):bR (C1.back C) x v:=aI.imp (C:=C1) (C':=C1.back C) ⟨fun _ _ _ h=>h,fun _ _ h=>h⟩ h
theorem qsb (m:az P C ω w0 C0 hp w)(e:aq C ω w w0.heap.size env tmps)(m1:az P C1 ω1 w (C.shared ω w0) h1 w')(hle:(C.shared ω w0).le C1){v ow u}(hr:bR C1 v u)(ho:ow=Gy→aO C1 ω1 w' w.heap.size (.slot 0) v u):
  zk P C0 w0 C tmps d env ⟨v,ow,If,jn hp.length v h1⟩ u w':=by
 have hC:∀b r,C.β b=I r→b<hp.length:=fun b r h=>(m.lt b r h).2
 have cY:=KT hle
 have iH:bR (C1.back C) v u:=hr.back
 -- the result's ownership first
 have step:∃ω',az P (C1.back C) ω' w0 C0 h1 w'∧aq (C1.back C) ω' w' w0.heap.size env tmps∧(ow=Gy→aO (C1.back C) ω' w' w0.heap.size d v u):=by
  obtain⟨m2,e2⟩:=qsm m e m1 hle
  cases ow with
  |false=>exact⟨_,m2,e2,by simp⟩
  |true=>
   by_cases hk:∃(n:Bool) (sz:Nat) (xs:List AVal) (ad:Addr) (len cap:Nat),v=.list n sz xs∧u=.slice (I ad) len cap
   ·obtain⟨n,sz,xs,ad,len,cap,rfl,rfl⟩:=hk
    obtain⟨g1,g2,g3,g4⟩:=ho rfl
    rw[hle.w]at g2
    have iR:nj ω ω1 w.heap.size ad.block=If:=by
     unfold nj
     split
     ·rename_i s bw hs
      have bw:=of_decide_eq_true bw
      rcases g2 with g2|⟨⟨b',j',g2⟩,_⟩
      ·omega
      ·rw[hs]at g2;cases g2
     ·simp[rj,g1]
    refine⟨cQ (nj ω ω1 w.heap.size) ad.block d,m2.cQ _ _ (by simp[iR]),?_,fun _=>?_⟩
    ·exact fun s x hs=>let ⟨v,k1,k2,k3⟩:=e2 s x hs; ⟨v,k1,k2,fun h=>(k3 h).other (.inl (by simp[iR]))⟩
    ·refine⟨by simp[cQ],?_,g3,g4⟩
     rcases g2 with g2|⟨_,g2⟩
     ·exact .inl (Me m.size g2)
     ·exact g2
   by_cases dA:∃(n:Nat) (ad:Addr),v=.db n∧u=.pointer (I ad)
   ·obtain⟨n,ad,rfl,rfl⟩:=dA
    obtain⟨g1,g2,g3,g4⟩:=ho rfl
    rw[hle.w]at g2
    have iR:nj ω ω1 w.heap.size ad.block=If:=by
     unfold nj
     split
     ·rename_i s bw hs
      have bw:=of_decide_eq_true bw
      rcases g2 with g2|⟨⟨b',j',g2⟩,_⟩
      ·omega
      ·rw[hs]at g2;cases g2
     ·simp[rj,g1]
    refine⟨cQ (nj ω ω1 w.heap.size) ad.block d,m2.cQ _ _ (by simp[iR]),?_,fun _=>?_⟩
    ·exact fun s x hs=>let ⟨v,k1,k2,k3⟩:=e2 s x hs; ⟨v,k1,k2,fun h=>(k3 h).other (.inl (by simp[iR]))⟩
    ·refine⟨by simp[cQ],?_,g3,g4⟩
     rcases g2 with g2|⟨_,g2⟩
     ·exact .inl (Me m.size g2)
     ·exact g2
   ·refine⟨_,m2,e2,fun h=>?_⟩
    unfold aO
    split
    ·exact absurd ⟨_,_,_,_,_,_,rfl,rfl⟩ hk
    ·exact absurd ⟨_,_,rfl,rfl⟩ dA
    ·trivial
 obtain⟨ω',m2,e2,o2⟩:=step
 unfold jn
 cases hb:Jp h1.length hp.length with
 |true=>simp only[cond_true];exact⟨_,ω',cY,m2,e2,iH,o2⟩
 |false=>
  simp only[cond_false]
  cases lI:(below hp.length v&&zn hp.length (h1.take hp.length))with
  |false=>simp only[cond_false];exact⟨_,ω',cY,m2,e2,iH,o2⟩
  |true=>
   simp only[cond_true]
   simp only[En]at lI
   have bw:hp.length≤h1.length:=by
    rcases Nat.lt_or_ge hp.length h1.length with h|h
    ·omega
    ·rw[Nat.ble_eq_true_of_le h]at hb;cases hb
   have h0:∀b r,C0.β b=I r→b<hp.length:=fun b r h=>hC b r (m.grown.2 b r h)
   have m3:=m2.gc bw lI.2 h0
   refine⟨(C1.back C).cut hp.length,ω',aM.iQ cY hC,m3,?_,bR.cut iH lI.1,fun h=>(o2 h).cut _⟩
   intro s x hs
   obtain⟨y,k1,k2,k3⟩:=e s x hs
   obtain⟨y',j1,j2,j3⟩:=e2 s x hs
   rw[k1]at j1
   cases j1
   exact⟨y,k1,aI.mono (aM.iQ cY hC) k2,fun h=>(j3 h).cut _⟩
theorem br.fE {e}(h:br C e tmps):aq C ω w B (fE e) tmps:=by
 intro s x hx
 have key:∀ {e:Env} {x:AVal×Bool},ji s (Abs.fE e)=I x→∃o,ji s e=I (x.1,o)∧x.2=Hd:=by
  intro e
  induction e with
  |nil=>intro x h;simp[Abs.fE,ji]at h
  |cons y e ih=>
   intro x h
   obtain⟨t,v,o⟩:=y
   simp only[Abs.fE,Ym,ji]at h ⊢
   cases hb:Hc t s with
   |true=>simp only[hb,cond_true,I.injEq]at h ⊢;subst h;exact⟨o,rfl,rfl⟩
   |false=>simp only[hb,cond_false]at h ⊢;exact ih h
 obtain⟨o,h1,h2⟩:=key hx
 obtain⟨v,h3,h4⟩:=h s _ h1
 exact⟨v,h3,h4,by simp[h2]⟩
theorem qsk:∀ {ts:List Nat} {vs:List AVal} {us:List Value} {e e':Env} {tmps:Array Value},wc e ts vs=I e'→aW C vs us→(∀t∈ts,t<tmps.size)→aq C ω w B e tmps →
  ts.length=us.length∧((ts.zip us).foldl (fun(tmps:Array Value) (x:Nat×Value)=>tmps.setIfInBounds x.1 x.2) tmps).size=tmps.size∧aq C ω w B e' ((ts.zip us).foldl (fun(tmps:Array Value) (x:Nat×Value)=>tmps.setIfInBounds x.1 x.2) tmps)
 | [],[],us,e,e',tmps,h,hr,_,he=>by
  simp only[wc,I.injEq]at h
  subst h
  cases hr
  exact⟨rfl,rfl,he⟩
 |t::ts,v::vs,us,e,e',tmps,h,hr,hf,he=>by
  simp only[wc]at h
  cases hr with
  |cons _ _ u us hu hr=>
   have KU:aq C ω w B ((t,v,Hd)::e) (tmps.setIfInBounds t u):=by
    intro s x hx
    simp only[ji]at hx
    cases hb:Hc t s with
    |true=>
     have:=Gt hb
     subst this
     simp only[hb,cond_true,I.injEq]at hx
     subst hx
     exact⟨u,by simp[hf t (by simp)],hu,by simp⟩
    |false=>
     simp only[hb,cond_false]at hx
     obtain⟨y,h1,h2,h3⟩:=he s x hx
     refine⟨y,?_,h2,h3⟩
     rw[Ri (fun hh=>by subst hh;simp at hb)]
     exact h1
   have ih:=qsk h hr (tmps:=tmps.setIfInBounds t u) (fun t' Fy=>by simpa using hf t' (by simp[Fy])) KU
   refine⟨by simp[ih.1],?_,?_⟩
   ·simp only[T6,Yh];rw[ih.2.1];simp
   ·simp only[T6,Yh];exact ih.2.2
 | [],_::_,_,_,_,_,h,_,_,_=>by simp[wc]at h
 |_::_,[],_,_,_,_,h,_,_,_=>by simp[wc]at h
theorem KW {b r l}(m:az P C ω w0 C0 hp w)(hb:zg hp b=I (.loop l))(hr:C.β b=I r):∃lp,w.heap[r]?=I (.loop lp)∧cA P C l lp:=
 m.box b _ r hb hr
theorem Gc {b r l' lp AW}(m:az P C ω w0 C0 hp w)(hr:C.β b=I r)(hg:w.heap[r]?=I (.loop lp))(hl:cA P C l' AW):
  (setObj r (.loop AW)).run P w=.ok () (ke w r (.loop AW))∧ng w (ke w r (.loop AW)) r∧az P C ω w0 C0 (hp.set b (.loop l')) (ke w r (.loop AW)):=by
 have bw:=(G8.1 hg).1
 have hu:ng w (ke w r (.loop AW)) r:=DF bw (by simp)
 exact⟨yC hg (by simp),hu,m.ec hu hr _ (fun _ _ _ _ _ h=>h) ⟨AW,FO bw,hl⟩⟩
theorem jgg (hx:cJ P xc)(m:az P C ω w0 C0 hp w)(e:aq C ω w w0.heap.size env tmps){b r}(hr:C.β b=I r){args us}(ha:aW C args us){v h'}(hy:kD xc b args hp=I (v,h')):
  ∃f oc assign body,(Instr.yield r ⟨us⟩).run P w=.ok (.round r f oc assign body) w∧RoundIn Fence.wide 0 P r f oc assign body w fun ee w'=>∃u,ee=.returned u∧zk P C0 w0 C tmps d env ⟨v,Hd,If,h'⟩ u w':=by
 unfold kD at hy
 split at hy
 ·rename_i l hl
  split at hy
  ·rename_i e0 hpend bF
   obtain⟨lp,hg,lr⟩:=KW m hl hr
   have ms:=RG m
   have gZ:aW (C.shared ω w0) args us:=aI.imp (C:=C) (C':=C.shared ω w0) ⟨fun _ _ _ h=>h,fun _ _ h=>h⟩ ha
   have hel:aq (C.shared ω w0) (rj ω) w w.heap.size (fE l.env) lp.tmps:=br.fE (fun s x hs=>let ⟨v,h1,h2⟩:=lr.env s x hs; ⟨v,h1,aI.imp (C:=C) (C':=C.shared ω w0) ⟨fun _ _ _ h=>h,fun _ _ h=>h⟩ h2⟩)
   obtain⟨hlen,da,he0⟩:=qsk bF gZ lr.fits hel
   have qK:(lp.params.zip (⟨us⟩:Array Value)).foldl (fun(tmps:Array Value) (x:Nat×Value)=>tmps.setIfInBounds x.1 x.2) lp.tmps=(l.params.zip us).foldl (fun(tmps:Array Value) (x:Nat×Value)=>tmps.setIfInBounds x.1 x.2) lp.tmps:=by
    rw[←Array.foldl_toList,Array.toList_zip,lr.params]
   have RH:lp.params.size=us.length:=by rw[←Array.length_toList,lr.params];exact hlen
   refine⟨lp.fn,(l.params.zip us).foldl (fun(tmps:Array Value) (x:Nat×Value)=>tmps.setIfInBounds x.1 x.2) lp.tmps,lp.assign,lp.body,?_,?_⟩
   ·have AX:(Instr.getLoop r).run P w=.ok lp w:=by simp[Instr.getLoop,pB hg (by simp)]
    have bI:¬((⟨us⟩:Array Value).size≠lp.params.size):=by simp[RH]
    simp only[Instr.yield,Sem.run_bind,AX,Result.andThen_ok,bI,if_false,Sem.run_pure,Sem.run_ite]
    rw[show((lp.params.zip (⟨us⟩:Array Value)).foldl (fun tmps (x:Nat×Value)=>match x with|(t,a)=>tmps.setIfInBounds t a) lp.tmps)=_ from qK]
   ·refine roundIn_of_wpIn trivial ?_
    split at hy
    ·rename_i st cq
     split at hy
     ·rename_i l1 hH
      cases jX:l1.pending.isNone with
      |false=>simp[jX]at hy
      |true=>
       simp only[jX,cond_true]at hy
       have Gd:l1.pending=If:=by simpa using jX
       split at hy
       ·rename_i x bX iy
        split at hy
        ·rename_i l2 oH
         cases hy
         refine wpIn_mono (hx (I r) lp.tmps.size lp.assign l.assign _ _ _ lr.assign (fun _=>lr.nr.1) cq (C.shared ω w0) (rj ω) w (C.shared ω w0) { tmps:=_,defers:=[] } w ms he0 da Marks.nil) ?_
         rintro ee a1 w1 ⟨rfl,q1,C1,ω1,q2,q3,q4,q5⟩
         have wv:=q2.b b r hr
         obtain⟨KX,hg1,RI⟩:=KW q4 hH wv
         have yF:KX.state=.ready:=by rw[RI.state,Gd]
         have RJ:cA P C1 { l1 with pending:=I .normal } { KX with state:=.busy }:={ RI with state:=rfl,pending:=by rw[RI.pending,Gd] }
         obtain⟨Ge,FK,m1⟩:=Gc q4 wv hg1 RJ
         have iI:(Instr.beginRound r).run P w1=.ok () (ke w1 r (.loop { KX with state:=.busy })):=by
          have AX:(Instr.getLoop r).run P w1=.ok KX w1:=by simp[Instr.getLoop,pB hg1 (by simp)]
          simp only[Instr.beginRound,Sem.run_bind,AX,Result.andThen_ok,Ge,yF,Sem.run_pure]
         refine⟨_,iI,?_⟩
         refine wpIn_mono (hx (I r) lp.tmps.size lp.body l.body _ _ _ lr.body (fun _=>lr.nr.2) iy C1 ω1 w (C.shared ω w0) a1 _ m1 (q5.dP FK wv) q1 q3) ?_
         rintro ee a2 w2 ⟨rfl,p1,C2,ω2,p2,p3,p4,p5⟩
         have rz:=p2.b b r wv
         obtain⟨lK,rA,vk⟩:=KW p4 oH rz
         have AY:(Instr.getLoop r).run P w2=.ok lK w2:=by simp[Instr.getLoop,pB rA (by simp)]
         have fin:∀(RL:LoopState) (pd:Option Code) (ap:Option jf) (bb:Bool),cA P C2 { l2 with pending:=ap } { lK with state:=RL,pending:=pd } →
           zk P C0 w0 C tmps d env ⟨.bool bb,Hd,If,jn hp.length (.bool Gy) (bX.heap.set b (.loop { l2 with pending:=ap }))⟩ (.bool bb) (ke w2 r (.loop { lK with state:=RL,pending:=pd })):=by
          intro RL pd ap bb vm
          obtain⟨jZ,hu2,m2⟩:=Gc p4 rz rA vm
          have:=qsb (d:=d) (v:=.bool bb) (ow:=false) (u:=.bool bb) m e m2 (aM.le_trans q2 p2) (.bool bb) (by simp)
          exact this
         cases x with
         |normal=>
          have vm:cA P C2 { l2 with pending:=If } { lK with state:=.ready,pending:=If }:={ vk with state:=rfl,pending:=rfl }
          obtain⟨jZ,_,_⟩:=Gc p4 rz rA vm
          exact⟨.bool Gy,_,by simp only[Instr.endRound,Sem.run_bind,AY,Result.andThen_ok,Option.isNone_none,if_true,jZ,Sem.run_pure],_,rfl,fin _ _ _ Gy vm⟩
         |ret=>
          have vm:cA P C2 { l2 with pending:=I .ret } { lK with state:=.done,pending:=I .ret }:={ vk with state:=rfl,pending:=rfl }
          obtain⟨jZ,_,_⟩:=Gc p4 rz rA vm
          exact⟨.bool Hd,_,by simp only[Instr.endRound,Sem.run_bind,AY,Result.andThen_ok,Ue,He,if_false,jZ,Sem.run_pure],_,rfl,fin _ _ _ Hd vm⟩
         |exit id=>
          have vm:cA P C2 { l2 with pending:=I (.exit id) } { lK with state:=.done,pending:=I (.exit id) }:={ vk with state:=rfl,pending:=rfl }
          obtain⟨jZ,_,_⟩:=Gc p4 rz rA vm
          exact⟨.bool Hd,_,by simp only[Instr.endRound,Sem.run_bind,AY,Result.andThen_ok,Ue,He,if_false,jZ,Sem.run_pure],_,rfl,fin _ _ _ Hd vm⟩
        ·cases hy
       ·cases hy
     ·cases hy
    ·cases hy
  ·cases hy
 ·cases hy
theorem jhs {h md r h0 dst al cO res}(eK:bZ P p)(hx:cJ P xc)(m:az P C ω w0 C0 hp w)(e:aq C ω w w0.heap.size env a.tmps){c}(ho:o.op=.call c){f}(oI:c.callee=.value f)
  (hc:Aj P h md r dst c=I cO) (hs:qf p xc h0 al env hp cO=I res):yh P C C0 w0 a d env o w res:=by
 unfold Aj at hc
 rw[oI]at hc
 simp only[]at hc
 split at hc
 ·rename_i f' args' h1 h2
  cases hc
  generalize md.at r=md at hs
  simp only[qf,yx]at hs
  split at hs
  ·rename_i k first captured vs e1 e2
   have yG:=qx e.cr h1 e1
   have RM:=DA e.cr h2 e2
   generalize fI:a.eval f=fv at yG
   cases yG with
   |fn g g' _ _ as bs hf ha hb=>
    simp only[fG]at hf
    subst hf
    have hall:aW C (first++vs++captured) (as++c.args.toList.map a.eval++bs):=aW.append (aW.append ha RM) hb
    have iT:Enters P k→(execOp a.eval o).run P w=.ok (.enter k ⟨as++c.args.toList.map a.eval++bs⟩) w:=by
     intro lJ
     have eI:(⟨as⟩:Array Value)++Array.map a.eval c.args++(⟨bs⟩:Array Value)=⟨as++c.args.toList.map a.eval++bs⟩:=by
      apply T4;simp
     simp[execOp,ho,resolve,oI,fI,Deferred.ofValue,invoke,eI,qpi lJ]
    cases md with
    |fL rk=>
     simp only[]at hs
     cases uY:(first++vs++captured).isEmpty with
     |false=>
      rw[uY]at hs
      simp only[cond_false]at hs
      cases ll:qy 0 (first++vs++captured)with
      |false=>rw[ll]at hs;cases hs
      |true=>
       rw[ll]at hs
       simp only[cond_true]at hs
       split at hs
       ·rename_i v ow wy
        obtain⟨lJ,lq,rC⟩:=KQ eK hx wy ll
        have lM:aW (.bY C.K) (first++vs++captured) (as++c.args.toList.map a.eval++bs):=
         aI.shift (C:=C) (C':=.bY C.K) 0 (fun _ _ _ h=>h) (fun b r bw=>by omega) hall ll
        refine .inr (.inr (.inl ⟨k,_,iT lJ,CallsIn.mono (rC C.K w _ m.tabs m.know m.dw lM) ?_⟩))
        rintro ee w' ⟨u,K',rfl,q1,q2,q3,q4,q5,q6,q7⟩
        exact⟨u,rfl,jde m e q1 q2 q3 q4 q5 q6 q7 hs⟩
       ·cases hs
     |true=>
      rw[uY]at hs
      simp only[cond_true]at hs
      split at hs
      ·rename_i es hm
       split at hs
       ·rename_i h' hn
        obtain rfl:=qz hs
        obtain⟨hh,rfl⟩:=y6 hn
        obtain⟨lJ,lD⟩:=eK.maps k es hm
        have kG:as++c.args.toList.map a.eval++bs=[]:=by
         have h1:first++vs++captured=[]:=Sh.1 uY
         have h2:=hall.length
         rw[h1]at h2
         exact List.eq_nil_of_length_eq_zero h2
        refine .inr (.inr (.inl ⟨k,_,iT lJ,?_⟩))
        rw[kG]
        refine CallsIn.mono (lD C.K w m.tabs m.know m.dw) ?_
        rintro ee w' ⟨q,K',cg,clock,rfl,q1,q2,q3,q4,q5,q6,q7,q8⟩
        exact⟨_,rfl,jij m e q1 q2 q3 q4 q5 hh q6 q7 q8⟩
       ·cases hs
      ·cases hs
    |bY=>
     simp only[]at hs
     cases uY:qy 0 (first++vs++captured)with
     |false=>rw[uY]at hs;cases hs
     |true=>
      rw[uY]at hs
      simp only[cond_true]at hs
      split at hs
      ·rename_i v ow wy
       cases hs
       obtain⟨lJ,lq,rC⟩:=KQ eK hx wy uY
       have lM:aW (.bY C.K) (first++vs++captured) (as++c.args.toList.map a.eval++bs):=
        aI.shift (C:=C) (C':=.bY C.K) 0 (fun _ _ _ h=>h) (fun b r bw=>by omega) hall uY
       refine .inr (.inr (.inl ⟨k,_,iT lJ,CallsIn.mono (rC C.K w _ m.tabs m.know m.dw lM) ?_⟩))
       rintro ee w' ⟨u,K',rfl,q1,q2,q3,q4,q5,q6,q7⟩
       exact⟨u,rfl,q28 m e q1 q2 q3 q4 q5 lq q6 q7⟩
      ·cases hs
    |red=>
     simp only[]at hs
     split at hs
     ·rename_i xs DI
      cases ll:qy 0 xs with
      |false=>rw[ll]at hs;cases hs
      |true=>
       rw[ll]at hs
       simp only[cond_true]at hs
       split at hs
       ·rename_i v ow wy
        split at hs
        ·rename_i v' Gb hrd
         cases hs
         obtain⟨lJ,lq,rC⟩:=KQ eK hx wy ll
         refine .inr (.inr (.inl ⟨k,_,iT lJ,CallsIn.mono (rC (zp C hp w) w _ m.tabs (fun r o u h=>(KP m h).1) (fun r o u h=>(KP m h).2) (qsh m DI hall ll)) ?_⟩))
         rintro ee w' ⟨u,K',rfl,q1,q2,q3,q4,q5,q6,q7⟩
         exact⟨u,rfl,jfz m e q1 q2 q3 q4 q5 q6 q7 hrd⟩
        ·cases hs
       ·cases hs
     ·cases hs
    |shr=>
     simp only[]at hs
     split at hs
     ·rename_i v ow h' F4
      cases hs
      ·obtain⟨lJ,ni⟩:=F3 eK hx F4
       have lM:aW (C.shared ω w0) (first++vs++captured) (as++c.args.toList.map a.eval++bs):=aI.imp (C:=C) (C':=C.shared ω w0) ⟨fun _ _ _ h=>h,fun _ _ h=>h⟩ hall
       refine .inr (.inr (.inl ⟨k,_,iT lJ,CallsIn.mono (ni _ _ _ _ lM (RG m)) ?_⟩))
       rintro ee w' ⟨u,C',ω',rfl,q1,q2,q3,q4⟩
       exact⟨u,rfl,qsb m e q2 q1 q3 q4⟩
     ·cases hs
  ·rename_i b vs e1 e2
   have yG:=qx e.cr h1 e1
   have RM:=DA e.cr h2 e2
   generalize fI:a.eval f=fv at yG
   cases md with
   |bY=>simp at hs
   |fL _=>simp at hs
   |red=>simp at hs
   |shr=>
    simp only[]at hs
    split at hs
    ·rename_i v h' hy
     obtain rfl:=qz hs
     cases yG with
     |fn g g' _ _ as bs hf ha hb=>
      obtain⟨q,oK,rfl⟩:=hf
      cases ha
      cases hb
      obtain⟨ff,oc,assign,body,k1,k2⟩:=jgg (d:=d) hx m e oK RM hy
      refine .inr (.inr (.inr ⟨q,ff,oc,assign,body,?_,k2⟩))
      have eI:Array.map a.eval c.args=⟨c.args.toList.map a.eval⟩:=by
       apply T4;simp
      rw[←eI]at k1
      simp[execOp,ho,resolve,oI,fI,Deferred.ofValue,invoke,k1]
    ·cases hs
  ·cases hs
 ·cases hc
theorem jra {h md r h0 dst al cO res}(eK:bZ P p)(hx:cJ P xc)(m:az P C ω w0 C0 hp w)(e:aq C ω w w0.heap.size env a.tmps)
  (nh:cO.ik=If) (hc:cW P h md r dst o.op=I cO) (hs:qf p xc h0 al env hp cO=I res):yh P C C0 w0 a d env o w res:=by
 cases ho:o.op<;>rw[ho]at hc
 case move x=>exact jhc m e ho hc hs
 case assign x=>exact jcu m e ho hc hs
 case pick=>exact jku m e ho hc hs
 case alloc=>exact jdp m e ho hc hs
 case box=>exact joh m e ho hc hs
 case build=>exact jc9 m e ho hc hs
 case buildSlice=>exact qyh m e ho hc hs
 case load=>exact jji m e ho hc hs
 case store=>exact jfl m e ho nh hc hs
 case nilCheck=>exact q40 m e ho hc hs
 case binOp=>exact jn8 m e ho hc hs
 case unOp=>exact jrj m e ho hc hs
 case convert=>exact jlo m e ho hc hs
 case makeFunc=>exact q5t m e ho hc hs
 case makeMap=>exact q62 m e ho hc hs
 case makeSlice=>exact q0p m e ho hc hs
 case slice=>exact jc3 m e ho hc hs
 case fieldAddr=>exact q0z m e ho hc hs
 case field=>exact jdj m e ho hc hs
 case indexAddr=>exact q01 m e ho hc hs
 case index=>exact jfi m e ho hc hs
 case range=>exact jdk m e ho hc hs
 case extract=>exact q7c m e ho hc hs
 case call c=>
  have dZ:Aj P h md r dst c=I cO:=hc
  by_cases hv:∃f,c.callee=.value f
  ·obtain⟨f,hf⟩:=hv
   exact jhs eK hx m e ho hf dZ hs
  ·exact q7i m e ho (fun f hf=>hv ⟨f,hf⟩) dZ hs
 case lookup=>exact jbx m e ho hc hs
 case mapUpdate=>exact qoh m e (.inl ho) hc hs
 case insert t x y z=>exact qoh (h:=h) (md:=md) (r:=r) (dst:=dst) m e (.inr ho) (show cW P h md r dst (.mapUpdate t x y z)=I cO from hc) hs
 case next it b=>exact ji5 m e ho hc hs
 all_goals (simp[cW]at hc;done)
end
section
variable {p:jz}{xc:XC}{h0:Nat}{al:Option (List Nat)}
def Agree (l:List Nat)(e e':Env):Prop:=∀s∈l,ji s e=ji s e'
theorem Agree.app {l l' e e'}(h:Agree (l++l') e e'):Agree l e e'∧Agree l' e e':=
 ⟨fun s hs=>h s (Tp _ hs),fun s hs=>h s (Tm _ hs)⟩
theorem qt {e e' x}(h:Agree (ze x) e e'):qh e x=qh e' x:=by
 cases x with
 |tmp t=>simp only[qh,h t (by simp[ze])]
 |const v=>rfl
theorem DK {e e'}:∀ {l:List js},Agree (xX l) e e'→ky e l=ky e' l
 | [],_=>rfl
 |x::l,h=>by
  have h':Agree (ze x++xX l) e e':=by simpa[xX]using h
  simp only[ky,qt h'.app.1,DK h'.app.2]
theorem DL {e e' x}(d n:Nat)(h:Agree (Ak x) e e'):fF e d n x=fF e' d n x:=by
 cases x with
 |none=>rfl
 |some x=>simp only[fF,qt (x:=x) h]
theorem RN {e e' x}(h:Agree (ze x) e e'):zm e x=zm e' x:=by
 cases x with
 |tmp t=>simp only[zm,h t (by simp[ze])]
 |const v=>rfl
theorem qke {e e'}:∀ {l:List (Nat×Nat×js)},Agree (l.flatMap fun p=>ze p.2.2) e e'→kj e l=kj e' l
 | [],_=>rfl
 |(i,n,x)::l,h=>by
  have h':Agree (ze x++l.flatMap fun p=>ze p.2.2) e e':=by simpa using h
  simp only[kj,qt h'.app.1,qke h'.app.2]
theorem RO {e e' sz}:∀ {l:List (Nat×js)},Agree (l.flatMap fun p=>ze p.2) e e'→yg e sz l=yg e' sz l
 | [],_=>rfl
 |(i,x)::l,h=>by
  have h':Agree (ze x++l.flatMap fun p=>ze p.2) e e':=by simpa using h
  simp only[yg,qt h'.app.1,RO h'.app.2]
theorem q4d {e e' h op}(ha:Agree op.reads e e'):qf p xc h0 al e h op=qf p xc h0 al e' h op:=by
 cases op with
 |move x=>simp only[qf,qp,qt (x:=x) ha]
 |take s=>simp only[qf,qp,ha s (by simp[cV.reads])]
 |pick c x y=>simp only[cV.reads]at ha;simp only[qf,qp,qt ha.app.1.app.1,qt ha.app.1.app.2,qt ha.app.2]
 |build z ps=>simp only[qf,qp,qke (l:=ps) ha]
 |buildSlice sz n z ps=>simp only[qf,qp,RO (l:=ps) ha]
 |nilCheck x=>simp only[qf,qp,qt (x:=x) ha]
 |gE n=>rfl
 |eb n s x=>
  simp only[cV.reads]at ha
  have h1:ji s e=ji s e':=ha s (by simp)
  have h2:Agree (ze x) e e':=fun t ht=>ha t (by simp[ht])
  simp only[qf,qp,h1,qt h2]
 |oC n x=>simp only[qf,qp,qt (x:=x) ha]
 |fB ag n x=>simp only[qf,qp,qt (x:=x) ha]
 |bin op x y=>simp only[cV.reads]at ha;simp only[qf,qp,qt ha.app.1,qt ha.app.2]
 |eqs ks n x y=>simp only[cV.reads]at ha;simp only[qf,qp,qt ha.app.1,qt ha.app.2]
 |beq n x y=>simp only[cV.reads]at ha;simp only[qf,qp,qt ha.app.1,qt ha.app.2]
 |fC k n x=>simp only[qf,qp,qt (x:=x) ha]
 |un op x=>simp only[qf,qp,qt (x:=x) ha]
 |conv k x=>simp only[qf,qp,qt (x:=x) ha]
 |fm x=>simp only[qf,qp,qt (x:=x) ha]
 |field ag off n x=>simp only[qf,qp,qt (x:=x) ha]
 |index ag l n x i=>simp only[cV.reads]at ha;simp only[qf,qp,qt ha.app.1,qt ha.app.2]
 |eF x i=>simp only[cV.reads]at ha;simp only[qf,qp,qt ha.app.1,qt ha.app.2]
 |fieldAddr ag off n x=>simp only[qf,qp,qt (x:=x) ha]
 |indexAddr sz x i=>simp only[cV.reads]at ha;simp only[qf,qp,qt ha.app.1,qt ha.app.2]
 |eX ag l sz x i=>simp only[cV.reads]at ha;simp only[qf,qp,qt ha.app.1,qt ha.app.2]
 |slice sz x lo hi=>simp only[cV.reads]at ha;simp only[qf,qp,qt ha.app.1.app.1,DL _ _ ha.app.1.app.2,DL _ _ ha.app.2]
 |eY x lo hi=>simp only[cV.reads]at ha;simp only[qf,qp,qt ha.app.1.app.1,DL _ _ ha.app.1.app.2,DL _ _ ha.app.2]
 |fY l sz x lo hi=>simp only[cV.reads]at ha;simp only[qf,qp,qt ha.app.1.app.1,DL _ _ ha.app.1.app.2,DL _ _ ha.app.2]
 |gF f x y=>simp only[cV.reads]at ha;simp only[qf,qp,DK ha.app.1,DK ha.app.2]
 |len k x=>simp only[qf,qp,qt (x:=x) ha]
 |append r sz b x y=>
  simp only[cV.reads]at ha
  cases r with
  |none=>simp only[qf,qp,qt ha.app.1,qt ha.app.2,RN ha.app.1]
  |some r=>simp only[qf,qq,qt ha.app.1,qt ha.app.2,RN ha.app.1]
 |ig r sz b x y=>simp only[cV.reads]at ha;simp only[qf,qq,qt ha.app.1,qt ha.app.2]
 |ij r sz n z ps=>simp only[qf,qq,RO (l:=ps) ha]
 |cu r sz b z n c=>
  simp only[cV.reads]at ha
  cases r with
  |none=>simp only[qf,qp,qt ha.app.1,qt ha.app.2]
  |some r=>simp only[qf,qq,qt ha.app.1,qt ha.app.2]
 |mx l=>simp only[qf,qp,DK (l:=l) ha]
 |mn l=>simp only[qf,qp,DK (l:=l) ha]
 |extract x i=>simp only[qf,qp,qt (x:=x) ha]
 |load ag n x=>simp only[qf,yi,qt (x:=x) ha]
 |alloc r z=>rfl
 |fX r t e=>rfl
 |box r n x=>simp only[qf,qq,qt (x:=x) ha]
 |cB off x=>simp only[qf,qq,qt (x:=x) ha]
 |store n x y=>simp only[cV.reads]at ha;simp only[qf,qq,qt ha.app.1,qt ha.app.2,RN ha.app.2]
 |eG r=>rfl
 |dK r x=>simp only[qf,qq,qt (x:=x) ha]
 |call md f l=>simp only[cV.reads]at ha;simp only[qf,yx,qt ha.app.1,DK ha.app.2]
 |lookup kd z ok x y=>simp only[cV.reads]at ha;simp only[qf,yi,qt ha.app.1,qt ha.app.2]
 |mapUpdate kd x y z=>simp only[cV.reads]at ha;simp only[qf,qq,qt ha.app.1.app.1,qt ha.app.1.app.2,qt ha.app.2]
 |delete kd x y=>simp only[cV.reads]at ha;simp only[qf,qq,qt ha.app.1,qt ha.app.2]
 |copy sz x y=>simp only[cV.reads]at ha;simp only[qf,qq,qt ha.app.1,qt ha.app.2]
 |fD x=>simp only[qf,qq,qt (x:=x) ha]
 |bad=>rfl
def bj.at (r:bj)(h:qi):bj:={ r with heap:=h }
theorem mC {h h' x r}(hs:val h x=I r):r.heap=h∧val h' x=I (r.at h'):=by
 simp only[val,I.injEq]at hs;subst hs;exact⟨rfl,rfl⟩
theorem jhj (h:qi)(x:Option AVal):gG h x=(gG [] x).map (·.at h):=by cases x<;>rfl
theorem RP {α β:Type}(c:Bool)(x y:Option α)(f:α→β):(bif c then x else y).map f=bif c then x.map f else y.map f:=by cases c<;>rfl
theorem qpm (e:Env)(h:qi)(op:cV):qp e h op=(qp e [] op).map (·.at h):=by
 cases op with
 |append r sz b x y=>
  cases r with
  |some r=>rfl
  |none=>
   simp only[qp]
   repeat' split
   all_goals first
    |rfl
    |(simp only[RP];repeat' split)<;>rfl
 |cu r sz b z n c=>
  cases r with
  |some r=>rfl
  |none=>
   simp only[qp]
   repeat' split
   all_goals first
    |rfl
    |(simp only[RP];rfl)
 |_=>
  simp only[qp]
  repeat' split
  all_goals first
   |rfl
   |exact jhj _ _
   |(simp only[RP];first|rfl|(repeat' split)<;>rfl)
theorem qsi {e h}(h':qi){op r}(hs:qp e h op=I r):r.heap=h∧qp e h' op=I (r.at h'):=by
 rw[qpm]at hs
 obtain⟨r0,h1,rfl⟩:=G7.1 hs
 refine⟨rfl,?_⟩
 rw[qpm,h1]
 rfl
end
section
variable {p:jz}{xc:XC}{h0:Nat}{al:Option (List Nat)}
def nV:Option bh→Bool
 |some (.vec ..)=>Hd
 |some .hole=>Hd
 |_=>Gy
theorem Gf {h b cs}(hc:ju h b=I cs):nV h[b]?=Gy:=by
 unfold ju at hc
 split at hc
 ·rename_i h1;rw[h1];rfl
 ·cases hc
theorem DM {h b x}(hb:zg h b=I x)(hx:nV (I x)=Gy):nV h[b]?=Gy:=by
 unfold zg at hb;rw[hb];exact hx
def RQ:bh→Option Nat
 | .vec sz _ _=>I sz
 |_=>If
def HB (h0:Nat)(al:Option (List Nat))(F:qi→Option bj)(h:qi)(r:bj):Al→Nat→Prop
 | .pure,_=>r.heap=h∧∀h',F h'=I (r.at h')
 | .read,_=>r.heap=h∧∀h':qi,(∀b,za h0 al b=Gy→(px al=Gy→nV h[b]?=Gy)→h'[b]?=h[b]?)→F h'=I (r.at h')
 | .alloc,k=>∃x,aS h0 h k x=I r.heap∧∀h' h3,aS h0 h' k x=I h3→F h'=I (r.at h3)
 | .write,_=>∃b x,za h0 al b=Gy∧nV h[b]?=Gy∧nV (I x)=Gy∧jt h b x=I r.heap∧∀h' h3:qi,h'[b]?=h[b]?→jt h' b x=I h3→F h'=I (r.at h3)
 | .take,k=>∃b cs v o,za h0 al b=Gy∧h[b]?=I (.cells cs)∧cs[k]?=I (v,o)∧r.heap=h.set b (.cells (cs.set k (v,Hd))) ∧
   ∀(h':qi) (eN:List (AVal×Bool)),h'[b]?=I (.cells eN)→eN[k]?=I (v,o)→F h'=I (r.at (h'.set b (.cells (eN.set k (v,Hd)))))
 | .fL,_=>False
 | .shr,_=>True
 | .nT,k=>∃q x y,(q=h0+k % 1000∧y=.hole∨RQ y=I (k / 1000))∧h[q]?=I y∧r.heap=h.set q x∧RQ x=I (k / 1000)∧∀h':qi,h'[q]?=I y→F h'=I (r.at (h'.set q x))
theorem Gg {h h' b}(hb:h'[b]?=h[b]?):ju h' b=ju h b:=by simp only[ju,hb]
theorem jdg {e h op r}(hs:qf p xc h0 al e h op=I r):HB h0 al (fun h=>qf p xc h0 al e h op) h r op.cl op.c5:=by
 have gk:(∀h,qf p xc h0 al e h op=qp e h op)→op.cl=.pure→HB h0 al (fun h=>qf p xc h0 al e h op) h r op.cl op.c5:=by
  intro heq dY
  rw[dY]
  rw[heq]at hs
  exact⟨(qsi h hs).1,fun h'=>(heq h').trans (qsi h' hs).2⟩
 cases op with
 |load ag n x=>
  simp only[qf,yi]at hs
  split at hs
  ·rename_i b o hv
   cases hk:za h0 al b with
   |false=>simp[hk]at hs
   |true=>
    simp only[hk,cond_true]at hs
    split at hs
    ·rename_i cs hcs
     split at hs
     ·rename_i vs KM
      have key:r.heap=h∧∀h':qi,ju h' b=ju h b→yi h0 al e h' (.load ag n x)=I (r.at h'):=by
       cases ag with
       |true=>
        simp only[cond_true]at hs
        refine⟨(mC (h':=h) hs).1,fun h' hb=>?_⟩
        simp only[yi,hv,hk,cond_true,hb,hcs,KM]
        exact(mC (h':=h') hs).2
       |false=>
        simp only[cond_false]at hs
        split at hs
        ·refine⟨(mC (h':=h) hs).1,fun h' hb=>?_⟩
         simp only[yi,hv,hk,cond_true,hb,hcs,KM,cond_false]
         exact(mC (h':=h') hs).2
        ·cases hs
      exact⟨key.1,fun h' dm=>key.2 h' (Gg (dm b hk fun _=>Gf hcs))⟩
     ·cases hs
    ·cases hs
  ·rename_i v hv
   cases hk:(Eab ag v.isAgg||!(Hc v.flat.length n))with
   |true=>simp[hk]at hs
   |false=>
    simp only[hk,cond_false]at hs
    refine⟨(mC (h':=h) hs).1,fun h' _=>?_⟩
    simp only[qf,yi,hv,hk,cond_false]
    exact(mC (h':=h') hs).2
  ·rename_i b bL q hv
   cases hk:uQ h0 al b with
   |false=>simp[hk]at hs
   |true=>
    simp only[hk,cond_true]at hs
    have iw:=hk
    simp only[uQ,En,Bool.not_eq_true']at iw
    split at hs
    ·rename_i sz dN xs gL
     have jN:∀h':qi,(∀b,za h0 al b=Gy→(px al=Gy→nV h[b]?=Gy)→h'[b]?=h[b]?)→zg h' b=I (.vec sz dN xs):=fun h' dm=>by
      unfold zg at gL ⊢;rw[dm b iw.1 (fun ho=>by rw[iw.2]at ho;cases ho),gL]
     cases dA:(Hc bL dN&&Jp (q+n) (xs.flatMap AVal.flat).length)with
     |false=>rw[dA]at hs;cases hs
     |true=>
      rw[dA]at hs
      simp only[cond_true]at hs
      cases ag with
      |true=>
       simp only[cond_true]at hs
       refine⟨(mC (h':=h) hs).1,fun h' dm=>?_⟩
       simp only[qf,yi,hv,hk,cond_true,jN h' dm,dA]
       exact(mC (h':=h') hs).2
      |false=>
       simp only[cond_false]at hs
       split at hs
       ·rename_i z hz
        refine⟨(mC (h':=h) hs).1,fun h' dm=>?_⟩
        simp only[qf,yi,hv,hk,cond_true,jN h' dm,dA,cond_false,hz]
        exact(mC (h':=h') hs).2
       ·cases hs
    ·cases hs
  ·cases hs
 |len k x=>exact gk (fun _=>rfl) rfl
 |alloc rk z=>
  simp only[qf,qq]at hs
  cases hk:z.all qk with
  |false=>simp[hk]at hs
  |true=>
   simp only[hk,cond_true]at hs
   split at hs
   ·rename_i h' hn
    have h1:=qz hs
    refine⟨_,by rw[h1];exact hn,fun g g3 hg=>?_⟩
    simp only[qf,qq,hk,cond_true]
    rw[show cV.c5 (.alloc rk z)=rk from rfl]at hg
    rw[hg,h1];rfl
   ·cases hs
 |box rk n x=>
  simp only[qf,qq]at hs
  split at hs
  ·rename_i v hv
   cases hk:(Hc v.flat.length n&&v.flat.all qk)with
   |false=>simp[hk]at hs
   |true=>
    simp only[hk,cond_true]at hs
    split at hs
    ·rename_i h' hn
     have h1:=qz hs
     refine⟨_,by rw[h1];exact hn,fun g g3 hg=>?_⟩
     simp only[qf,qq,hv,hk,cond_true]
     rw[show cV.c5 (.box rk n x)=rk from rfl]at hg
     rw[hg,h1];rfl
    ·cases hs
  ·cases hs
 |fX rk t e'=>
  simp only[qf,qq]at hs
  split at hs
  ·rename_i h' hn
   have h1:=qz hs
   refine⟨_,by rw[h1];exact hn,fun g g3 hg=>?_⟩
   simp only[qf,qq]
   rw[show cV.c5 (.fX rk t e')=rk from rfl]at hg
   rw[hg,h1];rfl
  ·cases hs
 |eG rk=>
  simp only[qf,qq]at hs
  split at hs
  ·rename_i h' hn
   have h1:=qz hs
   refine⟨_,by rw[h1];exact hn,fun g g3 hg=>?_⟩
   simp only[qf,qq]
   rw[show cV.c5 (.eG rk)=rk from rfl]at hg
   rw[hg,h1];rfl
  ·cases hs
 |dK rk x=>
  simp only[qf,qq]at hs
  split at hs
  ·rename_i s hv
   split at hs
   ·rename_i h' hn
    have h1:=qz hs
    refine⟨_,by rw[h1];exact hn,fun g g3 hg=>?_⟩
    simp only[qf,qq,hv]
    rw[show cV.c5 (.dK rk x)=rk from rfl]at hg
    rw[hg,h1];rfl
   ·cases hs
  ·cases hs
 |cB off x=>
  simp only[qf,qq]at hs
  split at hs
  ·rename_i b o hv
   cases hk:za h0 al b&&uR off o with
   |false=>simp[hk]at hs
   |true=>
    simp only[hk,cond_true]at hs
    have eW:za h0 al b=Gy:=by simp only[En]at hk;exact hk.1
    split at hs
    ·rename_i cs hcs
     split at hs
     ·rename_i v ow hq
      split at hs
      ·rename_i h' bF
       cases hs
       have od:=bF
       unfold jt at od
       cases bw:Ig b h.length with
       |false=>simp[bw]at od
       |true=>
        simp only[bw,cond_true,I.injEq]at od
        cases off with
        |none=>
         refine⟨b,_,eW,Gf hcs,rfl,bF,fun g g3 hb hg=>?_⟩
         simp only[qf,qq,hv,hk,cond_true,Gg hb,hcs,hq,hg]
         rfl
        |some k=>
         have hko:k=o:=by
          simp only[En,uR]at hk;exact Gt hk.2
         subst hko
         have hhb:h[b]?=I (.cells cs):=by
          unfold ju at hcs
          split at hcs
          ·rename_i eN h';cases hcs;exact h'
          ·cases hcs
         refine⟨b,cs,v,ow,eW,hhb,hq,od.symm,fun g eN hg dZ=>?_⟩
         have dZ:eN[k]?=I (v,ow):=dZ
         have hlg:b<g.length:=(G9.1 hg).1
         have lm:ju g b=I eN:=by simp only[ju,hg]
         have hsg:jt g b (.cells (eN.set k (v,Hd)))=I (g.set b (.cells (eN.set k (v,Hd)))):=by
          unfold jt;rw[Ix.mpr hlg];rfl
         simp only[qf,qq,hv,hk,cond_true,lm,dZ,hsg]
         rfl
      ·cases hs
     ·cases hs
    ·cases hs
  ·cases hs
 |store n x y=>
  simp only[qf,qq]at hs
  split at hs
  ·rename_i b o v hv hy
   cases hk:za h0 al b with
   |false=>simp[hk]at hs
   |true=>
    simp only[hk,cond_true]at hs
    split at hs
    ·rename_i cs hcs
     split at hs
     ·rename_i t ht
      cases dA:(Hc n 1&&v.cR&&Ig o cs.length)with
      |false=>simp[dA]at hs
      |true=>
       simp only[dA,cond_true]at hs
       split at hs
       ·rename_i h' bF
        cases hs
        refine⟨b,_,hk,Gf hcs,rfl,bF,fun g g3 hb hg=>?_⟩
        simp only[qf,qq,hv,hy,hk,cond_true,Gg hb,hcs,ht,dA,hg]
        rfl
       ·cases hs
     ·rename_i ht
      cases dA:Hc v.flat.length n with
      |false=>simp[dA]at hs
      |true=>
       simp only[dA,cond_true]at hs
       split at hs
       ·rename_i eN cq
        split at hs
        ·rename_i h' bF
         have h1:=qz hs
         refine⟨b,_,hk,Gf hcs,rfl,by rw[h1];exact bF,fun g g3 hb hg=>?_⟩
         simp only[qf,qq,hv,hy,hk,cond_true,Gg hb,hcs,ht,dA,cq,hg,h1]
         rfl
        ·cases hs
       ·cases hs
    ·cases hs
  ·cases hs
 |call md f l=>
  cases md with
  |shr=>trivial
  |red=>trivial
  |fL rk=>
   simp only[qf,yx]at hs
   split at hs
   ·rename_i k first captured vs e1 e2
    cases hb:(first++vs++captured).isEmpty with
    |false=>
     rw[hb]at hs
     simp only[cond_false]at hs
     cases lI:qy 0 (first++vs++captured)with
     |false=>rw[lI]at hs;cases hs
     |true=>
      rw[lI]at hs
      simp only[cond_true]at hs
      split at hs
      ·rename_i v o wy
       have goal:∃x,aS h0 h rk x=I r.heap∧∀g g3,aS h0 g rk x=I g3→qH h0 g rk v o=I (r.at g3):=by
        unfold qH at hs
        split at hs
        ·split at hs
         ·rename_i h' hn
          have h1:=qz hs
          refine⟨_,by rw[h1];exact hn,fun g g3 hg=>?_⟩
          simp only[qH,hg,h1];rfl
         ·cases hs
        ·rename_i sz xs
         cases FX:(xs.flatMap AVal.flat).all nQ with
         |false=>rw[FX]at hs;cases hs
         |true=>
          rw[FX]at hs
          simp only[cond_true]at hs
          split at hs
          ·rename_i h' hn
           have h1:=qz hs
           refine⟨_,by rw[h1];exact hn,fun g g3 hg=>?_⟩
           simp only[qH,FX,cond_true,hg,h1];rfl
          ·cases hs
        ·cases hs
       obtain⟨x,g1,g2⟩:=goal
       refine⟨x,g1,fun g g3 hg=>?_⟩
       simp only[qf,yx,e1,e2,wy]
       rw[hb,lI]
       exact g2 g g3 hg
      ·cases hs
    |true=>
     rw[hb]at hs
     simp only[cond_true]at hs
     split at hs
     ·rename_i es hm
      split at hs
      ·rename_i h' hn
       have h1:=qz hs
       refine⟨_,by rw[h1];exact hn,fun g g3 hg=>?_⟩
       simp only[qf,yx,e1,e2,hm]
       rw[hb]
       simp only[cond_true]
       rw[show cV.c5 (.call (.fL rk) f l)=rk from rfl]at hg
       rw[hg,h1];rfl
      ·cases hs
     ·cases hs
   ·cases hs
   ·cases hs
  |bY=>
   simp only[qf,yx]at hs
   split at hs
   ·rename_i k first captured vs e1 e2
    cases hb:qy 0 (first++vs++captured)with
    |false=>rw[hb]at hs;cases hs
    |true=>
     rw[hb]at hs
     simp only[cond_true]at hs
     split at hs
     ·rename_i v o wy
      cases hs
      refine⟨rfl,fun h'=>?_⟩
      simp only[qf,yx,e1,e2,wy]
      rw[hb]
      rfl
     ·cases hs
   ·cases hs
   ·cases hs
 |append rk sz b x y=>
  cases rk with
  |none=>exact gk (fun _=>rfl) rfl
  |some rk=>
   simp only[qf,qq]at hs
   split at hs
   ·rename_i dl vy e1 e2
    cases gf:((zm e x).isSome&&Hc sz dl)with
    |false=>simp[gf]at hs
    |true=>
     simp only[gf,cond_true]at hs
     split at hs
     ·rename_i ys cX
      cases dA:(Jp ys.length 1073741824&&Jp b 4096&&Ig 0 sz)with
      |false=>simp[dA]at hs
      |true=>
       simp only[dA,cond_true]at hs
       split at hs
       ·rename_i h' hn
        cases hs
        refine⟨_,hn,fun g g3 hg=>?_⟩
        simp only[qf,qq,e1,e2,gf,cX,dA,cond_true]
        rw[show cV.c5 (.append (I rk) sz b x y)=rk from rfl]at hg
        rw[hg];rfl
       ·cases hs
     ·cases hs
   ·cases hs
 |ig rk sz bt x y=>
  simp only[qf,qq]at hs
  split at hs
  ·rename_i Rj vy e1 e2
   split at hs
   ·rename_i ys cX
    cases hk:(Jp ys.length 1073741824&&Jp bt 4096&&Ig 0 sz&&!ys.isEmpty&&qy 0 ys&&Ig rk 1000)with
    |false=>rw[hk]at hs;cases hs
    |true=>
     rw[hk]at hs
     simp only[cond_true]at hs
     split at hs
     ·rename_i h' dh
      obtain rfl:=qz hs
      obtain⟨i1,i2⟩:=y6 dh
      have hrk:rk<1000:=by simp only[En]at hk;exact Ix.mp hk.2
      have m1:(rk+1000*sz) % 1000=rk:=by omega
      have m2:(rk+1000*sz) / 1000=sz:=by omega
      refine⟨h0+rk,.vec sz 0 ys,.hole,.inl ⟨by show _=h0+(rk+1000*sz) % 1000;rw[m1],rfl⟩,i1,i2,by show I sz=I ((rk+1000*sz) / 1000);rw[m2],fun g hg=>?_⟩
      simp only[qf,qq,e1,e2,cX,hk,cond_true,aS,hg]
      rfl
     ·cases hs
   ·cases hs
  ·rename_i b bL len vy e1 e2
   split at hs
   ·rename_i dl dN xs gL
    split at hs
    ·rename_i ys cX
     cases hk:(Hc bL dN&&Hc sz dl&&Jp len xs.length&&Jp (len+ys.length) 1073741824&&Jp bt 4096&&Ig 0 sz&&qy 0 ys&&Ig rk 1000)with
     |false=>rw[hk]at hs;cases hs
     |true=>
      rw[hk]at hs
      simp only[cond_true]at hs
      split at hs
      ·rename_i h' bF
       obtain rfl:=qz hs
       have eW:=hk
       simp only[En]at eW
       obtain⟨⟨⟨⟨⟨⟨⟨_,k2⟩,_⟩,_⟩,_⟩,_⟩,_⟩,k8⟩:=eW
       have da:=Gt k2
       have hrk:rk<1000:=Ix.mp k8
       have m2:(rk+1000*sz) / 1000=sz:=by omega
       have bw:b<h.length:=by unfold zg at gL;exact(G9.1 gL).1
       have hh:h'=h.set b (.vec sz (bL+1) (xs.take len++ys)):=by
        unfold jt at bF
        rw[Ix.mpr bw]at bF
        simpa using bF.symm
       refine⟨b,.vec sz (bL+1) (xs.take len++ys),.vec dl dN xs,.inr (by show I dl=I ((rk+1000*sz) / 1000);rw[m2,da]),gL,hh,by show I sz=I ((rk+1000*sz) / 1000);rw[m2],fun g hg=>?_⟩
       have jN:zg g b=I (.vec dl dN xs):=hg
       have wz:b<g.length:=(G9.1 hg).1
       simp only[qf,qq,e1,e2,jN,cX,hk,cond_true,jt,Ix.mpr wz]
       rfl
      ·cases hs
    ·cases hs
   ·cases hs
  ·cases hs
 |ij rk sz n z ps=>trivial
 |cu rk sz b z n c=>
  cases rk with
  |none=>exact gk (fun _=>rfl) rfl
  |some rk=>
   simp only[qf,qq]at hs
   split at hs
   ·rename_i n' c' e1 e2
    cases hk:(Hc n' c'&&Jp n' 1073741824&&Jp b 4096&&Hc z.length sz&&Ig 0 sz&&z.all qk)with
    |false=>simp[hk]at hs
    |true=>
     simp only[hk,cond_true]at hs
     split at hs
     ·rename_i h' hn
      have h1:=qz hs
      refine⟨_,by rw[h1];exact hn,fun g g3 hg=>?_⟩
      simp only[qf,qq,e1,e2,hk,cond_true]
      rw[show cV.c5 (.cu (I rk) sz b z n c)=rk from rfl]at hg
      rw[hg,h1];rfl
     ·cases hs
   ·cases hs
 |lookup kd z ok x y=>
  simp only[qf,yi]at hs
  split at hs
  ·rename_i b kv e1 e2
   cases hk:za h0 al b with
   |false=>simp[hk]at hs
   |true=>
    simp only[hk,cond_true]at hs
    split at hs
    ·rename_i es hb
     have jN:∀h':qi,(∀b,za h0 al b=Gy→(px al=Gy→nV h[b]?=Gy)→h'[b]?=h[b]?)→zg h' b=I (.map es):=fun h' dm=>by
      have RR:=DM hb rfl
      unfold zg at hb ⊢;rw[dm b hk fun _=>RR,hb]
     split at hs
     ·rename_i i v hf
      refine⟨(mC (h':=h) hs).1,fun h' dm=>?_⟩
      simp only[qf,yi,e1,e2,hk,cond_true,jN h' dm,hf]
      exact(mC (h':=h') hs).2
     ·rename_i hf
      refine⟨(mC (h':=h) hs).1,fun h' dm=>?_⟩
      simp only[qf,yi,e1,e2,hk,cond_true,jN h' dm,hf]
      exact(mC (h':=h') hs).2
     ·cases hs
    ·cases hs
  ·rename_i kv e1 e2
   refine⟨(mC (h':=h) hs).1,fun h' dm=>?_⟩
   simp only[qf,yi,e1,e2]
   exact(mC (h':=h') hs).2
  ·cases hs
 |mapUpdate kd x y z=>
  simp only[qf,qq]at hs
  split at hs
  ·rename_i b kv v e1 e2 e3
   cases hk:za h0 al b with
   |false=>simp[hk]at hs
   |true=>
    simp only[hk,cond_true]at hs
    split at hs
    ·rename_i es hb
     have jN:∀h':qi,h'[b]?=h[b]?→zg h' b=I (.map es):=fun h' dm=>by
      unfold zg at hb ⊢;rw[dm,hb]
     split at hs
     ·rename_i i u hf
      split at hs
      ·rename_i h' bF
       have h1:=qz hs
       refine⟨b,_,hk,DM hb rfl,rfl,by rw[h1];exact bF,fun g g3 fH hg=>?_⟩
       simp only[qf,qq,e1,e2,e3,hk,cond_true,jN g fH,hf,hg,h1]
       rfl
      ·cases hs
     ·rename_i hf
      cases hl:Jp es.length 1073741824 with
      |false=>simp[hl]at hs
      |true=>
       simp only[hl,cond_true]at hs
       split at hs
       ·rename_i h' bF
        have h1:=qz hs
        refine⟨b,_,hk,DM hb rfl,rfl,by rw[h1];exact bF,fun g g3 fH hg=>?_⟩
        simp only[qf,qq,e1,e2,e3,hk,cond_true,jN g fH,hf,hl,hg,h1]
        rfl
       ·cases hs
     ·cases hs
    ·cases hs
  ·cases hs
 |delete kd x y=>
  simp only[qf,qq]at hs
  split at hs
  ·rename_i b kv e1 e2
   cases hk:za h0 al b with
   |false=>simp[hk]at hs
   |true=>
    simp only[hk,cond_true]at hs
    split at hs
    ·rename_i es hb
     have jN:∀h':qi,h'[b]?=h[b]?→zg h' b=I (.map es):=fun h' dm=>by
      unfold zg at hb ⊢;rw[dm,hb]
     split at hs
     ·rename_i rr hf
      split at hs
      ·rename_i h' bF
       have h1:=qz hs
       refine⟨b,_,hk,DM hb rfl,rfl,by rw[h1];exact bF,fun g g3 fH hg=>?_⟩
       simp only[qf,qq,e1,e2,hk,cond_true,jN g fH,hf,hg,h1]
       rfl
      ·cases hs
     ·cases hs
    ·cases hs
  ·cases hs
 |copy sz x y=>
  simp only[qf,qq]at hs
  split at hs
  ·rename_i b o len vy e1 e2
   cases hk:za h0 al b with
   |false=>simp[hk]at hs
   |true=>
    simp only[hk,cond_true]at hs
    split at hs
    ·rename_i cs hcs
     split at hs
     ·rename_i n us cX
      split at hs
      ·rename_i eN cq
       cases dA:Hc us.length (n*sz)with
       |false=>simp[dA]at hs
       |true=>
        simp only[dA,cond_true]at hs
        split at hs
        ·rename_i h' bF
         have h1:=qz hs
         refine⟨b,_,hk,Gf hcs,rfl,by rw[h1];exact bF,fun g g3 hb hg=>?_⟩
         simp only[qf,qq,e1,e2,hk,cond_true,Gg hb,hcs,cX,cq,dA,hg,h1]
         rfl
        ·cases hs
      ·cases hs
     ·cases hs
    ·cases hs
  ·cases hs
 |fD x=>
  simp only[qf,qq]at hs
  split at hs
  ·rename_i b hv
   cases hk:za h0 al b with
   |false=>simp[hk]at hs
   |true=>
    simp only[hk,cond_true]at hs
    split at hs
    ·rename_i s pos hb
     have bw:b<h.length:=by unfold zg at hb;exact(G9.1 hb).1
     cases hp:Ig pos s.length with
     |true=>
      simp only[hp,cond_true]at hs
      split at hs
      ·rename_i h' bF
       have h1:=qz hs
       refine⟨b,_,hk,DM hb rfl,rfl,by rw[h1];exact bF,fun g g3 fH hg=>?_⟩
       have jN:zg g b=I (.iter s pos):=by unfold zg at hb ⊢;rw[fH,hb]
       simp only[qf,qq,hv,hk,cond_true,jN,hp,hg,h1]
       rfl
      ·cases hs
     |false=>
      simp only[hp,cond_false]at hs
      have h1:=qz hs
      have Gh:h.set b (.iter s pos)=h:=by
       unfold zg at hb
       apply Se
       intro k
       rw[Sb]
       split
       ·rename_i hbk;subst hbk;first|exact hb.symm|rw[if_pos bw,hb]
       ·rfl
      refine⟨b,.iter s pos,hk,DM hb rfl,rfl,by rw[h1];unfold jt;rw[Ix.mpr bw];simp[Gh],fun g g3 fH hg=>?_⟩
      have jN:zg g b=I (.iter s pos):=by unfold zg at hb ⊢;rw[fH,hb]
      have wz:b<g.length:=by unfold zg at jN;exact(G9.1 jN).1
      have AZ:g3=g:=by
       unfold jt at hg
       rw[Ix.mpr wz]at hg
       simp only[cond_true,I.injEq]at hg
       rw[←hg]
       unfold zg at jN
       apply Se
       intro k
       rw[Sb]
       split
       ·rename_i hbk;subst hbk;first|exact jN.symm|rw[if_pos wz,jN]
       ·rfl
      simp only[qf,qq,hv,hk,cond_true,jN,hp,cond_false,h1,AZ]
      rfl
    ·cases hs
  ·cases hs
 |_=>exact gk (fun _=>rfl) rfl
theorem yH {h h' b x}(hs:jt h b x=I h'):b<h.length∧h'=h.set b x:=by
 unfold jt at hs
 cases hb:Ig b h.length with
 |false=>simp[hb]at hs
 |true=>exact⟨Ix.mp hb,by simpa[hb]using hs.symm⟩
theorem A0 {h b x}(hb:b<h.length):jt h b x=I (h.set b x):=by
 unfold jt
 rw[Ix.mpr hb];rfl
theorem DN {h k x}(hh:h[h0+k]?=I .hole):aS h0 h k x=I (h.set (h0+k) x):=by
 unfold aS;rw[hh]
theorem DP {b k}(h:za h0 al b=Gy)(hk:mU al k=Hd):b≠h0+k:=by
 intro hb
 subst hb
 cases al with
 |none=>simp[mU]at hk
 |some l=>
  simp only[za,mU]at h hk
  have h1:Ig (h0+k) h0=Hd:=by
   cases hh:Ig (h0+k) h0 with
   |false=>rfl
   |true=>have:=Ix.mp hh;omega
  cases he:oE l with
  |false=>
   rw[he]at h hk
   simp only[cond_false]at h hk
   rw[h1,Rn,show h0+k-h0=k from by omega,hk]at h
   cases h
  |true=>
   rw[he]at h hk
   simp only[cond_true]at h hk
   cases l with
   |nil=>cases he
   |cons x l=>
    simp only[Ae]at h
    cases hx:Ig x 2000 with
    |true=>rw[hx]at h;simp only[cond_true,h1,Bool.and_false]at h;cases h
    |false=>
     rw[hx]at h
     simp only[cond_false]at h
     cases hx4:Ig x 4000 with
     |false=>rw[hx4]at h;simp only[cond_false,h1]at h;cases h
     |true=>
      rw[hx4]at h
      simp only[cond_true]at h
      have h2:=Gt h
      have h3:¬x<2000:=fun hh=>by rw[Ix.mpr hh]at hx;cases hx
      have h4:x=2000+k:=by omega
      rw[show(x::l).headD 0=x from rfl,h4,Ul]at hk
      cases hk
theorem qpg {l:List Nat}{x}(h:(!(l.contains x))=Gy):l.contains x=Hd:=by
 cases hc:l.contains x with
 |false=>rfl
 |true=>rw[hc]at h;cases h
theorem RS {RT RU:Option (List Nat)}{b b'}(h:Dx RT RU=Gy)(h1:za h0 RT b=Gy)(h2:za h0 RU b'=Gy):b≠b':=by
 intro hb
 subst hb
 cases RT with
 |none=>cases h
 |some l=>
  cases RU with
  |none=>cases h
  |some m=>
   simp only[Dx,za]at h h1 h2
   have inv:∀ {k:List Nat},oE k=Gy→Ig (k.headD 0) 4000=Gy→Ae h0 k b=Gy→(1000≤k.headD 0)∧((k.headD 0<2000∧b=k.headD 0-1000∧b<h0)∨(2000≤k.headD 0∧b=h0+(k.headD 0-2000))):=by
    intro k he h4 hq
    cases k with
    |nil=>cases he
    |cons x k=>
     refine⟨Gz he,?_⟩
     simp only[Ae]at hq
     cases hx:Ig x 2000 with
     |true=>
      rw[hx]at hq
      simp only[cond_true,En]at hq
      exact .inl ⟨Ix.mp hx,Gt hq.1,Ix.mp hq.2⟩
     |false=>
      rw[hx,show Ig x 4000=Gy from h4]at hq
      simp only[cond_false,cond_true]at hq
      have h3:¬x<2000:=fun hh=>by rw[Ix.mpr hh]at hx;cases hx
      exact .inr ⟨by show 2000≤x;omega,Gt hq⟩
   have old:∀ {k:List Nat} {r:Nat},b=h0+r→k.contains r=Hd→(Ig b h0||k.contains (b-h0))=Gy→False:=by
    intro k r iI hc hq
    have h3:Ig b h0=Hd:=by
     cases hh:Ig b h0 with
     |false=>rfl
     |true=>have:=Ix.mp hh;omega
    rw[h3,Rn,show b-h0=r by omega,hc]at hq
    cases hq
   cases hl:oE l with
   |true=>
    rw[hl]at h h1
    simp only[cond_true]at h h1
    cases hm:oE m with
    |true=>
     rw[hm]at h h2
     simp only[cond_true,En]at h h2
     obtain⟨i1,i2⟩:=inv hl h.1.2 h1
     obtain⟨i3,i4⟩:=inv hm h.2 h2
     have bI:l.headD 0≠m.headD 0:=fun e=>by rw[e,Ul]at h;exact absurd h.1.1 (by simp)
     omega
    |false=>
     rw[hm]at h h2
     simp only[cond_false,En]at h h2
     obtain⟨i1,i2⟩:=inv hl h.1.2 h1
     have h3:=Gz h.1.1
     exact old (by omega) (qpg h.2) h2
   |false=>
    rw[hl]at h h1
    simp only[cond_false,En]at h h1
    obtain⟨⟨⟨h3,h4⟩,h6⟩,h5⟩:=h
    rw[h3]at h2
    simp only[cond_true]at h2
    obtain⟨i3,i4⟩:=inv h3 h6 h2
    have h4:=Gz h4
    exact old (by omega) (qpg h5) h1
theorem RV {F h r k}(H:HB h0 al F h r .take k):HB h0 al F h r .write k:=by
 obtain⟨b,cs,v,o,hb,hc,hv,hs,h4⟩:=H
 have bw:b<h.length:=(G9.1 hc).1
 refine⟨b,.cells (cs.set k (v,Hd)),hb,by rw[hc];rfl,rfl,by rw[hs];exact A0 bw,fun h' h3 hh bF=>?_⟩
 rw[h4 h' cs (by rw[hh];exact hc) hv]
 obtain⟨_,s2⟩:=yH bF
 rw[s2]
theorem jf2 {ca cb ka kb pE pF Fa Fb h ra rb}(yI:Fb h=I rb)(Gi:Fa rb.heap=I ra)(Hb:HB h0 pF Fb h rb cb kb)(Ha:HB h0 pE Fa rb.heap ra ca ka)
  (ek:cb=.read∨cb=.write∨cb=.take) (eC:ca=.read∨ca=.write∨ca=.take) (rD:Dx pF pE=Gy):
  ∃h1,Fa h=I (ra.at h1)∧Fb h1=I (rb.at ra.heap):=by
 have hat:∀r:bj,r.at r.heap=r:=fun _=>rfl
 have wb:(cb=.read∧HB h0 pF Fb h rb .read kb)∨HB h0 pF Fb h rb .write kb:=by
  rcases ek with rfl|rfl|rfl
  ·exact .inl ⟨rfl,Hb⟩
  ·exact .inr Hb
  ·exact .inr (RV Hb)
 have wa:(ca=.read∧HB h0 pE Fa rb.heap ra .read ka)∨HB h0 pE Fa rb.heap ra .write ka:=by
  rcases eC with rfl|rfl|rfl
  ·exact .inl ⟨rfl,Ha⟩
  ·exact .inr Ha
  ·exact .inr (RV Ha)
 rcases wb with⟨_,h1,h2⟩|⟨b,x,hb,_,_,hs,h2⟩
 ·rcases wa with⟨_,h3,h4⟩|⟨b',y,fH,_,_,hJ,h4⟩
  ·exact⟨h,h4 h (fun b _ _=>by rw[h1]),by rw[h3,hat];exact yI⟩
  ·rw[h1]at hJ
   obtain⟨s1,s2⟩:=yH hJ
   refine⟨ra.heap,by rw[hat,←Gi,h1],h2 _ (fun b hb _=>?_)⟩
   rw[s2,Gx (Jq (RS rD hb fH))]
 ·obtain⟨s1,s2⟩:=yH hs
  rcases wa with⟨_,h3,h4⟩|⟨b',y,fH,_,_,hJ,h4⟩
  ·refine⟨h,h4 h (fun b' fH _=>?_),by rw[h3,hat];exact yI⟩
   rw[s2,Gx (RS rD hb fH)]
  ·obtain⟨s3,s4⟩:=yH hJ
   have bI:=RS rD hb fH
   rw[s2,Lg]at s3
   refine⟨h.set b' y,h4 _ _ (by rw[s2,Gx bI]) (A0 s3),h2 _ _ (by rw[Gx (Jq bI)]) ?_⟩
   rw[A0 (by rw[Lg];exact s1),s4,s2,Jr _ _ (Jq bI)]
def KY (ca cb:Al)(ka kb:Nat)(pE pF:Option (List Nat)):Prop:=
 (cb=.nT∧ca=.nT∧kb % 1000≠ka % 1000∧kb / 1000≠ka / 1000)∨(cb=.nT∧(ca=.read∨ca=.write∨ca=.take)∧px pE=Gy)∨((cb=.read∨cb=.write∨cb=.take)∧ca=.nT∧px pF=Gy)
theorem jt3 {ca cb ka kb pE pF Fa Fb h ra rb}(yI:Fb h=I rb)(Gi:Fa rb.heap=I ra)(Hb:HB h0 pF Fb h rb cb kb)(Ha:HB h0 pE Fa rb.heap ra ca ka)
  (dQ:KY ca cb ka kb pE pF):∃h1,Fa h=I (ra.at h1)∧Fb h1=I (rb.at ra.heap):=by
 have hat:∀r:bj,r.at r.heap=r:=fun _=>rfl
 have Gj:∀ {c:Al} {k:Nat} {al:Option (List Nat)} {F:qi→Option bj} {g:qi} {r:bj},HB h0 al F g r c k→(c=.read∨c=.write∨c=.take)→HB h0 al F g r .read k∨HB h0 al F g r .write k:=by
  intro c k al F g r H hc
  rcases hc with rfl|rfl|rfl
  ·exact .inl H
  ·exact .inr H
  ·exact .inr (RV H)
 have nvs:∀ {x:bh} {z:Nat},RQ x=I z→nV (I x)=Hd:=fun {x z} h=>by cases x<;>first|rfl|cases h
 rcases dQ with⟨rfl,rfl,n1,n2⟩|⟨rfl,eC,hs⟩|⟨ek,rfl,hs⟩
 ·obtain⟨q,x,y,hq,hy,hh,hx,hF⟩:=Hb
  obtain⟨q',x',y',KR,qR,RW,fp,hF'⟩:=Ha
  have bw:q<h.length:=(G9.1 hy).1
  have bI:q≠q':=by
   intro he
   subst he
   rw[hh,Lh bw]at qR
   cases qR
   rcases KR with⟨_,rfl⟩|h4
   ·cases hx
   ·rw[hx]at h4;exact n2 (I.inj h4)
  rw[hh,Gx bI]at qR
  refine⟨h.set q' x',hF' h qR,?_⟩
  rw[hF _ (by rw[Gx (Jq bI)];exact hy),RW,hh,Jr _ _ bI]
 ·obtain⟨q,x,y,hq,hy,hh,hx,hF⟩:=Hb
  have bw:q<h.length:=(G9.1 hy).1
  -- the box that the append wrote is a vector now
  have dh:nV rb.heap[q]?=Hd:=by rw[hh,Lh bw];exact nvs hx
  rcases Gj Ha eC with⟨h3,h4⟩|⟨b,z,hb,hn,RX,hz,h4⟩
  ·refine⟨h,h4 h (fun b hb hn=>?_),by rw[h3,hat];exact yI⟩
   have bI:b≠q:=fun e=>by subst e;rw[hn hs]at dh;cases dh
   rw[hh,Gx (Jq bI)]
  ·have bI:b≠q:=fun e=>by subst e;rw[hn]at dh;cases dh
   obtain⟨s1,s2⟩:=yH hz
   rw[hh,Lg]at s1
   refine⟨h.set b z,h4 _ _ (by rw[hh,Gx (Jq bI)]) (A0 s1),?_⟩
   rw[hF _ (by rw[Gx bI];exact hy),s2,hh,Jr _ _ bI]
 ·obtain⟨q,x,y,hq,hy,hh,hx,hF⟩:=Ha
  have hold:nV (I y)=Hd:=by
   rcases hq with⟨_,rfl⟩|h1
   ·rfl
   ·exact nvs h1
  rcases Gj Hb ek with⟨h3,h4⟩|⟨b,z,hb,hn,RX,hz,h4⟩
  ·rw[h3]at hy hh
   refine⟨h.set q x,hF h hy,?_⟩
   rw[h4 (h.set q x) (fun b hb hn=>by
    have bI:b≠q:=fun e=>by subst e;rw[hy]at hn;rw[hold]at hn;exact absurd (hn hs) (by simp)
    rw[Gx (Jq bI)]),hh]
  ·obtain⟨s1,s2⟩:=yH hz
   have bI:b≠q:=by
    intro e
    subst e
    rw[s2,Lh s1]at hy
    rw[I.inj hy,hold]at RX
    cases RX
   rw[s2,Gx bI]at hy
   refine⟨h.set q x,hF h hy,h4 _ _ (by rw[Gx (Jq bI)]) ?_⟩
   rw[A0 (by rw[Lg];exact s1),hh,s2,Jr _ _ (Jq bI)]
theorem jo5 {ca cb ka kb pE pF Fa Fb h ra rb}(yI:Fb h=I rb)(Gi:Fa rb.heap=I ra)(Hb:HB h0 pF Fb h rb cb kb)(Ha:HB h0 pE Fa rb.heap ra ca ka)
  (dQ:cb=.pure∨ca=.pure∨(cb=.read∧ca=.read)∨(cb=.alloc∧ca=.alloc∧kb≠ka)∨(cb=.alloc∧(ca=.read∨ca=.write∨ca=.take)∧mU pE kb=Hd)∨((cb=.read∨cb=.write∨cb=.take)∧ca=.alloc∧mU pF ka=Hd)∨(cb=.take∧ca=.take∧kb≠ka)):
  ∃h1,Fa h=I (ra.at h1)∧Fb h1=I (rb.at ra.heap):=by
 have hat:∀r:bj,r.at r.heap=r:=fun _=>rfl
 rcases dQ with rfl|rfl|⟨rfl,rfl⟩|⟨rfl,rfl,bI⟩|⟨rfl,eC,oL⟩|⟨ek,rfl,oL⟩|⟨rfl,rfl,bI⟩
 ·obtain⟨h1,h2⟩:=Hb
  exact⟨ra.heap,by rw[hat,←Gi,h1],h2 _⟩
 ·obtain⟨h1,h2⟩:=Ha
  exact⟨h,h2 _,by rw[h1,hat];exact yI⟩
 ·obtain⟨h1,h2⟩:=Hb
  obtain⟨h3,h4⟩:=Ha
  exact⟨h,h4 h (fun b _ _=>by rw[h1]),by rw[h3,hat];exact yI⟩
 ·obtain⟨x,n1,n2⟩:=Hb
  obtain⟨y,n3,n4⟩:=Ha
  obtain⟨i1,i2⟩:=y6 n1
  obtain⟨i3,i4⟩:=y6 n3
  rw[i2,Gx (by omega)]at i3
  refine⟨h.set (h0+ka) y,n4 _ _ (DN i3),n2 _ _ ?_⟩
  rw[DN (by rw[Gx (by omega)];exact i1),i4,i2,Jr _ _ (by omega)]
 ·obtain⟨x,n1,n2⟩:=Hb
  obtain⟨i1,i2⟩:=y6 n1
  rcases eC with rfl|rfl|rfl
  ·obtain⟨h3,h4⟩:=Ha
   refine⟨h,h4 h (fun b hb _=>?_),by rw[h3,hat];exact yI⟩
   rw[i2,Gx (Jq (DP hb oL))]
  ·obtain⟨b,y,hb,_,_,hs,h4⟩:=Ha
   obtain⟨s1,s2⟩:=yH hs
   have bI:=DP hb oL
   rw[i2,Lg]at s1
   refine⟨h.set b y,h4 _ _ (by rw[i2,Gx (Jq bI)]) (A0 s1),n2 _ _ ?_⟩
   rw[DN (by rw[Gx bI];exact i1),s2,i2,Jr _ _ bI]
  ·obtain⟨b,cs,v,o,hb,hc,hv,hs,h4⟩:=Ha
   have bI:=DP hb oL
   rw[i2,Gx (Jq bI)]at hc
   refine⟨_,h4 _ _ hc hv,n2 _ _ ?_⟩
   rw[DN (by rw[Gx bI];exact i1),hs,i2,Jr _ _ bI]
 ·obtain⟨y,n3,n4⟩:=Ha
  obtain⟨i3,i4⟩:=y6 n3
  rcases ek with rfl|rfl|rfl
  ·obtain⟨h1,h2⟩:=Hb
   refine⟨ra.heap,by rw[hat,←Gi,h1],h2 _ (fun b hb _=>?_)⟩
   rw[i4,h1,Gx (Jq (DP hb oL))]
  ·obtain⟨b,x,hb,_,_,hs,h2⟩:=Hb
   obtain⟨s1,s2⟩:=yH hs
   have bI:=DP hb oL
   rw[s2,Gx bI]at i3
   refine⟨h.set (h0+ka) y,n4 _ _ (DN i3),h2 _ _ (by rw[Gx (Jq bI)]) ?_⟩
   rw[A0 (by rw[Lg];exact s1),i4,s2,Jr _ _ (Jq bI)]
  ·obtain⟨b,cs,v,o,hb,hc,hv,hs,h2⟩:=Hb
   have bI:=DP hb oL
   rw[hs,Gx bI]at i3
   refine⟨h.set (h0+ka) y,n4 _ _ (DN i3),?_⟩
   rw[h2 _ cs (by rw[Gx (Jq bI)];exact hc) hv,i4,hs,Jr _ _ (Jq bI)]
 ·obtain⟨b,cs,v,o,hb,hc,hv,hs,h2⟩:=Hb
  obtain⟨b',eN,v',o',fH,dZ,pG,hJ,h4⟩:=Ha
  have bw:b<h.length:=(G9.1 hc).1
  by_cases DQ:b'=b
  ·subst DQ
   rw[hs,Lh bw]at dZ
   cases dZ
   rw[Gx bI]at pG
   refine⟨h.set b' (.cells (cs.set ka (v',Hd))),h4 h cs hc pG,?_⟩
   rw[h2 _ (cs.set ka (v',Hd)) (by rw[Lh bw]) (by rw[Gx (Jq bI)];exact hv),hJ,hs]
   simp only[List.set_set]
   rw[Jr _ _ bI]
  ·rw[hs,Gx (Jq DQ)]at dZ
   refine⟨h.set b' (.cells (eN.set ka (v',Hd))),h4 h eN dZ pG,?_⟩
   rw[h2 _ cs (by rw[Gx DQ];exact hc) hv,hJ,hs,Jr _ _ DQ]
end
section
variable {p:jz}{xc:XC}{h0:Nat}
def lN (p:jz)(xc:XC)(h0:Nat)(o:b9)(e:Env)(h:qi):Option bj:=
 match mQ e o.guard with
 |some Gy=>qf p xc h0 o.al e h o.op
 |some Hd=>I ⟨.undef,Hd,If,h⟩
 |none=>If
def pH (o:b9)(e:Env)(r:bj):Env:=nR (yb e r.strip) o.dst r.v r.own
theorem DR (o:b9)(st:aY):y5 p xc h0 o st=(lN p xc h0 o st.env st.heap).map fun r=>⟨pH o st.env r,r.heap⟩:=by
 unfold y5 lN
 cases hg:mQ st.env o.guard with
 |none=>rfl
 |some b=>
  cases b with
  |false=>rfl
  |true=>
   simp only[]
   cases qf p xc h0 o.al st.env st.heap o.op<;>rfl
theorem q0g {e e' g}(h:Agree (match g with|some g=>[g.1]|none=>[]) e e'):mQ e g=mQ e' g:=by
 cases g with
 |none=>rfl
 |some g=>simp only[mQ,h g.1 (by simp)]
theorem RY {o e e' h}(ha:Agree o.reads e e'):lN p xc h0 o e h=lN p xc h0 o e' h:=by
 have h1:Agree o.op.reads e e':=(Agree.app ha).1
 have h2:=(Agree.app ha).2
 simp only[lN,q0g h2,q4d h1]
theorem q7e {h0 r h v o res}(hs:qH h0 h r v o=I res):res.strip=If:=by
 unfold qH at hs
 simp only[Ny,val]at hs
 repeat' split at hs
 all_goals first
  |(cases hs;done)
  |(cases hs;rfl)
theorem q0k {al e h op r}(hs:qf p xc h0 al e h op=I r){s}(hr:r.strip=I s):s∈op.fM:=by
 have own:∀ {x:js},zm e x=I s→s∈ze x:=by
  intro x h
  obtain⟨rfl,_⟩:=Fz h
  simp[ze]
 have oe:∀ {x:AVal},val h x=I r→False:=fun hv=>by rw[qz hv]at hr;cases hr
 have A1:∀ {x:Option AVal},gG h x=I r→False:=fun hv=>by obtain⟨_,_,h1⟩:=vh hv;rw[h1]at hr;cases hr
 cases op with
 |take t=>
  simp only[qf,qp]at hs
  split at hs
  ·cases hs;simp at hr;simp[cV.fM,hr]
  ·cases hs
 |append rk sz b x y=>
  cases rk with
  |some rk=>
   simp only[qf,qq,Ny]at hs
   repeat' split at hs
   all_goals first
    |(cases hs;done)
    |(cases hs;exact own hr)
  |none=>
   simp only[qf,qp,Ny]at hs
   repeat' split at hs
   all_goals first
    |(cases hs;done)
    |(cases hs;exact own hr)
 |store n x y=>
  simp only[qf,qq,Ny]at hs
  repeat' split at hs
  all_goals first
   |(cases hs;done)
   |exact(oe hs).elim
   |(rename_i ht _ _ _ _;cases hs;simp only[I.injEq]at hr;subst hr;exact own ht)
   |(unfold val at hs;cases hs;cases hr;done)
   |skip
 |cu rk sz b z n c=>
  cases rk with
  |some rk=>
   simp only[qf,qq,Ny]at hs
   repeat' split at hs
   all_goals first
    |(cases hs;done)
    |exact(oe hs).elim
    |(unfold val at hs;cases hs;cases hr;done)
  |none=>
   simp only[qf,qp,Ny]at hs
   repeat' split at hs
   all_goals first
    |(cases hs;done)
    |(cases hs;cases hr;done)
 |call md f l=>
  cases md<;>simp only[qf,yx,Ny]at hs
  all_goals
   repeat' split at hs
  all_goals first
   |(cases hs;done)
   |exact(oe hs).elim
   |(cases hs;cases hr;done)
   |(rw[q7e hs]at hr;cases hr;done)
 |_=>
  simp only[qf,qp,yi,qq,Ny]at hs
  repeat' split at hs
  all_goals first
   |(cases hs;done)
   |exact(oe hs).elim
   |exact(A1 hs).elim
   |(cases hs;cases hr;done)
   |(unfold val at hs;cases hs;cases hr;done)
theorem qu1 {o e h r}(hs:lN p xc h0 o e h=I r){s}(hr:r.strip=I s):s∈o.op.fM:=by
 unfold lN at hs
 split at hs
 ·exact q0k hs hr
 ·cases hs;cases hr
 ·cases hs
theorem DS {s x e}:ji s ((s,x)::e)=I x:=by
 simp only[ji,Ul,cond_true]
theorem KZ {s t x e}(h:s≠t):ji s ((t,x)::e)=ji s e:=by
 have:Hc t s=Hd:=by
  cases hb:Hc t s with
  |false=>rfl
  |true=>exact absurd (Gt hb).symm h
 simp only[ji,this,cond_false]
theorem RZ {s e x}(h:∀t,x=I t→s≠t):ji s (yb e x)=ji s e:=by
 cases x with
 |none=>rfl
 |some t=>
  simp only[yb]
  split
  ·exact KZ (h t rfl)
  ·rfl
theorem qta {s e e' x}(h:ji s e=ji s e'):ji s (yb e x)=ji s (yb e' x):=by
 cases x with
 |none=>exact h
 |some t=>
  by_cases cq:s=t
  ·subst cq
   simp only[yb]
   rw[←h]
   cases hl:ji s e with
   |none=>simp only[];rw[hl,←h,hl]
   |some y=>simp only[];rw[DS,DS]
  ·rw[RZ (fun u hu=>by cases hu;exact cq),RZ (fun u hu=>by cases hu;exact cq)]
   exact h
theorem R0 {s e d v o}(h:∀t,d=I t→s≠t):ji s (nR e d v o)=ji s e:=by
 cases d with
 |none=>rfl
 |some t=>exact KZ (h t rfl)
theorem qy9 {s e e' d v o}(h:ji s e=ji s e'):ji s (nR e d v o)=ji s (nR e' d v o):=by
 cases d with
 |none=>exact h
 |some t=>
  by_cases cq:s=t
  ·subst cq;simp only[nR];rw[DS,DS]
  ·rw[R0 (fun u hu=>by cases hu;exact cq),R0 (fun u hu=>by cases hu;exact cq)];exact h
theorem R1 {o s e e' r}(h:ji s e=ji s e'):ji s (pH o e r)=ji s (pH o e' r):=qy9 (qta h)
theorem DT {o s e r}(hr:∀t,r.strip=I t→t∈o.op.fM)(h:s ∉ o.writes):ji s (pH o e r)=ji s e:=by
 unfold pH
 rw[R0,RZ]
 ·intro t ht cq
  exact h (Tm _ (cq▸hr t ht))
 ·intro t ht cq
  exact h (Tp _ (by rw[ht,cq];simp))
theorem jdf {o e r h}:pH o e (r.at h)=pH o e r:=rfl
def jO (a b:aY):Prop:=a.heap=b.heap∧∀s,ji s a.env=ji s b.env
theorem jO.refl (a:aY):jO a a:=⟨rfl,fun _=>rfl⟩
theorem jO.trans {a b c}(h:jO a b)(k:jO b c):jO a c:=⟨h.1.trans k.1,fun s=>(h.2 s).trans (k.2 s)⟩
theorem qy6 {o a b a'}(h:jO a b)(hs:y5 p xc h0 o a=I a'):∃b',y5 p xc h0 o b=I b'∧jO a' b':=by
 rw[DR]at hs
 obtain⟨r,hr,rfl⟩:=G7.1 hs
 rw[RY (e':=b.env) (fun s _=>h.2 s),h.1]at hr
 refine⟨⟨pH o b.env r,r.heap⟩,by rw[DR,hr];rfl,rfl,fun s=>R1 (h.2 s)⟩
theorem qwb:∀ {l:List b9} {a b a':aY},jO a b→fZ p xc h0 l a=I a'→∃b',fZ p xc h0 l b=I b'∧jO a' b'
 | [],a,b,a',h,hs=>by simp only[fZ,I.injEq]at hs ⊢;subst hs;exact⟨b,rfl,h⟩
 |o::l,a,b,a',h,hs=>by
  simp only[fZ]at hs
  split at hs
  ·rename_i a1 h1
   obtain⟨b1,k1,k2⟩:=qy6 h h1
   obtain⟨b',k3,k4⟩:=qwb k2 hs
   exact⟨b',by simp only[fZ,k1,k3],k4⟩
  ·cases hs
theorem jey {o e h r}(hs:lN p xc h0 o e h=I r):∃c k,HB h0 o.al (lN p xc h0 o e) h r c k∧(c=.pure∨(c=o.op.cl∧k=o.op.c5)):=by
 unfold lN at hs
 cases hg:mQ e o.guard with
 |none=>rw[hg]at hs;cases hs
 |some b=>
  cases b with
  |false=>
   rw[hg]at hs
   cases hs
   exact⟨.pure,0,⟨rfl,fun h'=>by simp only[lN,hg];rfl⟩,.inl rfl⟩
  |true=>
   rw[hg]at hs
   have:=jdg hs
   have heq:(fun h=>qf p xc h0 o.al e h o.op)=lN p xc h0 o e:=by
    funext h;simp only[lN,hg]
   rw[heq]at this
   exact⟨_,_,this,.inr ⟨rfl,rfl⟩⟩
theorem jcw {a b}(h:Qx a b=Gy):a.op.cl=.pure∨b.op.cl=.pure∨a.op.cl=.fL∨b.op.cl=.fL∨(a.op.cl=.read∧b.op.cl=.read)∨(a.op.cl=.alloc∧b.op.cl=.alloc∧a.op.c5≠b.op.c5) ∨
  (a.op.cl=.alloc∧(b.op.cl=.read∨b.op.cl=.write∨b.op.cl=.take)∧mU b.al a.op.c5=Hd)∨((a.op.cl=.read∨a.op.cl=.write∨a.op.cl=.take)∧b.op.cl=.alloc∧mU a.al b.op.c5=Hd)∨(a.op.cl=.take∧b.op.cl=.take∧a.op.c5≠b.op.c5)∨((a.op.cl=.read∨a.op.cl=.write∨a.op.cl=.take)∧(b.op.cl=.read∨b.op.cl=.write∨b.op.cl=.take)∧Dx a.al b.al=Gy)∨KY b.op.cl a.op.cl b.op.c5 a.op.c5 b.al a.al:=by
 unfold Qx at h
 rw[Rf]at h
 rcases h with h|h
 ·simp only[En]at h
  obtain⟨⟨h1,h2⟩,h3⟩:=h
  have hb:∀ {c:Al},c.box=Gy→c=.read∨c=.write∨c=.take:=fun {c} hc=>by cases c<;>first|(cases hc;done)|simp
  simp only[hb h1,hb h2,h3,and_self,or_true,true_or]
 unfold KY
 cases ha:a.op.cl<;>cases hb:b.op.cl<;>simp_all
theorem R2 {a b}(h:Fk a b=Gy){s}(hs:s∈a):s ∉ b:=by
 unfold Fk at h
 rw[Jk]at h
 have:=h s hs
 simpa using this
theorem zbt {a b st s1 s2}(hm:Am b a=Gy)(h1:y5 p xc h0 b st=I s1)(h2:y5 p xc h0 a s1=I s2):
  ∃t1 t2,y5 p xc h0 a st=I t1∧y5 p xc h0 b t1=I t2∧jO s2 t2:=by
 rw[DR]at h1
 obtain⟨rb,hb,rfl⟩:=G7.1 h1
 rw[DR]at h2
 obtain⟨ra,ha,rfl⟩:=G7.1 h2
 simp only[Am,En]at hm
 obtain⟨⟨⟨hc,d1⟩,d2⟩,d3⟩:=hm
 have sb:∀t,rb.strip=I t→t∈b.op.fM:=fun t ht=>qu1 hb ht
 have sa:∀t,ra.strip=I t→t∈a.op.fM:=fun t ht=>qu1 ha ht
 -- the later one reads nothing that the earlier one writes
 have K0:lN p xc h0 a st.env rb.heap=I ra:=by
  rw[←ha]
  refine RY fun s hs=>(DT sb ?_).symm
  exact fun hw=>R2 d1 hw hs
 obtain⟨cb,kb,Hb,ob⟩:=jey hb
 obtain⟨ca,ka,Ha,oa⟩:=jey K0
 have rD:((cb=.read∨cb=.write∨cb=.take)∧(ca=.read∨ca=.write∨ca=.take)∧Dx b.al a.al=Gy)∨(cb=.pure∨ca=.pure∨(cb=.read∧ca=.read)∨(cb=.alloc∧ca=.alloc∧kb≠ka)∨(cb=.alloc∧(ca=.read∨ca=.write∨ca=.take)∧mU a.al kb=Hd)∨((cb=.read∨cb=.write∨cb=.take)∧ca=.alloc∧mU b.al ka=Hd)∨(cb=.take∧ca=.take∧kb≠ka))∨KY ca cb ka kb a.al b.al:=by
  rcases ob with rfl|⟨rfl,rfl⟩
  ·exact .inr (.inl (.inl rfl))
  rcases oa with rfl|⟨rfl,rfl⟩
  ·exact .inr (.inl (.inr (.inl rfl)))
  rcases jcw hc with h|h|h|h|h|h|h|h|h|h|h
  ·exact .inr (.inl (.inl h))
  ·exact .inr (.inl (.inr (.inl h)))
  ·rw[h]at Hb;exact Hb.elim
  ·rw[h]at Ha;exact Ha.elim
  ·exact .inr (.inl (.inr (.inr (.inl h))))
  ·exact .inr (.inl (.inr (.inr (.inr (.inl h)))))
  ·exact .inr (.inl (.inr (.inr (.inr (.inr (.inl h))))))
  ·exact .inr (.inl (.inr (.inr (.inr (.inr (.inr (.inl h)))))))
  ·exact .inr (.inl (.inr (.inr (.inr (.inr (.inr (.inr h)))))))
  ·exact .inl h
  ·exact .inr (.inr h)
 have hsw:∃h1,lN p xc h0 a st.env st.heap=I (ra.at h1)∧lN p xc h0 b st.env h1=I (rb.at ra.heap):=by
  rcases rD with⟨q1,q2,q3⟩|dQ|dQ
  ·exact jf2 hb K0 Hb Ha q1 q2 q3
  ·exact jo5 hb K0 Hb Ha dQ
  ·exact jt3 hb K0 Hb Ha dQ
 obtain⟨h3,k1,k2⟩:=hsw
 have k2':lN p xc h0 b (pH a st.env (ra.at h3)) h3=I (rb.at ra.heap):=by
  rw[←k2]
  refine RY fun s hs=>DT (fun t ht=>sa t ht) ?_
  exact fun hw=>R2 d3 hw hs
 refine⟨⟨pH a st.env (ra.at h3),h3⟩,⟨pH b (pH a st.env (ra.at h3)) (rb.at ra.heap),ra.heap⟩,by rw[DR,k1];rfl,by rw[DR];simp only[k2'];rfl,rfl,fun s=>?_⟩
 simp only[jdf]
 by_cases hw:s∈a.writes
 ·have DJ:s ∉ b.writes:=fun h=>R2 d2 h hw
  rw[DT sb DJ]
  exact R1 (DT sb DJ)
 ·rw[DT sa hw]
  exact R1 (DT sa hw).symm
theorem qvw:∀ {l1 l2:List b9} {a:b9} {st s2:aY},(∀b∈l1,Am b a=Gy)→fZ p xc h0 (l1++a::l2) st=I s2 →
  ∃t1 t2,y5 p xc h0 a st=I t1∧fZ p xc h0 (l1++l2) t1=I t2∧jO s2 t2
 | [],l2,a,st,s2,_,hs=>by
  simp only[List.nil_append,fZ]at hs
  split at hs
  ·rename_i t1 h1;exact⟨t1,s2,h1,hs,jO.refl _⟩
  ·cases hs
 |b::l1,l2,a,st,s2,hm,hs=>by
  simp only[Yb,fZ]at hs
  split at hs
  ·rename_i s h1
   obtain⟨u1,u2,h2,h3,h4⟩:=qvw (fun c hc=>hm c (by simp[hc])) hs
   obtain⟨t1,t2,h5,h6,h7⟩:=zbt (hm b (by simp)) h1 h2
   obtain⟨u3,h8,h9⟩:=qwb h7 h3
   exact⟨t1,u3,h5,by simp only[Yb,fZ,h6,h8],h4.trans h9⟩
  ·cases hs
end
def dF (P:Program)(w0:World)(C0 C:aM)(nt:Nat)(st:aY)(a:Act)(w:World):Prop:=
 a.tmps.size=nt∧∃C' ω',C.le C'∧Marks C' w0.heap.size a.defers∧az P C' ω' w0 C0 st.heap w∧aq C' ω' w w0.heap.size st.env a.tmps
structure Gk (P:Program)(nt:Nat)(ops:Array Oper)(o:Oper)(ao:b9):Prop where
 op:∃h md r,(cW P h md r o.dst o.op).getD .bad=ao.op
 guard:Dv ops o.guard=I ao.guard
 dst:ao.dst=ao.op.xW o.dst
 fits:∀d,o.dst=I d→d<nt
 vfits:∀d,ao.op.ik=I d→d<nt
 Gl:∀d,ao.op.ik=I d→o.dst=If∧o.guard=If
section
variable {P:Program}{p:jz}{xc:XC}{C C0:aM}{w0:World}{nt h0:Nat}{ops:Array Oper}{ρ:Option Nat}
theorem dF.eqv {st bX a w}(h:dF P w0 C0 C nt st a w)(he:jO st bX):dF P w0 C0 C nt bX a w:=by
 obtain⟨h1,C',ω',h3,h2,h4,h5⟩:=h
 exact⟨h1,C',ω',h3,h2,he.1▸h4,fun s x hx=>h5 s x (by rw[he.2 s];exact hx)⟩
theorem aq.putAt {ω w B d e tmps v u o}(he:aq C ω w B e tmps)(hd:d<tmps.size)(hr:bR C v u)(ho:o=Gy→aO C ω w B (.slot d) v u):aq C ω w B ((d,v,o)::e) (tmps.setIfInBounds d u):=by
 intro s x hx
 by_cases R3:s=d
 ·subst R3
  rw[DS]at hx
  cases hx
  exact⟨u,by simp[hd],hr,ho⟩
 ·rw[KZ R3]at hx
  obtain⟨y,h1,h2,h3⟩:=he s x hx
  exact⟨y,by rw[Ri (Jq R3)];exact h1,h2,h3⟩
theorem jfe {ao:b9}{st:aY}{a:Act}{w:World}{C1:aM}{ω1:Nat→Option Loc}{e:Env}{h:qi}{v:AVal}{u:Value}{own:Bool}{o:Oper}(hd:ao.dst=o.dst)(hf:∀d,o.dst=I d→d<nt)(hs:a.tmps.size=nt)(kP:Marks C1 w0.heap.size a.defers)(hle:C.le C1)(m:az P C1 ω1 w0 C0 h w)(he:aq C1 ω1 w w0.heap.size e a.tmps)(hr:bR C1 v u)(ho:own=Gy→aO C1 ω1 w w0.heap.size (.slot (o.dst.getD 0)) v u):
  dF P w0 C0 C nt ⟨nR e ao.dst v own,h⟩ (a.put o.dst u) w:=by
 rw[hd]
 cases K1:o.dst with
 |none=>exact⟨hs,C1,ω1,hle,kP,m,he⟩
 |some d=>
  rw[K1]at ho
  refine⟨by simpa[Act.put]using hs,C1,ω1,hle,kP,m,?_⟩
  exact he.putAt (hs▸hf d K1) hr ho
theorem qz4 {o:Oper}{ao:b9}{e tmps ω w B b}(he:aq C ω w B e tmps)(hg:Dv ops o.guard=I ao.guard)(hb:mQ e ao.guard=I b):Region.wanted o (yielded ops tmps)=b:=by
 unfold Region.wanted
 cases hog:o.guard with
 |none=>
  rw[hog]at hg
  simp only[Dv,I.injEq]at hg
  rw[←hg]at hb
  simp only[mQ,I.injEq]at hb
  exact hb
 |some g=>
  obtain⟨j,want⟩:=g
  rw[hog]at hg
  simp only[Dv]at hg
  split at hg
  ·rename_i d hd
   have hgd:=I.inj hg
   rw[←hgd]at hb
   simp only[mQ]at hb
   split at hb
   ·rename_i c ow hl
    cases hb
    obtain⟨v,h1,h2,_⟩:=he d _ hl
    have:=h2.dy
    subst this
    simp only[yielded,hd,Ye,h1]
    cases c<;>cases want<;>rfl
   ·rename_i ow hl
    cases hb
    obtain⟨v,h1,h2,_⟩:=he d _ hl
    have hv:v=.tuple #[]:=by cases h2;rfl
    subst hv
    simp only[yielded,hd,Ye,h1]
    rfl
   ·cases hb
  ·cases hg
theorem q6o {h md r d op n s y}(Gm:∀t x z,op≠.store t x z):(cW P h md r d op).getD .bad≠.eb n s y:=by
 intro hc
 cases kQ:cW P h md r d op with
 |none=>rw[kQ]at hc;cases hc
 |some a=>
  rw[kQ]at hc
  simp only[Q9]at hc
  subst hc
  cases op<;>simp only[cW,cond_eq_ite]at kQ<;>(try exact Gm _ _ _ rfl)<;>(repeat' split at kQ)<;>(try split at kQ)<;>(try contradiction)<;>(try simp at kQ)<;>(try (split at kQ<;>simp at kQ))<;>(try (unfold Ko at kQ; (repeat' split at kQ)<;>simp at kQ))<;>(try (simp only[Qv,Dt]at kQ; (repeat' split at kQ)<;>simp at kQ))<;>(try (simp only[Aj]at kQ; (repeat' split at kQ)<;>(try contradiction)<;>(try simp at kQ)<;>(try (split at kQ<;>simp at kQ))))
theorem q7z (eK:bZ P p)(hx:cJ P xc){i:Nat}{o:Oper}{ao:b9}{st bX:aY}{a:Act}{w:World}{Q:Exit→Act→World→Prop}{K:Act→World→Prop}(hi:ops[i]?=I o)(hr:Gk P nt ops o ao)(hs:y5 p xc h0 ao st=I bX)(cq:dF P w0 C0 C nt st a w)
  (hK:∀a' w',dF P w0 C0 C nt bX a' w'→K a' w'):wpOpIn (jF ρ) 0 P ops Q i K a w:=by
 obtain⟨da,C1,ω1,hle,kP,m,he⟩:=cq
 unfold wpOpIn
 rw[hi]
 simp only[]
 unfold y5 at hs
 split at hs
 ·rename_i hg
  rw[qz4 he hr.guard hg]
  simp only[if_true]
  split at hs
  ·rename_i res eL
   cases hs
   obtain⟨h,md,r,hop⟩:=hr.op
   cases nh:ao.op.ik with
   |some sv=>
    -- the one write of a variable
    have A2:∃n y',ao.op=.eb n sv y':=by
     cases yJ:ao.op<;>rw[yJ]at nh<;>simp[cV.ik]at nh
     subst nh;exact⟨_,_,rfl⟩
    obtain⟨n,y',yJ⟩:=A2
    have hdd:ao.dst=I sv:=by rw[hr.dst,yJ];rfl
    rw[yJ]at eL hop
    have cq:∃t x y,o.op=.store t x y∧jp P t=I n∧qv x=I (.tmp sv)∧qv y=I y':=by
     cases hoo:o.op<;>rw[hoo]at hop
     case store t x y=>
      simp only[cW]at hop
      split at hop
      ·rename_i n' x' yy hn h1 h2
       simp only[Q9]at hop
       cases lH:Kp h x' with
       |none=>rw[lH]at hop;cases hop
       |some s'=>
        rw[lH]at hop
        simp only[cV.eb.injEq]at hop
        obtain⟨rfl,rfl,rfl⟩:=hop
        refine⟨t,x,y,rfl,hn,?_,h2⟩
        unfold Kp at lH
        split at lH
        ·split at lH
         ·cases lH;exact h1
         ·cases lH
        ·cases lH
      ·cases hop
     all_goals exact absurd hop (q6o (by simp))
    obtain⟨t,x,y,ho,hn,h1,h2⟩:=cq
    simp only[qf,qp]at eL
    split at eL
    ·rename_i mm v hl e2
     cases hk:(Hc mm n&&Hc v.flat.length n&&v.flat.all qk)with
     |false=>rw[hk]at eL;cases eL
     |true=>
      rw[hk]at eL
      simp only[cond_true,val,I.injEq]at eL
      subst eL
      simp only[En]at hk
      obtain⟨⟨k1,k2⟩,k3⟩:=hk
      obtain rfl:=Gt k1
      obtain⟨w',C',ω',bH,cY,m',e'⟩:=q92 m he ho hn h1 h2 hl e2 (Gt k2) k3
      refine⟨fun _ _=>trivial,?_⟩
      rw[Oper.semAt_eq _ _ _ (fun c hc=>by rw[ho]at hc;cases hc),bH]
      have K1:o.dst=If:=(hr.Gl sv nh).1
      refine hK _ _ ?_
      rw[K1,hdd]
      exact⟨da,C',ω',aM.le_trans hle cY,kP.mono cY,m',e'⟩
    ·cases eL
   |none=>
   have rE:ao.dst=o.dst:=by rw[hr.dst];cases yJ:ao.op<;>rw[yJ]at nh<;>first|rfl|simp[cV.ik]at nh
   have bH:yh P C1 C0 w0 a (.slot (o.dst.getD 0)) st.env o w res:=by
    cases hc:cW P h md r o.dst o.op with
    |none=>rw[hc]at hop;simp only[Yf]at hop;rw[←hop]at eL;simp[qf,qp]at eL
    |some cO=>rw[hc]at hop;simp only[Q9]at hop;subst hop;exact jra eK hx m he nh hc eL
   have fin:∀v w',zk P C0 w0 C1 a.tmps (.slot (o.dst.getD 0)) st.env res v w'→K (a.put o.dst v) w':=by
    rintro v w' ⟨C2,ω2,h1,h2,h3,h4,h5⟩
    exact hK _ _ (jfe (st:=st) rE hr.fits da (kP.mono h1) (aM.le_trans hle h1) h2 h3 h4 h5)
   refine⟨fun _ _=>trivial,?_⟩
   rw[Oper.semAt_eq _ _ _ (fun c hc=>by
    rw[hc]at hop
    simp only[cW,Yf]at hop
    rw[←hop]at eL
    simp[qf,qp]at eL)]
   rcases bH with⟨v,w',h1,h2⟩|⟨w',h1,h2⟩|⟨f,args,h1,h2⟩|⟨l,f,tmps,assign,body,h1,h2⟩
   ·rw[h1];exact fin v w' h2
   ·rw[h1];exact fin undef w' h2
   ·rw[h1]
    refine⟨fun h=>by simp[jF,Fence.wide]at h,CallsIn.mono (qwm.2 h2) ?_⟩
    rintro e w' ⟨v,rfl,hZ⟩
    exact fin v w' hZ
   ·rw[h1]
    have oM:RoundIn (jF ρ) 0 P l f tmps assign body w _:=h2
    refine⟨fun h=>by simp[jF,Fence.wide]at h,RoundIn.mono oM ?_⟩
    rintro e w' ⟨v,rfl,hZ⟩
    exact fin v w' hZ
  ·cases hs
 ·rename_i hg
  cases hs
  rw[qz4 he hr.guard hg]
  simp only[He,if_false]
  have rE:ao.dst=o.dst:=by
   cases nh:ao.op.ik with
   |none=>rw[hr.dst];cases yJ:ao.op<;>rw[yJ]at nh<;>first|rfl|simp[cV.ik]at nh
   |some sv=>
    have h1:=hr.guard
    rw[(hr.Gl sv nh).2]at h1
    simp only[Dv,I.injEq]at h1
    rw[←h1]at hg
    simp[mQ]at hg
  exact⟨fun _ _=>trivial,hK _ _ (jfe (st:=st) rE hr.fits da kP hle m he .undef (by simp))⟩
 ·cases hs
inductive lO (P:Program)(nt:Nat)(ops:Array Oper):List Nat→List b9→Prop where
 |nil:lO P nt ops [] []
 |cons {i:Nat} {o:Oper} {ao:b9} {l:List Nat} {lo:List b9} (hi:ops[i]?=I o) (h:Gk P nt ops o ao) (t:lO P nt ops l lo):lO P nt ops (i::l) (ao::lo)
theorem q7n (eK:bZ P p)(hx:cJ P xc){Q bX}(hQ:∀a' w',dF P w0 C0 C nt bX a' w'→Q .normal a' w'):∀ {l:List Nat} {lo:List b9} {st:aY} {a:Act} {w:World},lO P nt ops l lo→fZ p xc h0 lo st=I bX→dF P w0 C0 C nt st a w→wpOpsIn (jF ρ) 0 P ops Q l a w
 | [],_,st,a,w,.nil,hs,cq=>by
  simp only[fZ,I.injEq]at hs
  subst hs
  exact hQ _ _ cq
 |i::l,_,st,a,w,.cons hi h t,hs,cq=>by
  simp only[fZ]at hs
  split at hs
  ·rename_i s1 h1
   rw[wpOpsIn_cons]
   exact q7z eK hx hi h h1 cq fun a' w' iy=>q7n eK hx hQ t hs iy
  ·cases hs
theorem qz1 {h id iE draw}:∀ {os:List Oper} {i:Nat} {rs Dw:List (Nat×Nat)} {l:List b9},Fj P h nt id ops iE draw os i rs=I (l,Dw)→(∀j,os[j]?=ops[i+j]?)→lO P nt ops (List.range' i os.length) l
 | [],i,rs,Dw,l,hc,_=>by
  simp only[Fj,I.injEq,Sc.injEq]at hc
  rw[←hc.1];exact .nil
 |o::os,i,rs,Dw,l,hc,hos=>by
  simp only[Fj]at hc
  split at hc
  ·rename_i g hg
   split at hc
   ·rename_i cG
    split at hc
    ·rename_i l1 rs1 Gn
     simp only[I.injEq,Sc.injEq]at hc
     rw[←hc.1]
     simp only[En]at cG
     obtain⟨⟨hf1,hf2⟩,hf3⟩:=cG
     refine .cons (o:=o) (by rw[←Nat.add_zero i,←hos 0];rfl) ⟨⟨h,jfq h id i,rs.length,rfl⟩,hg,rfl,fun d hd=>?_,fun d hd=>?_,fun d hd=>?_⟩ ?_
     ·rw[hd]at hf1
      simpa using hf1
     ·simp only at hd
      rw[hd]at hf2
      simpa using hf2
     ·simp only at hd
      rw[hd]at hf3
      simpa using hf3
     ·exact qz1 Gn (fun j=>by rw[show i+1+j=i+(j+1)from by omega,←hos (j+1)];rfl)
    ·cases hc
   ·cases hc
  ·cases hc
theorem az.holes {ω w hp}(m:az P C ω w0 C0 hp w)(n:Nat):az P C ω w0 C0 (hp++Yi n .hole) w:=
 { m with
  lt:=fun b r hb=>⟨(m.lt b r hb).1,by rw[List.length_append];have:=(m.lt b r hb).2;omega⟩
  box:=fun b x r hx hb=>m.box b x r (by rw[List.getElem?_append_left (m.lt b r hb).2]at hx;exact hx) hb }
theorem q5k {l e s x}:ji s (qD e l)=I x→ji s e=I x:=by
 induction l with
 |nil=>simp[qD,ji]
 |cons t l ih=>
  intro h
  simp only[qD]at h
  split at h
  ·rename_i y hy
   by_cases cq:s=t
   ·subst cq;rw[DS]at h;rw[hy];exact h
   ·rw[KZ cq]at h;exact ih h
  ·exact ih h
theorem dF.keep {st a w k}(h:dF P w0 C0 C nt st a w):dF P w0 C0 C nt (Ah st k) a w:=by
 cases k with
 |none=>exact h
 |some l=>
  obtain⟨h1,C',ω',h3,h2,h4,h5⟩:=h
  exact⟨h1,C',ω',h3,h2,h4,fun s x hx=>h5 s x (q5k hx)⟩
theorem qsc {listed:Array Bool}{i j d}:(listed.setIfInBounds i Gy).getD j d=if i=j∧j<listed.size then Gy else listed.getD j d:=by
 simp only[Ik,Array.getElem?_setIfInBounds]
 by_cases n6:i=j
 ·subst n6
  by_cases hl:i<listed.size
  ·simp[hl]
  ·simp[hl]
 ·simp[n6]
theorem jO.Gp {a b}(h:jO a b):jO b a:=⟨h.1.symm,fun s=>(h.2 s).symm⟩
def pick (full:List b9)(l:List Nat):List b9:=l.map fun i=>full.getD i default
theorem lO.get {l lo}(h:lO P nt ops l lo):l.length=lo.length∧∀k i,l[k]?=I i→∃o,ops[i]?=I o∧Gk P nt ops o (lo.getD k default):=by
 induction h with
 |nil=>exact⟨rfl,by simp⟩
 |cons hi h t ih=>
  refine⟨by simp[ih.1],fun k i hk=>?_⟩
  cases k with
  |zero=>simp at hk;subst hk;exact⟨_,hi,h⟩
  |succ k=>simp at hk;obtain⟨o,h1,h2⟩:=ih.2 k i hk;exact⟨o,h1,by simpa using h2⟩
theorem jrk {full:List b9}{iE:Array Nat}(eK:bZ P p)(hx:cJ P xc){Q bX}(hQ:∀a' w',dF P w0 C0 C nt bX a' w'→Q .normal a' w')
  (rF:∀i o,ops[i]?=I o→Gk P nt ops o (full.getD i default)) (Gq:∀i j,i<j→j<ops.size→(iE.getD j 0).testBit i=Hd→Am (full.getD i default) (full.getD j default)=Gy)
  (R4:∀j o i,ops[j]?=I o→i<ops.size→(iE.getD j 0).testBit i=Gy→∃e∈o.after,Region.binds .any e=Gy∧(e.on=i∨(iE.getD e.on 0).testBit i=Gy))
  (Gr:∀i o,ops[i]?=I o→∀e∈o.after,Region.binds .any e=Gy→e.on<i):
  ∀(fuel:Nat) (listed:Array Bool) (l:List Nat) (st s2:aY) (a:Act) (w:World),listed.size=ops.size→l.Pairwise (· < ·)→(∀i,i∈l↔i<ops.size∧listed.getD i Gy=Hd)→l.length≤fuel →
   (∀k i,i<ops.size→listed.getD k Hd=Gy→(iE.getD k 0).testBit i=Gy→listed.getD i Hd=Gy)→fZ p xc h0 (pick full l) st=I s2→jO s2 bX→dF P w0 C0 C nt st a w→wpAnyIn (jF ρ) 0 P .any ops Q fuel listed a w:=by
 intro fuel
 induction fuel with
 |zero=>
  intro listed l st s2 a w da gm dx hlen kT hs heq cq
  have hl:l=[]:=Si.1 (by omega)
  subst hl
  simp only[pick,Yy,fZ,I.injEq]at hs
  subst hs
  refine⟨?_,hQ _ _ (cq.eqv heq)⟩
  cases hr:Region.ready .any ops listed with
  |nil=>rfl
  |cons i rs=>
   have hi:i∈Region.ready .any ops listed:=by rw[hr];simp
   obtain⟨h1,o,ho,_⟩:=mem_ready.1 hi
   have:=(dx i).2 ⟨(G8.1 ho).1,h1⟩
   cases this
 |succ fuel ih=>
  intro listed l st s2 a w da gm dx hlen kT hs heq cq
  refine⟨fun hr=>?_,fun i hi=>?_⟩
  ·cases l with
   |nil=>
    simp only[pick,Yy,fZ,I.injEq]at hs
    subst hs
    exact hQ _ _ (cq.eqv heq)
   |cons i l=>
    exfalso
    obtain⟨h1,h2⟩:=(dx i).1 (by simp)
    have hi:i∈Region.ready .any ops listed:=by
     refine mem_ready.2 ⟨h2,ops[i],Q7 h1,fun e he hb=>?_⟩
     have bw:=Gr i _ (Q7 h1) e he hb
     have bI:e.on ∉ i::l:=fun hm=>by
      rcases Sd.1 hm with h|h
      ·omega
      ·have:=(Uf.1 gm).1 _ h;omega
     have h3:¬(listed.getD e.on Gy=Hd):=fun h=>bI ((dx e.on).2 ⟨by omega,h⟩)
     have rG:e.on<listed.size:=by omega
     simp only[Ik,Q7 rG,Q9]at h3 ⊢
     simpa using h3
    rw[hr]at hi
    cases hi
  ·obtain⟨h1,o,ho,hall⟩:=mem_ready.1 hi
   have bw:=(G8.1 ho).1
   have him:i∈l:=(dx i).2 ⟨bw,h1⟩
   obtain⟨l1,l2,rfl⟩:=List.append_of_mem him
   have R5:∀k,k∈l1++i::l2→listed.getD k Hd=Gy→False:=fun k hk hl=>by
    obtain⟨k1,k2⟩:=(dx k).1 hk
    have rG:k<listed.size:=by omega
    simp only[Ik,Q7 rG,Q9]at hl k2
    rw[hl]at k2;cases k2
   have hbi:∀k,k<ops.size→(iE.getD i 0).testBit k=Gy→listed.getD k Hd=Gy:=fun k hk hb=>by
    obtain⟨e,he,ll,h2|h2⟩:=R4 i o k ho hk hb
    ·rw[←h2];exact hall e he ll
    ·exact kT e.on k hk (hall e he ll) h2
   have hm:∀b∈pick full l1,Am b (full.getD i default)=Gy:=by
    intro b hb
    obtain⟨k,hk,rfl⟩:=Yv.1 hb
    have A3:k<i:=(T3.1 gm).2.2 k hk i (by simp)
    refine Gq k i A3 bw ?_
    cases R6:(iE.getD i 0).testBit k with
    |false=>rfl
    |true=>exact(R5 k (by simp[hk]) (hbi k (by omega) R6)).elim
   have R7:pick full (l1++i::l2)=pick full l1++full.getD i default::pick full l2:=by simp[pick]
   rw[R7]at hs
   obtain⟨t1,t2,g1,g2,g3⟩:=qvw hm hs
   refine q7z eK hx ho (rF i o ho) g1 cq fun a' w' iy=>?_
   refine ih (listed.setIfInBounds i Gy) (l1++l2) t1 t2 a' w' (by simpa using da) ?_ ?_ ?_ ?_ (by rw[show pick full (l1++l2)=pick full l1++pick full l2 from by simp[pick]];exact g2) (jO.trans (jO.Gp g3) heq) iy
   ·exact gm.sublist (Eaa.append (Eaa.refl _) (List.sublist_cons_self _ _))
   ·intro k
    rw[qsc]
    have Gs:i ∉ l1∧i ∉ l2:=by
     have h:=T3.1 gm
     refine⟨fun hi1=>?_,fun hi2=>?_⟩
     ·have:=h.2.2 i hi1 i (by simp);omega
     ·have:=(Uf.1 h.2.1).1 i hi2;omega
    constructor
    ·intro hk
     have A3:k≠i:=fun h=>by
      subst h
      rcases Ro.1 hk with h|h
      ·exact Gs.1 h
      ·exact Gs.2 h
     have:=(dx k).1 (by rcases Ro.1 hk with h|h<;>simp[h])
     rw[if_neg (by omega)]
     exact this
    ·rintro ⟨k1,k2⟩
     split at k2
     ·cases k2
     ·rename_i bI
      have A3:k≠i:=fun h=>bI ⟨h.symm,by omega⟩
      have:=(dx k).2 ⟨k1,k2⟩
      rcases Ro.1 this with h|h
      ·simp[h]
      ·rcases Sd.1 h with h|h
       ·exact absurd h A3
       ·simp[h]
   ·simp at hlen ⊢;omega
   ·intro k j hj hk hb
    rw[qsc]at hk ⊢
    split
    ·rfl
    ·split at hk
     ·rename_i oN
      rw[←oN.1]at hb
      exact hbi j hj hb
     ·exact kT k j hj hk hb
theorem q6n {iE l}(h:Qy iE l=Gy){i j}(n6:i<j)(hj:j<l.length)(hb:(iE.getD j 0).testBit i=Hd):Am (l.getD i default) (l.getD j default)=Gy:=by
 unfold Qy at h
 rw[Jk]at h
 have h1:=h (l[j],j) (Q6.2 (by simp[hj]))
 simp only[]at h1
 rw[Jk]at h1
 have h2:=h1 (l[i]'(by omega),i) (Q6.2 (by simp))
 simp only[n6,hb,decide_true,T5,Rn]at h2
 simp only[List.getD_eq_getElem?_getD,Nz hj,Nz (show i<l.length by omega),Q9]
 exact h2
theorem jaa {iE}(h:QA iE ops=Gy){j i o}(ho:ops[j]?=I o)(hi:i<ops.size)(hb:(iE.getD j 0).testBit i=Gy):∃e∈o.after,Region.binds .any e=Gy∧(e.on=i∨(iE.getD e.on 0).testBit i=Gy):=by
 unfold QA at h
 rw[Jk]at h
 have h1:=h (o,j) (Q6.2 (by simpa using ho))
 simp only[]at h1
 rw[Jk]at h1
 have h2:=h1 i (Yj.2 hi)
 rw[hb]at h2
 simp only[T5,Rn,Array.any_eq_true']at h2
 obtain⟨e,he,h3⟩:=h2
 simp only[En,Rf,beq_iff_eq]at h3
 exact⟨e,he,h3.1,h3.2⟩
theorem q2l (h:Qz ops=Gy){i o}(ho:ops[i]?=I o):∀e∈o.after,Region.binds .any e=Gy→e.on<i:=by
 intro e he hb
 unfold Qz at h
 rw[Jk]at h
 have h1:=h (o,i) (Q6.2 (by simpa using ho))
 simp only[Array.all_eq_true']at h1
 have:=h1 e he
 simpa[hb]using this
theorem jd4 (eK:bZ P p)(hx:cJ P xc){id:Nat}{draw:Bool}{ca h na l keep}(hc:Fl P h nt id ops draw=I ca)(eC:ca=.region na l keep){st bX x}(hs:mR p xc na l keep st=I (x,bX)){ω a w}
  (m:az P C ω w0 C0 st.heap w) (he:aq C ω w w0.heap.size st.env a.tmps) (da:a.tmps.size=nt) (kP:Marks C w0.heap.size a.defers):
  (Code.region id ops draw).wpIn (jF ρ) 0 P (fun e a' w'=>e=AP x∧dF P w0 C0 C nt bX a' w') a w:=by
 subst eC
 unfold Fl at hc
 split at hc
 ·rename_i l' rs hl
  split at hc
  ·rename_i hd
   simp only[I.injEq,aw.region.injEq]at hc
   obtain⟨rfl,rfl,n8⟩:=hc
   unfold mR at hs
   split at hs
   ·rename_i s1 h1
    cases hs
    have yK:lO P nt ops (List.range' 0 ops.size) l':=by
     have:=qz1 hl (ops:=ops) (fun j=>by simp)
     simpa using this
    have hQ:∀a' w',dF P w0 C0 C nt s1 a' w'→(fun e a' w'=>e=AP .normal∧dF P w0 C0 C nt (Ah s1 keep) a' w') Exit.normal a' w':=fun a' w' cq=>⟨rfl,cq.keep⟩
    cases draw with
    |false=>
     refine wpIn_region ?_
     rw[List.range_eq_range']
     exact q7n eK hx hQ yK h1 ⟨da,C,ω,aM.le_refl C,kP,m.holes _,he⟩
    |true=>
     simp only[T5,Rn,En]at hd
     obtain⟨⟨d1,d2⟩,d3⟩:=hd
     refine wpIn_region_any eK.mixed ?_
     obtain⟨hlen,R8⟩:=yK.get
     have hlen':l'.length=ops.size:=by rw[←hlen];simp
     have rF:∀i o,ops[i]?=I o→Gk P nt ops o (l'.getD i default):=by
      intro i o ho
      have hi:=(G8.1 ho).1
      obtain⟨o',h2,h3⟩:=R8 i i (by rw[List.getElem?_range' hi];simp)
      rw[ho]at h2;cases h2;exact h3
     have R7:pick l' (List.range ops.size)=l':=by
      apply Se
      intro k
      simp only[pick,Rg]
      by_cases hk:k<ops.size
      ·rw[List.getElem?_range hk]
       simp[Nz (show k<l'.length by omega)]
      ·rw[Tn (by simpa using hk),Tn (by omega)];rfl
     refine jrk (iE:=Region.before ops) (full:=l') eK hx hQ rF (fun i j h2 h3 h4=>q6n d1 h2 (by omega) h4) (fun j o i h2 h3 h4=>jaa d3 h2 h3 h4) (fun i o h2=>q2l d2 h2) ops.size _ (List.range ops.size) ⟨st.env,st.heap++Yi rs.length .hole⟩ s1 a _ (by simp) List.pairwise_lt_range ?_ (by simp) ?_ (by rw[R7];exact h1) (jO.refl _) ⟨da,C,ω,aM.le_refl C,kP,(m.holes _).ext (Ext.drew w),he.ext (Ext.drew w)⟩
     ·intro i
      simp only[Yj,Ik,Sf]
      constructor
      ·intro hi;exact⟨hi,by simp[hi]⟩
      ·exact fun hi=>hi.1
     ·intro k i hi hk
      simp only[Ik,Sf]at hk
      split at hk<;>simp at hk
   ·cases hs
  ·cases hc
 ·cases hc
end
end Go.Abs
