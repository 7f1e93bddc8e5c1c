/- Each operation by itself, third part. -/
import Derived.Test.YtimdocpnkimlfaaGreatDoorAbsC
import Derived.RangeFuncLeaves
import Derived.OrdersIn
set_option linter.unusedVariables false
set_option linter.unusedSimpArgs false
open Option renaming some→I,map_eq_some_iff→Gx,none→Hc,getD_some→Nj,isSome_none→Nx,isNone_some→Sh,bind_some→St,getD_none→Ts,map→Ya
open Bool renaming and_eq_true→En,true→Gv,false→G8,false_eq_true→G9,cond_eq_ite→Jt,or_eq_true→Nz,false_or→Oa,not_true→Sf,xor→X5
open Nat renaming eq_of_beq_eq_true→E3,le_of_ble_eq_true→Gw,beq→G7,blt→Hd,blt_eq→Ih,ble→Jn,le_trans→Js,lt_of_lt_of_le→Ny,zero_add→Q5,beq_refl→Sj
open List renaming getElem?_set_ne→Gs,getElem?_eq_some_iff→G6,all_eq_true→Iy,set_comm→Jp,length_set→Jq,getElem?_set_self→Jr,getElem?_eq_getElem→Jy,mem_of_getElem?→J9,mem_zipIdx_iff_getElem?→Lr,getElem?_map→N7,length_take→N8,mem_append→Ob,getElem?_set→Q7,mem_cons→Rc,ext_getElem?→Rf,isEmpty_iff→Rh,length_eq_zero_iff→Rj,length_map→Rk,mem_append_right→Rl,getElem?_eq_none→Rm,mem_append_left→Rr,pairwise_append→Rs,zip_cons_cons→Sg,pairwise_cons→Si,flatMap_cons→Sk,length_drop→Sm,cons_append→Sn,foldl_cons→Tv,replicate→T2,mem_range→T3,all_cons→T4,map_cons→T5,mem_map→Ue,map_nil→Uf,Sublist→X0
open Array renaming getElem?_eq_some_iff→Gz,getD_eq_getD_getElem?→If,getElem?_eq_getElem→Lu,getElem?_setIfInBounds_ne→N9,getElem?_replicate→Rg,ext'→Se,replicate→Tt
open Ne renaming symm→Jo
open Prod renaming mk→Rb
namespace Go.Abs
section
variable {P:Program}{p:j8}{xc:XC}{C C0:aI}{ω:Nat→Option Loc}{w w0:World}{hp:qh}{env:Env}{a:Act}{o:Oper}{d:Loc}{h:qj}{md:ei}{r h0:Nat}{dst:Option Nat}{al:Option (List Nat)}{cH:cL}{res:bh}
theorem jeb (m:az P C ω w0 C0 hp w)(e:aq C ω w w0.heap.size env a.tmps){t:TypeId}{ps}(ho:o.op=.build t ps)(hc:cM P h md r dst (.build t ps)=I cH)(hs:qf p xc h0 al env hp cH=I res):yf P C C0 w0 a d env o w res:=by
 simp only[cM]at hc
 split at hc
 ·rename_i fs z ht hz
  split at hc
  ·rename_i hall
   obtain⟨fS,mE,rfl⟩:=Gx.1 hc
   simp only[qf,qo]at hs
   split at hs
   ·rename_i qs hq
    split at hs
    ·rename_i cs hf
     obtain rfl:=qx hs
     exact ji m e (qwb e.cm ho ht hz (fun f hf=>Iy.1 hall f hf) mE hq hf)
    ·cases hs
   ·cases hs
  ·cases hc
 ·rename_i len el z ht hz
  split at hc
  ·rename_i n hn
   obtain⟨fS,mE,rfl⟩:=Gx.1 hc
   simp only[qf,qo]at hs
   split at hs
   ·rename_i qs hq
    split at hs
    ·rename_i cs hf
     obtain rfl:=qx hs
     exact ji m e (qy1 e.cm ho ht hz hn mE hq hf)
    ·cases hs
   ·cases hs
  ·cases hc
 ·cases hc
theorem qyh (m:az P C ω w0 C0 hp w)(e:aq C ω w w0.heap.size env a.tmps){t:TypeId}{n ps}(ho:o.op=.buildSlice t n ps)(hc:cM P h md r dst (.buildSlice t n ps)=I cH)(hs:qf p xc h0 al env hp cH=I res):yf P C C0 w0 a d env o w res:=by
 simp only[cM]at hc
 split at hc
 ·rename_i el ht
  split at hc
  ·rename_i sz z ag es hn hz da mE
   split at hc
   ·rename_i hb
    cases hc
    simp only[En,decide_eq_true_eq,beq_iff_eq]at hb
    generalize (dst.map (h.vec.contains ·)).getD G8=bb at hs
    cases bb with
    |true=>
     simp only[if_true,qf,qp]at hs
     split at hs
     ·rename_i qs hq
      split at hs
      ·rename_i xs hx
       cases AH:qw 0 xs with
       |false=>rw[AH]at hs;cases hs
       |true=>
        rw[AH]at hs
        simp only[cond_true]at hs
        split at hs
        ·rename_i h' df
         obtain rfl:=qx hs
         exact .inl (jj6 m e ho ht hn hz hb.1.1.1.1 hb.1.1.1.2 hb.1.1.2 mE hq hx AH df)
        ·cases hs
      ·cases hs
     ·cases hs
    |false=>
    simp only[G9,if_false,qf,qo]at hs
    split at hs
    ·rename_i qs hq
     split at hs
     ·rename_i xs hx
      cases hs
      exact .inl (qy8 m e ho ht hn hz hb.1.1.1.1 hb.1.1.1.2 hb.1.1.2 mE hq hx)
     ·cases hs
    ·cases hs
   ·cases hc
  ·cases hc
 ·cases hc
theorem q0o (m:az P C ω w0 C0 hp w)(e:aq C ω w w0.heap.size env a.tmps){t:TypeId}{x y}(ho:o.op=.makeSlice t x y)(hc:cM P h md r dst (.makeSlice t x y)=I cH)(hs:qf p xc h0 al env hp cH=I res):yf P C C0 w0 a d env o w res:=by
 simp only[cM]at hc
 split at hc
 ·rename_i el ht
  split at hc
  ·rename_i sz b z ag x' y' hn hb hz da h1 h2
   split at hc
   ·cases hc
    generalize hR:(if(Ya (fun x=>h.bR.contains x) dst).getD G8=Gv then I r else Hc)=R at hs
    cases R with
    |some rr=>
     simp only[qf,qp]at hs
     split at hs
     ·rename_i n c e1 e2
      cases hk:(G7 n c&&Jn n 1073741824&&Jn b 4096&&G7 z.length sz&&Hd 0 sz&&z.all qk)with
      |false=>simp[hk]at hs
      |true=>
       simp only[hk,cond_true]at hs
       split at hs
       ·rename_i h' df
        obtain rfl:=qx hs
        simp only[En]at hk
        obtain⟨⟨⟨⟨⟨k1,k2⟩,k3⟩,k4⟩,k5⟩,k6⟩:=hk
        obtain rfl:=E3 k1
        exact .inl (qx3 m e ho ht hn hb hz (Ih.mp k5) (E3 k4) h1 h2 e1 e2 (Gw k2) (Gw k3) df)
       ·cases hs
     ·cases hs
    |none=>
     simp only[qf,qo]at hs
     split at hs
     ·rename_i n c e1 e2
      cases hk:(G7 n c&&Jn n 1073741824&&Jn b 4096&&G7 z.length sz&&Hd 0 sz&&z.all qk)with
      |false=>simp[hk]at hs
      |true=>
       simp only[hk,cond_true]at hs
       cases hs
       simp only[En]at hk
       obtain⟨⟨⟨⟨⟨k1,k2⟩,k3⟩,k4⟩,k5⟩,k6⟩:=hk
       obtain rfl:=E3 k1
       exact .inl (q6q m e ho ht hn hb hz (Ih.mp k5) (E3 k4) h1 h2 e1 e2 (Gw k2) (Gw k3))
     ·cases hs
   ·cases hc
  ·cases hc
 ·cases hc
theorem jdb (m:az P C ω w0 C0 hp w)(e:aq C ω w w0.heap.size env a.tmps){t:TypeId}{x lo hi mx}(ho:o.op=.slice t x lo hi mx)(hc:cM P h md r dst (.slice t x lo hi mx)=I cH)(hs:qf p xc h0 al env hp cH=I res):yf P C C0 w0 a d env o w res:=by
 cases mx with
 |some _=>simp[cM]at hc
 |none=>
  simp only[cM]at hc
  split at hc
  ·rename_i x' lH fL h1 h2 h3
   split at hc
   ·rename_i ht
    cases hc
    simp only[qf,qo]at hs
    split at hs
    ·rename_i s hv
     split at hs
     ·rename_i j hj
      split at hs
      ·rename_i i fL
       obtain rfl:=qx hs
       exact ji m e (q4o e.cm ho ht h1 h2 h3 hv hj fL)
      ·cases hs
     ·cases hs
    ·cases hs
   ·rename_i el ht
    obtain⟨sz,hn,rfl⟩:=Gx.1 hc
    simp only[qf,qo]at hs
    split at hs
    ·rename_i n c8 xs hv
     cases hk:(G7 sz c8||xs.isEmpty)with
     |false=>simp[hk]at hs
     |true=>
      simp only[hk,cond_true]at hs
      split at hs
      ·rename_i j hj
       split at hs
       ·rename_i i fL
        obtain rfl:=qx hs
        refine ji m e (qz4 e.cm ho ht hn h1 h2 h3 hv (.inr ⟨n,c8,xs,rfl,?_,hj,fL,rfl⟩))
        rcases Nz _ _▸hk with hk|hk
        ·exact .inl (E3 hk)
        ·exact .inr (Rh.1 hk)
       ·cases hs
      ·cases hs
    ·rename_i b q len hv
     split at hs
     ·rename_i j hj
      split at hs
      ·rename_i i fL
       cases hk:(G7 i 0||Hd i j)with
       |false=>simp[hk]at hs
       |true=>
        simp only[hk,cond_true]at hs
        obtain rfl:=qx hs
        refine ji m e (qz4 e.cm ho ht hn h1 h2 h3 hv (.inl ⟨b,q,len,rfl,hj,fL,?_,rfl⟩))
        rcases Nz _ _▸hk with hk|hk
        ·exact .inl (E3 hk)
        ·exact .inr (Ih.mp hk)
      ·cases hs
     ·cases hs
    ·rename_i b bJ len hv
     split at hs
     ·rename_i j hj
      split at hs
      ·rename_i i fL
       cases hk:G7 i 0 with
       |false=>simp[hk]at hs
       |true=>
        simp only[hk,cond_true]at hs
        obtain rfl:=qx hs
        obtain rfl:=E3 hk
        exact ji m e (ja9 e.cm ho ht hn h1 h2 h3 hv hj fL)
      ·cases hs
     ·cases hs
    ·cases hs
   ·rename_i n el ht
    obtain⟨sz,hn,rfl⟩:=Gx.1 hc
    simp only[qf,qo]at hs
    split at hs
    ·rename_i b q hv
     split at hs
     ·rename_i j hj
      split at hs
      ·rename_i i fL
       cases hk:(G7 i 0||Hd i j)with
       |false=>simp[hk]at hs
       |true=>
        simp only[hk,cond_true]at hs
        obtain rfl:=qx hs
        refine ji m e (q5t e.cm ho ht hn h1 h2 h3 hv hj fL ?_)
        rcases Nz _ _▸hk with hk|hk
        ·exact .inl (E3 hk)
        ·exact .inr (Ih.mp hk)
      ·cases hs
     ·cases hs
    ·cases hs
   ·cases hc
  ·cases hc
theorem q0u (m:az P C ω w0 C0 hp w)(e:aq C ω w w0.heap.size env a.tmps){t:TypeId}{x i}(ho:o.op=.fieldAddr t x i)(hc:cM P h md r dst (.fieldAddr t x i)=I cH)(hs:qf p xc h0 al env hp cH=I res):yf P C C0 w0 a d env o w res:=by
 simp only[cM]at hc
 split at hc
 ·rename_i fs ht
  split at hc
  ·rename_i f hf
   split at hc
   ·rename_i ag n x' da hn h1
    split at hc
    ·rename_i hb
     cases hc
     simp only[En,decide_eq_true_eq]at hb
     simp only[qf,qo]at hs
     split at hs
     ·rename_i b q hv
      obtain rfl:=qx hs
      exact ji m e (qox (ag:=ag) e.cm ho ht hf hn hb.1 h1 hv (.inl ⟨b,q,rfl,rfl⟩))
     ·rename_i cs hv
      split at hs
      ·rename_i z hz
       cases hk:X5 ag z.isAgg with
       |true=>simp[hk]at hs
       |false=>
        simp only[hk,cond_false]at hs
        obtain rfl:=qx hs
        exact ji m e (qox e.cm ho ht hf hn hb.1 h1 hv (.inr ⟨cs,z,rfl,hz,hk,rfl⟩))
      ·cases hs
     ·rename_i b bJ q hv
      obtain rfl:=qx hs
      exact ji m e (qzl e.cm ho ht hf hn hb.1 h1 hv)
     ·cases hs
    ·cases hc
   ·cases hc
  ·cases hc
 ·cases hc
theorem jfm (m:az P C ω w0 C0 hp w)(e:aq C ω w w0.heap.size env a.tmps){t:TypeId}{x i}(ho:o.op=.field t x i)(hc:cM P h md r dst (.field t x i)=I cH)(hs:qf p xc h0 al env hp cH=I res):yf P C C0 w0 a d env o w res:=by
 simp only[cM]at hc
 split at hc
 ·rename_i fs ht
  split at hc
  ·rename_i f hf
   split at hc
   ·rename_i ag n x' da hn h1
    cases hc
    simp only[qf,qo]at hs
    split at hs
    ·rename_i cs hv
     obtain⟨z,hz,rfl⟩:=vo hs
     exact ji m e (jf3 e.cm ho ht hf da hn h1 hv hz)
    ·cases hs
   ·cases hc
  ·cases hc
 ·cases hc
theorem q0l (m:az P C ω w0 C0 hp w)(e:aq C ω w w0.heap.size env a.tmps){t:TypeId}{x i}(ho:o.op=.indexAddr t x i)(hc:cM P h md r dst (.indexAddr t x i)=I cH)(hs:qf p xc h0 al env hp cH=I res):yf P C C0 w0 a d env o w res:=by
 simp only[cM]at hc
 split at hc
 ·rename_i x' i' h1 h2
  split at hc
  ·rename_i el ht
   split at hc
   ·rename_i sz hn
    split at hc
    ·cases hc
     simp only[qf,qo]at hs
     split at hs
     ·rename_i nl c8 xs iv hv hi
      cases hk:(G7 sz c8||xs.isEmpty)with
      |false=>simp[hk]at hs
      |true=>
       simp only[hk,cond_true]at hs
       split at hs
       ·rename_i j hj
        split at hs
        ·rename_i z hz
         obtain rfl:=qx hs
         have bG:xs.isEmpty=G8:=by
          have:=(G6.1 hz).1
          cases xs with
          |nil=>simp at this
          |cons _ _=>rfl
         rw[bG,Bool.or_false]at hk
         obtain rfl:=E3 hk
         exact ji m e (qo0 e.cm ho ht hn h1 h2 hv hi (.inr ⟨nl,xs,z,j,rfl,hj,hz,rfl⟩))
        ·cases hs
       ·cases hs
     ·rename_i b q len iv hv hi
      split at hs
      ·rename_i j hj
       obtain rfl:=qx hs
       exact ji m e (qo0 e.cm ho ht hn h1 h2 hv hi (.inl ⟨b,q,len,j,rfl,hj,rfl⟩))
      ·cases hs
     ·rename_i b bJ len iv hv hi
      split at hs
      ·rename_i j hj
       obtain rfl:=qx hs
       exact ji m e (qyl e.cm ho ht hn h1 h2 hv hi hj)
      ·cases hs
     ·cases hs
    ·cases hc
   ·cases hc
  ·rename_i n el ht
   split at hc
   ·rename_i sz ag hn da
    split at hc
    ·cases hc
     simp only[qf,qo]at hs
     split at hs
     ·rename_i b q iv hv hi
      split at hs
      ·rename_i j hj
       obtain rfl:=qx hs
       exact ji m e (qqb (ag:=ag) e.cm ho ht hn h1 h2 hv hi hj (.inl ⟨b,q,rfl,rfl⟩))
      ·cases hs
     ·rename_i cs iv hv hi
      split at hs
      ·rename_i j hj
       split at hs
       ·rename_i z hz
        cases hk:X5 ag z.isAgg with
        |true=>simp[hk]at hs
        |false=>
         simp only[hk,cond_false]at hs
         obtain rfl:=qx hs
         exact ji m e (qqb e.cm ho ht hn h1 h2 hv hi hj (.inr ⟨cs,z,rfl,hz,hk,rfl⟩))
       ·cases hs
      ·cases hs
     ·cases hs
    ·cases hc
   ·cases hc
  ·cases hc
 ·cases hc
theorem jdd (m:az P C ω w0 C0 hp w)(e:aq C ω w w0.heap.size env a.tmps){t:TypeId}{x i}(ho:o.op=.index t x i)(hc:cM P h md r dst (.index t x i)=I cH)(hs:qf p xc h0 al env hp cH=I res):yf P C C0 w0 a d env o w res:=by
 simp only[cM]at hc
 split at hc
 ·rename_i x' i' h1 h2
  split at hc
  ·rename_i ht
   cases hc
   simp only[qf,qo]at hs
   split at hs
   ·rename_i s iv hv hi
    split at hs
    ·rename_i j hj
     split at hs
     ·rename_i c dF
      obtain rfl:=qx hs
      exact ji m e (q2m e.cm ho ht h1 h2 hv hi hj dF)
     ·cases hs
    ·cases hs
   ·cases hs
  ·rename_i n el ht
   split at hc
   ·rename_i sz ag hn da
    cases hc
    simp only[qf,qo]at hs
    split at hs
    ·rename_i cs iv hv hi
     split at hs
     ·rename_i j hj
      obtain⟨z,hz,rfl⟩:=vo hs
      exact ji m e (jd5 e.cm ho ht da hn h1 h2 hv hi hj hz)
     ·cases hs
    ·cases hs
   ·cases hc
  ·cases hc
 ·cases hc
theorem q60 (m:az P C ω w0 C0 hp w)(e:aq C ω w w0.heap.size env a.tmps){c}(ho:o.op=.call c)(oM:∀f,c.callee≠.value f)(hc:Ah P h md r dst c=I cH)(hs:qf p xc h0 al env hp cH=I res):yf P C C0 w0 a d env o w res:=by
 unfold Ah at hc
 split at hc
 ·rename_i f hf;exact absurd hf (oM f)
 ·rename_i dU
  split at hc
  ·rename_i x t eg eI
   split at hc
   ·rename_i ht
    obtain⟨x',hx,rfl⟩:=Gx.1 hc
    simp only[qf,qo]at hs
    split at hs<;>first|(exfalso;omega)|skip
    ·rename_i s _ hv
     obtain rfl:=qx hs
     exact ji m e (QT e.cm ho dU eg eI hx hv (.inl ⟨ht,s,rfl,rfl⟩))
    ·cases hs
   ·rename_i el ht
    obtain⟨x',hx,rfl⟩:=Gx.1 hc
    simp only[qf,qo]at hs
    split at hs<;>first|(exfalso;omega)|skip
    ·rename_i n sz xs _ hv
     obtain rfl:=qx hs
     exact ji m e (QT e.cm ho dU eg eI hx hv (.inr ⟨⟨el,ht⟩,.inl ⟨n,sz,xs,rfl,rfl⟩⟩))
    ·rename_i b q n _ hv
     obtain rfl:=qx hs
     exact ji m e (QT e.cm ho dU eg eI hx hv (.inr ⟨⟨el,ht⟩,.inr ⟨b,q,rfl⟩⟩))
    ·rename_i b bJ n _ hv
     obtain rfl:=qx hs
     exact ji m e (jh0 e.cm ho dU eg eI hx hv ht)
    ·cases hs
   ·cases hc
  ·cases hc
 ·rename_i dU
  split at hc
  ·rename_i x t eg eI
   split at hc
   ·rename_i el ht
    obtain⟨x',hx,rfl⟩:=Gx.1 hc
    simp only[qf,qo]at hs
    split at hs<;>first|(exfalso;omega)|skip
    ·rename_i sz xs _ hv
     obtain rfl:=qx hs
     refine ji m e ?_
     have ha:c.args=#[x]:=by apply Se;simpa using eg
     have lI:c.argTypes=#[t]:=by apply Se;simpa using eI
     refine⟨.int .i64 0,?_,.int _ _⟩
     have hq:∃b,a.eval x=.slice b 0 0:=by
      rcases(qv e.cm hx hv).cU with⟨_,_,h⟩|⟨h,_⟩|⟨h,_⟩
      ·exact⟨_,h⟩
      ·cases h
      ·cases h
     obtain⟨b,hq⟩:=hq
     simp[execOp,ho,resolve,dU,ha,lI,invoke,builtin,Builtin.cap_,run_underlying ht,hq,goInt]
    ·cases hs
   ·cases hc
  ·cases hc
 ·rename_i dU
  split at hc
  ·rename_i x y t u eg eI
   split at hc
   ·rename_i el ut ht hu
    split at hc
    ·rename_i jI
     split at hc
     ·rename_i sz b x' y' hn hb h1 h2
      cases hc
      have hzero:∃z,yr P el=I z∧z.length=sz:=by
       have hz:=(En _ _▸jI).2
       rw[hn]at hz
       cases yA:yr P el with
       |none=>simp[yA]at hz
       |some z=>exact⟨z,rfl,by simpa[yA]using hz⟩
      generalize (dst.map (h.vec.contains ·)).getD G8=bb at hs
      cases bb with
      |true=>
       simp only[if_true,qf,qp]at hs
       split at hs
       ·rename_i Rn vy e1 e2
        split at hs
        ·rename_i ys cN
         cases hk:(Jn ys.length 1073741824&&Jn b 4096&&Hd 0 sz&&!ys.isEmpty&&qw 0 ys&&Hd r 1000)with
         |false=>rw[hk]at hs;cases hs
         |true=>
          rw[hk]at hs
          simp only[cond_true]at hs
          split at hs
          ·rename_i h' df
           obtain rfl:=qx hs
           simp only[En]at hk jI
           obtain⟨⟨⟨⟨⟨k1,k2⟩,k3⟩,k4⟩,k5⟩,_⟩:=hk
           exact .inl (jlv m e ho dU eg eI ht hu jI.1 hn hb h1 h2 e1 e2 cN (Gw k1) (by intro h;rw[h]at k4;cases k4) (Gw k2) k5 hzero df)
          ·cases hs
        ·cases hs
       ·rename_i bx bJ len vy e1 e2
        split at hs
        ·rename_i c8 dA xs gI
         split at hs
         ·rename_i ys cN
          cases hk:(G7 bJ dA&&G7 sz c8&&Jn len xs.length&&Jn (len+ys.length) 1073741824&&Jn b 4096&&Hd 0 sz&&qw 0 ys&&Hd r 1000)with
          |false=>rw[hk]at hs;cases hs
          |true=>
           rw[hk]at hs
           simp only[cond_true]at hs
           split at hs
           ·rename_i h' bD
            obtain rfl:=qx hs
            simp only[En]at hk jI
            obtain⟨⟨⟨⟨⟨⟨⟨k1,k2⟩,k3⟩,k4⟩,k5⟩,k6⟩,k7⟩,_⟩:=hk
            obtain rfl:=E3 k1
            obtain rfl:=E3 k2
            exact .inl (jl7 m e ho dU eg eI ht hu jI.1 hn hb h1 h2 e1 e2 cN gI (Gw k3) (Gw k4) (Gw k5) k7 hzero bD)
           ·cases hs
         ·cases hs
        ·cases hs
       ·cases hs
      |false=>
      simp only[G9,if_false]at hs
      generalize hR:(if(Ya (fun x=>h.bR.contains x) dst).getD G8=Gv then I r else Hc)=R at hs
      cases R with
      |some rr=>
       simp only[qf,qp]at hs
       split at hs
       ·rename_i c8 vy e1 e2
        cases fZ:((zq env x').isSome&&G7 sz c8)with
        |false=>simp[fZ]at hs
        |true=>
         simp only[fZ,cond_true]at hs
         split at hs
         ·rename_i ys cN
          cases dk:(Jn ys.length 1073741824&&Jn b 4096&&Hd 0 sz)with
          |false=>simp[dk]at hs
          |true=>
           simp only[dk,cond_true]at hs
           split at hs
           ·rename_i h' df
            cases hs
            simp only[En]at dk jI fZ
            obtain⟨⟨k2,k3⟩,k4⟩:=dk
            refine .inl (q0p m e ho dU eg eI ht hu jI.1 hn hb h1 h2 e1 e2 cN fZ.1 rfl (Gw k2) (Gw k3) ?_ (E3 fZ.2) df)
            have hz:=jI.2
            rw[hn]at hz
            cases yA:yr P el with
            |none=>simp[yA]at hz
            |some z=>exact⟨z,rfl,by simpa[yA]using hz⟩
           ·cases hs
         ·cases hs
       ·cases hs
      |none=>
       simp only[qf,qo]at hs
       split at hs
       ·rename_i n c8 xs vy e1 e2
        cases fZ:(n||(zq env x').isSome)with
        |false=>simp[fZ]at hs
        |true=>
         simp only[fZ,cond_true]at hs
         split at hs
         ·rename_i ys cN
          cases dk:((G7 sz c8||(xs.isEmpty&&n))&&Jn (xs.length+ys.length) 1073741824&&Jn b 4096&&Hd 0 sz)with
          |false=>simp[dk]at hs
          |true=>
           simp only[dk,cond_true]at hs
           cases hs
           simp only[En]at dk jI
           obtain⟨⟨⟨k1,k2⟩,k3⟩,k4⟩:=dk
           refine .inl (jam m e ho dU eg eI ht hu jI.1 hn hb h1 h2 e1 e2 cN (by simpa using fZ) ?_ (Gw k2) (Gw k3) ?_)
           ·rcases Nz _ _▸k1 with k1|k1
            ·exact .inl (E3 k1)
            ·simp only[En,Rh]at k1;exact .inr k1
           ·have hz:=jI.2
            rw[hn]at hz
            cases yA:yr P el with
            |none=>simp[yA]at hz
            |some z=>exact⟨z,rfl,by simpa[yA]using hz⟩
         ·cases hs
       ·cases hs
     ·cases hc
    ·cases hc
   ·cases hc
  ·cases hc
 ·rename_i dU
  split at hc
  ·rename_i x y t ts eg eI
   split at hc
   ·rename_i el ht
    split at hc
    ·rename_i sz x' y' hn h1 h2
     cases hc
     simp only[qf,qp]at hs
     split at hs
     ·rename_i b q len vy e1 e2
      cases hk:zc h0 al b with
      |false=>simp[hk]at hs
      |true=>
       simp only[hk,cond_true]at hs
       split at hs
       ·rename_i cs hcs
        split at hs
        ·rename_i n us cN
         split at hs
         ·rename_i ez b6
          cases dk:G7 us.length (n*sz)with
          |false=>simp[dk]at hs
          |true=>
           simp only[dk,cond_true]at hs
           split at hs
           ·rename_i h' bD
            obtain rfl:=qx hs
            exact .inl (jgt m e ho dU eg eI ht hn h1 h2 e1 e2 hcs cN b6 (E3 dk) bD)
           ·cases hs
         ·cases hs
        ·cases hs
       ·cases hs
     ·cases hs
    ·cases hc
   ·cases hc
  ·cases hc
 ·rename_i dU
  split at hc
  ·rename_i x y t ts eg eI
   split at hc
   ·rename_i kt el ht
    split at hc
    ·rename_i kd x' y' iD h1 h2
     cases hc
     simp only[qf,qp]at hs
     split at hs
     ·rename_i b kv e1 e2
      cases hk:zc h0 al b with
      |false=>simp[hk]at hs
      |true=>
       simp only[hk,cond_true]at hs
       split at hs
       ·rename_i es hb
        split at hs
        ·rename_i r hf
         split at hs
         ·rename_i h' bD
          obtain rfl:=qx hs
          exact .inl (q9w m e ho dU eg eI ht iD h1 h2 e1 e2 hb hf bD)
         ·cases hs
        ·cases hs
       ·cases hs
     ·cases hs
    ·cases hc
   ·cases hc
  ·cases hc
 ·rename_i dU
  obtain⟨l,hl,rfl⟩:=Gx.1 hc
  simp only[qf,qo]at hs
  split at hs
  ·rename_i v vs hv
   obtain⟨z,hz,rfl⟩:=vo hs
   exact ji m e (jfv (mx:=true) e.cm ho dU hl hv hz)
  ·cases hs
 ·rename_i dU
  obtain⟨l,hl,rfl⟩:=Gx.1 hc
  simp only[qf,qo]at hs
  split at hs
  ·rename_i v vs hv
   obtain⟨z,hz,rfl⟩:=vo hs
   exact ji m e (jfv (mx:=false) e.cm ho dU hl hv hz)
  ·cases hs
 ·cases hc
end
def aI.cut (C:aI)(n:Nat):aI:={ C with β:=fun b=>if b<n then C.β b else Hc }
theorem aI.eU (C:aI)(n:Nat):(C.cut n).le C where
 k _ _ _ h:=h
 b b r h:=by
  simp only[aI.cut]at h
  split at h
  ·exact h
  ·cases h
 w:=rfl
 d _ h:=h
theorem aI.iK {C C':aI}{n}(h:C.le C')(hn:∀b r,C.β b=I r→b<n):C.le (C'.cut n):=
 ⟨h.1,fun b r hb=>by simp only[aI.cut];rw[if_pos (hn b r hb)];exact h.2 b r hb,h.w,h.d,h.t⟩
section
variable {P:Program}{p:j8}{xc:XC}{C C0:aI}{ω:Nat→Option Loc}{w w0:World}{hp:qh}{env:Env}{tmps:Array Value}{B:Nat}
theorem aJ.cut {ℓ x v}(n:Nat)(ho:aJ C ω w B ℓ x v):aJ (C.cut n) ω w B ℓ x v:=by
 unfold aJ at *
 split at ho
 ·obtain⟨h1,h2,h3,h4,h5⟩:=ho
  exact⟨h1,h2,fun b hb=>h3 b ((aI.eU C n).2 b _ hb),h4,h5⟩
 ·obtain⟨h1,h2,h3,h4,h5⟩:=ho
  exact⟨h1,h2,fun b hb=>h3 b ((aI.eU C n).2 b _ hb),h4,h5⟩
 ·trivial
theorem bP.cut {x v n}(h:bP C x v)(hb:below n x=Gv):bP (C.cut n) x v:=
 aB.shift (C:=C) (C':=C.cut n) n (fun _ _ _ h=>h) (fun b r bw hb=>by simp only[aI.cut];rw[if_pos bw];exact hb) h hb
theorem Ru {n}:∀ {e:Env} {s:Nat} {x:AVal×Bool},mV n e=Gv→jj s e=I x→below n x.1=Gv
 | [],_,_,_,h=>by simp[jj]at h
 |(t,y)::e,s,x,hb,h=>by
  simp only[mV,En]at hb
  simp only[jj]at h
  cases lM:G7 t s with
  |true=>simp only[lM,cond_true,I.injEq]at h;subst h;exact hb.1
  |false=>simp only[lM,cond_false]at h;exact Ru hb.2 h
theorem qoz {n}:∀ {l:qh} {b:Nat} {x:bg},zr n l=Gv→l[b]?=I x→nY n x=Gv
 | [],_,_,_,h=>by simp at h
 |y::l,b,x,hb,h=>by
  simp only[zr,En]at hb
  cases b with
  |zero=>simp at h;subst h;exact hb.1
  |succ b=>simp at h;exact qoz hb.2 h
theorem ql9 {n}:∀ {l:List (AVal×Bool)} {j:Nat} {c:AVal×Bool},pw n l=Gv→l[j]?=I c→below n c.1=Gv
 | [],_,_,_,h=>by simp at h
 |(y,o)::l,j,c,hb,h=>by
  simp only[pw,En]at hb
  cases j with
  |zero=>simp at h;subst h;exact hb.1
  |succ j=>simp at h;exact ql9 hb.2 h
theorem cB.cut {n es ms}(hr:cB C es ms):qI n es=Gv→cB (C.cut n) es ms:=by
 induction hr with
 |nil=>exact fun _=>.nil
 |cons k v es m ms hk hv _ ih=>
  intro hb
  simp only[qI,En]at hb
  exact .cons k v es m ms (bP.cut hk hb.1.1) (bP.cut hv hb.1.2) (ih hb.2)
theorem bE.cut {b r n x}(h:bE P C ω w B b r x)(hb:nY n x=Gv):bE P (C.cut n) ω w B b r x:=by
 cases x with
 |hole=>exact h
 |cells cs=>
  obtain⟨vs,el,h1,h2,h3⟩:=h
  exact⟨vs,el,h1,h2,fun j c hc=>let ⟨v,a,q,b,d⟩:=h3 j c hc; ⟨v,a,q,bP.cut b (ql9 hb hc),fun e=>(d e).cut n⟩⟩
 |map es=>obtain⟨b9,clock,h1,h2⟩:=h;exact⟨b9,clock,h1,h2.cut hb⟩
 |iter s pos=>exact h
 |loop l=>obtain⟨lp,h1,h2⟩:=h;exact⟨lp,h1,{ h2 with env:=fun s x hx=>let ⟨v,a,b⟩:=h2.env s x hx; ⟨v,a,bP.cut b (Ru hb hx)⟩ }⟩
 |fV t e l=>obtain⟨p,v,h1,h2,h3,h4⟩:=h;exact⟨p,v,h1,h2,h3,h4.cut n⟩
 |dead=>exact h
 |vec sz bJ xs=>exact ea.imp (C:=C) (C':=C.cut n) (ω:=ω) (ω':=ω) (B':=B) (fun _ _ _ h=>h) (fun _ h=>h) (fun _ h _=>h) rfl (fun q n' cap k=>⟨rfl,aJ.cut (C:=C) n k⟩) h
theorem az.gc (m:az P C ω w0 C0 hp w){n:Nat}(hn:n≤hp.length)(hb:zr n (hp.take n)=Gv)(h0:∀b r,C0.β b=I r→b<n):az P (C.cut n) ω w0 C0 (hp.take n) w where
 base:=m.base
 know:=m.know
 de:=m.de
 apart b r o hb:=m.apart b r o ((aI.eU C n).2 b r hb)
 inj b b' r h1 h2:=m.inj b b' r ((aI.eU C n).2 _ _ h1) ((aI.eU C n).2 _ _ h2)
 lt b r h:=by
  have h1:=m.lt b r ((aI.eU C n).2 _ _ h)
  refine⟨h1.1,?_⟩
  simp only[aI.cut]at h
  split at h
  ·rw[N8];omega
  ·cases h
 size:=m.size
 frame:=m.frame
 fo:=m.fo
 os:=m.os
 output:=m.output
 fresh b r h:=m.fresh b r ((aI.eU C n).2 _ _ h)
 grown:=aI.iK m.grown h0
 old:=m.old
 box b x r hx hr:=by
  have bw:b<n:=by
   have:=(G6.1 hx).1
   rw[N8]at this;omega
  have fh:hp[b]?=I x:=by rwa [List.getElem?_take_of_lt bw]at hx
  exact(m.box b x r fh ((aI.eU C n).2 _ _ hr)).cut (qoz hb hx)
 iA:=m.iA
theorem aq.cut {n}(e:aq C ω w B env tmps)(hb:mV n env=Gv):aq (C.cut n) ω w B env tmps:=
 fun s x hx=>let ⟨v,h1,h2,h3⟩:=e s x hx; ⟨v,h1,bP.cut h2 (Ru hb hx),fun h=>(h3 h).cut n⟩
def j4j (env:Env)(hp:qh)(r:mU)(ℓ:Loc)(x:AVal×Bool):Prop:=
 (∃s,ℓ=.slot s)∨∃t n b j ow cs,r=.cell t G8 n∧jj t env=I (.ptr b j,ow)∧ℓ=.cell b j∧jw hp b=I cs∧cs[j]?=I x
def Rv (C:aI)(ω:Nat→Option Loc)(w:World)(B:Nat)(env:Env)(hp:qh)(r:mU)(x:AVal×Bool)(v:Value):Prop:=bP C x.1 v∧(x.2=Gv→∃ℓ,aJ C ω w B ℓ x.1 v∧j4j env hp r ℓ x)
theorem q2l {B'}(m:az P C ω w0 C0 hp w)(hB:B'=w0.heap.size)(e:aq C ω w B' env tmps){rv r x}(hc:KR P rv=I r)(hr:uZ ⟨env,hp⟩ r=I x):
  ∃v,((match rv with | .tmp t=>pure (tmps.getD t undef) | .cell a t=>do loadVar t (←asAddr (tmps.getD a undef)):Sem Value)).run P w=.ok v w∧Rv C ω w B' env hp r x v:=by
 subst hB
 cases rv with
 |tmp t=>
  simp only[KR]at hc
  cases hc
  simp only[uZ]at hr
  obtain⟨v,h1,h2,h3⟩:=e t x hr
  refine⟨v,?_,h2,fun h=>⟨_,h3 h,.inl ⟨_,rfl⟩⟩⟩
  simp[If,h1]
 |cell t ty=>
  simp only[KR]at hc
  have key:∀ {ag:Bool} {n:Nat},yo P ty=I ag→jp P ty=I n→(ag=G8→n=1)→uZ ⟨env,hp⟩ (.cell t ag n)=I x→∃v,((do loadVar ty (←asAddr (tmps.getD t undef)):Sem Value)).run P w=.ok v w∧Rv C ω w w0.heap.size env hp (.cell t ag n) x v:=by
   intro ag n hg hn FF hr
   simp only[uZ]at hr
   split at hr
   ·rename_i b q ow hl
    obtain⟨u,h1,h2,_⟩:=e t _ hl
    obtain⟨r,iC,rfl⟩:=h2.dj
    have hu:tmps.getD t undef=.pointer (I ⟨r,q,Hc⟩):=by simp[If,h1]
    split at hr
    ·rename_i cs hcs
     have gH:=m.box b _ r (wA hcs) iC
     split at hr
     ·rename_i us gU
      cases ag with
      |true=>
       simp only[cond_true,I.injEq]at hr
       subst hr
       obtain⟨vs,k1,_,k2,k3,_⟩:=gH.read gU
       refine⟨.agg ⟨vs⟩,?_,.agg _ _ k1,by simp⟩
       simp[hu,asAddr,FD hg hn k2 k3]
      |false=>
       simp only[cond_false]at hr
       split at hr
       ·rename_i c hc
        cases hr
        obtain⟨vs,te,g1,g2,g3⟩:=gH
        obtain⟨v,a1,a2,a3,a4⟩:=g3 q _ hc
        have dY:w.cell? ⟨r,q,Hc⟩=I v:=by
         simp only[World.cell?,g1]
         simpa using a1
        refine⟨v,?_,a3,fun h=>⟨_,a4 h,.inr ⟨_,_,_,_,_,_,rfl,hl,rfl,hcs,hc⟩⟩⟩
        simp[hu,asAddr,FE hg dY]
       ·cases hr
     ·cases hr
    ·cases hr
   ·cases hr
  split at hc
  ·rename_i n hg hn;cases hc;exact key hg hn (by simp) hr
  ·rename_i hg hn;cases hc;exact key hg hn (fun _=>rfl) hr
  ·cases hc
inductive kN (P:Program)(C:aI)(ω:Nat→Option Loc)(w:World)(B:Nat)(env:Env)(hp:qh):List mU→List (AVal×Bool)→List Value→Prop where
 |nil:kN P C ω w B env hp [] [] []
 |cons {r:mU} {x:AVal×Bool} {v:Value} {rs:List mU} {xs:List (AVal×Bool)} {vs:List Value} (h:Rv C ω w B env hp r x v) (t:kN P C ω w B env hp rs xs vs):kN P C ω w B env hp (r::rs) (x::xs) (v::vs)
theorem kN.cm {rs xs vs}(h:kN P C ω w B env hp rs xs vs):aS C (xs.map (·.1)) vs:=by
 induction h with
 |nil=>exact .nil
 |cons h _ ih=>exact .cons _ _ _ _ h.1 ih
theorem qo2 {B'}(m:az P C ω w0 C0 hp w)(hB:B'=w0.heap.size)(e:aq C ω w B' env tmps):∀ {l:List ResultVar} {rs:List mU} {xs:List (AVal×Bool)},Al P l=I rs→km ⟨env,hp⟩ rs=I xs →
  ∃vs,(l.mapM fun(rv:ResultVar)=>(match rv with | .tmp t=>pure (tmps.getD t undef) | .cell a t=>do loadVar t (←asAddr (tmps.getD a undef)):Sem Value)).run P w=.ok vs w∧kN P C ω w B' env hp rs xs vs
 | [],rs,xs,hc,hr=>by
  simp[Al]at hc;subst hc
  simp[km]at hr;subst hr
  exact⟨[],rfl,.nil⟩
 |rv::l,rs,xs,hc,hr=>by
  simp only[Al]at hc
  split at hc
  ·rename_i r Dw h1 h2
   cases hc
   simp only[km]at hr
   split at hr
   ·rename_i x hx
    split at hr
    ·rename_i ys ng
     cases hr
     obtain⟨v,k1,k2⟩:=q2l m hB e h1 hx
     obtain⟨vs,j1,j2⟩:=qo2 m hB e h2 ng
     refine⟨v::vs,?_,.cons k2 j2⟩
     simp only[List.mapM_cons,Sem.run_bind,k1,Result.andThen_ok,j1,Sem.run_pure]
    ·cases hr
   ·cases hr
  ·cases hc
def DI:List Value→Value
 | [v]=>v
 |vs=>.tuple ⟨vs⟩
theorem qum (m:az P C ω w0 C0 hp w){ω' b j v ow cs}(lv:jw hp b=I cs)(hc:cs[j]?=I (v,ow))(hω:∀b' j' y u,(b'≠b∨j'≠j)→aJ C ω w w0.heap.size (.cell b' j') y u→aJ C ω' w w0.heap.size (.cell b' j') y u):
  az P C ω' w0 C0 (hp.set b (.cells (cs.set j (v,G8)))) w:=by
 by_cases hb:∃r,C.β b=I r
 ·obtain⟨r,hr⟩:=hb
  obtain⟨vs,te,hg,cS,hold⟩:=m.box b _ r (wA lv) hr
  obtain⟨cv,k1,k2,k3,k4⟩:=hold j _ hc
  have hu:nv w w r:=⟨rfl,fun _ _=>rfl,fun c t fr h=>by rw[hg]at h;cases h;rfl,rfl,rfl⟩
  refine m.dO hu hr _ (fun b' j' y u fi hz=>hω b' j' y u (.inl fi) hz) ⟨vs,te,hg,by simpa using cS,fun i c hi=>?_⟩
  rw[Q7]at hi
  split at hi
  ·rename_i pC
   subst pC
   split at hi
   ·cases hi;exact⟨cv,k1,k2,k3,by simp⟩
   ·cases hi
  ·rename_i pC
   obtain⟨u,a1,a2,a3,a4⟩:=hold i c hi
   exact⟨u,a1,a2,a3,fun h=>hω b i _ _ (.inr (Jo pC)) (a4 h)⟩
 ·refine { m with lt:=fun k r hk=>by rw[Jq];exact m.lt k r hk,box:=fun k x r hx hk=>?_ }
  have kJ:k≠b:=fun h=>hb ⟨r,h▸hk⟩
  rw[Gs (Jo kJ)]at hx
  exact(m.box k x r hx hk).mono (aI.le_refl C) fun j' y u ho=>hω k j' y u (.inl kJ) ho
theorem jlp (m:az P C ω w0 C0 hp w){rs xs vs}(h:kN P C ω w w0.heap.size env hp rs xs vs):
  ∃ω',az P C ω' w0 C0 (kz ⟨env,hp⟩ rs) w∧bP C (j9 xs).1 (DI vs)∧((j9 xs).2=Gv→aJ C ω' w w0.heap.size (.slot 0) (j9 xs).1 (DI vs)):=by
 have same:∃ω',az P C ω' w0 C0 hp w:=⟨ω,m⟩
 cases h with
 |nil=>exact⟨ω,m,by simpa[j9,DI]using aB.aC _ _ (aB.nil),by simp[j9]⟩
 |cons hx ht=>
  cases ht with
  |cons hy ht=>
   have:=(kN.cons hx (kN.cons hy ht)).cm
   exact⟨ω,by simpa[kz]using m,by simpa[j9,DI]using aB.aC _ _ this,by simp[j9]⟩
  |nil=>
   rename_i r x v
   obtain⟨h1,h2⟩:=hx
   simp only[j9]
   -- without the flag
   have plain:az P C ω w0 C0 (kz ⟨env,hp⟩ [r]) w:=by
    unfold kz
    split
    ·split
     ·split
      ·rename_i cs hcs
       split
       ·rename_i u hu
        exact qum m hcs hu (fun _ _ _ _ _ h=>h)
       ·exact m
      ·exact m
     ·exact m
    ·exact m
   by_cases hk:x.2=Gv
   ·have fZ:=hk
    obtain⟨ℓ,h3,h4⟩:=h2 fZ
    refine⟨vk ω x.1 v (.slot 0),?_,h1,fun _=>K8 h3⟩
    rcases h4 with⟨s,rfl⟩|⟨t,n,b,j,ow,cs,rfl,g1,rfl,g2,g3⟩
    ·exact { plain with box:=fun b x r hx hb=>(plain.box b x r hx hb).mono (aI.le_refl C) fun j y u hz=>xZ h3 (by simp) hz }
    ·obtain⟨xv,xo⟩:=x
     simp only at fZ
     subst fZ
     have:kz ⟨env,hp⟩ [.cell t G8 n]=hp.set b (.cells (cs.set j (xv,G8))):=by
      simp only[kz,g1,g2,g3]
     rw[this]
     exact qum m g2 g3 fun b' j' y u bG hz=>xZ h3 (by
      rcases bG with bG|bG
      ·simp[bG]
      ·simp[bG]) hz
   ·exact⟨ω,plain,h1,fun h=>absurd h hk⟩
theorem q7l {fn}(m:az P C ω w0 C0 hp w)(e:aq C ω w w0.heap.size env tmps){rs xs}(hc:Al P fn.results.toList=I rs)(hr:km ⟨env,hp⟩ rs=I xs):
  ∃v ω',(results fn tmps).run P w=.ok v w∧az P C ω' w0 C0 (kz ⟨env,hp⟩ rs) w∧bP C (j9 xs).1 v∧((j9 xs).2=Gv→aJ C ω' w w0.heap.size (.slot 0) (j9 xs).1 v):=by
 obtain⟨vs,h1,h2⟩:=qo2 m rfl e hc hr
 have lK:(fn.results.mapM fun(rv:ResultVar)=>(match rv with | .tmp t=>pure (tmps.getD t undef) | .cell a t=>do loadVar t (←asAddr (tmps.getD a undef)):Sem Value)).run P w=.ok vs.toArray w:=by
  rw[Array.mapM_eq_mapM_toList]
  simp only[Sem.run_map]
  rw[h1]
  rfl
 have bF:(results fn tmps).run P w=.ok (if h:vs.toArray.size=1 then vs.toArray[0]else .tuple vs.toArray) w:=by
  unfold results
  rw[Sem.run_bind]
  exact congrArg (fun z=>Result.andThen z fun(a:Array Value) w'=>Sem.run P (pure (if h:a.size=1 then a[0]else Value.tuple a)) w') lK
 have hval:(if h:vs.toArray.size=1 then vs.toArray[0]else .tuple vs.toArray)=(DI vs):=by
  match vs with
  | []=>rfl
  | [v]=>rfl
  |v::u::vs=>simp[DI]
 rw[hval]at bF
 obtain⟨ω',q1,q2,q3⟩:=jlp m h2
 exact⟨_,ω',bF,q1,q2,q3⟩
end
section
variable {P:Program}{C C0:aI}{ω:Nat→Option Loc}{w w0:World}{hp:qh}
def rn (C:aI)(hp:qh)(r:Nat):Prop:=∃b sz bJ xs r0 cap,hp[b]?=I (.vec sz bJ xs)∧C.β b=I r0∧C.T (r0,bJ,r,cap)
def Hid (C:aI)(hp:qh)(r:Nat):Prop:=(∃b,C.β b=I r)∨rn C hp r
theorem rn.is (m:az P C ω w0 C0 hp w){r}(h:rn C hp r):(∃b,C.β b=I r)∨∃b sz bJ xs n cap,hp[b]?=I (.vec sz bJ xs)∧xT C ω w w0.heap.size b r n cap:=by
 obtain⟨b,sz,bJ,xs,r0,cap,h1,h2,h3⟩:=h
 obtain⟨q,kL,k1,k2,k3,k4,_⟩:=m.box b _ r0 h1 h2
 have:=(k2 _ h3 rfl).2 rfl
 simp only[Rb.injEq]at this
 obtain⟨rfl,rfl⟩:=this
 rcases k4 with rfl|k4
 ·exact .inl ⟨b,h2⟩
 ·exact .inr ⟨b,sz,bJ,xs,_,_,h1,k4⟩
theorem Rw (m:az P C ω w0 C0 hp w){r}(h:Hid C hp r)(o:Nat):C.K r o=Hc:=by
 rcases h with⟨b,hb⟩|h
 ·exact m.apart b r o hb
 ·rcases h.is m with⟨b,hb⟩|⟨b,sz,bJ,xs,n,cap,_,h2⟩
  ·exact m.apart b r o hb
  ·exact h2.2.2.2.2.2.2 o (by simp)
theorem jeo {K}(hW:C.W=fun _=>False)(m:az P C ω w0 (.bV K) hp w){r}(h:Hid C hp r):w0.heap.size≤r:=by
 have key:∀b,C.β b=I r→w0.heap.size≤r:=fun b hb=>by
  rcases m.fresh b r hb with h|h|h
  ·cases h
  ·exact h
  ·exact h.elim
 rcases h with⟨b,hb⟩|h
 ·exact key b hb
 ·rcases h.is m with⟨b,hb⟩|⟨b,sz,bJ,xs,n,cap,_,h2⟩
  ·exact key b hb
  ·rcases h2.2.1 with h|h
   ·exact h
   ·rw[hW]at h;exact h.elim
theorem jwu (m:az P C ω w0 C0 hp w){r}(h:Hid C hp r):r<w.heap.size:=by
 rcases h with⟨b,hb⟩|h
 ·exact(m.lt b r hb).1
 ·rcases h.is m with⟨b,hb⟩|⟨b,sz,bJ,xs,n,cap,_,h2⟩
  ·exact(m.lt b r hb).1
  ·obtain⟨_,_,_,_,_,⟨cells,elem,h5,_⟩,_⟩:=h2
   exact(Gz.1 h5).1
open Classical in
noncomputable def zt (C:aI)(hp:qh)(w:World):Nat→Nat→Option Value:=fun r o=>if Hid C hp r then(w.cell? ⟨r,o,Hc⟩).filter (·.oneCell')else C.K r o
theorem FX (m:az P C ω w0 C0 hp w){r o x}(h:C.K r o=I x):zt C hp w r o=I x:=by
 unfold zt
 rw[if_neg]
 ·exact h
 ·intro hh
  rw[Rw m hh o]at h;cases h
theorem Ld (m:az P C ω w0 C0 hp w){r o x}(h:zt C hp w r o=I x):w.cell? ⟨r,o,Hc⟩=I x∧x.oneCell'=Gv:=by
 unfold zt at h
 split at h
 ·rw[Option.filter_eq_some_iff]at h;exact h
 ·exact⟨m.know r o x h,m.de r o x h⟩
theorem qs3 {r o x}(hb:Hid C hp r)(hc:w.cell? ⟨r,o,Hc⟩=I x)(h1:x.oneCell'=Gv):zt C hp w r o=I x:=by
 unfold zt
 rw[if_pos hb,hc]
 simp[h1]
theorem Rx {b r o x}(hb:C.β b=I r)(hc:w.cell? ⟨r,o,Hc⟩=I x)(h1:x.oneCell'=Gv):zt C hp w r o=I x:=
 qs3 (.inl ⟨b,hb⟩) hc h1
theorem Ry (m:az P C ω w0 C0 hp w){x v}(h:bP C x v)(hb:below 0 x=Gv):bP (.bV (zt C hp w)) x v:=
 aB.shift (C:=C) (C':=.bV (zt C hp w)) 0 (fun _ _ _ h=>FX m h) (fun b r bw=>by omega) h hb
theorem qs9 {x v}(h:bP C x v)(h1:v.oneCell'=Gv):x.isAgg=G8:=by
 cases h<;>first|rfl|(simp[Value.oneCell']at h1)
theorem Rz {C r}:∀ {ys:List AVal} {o:Nat},(∀j x,ys[j]?=I x→∃v,C.K r (o+j)=I v∧bP C x v)→cu C r ys o
 | [],o,_=>.ic _ _
 |x::ys,o,h=>by
  obtain⟨v,h1,h2⟩:=h 0 x rfl
  refine .dB _ _ _ _ v (by simpa using h1) h2 (Rz fun j y hy=>?_)
  obtain⟨v,k1,k2⟩:=h (j+1) y (by simpa using hy)
  exact⟨v,by rw[show o+1+j=o+(j+1) by omega];exact k1,k2⟩
theorem RA {C r sz}(hz:0<sz):∀ {n:Nat} {xs:List AVal} {o:Nat},xs.length=n*sz→(∀x∈xs,x.isAgg=G8)→(∀j x,xs[j]?=I x→∃v,C.K r (o+j)=I v∧bP C x v)→bu C r sz (mA sz n xs) o
 |0,xs,o,_,_,_=>.fK _ _ _
 |n+1,xs,o,hl,hp,h=>by
  rw[Nat.succ_mul]at hl
  have hf:(bif G7 sz 1 then xs.headD .undef else AVal.agg (xs.take sz)).flat=xs.take sz:=by
   cases hb:G7 sz 1 with
   |false=>rfl
   |true=>
    have:=E3 hb
    subst this
    match xs,hl with
    |x::xs,_=>simp only[cond_true,List.headD_cons];rw[qby (hp x (List.mem_cons_self ..))];rfl
  refine .dr _ _ _ _ _ ?_ ?_ (RA hz ?_ (fun x hx=>hp x (List.mem_of_mem_drop hx)) fun j x hx=>?_)
  ·rw[hf,N8];omega
  ·rw[hf]
   refine Rz fun j x hx=>h j x ?_
   rw[List.getElem?_take]at hx
   split at hx
   ·exact hx
   ·cases hx
  ·rw[Sm];omega
  ·rw[List.getElem?_drop]at hx
   obtain⟨v,k1,k2⟩:=h _ x hx
   exact⟨v,by rw[Nat.add_assoc];exact k1,k2⟩
theorem FY {sz}:∀ {n:Nat} {xs:List AVal},(mA sz n xs).length=n
 |0,_=>rfl
 |n+1,xs=>by simp only[mA,List.length_cons];rw[FY]
theorem qp3 {sz}(hz:1<sz):∀ {n:Nat} {xs:List AVal},xs.length=n*sz→qw 0 (mA sz n xs)=Gv→∀x∈xs,below 0 x=Gv
 |0,xs,hl,_=>by
  rw[Nat.zero_mul]at hl
  rw[Rj.1 hl]
  intro x hx;cases hx
 |n+1,xs,hl,h=>by
  have hb:G7 sz 1=G8:=by
   cases hc:G7 sz 1 with
   |false=>rfl
   |true=>have:=E3 hc;omega
  simp only[mA,hb,cond_false,qw,below,En]at h
  have ih:=qp3 hz (n:=n) (xs:=xs.drop sz) (by rw[Sm,hl,Nat.succ_mul];omega) h.2
  have ht:∀(ys:List AVal),qw 0 ys=Gv→∀x∈ys,below 0 x=Gv:=by
   intro ys
   induction ys with
   |nil=>intro _ x hx;cases hx
   |cons y ys ih=>
    intro hh x hx
    simp only[qw,En]at hh
    rcases Rc.1 hx with rfl|hx
    ·exact hh.1
    ·exact ih hh.2 x hx
  intro x hx
  rw[←List.take_append_drop sz xs]at hx
  rcases Ob.1 hx with hx|hx
  ·exact ht _ h.1 x hx
  ·exact ih x hx
theorem RB (m:az P C ω w0 C0 hp w){x x' v}(hf:ko hp x=I x')(h:bP C x v)(hb:below 0 x'=Gv):bP (.bV (zt C hp w)) x' v:=by
 unfold ko at hf
 split at hf
 ·rename_i b off len
  split at hf
  ·rename_i cs hcs
   cases db:Dq off len cs with
   |true=>
    rw[db]at hf
    simp only[cond_true,I.injEq]at hf
    subst hf
    simp only[Dq,En]at db
    obtain⟨⟨⟨r0,r1⟩,r2⟩,_⟩:=db
    have r0:=E3 r0
    have r2:=E3 r2
    have r1:1<cs.length / len:=by simpa using r1
    subst r0
    obtain⟨r,cap,iC,hle,rfl⟩:=h.eR
    obtain⟨vs,elem,k1,k2,k3⟩:=m.box b _ r (wA hcs) iC
    have jH:qw 0 (mA (cs.length / len) len (cs.map (·.1)))=Gv:=by simpa[below]using hb
    have RC:=qp3 r1 (by rw[Rk];exact r2.symm) jH
    have hrr:bu (.bV (zt C hp w)) r (cs.length / len) (mA (cs.length / len) len (cs.map (·.1))) 0:=by
     refine RA (by omega) (by rw[Rk];exact r2.symm) (fun x hx=>?_) fun j x hx=>?_
     ·obtain⟨j,hj⟩:=List.getElem?_of_mem hx
      rw[N7,Gx]at hj
      obtain⟨c,hc,rfl⟩:=hj
      obtain⟨u,q1,q2,q3,_⟩:=k3 j c hc
      exact qs9 q3 q2
     ·have dh:=J9 hx
      rw[N7,Gx]at hx
      obtain⟨c,hc,rfl⟩:=hx
      obtain⟨u,q1,q2,q3,_⟩:=k3 j c hc
      have dY:w.cell? ⟨r,0+j,Hc⟩=I u:=by
       unfold World.cell?
       rw[k1]
       simp only[Nx,G9,if_false,Q5]
       exact q1
      exact⟨u,Rx iC dY q2,Ry m q3 (RC _ dh)⟩
    have:=aB.list (C:=.bV (zt C hp w)) (cs.length / len) (mA (cs.length / len) len (cs.map (·.1))) r 0 cap (by rw[FY];exact hle) hrr
    rw[FY]at this
    exact this
   |false=>
   rw[db]at hf
   simp only[cond_false]at hf
   split at hf
   ·rename_i us gU
    cases hf
    obtain⟨r,cap,iC,hle,rfl⟩:=h.eR
    obtain⟨vs,k1,k0,k2,k3,k4⟩:=(m.box b _ r (wA hcs) iC).read gU
    have jH:qw 0 us=Gv:=by simpa[below]using hb
    have ga:aS (.bV (zt C hp w)) us vs:=aB.shift (C:=C) (C':=.bV (zt C hp w)) 0 (fun _ _ _ h=>FX m h) (fun b r bw=>by omega) k1 jH
    have jW:∀(us:List AVal) (vs:List Value),aS C us vs→(∀v∈vs,v.oneCell'=Gv)→us.flatMap AVal.flat=us∧∀u∈us,u.flat.length=1:=by
     intro us
     induction us with
     |nil=>intro _ _ _;exact⟨rfl,by simp⟩
     |cons u us ih=>
      intro vs h h1
      cases h with
      |cons _ _ v vs hx h=>
       obtain⟨i1,i2⟩:=ih vs h (fun v hv=>h1 v (by simp[hv]))
       have xV:=qs9 hx (h1 v (by simp))
       rw[Sk,qby xV,i1]
       refine⟨rfl,fun u' oi=>?_⟩
       rcases Rc.1 oi with rfl|oi
       ·rw[qby xV];rfl
       ·exact i2 u' oi
    obtain⟨f1,f2⟩:=jW us vs k1 k4
    have hcells:cu (.bV (zt C hp w)) r (us.flatMap AVal.flat) off:=by
     rw[f1]
     exact cu.iB ga fun j u hj=>Rx iC (k3 j u hj) (k4 u (J9 hj))
    have hl:us.length=len:=k0
    have:=aB.list (C:=.bV (zt C hp w)) 1 us r off cap (by omega) (bu.eO hcells f2)
    rw[hl]at this
    exact this
   ·cases hf
  ·cases hf
 ·rename_i b bJ len
  split at hf
  ·rename_i sz dA xs gI
   cases hk:(G7 bJ dA&&Jn len xs.length)with
   |false=>rw[hk]at hf;cases hf
   |true=>
    rw[hk]at hf
    simp only[cond_true,I.injEq]at hf
    subst hf
    simp only[En]at hk
    obtain rfl:=E3 hk.1
    have hlen:=Gw hk.2
    cases h with
    |ay _ _ _ r0 q cap hβ hT hl=>
     obtain⟨q',kL,k1,k2,k3,k4,_⟩:=m.box b _ r0 gI hβ
     have heq:=(k2 _ hT rfl).2 rfl
     simp only[Rb.injEq]at heq
     obtain⟨rfl,rfl⟩:=heq
     obtain⟨cells,t,vs,g1,g2,g3,g4,g5,g6,g7⟩:=k3
     have RD:Hid C hp q:=.inr ⟨b,sz,bJ,xs,r0,cap,gI,hβ,hT⟩
     have hall:cu (.bV (zt C hp w)) q (xs.flatMap AVal.flat) 0:=by
      refine cu.iB (aB.imp (C:=.bV C.K) (C':=.bV (zt C hp w)) ⟨fun _ _ _ h=>FX m h,fun _ _ h=>h⟩ g5) fun j u hj=>?_
      refine qs3 RD ?_ (g7 u (J9 hj))
      unfold World.cell?
      rw[g1]
      simp only[Nx,G9,if_false,Q5]
      exact g6 j u hj
     have db:bu (.bV (zt C hp w)) q sz xs 0:=bu.eO hall g4
     have:=aB.list (C:=.bV (zt C hp w)) sz (xs.take len) q 0 cap (by rw[N8];omega) (db.take len)
     rw[N8,Nat.min_eq_left hlen]at this
     exact this
  ·cases hf
 ·cases hf
  exact Ry m h hb
theorem RE (m:az P C ω w0 C0 hp w):∀ {xs fR:List AVal} {vs:List Value},lF hp xs=I fR→aS C xs vs→qw 0 fR=Gv→aS (.bV (zt C hp w)) fR vs
 | [],fR,vs,hf,h,_=>by
  simp only[lF,I.injEq]at hf
  subst hf
  cases h
  exact .nil
 |x::xs,fR,vs,hf,h,hb=>by
  simp only[lF]at hf
  split at hf
  ·rename_i y hy
   split at hf
   ·rename_i ys ng
    cases hf
    simp only[qw,En]at hb
    cases h with
    |cons _ _ v vs hx h=>exact .cons _ _ _ _ (RB m hy hx hb.1) (RE m ng h hb.2)
   ·cases hf
  ·cases hf
theorem RF (m:az P C ω w0 C0 hp w):∀ {xs fR:List AVal} {vs:List Value},aF.bC hp xs=I fR→aS C xs vs→qw 0 fR=Gv→aS (.bV (zt C hp w)) fR vs
 | [],fR,vs,hf,h,_=>by
  simp only[aF.bC,I.injEq]at hf
  subst hf
  cases h
  exact .nil
 |x::xs,fR,vs,hf,h,hb=>by
  cases h with
  |cons _ _ v vs hx h=>
   unfold aF.bC at hf
   split at hf
   ·cases ‹_::_=[]›
   ·rename_i cs ri heq
    cases heq
    split at hf
    ·rename_i y hy
     split at hf
     ·rename_i ys ng
      cases hf
      simp only[qw,below,En]at hb
      obtain⟨us,rfl,hu⟩:=bP.eA hx
      exact .cons _ _ _ _ (.agg _ _ (RE m hy hu hb.1)) (RF m ng h hb.2)
     ·cases hf
    ·cases hf
   ·rename_i heq
    cases heq
    split at hf
    ·rename_i y hy
     split at hf
     ·rename_i ys ng
      cases hf
      simp only[qw,En]at hb
      exact .cons _ _ _ _ (RB m hy hx hb.1) (RF m ng h hb.2)
     ·cases hf
    ·cases hf
theorem q7o (m:az P C ω w0 C0 hp w){x x' v}(hf:aF hp x=I x')(h:bP C x v)(hb:below 0 x'=Gv):bP (.bV (zt C hp w)) x' v:=by
 unfold aF at hf
 split at hf
 ·split at hf
  ·rename_i ys ng
   cases hf
   obtain⟨us,rfl,hu⟩:=h.eA
   exact .agg _ _ (RE m ng hu (by simpa[below]using hb))
  ·cases hf
 ·split at hf
  ·rename_i ys ng
   cases hf
   cases h with
   |aC _ vs hu=>exact .aC _ _ (RF m ng hu (by simpa[below]using hb))
  ·cases hf
 ·exact RB m hf h hb
end
def AL:jg→Exit
 | .normal=>.normal
 | .exit id=>.exit id
 | .ret=>.ret
def iZ (ρ:Option Nat):Fence:={ Fence.wide with round:=ρ }
theorem qxf {ρ n P f args w R}:CallsIn (iZ ρ) n P f args w R↔CallsIn Fence.wide n P f args w R:=Iff.rfl
def Marks (C:aI)(B:Nat)(ds:List Deferred):Prop:=∃rs:List Nat,ds=rs.map (fun r=>{ target:=.collected r,args:=#[] })∧rs.Nodup∧∀r∈rs,C.D r∧B≤r
theorem Marks.mono {C C' B ds}(h:Marks C B ds)(hle:C.le C'):Marks C' B ds:=
 let ⟨rs,h1,h2,h3⟩:=h; ⟨rs,h1,h2,fun r hr=>⟨hle.d r (h3 r hr).1,(h3 r hr).2⟩⟩
theorem Marks.nil {C B}:Marks C B []:=⟨[],rfl,List.nodup_nil,by simp⟩
def cD (P:Program)(xc:XC):Prop:=
 ∀(ρ:Option Nat) (nt:Nat) (c:Code) (ca:aw) (st bT:bf) (x:jg),Fo P nt c ca→(ρ≠Hc→z6 ca=Gv)→xc ca st=I (x,bT) →
  ∀(C:aI) (ω:Nat→Option Loc) (w0:World) (C0:aI) (a:Act) (w:World),az P C ω w0 C0 st.heap w→aq C ω w w0.heap.size st.env a.tmps→a.tmps.size=nt→Marks C w0.heap.size a.defers →
   c.wpIn (iZ ρ) 0 P (fun e a' w'=>e=AL x∧a'.tmps.size=nt∧∃C' ω',C.le C'∧Marks C' w0.heap.size a'.defers∧az P C' ω' w0 C0 bT.heap w'∧aq C' ω' w' w0.heap.size bT.env a'.tmps) a w
def IsoCall (P:Program)(k:Nat)(args:List AVal)(v:AVal)(ow:Bool):Prop:=
 ∀(K:Nat→Nat→Option Value) (w:World) (vs:List Value),Tabs P w →
  (∀r o u,K r o=I u→w.cell? ⟨r,o,Hc⟩=I u)→(∀r o u,K r o=I u→u.oneCell'=Gv)→aS (.bV K) args vs →
  CallsIn Fence.wide 0 P k ⟨vs⟩ w fun e w'=>∃u K',e=.returned u∧Ext w w'∧(∀r o x,K r o=I x→K' r o=I x)∧(∀r o,r<w.heap.size→K' r o=K r o) ∧
   (∀r o x,K' r o=I x→w'.cell? ⟨r,o,Hc⟩=I x)∧(∀r o x,K' r o=I x→x.oneCell'=Gv)∧bP (.bV K') v u ∧
   (ow=Gv→∃ℓ ω',aJ (.bV K') ω' w' w.heap.size ℓ v u)
def Enters (P : Program) (k : Nat) : Prop := ∃ fn, P.funcs[k]? = I fn ∧ fn.name ≠ "runtime.NumGoroutine" ∧ fn.body.isSome
def AO (P:Program)(k:Nat)(args:List AVal)(h:qh)(v:AVal)(ow:Bool)(h':qh):Prop:=
 ∀(C:aI) (ω:Nat→Option Loc) (w:World) (vs:List Value),aS C args vs→az P C ω w C h w →
  CallsIn Fence.wide 0 P k ⟨vs⟩ w fun e w'=>∃u C' ω',e=.returned u∧C.le C'∧az P C' ω' w C h' w'∧bP C' v u∧(ow=Gv→aJ C' ω' w' w.heap.size (.slot 0) v u)
def RG (P:Program)(k:Nat)(es:List (AVal×AVal)):Prop:=
 ∀(K:Nat→Nat→Option Value) (w:World),Tabs P w →
  (∀r o u,K r o=I u→w.cell? ⟨r,o,Hc⟩=I u)→(∀r o u,K r o=I u→u.oneCell'=Gv) →
  CallsIn Fence.wide 0 P k ⟨[]⟩ w fun e w'=>∃q K' b9 clock,e=.returned (.map (I q))∧Ext w w'∧(∀r o x,K r o=I x→K' r o=I x)∧(∀r o,r<w.heap.size→K' r o=K r o) ∧
   (∀r o x,K' r o=I x→w'.cell? ⟨r,o,Hc⟩=I x)∧(∀r o x,K' r o=I x→x.oneCell'=Gv)∧w.heap.size≤q∧w'.heap[q]?=I (.map b9 clock)∧cB (.bV K') es b9.toList
structure bW (P:Program)(p:j8):Prop where
 fn:∀k f,p.bM k=I f→∃fn h,P.funcs[k]?=I fn∧Fm P h fn=I f
 iE:∀k f,p.cG k=I f→Enters P k∧∀args v o,f args=I (v,o)→mr v=Gv→qw 0 args=Gv→IsoCall P k args v o
 mixed:P.follows .mixedOrders=Gv
 fU:∀k f,p.dG k=I f→Enters P k∧∀args h v o h',f args h=I (v,o,h')→AO P k args h v o h':=by intro k f h;cases h
 maps:∀k es,p.maps k=I es→Enters P k∧RG P k es:=by intro k f h;cases h
theorem RH {P h fn f} (hc : Fm P h fn = I f) : ∃ c, fn.body = I c ∧ gT P h fn.ntmps c = I f.body ∧ Al P fn.results.toList = I f.results ∧ f.ntmps = fn.ntmps ∧ fn.name ≠ "runtime.NumGoroutine" := by
 unfold Fm at hc
 split at hc
 ·rename_i c hb
  split at hc
  ·rename_i b rs h1 h2
   split at hc
   ·cases hc
   ·rename_i hn
    cases hc
    exact⟨c,hb,h1,h2,rfl,by simpa using hn⟩
  ·cases hc
 ·cases hc
theorem bW.enters {P p}(h:bW P p){k f}(hf:p.bM k=I f):Enters P k:=by
 obtain⟨fn,hh,h1,h2⟩:=h.fn k f hf
 obtain⟨c,hb,_,_,_,hn⟩:=RH h2
 exact⟨fn,h1,hn,by simp[hb]⟩
theorem qpa {P k}(h:Enters P k)(args:Array Value)(w:World):(callFunc k args).run P w=.ok (.enter k args) w:=by
 obtain⟨fn,h1,h2,h3⟩:=h
 simp[callFunc,h1,h2,Option.isNone_iff_eq_none,Option.isSome_iff_ne_none.1 h3]
section
variable {P:Program}{p:j8}{xc:XC}{C C0:aI}{ω:Nat→Option Loc}{w w0:World}{hp:qh}{env:Env}{tmps:Array Value}{B:Nat}{a:Act}{o:Oper}{d:Loc}
theorem qs1:∀ {args:List AVal} {i s:Nat} {x:AVal×Bool},jj s (oJ i args)=I x→∃j,s=i+j∧args[j]?=I x.1∧x.2=G8
 | [],_,_,_,h=>by simp[oJ,jj]at h
 |v::args,i,s,x,h=>by
  simp only[oJ,jj]at h
  cases hb:G7 i s with
  |true=>
   simp only[hb,cond_true,I.injEq]at h
   subst h
   exact⟨0,(E3 hb).symm,rfl,rfl⟩
  |false=>
   simp only[hb,cond_false]at h
   obtain⟨j,h1,h2,h3⟩:=qs1 h
   exact⟨j+1,by omega,by simpa using h2,h3⟩
theorem jay {r o v}(h:w.cell? ⟨r,o,Hc⟩=I v):∃cs t fr,w.heap[r]?=I (.cells cs t fr):=by
 unfold World.cell? at h
 split at h
 ·rename_i cs t fr hg;exact⟨cs,t,fr,hg⟩
 ·cases h
theorem az.other {D'}(m:az P C ω w0 C0 hp w){r w'}(hu:nv w w' r)(hβ:∀b,C.β b≠I r)(hr:w0.heap.size≤r)(lA:∀cs t fr,w.heap[r]?≠I (.cells cs t fr))(hD:∀k,D' k→C.D k∧k≠r)(h0:∀k,C0.D k→D' k):
  az P { C with D:=D' } ω w0 C0 hp w':=by
 have cQ:∀ {B:Nat} {ℓ:Loc} {x:AVal} {v:Value},aJ C ω w B ℓ x v→aJ { C with D:=D' } ω w' B ℓ x v:=by
  intro B ℓ x v ho
  unfold aJ at *
  split at ho
  ·obtain⟨h1,h2,h3,h4,h8,⟨cells,elem,h5,h6⟩,h7⟩:=ho
   refine⟨h1,h2,h3,h4,h8,⟨cells,elem,?_,h6⟩,h7⟩
   rw[hu.other _ (fun h=>lA _ _ _ (h▸h5))]
   exact h5
  ·obtain⟨h1,h2,h3,h4,h8,⟨cells,elem,h5,h6⟩,h7⟩:=ho
   refine⟨h1,h2,h3,h4,h8,⟨cells,elem,?_,h6⟩,h7⟩
   rw[hu.other _ (fun h=>lA _ _ _ (h▸h5))]
   exact h5
  ·trivial
 refine { base:=m.base,know:=?_,de:=m.de,apart:=m.apart,inj:=m.inj,lt:=?_,size:=?_,frame:=?_,fo:=?_,os:=hu.os.trans m.os,output:=hu.output.trans m.output,fresh:=m.fresh,grown:=⟨m.grown.k,m.grown.b,m.grown.w,h0,m.grown.t⟩,old:=m.old,box:=?_,iA:=fun q hq=>by rw[hu.size];exact m.iA q hq }
 ·intro k p v hk
  have hc:=m.know _ _ _ hk
  have bG:k≠r:=fun h=>by
   obtain⟨cs,t,fr,hg⟩:=jay hc
   exact lA cs t fr (h▸hg)
  simp only[World.cell?]at hc ⊢
  rw[hu.other k bG];exact hc
 ·intro b p hb
  rw[hu.size];exact m.lt b p hb
 ·rw[hu.size];exact m.size
 ·intro k hk hn hw
  rw[hu.other k (by omega)];exact m.frame k hk hn hw
 ·intro k hk
  obtain⟨h1,h2⟩:=hD k hk
  rw[hu.other k h2];exact m.fo k h1
 ·intro b x p hx hb
  refine bE.imp (C:=C) (C':={ C with D:=D' }) ⟨fun _ _ _ h=>h,fun _ _ h=>h⟩ (hu.other p (fun h=>hβ b (h▸hb))) (fun j y v ho=>cQ ho) (m.box b x p hx hb) (hq:=fun q n cap k=>by
   obtain⟨_,_,_,_,_,⟨cells,elem,h5,_⟩,_⟩:=k
   exact hu.other q (fun h=>lA _ _ _ (h▸h5)))
theorem aJ.kP {D' r w'}(hu:nv w w' r)(lA:∀cs t fr,w.heap[r]?≠I (.cells cs t fr)){ℓ x v}(ho:aJ C ω w B ℓ x v):aJ { C with D:=D' } ω w' B ℓ x v:=by
 unfold aJ at *
 split at ho
 ·obtain⟨h1,h2,h3,h4,h8,⟨cells,elem,h5,h6⟩,h7⟩:=ho
  refine⟨h1,h2,h3,h4,h8,⟨cells,elem,?_,h6⟩,h7⟩
  rw[hu.other _ (fun h=>lA _ _ _ (h▸h5))]
  exact h5
 ·obtain⟨h1,h2,h3,h4,h8,⟨cells,elem,h5,h6⟩,h7⟩:=ho
  refine⟨h1,h2,h3,h4,h8,⟨cells,elem,?_,h6⟩,h7⟩
  rw[hu.other _ (fun h=>lA _ _ _ (h▸h5))]
  exact h5
 ·trivial
theorem bP.rz {D' x v}(h:bP C x v):bP { C with D:=D' } x v:=aB.imp (C:=C) (C':={ C with D:=D' }) ⟨fun _ _ _ h=>h,fun _ _ h=>h⟩ h
theorem aq.kP {D' r w'}(hu:nv w w' r)(lA:∀cs t fr,w.heap[r]?≠I (.cells cs t fr))(e:aq C ω w B env tmps):aq { C with D:=D' } ω w' B env tmps:=
 fun s x hs=>let ⟨v,h1,h2,h3⟩:=e s x hs; ⟨v,h1,bP.rz h2,fun h=>(h3 h).kP hu lA⟩
theorem qz3 {fn R}:∀(rs:List Nat) (C':aI) (w:World),C.le C'→az P C' ω w0 C hp w→aq C' ω w w0.heap.size env tmps→rs.Nodup→(∀r∈rs,C'.D r∧w0.heap.size≤r)→(∀k,C.D k→k<w0.heap.size) →
  (∀(C2:aI) (w2:World),C.le C2→C2.D=C.D→az P C2 ω w0 C hp w2→aq C2 ω w2 w0.heap.size env tmps→∃v,(results fn tmps).run P w2=.ok v w2∧R (.returned v) w2) →
  LeavesInM Fence.wide 0 P fn tmps R (rs.map fun r=>{ target:=.collected r,args:=#[] }) .returning w
 | [],C',w,hle,m,e,_,_,hD,eu=>by
  have hr0:∀ {k},C.D k→C'.D k:=fun h=>hle.d _ h
  -- the marks are forgotten
  have m2:az P { C' with D:=C.D } ω w0 C hp w:={ m with
   fo:=fun r hr=>m.fo r (hr0 hr)
   grown:=⟨m.grown.k,m.grown.b,m.grown.w,fun _ h=>h,m.grown.t⟩
   box:=fun b x r hx hb=>bE.imp (C:=C') (C':={ C' with D:=C.D }) ⟨fun _ _ _ h=>h,fun _ _ h=>h⟩ rfl (fun j y v ho=>ho) (m.box b x r hx hb) }
  have e2:aq { C' with D:=C.D } ω w w0.heap.size env tmps:=fun s x hs=>let ⟨v,h1,h2,h3⟩:=e s x hs; ⟨v,h1,bP.rz h2,h3⟩
  exact eu { C' with D:=C.D } w ⟨hle.k,hle.b,hle.w,fun _ h=>h,hle.t⟩ rfl m2 e2
 |r::rs,C',w,hle,m,e,qV,FZ,hD,eu=>by
  obtain⟨hDr,hBr⟩:=FZ r (by simp)
  have hg:=m.fo r hDr
  have bw:=(Gz.1 hg).1
  have lA:∀cs t fr,w.heap[r]?≠I (.cells cs t fr):=fun cs t fr h=>by rw[hg]at h;cases h
  have hu:nv w (kg w r (.deferred Hc)) r:=DG bw (by simp)
  have hβ:∀b,C'.β b≠I r:=by
   intro b hb
   obtain⟨x,hx⟩:=Jy (m.lt b r hb).2▸(⟨_,rfl⟩:∃x,I (hp[b]'(m.lt b r hb).2)=I x)
   have h0:=m.box b x r hx hb
   cases x with
   |hole=>exact h0
   |cells cs=>obtain⟨vs,elem,h1,_⟩:=h0;rw[hg]at h1;cases h1
   |map es=>obtain⟨b9,clock,h1,_⟩:=h0;rw[hg]at h1;cases h1
   |iter s pos=>have h1:w.heap[r]?=_:=h0;rw[hg]at h1;cases h1
   |loop l=>obtain⟨lp,h1,_⟩:=h0;rw[hg]at h1;cases h1
   |fV t e l=>obtain⟨p,v,h1,_⟩:=h0;rw[hg]at h1;cases h1
   |dead=>obtain⟨cs,t,h1⟩:=h0;rw[hg]at h1;cases h1
   |vec sz bJ xs=>obtain⟨_,_,_,_,_,_,cs,t,h1⟩:=h0;rw[hg]at h1;cases h1
  have bF:(Instr.takeDeferred r).run P w=.ok [] (kg w r (.deferred Hc)):=by
   have hs:=x6 (P:=P) (x:=.deferred Hc) hg (by simp)
   simp only[Instr.takeDeferred,Sem.run_bind,pA hg (by simp),Result.andThen_ok,hs,Sem.run_pure]
  refine⟨by simp,.inl ⟨r,_,rfl,bF,?_⟩⟩
  have F0:=List.nodup_cons.1 qV
  have m2:=m.other (D':=fun k=>C'.D k∧k≠r) hu hβ hBr lA (fun k h=>h) (fun k h=>⟨hle.d k h,fun hk=>by have:=hD k h;omega⟩)
  exact qz3 rs { C' with D:=fun k=>C'.D k∧k≠r } _ ⟨hle.k,hle.b,hle.w,fun k h=>⟨hle.d k h,fun hk=>by have:=hD k h;omega⟩,hle.t⟩ m2 (e.kP hu lA) F0.2
   (fun k hk=>⟨⟨(FZ k (by simp[hk])).1,fun h=>F0.1 (h▸hk)⟩,(FZ k (by simp[hk])).2⟩) hD eu
theorem q7p (hx:cD P xc){k fn h f}(hfn:P.funcs[k]?=I fn)(hc:Fm P h fn=I f){args v ow h'}(hr:py xc f args hp=I (v,ow,h')){vs}(eo:aS C args vs)(m:az P C ω w C hp w):
  CallsIn Fence.wide 0 P k ⟨vs⟩ w fun e w'=>∃u C' ω',e=.returned u∧C.le C'∧az P C' ω' w C h' w'∧bP C' v u∧(ow=Gv→aJ C' ω' w' w.heap.size (.slot 0) v u):=by
 obtain⟨c,hb,h1,h2,h3,_⟩:=RH hc
 unfold py at hr
 have hD:∀k,C.D k→k<w.heap.size:=fun k hk=>(Gz.1 (m.fo k hk)).1
 cases hle:Jn args.length f.ntmps with
 |false=>simp[hle]at hr
 |true=>
  simp only[hle,cond_true]at hr
  have hlen:=Gw hle
  have wz:=eo.length
  refine callsIn_of_wp_marks hfn hb trivial ?_
  have cS:((⟨vs⟩:Array Value)++Tt (fn.ntmps-(⟨vs⟩:Array Value).size) undef).size=fn.ntmps:=by
   simp;omega
  have F1:aq C ω w w.heap.size (oJ 0 args) ((⟨vs⟩:Array Value)++Tt (fn.ntmps-(⟨vs⟩:Array Value).size) undef):=by
   intro s x hx
   obtain⟨j,rfl,hj,hf⟩:=qs1 hx
   obtain⟨u,k1,k2⟩:=eo.get hj
   have bw:j<vs.length:=(G6.1 k1).1
   refine⟨u,?_,k2,by simp[hf]⟩
   rw[Q5,Array.getElem?_append_left (by simpa using bw)]
   simpa using k1
  have fin:∀(st:bf) (a':Act) (w':World) (C':aI) (ω':Nat→Option Loc),C.le C'→Marks C' w.heap.size a'.defers→az P C' ω' w C st.heap w'→aq C' ω' w' w.heap.size st.env a'.tmps →
    (match km st f.results with
     |some xs=>I ((j9 xs).1,(j9 xs).2,kz st f.results)
     |none=>Hc)=I (v,ow,h') →
    LeavesInM Fence.wide 0 P fn a'.tmps (fun e w'=>∃u C' ω',e=.returned u∧C.le C'∧az P C' ω' w C h' w'∧bP C' v u∧(ow=Gv→aJ C' ω' w' w.heap.size (.slot 0) v u)) a'.defers .returning w':=by
   intro st a' w' C' ω' hle ⟨rs,hds,qV,FZ⟩ m' e' hr
   rw[hds]
   refine qz3 (C:=C) (ω:=ω') (w0:=w) (hp:=st.heap) (env:=st.env) rs C' w' hle m' e' qV FZ hD ?_
   intro C2 w2 jJ _ m2 e2
   split at hr
   ·rename_i xs nj
    cases hr
    obtain⟨u,ω2,k1,k2,k3,k4⟩:=q7l (fn:=fn) m2 e2 h2 nj
    exact⟨u,k1,u,C2,ω2,rfl,jJ,k2,k3,k4⟩
   ·cases hr
  split at hr
  ·rename_i st b6
   refine wpIn_mono (hx Hc fn.ntmps c f.body _ _ _ ⟨h,h1⟩ (fun h=>absurd rfl h) b6 C ω w C _ w m F1 cS Marks.nil) ?_
   rintro e a' w' ⟨rfl,q1,C',ω',q3,q2,q4,q5⟩
   exact fin st a' w' C' ω' q3 q2 q4 q5 hr
  ·rename_i st b6
   refine wpIn_mono (hx Hc fn.ntmps c f.body _ _ _ ⟨h,h1⟩ (fun h=>absurd rfl h) b6 C ω w C _ w m F1 cS Marks.nil) ?_
   rintro e a' w' ⟨rfl,q1,C',ω',q3,q2,q4,q5⟩
   exact fin st a' w' C' ω' q3 q2 q4 q5 hr
  ·cases hr
theorem q58 {K}(ht:Tabs P w)(h1:∀r o u,K r o=I u→w.cell? ⟨r,o,Hc⟩=I u)(h2:∀r o u,K r o=I u→u.oneCell'=Gv):az P (.bV K) (fun _=>Hc) w (.bV K) [] w where
 base:=⟨ht,fun g _=>⟨fun b h=>(by cases h),fun h=>h⟩⟩
 know:=h1
 de:=h2
 apart:=by simp[aI.bV]
 inj:=by simp[aI.bV]
 lt:=by simp[aI.bV]
 size:=Nat.le_refl _
 frame _ _ _ _:=rfl
 fo _ h:=h.elim
 os:=rfl
 output:=rfl
 fresh:=by simp[aI.bV]
 grown:=aI.le_refl _
 old _ _ _ _:=rfl
 box:=by simp
 iA _ h:=h.elim
theorem F2 (hp:bW P p)(hx:cD P xc){k args h h' v ow}(hr:ql p xc k args h=I (v,ow,h')):Enters P k∧AO P k args h v ow h':=by
 unfold ql at hr
 split at hr
 ·rename_i f hf
  obtain⟨fn,hh,hfn,F3⟩:=hp.fn k f hf
  exact⟨hp.enters hf,fun C ω w vs eo m=>q7p hx hfn F3 hr eo m⟩
 ·split at hr
  ·rename_i f hf
   obtain⟨he,hs⟩:=hp.fU k f hf
   exact⟨he,hs _ _ _ _ _ hr⟩
  ·cases hr
theorem cB.bV {es ms}(h:cB C es ms):qI 0 es=Gv→cB (.bV C.K) es ms:=by
 induction h with
 |nil=>exact fun _=>.nil
 |cons k v es m ms hk hv _ ih=>
  intro hb
  simp only[qI,En]at hb
  exact .cons _ _ _ _ _ (aB.shift (C:=C) (C':=.bV C.K) 0 (fun _ _ _ h=>h) (fun b r bw=>by omega) hk hb.1.1) (aB.shift (C:=C) (C':=.bV C.K) 0 (fun _ _ _ h=>h) (fun b r bw=>by omega) hv hb.1.2) (ih hb.2)
theorem q9h (hp:bW P p)(hx:cD P xc){k b ow h1 es}(hr:ql p xc k [] []=I (.map b,ow,h1))(hb:h1[b]?=I (.map es))(he:qI 0 es=Gv):Enters P k∧RG P k es:=by
 obtain⟨lQ,nx⟩:=F2 hp hx hr
 refine⟨lQ,fun K w ht g1 g2=>?_⟩
 refine CallsIn.mono (nx _ _ _ [] .nil (q58 (P:=P) ht g1 g2)) ?_
 rintro e w' ⟨u,C',ω',rfl,hle,m',ga,_⟩
 cases ga with
 |map _ q hq=>
  obtain⟨b9,clock,k1,k2⟩:=m'.box b _ q hb hq
  refine⟨q,C'.K,b9,clock,rfl,⟨m'.size,fun r hr=>m'.frame r hr (by simp[aI.bV]) (by simp[aI.bV]),m'.os,m'.output⟩,hle.1,fun r o hr=>m'.old r o hr (by simp[aI.bV]),m'.know,m'.de,?_,k1,k2.bV he⟩
  rcases m'.fresh b q hq with h|h|h
  ·cases h
  ·exact h
  ·exact h.elim
theorem Le (hp:bW P p)(hx:cD P xc){k args v ow}(hr:qc p xc k args=I (v,ow))(hb:qw 0 args=Gv):Enters P k∧mr v=Gv∧IsoCall P k args v ow:=by
 unfold qc at hr
 split at hr
 ·rename_i f hf
  obtain⟨he,F4⟩:=hp.iE k f hf
  split at hr
  ·rename_i v' o' F5
   cases lB:mr v' with
   |false=>simp[lB]at hr
   |true=>
    simp only[lB,cond_true]at hr
    cases hr
    exact⟨he,lB,F4 args _ _ F5 lB hb⟩
  ·cases hr
 ·split at hr
  ·rename_i v0 o' h' F5
   split at hr
   ·rename_i v' DJ
    cases lB:mr v' with
    |false=>simp[lB]at hr
    |true=>
     simp only[lB,cond_true]at hr
     cases hr
     obtain⟨lQ,nx⟩:=F2 hp hx F5
     ·refine⟨lQ,lB,?_⟩
      intro K w vs ht h1 h2 eo
      have:=nx _ _ _ _ eo (q58 (P:=P) ht h1 h2)
      refine CallsIn.mono this ?_
      rintro e w' ⟨u,C',ω',rfl,hle,m',ga,cQ⟩
      refine⟨u,zt C' h' w',rfl,?_,fun r o x hr=>FX m' (hle.1 r o x hr),fun r o hr=>?_,fun r o x hr=>(Ld m' hr).1,fun r o x hr=>(Ld m' hr).2,q7o m' DJ ga lB,?_⟩
      ·exact⟨m'.size,fun r hr=>m'.frame r hr (by simp[aI.bV]) (by simp[aI.bV]),m'.os,m'.output⟩
      ·have hold:=m'.old r o hr (by simp[aI.bV])
       unfold zt
       rw[if_neg]
       ·exact hold
       intro hh
       have:=jeo hle.w m' hh
       omega
      ·intro ho
       simp only[En]at ho
       have hℓ:=cQ ho.1
       refine⟨.slot 0,ω',?_⟩
       cases v0 with
       |list n sz xs=>
        have F6:v=.list n sz xs:=by
         simp only[aF,ko,I.injEq]at DJ
         exact DJ.symm
        subst F6
        unfold aJ at *
        split at hℓ
        ·obtain⟨g1,g2,g3,g4,g5,g6,g7⟩:=hℓ
         refine⟨g1,.inl (g2.resolve_right (by rw[hle.w];exact fun h=>h)),by simp[aI.bV],g4,g5,g6,fun o yB=>?_⟩
         show zt C' h' w' _ o=Hc
         unfold zt
         rw[if_neg]
         ·exact g7 o yB
         ·rintro (⟨b,hb⟩|hh)
          ·exact g3 b hb
          ·rcases hh.is m' with⟨b,hb⟩|⟨b,_,_,_,_,_,_,h2⟩
           ·exact g3 b hb
           ·have:=h2.1;rw[g1]at this;simp at this
        all_goals trivial
       |_=>exact absurd ho.2 (by simp[AVal.cJ])
   ·cases hr
  ·cases hr
end
section
variable {P:Program}{p:j8}{xc:XC}{C C0 C1:aI}{ω ω1:Nat→Option Loc}{w w' w0:World}{hp h1:qh}{env:Env}{tmps:Array Value}{B:Nat}{a:Act}{o:Oper}{d:Loc}
theorem aJ.grow {K' ℓ x v}(hx:Ext w w')(hK:∀r o,r<w.heap.size→K' r o=C.K r o)(ho:aJ C ω w B ℓ x v):aJ { C with K:=K' } ω w' B ℓ x v:=by
 unfold aJ at *
 split at ho
 ·obtain⟨h1,h2,h3,h4,h8,⟨cells,elem,h5,h6⟩,h7⟩:=ho
  have bw:=(Gz.1 h5).1
  exact⟨h1,h2,h3,h4,h8,⟨cells,elem,hx.get h5,h6⟩,fun o ho=>by
   show K' _ o=Hc
   rw[hK _ o bw];exact h7 o ho⟩
 ·obtain⟨h1,h2,h3,h4,h8,⟨cells,elem,h5,h6⟩,h7⟩:=ho
  have bw:=(Gz.1 h5).1
  exact⟨h1,h2,h3,h4,h8,⟨cells,elem,hx.get h5,h6⟩,fun o ho=>by
   show K' _ o=Hc
   rw[hK _ o bw];exact h7 o ho⟩
 ·trivial
theorem az.bV {K'}(m:az P C ω w0 C0 hp w)(hx:Ext w w')(hle:∀r o x,C.K r o=I x→K' r o=I x)(hK:∀r o,r<w.heap.size→K' r o=C.K r o)(hk:∀r o x,K' r o=I x→w'.cell? ⟨r,o,Hc⟩=I x)(h1:∀r o x,K' r o=I x→x.oneCell'=Gv):
  az P { C with K:=K' } ω w0 C0 hp w' where
 base:=m.base
 know:=hk
 de:=h1
 apart b r o hb:=by
  show K' r o=Hc
  rw[hK r o (m.lt b r hb).1];exact m.apart b r o hb
 inj:=m.inj
 lt b r hb:=⟨Ny (m.lt b r hb).1 hx.size,(m.lt b r hb).2⟩
 size:=Js m.size hx.size
 frame:=(m.ext hx).frame
 fo:=(m.ext hx).fo
 os:=(m.ext hx).os
 output:=(m.ext hx).output
 fresh:=m.fresh
 grown:=aI.le_trans m.grown ⟨hle,fun _ _ h=>h,rfl,fun _ h=>h,fun _ h=>h⟩
 old r o hr hw:=by
  show K' r o=_
  rw[hK r o (Ny hr m.size)];exact m.old r o hr hw
 box b x r hb hr:=by
  have h0:=m.box b x r hb hr
  -- in the new world first,then in the richer context
  cases x with
  |hole=>exact h0
  |cells cs=>
   obtain⟨vs,elem,g1,g2,g3⟩:=h0
   exact⟨vs,elem,hx.get g1,g2,fun j c hc=>let ⟨v,a,q,b,d⟩:=g3 j c hc; ⟨v,a,q,aB.mono (C':={ C with K:=K' }) ⟨hle,fun _ _ h=>h,rfl,fun _ h=>h,fun _ h=>h⟩ b,fun e=>(d e).grow hx hK⟩⟩
  |map es=>obtain⟨b9,clock,g1,g2⟩:=h0;exact⟨b9,clock,hx.get g1,cB.mono (C:=C) (C':={ C with K:=K' }) ⟨hle,fun _ _ h=>h,rfl,fun _ h=>h,fun _ h=>h⟩ g2⟩
  |iter s pos=>exact hx.get h0
  |loop l=>obtain⟨lp,g1,g2⟩:=h0;exact⟨lp,hx.get g1,cx.mono (C:=C) (C':={ C with K:=K' }) ⟨hle,fun _ _ h=>h,rfl,fun _ h=>h,fun _ h=>h⟩ g2⟩
  |fV t e l=>obtain⟨p,v,g1,g2,g3,g4⟩:=h0;exact⟨p,v,hx.get g1,g2,g3,g4.grow hx hK⟩
  |dead=>obtain⟨cs,t,g1⟩:=h0;exact⟨cs,t,hx.get g1⟩
  |vec sz bJ xs=>
   have hg:∀ {k:Nat} {c:Array Value} {t:TypeId},w.heap[k]?=I (.cells c t (0,0))→w'.heap[k]?=w.heap[k]?:=fun hk=>by rw[hx.get hk,hk]
   obtain⟨_,_,_,_,_,_,cs,t,g1⟩:=id h0
   refine ea.imp hle (fun _ h=>h) (fun _ h _=>h) (hg g1) (fun q n cap k=>⟨?_,k.grow hx hK⟩) h0
   obtain⟨_,_,_,_,_,⟨cells,elem,h5,_⟩,_⟩:=k
   exact hg h5
 iA q hq:=Ny (m.iA q hq) hx.size
theorem aq.bV {K'}(e:aq C ω w B env tmps)(hx:Ext w w')(hle:∀r o x,C.K r o=I x→K' r o=I x)(hK:∀r o,r<w.heap.size→K' r o=C.K r o):aq { C with K:=K' } ω w' B env tmps:=
 fun s x hs=>let ⟨v,h1,h2,h3⟩:=e s x hs; ⟨v,h1,aB.mono (C':={ C with K:=K' }) ⟨hle,fun _ _ h=>h,rfl,fun _ h=>h,fun _ h=>h⟩ h2,fun h=>(h3 h).grow hx hK⟩
theorem q5k (m:az P C ω w0 C0 hp w)(e:aq C ω w w0.heap.size env tmps){v ow u K'}(hx:Ext w w')(hle:∀r o x,C.K r o=I x→K' r o=I x)(hK:∀r o,r<w.heap.size→K' r o=C.K r o)(hk:∀r o x,K' r o=I x→w'.cell? ⟨r,o,Hc⟩=I x)(h1:∀r o x,K' r o=I x→x.oneCell'=Gv)
  (lB:mr v=Gv) (hr:bP (.bV K') v u) (ho:ow=Gv→∃ℓ ω',aJ (.bV K') ω' w' w.heap.size ℓ v u):zo P C0 w0 C tmps d env ⟨v,ow,Hc,hp⟩ u w':=by
 have m':=m.bV hx hle hK hk h1
 have e':=e.bV hx hle hK
 have jS:bP { C with K:=K' } v u:=aB.shift (C:=.bV K') (C':={ C with K:=K' }) 0 (fun _ _ _ h=>h) (fun b r bw=>by omega) hr lB
 have cO:C.le { C with K:=K' }:=⟨hle,fun _ _ h=>h,rfl,fun _ h=>h,fun _ h=>h⟩
 by_cases hkL:∃(n:Bool) (sz:Nat) (xs:List AVal) (ad:Addr) (len cap:Nat),v=.list n sz xs∧u=.slice (I ad) len cap∧ow=Gv
 ·obtain⟨n,sz,xs,ad,len,cap,rfl,rfl,rfl⟩:=hkL
  obtain⟨ℓ,ω',g1,RI,g3,g4,g5,g6,g7⟩:=ho rfl
  have g2:w.heap.size≤ad.block:=RI.resolve_right (fun h=>h)
  have AP:∀ℓ x v,aJ C ω w w0.heap.size ℓ x v→aJ { C with K:=K' } (cI ω ad.block d) w' w0.heap.size ℓ x v:=fun ℓ x v h=>by
   have h2:=(h.fresh (ℓ':=d) g2).grow hx hK
   exact h2
  refine⟨{ C with K:=K' },cI ω ad.block d,cO,?_,?_,jS,fun _=>?_⟩
  ·have:=(m.kG ad.block d g2).bV hx hle hK hk h1
   exact this
  ·exact fun s x hs=>let ⟨v,h1,h2,h3⟩:=e s x hs; ⟨v,h1,aB.mono cO h2,fun h=>AP _ _ _ (h3 h)⟩
  ·refine⟨by simp[cI],.inl (Js m.size g2),fun b hb=>?_,g4,g5,g6,g7⟩
   have:=(m.lt b _ hb).1
   omega
 by_cases dk:∃(n:Nat) (ad:Addr),v=.cT n∧u=.pointer (I ad)∧ow=Gv
 ·obtain⟨n,ad,rfl,rfl,rfl⟩:=dk
  obtain⟨ℓ,ω',g1,RI,g3,g4,g5,g6,g7⟩:=ho rfl
  have g2:w.heap.size≤ad.block:=RI.resolve_right (fun h=>h)
  have AP:∀ℓ x v,aJ C ω w w0.heap.size ℓ x v→aJ { C with K:=K' } (cI ω ad.block d) w' w0.heap.size ℓ x v:=fun ℓ x v h=>by
   have h2:=(h.fresh (ℓ':=d) g2).grow hx hK
   exact h2
  refine⟨{ C with K:=K' },cI ω ad.block d,cO,?_,?_,jS,fun _=>?_⟩
  ·have:=(m.kG ad.block d g2).bV hx hle hK hk h1
   exact this
  ·exact fun s x hs=>let ⟨v,h1,h2,h3⟩:=e s x hs; ⟨v,h1,aB.mono cO h2,fun h=>AP _ _ _ (h3 h)⟩
  ·refine⟨by simp[cI],.inl (Js m.size g2),fun b hb=>?_,g4,g5,g6,g7⟩
   have:=(m.lt b _ hb).1
   omega
 ·refine⟨{ C with K:=K' },ω,cO,m',e',jS,fun h=>?_⟩
  cases v with
  |list n sz xs=>
   cases u with
   |slice q len cap=>
    cases q with
    |some ad=>exact absurd ⟨_,_,_,_,_,_,rfl,rfl,h⟩ hkL
    |none=>trivial
   |_=>trivial
  |cT n=>
   cases u with
   |pointer q=>
    cases q with
    |some ad=>exact absurd ⟨_,_,rfl,rfl,h⟩ dk
    |none=>trivial
   |_=>trivial
  |_=>trivial
theorem jj9 (m:az P C ω w0 C0 hp w)(e:aq C ω w w0.heap.size env tmps){b q K' es b9 clock}(hx:Ext w w')(hle:∀r o x,C.K r o=I x→K' r o=I x)(hK:∀r o,r<w.heap.size→K' r o=C.K r o)(hk:∀r o x,K' r o=I x→w'.cell? ⟨r,o,Hc⟩=I x)(h1:∀r o x,K' r o=I x→x.oneCell'=Gv)
  (hh:hp[b]?=I .hole) (hq:w.heap.size≤q) (hg:w'.heap[q]?=I (.map b9 clock)) (hr:cB (.bV K') es b9.toList):zo P C0 w0 C tmps d env ⟨.map b,G8,Hc,hp.set b (.map es)⟩ (.map (I q)) w':=by
 have m':=m.bV hx hle hK hk h1
 have e':=e.bV hx hle hK
 have cO:C.le { C with K:=K' }:=⟨hle,fun _ _ h=>h,rfl,fun _ h=>h,fun _ h=>h⟩
 obtain⟨m2,e2,jJ⟩:=m'.FI e' hh hg (fun k hk=>by have:=(m.lt k q hk).1;omega) (Js m.size hq) (cB.imp (C:=.bV K') (C':={ C with K:=K' }) ⟨fun _ _ _ h=>h,fun b r h=>by simp[aI.bV]at h⟩ hr)
 exact⟨_,ω,aI.le_trans cO jJ,m2,e2,.map _ _ (by simp[aI.box]),by simp⟩
theorem F7 {C C' x v}(hp:nZ x=Gv)(h:bP C x v):bP C' x v:=by
 cases x<;>simp only[nZ,G9]at hp<;>cases h<;>constructor
theorem az.AQ (m:az P C ω w0 C0 hp w)(e:aq C ω w w0.heap.size env tmps){b q K' cells}{t:TypeId}{cs}(hx:Ext w w')(hle:∀r o x,C.K r o=I x→K' r o=I x)(hK:∀r o,r<w.heap.size→K' r o=C.K r o)(hk:∀r o x,K' r o=I x→w'.cell? ⟨r,o,Hc⟩=I x)(h1:∀r o x,K' r o=I x→x.oneCell'=Gv)
  (hq:w.heap.size≤q) (hn:∀o,K' q o=Hc) (hh:hp[b]?=I .hole) (hg:w'.heap[q]?=I (.cells cells t (0,0))) (hl:cs.length≤cells.size)
  (hcs:∀(j:Nat) (c:AVal×Bool),cs[j]?=I c→∃v,cells[j]?=I v∧v.oneCell'=Gv∧bP (({ C with K:=K' }:aI).box b q) c.1 v∧c.2=G8):
  az P (({ C with K:=K' }:aI).box b q) ω w0 C0 (hp.set b (.cells cs)) w'∧aq (({ C with K:=K' }:aI).box b q) ω w' w0.heap.size env tmps∧C.le (({ C with K:=K' }:aI).box b q):=by
 have m':=m.bV hx hle hK hk h1
 have hβ:=FG m hh
 have AJ:C.le { C with K:=K' }:=⟨hle,fun _ _ h=>h,rfl,fun _ h=>h,fun _ h=>h⟩
 have jJ:({ C with K:=K' }:aI).le (({ C with K:=K' }:aI).box b q):=aI.kK (C:={ C with K:=K' }) (r:=q) hβ
 have cO:=aI.le_trans AJ jJ
 have bw:b<hp.length:=(G6.1 hh).1
 have Lf:∀k,C.β k≠I q:=fun k hk=>by have:=(m.lt k q hk).1;omega
 have cQ:∀ℓ x v,aJ C ω w w0.heap.size ℓ x v→aJ (({ C with K:=K' }:aI).box b q) ω w' w0.heap.size ℓ x v:=fun ℓ x v h=>aJ.grow (C:=C.box b q) hx hK (aJ.box (.inl hq) h)
 refine⟨{ m' with apart:=?_,inj:=?_,lt:=?_,fresh:=?_,grown:=aI.le_trans m'.grown jJ,box:=?_ },?_,cO⟩
 ·intro k r o hk
  simp only[aI.box]at hk
  split at hk
  ·cases hk;exact hn o
  ·exact m'.apart k r o hk
 ·intro k k' r hk eJ
  simp only[aI.box]at hk eJ
  split at hk<;>split at eJ
  ·rename_i h1 h2;rw[h1,h2]
  ·cases hk;exact absurd eJ (Lf k')
  ·cases eJ;exact absurd hk (Lf k)
  ·exact m.inj k k' r hk eJ
 ·intro k r hk
  rw[Jq]
  simp only[aI.box]at hk
  split at hk
  ·rename_i h1;cases hk;subst h1;exact⟨(Gz.1 hg).1,bw⟩
  ·exact m'.lt k r hk
 ·intro k r hk
  simp only[aI.box]at hk
  split at hk
  ·cases hk;exact .inr (.inl (Js m.size hq))
  ·exact m.fresh k r hk
 ·intro k y r hy hk
  simp only[aI.box]at hk
  split at hk
  ·rename_i h1
   subst h1
   cases hk
   rw[Jr bw]at hy
   cases hy
   refine⟨cells,t,hg,hl,fun j c hc=>?_⟩
   obtain⟨v,a1,a2,a3,a4⟩:=hcs j c hc
   exact⟨v,a1,a2,a3,fun h=>by rw[a4]at h;cases h⟩
  ·rename_i h1
   rw[Gs (Jo h1)]at hy
   have h0:=m.box k y r hy hk
   cases y with
   |hole=>exact h0
   |cells cs=>
    obtain⟨vs,elem,g1,g2,g3⟩:=h0
    exact⟨vs,elem,hx.get g1,g2,fun j c hc=>let ⟨v,a,q,b,d⟩:=g3 j c hc; ⟨v,a,q,aB.mono cO b,fun e=>cQ _ _ _ (d e)⟩⟩
   |map es=>obtain⟨b9,clock,g1,g2⟩:=h0;exact⟨b9,clock,hx.get g1,cB.mono cO g2⟩
   |iter s pos=>exact hx.get h0
   |loop l=>obtain⟨lp,g1,g2⟩:=h0;exact⟨lp,hx.get g1,cx.mono cO g2⟩
   |fV t e l=>obtain⟨p,v,g1,g2,g3,g4⟩:=h0;exact⟨p,v,hx.get g1,g2,g3,cQ _ _ _ g4⟩
   |dead=>obtain⟨cs,t,g1⟩:=h0;exact⟨cs,t,hx.get g1⟩
   |vec sz bJ xs=>
    have Lg:∀ {k:Nat} {c:Array Value} {t:TypeId},w.heap[k]?=I (.cells c t (0,0))→w'.heap[k]?=w.heap[k]?:=fun hk=>by rw[hx.get hk,hk]
    obtain⟨_,_,_,_,_,_,cs,t,g1⟩:=id h0
    refine ea.imp hle (fun _ h=>h) (fun _ h _=>h) (Lg g1) (fun q n cap k'=>⟨?_,cQ _ _ _ k'⟩) h0
    obtain⟨_,_,_,_,_,⟨cells,elem,h5,_⟩,_⟩:=k'
    exact Lg h5
 ·exact fun s y hy=>let ⟨v,h1,h2,h3⟩:=e s y hy; ⟨v,h1,aB.mono cO h2,fun h=>cQ _ _ _ (h3 h)⟩
theorem az.F8 (m:az P C ω w0 C0 hp w){b x}(hh:hp[b]?=I .hole):az P C ω w0 C0 (hp.set b x) w:=by
 have hβ:=FG m hh
 refine { m with lt:=fun k r hk=>by rw[Jq];exact m.lt k r hk,box:=fun k y r hy hk=>?_ }
 by_cases kJ:k=b
 ·subst kJ;rw[hβ]at hk;cases hk
 ·rw[Gs (Jo kJ)]at hy
  exact m.box k y r hy hk
theorem jdh (m:az P C ω w0 C0 hp w)(e:aq C ω w w0.heap.size env tmps){v ow u h0 r res K'}(hx:Ext w w')(hle:∀r o x,C.K r o=I x→K' r o=I x)(hK:∀r o,r<w.heap.size→K' r o=C.K r o)(hk:∀r o x,K' r o=I x→w'.cell? ⟨r,o,Hc⟩=I x)(h1:∀r o x,K' r o=I x→x.oneCell'=Gv)
  (hr:bP (.bV K') v u) (ho:ow=Gv→∃ℓ ω',aJ (.bV K') ω' w' w.heap.size ℓ v u) (ht:qK h0 hp r v ow=I res):zo P C0 w0 C tmps d env res u w':=by
 unfold qK at ht
 split at ht
 ·rename_i sz _
  split at ht
  ·rename_i h' hn
   have hv:=qx ht
   obtain⟨hh,rfl⟩:=yz hn
   subst hv
   have cO:C.le { C with K:=K' }:=⟨hle,fun _ _ h=>h,rfl,fun _ h=>h,fun _ h=>h⟩
   refine⟨{ C with K:=K' },ω,cO,(m.bV hx hle hK hk h1).F8 hh,e.bV hx hle hK,aB.shift (C:=.bV K') (C':={ C with K:=K' }) 0 (fun _ _ _ h=>h) (fun b r bw=>by omega) hr (by rfl),fun h=>by simp at h⟩
  ·cases ht
 ·rename_i sz xs
  cases hb:(xs.flatMap AVal.flat).all nZ with
  |false=>rw[hb]at ht;cases ht
  |true=>
   rw[hb]at ht
   simp only[cond_true]at ht
   split at ht
   ·rename_i h' hn
    have hv:=qx ht
    obtain⟨hh,rfl⟩:=yz hn
    subst hv
    obtain⟨ℓ,ω',ho⟩:=ho rfl
    cases hr with
    |jG sz a mC=>
     simp only[aJ]at ho
     exact absurd ho.2.2.2.1 mC
    |list sz _ q o cap hl db=>
     simp only[aJ]at ho
     obtain⟨o1,o2,o3,_,o5,⟨cells,elem,o6,o7,_⟩,o8⟩:=ho
     subst o5
     have hq:w.heap.size≤q:=o2.resolve_right (fun h=>h)
     let K2:Nat→Nat→Option Value:=fun r o=>if r=q then Hc else K' r o
     have F9:∀ {r o x},K2 r o=I x→K' r o=I x:=by
      intro r o x h
      simp only[K2]at h
      split at h
      ·cases h
      ·exact h
     have jJ:∀r o x,C.K r o=I x→K2 r o=I x:=by
      intro r o x h
      have bw:r<w.heap.size:=by
       have:=m.know r o x h
       unfold World.cell? at this
       split at this
       ·rename_i c _ _ hc;exact(Gz.1 hc).1
       ·cases this
      have bG:r≠q:=by omega
      simp only[K2,if_neg bG]
      exact hle r o x h
     have RJ:∀r o,r<w.heap.size→K2 r o=C.K r o:=by
      intro r o bw
      have bG:r≠q:=by omega
      simp only[K2,if_neg bG]
      exact hK r o bw
     have hcells:=bu.cells db
     have hlen:(xs.flatMap AVal.flat).length≤cells.size:=by
      rcases Nat.eq_zero_or_pos (xs.flatMap AVal.flat).length with h0|h0
      ·omega
      ·obtain⟨y,hy⟩:∃y,(xs.flatMap AVal.flat)[(xs.flatMap AVal.flat).length-1]?=I y:=⟨_,Jy (by omega)⟩
       obtain⟨v,hv,_⟩:=cu.get hcells hy
       have h3:=hk _ _ _ hv
       unfold World.cell? at h3
       rw[o6]at h3
       simp only[Nx,G9,if_false]at h3
       have:=(Gz.1 h3).1
       omega
     obtain⟨m2,e2,l2⟩:=m.AQ e (b:=h0+r) (q:=q) (K':=K2) (cells:=cells) (t:=elem) (cs:=cellsOf (xs.flatMap AVal.flat)) hx jJ RJ (fun r o x h=>hk r o x (F9 h)) (fun r o x h=>h1 r o x (F9 h)) hq (fun o=>by simp[K2]) hh o6 (by rw[show(cellsOf (xs.flatMap AVal.flat)).length=(xs.flatMap AVal.flat).length by simp[cellsOf]];exact hlen) (by
      intro j c hc
      simp only[cellsOf,N7,Gx]at hc
      obtain⟨y,hy,rfl⟩:=hc
      obtain⟨v,hv,pB⟩:=cu.get hcells hy
      have h3:=hk _ _ _ hv
      unfold World.cell? at h3
      rw[o6]at h3
      simp only[Nx,G9,if_false,Q5]at h3
      exact⟨v,h3,h1 _ _ _ hv,F7 (Iy.1 hb y (J9 hy)) pB,rfl⟩)
     exact⟨_,ω,l2,m2,e2,.ms _ 0 _ q cap (by simp[aI.box]) hl,fun h=>by simp at h⟩
   ·cases ht
 ·cases ht
theorem q9c (m:az P C ω w0 C0 hp w){x x' v}(hf:Qw hp x=I x')(h:bP C x v)(hb:Abs.below 0 x'=Gv):bP (.bV (zt C hp w)) x' v:=by
 unfold Qw at hf
 split at hf
 ·rename_i b len
  split at hf
  ·rename_i cs hcs
   cases hc:(G7 (len*(cs.length / len)) cs.length&&Hd 0 (cs.length / len)&&cs.all (fun c=>nZ c.1))with
   |false=>
    rw[hc,cond_false]at hf
    cases hl:G7 len 0 with
    |false=>rw[hl]at hf;cases hf
    |true=>
     rw[hl]at hf
     have hl:=E3 hl
     subst hl
     simp only[cond_true,I.injEq]at hf
     subst hf
     obtain⟨r,cap,iC,hle,rfl⟩:=h.eR
     exact aB.list (C:=.bV (zt C hp w)) 8 [] r 0 cap (Nat.zero_le _) (.fK _ _ _)
   |true=>
    rw[hc]at hf
    simp only[cond_true,I.injEq]at hf
    subst hf
    simp only[En]at hc
    obtain⟨⟨c1,c2⟩,c3⟩:=hc
    have c1:=E3 c1
    have c2:0<cs.length / len:=by simpa using c2
    obtain⟨r,cap,iC,hle,rfl⟩:=h.eR
    obtain⟨vs,elem,k1,k2,k3⟩:=m.box b _ r (wA hcs) iC
    have db:bu (.bV (zt C hp w)) r (cs.length / len) (mA (cs.length / len) len (cs.map (·.1))) 0:=by
     refine RA c2 (by rw[Rk];exact c1.symm) (fun x hx=>?_) fun j x hx=>?_
     ·obtain⟨c,hc,rfl⟩:=Ue.1 hx
      have:=Iy.1 c3 c hc
      cases hq:c.1<;>rw[hq]at this<;>first|rfl|cases this
     ·rw[N7,Gx]at hx
      obtain⟨c,hc,rfl⟩:=hx
      obtain⟨u,q1,q2,q3,_⟩:=k3 j c hc
      have dY:w.cell? ⟨r,0+j,Hc⟩=I u:=by
       unfold World.cell?
       rw[k1]
       simp only[Nx,G9,if_false,Q5]
       exact q1
      exact⟨u,Rx iC dY q2,F7 (Iy.1 c3 c (J9 hc)) q3⟩
    have:=aB.list (C:=.bV (zt C hp w)) (cs.length / len) (mA (cs.length / len) len (cs.map (·.1))) r 0 cap (by rw[FY];exact hle) db
    rw[FY]at this
    exact this
  ·cases hf
 ·cases hf
  exact Ry m h hb
theorem qs5 (m:az P C ω w0 C0 hp w):∀ {xs fR:List AVal} {vs:List Value},xN hp xs=I fR→aS C xs vs→qw 0 fR=Gv→aS (.bV (zt C hp w)) fR vs
 | [],fR,vs,hf,h,_=>by
  simp only[xN,I.injEq]at hf
  subst hf
  cases h
  exact .nil
 |x::xs,fR,vs,hf,h,hb=>by
  simp only[xN]at hf
  split at hf
  ·rename_i y ys h1 h2
   cases hf
   cases h with
   |cons _ _ v vs hx h=>
    simp only[qw,En]at hb
    exact .cons _ _ _ _ (q9c m h1 hx hb.1) (qs5 m h2 h hb.2)
  ·cases hf
theorem qu1 {C C' x v}(hp:xO x=Gv)(h:bP C x v):bP C' x v:=by
 cases x with
 |agg cs=>
  obtain⟨vs,rfl,hl⟩:=h.eA
  refine .agg _ _ ?_
  simp only[xO]at hp
  clear h
  induction cs generalizing vs with
  |nil=>cases hl;exact .nil
  |cons c cs ih=>
   cases hl with
   |cons _ _ v vs hx hl=>
    simp only[T4,En]at hp
    exact .cons _ _ _ _ (F7 hp.1 hx) (ih hp.2 vs hl)
 |_=>exact F7 hp h
theorem jiw {C C' x v}(h:bP C x v):bP C' (Dr x) v:=by
 unfold Dr
 cases hp:xO x with
 |true=>exact qu1 hp h
 |false=>exact .any _
theorem qz5 {C C'}:∀ {xs:List AVal} {vs:List Value},aS C xs vs→aS C' (xs.map Dr) vs
 | [],_,h=>by cases h;exact .nil
 |x::xs,_,h=>by
  cases h with
  |cons _ _ v vs hx h=>exact .cons _ _ _ _ (jiw hx) (qz5 h)
open Classical in
theorem jjp (m:az P C ω w0 C0 hp w)(e:aq C ω w w0.heap.size env tmps){v v' ow Ga u K'}(hx:Ext w w')(hle:∀r o x,zt C hp w r o=I x→K' r o=I x)(hK:∀r o,r<w.heap.size→K' r o=zt C hp w r o)(hk:∀r o x,K' r o=I x→w'.cell? ⟨r,o,Hc⟩=I x)(h1:∀r o x,K' r o=I x→x.oneCell'=Gv)
  (hr:bP (.bV K') v u) (ho:ow=Gv→∃ℓ ω',aJ (.bV K') ω' w' w.heap.size ℓ v u) (ht:KL v ow=I (v',Ga)):zo P C0 w0 C tmps d env ⟨v',Ga,Hc,hp⟩ u w':=by
 let K2:Nat→Nat→Option Value:=fun r o=>if Hid C hp r then Hc else K' r o
 have F9:∀ {r o x},K2 r o=I x→K' r o=I x:=by
  intro r o x h
  simp only[K2]at h
  split at h
  ·cases h
  ·exact h
 have jJ:∀r o x,C.K r o=I x→K2 r o=I x:=by
  intro r o x h
  have hn:¬Hid C hp r:=by
   intro hh
   rw[Rw m hh o]at h;cases h
  simp only[K2,if_neg hn]
  exact hle r o x (FX m h)
 have RJ:∀r o,r<w.heap.size→K2 r o=C.K r o:=by
  intro r o bw
  by_cases hb:Hid C hp r
  ·simp only[K2,if_pos hb]
   exact(Rw m hb o).symm
  ·simp only[K2,if_neg hb]
   rw[hK r o bw]
   unfold zt
   rw[if_neg hb]
 have fin:∀(lB:mr v'=Gv) (jS:bP (.bV K2) v' u) (yB:Ga=Gv→∃ℓ ω',aJ (.bV K2) ω' w' w.heap.size ℓ v' u),zo P C0 w0 C tmps d env ⟨v',Ga,Hc,hp⟩ u w':=fun lB jS yB=>
  q5k m e hx jJ RJ (fun r o x h=>hk r o x (F9 h)) (fun r o x h=>h1 r o x (F9 h)) lB jS yB
 have gX:∀y,nZ y=Gv→Abs.below 0 y=Gv:=fun y hy=>by cases y<;>first|rfl|cases hy
 have rA:∀ys:List AVal,ys.all nZ=Gv→qw 0 ys=Gv:=by
  intro ys
  induction ys with
  |nil=>intro _;rfl
  |cons y ys ih=>
   intro h
   simp only[T4,En]at h
   simp only[qw,En]
   exact⟨gX y h.1,ih h.2⟩
 have oj:∀y,xO y=Gv→Abs.below 0 y=Gv:=fun y hy=>by
  cases y with
  |agg cs=>simp only[Abs.below];exact rA cs hy
  |_=>exact gX _ hy
 unfold KL at ht
 split at ht
 ·rename_i sz xs
  cases hb:(xs.flatMap AVal.flat).all nZ with
  |false=>rw[hb]at ht;cases ht
  |true=>
   rw[hb]at ht
   simp only[cond_true,I.injEq,Rb.injEq]at ht
   obtain⟨rfl,rfl⟩:=ht
   obtain⟨ℓ,ω',ho⟩:=ho rfl
   cases hr with
   |jG sz a mC=>
    simp only[aJ]at ho
    exact absurd ho.2.2.2.1 mC
   |list sz _ q o cap hl db=>
    simp only[aJ]at ho
    obtain⟨o1,o2,o3,o4,o5,o6,o8⟩:=ho
    have hq:w.heap.size≤q:=o2.resolve_right (fun h=>h)
    have DK:¬Hid C hp q:=by
     intro hh
     have:=jwu m hh
     omega
    have hKq:∀o,K2 q o=K' q o:=fun o=>by simp only[K2,if_neg DK]
    have hcells:=bu.cells db
    have qU:bu (.bV K2) q sz xs o:=by
     refine bu.eO (Rz fun j x hx=>?_) (bu.sized db)
     obtain⟨u,hu,hxu⟩:=cu.get hcells hx
     exact⟨u,by rw[show(aI.bV K2).K=K2 from rfl,hKq];exact hu,F7 (Iy.1 hb x (J9 hx)) hxu⟩
    refine fin ?_ (.list sz _ q o cap hl qU) fun _=>⟨ℓ,ω',?_⟩
    ·show mr _=Gv
     unfold mr
     have jH:∀ys:List AVal,(ys.flatMap AVal.flat).all nZ=Gv→qw 0 ys=Gv:=by
      intro ys
      induction ys with
      |nil=>intro _;rfl
      |cons y ys ih=>
       intro h
       rw[Sk,List.all_append,En]at h
       simp only[qw,En]
       exact⟨by rw[←KS];exact rA _ h.1,ih h.2⟩
     simp only[Abs.below]
     exact jH xs hb
    ·simp only[aJ]
     exact⟨o1,o2,o3,o4,o5,o6,fun o' yB=>by rw[show(aI.bV K2).K=K2 from rfl,hKq];exact o8 o' yB⟩
 ·simp only[I.injEq,Rb.injEq]at ht
  obtain⟨rfl,rfl⟩:=ht
  refine fin rfl ?_ (fun h=>by cases h)
  cases hr
  exact .jF _
 ·rename_i vs _
  simp only[I.injEq,Rb.injEq]at ht
  obtain⟨rfl,rfl⟩:=ht
  obtain⟨us,rfl,hl⟩:=hr.oe
  refine fin ?_ (.aC _ _ (qz5 hl)) (fun h=>by cases h)
  show Abs.below 0 _=Gv
  simp only[Abs.below]
  have:∀ys:List AVal,qw 0 (ys.map Dr)=Gv:=by
   intro ys
   induction ys with
   |nil=>rfl
   |cons y ys ih=>
    simp only[T5,qw,En]
    refine⟨?_,ih⟩
    unfold Dr
    cases hp:xO y with
    |true=>exact oj y hp
    |false=>rfl
  exact this _
 ·cases hb:xO v with
  |false=>rw[hb]at ht;cases ht
  |true=>
   rw[hb]at ht
   simp only[cond_true,I.injEq,Rb.injEq]at ht
   obtain⟨rfl,rfl⟩:=ht
   exact fin (oj v hb) (qu1 hb hr) (fun h=>by cases h)
def aI.shared (C:aI)(ω:Nat→Option Loc)(w0:World):aI:={ C with W:=fun r=>(∃b j,ω r=I (.cell b j))∧(w0.heap.size≤r∨C.W r) }
def rC (ω:Nat→Option Loc):Nat→Option Loc:=fun r=>match ω r with
 |some (.cell b j)=>I (.cell b j)
 |_=>Hc
theorem aJ.shared {b j x v}(ho:aJ C ω w w0.heap.size (.cell b j) x v):aJ (C.shared ω w0) (rC ω) w w.heap.size (.cell b j) x v:=by
 unfold aJ at *
 split at ho
 ·obtain⟨g1,g2,g3⟩:=ho
  exact⟨by simp[rC,g1],.inr ⟨⟨b,j,g1⟩,g2⟩,g3⟩
 ·obtain⟨g1,g2,g3⟩:=ho
  exact⟨by simp[rC,g1],.inr ⟨⟨b,j,g1⟩,g2⟩,g3⟩
 ·trivial
theorem RL (m:az P C ω w0 C0 hp w):az P (C.shared ω w0) (rC ω) w (C.shared ω w0) hp w where
 base:=⟨m.tabs,fun g hg=>by
  obtain⟨h1,h2⟩:=m.base.2 g hg
  have bw:=(m.base.1 g hg).1
  refine⟨fun b hb=>?_,fun h=>?_⟩
  ·rcases m.fresh b g hb with h|h|h
   ·exact h1 b h
   ·omega
   ·exact h2 h
  ·rcases h.2 with h|h
   ·omega
   ·rw[m.grown.w]at h;exact h2 h⟩
 know:=m.know
 de:=m.de
 apart:=m.apart
 inj:=m.inj
 lt:=m.lt
 size:=Nat.le_refl _
 frame _ _ _ _:=rfl
 fo:=m.fo
 os:=rfl
 output:=rfl
 fresh _ _ h:=.inl h
 grown:=aI.le_refl _
 old _ _ _ _:=rfl
 box b x r hx hb:=bE.imp (C:=C) (C':=C.shared ω w0) ⟨fun _ _ _ h=>h,fun _ _ h=>h⟩ rfl (fun _ _ _ ho=>ho.shared) (m.box b x r hx hb)
 iA:=m.iA
def ny (ω ω1:Nat→Option Loc)(n:Nat):Nat→Option Loc:=fun r=>match decide (r<n),ω r with
 |true,I (.slot s)=>I (.slot s)
 |_,_=>rC ω1 r
def aI.back (C1 C:aI):aI:={ C1 with W:=C.W }
theorem Lh (hle:(C.shared ω w0).le C1):C.le (C1.back C):=⟨hle.k,hle.b,rfl,hle.d,hle.t⟩
theorem aJ.rD {s x v}(m1:az P C1 ω1 w (C.shared ω w0) h1 w')(ho:aJ C ω w w0.heap.size (.slot s) x v):aJ (C1.back C) (ny ω ω1 w.heap.size) w' w0.heap.size (.slot s) x v:=by
 unfold aJ at *
 split at ho
 ·rename_i ad len cap
  obtain⟨g1,g2,g3,g4,g8,⟨cells,elem,g5,g6⟩,g7⟩:=ho
  have bw:=(Gz.1 g5).1
  have AR:¬(C.shared ω w0).W ad.block:=fun h=>by
   obtain⟨⟨b,j,h⟩,_⟩:=h
   rw[g1]at h;cases h
  refine⟨by simp[ny,bw,g1],g2,fun b hb=>?_,g4,g8,⟨cells,elem,?_,g6⟩,fun o ho=>?_⟩
  ·rcases m1.fresh b _ hb with h|h|h
   ·exact g3 b h
   ·omega
   ·exact AR h
  ·rw[m1.frame _ bw g3 AR];exact g5
  ·have:=m1.old _ o bw AR
   show C1.K _ o=Hc
   rw[this];exact g7 o ho
 ·rename_i ad
  obtain⟨g1,g2,g3,g4,g8,⟨cells,elem,g5,g6⟩,g7⟩:=ho
  have bw:=(Gz.1 g5).1
  have AR:¬(C.shared ω w0).W ad.block:=fun h=>by
   obtain⟨⟨b,j,h⟩,_⟩:=h
   rw[g1]at h;cases h
  refine⟨by simp[ny,bw,g1],g2,fun b hb=>?_,g4,g8,⟨cells,elem,?_,g6⟩,fun o ho=>?_⟩
  ·rcases m1.fresh b _ hb with h|h|h
   ·exact g3 b h
   ·omega
   ·exact AR h
  ·rw[m1.frame _ bw g3 AR];exact g5
  ·have:=m1.old _ o bw AR
   show C1.K _ o=Hc
   rw[this];exact g7 o ho
 ·trivial
theorem aJ.rE {b j x v}(m:az P C ω w0 C0 hp w)(hW:C1.W=(C.shared ω w0).W)(ho:aJ C1 ω1 w' w.heap.size (.cell b j) x v):aJ (C1.back C) (ny ω ω1 w.heap.size) w' w0.heap.size (.cell b j) x v:=by
 unfold aJ at *
 split at ho
 ·rename_i ad len cap
  obtain⟨g1,g2,g3⟩:=ho
  rw[hW]at g2
  refine⟨?_,?_,g3⟩
  ·unfold ny
   split
   ·rename_i s bw hs
    have bw:=of_decide_eq_true bw
    rcases g2 with g2|⟨⟨b',j',g2⟩,_⟩
    ·omega
    ·rw[hs]at g2;cases g2
   ·simp[rC,g1]
  ·rcases g2 with g2|⟨_,g2⟩
   ·exact .inl (Js m.size g2)
   ·exact g2
 ·rename_i ad
  obtain⟨g1,g2,g3⟩:=ho
  rw[hW]at g2
  refine⟨?_,?_,g3⟩
  ·unfold ny
   split
   ·rename_i s bw hs
    have bw:=of_decide_eq_true bw
    rcases g2 with g2|⟨⟨b',j',g2⟩,_⟩
    ·omega
    ·rw[hs]at g2;cases g2
   ·simp[rC,g1]
  ·rcases g2 with g2|⟨_,g2⟩
   ·exact .inl (Js m.size g2)
   ·exact g2
 ·trivial
theorem qs7 (m:az P C ω w0 C0 hp w)(e:aq C ω w w0.heap.size env tmps)(m1:az P C1 ω1 w (C.shared ω w0) h1 w')(hle:(C.shared ω w0).le C1):
  az P (C1.back C) (ny ω ω1 w.heap.size) w0 C0 h1 w'∧aq (C1.back C) (ny ω ω1 w.heap.size) w' w0.heap.size env tmps:=by
 have hsh:∀r,r<w0.heap.size→¬C0.W r→¬(C.shared ω w0).W r:=fun r hr hw h=>by
  rcases h.2 with h|h
  ·omega
  ·rw[m.grown.w]at h;exact hw h
 constructor
 ·refine { base:=m.base,know:=m1.know,de:=m1.de,apart:=m1.apart,inj:=m1.inj,lt:=m1.lt,size:=Js m.size m1.size,frame:=?_,fo:=m1.fo,os:=m1.os.trans m.os,output:=m1.output.trans m.output,fresh:=?_,grown:=aI.le_trans m.grown (Lh hle),old:=?_,box:=?_,iA:=m1.iA }
  ·intro r hr hn hw
   have iY:∀b,C.β b≠I r:=fun b hb=>by
    rcases m.fresh b r hb with h|h|h
    ·exact hn b h
    ·omega
    ·exact hw h
   rw[m1.frame r (Ny hr m.size) iY (hsh r hr hw)]
   exact m.frame r hr hn hw
  ·intro b r hb
   rcases m1.fresh b r hb with h|h|h
   ·exact m.fresh b r h
   ·exact .inr (.inl (Js m.size h))
   ·exact .inr (h.2.imp id (fun h=>by rw[←m.grown.w];exact h))
  ·intro r o hr hw
   show C1.K r o=_
   rw[m1.old r o (Ny hr m.size) (hsh r hr hw)]
   exact m.old r o hr hw
  ·intro b x r hx hb
   exact bE.imp (C:=C1) (C':=C1.back C) ⟨fun _ _ _ h=>h,fun _ _ h=>h⟩ rfl (fun _ _ _ ho=>ho.rE m hle.w) (m1.box b x r hx hb)
 ·exact fun s x hs=>let ⟨v,k1,k2,k3⟩:=e s x hs; ⟨v,k1,aB.mono (Lh hle) k2,fun h=>(k3 h).rD m1⟩
theorem bP.back {x v}(h:bP C1 x v):bP (C1.back C) x v:=aB.imp (C:=C1) (C':=C1.back C) ⟨fun _ _ _ h=>h,fun _ _ h=>h⟩ h
theorem qta (m:az P C ω w0 C0 hp w)(e:aq C ω w w0.heap.size env tmps)(m1:az P C1 ω1 w (C.shared ω w0) h1 w')(hle:(C.shared ω w0).le C1){v ow u}(hr:bP C1 v u)(ho:ow=Gv→aJ C1 ω1 w' w.heap.size (.slot 0) v u):
  zo P C0 w0 C tmps d env ⟨v,ow,Hc,zd hp.length v h1⟩ u w':=by
 have hC:∀b r,C.β b=I r→b<hp.length:=fun b r h=>(m.lt b r h).2
 have cO:=Lh hle
 have jS:bP (C1.back C) v u:=hr.back
 -- the result's ownership first
 have step:∃ω',az P (C1.back C) ω' w0 C0 h1 w'∧aq (C1.back C) ω' w' w0.heap.size env tmps∧(ow=Gv→aJ (C1.back C) ω' w' w0.heap.size d v u):=by
  obtain⟨m2,e2⟩:=qs7 m e m1 hle
  cases ow with
  |false=>exact⟨_,m2,e2,by simp⟩
  |true=>
   by_cases hk:∃(n:Bool) (sz:Nat) (xs:List AVal) (ad:Addr) (len cap:Nat),v=.list n sz xs∧u=.slice (I ad) len cap
   ·obtain⟨n,sz,xs,ad,len,cap,rfl,rfl⟩:=hk
    obtain⟨g1,g2,g3,g4⟩:=ho rfl
    rw[hle.w]at g2
    have iL:ny ω ω1 w.heap.size ad.block=Hc:=by
     unfold ny
     split
     ·rename_i s bw hs
      have bw:=of_decide_eq_true bw
      rcases g2 with g2|⟨⟨b',j',g2⟩,_⟩
      ·omega
      ·rw[hs]at g2;cases g2
     ·simp[rC,g1]
    refine⟨cI (ny ω ω1 w.heap.size) ad.block d,m2.cI _ _ (by simp[iL]),?_,fun _=>?_⟩
    ·exact fun s x hs=>let ⟨v,k1,k2,k3⟩:=e2 s x hs; ⟨v,k1,k2,fun h=>(k3 h).other (.inl (by simp[iL]))⟩
    ·refine⟨by simp[cI],?_,g3,g4⟩
     rcases g2 with g2|⟨_,g2⟩
     ·exact .inl (Js m.size g2)
     ·exact g2
   by_cases dk:∃(n:Nat) (ad:Addr),v=.cT n∧u=.pointer (I ad)
   ·obtain⟨n,ad,rfl,rfl⟩:=dk
    obtain⟨g1,g2,g3,g4⟩:=ho rfl
    rw[hle.w]at g2
    have iL:ny ω ω1 w.heap.size ad.block=Hc:=by
     unfold ny
     split
     ·rename_i s bw hs
      have bw:=of_decide_eq_true bw
      rcases g2 with g2|⟨⟨b',j',g2⟩,_⟩
      ·omega
      ·rw[hs]at g2;cases g2
     ·simp[rC,g1]
    refine⟨cI (ny ω ω1 w.heap.size) ad.block d,m2.cI _ _ (by simp[iL]),?_,fun _=>?_⟩
    ·exact fun s x hs=>let ⟨v,k1,k2,k3⟩:=e2 s x hs; ⟨v,k1,k2,fun h=>(k3 h).other (.inl (by simp[iL]))⟩
    ·refine⟨by simp[cI],?_,g3,g4⟩
     rcases g2 with g2|⟨_,g2⟩
     ·exact .inl (Js m.size g2)
     ·exact g2
   ·refine⟨_,m2,e2,fun h=>?_⟩
    unfold aJ
    split
    ·exact absurd ⟨_,_,_,_,_,_,rfl,rfl⟩ hk
    ·exact absurd ⟨_,_,rfl,rfl⟩ dk
    ·trivial
 obtain⟨ω',m2,e2,o2⟩:=step
 unfold zd
 cases hb:Jn h1.length hp.length with
 |true=>simp only[cond_true];exact⟨_,ω',cO,m2,e2,jS,o2⟩
 |false=>
  simp only[cond_false]
  cases lP:(below hp.length v&&zr hp.length (h1.take hp.length))with
  |false=>simp only[cond_false];exact⟨_,ω',cO,m2,e2,jS,o2⟩
  |true=>
   simp only[cond_true]
   simp only[En]at lP
   have bw:hp.length≤h1.length:=by
    rcases Nat.lt_or_ge hp.length h1.length with h|h
    ·omega
    ·rw[Nat.ble_eq_true_of_le h]at hb;cases hb
   have h0:∀b r,C0.β b=I r→b<hp.length:=fun b r h=>hC b r (m.grown.2 b r h)
   have m3:=m2.gc bw lP.2 h0
   refine⟨(C1.back C).cut hp.length,ω',aI.iK cO hC,m3,?_,bP.cut jS lP.1,fun h=>(o2 h).cut _⟩
   intro s x hs
   obtain⟨y,k1,k2,k3⟩:=e s x hs
   obtain⟨y',j1,j2,j3⟩:=e2 s x hs
   rw[k1]at j1
   cases j1
   exact⟨y,k1,aB.mono (aI.iK cO hC) k2,fun h=>(j3 h).cut _⟩
theorem bn.fC {e}(h:bn C e tmps):aq C ω w B (fC e) tmps:=by
 intro s x hx
 have key:∀ {e:Env} {x:AVal×Bool},jj s (Abs.fC e)=I x→∃o,jj s e=I (x.1,o)∧x.2=G8:=by
  intro e
  induction e with
  |nil=>intro x h;simp[Abs.fC,jj]at h
  |cons y e ih=>
   intro x h
   obtain⟨t,v,o⟩:=y
   simp only[Abs.fC,T5,jj]at h ⊢
   cases hb:G7 t s with
   |true=>simp only[hb,cond_true,I.injEq]at h ⊢;subst h;exact⟨o,rfl,rfl⟩
   |false=>simp only[hb,cond_false]at h ⊢;exact ih h
 obtain⟨o,h1,h2⟩:=key hx
 obtain⟨v,h3,h4⟩:=h s _ h1
 exact⟨v,h3,h4,by simp[h2]⟩
theorem qs0:∀ {ts:List Nat} {vs:List AVal} {us:List Value} {e e':Env} {tmps:Array Value},wu e ts vs=I e'→aS C vs us→(∀t∈ts,t<tmps.size)→aq C ω w B e tmps →
  ts.length=us.length∧((ts.zip us).foldl (fun(tmps:Array Value) (x:Nat×Value)=>tmps.setIfInBounds x.1 x.2) tmps).size=tmps.size∧aq C ω w B e' ((ts.zip us).foldl (fun(tmps:Array Value) (x:Nat×Value)=>tmps.setIfInBounds x.1 x.2) tmps)
 | [],[],us,e,e',tmps,h,hr,_,he=>by
  simp only[wu,I.injEq]at h
  subst h
  cases hr
  exact⟨rfl,rfl,he⟩
 |t::ts,v::vs,us,e,e',tmps,h,hr,hf,he=>by
  simp only[wu]at h
  cases hr with
  |cons _ _ u us hu hr=>
   have Li:aq C ω w B ((t,v,G8)::e) (tmps.setIfInBounds t u):=by
    intro s x hx
    simp only[jj]at hx
    cases hb:G7 t s with
    |true=>
     have:=E3 hb
     subst this
     simp only[hb,cond_true,I.injEq]at hx
     subst hx
     exact⟨u,by simp[hf t (by simp)],hu,by simp⟩
    |false=>
     simp only[hb,cond_false]at hx
     obtain⟨y,h1,h2,h3⟩:=he s x hx
     refine⟨y,?_,h2,h3⟩
     rw[N9 (fun hh=>by subst hh;simp at hb)]
     exact h1
   have ih:=qs0 h hr (tmps:=tmps.setIfInBounds t u) (fun t' Fx=>by simpa using hf t' (by simp[Fx])) Li
   refine⟨by simp[ih.1],?_,?_⟩
   ·simp only[Sg,Tv];rw[ih.2.1];simp
   ·simp only[Sg,Tv];exact ih.2.2
 | [],_::_,_,_,_,_,h,_,_,_=>by simp[wu]at h
 |_::_,[],_,_,_,_,h,_,_,_=>by simp[wu]at h
theorem Lj {b r l}(m:az P C ω w0 C0 hp w)(hb:zg hp b=I (.loop l))(hr:C.β b=I r):∃lp,w.heap[r]?=I (.loop lp)∧cx P C l lp:=
 m.box b _ r hb hr
theorem Gb {b r l' lp AU}(m:az P C ω w0 C0 hp w)(hr:C.β b=I r)(hg:w.heap[r]?=I (.loop lp))(hl:cx P C l' AU):
  (setObj r (.loop AU)).run P w=.ok () (kg w r (.loop AU))∧nv w (kg w r (.loop AU)) r∧az P C ω w0 C0 (hp.set b (.loop l')) (kg w r (.loop AU)):=by
 have bw:=(Gz.1 hg).1
 have hu:nv w (kg w r (.loop AU)) r:=DG bw (by simp)
 exact⟨x6 hg (by simp),hu,m.dO hu hr _ (fun _ _ _ _ _ h=>h) ⟨AU,FN bw,hl⟩⟩
theorem jjw (hx:cD P xc)(m:az P C ω w0 C0 hp w)(e:aq C ω w w0.heap.size env tmps){b r}(hr:C.β b=I r){args us}(ha:aS C args us){v h'}(hy:kE xc b args hp=I (v,h')):
  ∃f ol assign body,(Instr.yield r ⟨us⟩).run P w=.ok (.round r f ol assign body) w∧RoundIn Fence.wide 0 P r f ol assign body w fun ee w'=>∃u,ee=.returned u∧zo P C0 w0 C tmps d env ⟨v,G8,Hc,h'⟩ u w':=by
 unfold kE at hy
 split at hy
 ·rename_i l hl
  split at hy
  ·rename_i e0 hpend bD
   obtain⟨lp,hg,lr⟩:=Lj m hl hr
   have ms:=RL m
   have gU:aS (C.shared ω w0) args us:=aB.imp (C:=C) (C':=C.shared ω w0) ⟨fun _ _ _ h=>h,fun _ _ h=>h⟩ ha
   have hel:aq (C.shared ω w0) (rC ω) w w.heap.size (fC l.env) lp.tmps:=bn.fC (fun s x hs=>let ⟨v,h1,h2⟩:=lr.env s x hs; ⟨v,h1,aB.imp (C:=C) (C':=C.shared ω w0) ⟨fun _ _ _ h=>h,fun _ _ h=>h⟩ h2⟩)
   obtain⟨hlen,cS,he0⟩:=qs0 bD gU lr.fits hel
   have qP:(lp.params.zip (⟨us⟩:Array Value)).foldl (fun(tmps:Array Value) (x:Nat×Value)=>tmps.setIfInBounds x.1 x.2) lp.tmps=(l.params.zip us).foldl (fun(tmps:Array Value) (x:Nat×Value)=>tmps.setIfInBounds x.1 x.2) lp.tmps:=by
    rw[←Array.foldl_toList,Array.toList_zip,lr.params]
   have RM:lp.params.size=us.length:=by rw[←Array.length_toList,lr.params];exact hlen
   refine⟨lp.fn,(l.params.zip us).foldl (fun(tmps:Array Value) (x:Nat×Value)=>tmps.setIfInBounds x.1 x.2) lp.tmps,lp.assign,lp.body,?_,?_⟩
   ·have AV:(Instr.getLoop r).run P w=.ok lp w:=by simp[Instr.getLoop,pA hg (by simp)]
    have bG:¬((⟨us⟩:Array Value).size≠lp.params.size):=by simp[RM]
    simp only[Instr.yield,Sem.run_bind,AV,Result.andThen_ok,bG,if_false,Sem.run_pure,Sem.run_ite]
    rw[show((lp.params.zip (⟨us⟩:Array Value)).foldl (fun tmps (x:Nat×Value)=>match x with|(t,a)=>tmps.setIfInBounds t a) lp.tmps)=_ from qP]
   ·refine roundIn_of_wpIn trivial ?_
    split at hy
    ·rename_i st b6
     split at hy
     ·rename_i l1 ie
      cases jV:l1.pending.isNone with
      |false=>simp[jV]at hy
      |true=>
       simp only[jV,cond_true]at hy
       have Gc:l1.pending=Hc:=by simpa using jV
       split at hy
       ·rename_i x bT il
        split at hy
        ·rename_i l2 oL
         cases hy
         refine wpIn_mono (hx (I r) lp.tmps.size lp.assign l.assign _ _ _ lr.assign (fun _=>lr.nr.1) b6 (C.shared ω w0) (rC ω) w (C.shared ω w0) { tmps:=_,defers:=[] } w ms he0 cS Marks.nil) ?_
         rintro ee a1 w1 ⟨rfl,q1,C1,ω1,q2,q3,q4,q5⟩
         have wD:=q2.b b r hr
         obtain⟨Lk,hg1,RN⟩:=Lj q4 ie wD
         have yC:Lk.state=.ready:=by rw[RN.state,Gc]
         have RO:cx P C1 { l1 with pending:=I .normal } { Lk with state:=.busy }:={ RN with state:=rfl,pending:=by rw[RN.pending,Gc] }
         obtain⟨Gd,FJ,m1⟩:=Gb q4 wD hg1 RO
         have iC:(Instr.beginRound r).run P w1=.ok () (kg w1 r (.loop { Lk with state:=.busy })):=by
          have AV:(Instr.getLoop r).run P w1=.ok Lk w1:=by simp[Instr.getLoop,pA hg1 (by simp)]
          simp only[Instr.beginRound,Sem.run_bind,AV,Result.andThen_ok,Gd,yC,Sem.run_pure]
         refine⟨_,iC,?_⟩
         refine wpIn_mono (hx (I r) lp.tmps.size lp.body l.body _ _ _ lr.body (fun _=>lr.nr.2) il C1 ω1 w (C.shared ω w0) a1 _ m1 (q5.dC FJ wD) q1 q3) ?_
         rintro ee a2 w2 ⟨rfl,p1,C2,ω2,p2,p3,p4,p5⟩
         have rF:=p2.b b r wD
         obtain⟨lR,rG,vr⟩:=Lj p4 oL rF
         have AW:(Instr.getLoop r).run P w2=.ok lR w2:=by simp[Instr.getLoop,pA rG (by simp)]
         have fin:∀(RP:LoopState) (pd:Option Code) (ap:Option jg) (bb:Bool),cx P C2 { l2 with pending:=ap } { lR with state:=RP,pending:=pd } →
           zo P C0 w0 C tmps d env ⟨.bool bb,G8,Hc,zd hp.length (.bool Gv) (bT.heap.set b (.loop { l2 with pending:=ap }))⟩ (.bool bb) (kg w2 r (.loop { lR with state:=RP,pending:=pd })):=by
          intro RP pd ap bb vt
          obtain⟨jX,hu2,m2⟩:=Gb p4 rF rG vt
          have:=qta (d:=d) (v:=.bool bb) (ow:=false) (u:=.bool bb) m e m2 (aI.le_trans q2 p2) (.bool bb) (by simp)
          exact this
         cases x with
         |normal=>
          have vt:cx P C2 { l2 with pending:=Hc } { lR with state:=.ready,pending:=Hc }:={ vr with state:=rfl,pending:=rfl }
          obtain⟨jX,_,_⟩:=Gb p4 rF rG vt
          exact⟨.bool Gv,_,by simp only[Instr.endRound,Sem.run_bind,AW,Result.andThen_ok,Option.isNone_none,if_true,jX,Sem.run_pure],_,rfl,fin _ _ _ Gv vt⟩
         |ret=>
          have vt:cx P C2 { l2 with pending:=I .ret } { lR with state:=.done,pending:=I .ret }:={ vr with state:=rfl,pending:=rfl }
          obtain⟨jX,_,_⟩:=Gb p4 rF rG vt
          exact⟨.bool G8,_,by simp only[Instr.endRound,Sem.run_bind,AW,Result.andThen_ok,Sh,G9,if_false,jX,Sem.run_pure],_,rfl,fin _ _ _ G8 vt⟩
         |exit id=>
          have vt:cx P C2 { l2 with pending:=I (.exit id) } { lR with state:=.done,pending:=I (.exit id) }:={ vr with state:=rfl,pending:=rfl }
          obtain⟨jX,_,_⟩:=Gb p4 rF rG vt
          exact⟨.bool G8,_,by simp only[Instr.endRound,Sem.run_bind,AW,Result.andThen_ok,Sh,G9,if_false,jX,Sem.run_pure],_,rfl,fin _ _ _ G8 vt⟩
        ·cases hy
       ·cases hy
     ·cases hy
    ·cases hy
  ·cases hy
 ·cases hy
theorem jmg {h md r h0 dst al cH res}(et:bW P p)(hx:cD P xc)(m:az P C ω w0 C0 hp w)(e:aq C ω w w0.heap.size env a.tmps){c}(ho:o.op=.call c){f}(oM:c.callee=.value f)
  (hc:Ah P h md r dst c=I cH) (hs:qf p xc h0 al env hp cH=I res):yf P C C0 w0 a d env o w res:=by
 unfold Ah at hc
 rw[oM]at hc
 simp only[]at hc
 split at hc
 ·rename_i f' args' h1 h2
  cases hc
  generalize md.at r=md at hs
  simp only[qf,yt]at hs
  split at hs
  ·rename_i k first captured vs e1 e2
   have yD:=qv e.cm h1 e1
   have RQ:=DA e.cm h2 e2
   generalize gW:a.eval f=fv at yD
   cases yD with
   |fn g g' _ _ as bs hf ha hb=>
    simp only[fE]at hf
    subst hf
    have hall:aS C (first++vs++captured) (as++c.args.toList.map a.eval++bs):=aS.append (aS.append ha RQ) hb
    have iM:Enters P k→(execOp a.eval o).run P w=.ok (.enter k ⟨as++c.args.toList.map a.eval++bs⟩) w:=by
     intro lQ
     have eo:(⟨as⟩:Array Value)++Array.map a.eval c.args++(⟨bs⟩:Array Value)=⟨as++c.args.toList.map a.eval++bs⟩:=by
      apply Se;simp
     simp[execOp,ho,resolve,oM,gW,Deferred.ofValue,invoke,eo,qpa lQ]
    cases md with
    |fI rk=>
     simp only[]at hs
     cases vi:(first++vs++captured).isEmpty with
     |false=>
      rw[vi]at hs
      simp only[cond_false]at hs
      cases lu:qw 0 (first++vs++captured)with
      |false=>rw[lu]at hs;cases hs
      |true=>
       rw[lu]at hs
       simp only[cond_true]at hs
       split at hs
       ·rename_i v ow wF
        obtain⟨lQ,lB,rH⟩:=Le et hx wF lu
        have lS:aS (.bV C.K) (first++vs++captured) (as++c.args.toList.map a.eval++bs):=
         aB.shift (C:=C) (C':=.bV C.K) 0 (fun _ _ _ h=>h) (fun b r bw=>by omega) hall lu
        refine .inr (.inr (.inl ⟨k,_,iM lQ,CallsIn.mono (rH C.K w _ m.tabs m.know m.de lS) ?_⟩))
        rintro ee w' ⟨u,K',rfl,q1,q2,q3,q4,q5,q6,q7⟩
        exact⟨u,rfl,jdh m e q1 q2 q3 q4 q5 q6 q7 hs⟩
       ·cases hs
     |true=>
      rw[vi]at hs
      simp only[cond_true]at hs
      split at hs
      ·rename_i es hm
       split at hs
       ·rename_i h' hn
        obtain rfl:=qx hs
        obtain⟨hh,rfl⟩:=yz hn
        obtain⟨lQ,lK⟩:=et.maps k es hm
        have kH:as++c.args.toList.map a.eval++bs=[]:=by
         have h1:first++vs++captured=[]:=Rh.1 vi
         have h2:=hall.length
         rw[h1]at h2
         exact List.eq_nil_of_length_eq_zero h2
        refine .inr (.inr (.inl ⟨k,_,iM lQ,?_⟩))
        rw[kH]
        refine CallsIn.mono (lK C.K w m.tabs m.know m.de) ?_
        rintro ee w' ⟨q,K',b9,clock,rfl,q1,q2,q3,q4,q5,q6,q7,q8⟩
        exact⟨_,rfl,jj9 m e q1 q2 q3 q4 q5 hh q6 q7 q8⟩
       ·cases hs
      ·cases hs
    |bV=>
     simp only[]at hs
     cases vi:qw 0 (first++vs++captured)with
     |false=>rw[vi]at hs;cases hs
     |true=>
      rw[vi]at hs
      simp only[cond_true]at hs
      split at hs
      ·rename_i v ow wF
       cases hs
       obtain⟨lQ,lB,rH⟩:=Le et hx wF vi
       have lS:aS (.bV C.K) (first++vs++captured) (as++c.args.toList.map a.eval++bs):=
        aB.shift (C:=C) (C':=.bV C.K) 0 (fun _ _ _ h=>h) (fun b r bw=>by omega) hall vi
       refine .inr (.inr (.inl ⟨k,_,iM lQ,CallsIn.mono (rH C.K w _ m.tabs m.know m.de lS) ?_⟩))
       rintro ee w' ⟨u,K',rfl,q1,q2,q3,q4,q5,q6,q7⟩
       exact⟨u,rfl,q5k m e q1 q2 q3 q4 q5 lB q6 q7⟩
      ·cases hs
    |red=>
     simp only[]at hs
     split at hs
     ·rename_i xs DJ
      cases lu:qw 0 xs with
      |false=>rw[lu]at hs;cases hs
      |true=>
       rw[lu]at hs
       simp only[cond_true]at hs
       split at hs
       ·rename_i v ow wF
        split at hs
        ·rename_i v' Ga hrd
         cases hs
         obtain⟨lQ,lB,rH⟩:=Le et hx wF lu
         refine .inr (.inr (.inl ⟨k,_,iM lQ,CallsIn.mono (rH (zt C hp w) w _ m.tabs (fun r o u h=>(Ld m h).1) (fun r o u h=>(Ld m h).2) (qs5 m DJ hall lu)) ?_⟩))
         rintro ee w' ⟨u,K',rfl,q1,q2,q3,q4,q5,q6,q7⟩
         exact⟨u,rfl,jjp m e q1 q2 q3 q4 q5 q6 q7 hrd⟩
        ·cases hs
       ·cases hs
     ·cases hs
    |shr=>
     simp only[]at hs
     split at hs
     ·rename_i v ow h' F3
      cases hs
      ·obtain⟨lQ,nx⟩:=F2 et hx F3
       have lS:aS (C.shared ω w0) (first++vs++captured) (as++c.args.toList.map a.eval++bs):=aB.imp (C:=C) (C':=C.shared ω w0) ⟨fun _ _ _ h=>h,fun _ _ h=>h⟩ hall
       refine .inr (.inr (.inl ⟨k,_,iM lQ,CallsIn.mono (nx _ _ _ _ lS (RL m)) ?_⟩))
       rintro ee w' ⟨u,C',ω',rfl,q1,q2,q3,q4⟩
       exact⟨u,rfl,qta m e q2 q1 q3 q4⟩
     ·cases hs
  ·rename_i b vs e1 e2
   have yD:=qv e.cm h1 e1
   have RQ:=DA e.cm h2 e2
   generalize gW:a.eval f=fv at yD
   cases md with
   |bV=>simp at hs
   |fI _=>simp at hs
   |red=>simp at hs
   |shr=>
    simp only[]at hs
    split at hs
    ·rename_i v h' hy
     obtain rfl:=qx hs
     cases yD with
     |fn g g' _ _ as bs hf ha hb=>
      obtain⟨q,oO,rfl⟩:=hf
      cases ha
      cases hb
      obtain⟨ff,ol,assign,body,k1,k2⟩:=jjw (d:=d) hx m e oO RQ hy
      refine .inr (.inr (.inr ⟨q,ff,ol,assign,body,?_,k2⟩))
      have eo:Array.map a.eval c.args=⟨c.args.toList.map a.eval⟩:=by
       apply Se;simp
      rw[←eo]at k1
      simp[execOp,ho,resolve,oM,gW,Deferred.ofValue,invoke,k1]
    ·cases hs
  ·cases hs
 ·cases hc
theorem js9 {h md r h0 dst al cH res}(et:bW P p)(hx:cD P xc)(m:az P C ω w0 C0 hp w)(e:aq C ω w w0.heap.size env a.tmps)
  (nw:cH.ib=Hc) (hc:cM P h md r dst o.op=I cH) (hs:qf p xc h0 al env hp cH=I res):yf P C C0 w0 a d env o w res:=by
 cases ho:o.op<;>rw[ho]at hc
 case move x=>exact jik m e ho hc hs
 case assign x=>exact jby m e ho hc hs
 case pick=>exact jgi m e ho hc hs
 case alloc=>exact jdk m e ho hc hs
 case box=>exact jow m e ho hc hs
 case build=>exact jeb m e ho hc hs
 case buildSlice=>exact qyh m e ho hc hs
 case load=>exact jkf m e ho hc hs
 case store=>exact jfb m e ho nw hc hs
 case nilCheck=>exact q16 m e ho hc hs
 case binOp=>exact jol m e ho hc hs
 case unOp=>exact jul m e ho hc hs
 case convert=>exact jiv m e ho hc hs
 case makeFunc=>exact q2q m e ho hc hs
 case makeMap=>exact q7c m e ho hc hs
 case makeSlice=>exact q0o m e ho hc hs
 case slice=>exact jdb m e ho hc hs
 case fieldAddr=>exact q0u m e ho hc hs
 case field=>exact jfm m e ho hc hs
 case indexAddr=>exact q0l m e ho hc hs
 case index=>exact jdd m e ho hc hs
 case range=>exact jfo m e ho hc hs
 case extract=>exact q6o m e ho hc hs
 case call c=>
  have dL:Ah P h md r dst c=I cH:=hc
  by_cases hv:∃f,c.callee=.value f
  ·obtain⟨f,hf⟩:=hv
   exact jmg et hx m e ho hf dL hs
  ·exact q60 m e ho (fun f hf=>hv ⟨f,hf⟩) dL hs
 case lookup=>exact q85 m e ho hc hs
 case mapUpdate=>exact qo1 m e (.inl ho) hc hs
 case insert t x y z=>exact qo1 (h:=h) (md:=md) (r:=r) (dst:=dst) m e (.inr ho) (show cM P h md r dst (.mapUpdate t x y z)=I cH from hc) hs
 case next it b=>exact jlj m e ho hc hs
 all_goals (simp[cM]at hc;done)
end
section
variable {p:j8}{xc:XC}{h0:Nat}{al:Option (List Nat)}
def Agree (l:List Nat)(e e':Env):Prop:=∀s∈l,jj s e=jj s e'
theorem Agree.app {l l' e e'}(h:Agree (l++l') e e'):Agree l e e'∧Agree l' e e':=
 ⟨fun s hs=>h s (Rr _ hs),fun s hs=>h s (Rl _ hs)⟩
theorem qr {e e' x}(h:Agree (ze x) e e'):qi e x=qi e' x:=by
 cases x with
 |tmp t=>simp only[qi,h t (by simp[ze])]
 |const v=>rfl
theorem DL {e e'}:∀ {l:List jt},Agree (xS l) e e'→fX e l=fX e' l
 | [],_=>rfl
 |x::l,h=>by
  have h':Agree (ze x++xS l) e e':=by simpa[xS]using h
  simp only[fX,qr h'.app.1,DL h'.app.2]
theorem DM {e e' x}(d n:Nat)(h:Agree (Ai x) e e'):fD e d n x=fD e' d n x:=by
 cases x with
 |none=>rfl
 |some x=>simp only[fD,qr (x:=x) h]
theorem RR {e e' x}(h:Agree (ze x) e e'):zq e x=zq e' x:=by
 cases x with
 |tmp t=>simp only[zq,h t (by simp[ze])]
 |const v=>rfl
theorem qk1 {e e'}:∀ {l:List (Nat×Nat×jt)},Agree (l.flatMap fun p=>ze p.2.2) e e'→kn e l=kn e' l
 | [],_=>rfl
 |(i,n,x)::l,h=>by
  have h':Agree (ze x++l.flatMap fun p=>ze p.2.2) e e':=by simpa using h
  simp only[kn,qr h'.app.1,qk1 h'.app.2]
theorem RS {e e' sz}:∀ {l:List (Nat×jt)},Agree (l.flatMap fun p=>ze p.2) e e'→ye e sz l=ye e' sz l
 | [],_=>rfl
 |(i,x)::l,h=>by
  have h':Agree (ze x++l.flatMap fun p=>ze p.2) e e':=by simpa using h
  simp only[ye,qr h'.app.1,RS h'.app.2]
theorem q33 {e e' h op}(ha:Agree op.reads e e'):qf p xc h0 al e h op=qf p xc h0 al e' h op:=by
 cases op with
 |move x=>simp only[qf,qo,qr (x:=x) ha]
 |take s=>simp only[qf,qo,ha s (by simp[cL.reads])]
 |pick c x y=>simp only[cL.reads]at ha;simp only[qf,qo,qr ha.app.1.app.1,qr ha.app.1.app.2,qr ha.app.2]
 |build z ps=>simp only[qf,qo,qk1 (l:=ps) ha]
 |buildSlice sz n z ps=>simp only[qf,qo,RS (l:=ps) ha]
 |nilCheck x=>simp only[qf,qo,qr (x:=x) ha]
 |gB n=>rfl
 |dM n s x=>
  simp only[cL.reads]at ha
  have h1:jj s e=jj s e':=ha s (by simp)
  have h2:Agree (ze x) e e':=fun t ht=>ha t (by simp[ht])
  simp only[qf,qo,h1,qr h2]
 |oH n x=>simp only[qf,qo,qr (x:=x) ha]
 |ft ag n x=>simp only[qf,qo,qr (x:=x) ha]
 |bin op x y=>simp only[cL.reads]at ha;simp only[qf,qo,qr ha.app.1,qr ha.app.2]
 |eqs ks n x y=>simp only[cL.reads]at ha;simp only[qf,qo,qr ha.app.1,qr ha.app.2]
 |beq n x y=>simp only[cL.reads]at ha;simp only[qf,qo,qr ha.app.1,qr ha.app.2]
 |fA k n x=>simp only[qf,qo,qr (x:=x) ha]
 |un op x=>simp only[qf,qo,qr (x:=x) ha]
 |conv k x=>simp only[qf,qo,qr (x:=x) ha]
 |fe x=>simp only[qf,qo,qr (x:=x) ha]
 |field ag off n x=>simp only[qf,qo,qr (x:=x) ha]
 |index ag l n x i=>simp only[cL.reads]at ha;simp only[qf,qo,qr ha.app.1,qr ha.app.2]
 |ej x i=>simp only[cL.reads]at ha;simp only[qf,qo,qr ha.app.1,qr ha.app.2]
 |fieldAddr ag off n x=>simp only[qf,qo,qr (x:=x) ha]
 |indexAddr sz x i=>simp only[cL.reads]at ha;simp only[qf,qo,qr ha.app.1,qr ha.app.2]
 |ek ag l sz x i=>simp only[cL.reads]at ha;simp only[qf,qo,qr ha.app.1,qr ha.app.2]
 |slice sz x lo hi=>simp only[cL.reads]at ha;simp only[qf,qo,qr ha.app.1.app.1,DM _ _ ha.app.1.app.2,DM _ _ ha.app.2]
 |eN x lo hi=>simp only[cL.reads]at ha;simp only[qf,qo,qr ha.app.1.app.1,DM _ _ ha.app.1.app.2,DM _ _ ha.app.2]
 |fW l sz x lo hi=>simp only[cL.reads]at ha;simp only[qf,qo,qr ha.app.1.app.1,DM _ _ ha.app.1.app.2,DM _ _ ha.app.2]
 |gC f x y=>simp only[cL.reads]at ha;simp only[qf,qo,DL ha.app.1,DL ha.app.2]
 |len k x=>simp only[qf,qo,qr (x:=x) ha]
 |append r sz b x y=>
  simp only[cL.reads]at ha
  cases r with
  |none=>simp only[qf,qo,qr ha.app.1,qr ha.app.2,RR ha.app.1]
  |some r=>simp only[qf,qp,qr ha.app.1,qr ha.app.2,RR ha.app.1]
 |ia r sz b x y=>simp only[cL.reads]at ha;simp only[qf,qp,qr ha.app.1,qr ha.app.2]
 |iG r sz n z ps=>simp only[qf,qp,RS (l:=ps) ha]
 |cn r sz b z n c=>
  simp only[cL.reads]at ha
  cases r with
  |none=>simp only[qf,qo,qr ha.app.1,qr ha.app.2]
  |some r=>simp only[qf,qp,qr ha.app.1,qr ha.app.2]
 |mx l=>simp only[qf,qo,DL (l:=l) ha]
 |mn l=>simp only[qf,qo,DL (l:=l) ha]
 |extract x i=>simp only[qf,qo,qr (x:=x) ha]
 |load ag n x=>simp only[qf,yi,qr (x:=x) ha]
 |alloc r z=>rfl
 |fV r t e=>rfl
 |box r n x=>simp only[qf,qp,qr (x:=x) ha]
 |cy off x=>simp only[qf,qp,qr (x:=x) ha]
 |store n x y=>simp only[cL.reads]at ha;simp only[qf,qp,qr ha.app.1,qr ha.app.2,RR ha.app.2]
 |dN r=>rfl
 |dw r x=>simp only[qf,qp,qr (x:=x) ha]
 |call md f l=>simp only[cL.reads]at ha;simp only[qf,yt,qr ha.app.1,DL ha.app.2]
 |lookup kd z ok x y=>simp only[cL.reads]at ha;simp only[qf,yi,qr ha.app.1,qr ha.app.2]
 |mapUpdate kd x y z=>simp only[cL.reads]at ha;simp only[qf,qp,qr ha.app.1.app.1,qr ha.app.1.app.2,qr ha.app.2]
 |delete kd x y=>simp only[cL.reads]at ha;simp only[qf,qp,qr ha.app.1,qr ha.app.2]
 |copy sz x y=>simp only[cL.reads]at ha;simp only[qf,qp,qr ha.app.1,qr ha.app.2]
 |fB x=>simp only[qf,qp,qr (x:=x) ha]
 |bad=>rfl
def bh.at (r:bh)(h:qh):bh:={ r with heap:=h }
theorem mG {h h' x r}(hs:val h x=I r):r.heap=h∧val h' x=I (r.at h'):=by
 simp only[val,I.injEq]at hs;subst hs;exact⟨rfl,rfl⟩
theorem jgh (h:qh)(x:Option AVal):gD h x=(gD [] x).map (·.at h):=by cases x<;>rfl
theorem RT {α β:Type}(c:Bool)(x y:Option α)(f:α→β):(bif c then x else y).map f=bif c then x.map f else y.map f:=by cases c<;>rfl
theorem qqn (e:Env)(h:qh)(op:cL):qo e h op=(qo e [] op).map (·.at h):=by
 cases op with
 |append r sz b x y=>
  cases r with
  |some r=>rfl
  |none=>
   simp only[qo]
   repeat' split
   all_goals first
    |rfl
    |(simp only[RT];repeat' split)<;>rfl
 |cn r sz b z n c=>
  cases r with
  |some r=>rfl
  |none=>
   simp only[qo]
   repeat' split
   all_goals first
    |rfl
    |(simp only[RT];rfl)
 |_=>
  simp only[qo]
  repeat' split
  all_goals first
   |rfl
   |exact jgh _ _
   |(simp only[RT];first|rfl|(repeat' split)<;>rfl)
theorem qtc {e h}(h':qh){op r}(hs:qo e h op=I r):r.heap=h∧qo e h' op=I (r.at h'):=by
 rw[qqn]at hs
 obtain⟨r0,h1,rfl⟩:=Gx.1 hs
 refine⟨rfl,?_⟩
 rw[qqn,h1]
 rfl
end
section
variable {p:j8}{xc:XC}{h0:Nat}{al:Option (List Nat)}
def nV:Option bg→Bool
 |some (.vec ..)=>G8
 |some .hole=>G8
 |_=>Gv
theorem Ge {h b cs}(hc:jw h b=I cs):nV h[b]?=Gv:=by
 unfold jw at hc
 split at hc
 ·rename_i h1;rw[h1];rfl
 ·cases hc
theorem DN {h b x}(hb:zg h b=I x)(hx:nV (I x)=Gv):nV h[b]?=Gv:=by
 unfold zg at hb;rw[hb];exact hx
def RU:bg→Option Nat
 | .vec sz _ _=>I sz
 |_=>Hc
def HB (h0:Nat)(al:Option (List Nat))(F:qh→Option bh)(h:qh)(r:bh):Aj→Nat→Prop
 | .pure,_=>r.heap=h∧∀h',F h'=I (r.at h')
 | .read,_=>r.heap=h∧∀h':qh,(∀b,zc h0 al b=Gv→(px al=Gv→nV h[b]?=Gv)→h'[b]?=h[b]?)→F h'=I (r.at h')
 | .alloc,k=>∃x,aK h0 h k x=I r.heap∧∀h' h3,aK h0 h' k x=I h3→F h'=I (r.at h3)
 | .write,_=>∃b x,zc h0 al b=Gv∧nV h[b]?=Gv∧nV (I x)=Gv∧jo h b x=I r.heap∧∀h' h3:qh,h'[b]?=h[b]?→jo h' b x=I h3→F h'=I (r.at h3)
 | .take,k=>∃b cs v o,zc h0 al b=Gv∧h[b]?=I (.cells cs)∧cs[k]?=I (v,o)∧r.heap=h.set b (.cells (cs.set k (v,G8))) ∧
   ∀(h':qh) (ez:List (AVal×Bool)),h'[b]?=I (.cells ez)→ez[k]?=I (v,o)→F h'=I (r.at (h'.set b (.cells (ez.set k (v,G8)))))
 | .fI,_=>False
 | .shr,_=>True
 | .n8,k=>∃q x y,(q=h0+k % 1000∧y=.hole∨RU y=I (k / 1000))∧h[q]?=I y∧r.heap=h.set q x∧RU x=I (k / 1000)∧∀h':qh,h'[q]?=I y→F h'=I (r.at (h'.set q x))
theorem Gf {h h' b}(hb:h'[b]?=h[b]?):jw h' b=jw h b:=by simp only[jw,hb]
theorem jdp {e h op r}(hs:qf p xc h0 al e h op=I r):HB h0 al (fun h=>qf p xc h0 al e h op) h r op.cl op.cP:=by
 have gf:(∀h,qf p xc h0 al e h op=qo e h op)→op.cl=.pure→HB h0 al (fun h=>qf p xc h0 al e h op) h r op.cl op.cP:=by
  intro heq dK
  rw[dK]
  rw[heq]at hs
  exact⟨(qtc h hs).1,fun h'=>(heq h').trans (qtc h' hs).2⟩
 cases op with
 |load ag n x=>
  simp only[qf,yi]at hs
  split at hs
  ·rename_i b o hv
   cases hk:zc h0 al b with
   |false=>simp[hk]at hs
   |true=>
    simp only[hk,cond_true]at hs
    split at hs
    ·rename_i cs hcs
     split at hs
     ·rename_i vs La
      have key:r.heap=h∧∀h':qh,jw h' b=jw h b→yi h0 al e h' (.load ag n x)=I (r.at h'):=by
       cases ag with
       |true=>
        simp only[cond_true]at hs
        refine⟨(mG (h':=h) hs).1,fun h' hb=>?_⟩
        simp only[yi,hv,hk,cond_true,hb,hcs,La]
        exact(mG (h':=h') hs).2
       |false=>
        simp only[cond_false]at hs
        split at hs
        ·refine⟨(mG (h':=h) hs).1,fun h' hb=>?_⟩
         simp only[yi,hv,hk,cond_true,hb,hcs,La,cond_false]
         exact(mG (h':=h') hs).2
        ·cases hs
      exact⟨key.1,fun h' da=>key.2 h' (Gf (da b hk fun _=>Ge hcs))⟩
     ·cases hs
    ·cases hs
  ·rename_i v hv
   cases hk:(X5 ag v.isAgg||!(G7 v.flat.length n))with
   |true=>simp[hk]at hs
   |false=>
    simp only[hk,cond_false]at hs
    refine⟨(mG (h':=h) hs).1,fun h' _=>?_⟩
    simp only[qf,yi,hv,hk,cond_false]
    exact(mG (h':=h') hs).2
  ·rename_i b bJ q hv
   cases hk:uX h0 al b with
   |false=>simp[hk]at hs
   |true=>
    simp only[hk,cond_true]at hs
    have ik:=hk
    simp only[uX,En,Bool.not_eq_true']at ik
    split at hs
    ·rename_i sz dA xs gI
     have jK:∀h':qh,(∀b,zc h0 al b=Gv→(px al=Gv→nV h[b]?=Gv)→h'[b]?=h[b]?)→zg h' b=I (.vec sz dA xs):=fun h' da=>by
      unfold zg at gI ⊢;rw[da b ik.1 (fun ho=>by rw[ik.2]at ho;cases ho),gI]
     cases dk:(G7 bJ dA&&Jn (q+n) (xs.flatMap AVal.flat).length)with
     |false=>rw[dk]at hs;cases hs
     |true=>
      rw[dk]at hs
      simp only[cond_true]at hs
      cases ag with
      |true=>
       simp only[cond_true]at hs
       refine⟨(mG (h':=h) hs).1,fun h' da=>?_⟩
       simp only[qf,yi,hv,hk,cond_true,jK h' da,dk]
       exact(mG (h':=h') hs).2
      |false=>
       simp only[cond_false]at hs
       split at hs
       ·rename_i z hz
        refine⟨(mG (h':=h) hs).1,fun h' da=>?_⟩
        simp only[qf,yi,hv,hk,cond_true,jK h' da,dk,cond_false,hz]
        exact(mG (h':=h') hs).2
       ·cases hs
    ·cases hs
  ·cases hs
 |len k x=>exact gf (fun _=>rfl) rfl
 |alloc rk z=>
  simp only[qf,qp]at hs
  cases hk:z.all qk with
  |false=>simp[hk]at hs
  |true=>
   simp only[hk,cond_true]at hs
   split at hs
   ·rename_i h' hn
    have h1:=qx hs
    refine⟨_,by rw[h1];exact hn,fun g g3 hg=>?_⟩
    simp only[qf,qp,hk,cond_true]
    rw[show cL.cP (.alloc rk z)=rk from rfl]at hg
    rw[hg,h1];rfl
   ·cases hs
 |box rk n x=>
  simp only[qf,qp]at hs
  split at hs
  ·rename_i v hv
   cases hk:(G7 v.flat.length n&&v.flat.all qk)with
   |false=>simp[hk]at hs
   |true=>
    simp only[hk,cond_true]at hs
    split at hs
    ·rename_i h' hn
     have h1:=qx hs
     refine⟨_,by rw[h1];exact hn,fun g g3 hg=>?_⟩
     simp only[qf,qp,hv,hk,cond_true]
     rw[show cL.cP (.box rk n x)=rk from rfl]at hg
     rw[hg,h1];rfl
    ·cases hs
  ·cases hs
 |fV rk t e'=>
  simp only[qf,qp]at hs
  split at hs
  ·rename_i h' hn
   have h1:=qx hs
   refine⟨_,by rw[h1];exact hn,fun g g3 hg=>?_⟩
   simp only[qf,qp]
   rw[show cL.cP (.fV rk t e')=rk from rfl]at hg
   rw[hg,h1];rfl
  ·cases hs
 |dN rk=>
  simp only[qf,qp]at hs
  split at hs
  ·rename_i h' hn
   have h1:=qx hs
   refine⟨_,by rw[h1];exact hn,fun g g3 hg=>?_⟩
   simp only[qf,qp]
   rw[show cL.cP (.dN rk)=rk from rfl]at hg
   rw[hg,h1];rfl
  ·cases hs
 |dw rk x=>
  simp only[qf,qp]at hs
  split at hs
  ·rename_i s hv
   split at hs
   ·rename_i h' hn
    have h1:=qx hs
    refine⟨_,by rw[h1];exact hn,fun g g3 hg=>?_⟩
    simp only[qf,qp,hv]
    rw[show cL.cP (.dw rk x)=rk from rfl]at hg
    rw[hg,h1];rfl
   ·cases hs
  ·cases hs
 |cy off x=>
  simp only[qf,qp]at hs
  split at hs
  ·rename_i b o hv
   cases hk:zc h0 al b&&uY off o with
   |false=>simp[hk]at hs
   |true=>
    simp only[hk,cond_true]at hs
    have eJ:zc h0 al b=Gv:=by simp only[En]at hk;exact hk.1
    split at hs
    ·rename_i cs hcs
     split at hs
     ·rename_i v ow hq
      split at hs
      ·rename_i h' bD
       cases hs
       have oo:=bD
       unfold jo at oo
       cases bw:Hd b h.length with
       |false=>simp[bw]at oo
       |true=>
        simp only[bw,cond_true,I.injEq]at oo
        cases off with
        |none=>
         refine⟨b,_,eJ,Ge hcs,rfl,bD,fun g g3 hb hg=>?_⟩
         simp only[qf,qp,hv,hk,cond_true,Gf hb,hcs,hq,hg]
         rfl
        |some k=>
         have hko:k=o:=by
          simp only[En,uY]at hk;exact E3 hk.2
         subst hko
         have hhb:h[b]?=I (.cells cs):=by
          unfold jw at hcs
          split at hcs
          ·rename_i ez h';cases hcs;exact h'
          ·cases hcs
         refine⟨b,cs,v,ow,eJ,hhb,hq,oo.symm,fun g ez hg dL=>?_⟩
         have dL:ez[k]?=I (v,ow):=dL
         have hlg:b<g.length:=(G6.1 hg).1
         have lv:jw g b=I ez:=by simp only[jw,hg]
         have hsg:jo g b (.cells (ez.set k (v,G8)))=I (g.set b (.cells (ez.set k (v,G8)))):=by
          unfold jo;rw[Ih.mpr hlg];rfl
         simp only[qf,qp,hv,hk,cond_true,lv,dL,hsg]
         rfl
      ·cases hs
     ·cases hs
    ·cases hs
  ·cases hs
 |store n x y=>
  simp only[qf,qp]at hs
  split at hs
  ·rename_i b o v hv hy
   cases hk:zc h0 al b with
   |false=>simp[hk]at hs
   |true=>
    simp only[hk,cond_true]at hs
    split at hs
    ·rename_i cs hcs
     split at hs
     ·rename_i t ht
      cases dk:(G7 n 1&&v.cJ&&Hd o cs.length)with
      |false=>simp[dk]at hs
      |true=>
       simp only[dk,cond_true]at hs
       split at hs
       ·rename_i h' bD
        cases hs
        refine⟨b,_,hk,Ge hcs,rfl,bD,fun g g3 hb hg=>?_⟩
        simp only[qf,qp,hv,hy,hk,cond_true,Gf hb,hcs,ht,dk,hg]
        rfl
       ·cases hs
     ·rename_i ht
      cases dk:G7 v.flat.length n with
      |false=>simp[dk]at hs
      |true=>
       simp only[dk,cond_true]at hs
       split at hs
       ·rename_i ez b6
        split at hs
        ·rename_i h' bD
         have h1:=qx hs
         refine⟨b,_,hk,Ge hcs,rfl,by rw[h1];exact bD,fun g g3 hb hg=>?_⟩
         simp only[qf,qp,hv,hy,hk,cond_true,Gf hb,hcs,ht,dk,b6,hg,h1]
         rfl
        ·cases hs
       ·cases hs
    ·cases hs
  ·cases hs
 |call md f l=>
  cases md with
  |shr=>trivial
  |red=>trivial
  |fI rk=>
   simp only[qf,yt]at hs
   split at hs
   ·rename_i k first captured vs e1 e2
    cases hb:(first++vs++captured).isEmpty with
    |false=>
     rw[hb]at hs
     simp only[cond_false]at hs
     cases lP:qw 0 (first++vs++captured)with
     |false=>rw[lP]at hs;cases hs
     |true=>
      rw[lP]at hs
      simp only[cond_true]at hs
      split at hs
      ·rename_i v o wF
       have goal:∃x,aK h0 h rk x=I r.heap∧∀g g3,aK h0 g rk x=I g3→qK h0 g rk v o=I (r.at g3):=by
        unfold qK at hs
        split at hs
        ·split at hs
         ·rename_i h' hn
          have h1:=qx hs
          refine⟨_,by rw[h1];exact hn,fun g g3 hg=>?_⟩
          simp only[qK,hg,h1];rfl
         ·cases hs
        ·rename_i sz xs
         cases FW:(xs.flatMap AVal.flat).all nZ with
         |false=>rw[FW]at hs;cases hs
         |true=>
          rw[FW]at hs
          simp only[cond_true]at hs
          split at hs
          ·rename_i h' hn
           have h1:=qx hs
           refine⟨_,by rw[h1];exact hn,fun g g3 hg=>?_⟩
           simp only[qK,FW,cond_true,hg,h1];rfl
          ·cases hs
        ·cases hs
       obtain⟨x,g1,g2⟩:=goal
       refine⟨x,g1,fun g g3 hg=>?_⟩
       simp only[qf,yt,e1,e2,wF]
       rw[hb,lP]
       exact g2 g g3 hg
      ·cases hs
    |true=>
     rw[hb]at hs
     simp only[cond_true]at hs
     split at hs
     ·rename_i es hm
      split at hs
      ·rename_i h' hn
       have h1:=qx hs
       refine⟨_,by rw[h1];exact hn,fun g g3 hg=>?_⟩
       simp only[qf,yt,e1,e2,hm]
       rw[hb]
       simp only[cond_true]
       rw[show cL.cP (.call (.fI rk) f l)=rk from rfl]at hg
       rw[hg,h1];rfl
      ·cases hs
     ·cases hs
   ·cases hs
   ·cases hs
  |bV=>
   simp only[qf,yt]at hs
   split at hs
   ·rename_i k first captured vs e1 e2
    cases hb:qw 0 (first++vs++captured)with
    |false=>rw[hb]at hs;cases hs
    |true=>
     rw[hb]at hs
     simp only[cond_true]at hs
     split at hs
     ·rename_i v o wF
      cases hs
      refine⟨rfl,fun h'=>?_⟩
      simp only[qf,yt,e1,e2,wF]
      rw[hb]
      rfl
     ·cases hs
   ·cases hs
   ·cases hs
 |append rk sz b x y=>
  cases rk with
  |none=>exact gf (fun _=>rfl) rfl
  |some rk=>
   simp only[qf,qp]at hs
   split at hs
   ·rename_i c8 vy e1 e2
    cases fZ:((zq e x).isSome&&G7 sz c8)with
    |false=>simp[fZ]at hs
    |true=>
     simp only[fZ,cond_true]at hs
     split at hs
     ·rename_i ys cN
      cases dk:(Jn ys.length 1073741824&&Jn b 4096&&Hd 0 sz)with
      |false=>simp[dk]at hs
      |true=>
       simp only[dk,cond_true]at hs
       split at hs
       ·rename_i h' hn
        cases hs
        refine⟨_,hn,fun g g3 hg=>?_⟩
        simp only[qf,qp,e1,e2,fZ,cN,dk,cond_true]
        rw[show cL.cP (.append (I rk) sz b x y)=rk from rfl]at hg
        rw[hg];rfl
       ·cases hs
     ·cases hs
   ·cases hs
 |ia rk sz bt x y=>
  simp only[qf,qp]at hs
  split at hs
  ·rename_i Rn vy e1 e2
   split at hs
   ·rename_i ys cN
    cases hk:(Jn ys.length 1073741824&&Jn bt 4096&&Hd 0 sz&&!ys.isEmpty&&qw 0 ys&&Hd rk 1000)with
    |false=>rw[hk]at hs;cases hs
    |true=>
     rw[hk]at hs
     simp only[cond_true]at hs
     split at hs
     ·rename_i h' df
      obtain rfl:=qx hs
      obtain⟨i1,i2⟩:=yz df
      have hrk:rk<1000:=by simp only[En]at hk;exact Ih.mp hk.2
      have m1:(rk+1000*sz) % 1000=rk:=by omega
      have m2:(rk+1000*sz) / 1000=sz:=by omega
      refine⟨h0+rk,.vec sz 0 ys,.hole,.inl ⟨by show _=h0+(rk+1000*sz) % 1000;rw[m1],rfl⟩,i1,i2,by show I sz=I ((rk+1000*sz) / 1000);rw[m2],fun g hg=>?_⟩
      simp only[qf,qp,e1,e2,cN,hk,cond_true,aK,hg]
      rfl
     ·cases hs
   ·cases hs
  ·rename_i b bJ len vy e1 e2
   split at hs
   ·rename_i c8 dA xs gI
    split at hs
    ·rename_i ys cN
     cases hk:(G7 bJ dA&&G7 sz c8&&Jn len xs.length&&Jn (len+ys.length) 1073741824&&Jn bt 4096&&Hd 0 sz&&qw 0 ys&&Hd rk 1000)with
     |false=>rw[hk]at hs;cases hs
     |true=>
      rw[hk]at hs
      simp only[cond_true]at hs
      split at hs
      ·rename_i h' bD
       obtain rfl:=qx hs
       have eJ:=hk
       simp only[En]at eJ
       obtain⟨⟨⟨⟨⟨⟨⟨_,k2⟩,_⟩,_⟩,_⟩,_⟩,_⟩,k8⟩:=eJ
       have cS:=E3 k2
       have hrk:rk<1000:=Ih.mp k8
       have m2:(rk+1000*sz) / 1000=sz:=by omega
       have bw:b<h.length:=by unfold zg at gI;exact(G6.1 gI).1
       have hh:h'=h.set b (.vec sz (bJ+1) (xs.take len++ys)):=by
        unfold jo at bD
        rw[Ih.mpr bw]at bD
        simpa using bD.symm
       refine⟨b,.vec sz (bJ+1) (xs.take len++ys),.vec c8 dA xs,.inr (by show I c8=I ((rk+1000*sz) / 1000);rw[m2,cS]),gI,hh,by show I sz=I ((rk+1000*sz) / 1000);rw[m2],fun g hg=>?_⟩
       have jK:zg g b=I (.vec c8 dA xs):=hg
       have wG:b<g.length:=(G6.1 hg).1
       simp only[qf,qp,e1,e2,jK,cN,hk,cond_true,jo,Ih.mpr wG]
       rfl
      ·cases hs
    ·cases hs
   ·cases hs
  ·cases hs
 |iG rk sz n z ps=>trivial
 |cn rk sz b z n c=>
  cases rk with
  |none=>exact gf (fun _=>rfl) rfl
  |some rk=>
   simp only[qf,qp]at hs
   split at hs
   ·rename_i n' c' e1 e2
    cases hk:(G7 n' c'&&Jn n' 1073741824&&Jn b 4096&&G7 z.length sz&&Hd 0 sz&&z.all qk)with
    |false=>simp[hk]at hs
    |true=>
     simp only[hk,cond_true]at hs
     split at hs
     ·rename_i h' hn
      have h1:=qx hs
      refine⟨_,by rw[h1];exact hn,fun g g3 hg=>?_⟩
      simp only[qf,qp,e1,e2,hk,cond_true]
      rw[show cL.cP (.cn (I rk) sz b z n c)=rk from rfl]at hg
      rw[hg,h1];rfl
     ·cases hs
   ·cases hs
 |lookup kd z ok x y=>
  simp only[qf,yi]at hs
  split at hs
  ·rename_i b kv e1 e2
   cases hk:zc h0 al b with
   |false=>simp[hk]at hs
   |true=>
    simp only[hk,cond_true]at hs
    split at hs
    ·rename_i es hb
     have jK:∀h':qh,(∀b,zc h0 al b=Gv→(px al=Gv→nV h[b]?=Gv)→h'[b]?=h[b]?)→zg h' b=I (.map es):=fun h' da=>by
      have RV:=DN hb rfl
      unfold zg at hb ⊢;rw[da b hk fun _=>RV,hb]
     split at hs
     ·rename_i i v hf
      refine⟨(mG (h':=h) hs).1,fun h' da=>?_⟩
      simp only[qf,yi,e1,e2,hk,cond_true,jK h' da,hf]
      exact(mG (h':=h') hs).2
     ·rename_i hf
      refine⟨(mG (h':=h) hs).1,fun h' da=>?_⟩
      simp only[qf,yi,e1,e2,hk,cond_true,jK h' da,hf]
      exact(mG (h':=h') hs).2
     ·cases hs
    ·cases hs
  ·rename_i kv e1 e2
   refine⟨(mG (h':=h) hs).1,fun h' da=>?_⟩
   simp only[qf,yi,e1,e2]
   exact(mG (h':=h') hs).2
  ·cases hs
 |mapUpdate kd x y z=>
  simp only[qf,qp]at hs
  split at hs
  ·rename_i b kv v e1 e2 e3
   cases hk:zc h0 al b with
   |false=>simp[hk]at hs
   |true=>
    simp only[hk,cond_true]at hs
    split at hs
    ·rename_i es hb
     have jK:∀h':qh,h'[b]?=h[b]?→zg h' b=I (.map es):=fun h' da=>by
      unfold zg at hb ⊢;rw[da,hb]
     split at hs
     ·rename_i i u hf
      split at hs
      ·rename_i h' bD
       have h1:=qx hs
       refine⟨b,_,hk,DN hb rfl,rfl,by rw[h1];exact bD,fun g g3 fi hg=>?_⟩
       simp only[qf,qp,e1,e2,e3,hk,cond_true,jK g fi,hf,hg,h1]
       rfl
      ·cases hs
     ·rename_i hf
      cases hl:Jn es.length 1073741824 with
      |false=>simp[hl]at hs
      |true=>
       simp only[hl,cond_true]at hs
       split at hs
       ·rename_i h' bD
        have h1:=qx hs
        refine⟨b,_,hk,DN hb rfl,rfl,by rw[h1];exact bD,fun g g3 fi hg=>?_⟩
        simp only[qf,qp,e1,e2,e3,hk,cond_true,jK g fi,hf,hl,hg,h1]
        rfl
       ·cases hs
     ·cases hs
    ·cases hs
  ·cases hs
 |delete kd x y=>
  simp only[qf,qp]at hs
  split at hs
  ·rename_i b kv e1 e2
   cases hk:zc h0 al b with
   |false=>simp[hk]at hs
   |true=>
    simp only[hk,cond_true]at hs
    split at hs
    ·rename_i es hb
     have jK:∀h':qh,h'[b]?=h[b]?→zg h' b=I (.map es):=fun h' da=>by
      unfold zg at hb ⊢;rw[da,hb]
     split at hs
     ·rename_i rr hf
      split at hs
      ·rename_i h' bD
       have h1:=qx hs
       refine⟨b,_,hk,DN hb rfl,rfl,by rw[h1];exact bD,fun g g3 fi hg=>?_⟩
       simp only[qf,qp,e1,e2,hk,cond_true,jK g fi,hf,hg,h1]
       rfl
      ·cases hs
     ·cases hs
    ·cases hs
  ·cases hs
 |copy sz x y=>
  simp only[qf,qp]at hs
  split at hs
  ·rename_i b o len vy e1 e2
   cases hk:zc h0 al b with
   |false=>simp[hk]at hs
   |true=>
    simp only[hk,cond_true]at hs
    split at hs
    ·rename_i cs hcs
     split at hs
     ·rename_i n us cN
      split at hs
      ·rename_i ez b6
       cases dk:G7 us.length (n*sz)with
       |false=>simp[dk]at hs
       |true=>
        simp only[dk,cond_true]at hs
        split at hs
        ·rename_i h' bD
         have h1:=qx hs
         refine⟨b,_,hk,Ge hcs,rfl,by rw[h1];exact bD,fun g g3 hb hg=>?_⟩
         simp only[qf,qp,e1,e2,hk,cond_true,Gf hb,hcs,cN,b6,dk,hg,h1]
         rfl
        ·cases hs
      ·cases hs
     ·cases hs
    ·cases hs
  ·cases hs
 |fB x=>
  simp only[qf,qp]at hs
  split at hs
  ·rename_i b hv
   cases hk:zc h0 al b with
   |false=>simp[hk]at hs
   |true=>
    simp only[hk,cond_true]at hs
    split at hs
    ·rename_i s pos hb
     have bw:b<h.length:=by unfold zg at hb;exact(G6.1 hb).1
     cases hp:Hd pos s.length with
     |true=>
      simp only[hp,cond_true]at hs
      split at hs
      ·rename_i h' bD
       have h1:=qx hs
       refine⟨b,_,hk,DN hb rfl,rfl,by rw[h1];exact bD,fun g g3 fi hg=>?_⟩
       have jK:zg g b=I (.iter s pos):=by unfold zg at hb ⊢;rw[fi,hb]
       simp only[qf,qp,hv,hk,cond_true,jK,hp,hg,h1]
       rfl
      ·cases hs
     |false=>
      simp only[hp,cond_false]at hs
      have h1:=qx hs
      have Gg:h.set b (.iter s pos)=h:=by
       unfold zg at hb
       apply Rf
       intro k
       rw[Q7]
       split
       ·rename_i hbk;subst hbk;first|exact hb.symm|rw[if_pos bw,hb]
       ·rfl
      refine⟨b,.iter s pos,hk,DN hb rfl,rfl,by rw[h1];unfold jo;rw[Ih.mpr bw];simp[Gg],fun g g3 fi hg=>?_⟩
      have jK:zg g b=I (.iter s pos):=by unfold zg at hb ⊢;rw[fi,hb]
      have wG:b<g.length:=by unfold zg at jK;exact(G6.1 jK).1
      have AX:g3=g:=by
       unfold jo at hg
       rw[Ih.mpr wG]at hg
       simp only[cond_true,I.injEq]at hg
       rw[←hg]
       unfold zg at jK
       apply Rf
       intro k
       rw[Q7]
       split
       ·rename_i hbk;subst hbk;first|exact jK.symm|rw[if_pos wG,jK]
       ·rfl
      simp only[qf,qp,hv,hk,cond_true,jK,hp,cond_false,h1,AX]
      rfl
    ·cases hs
  ·cases hs
 |_=>exact gf (fun _=>rfl) rfl
theorem yE {h h' b x}(hs:jo h b x=I h'):b<h.length∧h'=h.set b x:=by
 unfold jo at hs
 cases hb:Hd b h.length with
 |false=>simp[hb]at hs
 |true=>exact⟨Ih.mp hb,by simpa[hb]using hs.symm⟩
theorem AY {h b x}(hb:b<h.length):jo h b x=I (h.set b x):=by
 unfold jo
 rw[Ih.mpr hb];rfl
theorem DP {h k x}(hh:h[h0+k]?=I .hole):aK h0 h k x=I (h.set (h0+k) x):=by
 unfold aK;rw[hh]
theorem DQ {b k}(h:zc h0 al b=Gv)(hk:nf al k=G8):b≠h0+k:=by
 intro hb
 subst hb
 cases al with
 |none=>simp[nf]at hk
 |some l=>
  simp only[zc,nf]at h hk
  have h1:Hd (h0+k) h0=G8:=by
   cases hh:Hd (h0+k) h0 with
   |false=>rfl
   |true=>have:=Ih.mp hh;omega
  cases he:oI l with
  |false=>
   rw[he]at h hk
   simp only[cond_false]at h hk
   rw[h1,Oa,show h0+k-h0=k from by omega,hk]at h
   cases h
  |true=>
   rw[he]at h hk
   simp only[cond_true]at h hk
   cases l with
   |nil=>cases he
   |cons x l=>
    simp only[Ac]at h
    cases hx:Hd x 2000 with
    |true=>rw[hx]at h;simp only[cond_true,h1,Bool.and_false]at h;cases h
    |false=>
     rw[hx]at h
     simp only[cond_false]at h
     cases hx4:Hd x 4000 with
     |false=>rw[hx4]at h;simp only[cond_false,h1]at h;cases h
     |true=>
      rw[hx4]at h
      simp only[cond_true]at h
      have h2:=E3 h
      have h3:¬x<2000:=fun hh=>by rw[Ih.mpr hh]at hx;cases hx
      have h4:x=2000+k:=by omega
      rw[show(x::l).headD 0=x from rfl,h4,Sj]at hk
      cases hk
theorem qpf {l:List Nat}{x}(h:(!(l.contains x))=Gv):l.contains x=G8:=by
 cases hc:l.contains x with
 |false=>rfl
 |true=>rw[hc]at h;cases h
theorem RW {RX RY:Option (List Nat)}{b b'}(h:Dx RX RY=Gv)(h1:zc h0 RX b=Gv)(h2:zc h0 RY b'=Gv):b≠b':=by
 intro hb
 subst hb
 cases RX with
 |none=>cases h
 |some l=>
  cases RY with
  |none=>cases h
  |some m=>
   simp only[Dx,zc]at h h1 h2
   have inv:∀ {k:List Nat},oI k=Gv→Hd (k.headD 0) 4000=Gv→Ac h0 k b=Gv→(1000≤k.headD 0)∧((k.headD 0<2000∧b=k.headD 0-1000∧b<h0)∨(2000≤k.headD 0∧b=h0+(k.headD 0-2000))):=by
    intro k he h4 hq
    cases k with
    |nil=>cases he
    |cons x k=>
     refine⟨Gw he,?_⟩
     simp only[Ac]at hq
     cases hx:Hd x 2000 with
     |true=>
      rw[hx]at hq
      simp only[cond_true,En]at hq
      exact .inl ⟨Ih.mp hx,E3 hq.1,Ih.mp hq.2⟩
     |false=>
      rw[hx,show Hd x 4000=Gv from h4]at hq
      simp only[cond_false,cond_true]at hq
      have h3:¬x<2000:=fun hh=>by rw[Ih.mpr hh]at hx;cases hx
      exact .inr ⟨by show 2000≤x;omega,E3 hq⟩
   have old:∀ {k:List Nat} {r:Nat},b=h0+r→k.contains r=G8→(Hd b h0||k.contains (b-h0))=Gv→False:=by
    intro k r iC hc hq
    have h3:Hd b h0=G8:=by
     cases hh:Hd b h0 with
     |false=>rfl
     |true=>have:=Ih.mp hh;omega
    rw[h3,Oa,show b-h0=r by omega,hc]at hq
    cases hq
   cases hl:oI l with
   |true=>
    rw[hl]at h h1
    simp only[cond_true]at h h1
    cases hm:oI m with
    |true=>
     rw[hm]at h h2
     simp only[cond_true,En]at h h2
     obtain⟨i1,i2⟩:=inv hl h.1.2 h1
     obtain⟨i3,i4⟩:=inv hm h.2 h2
     have bG:l.headD 0≠m.headD 0:=fun e=>by rw[e,Sj]at h;exact absurd h.1.1 (by simp)
     omega
    |false=>
     rw[hm]at h h2
     simp only[cond_false,En]at h h2
     obtain⟨i1,i2⟩:=inv hl h.1.2 h1
     have h3:=Gw h.1.1
     exact old (by omega) (qpf h.2) h2
   |false=>
    rw[hl]at h h1
    simp only[cond_false,En]at h h1
    obtain⟨⟨⟨h3,h4⟩,h6⟩,h5⟩:=h
    rw[h3]at h2
    simp only[cond_true]at h2
    obtain⟨i3,i4⟩:=inv h3 h6 h2
    have h4:=Gw h4
    exact old (by omega) (qpf h5) h1
theorem RZ {F h r k}(H:HB h0 al F h r .take k):HB h0 al F h r .write k:=by
 obtain⟨b,cs,v,o,hb,hc,hv,hs,h4⟩:=H
 have bw:b<h.length:=(G6.1 hc).1
 refine⟨b,.cells (cs.set k (v,G8)),hb,by rw[hc];rfl,rfl,by rw[hs];exact AY bw,fun h' h3 hh bD=>?_⟩
 rw[h4 h' cs (by rw[hh];exact hc) hv]
 obtain⟨_,s2⟩:=yE bD
 rw[s2]
theorem jjt {ca cb ka kb pD pE Fa Fb h ra rb}(yF:Fb h=I rb)(Gh:Fa rb.heap=I ra)(Hb:HB h0 pE Fb h rb cb kb)(Ha:HB h0 pD Fa rb.heap ra ca ka)
  (dU:cb=.read∨cb=.write∨cb=.take) (eg:ca=.read∨ca=.write∨ca=.take) (rJ:Dx pE pD=Gv):
  ∃h1,Fa h=I (ra.at h1)∧Fb h1=I (rb.at ra.heap):=by
 have hat:∀r:bh,r.at r.heap=r:=fun _=>rfl
 have wb:(cb=.read∧HB h0 pE Fb h rb .read kb)∨HB h0 pE Fb h rb .write kb:=by
  rcases dU with rfl|rfl|rfl
  ·exact .inl ⟨rfl,Hb⟩
  ·exact .inr Hb
  ·exact .inr (RZ Hb)
 have wa:(ca=.read∧HB h0 pD Fa rb.heap ra .read ka)∨HB h0 pD Fa rb.heap ra .write ka:=by
  rcases eg with rfl|rfl|rfl
  ·exact .inl ⟨rfl,Ha⟩
  ·exact .inr Ha
  ·exact .inr (RZ Ha)
 rcases wb with⟨_,h1,h2⟩|⟨b,x,hb,_,_,hs,h2⟩
 ·rcases wa with⟨_,h3,h4⟩|⟨b',y,fi,_,_,gV,h4⟩
  ·exact⟨h,h4 h (fun b _ _=>by rw[h1]),by rw[h3,hat];exact yF⟩
  ·rw[h1]at gV
   obtain⟨s1,s2⟩:=yE gV
   refine⟨ra.heap,by rw[hat,←Gh,h1],h2 _ (fun b hb _=>?_)⟩
   rw[s2,Gs (Jo (RW rJ hb fi))]
 ·obtain⟨s1,s2⟩:=yE hs
  rcases wa with⟨_,h3,h4⟩|⟨b',y,fi,_,_,gV,h4⟩
  ·refine⟨h,h4 h (fun b' fi _=>?_),by rw[h3,hat];exact yF⟩
   rw[s2,Gs (RW rJ hb fi)]
  ·obtain⟨s3,s4⟩:=yE gV
   have bG:=RW rJ hb fi
   rw[s2,Jq]at s3
   refine⟨h.set b' y,h4 _ _ (by rw[s2,Gs bG]) (AY s3),h2 _ _ (by rw[Gs (Jo bG)]) ?_⟩
   rw[AY (by rw[Jq];exact s1),s4,s2,Jp _ _ (Jo bG)]
def Ll (ca cb:Aj)(ka kb:Nat)(pD pE:Option (List Nat)):Prop:=
 (cb=.n8∧ca=.n8∧kb % 1000≠ka % 1000∧kb / 1000≠ka / 1000)∨(cb=.n8∧(ca=.read∨ca=.write∨ca=.take)∧px pD=Gv)∨((cb=.read∨cb=.write∨cb=.take)∧ca=.n8∧px pE=Gv)
theorem jr6 {ca cb ka kb pD pE Fa Fb h ra rb}(yF:Fb h=I rb)(Gh:Fa rb.heap=I ra)(Hb:HB h0 pE Fb h rb cb kb)(Ha:HB h0 pD Fa rb.heap ra ca ka)
  (dE:Ll ca cb ka kb pD pE):∃h1,Fa h=I (ra.at h1)∧Fb h1=I (rb.at ra.heap):=by
 have hat:∀r:bh,r.at r.heap=r:=fun _=>rfl
 have Gi:∀ {c:Aj} {k:Nat} {al:Option (List Nat)} {F:qh→Option bh} {g:qh} {r:bh},HB h0 al F g r c k→(c=.read∨c=.write∨c=.take)→HB h0 al F g r .read k∨HB h0 al F g r .write k:=by
  intro c k al F g r H hc
  rcases hc with rfl|rfl|rfl
  ·exact .inl H
  ·exact .inr H
  ·exact .inr (RZ H)
 have nvs:∀ {x:bg} {z:Nat},RU x=I z→nV (I x)=G8:=fun {x z} h=>by cases x<;>first|rfl|cases h
 rcases dE with⟨rfl,rfl,n1,n2⟩|⟨rfl,eg,hs⟩|⟨dU,rfl,hs⟩
 ·obtain⟨q,x,y,hq,hy,hh,hx,hF⟩:=Hb
  obtain⟨q',x',y',Lf,qW,R0,fh,hF'⟩:=Ha
  have bw:q<h.length:=(G6.1 hy).1
  have bG:q≠q':=by
   intro he
   subst he
   rw[hh,Jr bw]at qW
   cases qW
   rcases Lf with⟨_,rfl⟩|h4
   ·cases hx
   ·rw[hx]at h4;exact n2 (I.inj h4)
  rw[hh,Gs bG]at qW
  refine⟨h.set q' x',hF' h qW,?_⟩
  rw[hF _ (by rw[Gs (Jo bG)];exact hy),R0,hh,Jp _ _ bG]
 ·obtain⟨q,x,y,hq,hy,hh,hx,hF⟩:=Hb
  have bw:q<h.length:=(G6.1 hy).1
  -- the box that the append wrote is a vector now
  have df:nV rb.heap[q]?=G8:=by rw[hh,Jr bw];exact nvs hx
  rcases Gi Ha eg with⟨h3,h4⟩|⟨b,z,hb,hn,R1,hz,h4⟩
  ·refine⟨h,h4 h (fun b hb hn=>?_),by rw[h3,hat];exact yF⟩
   have bG:b≠q:=fun e=>by subst e;rw[hn hs]at df;cases df
   rw[hh,Gs (Jo bG)]
  ·have bG:b≠q:=fun e=>by subst e;rw[hn]at df;cases df
   obtain⟨s1,s2⟩:=yE hz
   rw[hh,Jq]at s1
   refine⟨h.set b z,h4 _ _ (by rw[hh,Gs (Jo bG)]) (AY s1),?_⟩
   rw[hF _ (by rw[Gs bG];exact hy),s2,hh,Jp _ _ bG]
 ·obtain⟨q,x,y,hq,hy,hh,hx,hF⟩:=Ha
  have hold:nV (I y)=G8:=by
   rcases hq with⟨_,rfl⟩|h1
   ·rfl
   ·exact nvs h1
  rcases Gi Hb dU with⟨h3,h4⟩|⟨b,z,hb,hn,R1,hz,h4⟩
  ·rw[h3]at hy hh
   refine⟨h.set q x,hF h hy,?_⟩
   rw[h4 (h.set q x) (fun b hb hn=>by
    have bG:b≠q:=fun e=>by subst e;rw[hy]at hn;rw[hold]at hn;exact absurd (hn hs) (by simp)
    rw[Gs (Jo bG)]),hh]
  ·obtain⟨s1,s2⟩:=yE hz
   have bG:b≠q:=by
    intro e
    subst e
    rw[s2,Jr s1]at hy
    rw[I.inj hy,hold]at R1
    cases R1
   rw[s2,Gs bG]at hy
   refine⟨h.set q x,hF h hy,h4 _ _ (by rw[Gs (Jo bG)]) ?_⟩
   rw[AY (by rw[Jq];exact s1),hh,s2,Jp _ _ (Jo bG)]
theorem jqj {ca cb ka kb pD pE Fa Fb h ra rb}(yF:Fb h=I rb)(Gh:Fa rb.heap=I ra)(Hb:HB h0 pE Fb h rb cb kb)(Ha:HB h0 pD Fa rb.heap ra ca ka)
  (dE:cb=.pure∨ca=.pure∨(cb=.read∧ca=.read)∨(cb=.alloc∧ca=.alloc∧kb≠ka)∨(cb=.alloc∧(ca=.read∨ca=.write∨ca=.take)∧nf pD kb=G8)∨((cb=.read∨cb=.write∨cb=.take)∧ca=.alloc∧nf pE ka=G8)∨(cb=.take∧ca=.take∧kb≠ka)):
  ∃h1,Fa h=I (ra.at h1)∧Fb h1=I (rb.at ra.heap):=by
 have hat:∀r:bh,r.at r.heap=r:=fun _=>rfl
 rcases dE with rfl|rfl|⟨rfl,rfl⟩|⟨rfl,rfl,bG⟩|⟨rfl,eg,oP⟩|⟨dU,rfl,oP⟩|⟨rfl,rfl,bG⟩
 ·obtain⟨h1,h2⟩:=Hb
  exact⟨ra.heap,by rw[hat,←Gh,h1],h2 _⟩
 ·obtain⟨h1,h2⟩:=Ha
  exact⟨h,h2 _,by rw[h1,hat];exact yF⟩
 ·obtain⟨h1,h2⟩:=Hb
  obtain⟨h3,h4⟩:=Ha
  exact⟨h,h4 h (fun b _ _=>by rw[h1]),by rw[h3,hat];exact yF⟩
 ·obtain⟨x,n1,n2⟩:=Hb
  obtain⟨y,n3,n4⟩:=Ha
  obtain⟨i1,i2⟩:=yz n1
  obtain⟨i3,i4⟩:=yz n3
  rw[i2,Gs (by omega)]at i3
  refine⟨h.set (h0+ka) y,n4 _ _ (DP i3),n2 _ _ ?_⟩
  rw[DP (by rw[Gs (by omega)];exact i1),i4,i2,Jp _ _ (by omega)]
 ·obtain⟨x,n1,n2⟩:=Hb
  obtain⟨i1,i2⟩:=yz n1
  rcases eg with rfl|rfl|rfl
  ·obtain⟨h3,h4⟩:=Ha
   refine⟨h,h4 h (fun b hb _=>?_),by rw[h3,hat];exact yF⟩
   rw[i2,Gs (Jo (DQ hb oP))]
  ·obtain⟨b,y,hb,_,_,hs,h4⟩:=Ha
   obtain⟨s1,s2⟩:=yE hs
   have bG:=DQ hb oP
   rw[i2,Jq]at s1
   refine⟨h.set b y,h4 _ _ (by rw[i2,Gs (Jo bG)]) (AY s1),n2 _ _ ?_⟩
   rw[DP (by rw[Gs bG];exact i1),s2,i2,Jp _ _ bG]
  ·obtain⟨b,cs,v,o,hb,hc,hv,hs,h4⟩:=Ha
   have bG:=DQ hb oP
   rw[i2,Gs (Jo bG)]at hc
   refine⟨_,h4 _ _ hc hv,n2 _ _ ?_⟩
   rw[DP (by rw[Gs bG];exact i1),hs,i2,Jp _ _ bG]
 ·obtain⟨y,n3,n4⟩:=Ha
  obtain⟨i3,i4⟩:=yz n3
  rcases dU with rfl|rfl|rfl
  ·obtain⟨h1,h2⟩:=Hb
   refine⟨ra.heap,by rw[hat,←Gh,h1],h2 _ (fun b hb _=>?_)⟩
   rw[i4,h1,Gs (Jo (DQ hb oP))]
  ·obtain⟨b,x,hb,_,_,hs,h2⟩:=Hb
   obtain⟨s1,s2⟩:=yE hs
   have bG:=DQ hb oP
   rw[s2,Gs bG]at i3
   refine⟨h.set (h0+ka) y,n4 _ _ (DP i3),h2 _ _ (by rw[Gs (Jo bG)]) ?_⟩
   rw[AY (by rw[Jq];exact s1),i4,s2,Jp _ _ (Jo bG)]
  ·obtain⟨b,cs,v,o,hb,hc,hv,hs,h2⟩:=Hb
   have bG:=DQ hb oP
   rw[hs,Gs bG]at i3
   refine⟨h.set (h0+ka) y,n4 _ _ (DP i3),?_⟩
   rw[h2 _ cs (by rw[Gs (Jo bG)];exact hc) hv,i4,hs,Jp _ _ (Jo bG)]
 ·obtain⟨b,cs,v,o,hb,hc,hv,hs,h2⟩:=Hb
  obtain⟨b',ez,v',o',fi,dL,vu,gV,h4⟩:=Ha
  have bw:b<h.length:=(G6.1 hc).1
  by_cases DR:b'=b
  ·subst DR
   rw[hs,Jr bw]at dL
   cases dL
   rw[Gs bG]at vu
   refine⟨h.set b' (.cells (cs.set ka (v',G8))),h4 h cs hc vu,?_⟩
   rw[h2 _ (cs.set ka (v',G8)) (by rw[Jr bw]) (by rw[Gs (Jo bG)];exact hv),gV,hs]
   simp only[List.set_set]
   rw[Jp _ _ bG]
  ·rw[hs,Gs (Jo DR)]at dL
   refine⟨h.set b' (.cells (ez.set ka (v',G8))),h4 h ez dL vu,?_⟩
   rw[h2 _ cs (by rw[Gs DR];exact hc) hv,gV,hs,Jp _ _ DR]
end
section
variable {p:j8}{xc:XC}{h0:Nat}
def lT (p:j8)(xc:XC)(h0:Nat)(o:b4)(e:Env)(h:qh):Option bh:=
 match mX e o.guard with
 |some Gv=>qf p xc h0 o.al e h o.op
 |some G8=>I ⟨.undef,G8,Hc,h⟩
 |none=>Hc
def pF (o:b4)(e:Env)(r:bh):Env:=n5 (yc e r.strip) o.dst r.v r.own
theorem DS (o:b4)(st:bf):yu p xc h0 o st=(lT p xc h0 o st.env st.heap).map fun r=>⟨pF o st.env r,r.heap⟩:=by
 unfold yu lT
 cases hg:mX st.env o.guard with
 |none=>rfl
 |some b=>
  cases b with
  |false=>rfl
  |true=>
   simp only[]
   cases qf p xc h0 o.al st.env st.heap o.op<;>rfl
theorem q0i {e e' g}(h:Agree (match g with|some g=>[g.1]|none=>[]) e e'):mX e g=mX e' g:=by
 cases g with
 |none=>rfl
 |some g=>simp only[mX,h g.1 (by simp)]
theorem R2 {o e e' h}(ha:Agree o.reads e e'):lT p xc h0 o e h=lT p xc h0 o e' h:=by
 have h1:Agree o.op.reads e e':=(Agree.app ha).1
 have h2:=(Agree.app ha).2
 simp only[lT,q0i h2,q33 h1]
theorem q7m {h0 r h v o res}(hs:qK h0 h r v o=I res):res.strip=Hc:=by
 unfold qK at hs
 simp only[Jt,val]at hs
 repeat' split at hs
 all_goals first
  |(cases hs;done)
  |(cases hs;rfl)
theorem q0z {al e h op r}(hs:qf p xc h0 al e h op=I r){s}(hr:r.strip=I s):s∈op.fJ:=by
 have own:∀ {x:jt},zq e x=I s→s∈ze x:=by
  intro x h
  obtain⟨rfl,_⟩:=Fy h
  simp[ze]
 have oq:∀ {x:AVal},val h x=I r→False:=fun hv=>by rw[qx hv]at hr;cases hr
 have AZ:∀ {x:Option AVal},gD h x=I r→False:=fun hv=>by obtain⟨_,_,h1⟩:=vo hv;rw[h1]at hr;cases hr
 cases op with
 |take t=>
  simp only[qf,qo]at hs
  split at hs
  ·cases hs;simp at hr;simp[cL.fJ,hr]
  ·cases hs
 |append rk sz b x y=>
  cases rk with
  |some rk=>
   simp only[qf,qp,Jt]at hs
   repeat' split at hs
   all_goals first
    |(cases hs;done)
    |(cases hs;exact own hr)
  |none=>
   simp only[qf,qo,Jt]at hs
   repeat' split at hs
   all_goals first
    |(cases hs;done)
    |(cases hs;exact own hr)
 |store n x y=>
  simp only[qf,qp,Jt]at hs
  repeat' split at hs
  all_goals first
   |(cases hs;done)
   |exact(oq hs).elim
   |(rename_i ht _ _ _ _;cases hs;simp only[I.injEq]at hr;subst hr;exact own ht)
   |(unfold val at hs;cases hs;cases hr;done)
   |skip
 |cn rk sz b z n c=>
  cases rk with
  |some rk=>
   simp only[qf,qp,Jt]at hs
   repeat' split at hs
   all_goals first
    |(cases hs;done)
    |exact(oq hs).elim
    |(unfold val at hs;cases hs;cases hr;done)
  |none=>
   simp only[qf,qo,Jt]at hs
   repeat' split at hs
   all_goals first
    |(cases hs;done)
    |(cases hs;cases hr;done)
 |call md f l=>
  cases md<;>simp only[qf,yt,Jt]at hs
  all_goals
   repeat' split at hs
  all_goals first
   |(cases hs;done)
   |exact(oq hs).elim
   |(cases hs;cases hr;done)
   |(rw[q7m hs]at hr;cases hr;done)
 |_=>
  simp only[qf,qo,yi,qp,Jt]at hs
  repeat' split at hs
  all_goals first
   |(cases hs;done)
   |exact(oq hs).elim
   |exact(AZ hs).elim
   |(cases hs;cases hr;done)
   |(unfold val at hs;cases hs;cases hr;done)
theorem qxs {o e h r}(hs:lT p xc h0 o e h=I r){s}(hr:r.strip=I s):s∈o.op.fJ:=by
 unfold lT at hs
 split at hs
 ·exact q0z hs hr
 ·cases hs;cases hr
 ·cases hs
theorem DT {s x e}:jj s ((s,x)::e)=I x:=by
 simp only[jj,Sj,cond_true]
theorem Lm {s t x e}(h:s≠t):jj s ((t,x)::e)=jj s e:=by
 have:G7 t s=G8:=by
  cases hb:G7 t s with
  |false=>rfl
  |true=>exact absurd (E3 hb).symm h
 simp only[jj,this,cond_false]
theorem R3 {s e x}(h:∀t,x=I t→s≠t):jj s (yc e x)=jj s e:=by
 cases x with
 |none=>rfl
 |some t=>
  simp only[yc]
  split
  ·exact Lm (h t rfl)
  ·rfl
theorem qth {s e e' x}(h:jj s e=jj s e'):jj s (yc e x)=jj s (yc e' x):=by
 cases x with
 |none=>exact h
 |some t=>
  by_cases b6:s=t
  ·subst b6
   simp only[yc]
   rw[←h]
   cases hl:jj s e with
   |none=>simp only[];rw[hl,←h,hl]
   |some y=>simp only[];rw[DT,DT]
  ·rw[R3 (fun u hu=>by cases hu;exact b6),R3 (fun u hu=>by cases hu;exact b6)]
   exact h
theorem R4 {s e d v o}(h:∀t,d=I t→s≠t):jj s (n5 e d v o)=jj s e:=by
 cases d with
 |none=>rfl
 |some t=>exact Lm (h t rfl)
theorem qy3 {s e e' d v o}(h:jj s e=jj s e'):jj s (n5 e d v o)=jj s (n5 e' d v o):=by
 cases d with
 |none=>exact h
 |some t=>
  by_cases b6:s=t
  ·subst b6;simp only[n5];rw[DT,DT]
  ·rw[R4 (fun u hu=>by cases hu;exact b6),R4 (fun u hu=>by cases hu;exact b6)];exact h
theorem R5 {o s e e' r}(h:jj s e=jj s e'):jj s (pF o e r)=jj s (pF o e' r):=qy3 (qth h)
theorem DU {o s e r}(hr:∀t,r.strip=I t→t∈o.op.fJ)(h:s ∉ o.writes):jj s (pF o e r)=jj s e:=by
 unfold pF
 rw[R4,R3]
 ·intro t ht b6
  exact h (Rl _ (b6▸hr t ht))
 ·intro t ht b6
  exact h (Rr _ (by rw[ht,b6];simp))
theorem jdx {o e r h}:pF o e (r.at h)=pF o e r:=rfl
def jL (a b:bf):Prop:=a.heap=b.heap∧∀s,jj s a.env=jj s b.env
theorem jL.refl (a:bf):jL a a:=⟨rfl,fun _=>rfl⟩
theorem jL.trans {a b c}(h:jL a b)(k:jL b c):jL a c:=⟨h.1.trans k.1,fun s=>(h.2 s).trans (k.2 s)⟩
theorem qx7 {o a b a'}(h:jL a b)(hs:yu p xc h0 o a=I a'):∃b',yu p xc h0 o b=I b'∧jL a' b':=by
 rw[DS]at hs
 obtain⟨r,hr,rfl⟩:=Gx.1 hs
 rw[R2 (e':=b.env) (fun s _=>h.2 s),h.1]at hr
 refine⟨⟨pF o b.env r,r.heap⟩,by rw[DS,hr];rfl,rfl,fun s=>R5 (h.2 s)⟩
theorem qwd:∀ {l:List b4} {a b a':bf},jL a b→fY p xc h0 l a=I a'→∃b',fY p xc h0 l b=I b'∧jL a' b'
 | [],a,b,a',h,hs=>by simp only[fY,I.injEq]at hs ⊢;subst hs;exact⟨b,rfl,h⟩
 |o::l,a,b,a',h,hs=>by
  simp only[fY]at hs
  split at hs
  ·rename_i a1 h1
   obtain⟨b1,k1,k2⟩:=qx7 h h1
   obtain⟨b',k3,k4⟩:=qwd k2 hs
   exact⟨b',by simp only[fY,k1,k3],k4⟩
  ·cases hs
theorem jfu {o e h r}(hs:lT p xc h0 o e h=I r):∃c k,HB h0 o.al (lT p xc h0 o e) h r c k∧(c=.pure∨(c=o.op.cl∧k=o.op.cP)):=by
 unfold lT at hs
 cases hg:mX e o.guard with
 |none=>rw[hg]at hs;cases hs
 |some b=>
  cases b with
  |false=>
   rw[hg]at hs
   cases hs
   exact⟨.pure,0,⟨rfl,fun h'=>by simp only[lT,hg];rfl⟩,.inl rfl⟩
  |true=>
   rw[hg]at hs
   have:=jdp hs
   have heq:(fun h=>qf p xc h0 o.al e h o.op)=lT p xc h0 o e:=by
    funext h;simp only[lT,hg]
   rw[heq]at this
   exact⟨_,_,this,.inr ⟨rfl,rfl⟩⟩
theorem jcd {a b}(h:QB a b=Gv):a.op.cl=.pure∨b.op.cl=.pure∨a.op.cl=.fI∨b.op.cl=.fI∨(a.op.cl=.read∧b.op.cl=.read)∨(a.op.cl=.alloc∧b.op.cl=.alloc∧a.op.cP≠b.op.cP) ∨
  (a.op.cl=.alloc∧(b.op.cl=.read∨b.op.cl=.write∨b.op.cl=.take)∧nf b.al a.op.cP=G8)∨((a.op.cl=.read∨a.op.cl=.write∨a.op.cl=.take)∧b.op.cl=.alloc∧nf a.al b.op.cP=G8)∨(a.op.cl=.take∧b.op.cl=.take∧a.op.cP≠b.op.cP)∨((a.op.cl=.read∨a.op.cl=.write∨a.op.cl=.take)∧(b.op.cl=.read∨b.op.cl=.write∨b.op.cl=.take)∧Dx a.al b.al=Gv)∨Ll b.op.cl a.op.cl b.op.cP a.op.cP b.al a.al:=by
 unfold QB at h
 rw[Nz]at h
 rcases h with h|h
 ·simp only[En]at h
  obtain⟨⟨h1,h2⟩,h3⟩:=h
  have hb:∀ {c:Aj},c.box=Gv→c=.read∨c=.write∨c=.take:=fun {c} hc=>by cases c<;>first|(cases hc;done)|simp
  simp only[hb h1,hb h2,h3,and_self,or_true,true_or]
 unfold Ll
 cases ha:a.op.cl<;>cases hb:b.op.cl<;>simp_all
theorem R6 {a b}(h:Fk a b=Gv){s}(hs:s∈a):s ∉ b:=by
 unfold Fk at h
 rw[Iy]at h
 have:=h s hs
 simpa using this
theorem zcx {a b st s1 s2}(hm:Ak b a=Gv)(h1:yu p xc h0 b st=I s1)(h2:yu p xc h0 a s1=I s2):
  ∃t1 t2,yu p xc h0 a st=I t1∧yu p xc h0 b t1=I t2∧jL s2 t2:=by
 rw[DS]at h1
 obtain⟨rb,hb,rfl⟩:=Gx.1 h1
 rw[DS]at h2
 obtain⟨ra,ha,rfl⟩:=Gx.1 h2
 simp only[Ak,En]at hm
 obtain⟨⟨⟨hc,d1⟩,d2⟩,d3⟩:=hm
 have sb:∀t,rb.strip=I t→t∈b.op.fJ:=fun t ht=>qxs hb ht
 have sa:∀t,ra.strip=I t→t∈a.op.fJ:=fun t ht=>qxs ha ht
 -- the later one reads nothing that the earlier one writes
 have Ln:lT p xc h0 a st.env rb.heap=I ra:=by
  rw[←ha]
  refine R2 fun s hs=>(DU sb ?_).symm
  exact fun hw=>R6 d1 hw hs
 obtain⟨cb,kb,Hb,ob⟩:=jfu hb
 obtain⟨ca,ka,Ha,oa⟩:=jfu Ln
 have rJ:((cb=.read∨cb=.write∨cb=.take)∧(ca=.read∨ca=.write∨ca=.take)∧Dx b.al a.al=Gv)∨(cb=.pure∨ca=.pure∨(cb=.read∧ca=.read)∨(cb=.alloc∧ca=.alloc∧kb≠ka)∨(cb=.alloc∧(ca=.read∨ca=.write∨ca=.take)∧nf a.al kb=G8)∨((cb=.read∨cb=.write∨cb=.take)∧ca=.alloc∧nf b.al ka=G8)∨(cb=.take∧ca=.take∧kb≠ka))∨Ll ca cb ka kb a.al b.al:=by
  rcases ob with rfl|⟨rfl,rfl⟩
  ·exact .inr (.inl (.inl rfl))
  rcases oa with rfl|⟨rfl,rfl⟩
  ·exact .inr (.inl (.inr (.inl rfl)))
  rcases jcd hc with h|h|h|h|h|h|h|h|h|h|h
  ·exact .inr (.inl (.inl h))
  ·exact .inr (.inl (.inr (.inl h)))
  ·rw[h]at Hb;exact Hb.elim
  ·rw[h]at Ha;exact Ha.elim
  ·exact .inr (.inl (.inr (.inr (.inl h))))
  ·exact .inr (.inl (.inr (.inr (.inr (.inl h)))))
  ·exact .inr (.inl (.inr (.inr (.inr (.inr (.inl h))))))
  ·exact .inr (.inl (.inr (.inr (.inr (.inr (.inr (.inl h)))))))
  ·exact .inr (.inl (.inr (.inr (.inr (.inr (.inr (.inr h)))))))
  ·exact .inl h
  ·exact .inr (.inr h)
 have hsw:∃h1,lT p xc h0 a st.env st.heap=I (ra.at h1)∧lT p xc h0 b st.env h1=I (rb.at ra.heap):=by
  rcases rJ with⟨q1,q2,q3⟩|dE|dE
  ·exact jjt hb Ln Hb Ha q1 q2 q3
  ·exact jqj hb Ln Hb Ha dE
  ·exact jr6 hb Ln Hb Ha dE
 obtain⟨h3,k1,k2⟩:=hsw
 have k2':lT p xc h0 b (pF a st.env (ra.at h3)) h3=I (rb.at ra.heap):=by
  rw[←k2]
  refine R2 fun s hs=>DU (fun t ht=>sa t ht) ?_
  exact fun hw=>R6 d3 hw hs
 refine⟨⟨pF a st.env (ra.at h3),h3⟩,⟨pF b (pF a st.env (ra.at h3)) (rb.at ra.heap),ra.heap⟩,by rw[DS,k1];rfl,by rw[DS];simp only[k2'];rfl,rfl,fun s=>?_⟩
 simp only[jdx]
 by_cases hw:s∈a.writes
 ·have DK:s ∉ b.writes:=fun h=>R6 d2 h hw
  rw[DU sb DK]
  exact R5 (DU sb DK)
 ·rw[DU sa hw]
  exact R5 (DU sa hw).symm
theorem qwk:∀ {l1 l2:List b4} {a:b4} {st s2:bf},(∀b∈l1,Ak b a=Gv)→fY p xc h0 (l1++a::l2) st=I s2 →
  ∃t1 t2,yu p xc h0 a st=I t1∧fY p xc h0 (l1++l2) t1=I t2∧jL s2 t2
 | [],l2,a,st,s2,_,hs=>by
  simp only[List.nil_append,fY]at hs
  split at hs
  ·rename_i t1 h1;exact⟨t1,s2,h1,hs,jL.refl _⟩
  ·cases hs
 |b::l1,l2,a,st,s2,hm,hs=>by
  simp only[Sn,fY]at hs
  split at hs
  ·rename_i s h1
   obtain⟨u1,u2,h2,h3,h4⟩:=qwk (fun c hc=>hm c (by simp[hc])) hs
   obtain⟨t1,t2,h5,h6,h7⟩:=zcx (hm b (by simp)) h1 h2
   obtain⟨u3,h8,h9⟩:=qwd h7 h3
   exact⟨t1,u3,h5,by simp only[Sn,fY,h6,h8],h4.trans h9⟩
  ·cases hs
end
def dq (P:Program)(w0:World)(C0 C:aI)(nt:Nat)(st:bf)(a:Act)(w:World):Prop:=
 a.tmps.size=nt∧∃C' ω',C.le C'∧Marks C' w0.heap.size a.defers∧az P C' ω' w0 C0 st.heap w∧aq C' ω' w w0.heap.size st.env a.tmps
structure Gj (P:Program)(nt:Nat)(ops:Array Oper)(o:Oper)(ao:b4):Prop where
 op:∃h md r,(cM P h md r o.dst o.op).getD .bad=ao.op
 guard:Dv ops o.guard=I ao.guard
 dst:ao.dst=ao.op.xR o.dst
 fits:∀d,o.dst=I d→d<nt
 vfits:∀d,ao.op.ib=I d→d<nt
 Gk:∀d,ao.op.ib=I d→o.dst=Hc∧o.guard=Hc
section
variable {P:Program}{p:j8}{xc:XC}{C C0:aI}{w0:World}{nt h0:Nat}{ops:Array Oper}{ρ:Option Nat}
theorem dq.eqv {st bT a w}(h:dq P w0 C0 C nt st a w)(he:jL st bT):dq P w0 C0 C nt bT a w:=by
 obtain⟨h1,C',ω',h3,h2,h4,h5⟩:=h
 exact⟨h1,C',ω',h3,h2,he.1▸h4,fun s x hx=>h5 s x (by rw[he.2 s];exact hx)⟩
theorem aq.putAt {ω w B d e tmps v u o}(he:aq C ω w B e tmps)(hd:d<tmps.size)(hr:bP C v u)(ho:o=Gv→aJ C ω w B (.slot d) v u):aq C ω w B ((d,v,o)::e) (tmps.setIfInBounds d u):=by
 intro s x hx
 by_cases R7:s=d
 ·subst R7
  rw[DT]at hx
  cases hx
  exact⟨u,by simp[hd],hr,ho⟩
 ·rw[Lm R7]at hx
  obtain⟨y,h1,h2,h3⟩:=he s x hx
  exact⟨y,by rw[N9 (Jo R7)];exact h1,h2,h3⟩
theorem je6 {ao:b4}{st:bf}{a:Act}{w:World}{C1:aI}{ω1:Nat→Option Loc}{e:Env}{h:qh}{v:AVal}{u:Value}{own:Bool}{o:Oper}(hd:ao.dst=o.dst)(hf:∀d,o.dst=I d→d<nt)(hs:a.tmps.size=nt)(kQ:Marks C1 w0.heap.size a.defers)(hle:C.le C1)(m:az P C1 ω1 w0 C0 h w)(he:aq C1 ω1 w w0.heap.size e a.tmps)(hr:bP C1 v u)(ho:own=Gv→aJ C1 ω1 w w0.heap.size (.slot (o.dst.getD 0)) v u):
  dq P w0 C0 C nt ⟨n5 e ao.dst v own,h⟩ (a.put o.dst u) w:=by
 rw[hd]
 cases Lp:o.dst with
 |none=>exact⟨hs,C1,ω1,hle,kQ,m,he⟩
 |some d=>
  rw[Lp]at ho
  refine⟨by simpa[Act.put]using hs,C1,ω1,hle,kQ,m,?_⟩
  exact he.putAt (hs▸hf d Lp) hr ho
theorem qzz {o:Oper}{ao:b4}{e tmps ω w B b}(he:aq C ω w B e tmps)(hg:Dv ops o.guard=I ao.guard)(hb:mX e ao.guard=I b):Region.wanted o (yielded ops tmps)=b:=by
 unfold Region.wanted
 cases hog:o.guard with
 |none=>
  rw[hog]at hg
  simp only[Dv,I.injEq]at hg
  rw[←hg]at hb
  simp only[mX,I.injEq]at hb
  exact hb
 |some g=>
  obtain⟨j,want⟩:=g
  rw[hog]at hg
  simp only[Dv]at hg
  split at hg
  ·rename_i d hd
   have hgd:=I.inj hg
   rw[←hgd]at hb
   simp only[mX]at hb
   split at hb
   ·rename_i c ow hl
    cases hb
    obtain⟨v,h1,h2,_⟩:=he d _ hl
    have:=h2.di
    subst this
    simp only[yielded,hd,St,h1]
    cases c<;>cases want<;>rfl
   ·rename_i ow hl
    cases hb
    obtain⟨v,h1,h2,_⟩:=he d _ hl
    have hv:v=.tuple #[]:=by cases h2;rfl
    subst hv
    simp only[yielded,hd,St,h1]
    rfl
   ·cases hb
  ·cases hg
theorem q69 {h md r d op n s y}(Gl:∀t x z,op≠.store t x z):(cM P h md r d op).getD .bad≠.dM n s y:=by
 intro hc
 cases kT:cM P h md r d op with
 |none=>rw[kT]at hc;cases hc
 |some a=>
  rw[kT]at hc
  simp only[Nj]at hc
  subst hc
  cases op<;>simp only[cM,cond_eq_ite]at kT<;>(try exact Gl _ _ _ rfl)<;>(repeat' split at kT)<;>(try split at kT)<;>(try contradiction)<;>(try simp at kT)<;>(try (split at kT<;>simp at kT))<;>(try (unfold KN at kT; (repeat' split at kT)<;>simp at kT))<;>(try (simp only[Qz,Dt]at kT; (repeat' split at kT)<;>simp at kT))<;>(try (simp only[Ah]at kT; (repeat' split at kT)<;>(try contradiction)<;>(try simp at kT)<;>(try (split at kT<;>simp at kT))))
theorem q70 (et:bW P p)(hx:cD P xc){i:Nat}{o:Oper}{ao:b4}{st bT:bf}{a:Act}{w:World}{Q:Exit→Act→World→Prop}{K:Act→World→Prop}(hi:ops[i]?=I o)(hr:Gj P nt ops o ao)(hs:yu p xc h0 ao st=I bT)(b6:dq P w0 C0 C nt st a w)
  (hK:∀a' w',dq P w0 C0 C nt bT a' w'→K a' w'):wpOpIn (iZ ρ) 0 P ops Q i K a w:=by
 obtain⟨cS,C1,ω1,hle,kQ,m,he⟩:=b6
 unfold wpOpIn
 rw[hi]
 simp only[]
 unfold yu at hs
 split at hs
 ·rename_i hg
  rw[qzz he hr.guard hg]
  simp only[if_true]
  split at hs
  ·rename_i res eu
   cases hs
   obtain⟨h,md,r,hop⟩:=hr.op
   cases nw:ao.op.ib with
   |some sv=>
    -- the one write of a variable
    have A0:∃n y',ao.op=.dM n sv y':=by
     cases yG:ao.op<;>rw[yG]at nw<;>simp[cL.ib]at nw
     subst nw;exact⟨_,_,rfl⟩
    obtain⟨n,y',yG⟩:=A0
    have hdd:ao.dst=I sv:=by rw[hr.dst,yG];rfl
    rw[yG]at eu hop
    have b6:∃t x y,o.op=.store t x y∧jp P t=I n∧qt x=I (.tmp sv)∧qt y=I y':=by
     cases hoo:o.op<;>rw[hoo]at hop
     case store t x y=>
      simp only[cM]at hop
      split at hop
      ·rename_i n' x' yy hn h1 h2
       simp only[Nj]at hop
       cases lO:KO h x' with
       |none=>rw[lO]at hop;cases hop
       |some s'=>
        rw[lO]at hop
        simp only[cL.dM.injEq]at hop
        obtain⟨rfl,rfl,rfl⟩:=hop
        refine⟨t,x,y,rfl,hn,?_,h2⟩
        unfold KO at lO
        split at lO
        ·split at lO
         ·cases lO;exact h1
         ·cases lO
        ·cases lO
      ·cases hop
     all_goals exact absurd hop (q69 (by simp))
    obtain⟨t,x,y,ho,hn,h1,h2⟩:=b6
    simp only[qf,qo]at eu
    split at eu
    ·rename_i mm v hl e2
     cases hk:(G7 mm n&&G7 v.flat.length n&&v.flat.all qk)with
     |false=>rw[hk]at eu;cases eu
     |true=>
      rw[hk]at eu
      simp only[cond_true,val,I.injEq]at eu
      subst eu
      simp only[En]at hk
      obtain⟨⟨k1,k2⟩,k3⟩:=hk
      obtain rfl:=E3 k1
      obtain⟨w',C',ω',bF,cO,m',e'⟩:=jbz m he ho hn h1 h2 hl e2 (E3 k2) k3
      refine⟨fun _ _=>trivial,?_⟩
      rw[Oper.semAt_eq _ _ _ (fun c hc=>by rw[ho]at hc;cases hc),bF]
      have Lp:o.dst=Hc:=(hr.Gk sv nw).1
      refine hK _ _ ?_
      rw[Lp,hdd]
      exact⟨cS,C',ω',aI.le_trans hle cO,kQ.mono cO,m',e'⟩
    ·cases eu
   |none=>
   have rK:ao.dst=o.dst:=by rw[hr.dst];cases yG:ao.op<;>rw[yG]at nw<;>first|rfl|simp[cL.ib]at nw
   have bF:yf P C1 C0 w0 a (.slot (o.dst.getD 0)) st.env o w res:=by
    cases hc:cM P h md r o.dst o.op with
    |none=>rw[hc]at hop;simp only[Ts]at hop;rw[←hop]at eu;simp[qf,qo]at eu
    |some cH=>rw[hc]at hop;simp only[Nj]at hop;subst hop;exact js9 et hx m he nw hc eu
   have fin:∀v w',zo P C0 w0 C1 a.tmps (.slot (o.dst.getD 0)) st.env res v w'→K (a.put o.dst v) w':=by
    rintro v w' ⟨C2,ω2,h1,h2,h3,h4,h5⟩
    exact hK _ _ (je6 (st:=st) rK hr.fits cS (kQ.mono h1) (aI.le_trans hle h1) h2 h3 h4 h5)
   refine⟨fun _ _=>trivial,?_⟩
   rw[Oper.semAt_eq _ _ _ (fun c hc=>by
    rw[hc]at hop
    simp only[cM,Ts]at hop
    rw[←hop]at eu
    simp[qf,qo]at eu)]
   rcases bF with⟨v,w',h1,h2⟩|⟨w',h1,h2⟩|⟨f,args,h1,h2⟩|⟨l,f,tmps,assign,body,h1,h2⟩
   ·rw[h1];exact fin v w' h2
   ·rw[h1];exact fin undef w' h2
   ·rw[h1]
    refine⟨fun h=>by simp[iZ,Fence.wide]at h,CallsIn.mono (qxf.2 h2) ?_⟩
    rintro e w' ⟨v,rfl,gY⟩
    exact fin v w' gY
   ·rw[h1]
    have oQ:RoundIn (iZ ρ) 0 P l f tmps assign body w _:=h2
    refine⟨fun h=>by simp[iZ,Fence.wide]at h,RoundIn.mono oQ ?_⟩
    rintro e w' ⟨v,rfl,gY⟩
    exact fin v w' gY
  ·cases hs
 ·rename_i hg
  cases hs
  rw[qzz he hr.guard hg]
  simp only[G9,if_false]
  have rK:ao.dst=o.dst:=by
   cases nw:ao.op.ib with
   |none=>rw[hr.dst];cases yG:ao.op<;>rw[yG]at nw<;>first|rfl|simp[cL.ib]at nw
   |some sv=>
    have h1:=hr.guard
    rw[(hr.Gk sv nw).2]at h1
    simp only[Dv,I.injEq]at h1
    rw[←h1]at hg
    simp[mX]at hg
  exact⟨fun _ _=>trivial,hK _ _ (je6 (st:=st) rK hr.fits cS kQ hle m he .undef (by simp))⟩
 ·cases hs
inductive lU (P:Program)(nt:Nat)(ops:Array Oper):List Nat→List b4→Prop where
 |nil:lU P nt ops [] []
 |cons {i:Nat} {o:Oper} {ao:b4} {l:List Nat} {lo:List b4} (hi:ops[i]?=I o) (h:Gj P nt ops o ao) (t:lU P nt ops l lo):lU P nt ops (i::l) (ao::lo)
theorem q77 (et:bW P p)(hx:cD P xc){Q bT}(hQ:∀a' w',dq P w0 C0 C nt bT a' w'→Q .normal a' w'):∀ {l:List Nat} {lo:List b4} {st:bf} {a:Act} {w:World},lU P nt ops l lo→fY p xc h0 lo st=I bT→dq P w0 C0 C nt st a w→wpOpsIn (iZ ρ) 0 P ops Q l a w
 | [],_,st,a,w,.nil,hs,b6=>by
  simp only[fY,I.injEq]at hs
  subst hs
  exact hQ _ _ b6
 |i::l,_,st,a,w,.cons hi h t,hs,b6=>by
  simp only[fY]at hs
  split at hs
  ·rename_i s1 h1
   rw[wpOpsIn_cons]
   exact q70 et hx hi h h1 b6 fun a' w' il=>q77 et hx hQ t hs il
  ·cases hs
theorem qzw {h id iz draw}:∀ {os:List Oper} {i:Nat} {rs Dw:List (Nat×Nat)} {l:List b4},Fj P h nt id ops iz draw os i rs=I (l,Dw)→(∀j,os[j]?=ops[i+j]?)→lU P nt ops (List.range' i os.length) l
 | [],i,rs,Dw,l,hc,_=>by
  simp only[Fj,I.injEq,Rb.injEq]at hc
  rw[←hc.1];exact .nil
 |o::os,i,rs,Dw,l,hc,hos=>by
  simp only[Fj]at hc
  split at hc
  ·rename_i g hg
   split at hc
   ·rename_i cA
    split at hc
    ·rename_i l1 rs1 Gm
     simp only[I.injEq,Rb.injEq]at hc
     rw[←hc.1]
     simp only[En]at cA
     obtain⟨⟨hf1,hf2⟩,hf3⟩:=cA
     refine .cons (o:=o) (by rw[←Nat.add_zero i,←hos 0];rfl) ⟨⟨h,jfj h id i,rs.length,rfl⟩,hg,rfl,fun d hd=>?_,fun d hd=>?_,fun d hd=>?_⟩ ?_
     ·rw[hd]at hf1
      simpa using hf1
     ·simp only at hd
      rw[hd]at hf2
      simpa using hf2
     ·simp only at hd
      rw[hd]at hf3
      simpa using hf3
     ·exact qzw Gm (fun j=>by rw[show i+1+j=i+(j+1)from by omega,←hos (j+1)];rfl)
    ·cases hc
   ·cases hc
  ·cases hc
theorem az.holes {ω w hp}(m:az P C ω w0 C0 hp w)(n:Nat):az P C ω w0 C0 (hp++T2 n .hole) w:=
 { m with
  lt:=fun b r hb=>⟨(m.lt b r hb).1,by rw[List.length_append];have:=(m.lt b r hb).2;omega⟩
  box:=fun b x r hx hb=>m.box b x r (by rw[List.getElem?_append_left (m.lt b r hb).2]at hx;exact hx) hb }
theorem q4h {l e s x}:jj s (qG e l)=I x→jj s e=I x:=by
 induction l with
 |nil=>simp[qG,jj]
 |cons t l ih=>
  intro h
  simp only[qG]at h
  split at h
  ·rename_i y hy
   by_cases b6:s=t
   ·subst b6;rw[DT]at h;rw[hy];exact h
   ·rw[Lm b6]at h;exact ih h
  ·exact ih h
theorem dq.keep {st a w k}(h:dq P w0 C0 C nt st a w):dq P w0 C0 C nt (Af st k) a w:=by
 cases k with
 |none=>exact h
 |some l=>
  obtain⟨h1,C',ω',h3,h2,h4,h5⟩:=h
  exact⟨h1,C',ω',h3,h2,h4,fun s x hx=>h5 s x (q4h hx)⟩
theorem qs2 {listed:Array Bool}{i j d}:(listed.setIfInBounds i Gv).getD j d=if i=j∧j<listed.size then Gv else listed.getD j d:=by
 simp only[If,Array.getElem?_setIfInBounds]
 by_cases qO:i=j
 ·subst qO
  by_cases hl:i<listed.size
  ·simp[hl]
  ·simp[hl]
 ·simp[qO]
theorem jL.Gn {a b}(h:jL a b):jL b a:=⟨h.1.symm,fun s=>(h.2 s).symm⟩
def pick (full:List b4)(l:List Nat):List b4:=l.map fun i=>full.getD i default
theorem lU.get {l lo}(h:lU P nt ops l lo):l.length=lo.length∧∀k i,l[k]?=I i→∃o,ops[i]?=I o∧Gj P nt ops o (lo.getD k default):=by
 induction h with
 |nil=>exact⟨rfl,by simp⟩
 |cons hi h t ih=>
  refine⟨by simp[ih.1],fun k i hk=>?_⟩
  cases k with
  |zero=>simp at hk;subst hk;exact⟨_,hi,h⟩
  |succ k=>simp at hk;obtain⟨o,h1,h2⟩:=ih.2 k i hk;exact⟨o,h1,by simpa using h2⟩
theorem jvs {full:List b4}{iz:Array Nat}(et:bW P p)(hx:cD P xc){Q bT}(hQ:∀a' w',dq P w0 C0 C nt bT a' w'→Q .normal a' w')
  (rL:∀i o,ops[i]?=I o→Gj P nt ops o (full.getD i default)) (Gp:∀i j,i<j→j<ops.size→(iz.getD j 0).testBit i=G8→Ak (full.getD i default) (full.getD j default)=Gv)
  (R8:∀j o i,ops[j]?=I o→i<ops.size→(iz.getD j 0).testBit i=Gv→∃e∈o.after,Region.binds .any e=Gv∧(e.on=i∨(iz.getD e.on 0).testBit i=Gv))
  (Gq:∀i o,ops[i]?=I o→∀e∈o.after,Region.binds .any e=Gv→e.on<i):
  ∀(fuel:Nat) (listed:Array Bool) (l:List Nat) (st s2:bf) (a:Act) (w:World),listed.size=ops.size→l.Pairwise (· < ·)→(∀i,i∈l↔i<ops.size∧listed.getD i Gv=G8)→l.length≤fuel →
   (∀k i,i<ops.size→listed.getD k G8=Gv→(iz.getD k 0).testBit i=Gv→listed.getD i G8=Gv)→fY p xc h0 (pick full l) st=I s2→jL s2 bT→dq P w0 C0 C nt st a w→wpAnyIn (iZ ρ) 0 P .any ops Q fuel listed a w:=by
 intro fuel
 induction fuel with
 |zero=>
  intro listed l st s2 a w cS gg dh hlen kW hs heq b6
  have hl:l=[]:=Rj.1 (by omega)
  subst hl
  simp only[pick,Uf,fY,I.injEq]at hs
  subst hs
  refine⟨?_,hQ _ _ (b6.eqv heq)⟩
  cases hr:Region.ready .any ops listed with
  |nil=>rfl
  |cons i rs=>
   have hi:i∈Region.ready .any ops listed:=by rw[hr];simp
   obtain⟨h1,o,ho,_⟩:=mem_ready.1 hi
   have:=(dh i).2 ⟨(Gz.1 ho).1,h1⟩
   cases this
 |succ fuel ih=>
  intro listed l st s2 a w cS gg dh hlen kW hs heq b6
  refine⟨fun hr=>?_,fun i hi=>?_⟩
  ·cases l with
   |nil=>
    simp only[pick,Uf,fY,I.injEq]at hs
    subst hs
    exact hQ _ _ (b6.eqv heq)
   |cons i l=>
    exfalso
    obtain⟨h1,h2⟩:=(dh i).1 (by simp)
    have hi:i∈Region.ready .any ops listed:=by
     refine mem_ready.2 ⟨h2,ops[i],Lu h1,fun e he hb=>?_⟩
     have bw:=Gq i _ (Lu h1) e he hb
     have bG:e.on ∉ i::l:=fun hm=>by
      rcases Rc.1 hm with h|h
      ·omega
      ·have:=(Si.1 gg).1 _ h;omega
     have h3:¬(listed.getD e.on Gv=G8):=fun h=>bG ((dh e.on).2 ⟨by omega,h⟩)
     have rM:e.on<listed.size:=by omega
     simp only[If,Lu rM,Nj]at h3 ⊢
     simpa using h3
    rw[hr]at hi
    cases hi
  ·obtain⟨h1,o,ho,hall⟩:=mem_ready.1 hi
   have bw:=(Gz.1 ho).1
   have him:i∈l:=(dh i).2 ⟨bw,h1⟩
   obtain⟨l1,l2,rfl⟩:=List.append_of_mem him
   have R9:∀k,k∈l1++i::l2→listed.getD k G8=Gv→False:=fun k hk hl=>by
    obtain⟨k1,k2⟩:=(dh k).1 hk
    have rM:k<listed.size:=by omega
    simp only[If,Lu rM,Nj]at hl k2
    rw[hl]at k2;cases k2
   have hbi:∀k,k<ops.size→(iz.getD i 0).testBit k=Gv→listed.getD k G8=Gv:=fun k hk hb=>by
    obtain⟨e,he,lu,h2|h2⟩:=R8 i o k ho hk hb
    ·rw[←h2];exact hall e he lu
    ·exact kW e.on k hk (hall e he lu) h2
   have hm:∀b∈pick full l1,Ak b (full.getD i default)=Gv:=by
    intro b hb
    obtain⟨k,hk,rfl⟩:=Ue.1 hb
    have A1:k<i:=(Rs.1 gg).2.2 k hk i (by simp)
    refine Gp k i A1 bw ?_
    cases Sb:(iz.getD i 0).testBit k with
    |false=>rfl
    |true=>exact(R9 k (by simp[hk]) (hbi k (by omega) Sb)).elim
   have Sc:pick full (l1++i::l2)=pick full l1++full.getD i default::pick full l2:=by simp[pick]
   rw[Sc]at hs
   obtain⟨t1,t2,g1,g2,g3⟩:=qwk hm hs
   refine q70 et hx ho (rL i o ho) g1 b6 fun a' w' il=>?_
   refine ih (listed.setIfInBounds i Gv) (l1++l2) t1 t2 a' w' (by simpa using cS) ?_ ?_ ?_ ?_ (by rw[show pick full (l1++l2)=pick full l1++pick full l2 from by simp[pick]];exact g2) (jL.trans (jL.Gn g3) heq) il
   ·exact gg.sublist (X0.append (X0.refl _) (List.sublist_cons_self _ _))
   ·intro k
    rw[qs2]
    have Gr:i ∉ l1∧i ∉ l2:=by
     have h:=Rs.1 gg
     refine⟨fun hi1=>?_,fun hi2=>?_⟩
     ·have:=h.2.2 i hi1 i (by simp);omega
     ·have:=(Si.1 h.2.1).1 i hi2;omega
    constructor
    ·intro hk
     have A1:k≠i:=fun h=>by
      subst h
      rcases Ob.1 hk with h|h
      ·exact Gr.1 h
      ·exact Gr.2 h
     have:=(dh k).1 (by rcases Ob.1 hk with h|h<;>simp[h])
     rw[if_neg (by omega)]
     exact this
    ·rintro ⟨k1,k2⟩
     split at k2
     ·cases k2
     ·rename_i bG
      have A1:k≠i:=fun h=>bG ⟨h.symm,by omega⟩
      have:=(dh k).2 ⟨k1,k2⟩
      rcases Ob.1 this with h|h
      ·simp[h]
      ·rcases Rc.1 h with h|h
       ·exact absurd h A1
       ·simp[h]
   ·simp at hlen ⊢;omega
   ·intro k j hj hk hb
    rw[qs2]at hk ⊢
    split
    ·rfl
    ·split at hk
     ·rename_i rN
      rw[←rN.1]at hb
      exact hbi j hj hb
     ·exact kW k j hj hk hb
theorem q66 {iz l}(h:QC iz l=Gv){i j}(qO:i<j)(hj:j<l.length)(hb:(iz.getD j 0).testBit i=G8):Ak (l.getD i default) (l.getD j default)=Gv:=by
 unfold QC at h
 rw[Iy]at h
 have h1:=h (l[j],j) (Lr.2 (by simp[hj]))
 simp only[]at h1
 rw[Iy]at h1
 have h2:=h1 (l[i]'(by omega),i) (Lr.2 (by simp))
 simp only[qO,hb,decide_true,Sf,Oa]at h2
 simp only[List.getD_eq_getElem?_getD,Jy hj,Jy (show i<l.length by omega),Nj]
 exact h2
theorem jah {iz}(h:QE iz ops=Gv){j i o}(ho:ops[j]?=I o)(hi:i<ops.size)(hb:(iz.getD j 0).testBit i=Gv):∃e∈o.after,Region.binds .any e=Gv∧(e.on=i∨(iz.getD e.on 0).testBit i=Gv):=by
 unfold QE at h
 rw[Iy]at h
 have h1:=h (o,j) (Lr.2 (by simpa using ho))
 simp only[]at h1
 rw[Iy]at h1
 have h2:=h1 i (T3.2 hi)
 rw[hb]at h2
 simp only[Sf,Oa,Array.any_eq_true']at h2
 obtain⟨e,he,h3⟩:=h2
 simp only[En,Nz,beq_iff_eq]at h3
 exact⟨e,he,h3.1,h3.2⟩
theorem q4y (h:QD ops=Gv){i o}(ho:ops[i]?=I o):∀e∈o.after,Region.binds .any e=Gv→e.on<i:=by
 intro e he hb
 unfold QD at h
 rw[Iy]at h
 have h1:=h (o,i) (Lr.2 (by simpa using ho))
 simp only[Array.all_eq_true']at h1
 have:=h1 e he
 simpa[hb]using this
theorem jem (et:bW P p)(hx:cD P xc){id:Nat}{draw:Bool}{ca h na l keep}(hc:Fl P h nt id ops draw=I ca)(eg:ca=.region na l keep){st bT x}(hs:mY p xc na l keep st=I (x,bT)){ω a w}
  (m:az P C ω w0 C0 st.heap w) (he:aq C ω w w0.heap.size st.env a.tmps) (cS:a.tmps.size=nt) (kQ:Marks C w0.heap.size a.defers):
  (Code.region id ops draw).wpIn (iZ ρ) 0 P (fun e a' w'=>e=AL x∧dq P w0 C0 C nt bT a' w') a w:=by
 subst eg
 unfold Fl at hc
 split at hc
 ·rename_i l' rs hl
  split at hc
  ·rename_i hd
   simp only[I.injEq,aw.region.injEq]at hc
   obtain⟨rfl,rfl,oh⟩:=hc
   unfold mY at hs
   split at hs
   ·rename_i s1 h1
    cases hs
    have yH:lU P nt ops (List.range' 0 ops.size) l':=by
     have:=qzw hl (ops:=ops) (fun j=>by simp)
     simpa using this
    have hQ:∀a' w',dq P w0 C0 C nt s1 a' w'→(fun e a' w'=>e=AL .normal∧dq P w0 C0 C nt (Af s1 keep) a' w') Exit.normal a' w':=fun a' w' b6=>⟨rfl,b6.keep⟩
    cases draw with
    |false=>
     refine wpIn_region ?_
     rw[List.range_eq_range']
     exact q77 et hx hQ yH h1 ⟨cS,C,ω,aI.le_refl C,kQ,m.holes _,he⟩
    |true=>
     simp only[Sf,Oa,En]at hd
     obtain⟨⟨d1,d2⟩,d3⟩:=hd
     refine wpIn_region_any et.mixed ?_
     obtain⟨hlen,Sd⟩:=yH.get
     have hlen':l'.length=ops.size:=by rw[←hlen];simp
     have rL:∀i o,ops[i]?=I o→Gj P nt ops o (l'.getD i default):=by
      intro i o ho
      have hi:=(Gz.1 ho).1
      obtain⟨o',h2,h3⟩:=Sd i i (by rw[List.getElem?_range' hi];simp)
      rw[ho]at h2;cases h2;exact h3
     have Sc:pick l' (List.range ops.size)=l':=by
      apply Rf
      intro k
      simp only[pick,N7]
      by_cases hk:k<ops.size
      ·rw[List.getElem?_range hk]
       simp[Jy (show k<l'.length by omega)]
      ·rw[Rm (by simpa using hk),Rm (by omega)];rfl
     refine jvs (iz:=Region.before ops) (full:=l') et hx hQ rL (fun i j h2 h3 h4=>q66 d1 h2 (by omega) h4) (fun j o i h2 h3 h4=>jah d3 h2 h3 h4) (fun i o h2=>q4y d2 h2) ops.size _ (List.range ops.size) ⟨st.env,st.heap++T2 rs.length .hole⟩ s1 a _ (by simp) List.pairwise_lt_range ?_ (by simp) ?_ (by rw[Sc];exact h1) (jL.refl _) ⟨cS,C,ω,aI.le_refl C,kQ,(m.holes _).ext (Ext.drew w),he.ext (Ext.drew w)⟩
     ·intro i
      simp only[T3,If,Rg]
      constructor
      ·intro hi;exact⟨hi,by simp[hi]⟩
      ·exact fun hi=>hi.1
     ·intro k i hi hk
      simp only[If,Rg]at hk
      split at hk<;>simp at hk
   ·cases hs
  ·cases hc
 ·cases hc
end
end Go.Abs
