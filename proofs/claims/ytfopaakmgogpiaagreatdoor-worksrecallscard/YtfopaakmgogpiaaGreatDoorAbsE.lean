/- Each operation by itself, third part. -/
import Derived.Test.YtfopaakmgogpiaaGreatDoorAbsD
import Derived.RangeFuncLeaves
set_option linter.unusedVariables false
set_option linter.unusedSimpArgs false
open Option renaming some→I,map_eq_some_iff→Ga,none→Ge,isSome_none→Gw,isNone_some→Hr,map→Ob
open Bool renaming and_eq_true→Ek,true→Gb,false_eq_true→Gc,false→Gl,or_eq_true→Hd
open Nat renaming eq_of_beq_eq_true→En,le_of_ble_eq_true→Eo,beq→Gf,le_trans→Gh,ble→Gm,lt_of_lt_of_le→Gx,blt→Ha,zero_add→Hf,blt_eq→Hn
open Array renaming getElem?_eq_some_iff→Ep,getD_eq_getD_getElem?→Hg,ext'→Ho,replicate→Hv
open List renaming mem_of_getElem?→Gk,getElem?_eq_some_iff→Gn,all_eq_true→Gy,length_take→G9,getElem?_map→Hb,getElem?_set_ne→Hc,getElem?_eq_getElem→Hj,isEmpty_iff→Hk,length_set→Hl,length_map→Hm,zip_cons_cons→Hq,flatMap_cons→Ht,length_drop→Hu,foldl_cons→Hw,mem_cons→Hx,all_cons→If,map_cons→Oa
namespace Go.Abs
section
variable {P:Program}{p:qr}{xc:XC}{C C0:aA}{ω:Nat→Option Loc}{w w0:World}{hp:za}{env:Env}{a:Act}{o:Oper}{d:Loc}{h:qb}{md:jd}{r h0:Nat}{dst:Option Nat}{al:Option (List Nat)}{cq:qv}{res:qo}
theorem jdi (m:av P C ω w0 C0 hp w)(e:ak C ω w w0.heap.size env a.tmps){t:TypeId}{ps}(ho:o.op=.build t ps)(hc:cw P h md r dst (.build t ps)=I cq)(hs:j8 p xc h0 al env hp cq=I res):dW P C C0 w0 a d env o w res:=by
 simp only[cw]at hc
 split at hc
 ·rename_i fs z ht hz
  split at hc
  ·rename_i hall
   obtain⟨fB,l8,rfl⟩:=Ga.1 hc
   simp only[j8,zh]at hs
   split at hs
   ·rename_i qs hq
    split at hs
    ·rename_i cs hf
     obtain rfl:=zt hs
     exact yc m e (qyy e.bU ho ht hz (fun f hf=>Gy.1 hall f hf) l8 hq hf)
    ·cases hs
   ·cases hs
  ·cases hc
 ·rename_i len el z ht hz
  split at hc
  ·rename_i n hn
   obtain⟨fB,l8,rfl⟩:=Ga.1 hc
   simp only[j8,zh]at hs
   split at hs
   ·rename_i qs hq
    split at hs
    ·rename_i cs hf
     obtain rfl:=zt hs
     exact yc m e (q0q e.bU ho ht hz hn l8 hq hf)
    ·cases hs
   ·cases hs
  ·cases hc
 ·cases hc
theorem qzg (m:av P C ω w0 C0 hp w)(e:ak C ω w w0.heap.size env a.tmps){t:TypeId}{n ps}(ho:o.op=.buildSlice t n ps)(hc:cw P h md r dst (.buildSlice t n ps)=I cq)(hs:j8 p xc h0 al env hp cq=I res):dW P C C0 w0 a d env o w res:=by
 simp only[cw]at hc
 split at hc
 ·rename_i el ht
  split at hc
  ·rename_i sz z ag es hn hz cK l8
   split at hc
   ·rename_i hb
    cases hc
    simp only[Ek,decide_eq_true_eq,beq_iff_eq]at hb
    generalize (dst.map (h.vec.contains ·)).getD Gl=bb at hs
    cases bb with
    |true=>
     simp only[if_true,j8,zi]at hs
     split at hs
     ·rename_i qs hq
      split at hs
      ·rename_i xs hx
       cases Aw:zr 0 xs with
       |false=>rw[Aw]at hs;cases hs
       |true=>
        rw[Aw]at hs
        simp only[cT]at hs
        split at hs
        ·rename_i h' cQ
         obtain rfl:=zt hs
         exact .inl (jgv m e ho ht hn hz hb.1.1.1.1 hb.1.1.1.2 hb.1.1.2 l8 hq hx Aw cQ)
        ·cases hs
      ·cases hs
     ·cases hs
    |false=>
    simp only[Gc,if_false,j8,zh]at hs
    split at hs
    ·rename_i qs hq
     split at hs
     ·rename_i xs hx
      cases hs
      exact .inl (qzm m e ho ht hn hz hb.1.1.1.1 hb.1.1.1.2 hb.1.1.2 l8 hq hx)
     ·cases hs
    ·cases hs
   ·cases hc
  ·cases hc
 ·cases hc
theorem q1p (m:av P C ω w0 C0 hp w)(e:ak C ω w w0.heap.size env a.tmps){t:TypeId}{x y}(ho:o.op=.makeSlice t x y)(hc:cw P h md r dst (.makeSlice t x y)=I cq)(hs:j8 p xc h0 al env hp cq=I res):dW P C C0 w0 a d env o w res:=by
 simp only[cw]at hc
 split at hc
 ·rename_i el ht
  split at hc
  ·rename_i sz b z ag x' y' hn hb hz cK h1 h2
   split at hc
   ·cases hc
    generalize hR:(if(Ob (fun x=>h.bH.contains x) dst).getD Gl=Gb then I r else Ge)=R at hs
    cases R with
    |some rr=>
     simp only[j8,zi]at hs
     split at hs
     ·rename_i n c e1 e2
      cases hk:(Gf n c&&Gm n 1073741824&&Gm b 4096&&Gf z.length sz&&Ha 0 sz&&z.all zd)with
      |false=>simp[hk]at hs
      |true=>
       simp only[hk,cT]at hs
       split at hs
       ·rename_i h' cQ
        obtain rfl:=zt hs
        simp only[Ek]at hk
        obtain⟨⟨⟨⟨⟨k1,k2⟩,k3⟩,k4⟩,k5⟩,k6⟩:=hk
        obtain rfl:=En k1
        exact .inl (qzd m e ho ht hn hb hz (Hn.mp k5) (En k4) h1 h2 e1 e2 (Eo k2) (Eo k3) cQ)
       ·cases hs
     ·cases hs
    |none=>
     simp only[j8,zh]at hs
     split at hs
     ·rename_i n c e1 e2
      cases hk:(Gf n c&&Gm n 1073741824&&Gm b 4096&&Gf z.length sz&&Ha 0 sz&&z.all zd)with
      |false=>simp[hk]at hs
      |true=>
       simp only[hk,cT]at hs
       cases hs
       simp only[Ek]at hk
       obtain⟨⟨⟨⟨⟨k1,k2⟩,k3⟩,k4⟩,k5⟩,k6⟩:=hk
       obtain rfl:=En k1
       exact .inl (q61 m e ho ht hn hb hz (Hn.mp k5) (En k4) h1 h2 e1 e2 (Eo k2) (Eo k3))
     ·cases hs
   ·cases hc
  ·cases hc
 ·cases hc
theorem jd0 (m:av P C ω w0 C0 hp w)(e:ak C ω w w0.heap.size env a.tmps){t:TypeId}{x lo hi mx}(ho:o.op=.slice t x lo hi mx)(hc:cw P h md r dst (.slice t x lo hi mx)=I cq)(hs:j8 p xc h0 al env hp cq=I res):dW P C C0 w0 a d env o w res:=by
 cases mx with
 |some _=>simp[cw]at hc
 |none=>
  simp only[cw]at hc
  split at hc
  ·rename_i x' ly fI h1 h2 h3
   split at hc
   ·rename_i ht
    cases hc
    simp only[j8,zh]at hs
    split at hs
    ·rename_i s hv
     split at hs
     ·rename_i j hj
      split at hs
      ·rename_i i fI
       obtain rfl:=zt hs
       exact yc m e (q5f e.bU ho ht h1 h2 h3 hv hj fI)
      ·cases hs
     ·cases hs
    ·cases hs
   ·rename_i el ht
    obtain⟨sz,hn,rfl⟩:=Ga.1 hc
    simp only[j8,zh]at hs
    split at hs
    ·rename_i n cJ xs hv
     cases hk:(Gf sz cJ||xs.isEmpty)with
     |false=>simp[hk]at hs
     |true=>
      simp only[hk,cT]at hs
      split at hs
      ·rename_i j hj
       split at hs
       ·rename_i i fI
        obtain rfl:=zt hs
        refine yc m e (q06 e.bU ho ht hn h1 h2 h3 hv (.inr ⟨n,cJ,xs,rfl,?_,hj,fI,rfl⟩))
        rcases Hd _ _▸hk with hk|hk
        ·exact .inl (En hk)
        ·exact .inr (Hk.1 hk)
       ·cases hs
      ·cases hs
    ·rename_i b q len hv
     split at hs
     ·rename_i j hj
      split at hs
      ·rename_i i fI
       cases hk:(Gf i 0||Ha i j)with
       |false=>simp[hk]at hs
       |true=>
        simp only[hk,cT]at hs
        obtain rfl:=zt hs
        refine yc m e (q06 e.bU ho ht hn h1 h2 h3 hv (.inl ⟨b,q,len,rfl,hj,fI,?_,rfl⟩))
        rcases Hd _ _▸hk with hk|hk
        ·exact .inl (En hk)
        ·exact .inr (Hn.mp hk)
      ·cases hs
     ·cases hs
    ·rename_i b bz len hv
     split at hs
     ·rename_i j hj
      split at hs
      ·rename_i i fI
       cases hk:Gf i 0 with
       |false=>simp[hk]at hs
       |true=>
        simp only[hk,cT]at hs
        obtain rfl:=zt hs
        obtain rfl:=En hk
        exact yc m e (jbh e.bU ho ht hn h1 h2 h3 hv hj fI)
      ·cases hs
     ·cases hs
    ·cases hs
   ·rename_i n el ht
    obtain⟨sz,hn,rfl⟩:=Ga.1 hc
    simp only[j8,zh]at hs
    split at hs
    ·rename_i b q hv
     split at hs
     ·rename_i j hj
      split at hs
      ·rename_i i fI
       cases hk:(Gf i 0||Ha i j)with
       |false=>simp[hk]at hs
       |true=>
        simp only[hk,cT]at hs
        obtain rfl:=zt hs
        refine yc m e (q42 e.bU ho ht hn h1 h2 h3 hv hj fI ?_)
        rcases Hd _ _▸hk with hk|hk
        ·exact .inl (En hk)
        ·exact .inr (Hn.mp hk)
      ·cases hs
     ·cases hs
    ·cases hs
   ·cases hc
  ·cases hc
theorem q11 (m:av P C ω w0 C0 hp w)(e:ak C ω w w0.heap.size env a.tmps){t:TypeId}{x i}(ho:o.op=.fieldAddr t x i)(hc:cw P h md r dst (.fieldAddr t x i)=I cq)(hs:j8 p xc h0 al env hp cq=I res):dW P C C0 w0 a d env o w res:=by
 simp only[cw]at hc
 split at hc
 ·rename_i fs ht
  split at hc
  ·rename_i f hf
   split at hc
   ·rename_i ag n x' cK hn h1
    split at hc
    ·rename_i hb
     cases hc
     simp only[Ek,decide_eq_true_eq]at hb
     simp only[j8,zh]at hs
     split at hs
     ·rename_i b q hv
      obtain rfl:=zt hs
      exact yc m e (qq9 (ag:=ag) e.bU ho ht hf hn hb.1 h1 hv (.inl ⟨b,q,rfl,rfl⟩))
     ·rename_i cs hv
      split at hs
      ·rename_i z hz
       cases hk:Bool.xor ag z.isAgg with
       |true=>simp[hk]at hs
       |false=>
        simp only[hk,cond_false]at hs
        obtain rfl:=zt hs
        exact yc m e (qq9 e.bU ho ht hf hn hb.1 h1 hv (.inr ⟨cs,z,rfl,hz,hk,rfl⟩))
      ·cases hs
     ·rename_i b bz q hv
      obtain rfl:=zt hs
      exact yc m e (q0a e.bU ho ht hf hn hb.1 h1 hv)
     ·cases hs
    ·cases hc
   ·cases hc
  ·cases hc
 ·cases hc
theorem jd1 (m:av P C ω w0 C0 hp w)(e:ak C ω w w0.heap.size env a.tmps){t:TypeId}{x i}(ho:o.op=.field t x i)(hc:cw P h md r dst (.field t x i)=I cq)(hs:j8 p xc h0 al env hp cq=I res):dW P C C0 w0 a d env o w res:=by
 simp only[cw]at hc
 split at hc
 ·rename_i fs ht
  split at hc
  ·rename_i f hf
   split at hc
   ·rename_i ag n x' cK hn h1
    cases hc
    simp only[j8,zh]at hs
    split at hs
    ·rename_i cs hv
     obtain⟨z,hz,rfl⟩:=uR hs
     exact yc m e (jd5 e.bU ho ht hf cK hn h1 hv hz)
    ·cases hs
   ·cases hc
  ·cases hc
 ·cases hc
theorem q1i (m:av P C ω w0 C0 hp w)(e:ak C ω w w0.heap.size env a.tmps){t:TypeId}{x i}(ho:o.op=.indexAddr t x i)(hc:cw P h md r dst (.indexAddr t x i)=I cq)(hs:j8 p xc h0 al env hp cq=I res):dW P C C0 w0 a d env o w res:=by
 simp only[cw]at hc
 split at hc
 ·rename_i x' i' h1 h2
  split at hc
  ·rename_i el ht
   split at hc
   ·rename_i sz hn
    split at hc
    ·cases hc
     simp only[j8,zh]at hs
     split at hs
     ·rename_i nl cJ xs iv hv hi
      cases hk:(Gf sz cJ||xs.isEmpty)with
      |false=>simp[hk]at hs
      |true=>
       simp only[hk,cT]at hs
       split at hs
       ·rename_i j hj
        split at hs
        ·rename_i z hz
         obtain rfl:=zt hs
         have bu:xs.isEmpty=Gl:=by
          have:=(Gn.1 hz).1
          cases xs with
          |nil=>simp at this
          |cons _ _=>rfl
         rw[bu,Bool.or_false]at hk
         obtain rfl:=En hk
         exact yc m e (qq1 e.bU ho ht hn h1 h2 hv hi (.inr ⟨nl,xs,z,j,rfl,hj,hz,rfl⟩))
        ·cases hs
       ·cases hs
     ·rename_i b q len iv hv hi
      split at hs
      ·rename_i j hj
       obtain rfl:=zt hs
       exact yc m e (qq1 e.bU ho ht hn h1 h2 hv hi (.inl ⟨b,q,len,j,rfl,hj,rfl⟩))
      ·cases hs
     ·rename_i b bz len iv hv hi
      split at hs
      ·rename_i j hj
       obtain rfl:=zt hs
       exact yc m e (qz3 e.bU ho ht hn h1 h2 hv hi hj)
      ·cases hs
     ·cases hs
    ·cases hc
   ·cases hc
  ·rename_i n el ht
   split at hc
   ·rename_i sz ag hn cK
    split at hc
    ·cases hc
     simp only[j8,zh]at hs
     split at hs
     ·rename_i b q iv hv hi
      split at hs
      ·rename_i j hj
       obtain rfl:=zt hs
       exact yc m e (qr9 (ag:=ag) e.bU ho ht hn h1 h2 hv hi hj (.inl ⟨b,q,rfl,rfl⟩))
      ·cases hs
     ·rename_i cs iv hv hi
      split at hs
      ·rename_i j hj
       split at hs
       ·rename_i z hz
        cases hk:Bool.xor ag z.isAgg with
        |true=>simp[hk]at hs
        |false=>
         simp only[hk,cond_false]at hs
         obtain rfl:=zt hs
         exact yc m e (qr9 e.bU ho ht hn h1 h2 hv hi hj (.inr ⟨cs,z,rfl,hz,hk,rfl⟩))
       ·cases hs
      ·cases hs
     ·cases hs
    ·cases hc
   ·cases hc
  ·cases hc
 ·cases hc
theorem jdu (m:av P C ω w0 C0 hp w)(e:ak C ω w w0.heap.size env a.tmps){t:TypeId}{x i}(ho:o.op=.index t x i)(hc:cw P h md r dst (.index t x i)=I cq)(hs:j8 p xc h0 al env hp cq=I res):dW P C C0 w0 a d env o w res:=by
 simp only[cw]at hc
 split at hc
 ·rename_i x' i' h1 h2
  split at hc
  ·rename_i ht
   cases hc
   simp only[j8,zh]at hs
   split at hs
   ·rename_i s iv hv hi
    split at hs
    ·rename_i j hj
     split at hs
     ·rename_i c dj
      obtain rfl:=zt hs
      exact yc m e (q5d e.bU ho ht h1 h2 hv hi hj dj)
     ·cases hs
    ·cases hs
   ·cases hs
  ·rename_i n el ht
   split at hc
   ·rename_i sz ag hn cK
    cases hc
    simp only[j8,zh]at hs
    split at hs
    ·rename_i cs iv hv hi
     split at hs
     ·rename_i j hj
      obtain⟨z,hz,rfl⟩:=uR hs
      exact yc m e (jck e.bU ho ht cK hn h1 h2 hv hi hj hz)
     ·cases hs
    ·cases hs
   ·cases hc
  ·cases hc
 ·cases hc
theorem q7b (m:av P C ω w0 C0 hp w)(e:ak C ω w w0.heap.size env a.tmps){c}(ho:o.op=.call c)(ox:∀f,c.callee≠.value f)(hc:Aa P h md r dst c=I cq)(hs:j8 p xc h0 al env hp cq=I res):dW P C C0 w0 a d env o w res:=by
 unfold Aa at hc
 split at hc
 ·rename_i f hf;exact absurd hf (ox f)
 ·rename_i dz
  split at hc
  ·rename_i x t dL dY
   split at hc
   ·rename_i ht
    obtain⟨x',hx,rfl⟩:=Ga.1 hc
    simp only[j8,zh]at hs
    split at hs<;>first|(exfalso;omega)|skip
    ·rename_i s _ hv
     obtain rfl:=zt hs
     exact yc m e (T5 e.bU ho dz dL dY hx hv (.inl ⟨ht,s,rfl,rfl⟩))
    ·cases hs
   ·rename_i el ht
    obtain⟨x',hx,rfl⟩:=Ga.1 hc
    simp only[j8,zh]at hs
    split at hs<;>first|(exfalso;omega)|skip
    ·rename_i n sz xs _ hv
     obtain rfl:=zt hs
     exact yc m e (T5 e.bU ho dz dL dY hx hv (.inr ⟨⟨el,ht⟩,.inl ⟨n,sz,xs,rfl,rfl⟩⟩))
    ·rename_i b q n _ hv
     obtain rfl:=zt hs
     exact yc m e (T5 e.bU ho dz dL dY hx hv (.inr ⟨⟨el,ht⟩,.inr ⟨b,q,rfl⟩⟩))
    ·rename_i b bz n _ hv
     obtain rfl:=zt hs
     exact yc m e (ji5 e.bU ho dz dL dY hx hv ht)
    ·cases hs
   ·cases hc
  ·cases hc
 ·rename_i dz
  split at hc
  ·rename_i x t dL dY
   split at hc
   ·rename_i el ht
    obtain⟨x',hx,rfl⟩:=Ga.1 hc
    simp only[j8,zh]at hs
    split at hs<;>first|(exfalso;omega)|skip
    ·rename_i sz xs _ hv
     obtain rfl:=zt hs
     refine yc m e ?_
     have ha:c.args=#[x]:=by apply Ho;simpa using dL
     have kB:c.argTypes=#[t]:=by apply Ho;simpa using dY
     refine⟨.int .i64 0,?_,.int _ _⟩
     have hq:∃b,a.eval x=.slice b 0 0:=by
      rcases(zq e.bU hx hv).cG with⟨_,_,h⟩|⟨h,_⟩|⟨h,_⟩
      ·exact⟨_,h⟩
      ·cases h
      ·cases h
     obtain⟨b,hq⟩:=hq
     simp[execOp,ho,resolve,dz,ha,kB,invoke,builtin,Builtin.cap_,run_underlying ht,hq,goInt]
    ·cases hs
   ·cases hc
  ·cases hc
 ·rename_i dz
  split at hc
  ·rename_i x y t u dL dY
   split at hc
   ·rename_i el ut ht hu
    split at hc
    ·rename_i iZ
     split at hc
     ·rename_i sz b x' y' hn hb h1 h2
      cases hc
      have hzero:∃z,ei P el=I z∧z.length=sz:=by
       have hz:=(Ek _ _▸iZ).2
       rw[hn]at hz
       cases xI:ei P el with
       |none=>simp[xI]at hz
       |some z=>exact⟨z,rfl,by simpa[xI]using hz⟩
      generalize (dst.map (h.vec.contains ·)).getD Gl=bb at hs
      cases bb with
      |true=>
       simp only[if_true,j8,zi]at hs
       split at hs
       ·rename_i Us vy e1 e2
        split at hs
        ·rename_i ys cx
         cases hk:(Gm ys.length 1073741824&&Gm b 4096&&Ha 0 sz&&!ys.isEmpty&&zr 0 ys&&Ha r 1000)with
         |false=>rw[hk]at hs;cases hs
         |true=>
          rw[hk]at hs
          simp only[cT]at hs
          split at hs
          ·rename_i h' cQ
           obtain rfl:=zt hs
           simp only[Ek]at hk iZ
           obtain⟨⟨⟨⟨⟨k1,k2⟩,k3⟩,k4⟩,k5⟩,_⟩:=hk
           exact .inl (jhu m e ho dz dL dY ht hu iZ.1 hn hb h1 h2 e1 e2 cx (Eo k1) (by intro h;rw[h]at k4;cases k4) (Eo k2) k5 hzero cQ)
          ·cases hs
        ·cases hs
       ·rename_i bx bz len vy e1 e2
        split at hs
        ·rename_i cJ de xs gd
         split at hs
         ·rename_i ys cx
          cases hk:(Gf bz de&&Gf sz cJ&&Gm len xs.length&&Gm (len+ys.length) 1073741824&&Gm b 4096&&Ha 0 sz&&zr 0 ys&&Ha r 1000)with
          |false=>rw[hk]at hs;cases hs
          |true=>
           rw[hk]at hs
           simp only[cT]at hs
           split at hs
           ·rename_i h' bn
            obtain rfl:=zt hs
            simp only[Ek]at hk iZ
            obtain⟨⟨⟨⟨⟨⟨⟨k1,k2⟩,k3⟩,k4⟩,k5⟩,k6⟩,k7⟩,_⟩:=hk
            obtain rfl:=En k1
            obtain rfl:=En k2
            exact .inl (jia m e ho dz dL dY ht hu iZ.1 hn hb h1 h2 e1 e2 cx gd (Eo k3) (Eo k4) (Eo k5) k7 hzero bn)
           ·cases hs
         ·cases hs
        ·cases hs
       ·cases hs
      |false=>
      simp only[Gc,if_false]at hs
      generalize hR:(if(Ob (fun x=>h.bH.contains x) dst).getD Gl=Gb then I r else Ge)=R at hs
      cases R with
      |some rr=>
       simp only[j8,zi]at hs
       split at hs
       ·rename_i cJ vy e1 e2
        cases fH:((kn env x').isSome&&Gf sz cJ)with
        |false=>simp[fH]at hs
        |true=>
         simp only[fH,cT]at hs
         split at hs
         ·rename_i ys cx
          cases cV:(Gm ys.length 1073741824&&Gm b 4096&&Ha 0 sz)with
          |false=>simp[cV]at hs
          |true=>
           simp only[cV,cT]at hs
           split at hs
           ·rename_i h' cQ
            cases hs
            simp only[Ek]at cV iZ fH
            obtain⟨⟨k2,k3⟩,k4⟩:=cV
            refine .inl (q1y m e ho dz dL dY ht hu iZ.1 hn hb h1 h2 e1 e2 cx fH.1 rfl (Eo k2) (Eo k3) ?_ (En fH.2) cQ)
            have hz:=iZ.2
            rw[hn]at hz
            cases xI:ei P el with
            |none=>simp[xI]at hz
            |some z=>exact⟨z,rfl,by simpa[xI]using hz⟩
           ·cases hs
         ·cases hs
       ·cases hs
      |none=>
       simp only[j8,zh]at hs
       split at hs
       ·rename_i n cJ xs vy e1 e2
        cases fH:(n||(kn env x').isSome)with
        |false=>simp[fH]at hs
        |true=>
         simp only[fH,cT]at hs
         split at hs
         ·rename_i ys cx
          cases cV:((Gf sz cJ||(xs.isEmpty&&n))&&Gm (xs.length+ys.length) 1073741824&&Gm b 4096&&Ha 0 sz)with
          |false=>simp[cV]at hs
          |true=>
           simp only[cV,cT]at hs
           cases hs
           simp only[Ek]at cV iZ
           obtain⟨⟨⟨k1,k2⟩,k3⟩,k4⟩:=cV
           refine .inl (q8f m e ho dz dL dY ht hu iZ.1 hn hb h1 h2 e1 e2 cx (by simpa using fH) ?_ (Eo k2) (Eo k3) ?_)
           ·rcases Hd _ _▸k1 with k1|k1
            ·exact .inl (En k1)
            ·simp only[Ek,Hk]at k1;exact .inr k1
           ·have hz:=iZ.2
            rw[hn]at hz
            cases xI:ei P el with
            |none=>simp[xI]at hz
            |some z=>exact⟨z,rfl,by simpa[xI]using hz⟩
         ·cases hs
       ·cases hs
     ·cases hc
    ·cases hc
   ·cases hc
  ·cases hc
 ·rename_i dz
  split at hc
  ·rename_i x y t ts dL dY
   split at hc
   ·rename_i el ht
    split at hc
    ·rename_i sz x' y' hn h1 h2
     cases hc
     simp only[j8,zi]at hs
     split at hs
     ·rename_i b q len vy e1 e2
      cases hk:yv h0 al b with
      |false=>simp[hk]at hs
      |true=>
       simp only[hk,cT]at hs
       split at hs
       ·rename_i cs hcs
        split at hs
        ·rename_i n us cx
         split at hs
         ·rename_i dV bO
          cases cV:Gf us.length (n*sz)with
          |false=>simp[cV]at hs
          |true=>
           simp only[cV,cT]at hs
           split at hs
           ·rename_i h' bn
            obtain rfl:=zt hs
            exact .inl (jji m e ho dz dL dY ht hn h1 h2 e1 e2 hcs cx bO (En cV) bn)
           ·cases hs
         ·cases hs
        ·cases hs
       ·cases hs
     ·cases hs
    ·cases hc
   ·cases hc
  ·cases hc
 ·rename_i dz
  split at hc
  ·rename_i x y t ts dL dY
   split at hc
   ·rename_i kt el ht
    split at hc
    ·rename_i kd x' y' gZ h1 h2
     cases hc
     simp only[j8,zi]at hs
     split at hs
     ·rename_i b kv e1 e2
      cases hk:yv h0 al b with
      |false=>simp[hk]at hs
      |true=>
       simp only[hk,cT]at hs
       split at hs
       ·rename_i es hb
        split at hs
        ·rename_i r hf
         split at hs
         ·rename_i h' bn
          obtain rfl:=zt hs
          exact .inl (q9n m e ho dz dL dY ht gZ h1 h2 e1 e2 hb hf bn)
         ·cases hs
        ·cases hs
       ·cases hs
     ·cases hs
    ·cases hc
   ·cases hc
  ·cases hc
 ·rename_i dz
  obtain⟨l,hl,rfl⟩:=Ga.1 hc
  simp only[j8,zh]at hs
  split at hs
  ·rename_i v vs hv
   obtain⟨z,hz,rfl⟩:=uR hs
   exact yc m e (jdz (mx:=true) e.bU ho dz hl hv hz)
  ·cases hs
 ·rename_i dz
  obtain⟨l,hl,rfl⟩:=Ga.1 hc
  simp only[j8,zh]at hs
  split at hs
  ·rename_i v vs hv
   obtain⟨z,hz,rfl⟩:=uR hs
   exact yc m e (jdz (mx:=false) e.bU ho dz hl hv hz)
  ·cases hs
 ·cases hc
end
def aA.cut (C:aA)(n:Nat):aA:={ C with β:=fun b=>if b<n then C.β b else Ge }
theorem aA.eA (C:aA)(n:Nat):(C.cut n).le C where
 k _ _ _ h:=h
 b b r h:=by
  simp only[aA.cut]at h
  split at h
  ·exact h
  ·cases h
 w:=rfl
 d _ h:=h
theorem aA.ig {C C':aA}{n}(h:C.le C')(hn:∀b r,C.β b=I r→b<n):C.le (C'.cut n):=
 ⟨h.1,fun b r hb=>by simp only[aA.cut];rw[if_pos (hn b r hb)];exact h.2 b r hb,h.w,h.d,h.t⟩
section
variable {P:Program}{p:qr}{xc:XC}{C C0:aA}{ω:Nat→Option Loc}{w w0:World}{hp:za}{env:Env}{tmps:Array Value}{B:Nat}
theorem aB.cut {ℓ x v}(n:Nat)(ho:aB C ω w B ℓ x v):aB (C.cut n) ω w B ℓ x v:=by
 unfold aB at *
 split at ho
 ·obtain⟨h1,h2,h3,h4,h5⟩:=ho
  exact⟨h1,h2,fun b hb=>h3 b ((aA.eA C n).2 b _ hb),h4,h5⟩
 ·obtain⟨h1,h2,h3,h4,h5⟩:=ho
  exact⟨h1,h2,fun b hb=>h3 b ((aA.eA C n).2 b _ hb),h4,h5⟩
 ·trivial
theorem bG.cut {x v n}(h:bG C x v)(hb:below n x=Gb):bG (C.cut n) x v:=
 qh.shift (C:=C) (C':=C.cut n) n (fun _ _ _ h=>h) (fun b r bh hb=>by simp only[aA.cut];rw[if_pos bh];exact hb) h hb
theorem Uz {n}:∀ {e:Env} {s:Nat} {x:qa×Bool},mK n e=Gb→yd s e=I x→below n x.1=Gb
 | [],_,_,_,h=>by simp[yd]at h
 |(t,y)::e,s,x,hb,h=>by
  simp only[mK,Ek]at hb
  simp only[yd]at h
  cases lD:Gf t s with
  |true=>simp only[lD,cT,I.injEq]at h;subst h;exact hb.1
  |false=>simp only[lD,cond_false]at h;exact Uz hb.2 h
theorem qq4 {n}:∀ {l:za} {b:Nat} {x:qn},ko n l=Gb→l[b]?=I x→nF n x=Gb
 | [],_,_,_,h=>by simp at h
 |y::l,b,x,hb,h=>by
  simp only[ko,Ek]at hb
  cases b with
  |zero=>simp at h;subst h;exact hb.1
  |succ b=>simp at h;exact qq4 hb.2 h
theorem qob {n}:∀ {l:List (qa×Bool)} {j:Nat} {c:qa×Bool},pi n l=Gb→l[j]?=I c→below n c.1=Gb
 | [],_,_,_,h=>by simp at h
 |(y,o)::l,j,c,hb,h=>by
  simp only[pi,Ek]at hb
  cases j with
  |zero=>simp at h;subst h;exact hb.1
  |succ j=>simp at h;exact qob hb.2 h
theorem qy.cut {n es ms}(hr:qy C es ms):pX n es=Gb→qy (C.cut n) es ms:=by
 induction hr with
 |nil=>exact fun _=>.nil
 |cons k v es m ms hk hv _ ih=>
  intro hb
  simp only[pX,Ek]at hb
  exact .cons k v es m ms (bG.cut hk hb.1.1) (bG.cut hv hb.1.2) (ih hb.2)
theorem bp.cut {b r n x}(h:bp P C ω w B b r x)(hb:nF n x=Gb):bp P (C.cut n) ω w B b r x:=by
 cases x with
 |hole=>exact h
 |cells cs=>
  obtain⟨vs,el,h1,h2,h3⟩:=h
  exact⟨vs,el,h1,h2,fun j c hc=>let ⟨v,a,q,b,d⟩:=h3 j c hc; ⟨v,a,q,bG.cut b (qob hb hc),fun e=>(d e).cut n⟩⟩
 |map es=>obtain⟨bQ,clock,h1,h2⟩:=h;exact⟨bQ,clock,h1,h2.cut hb⟩
 |iter s pos=>exact h
 |loop l=>obtain⟨lp,h1,h2⟩:=h;exact⟨lp,h1,{ h2 with env:=fun s x hx=>let ⟨v,a,b⟩:=h2.env s x hx; ⟨v,a,bG.cut b (Uz hb hx)⟩ }⟩
 |fE t e l=>obtain⟨p,v,h1,h2,h3,h4⟩:=h;exact⟨p,v,h1,h2,h3,h4.cut n⟩
 |dead=>exact h
 |vec sz bz xs=>exact dG.imp (C:=C) (C':=C.cut n) (ω:=ω) (ω':=ω) (B':=B) (fun _ _ _ h=>h) (fun _ h=>h) (fun _ h _=>h) rfl (fun q n' cap k=>⟨rfl,aB.cut (C:=C) n k⟩) h
theorem av.gc (m:av P C ω w0 C0 hp w){n:Nat}(hn:n≤hp.length)(hb:ko n (hp.take n)=Gb)(h0:∀b r,C0.β b=I r→b<n):av P (C.cut n) ω w0 C0 (hp.take n) w where
 base:=m.base
 know:=m.know
 cP:=m.cP
 apart b r o hb:=m.apart b r o ((aA.eA C n).2 b r hb)
 inj b b' r h1 h2:=m.inj b b' r ((aA.eA C n).2 _ _ h1) ((aA.eA C n).2 _ _ h2)
 lt b r h:=by
  have h1:=m.lt b r ((aA.eA C n).2 _ _ h)
  refine⟨h1.1,?_⟩
  simp only[aA.cut]at h
  split at h
  ·rw[G9];omega
  ·cases h
 size:=m.size
 frame:=m.frame
 eQ:=m.eQ
 os:=m.os
 output:=m.output
 fresh b r h:=m.fresh b r ((aA.eA C n).2 _ _ h)
 grown:=aA.ig m.grown h0
 old:=m.old
 box b x r hx hr:=by
  have bh:b<n:=by
   have:=(Gn.1 hx).1
   rw[G9]at this;omega
  have eK:hp[b]?=I x:=by rwa [List.getElem?_take_of_lt bh]at hx
  exact(m.box b x r eK ((aA.eA C n).2 _ _ hr)).cut (qq4 hb hx)
 gW:=m.gW
theorem ak.cut {n}(e:ak C ω w B env tmps)(hb:mK n env=Gb):ak (C.cut n) ω w B env tmps:=
 fun s x hx=>let ⟨v,h1,h2,h3⟩:=e s x hx; ⟨v,h1,bG.cut h2 (Uz hb hx),fun h=>(h3 h).cut n⟩
def j09 (env:Env)(hp:za)(r:jf)(ℓ:Loc)(x:qa×Bool):Prop:=
 (∃s,ℓ=.slot s)∨∃t n b j ow cs,r=.cell t Gl n∧yd t env=I (.ptr b j,ow)∧ℓ=.cell b j∧ym hp b=I cs∧cs[j]?=I x
def UA (C:aA)(ω:Nat→Option Loc)(w:World)(B:Nat)(env:Env)(hp:za)(r:jf)(x:qa×Bool)(v:Value):Prop:=bG C x.1 v∧(x.2=Gb→∃ℓ,aB C ω w B ℓ x.1 v∧j09 env hp r ℓ x)
theorem q3i {B'}(m:av P C ω w0 C0 hp w)(hB:B'=w0.heap.size)(e:ak C ω w B' env tmps){rv r x}(hc:ND P rv=I r)(hr:uG ⟨env,hp⟩ r=I x):
  ∃v,((match rv with | .tmp t=>pure (tmps.getD t undef) | .cell a t=>do loadVar t (←asAddr (tmps.getD a undef)):Sem Value)).run P w=.ok v w∧UA C ω w B' env hp r x v:=by
 subst hB
 cases rv with
 |tmp t=>
  simp only[ND]at hc
  cases hc
  simp only[uG]at hr
  obtain⟨v,h1,h2,h3⟩:=e t x hr
  refine⟨v,?_,h2,fun h=>⟨_,h3 h,.inl ⟨_,rfl⟩⟩⟩
  simp[Hg,h1]
 |cell t ty=>
  simp only[ND]at hc
  have key:∀ {ag:Bool} {n:Nat},fh P ty=I ag→yf P ty=I n→(ag=Gl→n=1)→uG ⟨env,hp⟩ (.cell t ag n)=I x→∃v,((do loadVar ty (←asAddr (tmps.getD t undef)):Sem Value)).run P w=.ok v w∧UA C ω w w0.heap.size env hp (.cell t ag n) x v:=by
   intro ag n hg hn Gr hr
   simp only[uG]at hr
   split at hr
   ·rename_i b q ow hl
    obtain⟨u,h1,h2,_⟩:=e t _ hl
    obtain⟨r,gY,rfl⟩:=h2.cU
    have hu:tmps.getD t undef=.pointer (I ⟨r,q,Ge⟩):=by simp[Hg,h1]
    split at hr
    ·rename_i cs hcs
     have ga:=m.box b _ r (vU hcs) gY
     split at hr
     ·rename_i us gw
      cases ag with
      |true=>
       simp only[cT,I.injEq]at hr
       subst hr
       obtain⟨vs,k1,_,k2,k3,_⟩:=ga.read gw
       refine⟨.agg ⟨vs⟩,?_,.agg _ _ k1,by simp⟩
       simp[hu,asAddr,Gp hg hn k2 k3]
      |false=>
       simp only[cond_false]at hr
       split at hr
       ·rename_i c hc
        cases hr
        obtain⟨vs,te,g1,g2,g3⟩:=ga
        obtain⟨v,a1,a2,a3,a4⟩:=g3 q _ hc
        have dE:w.cell? ⟨r,q,Ge⟩=I v:=by
         simp only[World.cell?,g1]
         simpa using a1
        refine⟨v,?_,a3,fun h=>⟨_,a4 h,.inr ⟨_,_,_,_,_,_,rfl,hl,rfl,hcs,hc⟩⟩⟩
        simp[hu,asAddr,Gq hg dE]
       ·cases hr
     ·cases hr
    ·cases hr
   ·cases hr
  split at hc
  ·rename_i n hg hn;cases hc;exact key hg hn (by simp) hr
  ·rename_i hg hn;cases hc;exact key hg hn (fun _=>rfl) hr
  ·cases hc
inductive jo (P:Program)(C:aA)(ω:Nat→Option Loc)(w:World)(B:Nat)(env:Env)(hp:za):List jf→List (qa×Bool)→List Value→Prop where
 |nil:jo P C ω w B env hp [] [] []
 |cons {r:jf} {x:qa×Bool} {v:Value} {rs:List jf} {xs:List (qa×Bool)} {vs:List Value} (h:UA C ω w B env hp r x v) (t:jo P C ω w B env hp rs xs vs):jo P C ω w B env hp (r::rs) (x::xs) (v::vs)
theorem jo.bU {rs xs vs}(h:jo P C ω w B env hp rs xs vs):aK C (xs.map (·.1)) vs:=by
 induction h with
 |nil=>exact .nil
 |cons h _ ih=>exact .cons _ _ _ _ h.1 ih
theorem qq5 {B'}(m:av P C ω w0 C0 hp w)(hB:B'=w0.heap.size)(e:ak C ω w B' env tmps):∀ {l:List ResultVar} {rs:List jf} {xs:List (qa×Bool)},Ad P l=I rs→lx ⟨env,hp⟩ rs=I xs →
  ∃vs,(l.mapM fun(rv:ResultVar)=>(match rv with | .tmp t=>pure (tmps.getD t undef) | .cell a t=>do loadVar t (←asAddr (tmps.getD a undef)):Sem Value)).run P w=.ok vs w∧jo P C ω w B' env hp rs xs vs
 | [],rs,xs,hc,hr=>by
  simp[Ad]at hc;subst hc
  simp[lx]at hr;subst hr
  exact⟨[],rfl,.nil⟩
 |rv::l,rs,xs,hc,hr=>by
  simp only[Ad]at hc
  split at hc
  ·rename_i r Eh h1 h2
   cases hc
   simp only[lx]at hr
   split at hr
   ·rename_i x hx
    split at hr
    ·rename_i ys mQ
     cases hr
     obtain⟨v,k1,k2⟩:=q3i m hB e h1 hx
     obtain⟨vs,j1,j2⟩:=qq5 m hB e h2 mQ
     refine⟨v::vs,?_,.cons k2 j2⟩
     simp only[List.mapM_cons,Sem.run_bind,k1,Result.andThen_ok,j1,Sem.run_pure]
    ·cases hr
   ·cases hr
  ·cases hc
def Et:List Value→Value
 | [v]=>v
 |vs=>.tuple ⟨vs⟩
theorem qyi (m:av P C ω w0 C0 hp w){ω' b j v ow cs}(lg:ym hp b=I cs)(hc:cs[j]?=I (v,ow))(hω:∀b' j' y u,(b'≠b∨j'≠j)→aB C ω w w0.heap.size (.cell b' j') y u→aB C ω' w w0.heap.size (.cell b' j') y u):
  av P C ω' w0 C0 (hp.set b (.cells (cs.set j (v,Gl)))) w:=by
 by_cases hb:∃r,C.β b=I r
 ·obtain⟨r,hr⟩:=hb
  obtain⟨vs,te,hg,cB,hold⟩:=m.box b _ r (vU lg) hr
  obtain⟨cv,k1,k2,k3,k4⟩:=hold j _ hc
  have hu:jk w w r:=⟨rfl,fun _ _=>rfl,fun c t fr h=>by rw[hg]at h;cases h;rfl,rfl,rfl⟩
  refine m.dv hu hr _ (fun b' j' y u eL hz=>hω b' j' y u (.inl eL) hz) ⟨vs,te,hg,by simpa using cB,fun i c hi=>?_⟩
  rw[List.getElem?_set]at hi
  split at hi
  ·rename_i pw
   subst pw
   split at hi
   ·cases hi;exact⟨cv,k1,k2,k3,by simp⟩
   ·cases hi
  ·rename_i pw
   obtain⟨u,a1,a2,a3,a4⟩:=hold i c hi
   exact⟨u,a1,a2,a3,fun h=>hω b i _ _ (.inr (Ne.symm pw)) (a4 h)⟩
 ·refine { m with lt:=fun k r hk=>by rw[Hl];exact m.lt k r hk,box:=fun k x r hx hk=>?_ }
  have kD:k≠b:=fun h=>hb ⟨r,h▸hk⟩
  rw[Hc (Ne.symm kD)]at hx
  exact(m.box k x r hx hk).mono (aA.le_refl C) fun j' y u ho=>hω k j' y u (.inl kD) ho
theorem jif (m:av P C ω w0 C0 hp w){rs xs vs}(h:jo P C ω w w0.heap.size env hp rs xs vs):
  ∃ω',av P C ω' w0 C0 (la ⟨env,hp⟩ rs) w∧bG C (yt xs).1 (Et vs)∧((yt xs).2=Gb→aB C ω' w w0.heap.size (.slot 0) (yt xs).1 (Et vs)):=by
 have same:∃ω',av P C ω' w0 C0 hp w:=⟨ω,m⟩
 cases h with
 |nil=>exact⟨ω,m,by simpa[yt,Et]using qh.ay _ _ (qh.nil),by simp[yt]⟩
 |cons hx ht=>
  cases ht with
  |cons hy ht=>
   have:=(jo.cons hx (jo.cons hy ht)).bU
   exact⟨ω,by simpa[la]using m,by simpa[yt,Et]using qh.ay _ _ this,by simp[yt]⟩
  |nil=>
   rename_i r x v
   obtain⟨h1,h2⟩:=hx
   simp only[yt]
   -- without the flag
   have plain:av P C ω w0 C0 (la ⟨env,hp⟩ [r]) w:=by
    unfold la
    split
    ·split
     ·split
      ·rename_i cs hcs
       split
       ·rename_i u hu
        exact qyi m hcs hu (fun _ _ _ _ _ h=>h)
       ·exact m
      ·exact m
     ·exact m
    ·exact m
   by_cases hk:x.2=Gb
   ·have fH:=hk
    obtain⟨ℓ,h3,h4⟩:=h2 fH
    refine⟨uO ω x.1 v (.slot 0),?_,h1,fun _=>NU h3⟩
    rcases h4 with⟨s,rfl⟩|⟨t,n,b,j,ow,cs,rfl,g1,rfl,g2,g3⟩
    ·exact { plain with box:=fun b x r hx hb=>(plain.box b x r hx hb).mono (aA.le_refl C) fun j y u hz=>xE h3 (by simp) hz }
    ·obtain⟨xv,xo⟩:=x
     simp only at fH
     subst fH
     have:la ⟨env,hp⟩ [.cell t Gl n]=hp.set b (.cells (cs.set j (xv,Gl))):=by
      simp only[la,g1,g2,g3]
     rw[this]
     exact qyi m g2 g3 fun b' j' y u bu hz=>xE h3 (by
      rcases bu with bu|bu
      ·simp[bu]
      ·simp[bu]) hz
   ·exact⟨ω,plain,h1,fun h=>absurd h hk⟩
theorem q6e {fn}(m:av P C ω w0 C0 hp w)(e:ak C ω w w0.heap.size env tmps){rs xs}(hc:Ad P fn.results.toList=I rs)(hr:lx ⟨env,hp⟩ rs=I xs):
  ∃v ω',(results fn tmps).run P w=.ok v w∧av P C ω' w0 C0 (la ⟨env,hp⟩ rs) w∧bG C (yt xs).1 v∧((yt xs).2=Gb→aB C ω' w w0.heap.size (.slot 0) (yt xs).1 v):=by
 obtain⟨vs,h1,h2⟩:=qq5 m rfl e hc hr
 have lA:(fn.results.mapM fun(rv:ResultVar)=>(match rv with | .tmp t=>pure (tmps.getD t undef) | .cell a t=>do loadVar t (←asAddr (tmps.getD a undef)):Sem Value)).run P w=.ok vs.toArray w:=by
  rw[Array.mapM_eq_mapM_toList]
  simp only[Sem.run_map]
  rw[h1]
  rfl
 have bq:(results fn tmps).run P w=.ok (if h:vs.toArray.size=1 then vs.toArray[0]else .tuple vs.toArray) w:=by
  unfold results
  rw[Sem.run_bind]
  exact congrArg (fun z=>Result.andThen z fun(a:Array Value) w'=>Sem.run P (pure (if h:a.size=1 then a[0]else Value.tuple a)) w') lA
 have hval:(if h:vs.toArray.size=1 then vs.toArray[0]else .tuple vs.toArray)=(Et vs):=by
  match vs with
  | []=>rfl
  | [v]=>rfl
  |v::u::vs=>simp[Et]
 rw[hval]at bq
 obtain⟨ω',q1,q2,q3⟩:=jif m h2
 exact⟨_,ω',bq,q1,q2,q3⟩
end
section
variable {P:Program}{C C0:aA}{ω:Nat→Option Loc}{w w0:World}{hp:za}
def qS (C:aA)(hp:za)(r:Nat):Prop:=∃b sz bz xs r0 cap,hp[b]?=I (.vec sz bz xs)∧C.β b=I r0∧C.T (r0,bz,r,cap)
def Hid (C:aA)(hp:za)(r:Nat):Prop:=(∃b,C.β b=I r)∨qS C hp r
theorem qS.is (m:av P C ω w0 C0 hp w){r}(h:qS C hp r):(∃b,C.β b=I r)∨∃b sz bz xs n cap,hp[b]?=I (.vec sz bz xs)∧xw C ω w w0.heap.size b r n cap:=by
 obtain⟨b,sz,bz,xs,r0,cap,h1,h2,h3⟩:=h
 obtain⟨q,kF,k1,k2,k3,k4,_⟩:=m.box b _ r0 h1 h2
 have:=(k2 _ h3 rfl).2 rfl
 simp only[Prod.mk.injEq]at this
 obtain⟨rfl,rfl⟩:=this
 rcases k4 with rfl|k4
 ·exact .inl ⟨b,h2⟩
 ·exact .inr ⟨b,sz,bz,xs,_,_,h1,k4⟩
theorem UB (m:av P C ω w0 C0 hp w){r}(h:Hid C hp r)(o:Nat):C.K r o=Ge:=by
 rcases h with⟨b,hb⟩|h
 ·exact m.apart b r o hb
 ·rcases h.is m with⟨b,hb⟩|⟨b,sz,bz,xs,n,cap,_,h2⟩
  ·exact m.apart b r o hb
  ·exact h2.2.2.2.2.2.2 o (by simp)
theorem jcf {K}(hW:C.W=fun _=>False)(m:av P C ω w0 (.bL K) hp w){r}(h:Hid C hp r):w0.heap.size≤r:=by
 have key:∀b,C.β b=I r→w0.heap.size≤r:=fun b hb=>by
  rcases m.fresh b r hb with h|h|h
  ·cases h
  ·exact h
  ·exact h.elim
 rcases h with⟨b,hb⟩|h
 ·exact key b hb
 ·rcases h.is m with⟨b,hb⟩|⟨b,sz,bz,xs,n,cap,_,h2⟩
  ·exact key b hb
  ·rcases h2.2.1 with h|h
   ·exact h
   ·rw[hW]at h;exact h.elim
theorem jqv (m:av P C ω w0 C0 hp w){r}(h:Hid C hp r):r<w.heap.size:=by
 rcases h with⟨b,hb⟩|h
 ·exact(m.lt b r hb).1
 ·rcases h.is m with⟨b,hb⟩|⟨b,sz,bz,xs,n,cap,_,h2⟩
  ·exact(m.lt b r hb).1
  ·obtain⟨_,_,_,_,_,⟨cells,elem,h5,_⟩,_⟩:=h2
   exact(Ep.1 h5).1
open Classical in
noncomputable def kq (C:aA)(hp:za)(w:World):Nat→Nat→Option Value:=fun r o=>if Hid C hp r then(w.cell? ⟨r,o,Ge⟩).filter (·.oneCell')else C.K r o
theorem GM (m:av P C ω w0 C0 hp w){r o x}(h:C.K r o=I x):kq C hp w r o=I x:=by
 unfold kq
 rw[if_neg]
 ·exact h
 ·intro hh
  rw[UB m hh o]at h;cases h
theorem N0 (m:av P C ω w0 C0 hp w){r o x}(h:kq C hp w r o=I x):w.cell? ⟨r,o,Ge⟩=I x∧x.oneCell'=Gb:=by
 unfold kq at h
 split at h
 ·rw[Option.filter_eq_some_iff]at h;exact h
 ·exact⟨m.know r o x h,m.cP r o x h⟩
theorem quq {r o x}(hb:Hid C hp r)(hc:w.cell? ⟨r,o,Ge⟩=I x)(h1:x.oneCell'=Gb):kq C hp w r o=I x:=by
 unfold kq
 rw[if_pos hb,hc]
 simp[h1]
theorem UC {b r o x}(hb:C.β b=I r)(hc:w.cell? ⟨r,o,Ge⟩=I x)(h1:x.oneCell'=Gb):kq C hp w r o=I x:=
 quq (.inl ⟨b,hb⟩) hc h1
theorem UD (m:av P C ω w0 C0 hp w){x v}(h:bG C x v)(hb:below 0 x=Gb):bG (.bL (kq C hp w)) x v:=
 qh.shift (C:=C) (C':=.bL (kq C hp w)) 0 (fun _ _ _ h=>GM m h) (fun b r bh=>by omega) h hb
theorem qur {x v}(h:bG C x v)(h1:v.oneCell'=Gb):x.isAgg=Gl:=by
 cases h<;>first|rfl|(simp[Value.oneCell']at h1)
theorem UE {C r}:∀ {ys:List qa} {o:Nat},(∀j x,ys[j]?=I x→∃v,C.K r (o+j)=I v∧bG C x v)→bZ C r ys o
 | [],o,_=>.gJ _ _
 |x::ys,o,h=>by
  obtain⟨v,h1,h2⟩:=h 0 x rfl
  refine .df _ _ _ _ v (by simpa using h1) h2 (UE fun j y hy=>?_)
  obtain⟨v,k1,k2⟩:=h (j+1) y (by simpa using hy)
  exact⟨v,by rw[show o+1+j=o+(j+1) by omega];exact k1,k2⟩
theorem UF {C r sz}(hz:0<sz):∀ {n:Nat} {xs:List qa} {o:Nat},xs.length=n*sz→(∀x∈xs,x.isAgg=Gl)→(∀j x,xs[j]?=I x→∃v,C.K r (o+j)=I v∧bG C x v)→bg C r sz (l6 sz n xs) o
 |0,xs,o,_,_,_=>.fj _ _ _
 |n+1,xs,o,hl,hp,h=>by
  rw[Nat.succ_mul]at hl
  have hf:(bif Gf sz 1 then xs.headD .undef else qa.agg (xs.take sz)).flat=xs.take sz:=by
   cases hb:Gf sz 1 with
   |false=>rfl
   |true=>
    have:=En hb
    subst this
    match xs,hl with
    |x::xs,_=>simp only[cT,List.headD_cons];rw[qcb (hp x (List.mem_cons_self ..))];rfl
  refine .cY _ _ _ _ _ ?_ ?_ (UF hz ?_ (fun x hx=>hp x (List.mem_of_mem_drop hx)) fun j x hx=>?_)
  ·rw[hf,G9];omega
  ·rw[hf]
   refine UE fun j x hx=>h j x ?_
   rw[List.getElem?_take]at hx
   split at hx
   ·exact hx
   ·cases hx
  ·rw[Hu];omega
  ·rw[List.getElem?_drop]at hx
   obtain⟨v,k1,k2⟩:=h _ x hx
   exact⟨v,by rw[Nat.add_assoc];exact k1,k2⟩
theorem GN {sz}:∀ {n:Nat} {xs:List qa},(l6 sz n xs).length=n
 |0,_=>rfl
 |n+1,xs=>by simp only[l6,List.length_cons];rw[GN]
theorem qs9 {sz}(hz:1<sz):∀ {n:Nat} {xs:List qa},xs.length=n*sz→zr 0 (l6 sz n xs)=Gb→∀x∈xs,below 0 x=Gb
 |0,xs,hl,_=>by
  rw[Nat.zero_mul]at hl
  rw[List.length_eq_zero_iff.1 hl]
  intro x hx;cases hx
 |n+1,xs,hl,h=>by
  have hb:Gf sz 1=Gl:=by
   cases hc:Gf sz 1 with
   |false=>rfl
   |true=>have:=En hc;omega
  simp only[l6,hb,cond_false,zr,below,Ek]at h
  have ih:=qs9 hz (n:=n) (xs:=xs.drop sz) (by rw[Hu,hl,Nat.succ_mul];omega) h.2
  have ht:∀(ys:List qa),zr 0 ys=Gb→∀x∈ys,below 0 x=Gb:=by
   intro ys
   induction ys with
   |nil=>intro _ x hx;cases hx
   |cons y ys ih=>
    intro hh x hx
    simp only[zr,Ek]at hh
    rcases Hx.1 hx with rfl|hx
    ·exact hh.1
    ·exact ih hh.2 x hx
  intro x hx
  rw[←List.take_append_drop sz xs]at hx
  rcases List.mem_append.1 hx with hx|hx
  ·exact ht _ h.1 x hx
  ·exact ih x hx
theorem UG (m:av P C ω w0 C0 hp w){x x' v}(hf:iH hp x=I x')(h:bG C x v)(hb:below 0 x'=Gb):bG (.bL (kq C hp w)) x' v:=by
 unfold iH at hf
 split at hf
 ·rename_i b off len
  split at hf
  ·rename_i cs hcs
   cases cL:Eb off len cs with
   |true=>
    rw[cL]at hf
    simp only[cT,I.injEq]at hf
    subst hf
    simp only[Eb,Ek]at cL
    obtain⟨⟨⟨r0,r1⟩,r2⟩,_⟩:=cL
    have r0:=En r0
    have r2:=En r2
    have r1:1<cs.length / len:=by simpa using r1
    subst r0
    obtain⟨r,cap,gY,hle,rfl⟩:=h.eu
    obtain⟨vs,elem,k1,k2,k3⟩:=m.box b _ r (vU hcs) gY
    have iY:zr 0 (l6 (cs.length / len) len (cs.map (·.1)))=Gb:=by simpa[below]using hb
    have UH:=qs9 r1 (by rw[Hm];exact r2.symm) iY
    have hrr:bg (.bL (kq C hp w)) r (cs.length / len) (l6 (cs.length / len) len (cs.map (·.1))) 0:=by
     refine UF (by omega) (by rw[Hm];exact r2.symm) (fun x hx=>?_) fun j x hx=>?_
     ·obtain⟨j,hj⟩:=List.getElem?_of_mem hx
      rw[Hb,Ga]at hj
      obtain⟨c,hc,rfl⟩:=hj
      obtain⟨u,q1,q2,q3,_⟩:=k3 j c hc
      exact qur q3 q2
     ·have cR:=Gk hx
      rw[Hb,Ga]at hx
      obtain⟨c,hc,rfl⟩:=hx
      obtain⟨u,q1,q2,q3,_⟩:=k3 j c hc
      have dE:w.cell? ⟨r,0+j,Ge⟩=I u:=by
       unfold World.cell?
       rw[k1]
       simp only[Gw,Gc,if_false,Hf]
       exact q1
      exact⟨u,UC gY dE q2,UD m q3 (UH _ cR)⟩
    have:=qh.list (C:=.bL (kq C hp w)) (cs.length / len) (l6 (cs.length / len) len (cs.map (·.1))) r 0 cap (by rw[GN];exact hle) hrr
    rw[GN]at this
    exact this
   |false=>
   rw[cL]at hf
   simp only[cond_false]at hf
   split at hf
   ·rename_i us gw
    cases hf
    obtain⟨r,cap,gY,hle,rfl⟩:=h.eu
    obtain⟨vs,k1,k0,k2,k3,k4⟩:=(m.box b _ r (vU hcs) gY).read gw
    have iY:zr 0 us=Gb:=by simpa[below]using hb
    have fJ:aK (.bL (kq C hp w)) us vs:=qh.shift (C:=C) (C':=.bL (kq C hp w)) 0 (fun _ _ _ h=>GM m h) (fun b r bh=>by omega) k1 iY
    have jP:∀(us:List qa) (vs:List Value),aK C us vs→(∀v∈vs,v.oneCell'=Gb)→us.flatMap qa.flat=us∧∀u∈us,u.flat.length=1:=by
     intro us
     induction us with
     |nil=>intro _ _ _;exact⟨rfl,by simp⟩
     |cons u us ih=>
      intro vs h h1
      cases h with
      |cons _ _ v vs hx h=>
       obtain⟨i1,i2⟩:=ih vs h (fun v hv=>h1 v (by simp[hv]))
       have xB:=qur hx (h1 v (by simp))
       rw[Ht,qcb xB,i1]
       refine⟨rfl,fun u' nS=>?_⟩
       rcases Hx.1 nS with rfl|nS
       ·rw[qcb xB];rfl
       ·exact i2 u' nS
    obtain⟨f1,f2⟩:=jP us vs k1 k4
    have hcells:bZ (.bL (kq C hp w)) r (us.flatMap qa.flat) off:=by
     rw[f1]
     exact bZ.gX fJ fun j u hj=>UC gY (k3 j u hj) (k4 u (Gk hj))
    have hl:us.length=len:=k0
    have:=qh.list (C:=.bL (kq C hp w)) 1 us r off cap (by omega) (bg.eo hcells f2)
    rw[hl]at this
    exact this
   ·cases hf
  ·cases hf
 ·rename_i b bz len
  split at hf
  ·rename_i sz de xs gd
   cases hk:(Gf bz de&&Gm len xs.length)with
   |false=>rw[hk]at hf;cases hf
   |true=>
    rw[hk]at hf
    simp only[cT,I.injEq]at hf
    subst hf
    simp only[Ek]at hk
    obtain rfl:=En hk.1
    have hlen:=Eo hk.2
    cases h with
    |au _ _ _ r0 q cap hβ hT hl=>
     obtain⟨q',kF,k1,k2,k3,k4,_⟩:=m.box b _ r0 gd hβ
     have heq:=(k2 _ hT rfl).2 rfl
     simp only[Prod.mk.injEq]at heq
     obtain⟨rfl,rfl⟩:=heq
     obtain⟨cells,t,vs,g1,g2,g3,g4,g5,g6,g7⟩:=k3
     have UI:Hid C hp q:=.inr ⟨b,sz,bz,xs,r0,cap,gd,hβ,hT⟩
     have hall:bZ (.bL (kq C hp w)) q (xs.flatMap qa.flat) 0:=by
      refine bZ.gX (qh.imp (C:=.bL C.K) (C':=.bL (kq C hp w)) ⟨fun _ _ _ h=>GM m h,fun _ _ h=>h⟩ g5) fun j u hj=>?_
      refine quq UI ?_ (g7 u (Gk hj))
      unfold World.cell?
      rw[g1]
      simp only[Gw,Gc,if_false,Hf]
      exact g6 j u hj
     have cL:bg (.bL (kq C hp w)) q sz xs 0:=bg.eo hall g4
     have:=qh.list (C:=.bL (kq C hp w)) sz (xs.take len) q 0 cap (by rw[G9];omega) (cL.take len)
     rw[G9,Nat.min_eq_left hlen]at this
     exact this
  ·cases hf
 ·cases hf
  exact UD m h hb
theorem UJ (m:av P C ω w0 C0 hp w):∀ {xs fA:List qa} {vs:List Value},lu hp xs=I fA→aK C xs vs→zr 0 fA=Gb→aK (.bL (kq C hp w)) fA vs
 | [],fA,vs,hf,h,_=>by
  simp only[lu,I.injEq]at hf
  subst hf
  cases h
  exact .nil
 |x::xs,fA,vs,hf,h,hb=>by
  simp only[lu]at hf
  split at hf
  ·rename_i y hy
   split at hf
   ·rename_i ys mQ
    cases hf
    simp only[zr,Ek]at hb
    cases h with
    |cons _ _ v vs hx h=>exact .cons _ _ _ _ (UG m hy hx hb.1) (UJ m mQ h hb.2)
   ·cases hf
  ·cases hf
theorem UK (m:av P C ω w0 C0 hp w):∀ {xs fA:List qa} {vs:List Value},az.bm hp xs=I fA→aK C xs vs→zr 0 fA=Gb→aK (.bL (kq C hp w)) fA vs
 | [],fA,vs,hf,h,_=>by
  simp only[az.bm,I.injEq]at hf
  subst hf
  cases h
  exact .nil
 |x::xs,fA,vs,hf,h,hb=>by
  cases h with
  |cons _ _ v vs hx h=>
   unfold az.bm at hf
   split at hf
   ·cases ‹_::_=[]›
   ·rename_i cs qP heq
    cases heq
    split at hf
    ·rename_i y hy
     split at hf
     ·rename_i ys mQ
      cases hf
      simp only[zr,below,Ek]at hb
      obtain⟨us,rfl,hu⟩:=bG.dX hx
      exact .cons _ _ _ _ (.agg _ _ (UJ m hy hu hb.1)) (UK m mQ h hb.2)
     ·cases hf
    ·cases hf
   ·rename_i heq
    cases heq
    split at hf
    ·rename_i y hy
     split at hf
     ·rename_i ys mQ
      cases hf
      simp only[zr,Ek]at hb
      exact .cons _ _ _ _ (UG m hy hx hb.1) (UK m mQ h hb.2)
     ·cases hf
    ·cases hf
theorem q6x (m:av P C ω w0 C0 hp w){x x' v}(hf:az hp x=I x')(h:bG C x v)(hb:below 0 x'=Gb):bG (.bL (kq C hp w)) x' v:=by
 unfold az at hf
 split at hf
 ·split at hf
  ·rename_i ys mQ
   cases hf
   obtain⟨us,rfl,hu⟩:=h.dX
   exact .agg _ _ (UJ m mQ hu (by simpa[below]using hb))
  ·cases hf
 ·split at hf
  ·rename_i ys mQ
   cases hf
   cases h with
   |ay _ vs hu=>exact .ay _ _ (UK m mQ hu (by simpa[below]using hb))
  ·cases hf
 ·exact UG m hf h hb
end
def Az:qi→Exit
 | .normal=>.normal
 | .exit id=>.exit id
 | .ret=>.ret
def iM (ρ:Option Nat):Fence:={ Fence.wide with round:=ρ }
theorem qw1 {ρ n P f args w R}:CallsIn (iM ρ) n P f args w R↔CallsIn Fence.wide n P f args w R:=Iff.rfl
def Marks (C:aA)(B:Nat)(ds:List Deferred):Prop:=∃rs:List Nat,ds=rs.map (fun r=>{ target:=.collected r,args:=#[] })∧rs.Nodup∧∀r∈rs,C.D r∧B≤r
theorem Marks.mono {C C' B ds}(h:Marks C B ds)(hle:C.le C'):Marks C' B ds:=
 let ⟨rs,h1,h2,h3⟩:=h; ⟨rs,h1,h2,fun r hr=>⟨hle.d r (h3 r hr).1,(h3 r hr).2⟩⟩
theorem Marks.nil {C B}:Marks C B []:=⟨[],rfl,List.nodup_nil,by simp⟩
def cg (P:Program)(xc:XC):Prop:=
 ∀(ρ:Option Nat) (nt:Nat) (c:Code) (ca:qe) (st bF:qg) (x:qi),F9 P nt c ca→(ρ≠Ge→kx ca=Gb)→xc ca st=I (x,bF) →
  ∀(C:aA) (ω:Nat→Option Loc) (w0:World) (C0:aA) (a:Act) (w:World),av P C ω w0 C0 st.heap w→ak C ω w w0.heap.size st.env a.tmps→a.tmps.size=nt→Marks C w0.heap.size a.defers →
   c.wpIn (iM ρ) 0 P (fun e a' w'=>e=Az x∧a'.tmps.size=nt∧∃C' ω',C.le C'∧Marks C' w0.heap.size a'.defers∧av P C' ω' w0 C0 bF.heap w'∧ak C' ω' w' w0.heap.size bF.env a'.tmps) a w
def IsoCall (P:Program)(k:Nat)(args:List qa)(v:qa)(ow:Bool):Prop:=
 ∀(K:Nat→Nat→Option Value) (w:World) (vs:List Value),Tabs P w →
  (∀r o u,K r o=I u→w.cell? ⟨r,o,Ge⟩=I u)→(∀r o u,K r o=I u→u.oneCell'=Gb)→aK (.bL K) args vs →
  CallsIn Fence.wide 0 P k ⟨vs⟩ w fun e w'=>∃u K',e=.returned u∧Ext w w'∧(∀r o x,K r o=I x→K' r o=I x)∧(∀r o,r<w.heap.size→K' r o=K r o) ∧
   (∀r o x,K' r o=I x→w'.cell? ⟨r,o,Ge⟩=I x)∧(∀r o x,K' r o=I x→x.oneCell'=Gb)∧bG (.bL K') v u ∧
   (ow=Gb→∃ℓ ω',aB (.bL K') ω' w' w.heap.size ℓ v u)
def Enters (P : Program) (k : Nat) : Prop := ∃ fn, P.funcs[k]? = I fn ∧ fn.name ≠ "runtime.NumGoroutine" ∧ fn.body.isSome
def AA (P:Program)(k:Nat)(args:List qa)(h:za)(v:qa)(ow:Bool)(h':za):Prop:=
 ∀(C:aA) (ω:Nat→Option Loc) (w:World) (vs:List Value),aK C args vs→av P C ω w C h w →
  CallsIn Fence.wide 0 P k ⟨vs⟩ w fun e w'=>∃u C' ω',e=.returned u∧C.le C'∧av P C' ω' w C h' w'∧bG C' v u∧(ow=Gb→aB C' ω' w' w.heap.size (.slot 0) v u)
def UL (P:Program)(k:Nat)(es:List (qa×qa)):Prop:=
 ∀(K:Nat→Nat→Option Value) (w:World),Tabs P w →
  (∀r o u,K r o=I u→w.cell? ⟨r,o,Ge⟩=I u)→(∀r o u,K r o=I u→u.oneCell'=Gb) →
  CallsIn Fence.wide 0 P k ⟨[]⟩ w fun e w'=>∃q K' bQ clock,e=.returned (.map (I q))∧Ext w w'∧(∀r o x,K r o=I x→K' r o=I x)∧(∀r o,r<w.heap.size→K' r o=K r o) ∧
   (∀r o x,K' r o=I x→w'.cell? ⟨r,o,Ge⟩=I x)∧(∀r o x,K' r o=I x→x.oneCell'=Gb)∧w.heap.size≤q∧w'.heap[q]?=I (.map bQ clock)∧qy (.bL K') es bQ.toList
structure qw (P:Program)(p:qr):Prop where
 fn:∀k f,p.bB k=I f→∃fn h,P.funcs[k]?=I fn∧F8 P h fn=I f
 gF:∀k f,p.cn k=I f→Enters P k∧∀args v o,f args=I (v,o)→l5 v=Gb→zr 0 args=Gb→IsoCall P k args v o
 mixed:P.follows .mixedOrders=Gb
 fD:∀k f,p.dk k=I f→Enters P k∧∀args h v o h',f args h=I (v,o,h')→AA P k args h v o h':=by intro k f h;cases h
 maps:∀k es,p.maps k=I es→Enters P k∧UL P k es:=by intro k f h;cases h
theorem UM {P h fn f} (hc : F8 P h fn = I f) : ∃ c, fn.body = I c ∧ gu P h fn.ntmps c = I f.body ∧ Ad P fn.results.toList = I f.results ∧ f.ntmps = fn.ntmps ∧ fn.name ≠ "runtime.NumGoroutine" := by
 unfold F8 at hc
 split at hc
 ·rename_i c hb
  split at hc
  ·rename_i b rs h1 h2
   split at hc
   ·cases hc
   ·rename_i hn
    cases hc
    exact⟨c,hb,h1,h2,rfl,by simpa using hn⟩
  ·cases hc
 ·cases hc
theorem qw.enters {P p}(h:qw P p){k f}(hf:p.bB k=I f):Enters P k:=by
 obtain⟨fn,hh,h1,h2⟩:=h.fn k f hf
 obtain⟨c,hb,_,_,_,hn⟩:=UM h2
 exact⟨fn,h1,hn,by simp[hb]⟩
theorem qr6 {P k}(h:Enters P k)(args:Array Value)(w:World):(callFunc k args).run P w=.ok (.enter k args) w:=by
 obtain⟨fn,h1,h2,h3⟩:=h
 simp[callFunc,h1,h2,Option.isNone_iff_eq_none,Option.isSome_iff_ne_none.1 h3]
section
variable {P:Program}{p:qr}{xc:XC}{C C0:aA}{ω:Nat→Option Loc}{w w0:World}{hp:za}{env:Env}{tmps:Array Value}{B:Nat}{a:Act}{o:Oper}{d:Loc}
theorem qux:∀ {args:List qa} {i s:Nat} {x:qa×Bool},yd s (ot i args)=I x→∃j,s=i+j∧args[j]?=I x.1∧x.2=Gl
 | [],_,_,_,h=>by simp[ot,yd]at h
 |v::args,i,s,x,h=>by
  simp only[ot,yd]at h
  cases hb:Gf i s with
  |true=>
   simp only[hb,cT,I.injEq]at h
   subst h
   exact⟨0,(En hb).symm,rfl,rfl⟩
  |false=>
   simp only[hb,cond_false]at h
   obtain⟨j,h1,h2,h3⟩:=qux h
   exact⟨j+1,by omega,by simpa using h2,h3⟩
theorem ja7 {r o v}(h:w.cell? ⟨r,o,Ge⟩=I v):∃cs t fr,w.heap[r]?=I (.cells cs t fr):=by
 unfold World.cell? at h
 split at h
 ·rename_i cs t fr hg;exact⟨cs,t,fr,hg⟩
 ·cases h
theorem av.other {D'}(m:av P C ω w0 C0 hp w){r w'}(hu:jk w w' r)(hβ:∀b,C.β b≠I r)(hr:w0.heap.size≤r)(lh:∀cs t fr,w.heap[r]?≠I (.cells cs t fr))(hD:∀k,D' k→C.D k∧k≠r)(h0:∀k,C0.D k→D' k):
  av P { C with D:=D' } ω w0 C0 hp w':=by
 have cA:∀ {B:Nat} {ℓ:Loc} {x:qa} {v:Value},aB C ω w B ℓ x v→aB { C with D:=D' } ω w' B ℓ x v:=by
  intro B ℓ x v ho
  unfold aB at *
  split at ho
  ·obtain⟨h1,h2,h3,h4,h8,⟨cells,elem,h5,h6⟩,h7⟩:=ho
   refine⟨h1,h2,h3,h4,h8,⟨cells,elem,?_,h6⟩,h7⟩
   rw[hu.other _ (fun h=>lh _ _ _ (h▸h5))]
   exact h5
  ·obtain⟨h1,h2,h3,h4,h8,⟨cells,elem,h5,h6⟩,h7⟩:=ho
   refine⟨h1,h2,h3,h4,h8,⟨cells,elem,?_,h6⟩,h7⟩
   rw[hu.other _ (fun h=>lh _ _ _ (h▸h5))]
   exact h5
  ·trivial
 refine { base:=m.base,know:=?_,cP:=m.cP,apart:=m.apart,inj:=m.inj,lt:=?_,size:=?_,frame:=?_,eQ:=?_,os:=hu.os.trans m.os,output:=hu.output.trans m.output,fresh:=m.fresh,grown:=⟨m.grown.k,m.grown.b,m.grown.w,h0,m.grown.t⟩,old:=m.old,box:=?_,gW:=fun q hq=>by rw[hu.size];exact m.gW q hq }
 ·intro k p v hk
  have hc:=m.know _ _ _ hk
  have bu:k≠r:=fun h=>by
   obtain⟨cs,t,fr,hg⟩:=ja7 hc
   exact lh cs t fr (h▸hg)
  simp only[World.cell?]at hc ⊢
  rw[hu.other k bu];exact hc
 ·intro b p hb
  rw[hu.size];exact m.lt b p hb
 ·rw[hu.size];exact m.size
 ·intro k hk hn hw
  rw[hu.other k (by omega)];exact m.frame k hk hn hw
 ·intro k hk
  obtain⟨h1,h2⟩:=hD k hk
  rw[hu.other k h2];exact m.eQ k h1
 ·intro b x p hx hb
  refine bp.imp (C:=C) (C':={ C with D:=D' }) ⟨fun _ _ _ h=>h,fun _ _ h=>h⟩ (hu.other p (fun h=>hβ b (h▸hb))) (fun j y v ho=>cA ho) (m.box b x p hx hb) (hq:=fun q n cap k=>by
   obtain⟨_,_,_,_,_,⟨cells,elem,h5,_⟩,_⟩:=k
   exact hu.other q (fun h=>lh _ _ _ (h▸h5)))
theorem aB.kH {D' r w'}(hu:jk w w' r)(lh:∀cs t fr,w.heap[r]?≠I (.cells cs t fr)){ℓ x v}(ho:aB C ω w B ℓ x v):aB { C with D:=D' } ω w' B ℓ x v:=by
 unfold aB at *
 split at ho
 ·obtain⟨h1,h2,h3,h4,h8,⟨cells,elem,h5,h6⟩,h7⟩:=ho
  refine⟨h1,h2,h3,h4,h8,⟨cells,elem,?_,h6⟩,h7⟩
  rw[hu.other _ (fun h=>lh _ _ _ (h▸h5))]
  exact h5
 ·obtain⟨h1,h2,h3,h4,h8,⟨cells,elem,h5,h6⟩,h7⟩:=ho
  refine⟨h1,h2,h3,h4,h8,⟨cells,elem,?_,h6⟩,h7⟩
  rw[hu.other _ (fun h=>lh _ _ _ (h▸h5))]
  exact h5
 ·trivial
theorem bG.qT {D' x v}(h:bG C x v):bG { C with D:=D' } x v:=qh.imp (C:=C) (C':={ C with D:=D' }) ⟨fun _ _ _ h=>h,fun _ _ h=>h⟩ h
theorem ak.kH {D' r w'}(hu:jk w w' r)(lh:∀cs t fr,w.heap[r]?≠I (.cells cs t fr))(e:ak C ω w B env tmps):ak { C with D:=D' } ω w' B env tmps:=
 fun s x hs=>let ⟨v,h1,h2,h3⟩:=e s x hs; ⟨v,h1,bG.qT h2,fun h=>(h3 h).kH hu lh⟩
theorem q1b {fn R}:∀(rs:List Nat) (C':aA) (w:World),C.le C'→av P C' ω w0 C hp w→ak C' ω w w0.heap.size env tmps→rs.Nodup→(∀r∈rs,C'.D r∧w0.heap.size≤r)→(∀k,C.D k→k<w0.heap.size) →
  (∀(C2:aA) (w2:World),C.le C2→C2.D=C.D→av P C2 ω w0 C hp w2→ak C2 ω w2 w0.heap.size env tmps→∃v,(results fn tmps).run P w2=.ok v w2∧R (.returned v) w2) →
  LeavesInM Fence.wide 0 P fn tmps R (rs.map fun r=>{ target:=.collected r,args:=#[] }) .returning w
 | [],C',w,hle,m,e,_,_,hD,dU=>by
  have hr0:∀ {k},C.D k→C'.D k:=fun h=>hle.d _ h
  -- the marks are forgotten
  have m2:av P { C' with D:=C.D } ω w0 C hp w:={ m with
   eQ:=fun r hr=>m.eQ r (hr0 hr)
   grown:=⟨m.grown.k,m.grown.b,m.grown.w,fun _ h=>h,m.grown.t⟩
   box:=fun b x r hx hb=>bp.imp (C:=C') (C':={ C' with D:=C.D }) ⟨fun _ _ _ h=>h,fun _ _ h=>h⟩ rfl (fun j y v ho=>ho) (m.box b x r hx hb) }
  have e2:ak { C' with D:=C.D } ω w w0.heap.size env tmps:=fun s x hs=>let ⟨v,h1,h2,h3⟩:=e s x hs; ⟨v,h1,bG.qT h2,h3⟩
  exact dU { C' with D:=C.D } w ⟨hle.k,hle.b,hle.w,fun _ h=>h,hle.t⟩ rfl m2 e2
 |r::rs,C',w,hle,m,e,qJ,GO,hD,dU=>by
  obtain⟨hDr,hBr⟩:=GO r (by simp)
  have hg:=m.eQ r hDr
  have bh:=(Ep.1 hg).1
  have lh:∀cs t fr,w.heap[r]?≠I (.cells cs t fr):=fun cs t fr h=>by rw[hg]at h;cases h
  have hu:jk w (jQ w r (.deferred Ge)) r:=Er bh (by simp)
  have hβ:∀b,C'.β b≠I r:=by
   intro b hb
   obtain⟨x,hx⟩:=Hj (m.lt b r hb).2▸(⟨_,rfl⟩:∃x,I (hp[b]'(m.lt b r hb).2)=I x)
   have h0:=m.box b x r hx hb
   cases x with
   |hole=>exact h0
   |cells cs=>obtain⟨vs,elem,h1,_⟩:=h0;rw[hg]at h1;cases h1
   |map es=>obtain⟨bQ,clock,h1,_⟩:=h0;rw[hg]at h1;cases h1
   |iter s pos=>have h1:w.heap[r]?=_:=h0;rw[hg]at h1;cases h1
   |loop l=>obtain⟨lp,h1,_⟩:=h0;rw[hg]at h1;cases h1
   |fE t e l=>obtain⟨p,v,h1,_⟩:=h0;rw[hg]at h1;cases h1
   |dead=>obtain⟨cs,t,h1⟩:=h0;rw[hg]at h1;cases h1
   |vec sz bz xs=>obtain⟨_,_,_,_,_,_,cs,t,h1⟩:=h0;rw[hg]at h1;cases h1
  have bq:(Instr.takeDeferred r).run P w=.ok [] (jQ w r (.deferred Ge)):=by
   have hs:=xG (P:=P) (x:=.deferred Ge) hg (by simp)
   simp only[Instr.takeDeferred,Sem.run_bind,pq hg (by simp),Result.andThen_ok,hs,Sem.run_pure]
  refine⟨by simp,.inl ⟨r,_,rfl,bq,?_⟩⟩
  have GQ:=List.nodup_cons.1 qJ
  have m2:=m.other (D':=fun k=>C'.D k∧k≠r) hu hβ hBr lh (fun k h=>h) (fun k h=>⟨hle.d k h,fun hk=>by have:=hD k h;omega⟩)
  exact q1b rs { C' with D:=fun k=>C'.D k∧k≠r } _ ⟨hle.k,hle.b,hle.w,fun k h=>⟨hle.d k h,fun hk=>by have:=hD k h;omega⟩,hle.t⟩ m2 (e.kH hu lh) GQ.2
   (fun k hk=>⟨⟨(GO k (by simp[hk])).1,fun h=>GQ.1 (h▸hk)⟩,(GO k (by simp[hk])).2⟩) hD dU
theorem q6g (hx:cg P xc){k fn h f}(hfn:P.funcs[k]?=I fn)(hc:F8 P h fn=I f){args v ow h'}(hr:pk xc f args hp=I (v,ow,h')){vs}(dQ:aK C args vs)(m:av P C ω w C hp w):
  CallsIn Fence.wide 0 P k ⟨vs⟩ w fun e w'=>∃u C' ω',e=.returned u∧C.le C'∧av P C' ω' w C h' w'∧bG C' v u∧(ow=Gb→aB C' ω' w' w.heap.size (.slot 0) v u):=by
 obtain⟨c,hb,h1,h2,h3,_⟩:=UM hc
 unfold pk at hr
 have hD:∀k,C.D k→k<w.heap.size:=fun k hk=>(Ep.1 (m.eQ k hk)).1
 cases hle:Gm args.length f.ntmps with
 |false=>simp[hle]at hr
 |true=>
  simp only[hle,cT]at hr
  have hlen:=Eo hle
  have vS:=dQ.length
  refine callsIn_of_wp_marks hfn hb trivial ?_
  have cB:((⟨vs⟩:Array Value)++Hv (fn.ntmps-(⟨vs⟩:Array Value).size) undef).size=fn.ntmps:=by
   simp;omega
  have GR:ak C ω w w.heap.size (ot 0 args) ((⟨vs⟩:Array Value)++Hv (fn.ntmps-(⟨vs⟩:Array Value).size) undef):=by
   intro s x hx
   obtain⟨j,rfl,hj,hf⟩:=qux hx
   obtain⟨u,k1,k2⟩:=dQ.get hj
   have bh:j<vs.length:=(Gn.1 k1).1
   refine⟨u,?_,k2,by simp[hf]⟩
   rw[Hf,Array.getElem?_append_left (by simpa using bh)]
   simpa using k1
  have fin:∀(st:qg) (a':Act) (w':World) (C':aA) (ω':Nat→Option Loc),C.le C'→Marks C' w.heap.size a'.defers→av P C' ω' w C st.heap w'→ak C' ω' w' w.heap.size st.env a'.tmps →
    (match lx st f.results with
     |some xs=>I ((yt xs).1,(yt xs).2,la st f.results)
     |none=>Ge)=I (v,ow,h') →
    LeavesInM Fence.wide 0 P fn a'.tmps (fun e w'=>∃u C' ω',e=.returned u∧C.le C'∧av P C' ω' w C h' w'∧bG C' v u∧(ow=Gb→aB C' ω' w' w.heap.size (.slot 0) v u)) a'.defers .returning w':=by
   intro st a' w' C' ω' hle ⟨rs,hds,qJ,GO⟩ m' e' hr
   rw[hds]
   refine q1b (C:=C) (ω:=ω') (w0:=w) (hp:=st.heap) (env:=st.env) rs C' w' hle m' e' qJ GO hD ?_
   intro C2 w2 jA _ m2 e2
   split at hr
   ·rename_i xs po
    cases hr
    obtain⟨u,ω2,k1,k2,k3,k4⟩:=q6e (fn:=fn) m2 e2 h2 po
    exact⟨u,k1,u,C2,ω2,rfl,jA,k2,k3,k4⟩
   ·cases hr
  split at hr
  ·rename_i st bO
   refine wpIn_mono (hx Ge fn.ntmps c f.body _ _ _ ⟨h,h1⟩ (fun h=>absurd rfl h) bO C ω w C _ w m GR cB Marks.nil) ?_
   rintro e a' w' ⟨rfl,q1,C',ω',q3,q2,q4,q5⟩
   exact fin st a' w' C' ω' q3 q2 q4 q5 hr
  ·rename_i st bO
   refine wpIn_mono (hx Ge fn.ntmps c f.body _ _ _ ⟨h,h1⟩ (fun h=>absurd rfl h) bO C ω w C _ w m GR cB Marks.nil) ?_
   rintro e a' w' ⟨rfl,q1,C',ω',q3,q2,q4,q5⟩
   exact fin st a' w' C' ω' q3 q2 q4 q5 hr
  ·cases hr
theorem q5j {K}(ht:Tabs P w)(h1:∀r o u,K r o=I u→w.cell? ⟨r,o,Ge⟩=I u)(h2:∀r o u,K r o=I u→u.oneCell'=Gb):av P (.bL K) (fun _=>Ge) w (.bL K) [] w where
 base:=⟨ht,fun g _=>⟨fun b h=>(by cases h),fun h=>h⟩⟩
 know:=h1
 cP:=h2
 apart:=by simp[aA.bL]
 inj:=by simp[aA.bL]
 lt:=by simp[aA.bL]
 size:=Nat.le_refl _
 frame _ _ _ _:=rfl
 eQ _ h:=h.elim
 os:=rfl
 output:=rfl
 fresh:=by simp[aA.bL]
 grown:=aA.le_refl _
 old _ _ _ _:=rfl
 box:=by simp
 gW _ h:=h.elim
theorem GU (hp:qw P p)(hx:cg P xc){k args h h' v ow}(hr:ze p xc k args h=I (v,ow,h')):Enters P k∧AA P k args h v ow h':=by
 unfold ze at hr
 split at hr
 ·rename_i f hf
  obtain⟨fn,hh,hfn,GV⟩:=hp.fn k f hf
  exact⟨hp.enters hf,fun C ω w vs dQ m=>q6g hx hfn GV hr dQ m⟩
 ·split at hr
  ·rename_i f hf
   obtain⟨he,hs⟩:=hp.fD k f hf
   exact⟨he,hs _ _ _ _ _ hr⟩
  ·cases hr
theorem qy.bL {es ms}(h:qy C es ms):pX 0 es=Gb→qy (.bL C.K) es ms:=by
 induction h with
 |nil=>exact fun _=>.nil
 |cons k v es m ms hk hv _ ih=>
  intro hb
  simp only[pX,Ek]at hb
  exact .cons _ _ _ _ _ (qh.shift (C:=C) (C':=.bL C.K) 0 (fun _ _ _ h=>h) (fun b r bh=>by omega) hk hb.1.1) (qh.shift (C:=C) (C':=.bL C.K) 0 (fun _ _ _ h=>h) (fun b r bh=>by omega) hv hb.1.2) (ih hb.2)
theorem q8q (hp:qw P p)(hx:cg P xc){k b ow h1 es}(hr:ze p xc k [] []=I (.map b,ow,h1))(hb:h1[b]?=I (.map es))(he:pX 0 es=Gb):Enters P k∧UL P k es:=by
 obtain⟨lI,mX⟩:=GU hp hx hr
 refine⟨lI,fun K w ht g1 g2=>?_⟩
 refine CallsIn.mono (mX _ _ _ [] .nil (q5j (P:=P) ht g1 g2)) ?_
 rintro e w' ⟨u,C',ω',rfl,hle,m',fJ,_⟩
 cases fJ with
 |map _ q hq=>
  obtain⟨bQ,clock,k1,k2⟩:=m'.box b _ q hb hq
  refine⟨q,C'.K,bQ,clock,rfl,⟨m'.size,fun r hr=>m'.frame r hr (by simp[aA.bL]) (by simp[aA.bL]),m'.os,m'.output⟩,hle.1,fun r o hr=>m'.old r o hr (by simp[aA.bL]),m'.know,m'.cP,?_,k1,k2.bL he⟩
  rcases m'.fresh b q hq with h|h|h
  ·cases h
  ·exact h
  ·exact h.elim
theorem N1 (hp:qw P p)(hx:cg P xc){k args v ow}(hr:jy p xc k args=I (v,ow))(hb:zr 0 args=Gb):Enters P k∧l5 v=Gb∧IsoCall P k args v ow:=by
 unfold jy at hr
 split at hr
 ·rename_i f hf
  obtain⟨he,GX⟩:=hp.gF k f hf
  split at hr
  ·rename_i v' o' GY
   cases li:l5 v' with
   |false=>simp[li]at hr
   |true=>
    simp only[li,cT]at hr
    cases hr
    exact⟨he,li,GX args _ _ GY li hb⟩
  ·cases hr
 ·split at hr
  ·rename_i v0 o' h' GY
   split at hr
   ·rename_i v' Eu
    cases li:l5 v' with
    |false=>simp[li]at hr
    |true=>
     simp only[li,cT]at hr
     cases hr
     obtain⟨lI,mX⟩:=GU hp hx GY
     ·refine⟨lI,li,?_⟩
      intro K w vs ht h1 h2 dQ
      have:=mX _ _ _ _ dQ (q5j (P:=P) ht h1 h2)
      refine CallsIn.mono this ?_
      rintro e w' ⟨u,C',ω',rfl,hle,m',fJ,cA⟩
      refine⟨u,kq C' h' w',rfl,?_,fun r o x hr=>GM m' (hle.1 r o x hr),fun r o hr=>?_,fun r o x hr=>(N0 m' hr).1,fun r o x hr=>(N0 m' hr).2,q6x m' Eu fJ li,?_⟩
      ·exact⟨m'.size,fun r hr=>m'.frame r hr (by simp[aA.bL]) (by simp[aA.bL]),m'.os,m'.output⟩
      ·have hold:=m'.old r o hr (by simp[aA.bL])
       unfold kq
       rw[if_neg]
       ·exact hold
       intro hh
       have:=jcf hle.w m' hh
       omega
      ·intro ho
       simp only[Ek]at ho
       have hℓ:=cA ho.1
       refine⟨.slot 0,ω',?_⟩
       cases v0 with
       |list n sz xs=>
        have GZ:v=.list n sz xs:=by
         simp only[az,iH,I.injEq]at Eu
         exact Eu.symm
        subst GZ
        unfold aB at *
        split at hℓ
        ·obtain⟨g1,g2,g3,g4,g5,g6,g7⟩:=hℓ
         refine⟨g1,.inl (g2.resolve_right (by rw[hle.w];exact fun h=>h)),by simp[aA.bL],g4,g5,g6,fun o xJ=>?_⟩
         show kq C' h' w' _ o=Ge
         unfold kq
         rw[if_neg]
         ·exact g7 o xJ
         ·rintro (⟨b,hb⟩|hh)
          ·exact g3 b hb
          ·rcases hh.is m' with⟨b,hb⟩|⟨b,_,_,_,_,_,_,h2⟩
           ·exact g3 b hb
           ·have:=h2.1;rw[g1]at this;simp at this
        all_goals trivial
       |_=>exact absurd ho.2 (by simp[qa.ct])
   ·cases hr
  ·cases hr
end
section
variable {P:Program}{p:qr}{xc:XC}{C C0 C1:aA}{ω ω1:Nat→Option Loc}{w w' w0:World}{hp h1:za}{env:Env}{tmps:Array Value}{B:Nat}{a:Act}{o:Oper}{d:Loc}
theorem aB.grow {K' ℓ x v}(hx:Ext w w')(hK:∀r o,r<w.heap.size→K' r o=C.K r o)(ho:aB C ω w B ℓ x v):aB { C with K:=K' } ω w' B ℓ x v:=by
 unfold aB at *
 split at ho
 ·obtain⟨h1,h2,h3,h4,h8,⟨cells,elem,h5,h6⟩,h7⟩:=ho
  have bh:=(Ep.1 h5).1
  exact⟨h1,h2,h3,h4,h8,⟨cells,elem,hx.get h5,h6⟩,fun o ho=>by
   show K' _ o=Ge
   rw[hK _ o bh];exact h7 o ho⟩
 ·obtain⟨h1,h2,h3,h4,h8,⟨cells,elem,h5,h6⟩,h7⟩:=ho
  have bh:=(Ep.1 h5).1
  exact⟨h1,h2,h3,h4,h8,⟨cells,elem,hx.get h5,h6⟩,fun o ho=>by
   show K' _ o=Ge
   rw[hK _ o bh];exact h7 o ho⟩
 ·trivial
theorem av.bL {K'}(m:av P C ω w0 C0 hp w)(hx:Ext w w')(hle:∀r o x,C.K r o=I x→K' r o=I x)(hK:∀r o,r<w.heap.size→K' r o=C.K r o)(hk:∀r o x,K' r o=I x→w'.cell? ⟨r,o,Ge⟩=I x)(h1:∀r o x,K' r o=I x→x.oneCell'=Gb):
  av P { C with K:=K' } ω w0 C0 hp w' where
 base:=m.base
 know:=hk
 cP:=h1
 apart b r o hb:=by
  show K' r o=Ge
  rw[hK r o (m.lt b r hb).1];exact m.apart b r o hb
 inj:=m.inj
 lt b r hb:=⟨Gx (m.lt b r hb).1 hx.size,(m.lt b r hb).2⟩
 size:=Gh m.size hx.size
 frame:=(m.ext hx).frame
 eQ:=(m.ext hx).eQ
 os:=(m.ext hx).os
 output:=(m.ext hx).output
 fresh:=m.fresh
 grown:=aA.le_trans m.grown ⟨hle,fun _ _ h=>h,rfl,fun _ h=>h,fun _ h=>h⟩
 old r o hr hw:=by
  show K' r o=_
  rw[hK r o (Gx hr m.size)];exact m.old r o hr hw
 box b x r hb hr:=by
  have h0:=m.box b x r hb hr
  -- in the new world first,then in the richer context
  cases x with
  |hole=>exact h0
  |cells cs=>
   obtain⟨vs,elem,g1,g2,g3⟩:=h0
   exact⟨vs,elem,hx.get g1,g2,fun j c hc=>let ⟨v,a,q,b,d⟩:=g3 j c hc; ⟨v,a,q,qh.mono (C':={ C with K:=K' }) ⟨hle,fun _ _ h=>h,rfl,fun _ h=>h,fun _ h=>h⟩ b,fun e=>(d e).grow hx hK⟩⟩
  |map es=>obtain⟨bQ,clock,g1,g2⟩:=h0;exact⟨bQ,clock,hx.get g1,qy.mono (C:=C) (C':={ C with K:=K' }) ⟨hle,fun _ _ h=>h,rfl,fun _ h=>h,fun _ h=>h⟩ g2⟩
  |iter s pos=>exact hx.get h0
  |loop l=>obtain⟨lp,g1,g2⟩:=h0;exact⟨lp,hx.get g1,q9.mono (C:=C) (C':={ C with K:=K' }) ⟨hle,fun _ _ h=>h,rfl,fun _ h=>h,fun _ h=>h⟩ g2⟩
  |fE t e l=>obtain⟨p,v,g1,g2,g3,g4⟩:=h0;exact⟨p,v,hx.get g1,g2,g3,g4.grow hx hK⟩
  |dead=>obtain⟨cs,t,g1⟩:=h0;exact⟨cs,t,hx.get g1⟩
  |vec sz bz xs=>
   have hg:∀ {k:Nat} {c:Array Value} {t:TypeId},w.heap[k]?=I (.cells c t (0,0))→w'.heap[k]?=w.heap[k]?:=fun hk=>by rw[hx.get hk,hk]
   obtain⟨_,_,_,_,_,_,cs,t,g1⟩:=id h0
   refine dG.imp hle (fun _ h=>h) (fun _ h _=>h) (hg g1) (fun q n cap k=>⟨?_,k.grow hx hK⟩) h0
   obtain⟨_,_,_,_,_,⟨cells,elem,h5,_⟩,_⟩:=k
   exact hg h5
 gW q hq:=Gx (m.gW q hq) hx.size
theorem ak.bL {K'}(e:ak C ω w B env tmps)(hx:Ext w w')(hle:∀r o x,C.K r o=I x→K' r o=I x)(hK:∀r o,r<w.heap.size→K' r o=C.K r o):ak { C with K:=K' } ω w' B env tmps:=
 fun s x hs=>let ⟨v,h1,h2,h3⟩:=e s x hs; ⟨v,h1,qh.mono (C':={ C with K:=K' }) ⟨hle,fun _ _ h=>h,rfl,fun _ h=>h,fun _ h=>h⟩ h2,fun h=>(h3 h).grow hx hK⟩
theorem q3p (m:av P C ω w0 C0 hp w)(e:ak C ω w w0.heap.size env tmps){v ow u K'}(hx:Ext w w')(hle:∀r o x,C.K r o=I x→K' r o=I x)(hK:∀r o,r<w.heap.size→K' r o=C.K r o)(hk:∀r o x,K' r o=I x→w'.cell? ⟨r,o,Ge⟩=I x)(h1:∀r o x,K' r o=I x→x.oneCell'=Gb)
  (li:l5 v=Gb) (hr:bG (.bL K') v u) (ho:ow=Gb→∃ℓ ω',aB (.bL K') ω' w' w.heap.size ℓ v u):km P C0 w0 C tmps d env ⟨v,ow,Ge,hp⟩ u w':=by
 have m':=m.bL hx hle hK hk h1
 have e':=e.bL hx hle hK
 have jL:bG { C with K:=K' } v u:=qh.shift (C:=.bL K') (C':={ C with K:=K' }) 0 (fun _ _ _ h=>h) (fun b r bh=>by omega) hr li
 have cy:C.le { C with K:=K' }:=⟨hle,fun _ _ h=>h,rfl,fun _ h=>h,fun _ h=>h⟩
 by_cases hkL:∃(n:Bool) (sz:Nat) (xs:List qa) (ad:Addr) (len cap:Nat),v=.list n sz xs∧u=.slice (I ad) len cap∧ow=Gb
 ·obtain⟨n,sz,xs,ad,len,cap,rfl,rfl,rfl⟩:=hkL
  obtain⟨ℓ,ω',g1,UN,g3,g4,g5,g6,g7⟩:=ho rfl
  have g2:w.heap.size≤ad.block:=UN.resolve_right (fun h=>h)
  have AB:∀ℓ x v,aB C ω w w0.heap.size ℓ x v→aB { C with K:=K' } (cr ω ad.block d) w' w0.heap.size ℓ x v:=fun ℓ x v h=>by
   have h2:=(h.fresh (ℓ':=d) g2).grow hx hK
   exact h2
  refine⟨{ C with K:=K' },cr ω ad.block d,cy,?_,?_,jL,fun _=>?_⟩
  ·have:=(m.ke ad.block d g2).bL hx hle hK hk h1
   exact this
  ·exact fun s x hs=>let ⟨v,h1,h2,h3⟩:=e s x hs; ⟨v,h1,qh.mono cy h2,fun h=>AB _ _ _ (h3 h)⟩
  ·refine⟨by simp[cr],.inl (Gh m.size g2),fun b hb=>?_,g4,g5,g6,g7⟩
   have:=(m.lt b _ hb).1
   omega
 by_cases cV:∃(n:Nat) (ad:Addr),v=.cE n∧u=.pointer (I ad)∧ow=Gb
 ·obtain⟨n,ad,rfl,rfl,rfl⟩:=cV
  obtain⟨ℓ,ω',g1,UN,g3,g4,g5,g6,g7⟩:=ho rfl
  have g2:w.heap.size≤ad.block:=UN.resolve_right (fun h=>h)
  have AB:∀ℓ x v,aB C ω w w0.heap.size ℓ x v→aB { C with K:=K' } (cr ω ad.block d) w' w0.heap.size ℓ x v:=fun ℓ x v h=>by
   have h2:=(h.fresh (ℓ':=d) g2).grow hx hK
   exact h2
  refine⟨{ C with K:=K' },cr ω ad.block d,cy,?_,?_,jL,fun _=>?_⟩
  ·have:=(m.ke ad.block d g2).bL hx hle hK hk h1
   exact this
  ·exact fun s x hs=>let ⟨v,h1,h2,h3⟩:=e s x hs; ⟨v,h1,qh.mono cy h2,fun h=>AB _ _ _ (h3 h)⟩
  ·refine⟨by simp[cr],.inl (Gh m.size g2),fun b hb=>?_,g4,g5,g6,g7⟩
   have:=(m.lt b _ hb).1
   omega
 ·refine⟨{ C with K:=K' },ω,cy,m',e',jL,fun h=>?_⟩
  cases v with
  |list n sz xs=>
   cases u with
   |slice q len cap=>
    cases q with
    |some ad=>exact absurd ⟨_,_,_,_,_,_,rfl,rfl,h⟩ hkL
    |none=>trivial
   |_=>trivial
  |cE n=>
   cases u with
   |pointer q=>
    cases q with
    |some ad=>exact absurd ⟨_,_,rfl,rfl,h⟩ cV
    |none=>trivial
   |_=>trivial
  |_=>trivial
theorem jgz (m:av P C ω w0 C0 hp w)(e:ak C ω w w0.heap.size env tmps){b q K' es bQ clock}(hx:Ext w w')(hle:∀r o x,C.K r o=I x→K' r o=I x)(hK:∀r o,r<w.heap.size→K' r o=C.K r o)(hk:∀r o x,K' r o=I x→w'.cell? ⟨r,o,Ge⟩=I x)(h1:∀r o x,K' r o=I x→x.oneCell'=Gb)
  (hh:hp[b]?=I .hole) (hq:w.heap.size≤q) (hg:w'.heap[q]?=I (.map bQ clock)) (hr:qy (.bL K') es bQ.toList):km P C0 w0 C tmps d env ⟨.map b,Gl,Ge,hp.set b (.map es)⟩ (.map (I q)) w':=by
 have m':=m.bL hx hle hK hk h1
 have e':=e.bL hx hle hK
 have cy:C.le { C with K:=K' }:=⟨hle,fun _ _ h=>h,rfl,fun _ h=>h,fun _ h=>h⟩
 obtain⟨m2,e2,jA⟩:=m'.Gu e' hh hg (fun k hk=>by have:=(m.lt k q hk).1;omega) (Gh m.size hq) (qy.imp (C:=.bL K') (C':={ C with K:=K' }) ⟨fun _ _ _ h=>h,fun b r h=>by simp[aA.bL]at h⟩ hr)
 exact⟨_,ω,aA.le_trans cy jA,m2,e2,.map _ _ (by simp[aA.box]),by simp⟩
theorem G0 {C C' x v}(hp:nH x=Gb)(h:bG C x v):bG C' x v:=by
 cases x<;>simp only[nH,Gc]at hp<;>cases h<;>constructor
theorem av.AE (m:av P C ω w0 C0 hp w)(e:ak C ω w w0.heap.size env tmps){b q K' cells}{t:TypeId}{cs}(hx:Ext w w')(hle:∀r o x,C.K r o=I x→K' r o=I x)(hK:∀r o,r<w.heap.size→K' r o=C.K r o)(hk:∀r o x,K' r o=I x→w'.cell? ⟨r,o,Ge⟩=I x)(h1:∀r o x,K' r o=I x→x.oneCell'=Gb)
  (hq:w.heap.size≤q) (hn:∀o,K' q o=Ge) (hh:hp[b]?=I .hole) (hg:w'.heap[q]?=I (.cells cells t (0,0))) (hl:cs.length≤cells.size)
  (hcs:∀(j:Nat) (c:qa×Bool),cs[j]?=I c→∃v,cells[j]?=I v∧v.oneCell'=Gb∧bG (({ C with K:=K' }:aA).box b q) c.1 v∧c.2=Gl):
  av P (({ C with K:=K' }:aA).box b q) ω w0 C0 (hp.set b (.cells cs)) w'∧ak (({ C with K:=K' }:aA).box b q) ω w' w0.heap.size env tmps∧C.le (({ C with K:=K' }:aA).box b q):=by
 have m':=m.bL hx hle hK hk h1
 have hβ:=Gs m hh
 have Ax:C.le { C with K:=K' }:=⟨hle,fun _ _ h=>h,rfl,fun _ h=>h,fun _ h=>h⟩
 have jA:({ C with K:=K' }:aA).le (({ C with K:=K' }:aA).box b q):=aA.kE (C:={ C with K:=K' }) (r:=q) hβ
 have cy:=aA.le_trans Ax jA
 have bh:b<hp.length:=(Gn.1 hh).1
 have N2:∀k,C.β k≠I q:=fun k hk=>by have:=(m.lt k q hk).1;omega
 have cA:∀ℓ x v,aB C ω w w0.heap.size ℓ x v→aB (({ C with K:=K' }:aA).box b q) ω w' w0.heap.size ℓ x v:=fun ℓ x v h=>aB.grow (C:=C.box b q) hx hK (aB.box (.inl hq) h)
 refine⟨{ m' with apart:=?_,inj:=?_,lt:=?_,fresh:=?_,grown:=aA.le_trans m'.grown jA,box:=?_ },?_,cy⟩
 ·intro k r o hk
  simp only[aA.box]at hk
  split at hk
  ·cases hk;exact hn o
  ·exact m'.apart k r o hk
 ·intro k k' r hk ez
  simp only[aA.box]at hk ez
  split at hk<;>split at ez
  ·rename_i h1 h2;rw[h1,h2]
  ·cases hk;exact absurd ez (N2 k')
  ·cases ez;exact absurd hk (N2 k)
  ·exact m.inj k k' r hk ez
 ·intro k r hk
  rw[Hl]
  simp only[aA.box]at hk
  split at hk
  ·rename_i h1;cases hk;subst h1;exact⟨(Ep.1 hg).1,bh⟩
  ·exact m'.lt k r hk
 ·intro k r hk
  simp only[aA.box]at hk
  split at hk
  ·cases hk;exact .inr (.inl (Gh m.size hq))
  ·exact m.fresh k r hk
 ·intro k y r hy hk
  simp only[aA.box]at hk
  split at hk
  ·rename_i h1
   subst h1
   cases hk
   rw[List.getElem?_set_self bh]at hy
   cases hy
   refine⟨cells,t,hg,hl,fun j c hc=>?_⟩
   obtain⟨v,a1,a2,a3,a4⟩:=hcs j c hc
   exact⟨v,a1,a2,a3,fun h=>by rw[a4]at h;cases h⟩
  ·rename_i h1
   rw[Hc (Ne.symm h1)]at hy
   have h0:=m.box k y r hy hk
   cases y with
   |hole=>exact h0
   |cells cs=>
    obtain⟨vs,elem,g1,g2,g3⟩:=h0
    exact⟨vs,elem,hx.get g1,g2,fun j c hc=>let ⟨v,a,q,b,d⟩:=g3 j c hc; ⟨v,a,q,qh.mono cy b,fun e=>cA _ _ _ (d e)⟩⟩
   |map es=>obtain⟨bQ,clock,g1,g2⟩:=h0;exact⟨bQ,clock,hx.get g1,qy.mono cy g2⟩
   |iter s pos=>exact hx.get h0
   |loop l=>obtain⟨lp,g1,g2⟩:=h0;exact⟨lp,hx.get g1,q9.mono cy g2⟩
   |fE t e l=>obtain⟨p,v,g1,g2,g3,g4⟩:=h0;exact⟨p,v,hx.get g1,g2,g3,cA _ _ _ g4⟩
   |dead=>obtain⟨cs,t,g1⟩:=h0;exact⟨cs,t,hx.get g1⟩
   |vec sz bz xs=>
    have N3:∀ {k:Nat} {c:Array Value} {t:TypeId},w.heap[k]?=I (.cells c t (0,0))→w'.heap[k]?=w.heap[k]?:=fun hk=>by rw[hx.get hk,hk]
    obtain⟨_,_,_,_,_,_,cs,t,g1⟩:=id h0
    refine dG.imp hle (fun _ h=>h) (fun _ h _=>h) (N3 g1) (fun q n cap k'=>⟨?_,cA _ _ _ k'⟩) h0
    obtain⟨_,_,_,_,_,⟨cells,elem,h5,_⟩,_⟩:=k'
    exact N3 h5
 ·exact fun s y hy=>let ⟨v,h1,h2,h3⟩:=e s y hy; ⟨v,h1,qh.mono cy h2,fun h=>cA _ _ _ (h3 h)⟩
theorem av.G1 (m:av P C ω w0 C0 hp w){b x}(hh:hp[b]?=I .hole):av P C ω w0 C0 (hp.set b x) w:=by
 have hβ:=Gs m hh
 refine { m with lt:=fun k r hk=>by rw[Hl];exact m.lt k r hk,box:=fun k y r hy hk=>?_ }
 by_cases kD:k=b
 ·subst kD;rw[hβ]at hk;cases hk
 ·rw[Hc (Ne.symm kD)]at hy
  exact m.box k y r hy hk
theorem jem (m:av P C ω w0 C0 hp w)(e:ak C ω w w0.heap.size env tmps){v ow u h0 r res K'}(hx:Ext w w')(hle:∀r o x,C.K r o=I x→K' r o=I x)(hK:∀r o,r<w.heap.size→K' r o=C.K r o)(hk:∀r o x,K' r o=I x→w'.cell? ⟨r,o,Ge⟩=I x)(h1:∀r o x,K' r o=I x→x.oneCell'=Gb)
  (hr:bG (.bL K') v u) (ho:ow=Gb→∃ℓ ω',aB (.bL K') ω' w' w.heap.size ℓ v u) (ht:pZ h0 hp r v ow=I res):km P C0 w0 C tmps d env res u w':=by
 unfold pZ at ht
 split at ht
 ·rename_i sz _
  split at ht
  ·rename_i h' hn
   have hv:=zt ht
   obtain⟨hh,rfl⟩:=lE hn
   subst hv
   have cy:C.le { C with K:=K' }:=⟨hle,fun _ _ h=>h,rfl,fun _ h=>h,fun _ h=>h⟩
   refine⟨{ C with K:=K' },ω,cy,(m.bL hx hle hK hk h1).G1 hh,e.bL hx hle hK,qh.shift (C:=.bL K') (C':={ C with K:=K' }) 0 (fun _ _ _ h=>h) (fun b r bh=>by omega) hr (by rfl),fun h=>by simp at h⟩
  ·cases ht
 ·rename_i sz xs
  cases hb:(xs.flatMap qa.flat).all nH with
  |false=>rw[hb]at ht;cases ht
  |true=>
   rw[hb]at ht
   simp only[cT]at ht
   split at ht
   ·rename_i h' hn
    have hv:=zt ht
    obtain⟨hh,rfl⟩:=lE hn
    subst hv
    obtain⟨ℓ,ω',ho⟩:=ho rfl
    cases hr with
    |iW sz a l7=>
     simp only[aB]at ho
     exact absurd ho.2.2.2.1 l7
    |list sz _ q o cap hl cL=>
     simp only[aB]at ho
     obtain⟨o1,o2,o3,_,o5,⟨cells,elem,o6,o7,_⟩,o8⟩:=ho
     subst o5
     have hq:w.heap.size≤q:=o2.resolve_right (fun h=>h)
     let K2:Nat→Nat→Option Value:=fun r o=>if r=q then Ge else K' r o
     have G2:∀ {r o x},K2 r o=I x→K' r o=I x:=by
      intro r o x h
      simp only[K2]at h
      split at h
      ·cases h
      ·exact h
     have jA:∀r o x,C.K r o=I x→K2 r o=I x:=by
      intro r o x h
      have bh:r<w.heap.size:=by
       have:=m.know r o x h
       unfold World.cell? at this
       split at this
       ·rename_i c _ _ hc;exact(Ep.1 hc).1
       ·cases this
      have bu:r≠q:=by omega
      simp only[K2,if_neg bu]
      exact hle r o x h
     have UO:∀r o,r<w.heap.size→K2 r o=C.K r o:=by
      intro r o bh
      have bu:r≠q:=by omega
      simp only[K2,if_neg bu]
      exact hK r o bh
     have hcells:=bg.cells cL
     have hlen:(xs.flatMap qa.flat).length≤cells.size:=by
      rcases Nat.eq_zero_or_pos (xs.flatMap qa.flat).length with h0|h0
      ·omega
      ·obtain⟨y,hy⟩:∃y,(xs.flatMap qa.flat)[(xs.flatMap qa.flat).length-1]?=I y:=⟨_,Hj (by omega)⟩
       obtain⟨v,hv,_⟩:=bZ.get hcells hy
       have h3:=hk _ _ _ hv
       unfold World.cell? at h3
       rw[o6]at h3
       simp only[Gw,Gc,if_false]at h3
       have:=(Ep.1 h3).1
       omega
     obtain⟨m2,e2,l2⟩:=m.AE e (b:=h0+r) (q:=q) (K':=K2) (cells:=cells) (t:=elem) (cs:=cellsOf (xs.flatMap qa.flat)) hx jA UO (fun r o x h=>hk r o x (G2 h)) (fun r o x h=>h1 r o x (G2 h)) hq (fun o=>by simp[K2]) hh o6 (by rw[show(cellsOf (xs.flatMap qa.flat)).length=(xs.flatMap qa.flat).length by simp[cellsOf]];exact hlen) (by
      intro j c hc
      simp only[cellsOf,Hb,Ga]at hc
      obtain⟨y,hy,rfl⟩:=hc
      obtain⟨v,hv,pv⟩:=bZ.get hcells hy
      have h3:=hk _ _ _ hv
      unfold World.cell? at h3
      rw[o6]at h3
      simp only[Gw,Gc,if_false,Hf]at h3
      exact⟨v,h3,h1 _ _ _ hv,G0 (Gy.1 hb y (Gk hy)) pv,rfl⟩)
     exact⟨_,ω,l2,m2,e2,.ms _ 0 _ q cap (by simp[aA.box]) hl,fun h=>by simp at h⟩
   ·cases ht
 ·cases ht
theorem jbf (m:av P C ω w0 C0 hp w){x x' v}(hf:TG hp x=I x')(h:bG C x v)(hb:Abs.below 0 x'=Gb):bG (.bL (kq C hp w)) x' v:=by
 unfold TG at hf
 split at hf
 ·rename_i b len
  split at hf
  ·rename_i cs hcs
   cases hc:(Gf (len*(cs.length / len)) cs.length&&Ha 0 (cs.length / len)&&cs.all (fun c=>nH c.1))with
   |false=>
    rw[hc,cond_false]at hf
    cases hl:Gf len 0 with
    |false=>rw[hl]at hf;cases hf
    |true=>
     rw[hl]at hf
     have hl:=En hl
     subst hl
     simp only[cT,I.injEq]at hf
     subst hf
     obtain⟨r,cap,gY,hle,rfl⟩:=h.eu
     exact qh.list (C:=.bL (kq C hp w)) 8 [] r 0 cap (Nat.zero_le _) (.fj _ _ _)
   |true=>
    rw[hc]at hf
    simp only[cT,I.injEq]at hf
    subst hf
    simp only[Ek]at hc
    obtain⟨⟨c1,c2⟩,c3⟩:=hc
    have c1:=En c1
    have c2:0<cs.length / len:=by simpa using c2
    obtain⟨r,cap,gY,hle,rfl⟩:=h.eu
    obtain⟨vs,elem,k1,k2,k3⟩:=m.box b _ r (vU hcs) gY
    have cL:bg (.bL (kq C hp w)) r (cs.length / len) (l6 (cs.length / len) len (cs.map (·.1))) 0:=by
     refine UF c2 (by rw[Hm];exact c1.symm) (fun x hx=>?_) fun j x hx=>?_
     ·obtain⟨c,hc,rfl⟩:=List.mem_map.1 hx
      have:=Gy.1 c3 c hc
      cases hq:c.1<;>rw[hq]at this<;>first|rfl|cases this
     ·rw[Hb,Ga]at hx
      obtain⟨c,hc,rfl⟩:=hx
      obtain⟨u,q1,q2,q3,_⟩:=k3 j c hc
      have dE:w.cell? ⟨r,0+j,Ge⟩=I u:=by
       unfold World.cell?
       rw[k1]
       simp only[Gw,Gc,if_false,Hf]
       exact q1
      exact⟨u,UC gY dE q2,G0 (Gy.1 c3 c (Gk hc)) q3⟩
    have:=qh.list (C:=.bL (kq C hp w)) (cs.length / len) (l6 (cs.length / len) len (cs.map (·.1))) r 0 cap (by rw[GN];exact hle) cL
    rw[GN]at this
    exact this
  ·cases hf
 ·cases hf
  exact UD m h hb
theorem qu0 (m:av P C ω w0 C0 hp w):∀ {xs fA:List qa} {vs:List Value},xn hp xs=I fA→aK C xs vs→zr 0 fA=Gb→aK (.bL (kq C hp w)) fA vs
 | [],fA,vs,hf,h,_=>by
  simp only[xn,I.injEq]at hf
  subst hf
  cases h
  exact .nil
 |x::xs,fA,vs,hf,h,hb=>by
  simp only[xn]at hf
  split at hf
  ·rename_i y ys h1 h2
   cases hf
   cases h with
   |cons _ _ v vs hx h=>
    simp only[zr,Ek]at hb
    exact .cons _ _ _ _ (jbf m h1 hx hb.1) (qu0 m h2 h hb.2)
  ·cases hf
theorem qwc {C C' x v}(hp:xp x=Gb)(h:bG C x v):bG C' x v:=by
 cases x with
 |agg cs=>
  obtain⟨vs,rfl,hl⟩:=h.dX
  refine .agg _ _ ?_
  simp only[xp]at hp
  clear h
  induction cs generalizing vs with
  |nil=>cases hl;exact .nil
  |cons c cs ih=>
   cases hl with
   |cons _ _ v vs hx hl=>
    simp only[If,Ek]at hp
    exact .cons _ _ _ _ (G0 hp.1 hx) (ih hp.2 vs hl)
 |_=>exact G0 hp h
theorem jh2 {C C' x v}(h:bG C x v):bG C' (Ec x) v:=by
 unfold Ec
 cases hp:xp x with
 |true=>exact qwc hp h
 |false=>exact .any _
theorem q05 {C C'}:∀ {xs:List qa} {vs:List Value},aK C xs vs→aK C' (xs.map Ec) vs
 | [],_,h=>by cases h;exact .nil
 |x::xs,_,h=>by
  cases h with
  |cons _ _ v vs hx h=>exact .cons _ _ _ _ (jh2 hx) (q05 h)
open Classical in
theorem jha (m:av P C ω w0 C0 hp w)(e:ak C ω w w0.heap.size env tmps){v v' ow G3 u K'}(hx:Ext w w')(hle:∀r o x,kq C hp w r o=I x→K' r o=I x)(hK:∀r o,r<w.heap.size→K' r o=kq C hp w r o)(hk:∀r o x,K' r o=I x→w'.cell? ⟨r,o,Ge⟩=I x)(h1:∀r o x,K' r o=I x→x.oneCell'=Gb)
  (hr:bG (.bL K') v u) (ho:ow=Gb→∃ℓ ω',aB (.bL K') ω' w' w.heap.size ℓ v u) (ht:Nx v ow=I (v',G3)):km P C0 w0 C tmps d env ⟨v',G3,Ge,hp⟩ u w':=by
 let K2:Nat→Nat→Option Value:=fun r o=>if Hid C hp r then Ge else K' r o
 have G2:∀ {r o x},K2 r o=I x→K' r o=I x:=by
  intro r o x h
  simp only[K2]at h
  split at h
  ·cases h
  ·exact h
 have jA:∀r o x,C.K r o=I x→K2 r o=I x:=by
  intro r o x h
  have hn:¬Hid C hp r:=by
   intro hh
   rw[UB m hh o]at h;cases h
  simp only[K2,if_neg hn]
  exact hle r o x (GM m h)
 have UO:∀r o,r<w.heap.size→K2 r o=C.K r o:=by
  intro r o bh
  by_cases hb:Hid C hp r
  ·simp only[K2,if_pos hb]
   exact(UB m hb o).symm
  ·simp only[K2,if_neg hb]
   rw[hK r o bh]
   unfold kq
   rw[if_neg hb]
 have fin:∀(li:l5 v'=Gb) (jL:bG (.bL K2) v' u) (xJ:G3=Gb→∃ℓ ω',aB (.bL K2) ω' w' w.heap.size ℓ v' u),km P C0 w0 C tmps d env ⟨v',G3,Ge,hp⟩ u w':=fun li jL xJ=>
  q3p m e hx jA UO (fun r o x h=>hk r o x (G2 h)) (fun r o x h=>h1 r o x (G2 h)) li jL xJ
 have gB:∀y,nH y=Gb→Abs.below 0 y=Gb:=fun y hy=>by cases y<;>first|rfl|cases hy
 have qU:∀ys:List qa,ys.all nH=Gb→zr 0 ys=Gb:=by
  intro ys
  induction ys with
  |nil=>intro _;rfl
  |cons y ys ih=>
   intro h
   simp only[If,Ek]at h
   simp only[zr,Ek]
   exact⟨gB y h.1,ih h.2⟩
 have nT:∀y,xp y=Gb→Abs.below 0 y=Gb:=fun y hy=>by
  cases y with
  |agg cs=>simp only[Abs.below];exact qU cs hy
  |_=>exact gB _ hy
 unfold Nx at ht
 split at ht
 ·rename_i sz xs
  cases hb:(xs.flatMap qa.flat).all nH with
  |false=>rw[hb]at ht;cases ht
  |true=>
   rw[hb]at ht
   simp only[cT,I.injEq,Prod.mk.injEq]at ht
   obtain⟨rfl,rfl⟩:=ht
   obtain⟨ℓ,ω',ho⟩:=ho rfl
   cases hr with
   |iW sz a l7=>
    simp only[aB]at ho
    exact absurd ho.2.2.2.1 l7
   |list sz _ q o cap hl cL=>
    simp only[aB]at ho
    obtain⟨o1,o2,o3,o4,o5,o6,o8⟩:=ho
    have hq:w.heap.size≤q:=o2.resolve_right (fun h=>h)
    have Ev:¬Hid C hp q:=by
     intro hh
     have:=jqv m hh
     omega
    have hKq:∀o,K2 q o=K' q o:=fun o=>by simp only[K2,if_neg Ev]
    have hcells:=bg.cells cL
    have qI:bg (.bL K2) q sz xs o:=by
     refine bg.eo (UE fun j x hx=>?_) (bg.sized cL)
     obtain⟨u,hu,hxu⟩:=bZ.get hcells hx
     exact⟨u,by rw[show(aA.bL K2).K=K2 from rfl,hKq];exact hu,G0 (Gy.1 hb x (Gk hx)) hxu⟩
    refine fin ?_ (.list sz _ q o cap hl qI) fun _=>⟨ℓ,ω',?_⟩
    ·show l5 _=Gb
     unfold l5
     have iY:∀ys:List qa,(ys.flatMap qa.flat).all nH=Gb→zr 0 ys=Gb:=by
      intro ys
      induction ys with
      |nil=>intro _;rfl
      |cons y ys ih=>
       intro h
       rw[Ht,List.all_append,Ek]at h
       simp only[zr,Ek]
       exact⟨by rw[←NE];exact qU _ h.1,ih h.2⟩
     simp only[Abs.below]
     exact iY xs hb
    ·simp only[aB]
     exact⟨o1,o2,o3,o4,o5,o6,fun o' xJ=>by rw[show(aA.bL K2).K=K2 from rfl,hKq];exact o8 o' xJ⟩
 ·simp only[I.injEq,Prod.mk.injEq]at ht
  obtain⟨rfl,rfl⟩:=ht
  refine fin rfl ?_ (fun h=>by cases h)
  cases hr
  exact .iV _
 ·rename_i vs _
  simp only[I.injEq,Prod.mk.injEq]at ht
  obtain⟨rfl,rfl⟩:=ht
  obtain⟨us,rfl,hl⟩:=hr.nP
  refine fin ?_ (.ay _ _ (q05 hl)) (fun h=>by cases h)
  show Abs.below 0 _=Gb
  simp only[Abs.below]
  have:∀ys:List qa,zr 0 (ys.map Ec)=Gb:=by
   intro ys
   induction ys with
   |nil=>rfl
   |cons y ys ih=>
    simp only[Oa,zr,Ek]
    refine⟨?_,ih⟩
    unfold Ec
    cases hp:xp y with
    |true=>exact nT y hp
    |false=>rfl
  exact this _
 ·cases hb:xp v with
  |false=>rw[hb]at ht;cases ht
  |true=>
   rw[hb]at ht
   simp only[cT,I.injEq,Prod.mk.injEq]at ht
   obtain⟨rfl,rfl⟩:=ht
   exact fin (nT v hb) (qwc hb hr) (fun h=>by cases h)
def aA.shared (C:aA)(ω:Nat→Option Loc)(w0:World):aA:={ C with W:=fun r=>(∃b j,ω r=I (.cell b j))∧(w0.heap.size≤r∨C.W r) }
def qV (ω:Nat→Option Loc):Nat→Option Loc:=fun r=>match ω r with
 |some (.cell b j)=>I (.cell b j)
 |_=>Ge
theorem aB.shared {b j x v}(ho:aB C ω w w0.heap.size (.cell b j) x v):aB (C.shared ω w0) (qV ω) w w.heap.size (.cell b j) x v:=by
 unfold aB at *
 split at ho
 ·obtain⟨g1,g2,g3⟩:=ho
  exact⟨by simp[qV,g1],.inr ⟨⟨b,j,g1⟩,g2⟩,g3⟩
 ·obtain⟨g1,g2,g3⟩:=ho
  exact⟨by simp[qV,g1],.inr ⟨⟨b,j,g1⟩,g2⟩,g3⟩
 ·trivial
theorem UQ (m:av P C ω w0 C0 hp w):av P (C.shared ω w0) (qV ω) w (C.shared ω w0) hp w where
 base:=⟨m.tabs,fun g hg=>by
  obtain⟨h1,h2⟩:=m.base.2 g hg
  have bh:=(m.base.1 g hg).1
  refine⟨fun b hb=>?_,fun h=>?_⟩
  ·rcases m.fresh b g hb with h|h|h
   ·exact h1 b h
   ·omega
   ·exact h2 h
  ·rcases h.2 with h|h
   ·omega
   ·rw[m.grown.w]at h;exact h2 h⟩
 know:=m.know
 cP:=m.cP
 apart:=m.apart
 inj:=m.inj
 lt:=m.lt
 size:=Nat.le_refl _
 frame _ _ _ _:=rfl
 eQ:=m.eQ
 os:=rfl
 output:=rfl
 fresh _ _ h:=.inl h
 grown:=aA.le_refl _
 old _ _ _ _:=rfl
 box b x r hx hb:=bp.imp (C:=C) (C':=C.shared ω w0) ⟨fun _ _ _ h=>h,fun _ _ h=>h⟩ rfl (fun _ _ _ ho=>ho.shared) (m.box b x r hx hb)
 gW:=m.gW
def mY (ω ω1:Nat→Option Loc)(n:Nat):Nat→Option Loc:=fun r=>match decide (r<n),ω r with
 |true,I (.slot s)=>I (.slot s)
 |_,_=>qV ω1 r
def aA.back (C1 C:aA):aA:={ C1 with W:=C.W }
theorem N4 (hle:(C.shared ω w0).le C1):C.le (C1.back C):=⟨hle.k,hle.b,rfl,hle.d,hle.t⟩
theorem aB.qW {s x v}(m1:av P C1 ω1 w (C.shared ω w0) h1 w')(ho:aB C ω w w0.heap.size (.slot s) x v):aB (C1.back C) (mY ω ω1 w.heap.size) w' w0.heap.size (.slot s) x v:=by
 unfold aB at *
 split at ho
 ·rename_i ad len cap
  obtain⟨g1,g2,g3,g4,g8,⟨cells,elem,g5,g6⟩,g7⟩:=ho
  have bh:=(Ep.1 g5).1
  have AF:¬(C.shared ω w0).W ad.block:=fun h=>by
   obtain⟨⟨b,j,h⟩,_⟩:=h
   rw[g1]at h;cases h
  refine⟨by simp[mY,bh,g1],g2,fun b hb=>?_,g4,g8,⟨cells,elem,?_,g6⟩,fun o ho=>?_⟩
  ·rcases m1.fresh b _ hb with h|h|h
   ·exact g3 b h
   ·omega
   ·exact AF h
  ·rw[m1.frame _ bh g3 AF];exact g5
  ·have:=m1.old _ o bh AF
   show C1.K _ o=Ge
   rw[this];exact g7 o ho
 ·rename_i ad
  obtain⟨g1,g2,g3,g4,g8,⟨cells,elem,g5,g6⟩,g7⟩:=ho
  have bh:=(Ep.1 g5).1
  have AF:¬(C.shared ω w0).W ad.block:=fun h=>by
   obtain⟨⟨b,j,h⟩,_⟩:=h
   rw[g1]at h;cases h
  refine⟨by simp[mY,bh,g1],g2,fun b hb=>?_,g4,g8,⟨cells,elem,?_,g6⟩,fun o ho=>?_⟩
  ·rcases m1.fresh b _ hb with h|h|h
   ·exact g3 b h
   ·omega
   ·exact AF h
  ·rw[m1.frame _ bh g3 AF];exact g5
  ·have:=m1.old _ o bh AF
   show C1.K _ o=Ge
   rw[this];exact g7 o ho
 ·trivial
theorem aB.qX {b j x v}(m:av P C ω w0 C0 hp w)(hW:C1.W=(C.shared ω w0).W)(ho:aB C1 ω1 w' w.heap.size (.cell b j) x v):aB (C1.back C) (mY ω ω1 w.heap.size) w' w0.heap.size (.cell b j) x v:=by
 unfold aB at *
 split at ho
 ·rename_i ad len cap
  obtain⟨g1,g2,g3⟩:=ho
  rw[hW]at g2
  refine⟨?_,?_,g3⟩
  ·unfold mY
   split
   ·rename_i s bh hs
    have bh:=of_decide_eq_true bh
    rcases g2 with g2|⟨⟨b',j',g2⟩,_⟩
    ·omega
    ·rw[hs]at g2;cases g2
   ·simp[qV,g1]
  ·rcases g2 with g2|⟨_,g2⟩
   ·exact .inl (Gh m.size g2)
   ·exact g2
 ·rename_i ad
  obtain⟨g1,g2,g3⟩:=ho
  rw[hW]at g2
  refine⟨?_,?_,g3⟩
  ·unfold mY
   split
   ·rename_i s bh hs
    have bh:=of_decide_eq_true bh
    rcases g2 with g2|⟨⟨b',j',g2⟩,_⟩
    ·omega
    ·rw[hs]at g2;cases g2
   ·simp[qV,g1]
  ·rcases g2 with g2|⟨_,g2⟩
   ·exact .inl (Gh m.size g2)
   ·exact g2
 ·trivial
theorem qu1 (m:av P C ω w0 C0 hp w)(e:ak C ω w w0.heap.size env tmps)(m1:av P C1 ω1 w (C.shared ω w0) h1 w')(hle:(C.shared ω w0).le C1):
  av P (C1.back C) (mY ω ω1 w.heap.size) w0 C0 h1 w'∧ak (C1.back C) (mY ω ω1 w.heap.size) w' w0.heap.size env tmps:=by
 have hsh:∀r,r<w0.heap.size→¬C0.W r→¬(C.shared ω w0).W r:=fun r hr hw h=>by
  rcases h.2 with h|h
  ·omega
  ·rw[m.grown.w]at h;exact hw h
 constructor
 ·refine { base:=m.base,know:=m1.know,cP:=m1.cP,apart:=m1.apart,inj:=m1.inj,lt:=m1.lt,size:=Gh m.size m1.size,frame:=?_,eQ:=m1.eQ,os:=m1.os.trans m.os,output:=m1.output.trans m.output,fresh:=?_,grown:=aA.le_trans m.grown (N4 hle),old:=?_,box:=?_,gW:=m1.gW }
  ·intro r hr hn hw
   have iL:∀b,C.β b≠I r:=fun b hb=>by
    rcases m.fresh b r hb with h|h|h
    ·exact hn b h
    ·omega
    ·exact hw h
   rw[m1.frame r (Gx hr m.size) iL (hsh r hr hw)]
   exact m.frame r hr hn hw
  ·intro b r hb
   rcases m1.fresh b r hb with h|h|h
   ·exact m.fresh b r h
   ·exact .inr (.inl (Gh m.size h))
   ·exact .inr (h.2.imp id (fun h=>by rw[←m.grown.w];exact h))
  ·intro r o hr hw
   show C1.K r o=_
   rw[m1.old r o (Gx hr m.size) (hsh r hr hw)]
   exact m.old r o hr hw
  ·intro b x r hx hb
   exact bp.imp (C:=C1) (C':=C1.back C) ⟨fun _ _ _ h=>h,fun _ _ h=>h⟩ rfl (fun _ _ _ ho=>ho.qX m hle.w) (m1.box b x r hx hb)
 ·exact fun s x hs=>let ⟨v,k1,k2,k3⟩:=e s x hs; ⟨v,k1,qh.mono (N4 hle) k2,fun h=>(k3 h).qW m1⟩
theorem bG.back {x v}(h:bG C1 x v):bG (C1.back C) x v:=qh.imp (C:=C1) (C':=C1.back C) ⟨fun _ _ _ h=>h,fun _ _ h=>h⟩ h
theorem quv (m:av P C ω w0 C0 hp w)(e:ak C ω w w0.heap.size env tmps)(m1:av P C1 ω1 w (C.shared ω w0) h1 w')(hle:(C.shared ω w0).le C1){v ow u}(hr:bG C1 v u)(ho:ow=Gb→aB C1 ω1 w' w.heap.size (.slot 0) v u):
  km P C0 w0 C tmps d env ⟨v,ow,Ge,y5 hp.length v h1⟩ u w':=by
 have hC:∀b r,C.β b=I r→b<hp.length:=fun b r h=>(m.lt b r h).2
 have cy:=N4 hle
 have jL:bG (C1.back C) v u:=hr.back
 -- the result's ownership first
 have step:∃ω',av P (C1.back C) ω' w0 C0 h1 w'∧ak (C1.back C) ω' w' w0.heap.size env tmps∧(ow=Gb→aB (C1.back C) ω' w' w0.heap.size d v u):=by
  obtain⟨m2,e2⟩:=qu1 m e m1 hle
  cases ow with
  |false=>exact⟨_,m2,e2,by simp⟩
  |true=>
   by_cases hk:∃(n:Bool) (sz:Nat) (xs:List qa) (ad:Addr) (len cap:Nat),v=.list n sz xs∧u=.slice (I ad) len cap
   ·obtain⟨n,sz,xs,ad,len,cap,rfl,rfl⟩:=hk
    obtain⟨g1,g2,g3,g4⟩:=ho rfl
    rw[hle.w]at g2
    have ij:mY ω ω1 w.heap.size ad.block=Ge:=by
     unfold mY
     split
     ·rename_i s bh hs
      have bh:=of_decide_eq_true bh
      rcases g2 with g2|⟨⟨b',j',g2⟩,_⟩
      ·omega
      ·rw[hs]at g2;cases g2
     ·simp[qV,g1]
    refine⟨cr (mY ω ω1 w.heap.size) ad.block d,m2.cr _ _ (by simp[ij]),?_,fun _=>?_⟩
    ·exact fun s x hs=>let ⟨v,k1,k2,k3⟩:=e2 s x hs; ⟨v,k1,k2,fun h=>(k3 h).other (.inl (by simp[ij]))⟩
    ·refine⟨by simp[cr],?_,g3,g4⟩
     rcases g2 with g2|⟨_,g2⟩
     ·exact .inl (Gh m.size g2)
     ·exact g2
   by_cases cV:∃(n:Nat) (ad:Addr),v=.cE n∧u=.pointer (I ad)
   ·obtain⟨n,ad,rfl,rfl⟩:=cV
    obtain⟨g1,g2,g3,g4⟩:=ho rfl
    rw[hle.w]at g2
    have ij:mY ω ω1 w.heap.size ad.block=Ge:=by
     unfold mY
     split
     ·rename_i s bh hs
      have bh:=of_decide_eq_true bh
      rcases g2 with g2|⟨⟨b',j',g2⟩,_⟩
      ·omega
      ·rw[hs]at g2;cases g2
     ·simp[qV,g1]
    refine⟨cr (mY ω ω1 w.heap.size) ad.block d,m2.cr _ _ (by simp[ij]),?_,fun _=>?_⟩
    ·exact fun s x hs=>let ⟨v,k1,k2,k3⟩:=e2 s x hs; ⟨v,k1,k2,fun h=>(k3 h).other (.inl (by simp[ij]))⟩
    ·refine⟨by simp[cr],?_,g3,g4⟩
     rcases g2 with g2|⟨_,g2⟩
     ·exact .inl (Gh m.size g2)
     ·exact g2
   ·refine⟨_,m2,e2,fun h=>?_⟩
    unfold aB
    split
    ·exact absurd ⟨_,_,_,_,_,_,rfl,rfl⟩ hk
    ·exact absurd ⟨_,_,rfl,rfl⟩ cV
    ·trivial
 obtain⟨ω',m2,e2,o2⟩:=step
 unfold y5
 cases hb:Gm h1.length hp.length with
 |true=>simp only[cT];exact⟨_,ω',cy,m2,e2,jL,o2⟩
 |false=>
  simp only[cond_false]
  cases lH:(below hp.length v&&ko hp.length (h1.take hp.length))with
  |false=>simp only[cond_false];exact⟨_,ω',cy,m2,e2,jL,o2⟩
  |true=>
   simp only[cT]
   simp only[Ek]at lH
   have bh:hp.length≤h1.length:=by
    rcases Nat.lt_or_ge hp.length h1.length with h|h
    ·omega
    ·rw[Nat.ble_eq_true_of_le h]at hb;cases hb
   have h0:∀b r,C0.β b=I r→b<hp.length:=fun b r h=>hC b r (m.grown.2 b r h)
   have m3:=m2.gc bh lH.2 h0
   refine⟨(C1.back C).cut hp.length,ω',aA.ig cy hC,m3,?_,bG.cut jL lH.1,fun h=>(o2 h).cut _⟩
   intro s x hs
   obtain⟨y,k1,k2,k3⟩:=e s x hs
   obtain⟨y',j1,j2,j3⟩:=e2 s x hs
   rw[k1]at j1
   cases j1
   exact⟨y,k1,qh.mono (aA.ig cy hC) k2,fun h=>(j3 h).cut _⟩
theorem aX.eX {e}(h:aX C e tmps):ak C ω w B (eX e) tmps:=by
 intro s x hx
 have key:∀ {e:Env} {x:qa×Bool},yd s (Abs.eX e)=I x→∃o,yd s e=I (x.1,o)∧x.2=Gl:=by
  intro e
  induction e with
  |nil=>intro x h;simp[Abs.eX,yd]at h
  |cons y e ih=>
   intro x h
   obtain⟨t,v,o⟩:=y
   simp only[Abs.eX,Oa,yd]at h ⊢
   cases hb:Gf t s with
   |true=>simp only[hb,cT,I.injEq]at h ⊢;subst h;exact⟨o,rfl,rfl⟩
   |false=>simp only[hb,cond_false]at h ⊢;exact ih h
 obtain⟨o,h1,h2⟩:=key hx
 obtain⟨v,h3,h4⟩:=h s _ h1
 exact⟨v,h3,h4,by simp[h2]⟩
theorem qu3:∀ {ts:List Nat} {vs:List qa} {us:List Value} {e e':Env} {tmps:Array Value},vO e ts vs=I e'→aK C vs us→(∀t∈ts,t<tmps.size)→ak C ω w B e tmps →
  ts.length=us.length∧((ts.zip us).foldl (fun(tmps:Array Value) (x:Nat×Value)=>tmps.setIfInBounds x.1 x.2) tmps).size=tmps.size∧ak C ω w B e' ((ts.zip us).foldl (fun(tmps:Array Value) (x:Nat×Value)=>tmps.setIfInBounds x.1 x.2) tmps)
 | [],[],us,e,e',tmps,h,hr,_,he=>by
  simp only[vO,I.injEq]at h
  subst h
  cases hr
  exact⟨rfl,rfl,he⟩
 |t::ts,v::vs,us,e,e',tmps,h,hr,hf,he=>by
  simp only[vO]at h
  cases hr with
  |cons _ _ u us hu hr=>
   have N5:ak C ω w B ((t,v,Gl)::e) (tmps.setIfInBounds t u):=by
    intro s x hx
    simp only[yd]at hx
    cases hb:Gf t s with
    |true=>
     have:=En hb
     subst this
     simp only[hb,cT,I.injEq]at hx
     subst hx
     exact⟨u,by simp[hf t (by simp)],hu,by simp⟩
    |false=>
     simp only[hb,cond_false]at hx
     obtain⟨y,h1,h2,h3⟩:=he s x hx
     refine⟨y,?_,h2,h3⟩
     rw[Array.getElem?_setIfInBounds_ne (fun hh=>by subst hh;simp at hb)]
     exact h1
   have ih:=qu3 h hr (tmps:=tmps.setIfInBounds t u) (fun t' Gi=>by simpa using hf t' (by simp[Gi])) N5
   refine⟨by simp[ih.1],?_,?_⟩
   ·simp only[Hq,Hw];rw[ih.2.1];simp
   ·simp only[Hq,Hw];exact ih.2.2
 | [],_::_,_,_,_,_,h,_,_,_=>by simp[vO]at h
 |_::_,[],_,_,_,_,h,_,_,_=>by simp[vO]at h
theorem N6 {b r l}(m:av P C ω w0 C0 hp w)(hb:kc hp b=I (.loop l))(hr:C.β b=I r):∃lp,w.heap[r]?=I (.loop lp)∧q9 P C l lp:=
 m.box b _ r hb hr
theorem G4 {b r l' lp AG}(m:av P C ω w0 C0 hp w)(hr:C.β b=I r)(hg:w.heap[r]?=I (.loop lp))(hl:q9 P C l' AG):
  (setObj r (.loop AG)).run P w=.ok () (jQ w r (.loop AG))∧jk w (jQ w r (.loop AG)) r∧av P C ω w0 C0 (hp.set b (.loop l')) (jQ w r (.loop AG)):=by
 have bh:=(Ep.1 hg).1
 have hu:jk w (jQ w r (.loop AG)) r:=Er bh (by simp)
 exact⟨xG hg (by simp),hu,m.dv hu hr _ (fun _ _ _ _ _ h=>h) ⟨AG,Gz bh,hl⟩⟩
theorem jkd (hx:cg P xc)(m:av P C ω w0 C0 hp w)(e:ak C ω w w0.heap.size env tmps){b r}(hr:C.β b=I r){args us}(ha:aK C args us){v h'}(hy:jY xc b args hp=I (v,h')):
  ∃f nU assign body,(Instr.yield r ⟨us⟩).run P w=.ok (.round r f nU assign body) w∧RoundIn Fence.wide 0 P r f nU assign body w fun ee w'=>∃u,ee=.returned u∧km P C0 w0 C tmps d env ⟨v,Gl,Ge,h'⟩ u w':=by
 unfold jY at hy
 split at hy
 ·rename_i l hl
  split at hy
  ·rename_i e0 hpend bn
   obtain⟨lp,hg,lr⟩:=N6 m hl hr
   have ms:=UQ m
   have gw:aK (C.shared ω w0) args us:=qh.imp (C:=C) (C':=C.shared ω w0) ⟨fun _ _ _ h=>h,fun _ _ h=>h⟩ ha
   have hel:ak (C.shared ω w0) (qV ω) w w.heap.size (eX l.env) lp.tmps:=aX.eX (fun s x hs=>let ⟨v,h1,h2⟩:=lr.env s x hs; ⟨v,h1,qh.imp (C:=C) (C':=C.shared ω w0) ⟨fun _ _ _ h=>h,fun _ _ h=>h⟩ h2⟩)
   obtain⟨hlen,cB,he0⟩:=qu3 bn gw lr.fits hel
   have qD:(lp.params.zip (⟨us⟩:Array Value)).foldl (fun(tmps:Array Value) (x:Nat×Value)=>tmps.setIfInBounds x.1 x.2) lp.tmps=(l.params.zip us).foldl (fun(tmps:Array Value) (x:Nat×Value)=>tmps.setIfInBounds x.1 x.2) lp.tmps:=by
    rw[←Array.foldl_toList,Array.toList_zip,lr.params]
   have UR:lp.params.size=us.length:=by rw[←Array.length_toList,lr.params];exact hlen
   refine⟨lp.fn,(l.params.zip us).foldl (fun(tmps:Array Value) (x:Nat×Value)=>tmps.setIfInBounds x.1 x.2) lp.tmps,lp.assign,lp.body,?_,?_⟩
   ·have AH:(Instr.getLoop r).run P w=.ok lp w:=by simp[Instr.getLoop,pq hg (by simp)]
    have bu:¬((⟨us⟩:Array Value).size≠lp.params.size):=by simp[UR]
    simp only[Instr.yield,Sem.run_bind,AH,Result.andThen_ok,bu,if_false,Sem.run_pure,Sem.run_ite]
    rw[show((lp.params.zip (⟨us⟩:Array Value)).foldl (fun tmps (x:Nat×Value)=>match x with|(t,a)=>tmps.setIfInBounds t a) lp.tmps)=_ from qD]
   ·refine roundIn_of_wpIn trivial ?_
    split at hy
    ·rename_i st bO
     split at hy
     ·rename_i l1 gK
      cases jO:l1.pending.isNone with
      |false=>simp[jO]at hy
      |true=>
       simp only[jO,cT]at hy
       have G5:l1.pending=Ge:=by simpa using jO
       split at hy
       ·rename_i x bF gP
        split at hy
        ·rename_i l2 ov
         cases hy
         refine wpIn_mono (hx (I r) lp.tmps.size lp.assign l.assign _ _ _ lr.assign (fun _=>lr.nr.1) bO (C.shared ω w0) (qV ω) w (C.shared ω w0) { tmps:=_,defers:=[] } w ms he0 cB Marks.nil) ?_
         rintro ee a1 w1 ⟨rfl,q1,C1,ω1,q2,q3,q4,q5⟩
         have vX:=q2.b b r hr
         obtain⟨N7,hg1,US⟩:=N6 q4 gK vX
         have xK:N7.state=.ready:=by rw[US.state,G5]
         have UT:q9 P C1 { l1 with pending:=I .normal } { N7 with state:=.busy }:={ US with state:=rfl,pending:=by rw[US.pending,G5] }
         obtain⟨G6,Gv,m1⟩:=G4 q4 vX hg1 UT
         have gY:(Instr.beginRound r).run P w1=.ok () (jQ w1 r (.loop { N7 with state:=.busy })):=by
          have AH:(Instr.getLoop r).run P w1=.ok N7 w1:=by simp[Instr.getLoop,pq hg1 (by simp)]
          simp only[Instr.beginRound,Sem.run_bind,AH,Result.andThen_ok,G6,xK,Sem.run_pure]
         refine⟨_,gY,?_⟩
         refine wpIn_mono (hx (I r) lp.tmps.size lp.body l.body _ _ _ lr.body (fun _=>lr.nr.2) gP C1 ω1 w (C.shared ω w0) a1 _ m1 (q5.dh Gv vX) q1 q3) ?_
         rintro ee a2 w2 ⟨rfl,p1,C2,ω2,p2,p3,p4,p5⟩
         have qY:=p2.b b r vX
         obtain⟨lJ,qZ,uU⟩:=N6 p4 ov qY
         have AJ:(Instr.getLoop r).run P w2=.ok lJ w2:=by simp[Instr.getLoop,pq qZ (by simp)]
         have fin:∀(UU:LoopState) (pd:Option Code) (ap:Option qi) (bb:Bool),q9 P C2 { l2 with pending:=ap } { lJ with state:=UU,pending:=pd } →
           km P C0 w0 C tmps d env ⟨.bool bb,Gl,Ge,y5 hp.length (.bool Gb) (bF.heap.set b (.loop { l2 with pending:=ap }))⟩ (.bool bb) (jQ w2 r (.loop { lJ with state:=UU,pending:=pd })):=by
          intro UU pd ap bb uV
          obtain⟨jR,hu2,m2⟩:=G4 p4 qY qZ uV
          have:=quv (d:=d) (v:=.bool bb) (ow:=false) (u:=.bool bb) m e m2 (aA.le_trans q2 p2) (.bool bb) (by simp)
          exact this
         cases x with
         |normal=>
          have uV:q9 P C2 { l2 with pending:=Ge } { lJ with state:=.ready,pending:=Ge }:={ uU with state:=rfl,pending:=rfl }
          obtain⟨jR,_,_⟩:=G4 p4 qY qZ uV
          exact⟨.bool Gb,_,by simp only[Instr.endRound,Sem.run_bind,AJ,Result.andThen_ok,Option.isNone_none,if_true,jR,Sem.run_pure],_,rfl,fin _ _ _ Gb uV⟩
         |ret=>
          have uV:q9 P C2 { l2 with pending:=I .ret } { lJ with state:=.done,pending:=I .ret }:={ uU with state:=rfl,pending:=rfl }
          obtain⟨jR,_,_⟩:=G4 p4 qY qZ uV
          exact⟨.bool Gl,_,by simp only[Instr.endRound,Sem.run_bind,AJ,Result.andThen_ok,Hr,Gc,if_false,jR,Sem.run_pure],_,rfl,fin _ _ _ Gl uV⟩
         |exit id=>
          have uV:q9 P C2 { l2 with pending:=I (.exit id) } { lJ with state:=.done,pending:=I (.exit id) }:={ uU with state:=rfl,pending:=rfl }
          obtain⟨jR,_,_⟩:=G4 p4 qY qZ uV
          exact⟨.bool Gl,_,by simp only[Instr.endRound,Sem.run_bind,AJ,Result.andThen_ok,Hr,Gc,if_false,jR,Sem.run_pure],_,rfl,fin _ _ _ Gl uV⟩
        ·cases hy
       ·cases hy
     ·cases hy
    ·cases hy
  ·cases hy
 ·cases hy
theorem jhs {h md r h0 dst al cq res}(dS:qw P p)(hx:cg P xc)(m:av P C ω w0 C0 hp w)(e:ak C ω w w0.heap.size env a.tmps){c}(ho:o.op=.call c){f}(ox:c.callee=.value f)
  (hc:Aa P h md r dst c=I cq) (hs:j8 p xc h0 al env hp cq=I res):dW P C C0 w0 a d env o w res:=by
 unfold Aa at hc
 rw[ox]at hc
 simp only[]at hc
 split at hc
 ·rename_i f' args' h1 h2
  cases hc
  generalize md.at r=md at hs
  simp only[j8,iI]at hs
  split at hs
  ·rename_i k first captured vs e1 e2
   have xM:=zq e.bU h1 e1
   have UW:=El e.bU h2 e2
   generalize gA:a.eval f=fv at xM
   cases xM with
   |fn g g' _ _ as bs hf ha hb=>
    simp only[eZ]at hf
    subst hf
    have hall:aK C (first++vs++captured) (as++c.args.toList.map a.eval++bs):=aK.append (aK.append ha UW) hb
    have ik:Enters P k→(execOp a.eval o).run P w=.ok (.enter k ⟨as++c.args.toList.map a.eval++bs⟩) w:=by
     intro lI
     have dQ:(⟨as⟩:Array Value)++Array.map a.eval c.args++(⟨bs⟩:Array Value)=⟨as++c.args.toList.map a.eval++bs⟩:=by
      apply Ho;simp
     simp[execOp,ho,resolve,ox,gA,Deferred.ofValue,invoke,dQ,qr6 lI]
    cases md with
    |fg rk=>
     simp only[]at hs
     cases uM:(first++vs++captured).isEmpty with
     |false=>
      rw[uM]at hs
      simp only[cond_false]at hs
      cases lf:zr 0 (first++vs++captured)with
      |false=>rw[lf]at hs;cases hs
      |true=>
       rw[lf]at hs
       simp only[cT]at hs
       split at hs
       ·rename_i v ow rh
        obtain⟨lI,li,ri⟩:=N1 dS hx rh lf
        have lK:aK (.bL C.K) (first++vs++captured) (as++c.args.toList.map a.eval++bs):=
         qh.shift (C:=C) (C':=.bL C.K) 0 (fun _ _ _ h=>h) (fun b r bh=>by omega) hall lf
        refine .inr (.inr (.inl ⟨k,_,ik lI,CallsIn.mono (ri C.K w _ m.tabs m.know m.cP lK) ?_⟩))
        rintro ee w' ⟨u,K',rfl,q1,q2,q3,q4,q5,q6,q7⟩
        exact⟨u,rfl,jem m e q1 q2 q3 q4 q5 q6 q7 hs⟩
       ·cases hs
     |true=>
      rw[uM]at hs
      simp only[cT]at hs
      split at hs
      ·rename_i es hm
       split at hs
       ·rename_i h' hn
        obtain rfl:=zt hs
        obtain⟨hh,rfl⟩:=lE hn
        obtain⟨lI,lA⟩:=dS.maps k es hm
        have kA:as++c.args.toList.map a.eval++bs=[]:=by
         have h1:first++vs++captured=[]:=Hk.1 uM
         have h2:=hall.length
         rw[h1]at h2
         exact List.eq_nil_of_length_eq_zero h2
        refine .inr (.inr (.inl ⟨k,_,ik lI,?_⟩))
        rw[kA]
        refine CallsIn.mono (lA C.K w m.tabs m.know m.cP) ?_
        rintro ee w' ⟨q,K',bQ,clock,rfl,q1,q2,q3,q4,q5,q6,q7,q8⟩
        exact⟨_,rfl,jgz m e q1 q2 q3 q4 q5 hh q6 q7 q8⟩
       ·cases hs
      ·cases hs
    |bL=>
     simp only[]at hs
     cases uM:zr 0 (first++vs++captured)with
     |false=>rw[uM]at hs;cases hs
     |true=>
      rw[uM]at hs
      simp only[cT]at hs
      split at hs
      ·rename_i v ow rh
       cases hs
       obtain⟨lI,li,ri⟩:=N1 dS hx rh uM
       have lK:aK (.bL C.K) (first++vs++captured) (as++c.args.toList.map a.eval++bs):=
        qh.shift (C:=C) (C':=.bL C.K) 0 (fun _ _ _ h=>h) (fun b r bh=>by omega) hall uM
       refine .inr (.inr (.inl ⟨k,_,ik lI,CallsIn.mono (ri C.K w _ m.tabs m.know m.cP lK) ?_⟩))
       rintro ee w' ⟨u,K',rfl,q1,q2,q3,q4,q5,q6,q7⟩
       exact⟨u,rfl,q3p m e q1 q2 q3 q4 q5 li q6 q7⟩
      ·cases hs
    |red=>
     simp only[]at hs
     split at hs
     ·rename_i xs Eu
      cases lf:zr 0 xs with
      |false=>rw[lf]at hs;cases hs
      |true=>
       rw[lf]at hs
       simp only[cT]at hs
       split at hs
       ·rename_i v ow rh
        split at hs
        ·rename_i v' G3 hrd
         cases hs
         obtain⟨lI,li,ri⟩:=N1 dS hx rh lf
         refine .inr (.inr (.inl ⟨k,_,ik lI,CallsIn.mono (ri (kq C hp w) w _ m.tabs (fun r o u h=>(N0 m h).1) (fun r o u h=>(N0 m h).2) (qu0 m Eu hall lf)) ?_⟩))
         rintro ee w' ⟨u,K',rfl,q1,q2,q3,q4,q5,q6,q7⟩
         exact⟨u,rfl,jha m e q1 q2 q3 q4 q5 q6 q7 hrd⟩
        ·cases hs
       ·cases hs
     ·cases hs
    |shr=>
     simp only[]at hs
     split at hs
     ·rename_i v ow h' GV
      cases hs
      ·obtain⟨lI,mX⟩:=GU dS hx GV
       have lK:aK (C.shared ω w0) (first++vs++captured) (as++c.args.toList.map a.eval++bs):=qh.imp (C:=C) (C':=C.shared ω w0) ⟨fun _ _ _ h=>h,fun _ _ h=>h⟩ hall
       refine .inr (.inr (.inl ⟨k,_,ik lI,CallsIn.mono (mX _ _ _ _ lK (UQ m)) ?_⟩))
       rintro ee w' ⟨u,C',ω',rfl,q1,q2,q3,q4⟩
       exact⟨u,rfl,quv m e q2 q1 q3 q4⟩
     ·cases hs
  ·rename_i b vs e1 e2
   have xM:=zq e.bU h1 e1
   have UW:=El e.bU h2 e2
   generalize gA:a.eval f=fv at xM
   cases md with
   |bL=>simp at hs
   |fg _=>simp at hs
   |red=>simp at hs
   |shr=>
    simp only[]at hs
    split at hs
    ·rename_i v h' hy
     obtain rfl:=zt hs
     cases xM with
     |fn g g' _ _ as bs hf ha hb=>
      obtain⟨q,oz,rfl⟩:=hf
      cases ha
      cases hb
      obtain⟨ff,nU,assign,body,k1,k2⟩:=jkd (d:=d) hx m e oz UW hy
      refine .inr (.inr (.inr ⟨q,ff,nU,assign,body,?_,k2⟩))
      have dQ:Array.map a.eval c.args=⟨c.args.toList.map a.eval⟩:=by
       apply Ho;simp
      rw[←dQ]at k1
      simp[execOp,ho,resolve,ox,gA,Deferred.ofValue,invoke,k1]
    ·cases hs
  ·cases hs
 ·cases hc
theorem jtu {h md r h0 dst al cq res}(dS:qw P p)(hx:cg P xc)(m:av P C ω w0 C0 hp w)(e:ak C ω w w0.heap.size env a.tmps)
  (mW:cq.gI=Ge) (hc:cw P h md r dst o.op=I cq) (hs:j8 p xc h0 al env hp cq=I res):dW P C C0 w0 a d env o w res:=by
 cases ho:o.op<;>rw[ho]at hc
 case move x=>exact jf4 m e ho hc hs
 case assign x=>exact jaj m e ho hc hs
 case pick=>exact jgm m e ho hc hs
 case alloc=>exact jb5 m e ho hc hs
 case box=>exact jng m e ho hc hs
 case build=>exact jdi m e ho hc hs
 case buildSlice=>exact qzg m e ho hc hs
 case load=>exact jgy m e ho hc hs
 case store=>exact jb9 m e ho mW hc hs
 case nilCheck=>exact q5u m e ho hc hs
 case binOp=>exact jo4 m e ho hc hs
 case unOp=>exact js7 m e ho hc hs
 case convert=>exact ji1 m e ho hc hs
 case makeFunc=>exact q3s m e ho hc hs
 case makeMap=>exact q65 m e ho hc hs
 case makeSlice=>exact q1p m e ho hc hs
 case slice=>exact jd0 m e ho hc hs
 case fieldAddr=>exact q11 m e ho hc hs
 case field=>exact jd1 m e ho hc hs
 case indexAddr=>exact q1i m e ho hc hs
 case index=>exact jdu m e ho hc hs
 case range=>exact jc1 m e ho hc hs
 case extract=>exact q68 m e ho hc hs
 case call c=>
  have dA:Aa P h md r dst c=I cq:=hc
  by_cases hv:∃f,c.callee=.value f
  ·obtain⟨f,hf⟩:=hv
   exact jhs dS hx m e ho hf dA hs
  ·exact q7b m e ho (fun f hf=>hv ⟨f,hf⟩) dA hs
 case lookup=>exact q8t m e ho hc hs
 case mapUpdate=>exact qq6 m e (.inl ho) hc hs
 case insert t x y z=>exact qq6 (h:=h) (md:=md) (r:=r) (dst:=dst) m e (.inr ho) (show cw P h md r dst (.mapUpdate t x y z)=I cq from hc) hs
 case next it b=>exact jii m e ho hc hs
 all_goals (simp[cw]at hc;done)
end
end Go.Abs
