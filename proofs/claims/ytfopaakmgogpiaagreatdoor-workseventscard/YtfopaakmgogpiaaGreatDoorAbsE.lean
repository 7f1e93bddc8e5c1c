/- Each operation by itself, third part. -/
import Derived.Test.YtfopaakmgogpiaaGreatDoorAbsD
import Derived.RangeFuncLeaves
set_option linter.unusedVariables false
set_option linter.unusedSimpArgs false
open Option renaming some→I,map_eq_some_iff→E3,none→E9,isSome_none→Gy,isNone_some→N3,map→So
open Bool renaming and_eq_true→Ef,true→E6,false_eq_true→E7,false→Gd,or_eq_true→If
open Nat renaming eq_of_beq_eq_true→En,le_of_ble_eq_true→E0,beq→Ga,le_trans→Gb,ble→Ge,lt_of_lt_of_le→Gz,blt→Hh,zero_add→Ma,blt_eq→N0
open Array renaming getElem?_eq_some_iff→E1,getD_eq_getD_getElem?→Mi,ext'→N1,replicate→R9
open List renaming mem_of_getElem?→Gc,getElem?_eq_some_iff→Gm,all_eq_true→Ha,length_take→Hb,getElem?_map→Hq,getElem?_set_ne→H6,getElem?_eq_getElem→Mj,isEmpty_iff→Mn,length_set→Nf,length_map→Ny,zip_cons_cons→N2,flatMap_cons→N4,length_drop→R5,foldl_cons→Sc,mem_cons→Sf,all_cons→Sj,map_cons→Sm
namespace Go.Abs
section
variable {P:Program}{p:qt}{xc:XC}{C C0:ay}{ω:Nat→Option Loc}{w w0:World}{hp:j8}{env:Env}{a:Act}{o:Oper}{d:Loc}{h:qb}{md:jc}{r h0:Nat}{dst:Option Nat}{al:Option (List Nat)}{cr:qw}{res:qq}
theorem jcx (m:av P C ω w0 C0 hp w)(e:aj C ω w w0.heap.size env a.tmps){t:TypeId}{ps:Array (Nat×Operand)}(ho:o.op=.build t ps)(hc:cx P h md r dst (.build t ps)=I cr)(hs:j9 p xc h0 al env hp cr=I res):dW P C C0 w0 a d env o w res:=by
 simp only[cx]at hc
 split at hc
 ·rename_i fs z ht hz
  split at hc
  ·rename_i hall
   obtain⟨ft,lX,rfl⟩:=E3.1 hc
   simp only[j9,zh]at hs
   split at hs
   ·rename_i qs hq
    split at hs
    ·rename_i cs hf
     obtain rfl:=zx hs
     exact yc m e (qw4 e.bV ho ht hz (fun f hf=>Ha.1 hall f hf) lX hq hf)
    ·cases hs
   ·cases hs
  ·cases hc
 ·rename_i len el z ht hz
  split at hc
  ·rename_i n hn
   obtain⟨ft,lX,rfl⟩:=E3.1 hc
   simp only[j9,zh]at hs
   split at hs
   ·rename_i qs hq
    split at hs
    ·rename_i cs hf
     obtain rfl:=zx hs
     exact yc m e (qzs e.bV ho ht hz hn lX hq hf)
    ·cases hs
   ·cases hs
  ·cases hc
 ·cases hc
theorem qyl (m:av P C ω w0 C0 hp w)(e:aj C ω w w0.heap.size env a.tmps){t:TypeId}{n:Nat}{ps:Array (Nat×Operand)}(ho:o.op=.buildSlice t n ps)(hc:cx P h md r dst (.buildSlice t n ps)=I cr)(hs:j9 p xc h0 al env hp cr=I res):dW P C C0 w0 a d env o w res:=by
 simp only[cx]at hc
 split at hc
 ·rename_i el ht
  split at hc
  ·rename_i sz z ag es hn hz cL lX
   split at hc
   ·rename_i hb
    cases hc
    simp only[Ef,decide_eq_true_eq,beq_iff_eq]at hb
    generalize (dst.map (h.vec.contains ·)).getD Gd=bb at hs
    cases bb with
    |true=>
     simp only[if_true,j9,zj]at hs
     split at hs
     ·rename_i qs hq
      split at hs
      ·rename_i xs hx
       cases zS:zu 0 xs with
       |false=>rw[zS]at hs;cases hs
       |true=>
        rw[zS]at hs
        simp only[cT]at hs
        split at hs
        ·rename_i h' cZ
         obtain rfl:=zx hs
         exact .inl (jia m e ho ht hn hz hb.1.1.1.1 hb.1.1.1.2 hb.1.1.2 lX hq hx zS cZ)
        ·cases hs
      ·cases hs
     ·cases hs
    |false=>
    simp only[E7,if_false,j9,zh]at hs
    split at hs
    ·rename_i qs hq
     split at hs
     ·rename_i xs hx
      cases hs
      exact .inl (qzl m e ho ht hn hz hb.1.1.1.1 hb.1.1.1.2 hb.1.1.2 lX hq hx)
     ·cases hs
    ·cases hs
   ·cases hc
  ·cases hc
 ·cases hc
theorem q0z (m:av P C ω w0 C0 hp w)(e:aj C ω w w0.heap.size env a.tmps){t:TypeId}{x y:Operand}(ho:o.op=.makeSlice t x y)(hc:cx P h md r dst (.makeSlice t x y)=I cr)(hs:j9 p xc h0 al env hp cr=I res):dW P C C0 w0 a d env o w res:=by
 simp only[cx]at hc
 split at hc
 ·rename_i el ht
  split at hc
  ·rename_i sz b z ag x' y' hn hb hz cL h1 h2
   split at hc
   ·cases hc
    generalize hR:(if(So (fun x=>h.bC.contains x) dst).getD Gd=E6 then I r else E9)=R at hs
    cases R with
    |some rr=>
     simp only[j9,zj]at hs
     split at hs
     ·rename_i n c e1 e2
      cases hk:(Ga n c&&Ge n 1073741824&&Ge b 4096&&Ga z.length sz&&Hh 0 sz&&z.all ze)with
      |false=>simp[hk]at hs
      |true=>
       simp only[hk,cT]at hs
       split at hs
       ·rename_i h' cZ
        obtain rfl:=zx hs
        simp only[Ef]at hk
        obtain⟨⟨⟨⟨⟨k1,k2⟩,k3⟩,k4⟩,k5⟩,k6⟩:=hk
        obtain rfl:=En k1
        exact .inl (qyz m e ho ht hn hb hz (N0.mp k5) (En k4) h1 h2 e1 e2 (E0 k2) (E0 k3) cZ)
       ·cases hs
     ·cases hs
    |none=>
     simp only[j9,zh]at hs
     split at hs
     ·rename_i n c e1 e2
      cases hk:(Ga n c&&Ge n 1073741824&&Ge b 4096&&Ga z.length sz&&Hh 0 sz&&z.all ze)with
      |false=>simp[hk]at hs
      |true=>
       simp only[hk,cT]at hs
       cases hs
       simp only[Ef]at hk
       obtain⟨⟨⟨⟨⟨k1,k2⟩,k3⟩,k4⟩,k5⟩,k6⟩:=hk
       obtain rfl:=En k1
       exact .inl (q5v m e ho ht hn hb hz (N0.mp k5) (En k4) h1 h2 e1 e2 (E0 k2) (E0 k3))
     ·cases hs
   ·cases hc
  ·cases hc
 ·cases hc
theorem jbc (m:av P C ω w0 C0 hp w)(e:aj C ω w w0.heap.size env a.tmps){t:TypeId}{x:Operand}{lo hi mx:Option Operand}(ho:o.op=.slice t x lo hi mx)(hc:cx P h md r dst (.slice t x lo hi mx)=I cr)(hs:j9 p xc h0 al env hp cr=I res):dW P C C0 w0 a d env o w res:=by
 cases mx with
 |some _=>simp[cx]at hc
 |none=>
  simp only[cx]at hc
  split at hc
  ·rename_i x' li fH h1 h2 h3
   split at hc
   ·rename_i ht
    cases hc
    simp only[j9,zh]at hs
    split at hs
    ·rename_i s hv
     split at hs
     ·rename_i j hj
      split at hs
      ·rename_i i fH
       obtain rfl:=zx hs
       exact yc m e (q40 e.bV ho ht h1 h2 h3 hv hj fH)
      ·cases hs
     ·cases hs
    ·cases hs
   ·rename_i el ht
    obtain⟨sz,hn,rfl⟩:=E3.1 hc
    simp only[j9,zh]at hs
    split at hs
    ·rename_i n cK xs hv
     cases hk:(Ga sz cK||xs.isEmpty)with
     |false=>simp[hk]at hs
     |true=>
      simp only[hk,cT]at hs
      split at hs
      ·rename_i j hj
       split at hs
       ·rename_i i fH
        obtain rfl:=zx hs
        refine yc m e (q0f e.bV ho ht hn h1 h2 h3 hv (.inr ⟨n,cK,xs,rfl,?_,hj,fH,rfl⟩))
        rcases If _ _▸hk with hk|hk
        ·exact .inl (En hk)
        ·exact .inr (Mn.1 hk)
       ·cases hs
      ·cases hs
    ·rename_i b q len hv
     split at hs
     ·rename_i j hj
      split at hs
      ·rename_i i fH
       cases hk:(Ga i 0||Hh i j)with
       |false=>simp[hk]at hs
       |true=>
        simp only[hk,cT]at hs
        obtain rfl:=zx hs
        refine yc m e (q0f e.bV ho ht hn h1 h2 h3 hv (.inl ⟨b,q,len,rfl,hj,fH,?_,rfl⟩))
        rcases If _ _▸hk with hk|hk
        ·exact .inl (En hk)
        ·exact .inr (N0.mp hk)
      ·cases hs
     ·cases hs
    ·rename_i b bz len hv
     split at hs
     ·rename_i j hj
      split at hs
      ·rename_i i fH
       cases hk:Ga i 0 with
       |false=>simp[hk]at hs
       |true=>
        simp only[hk,cT]at hs
        obtain rfl:=zx hs
        obtain rfl:=En hk
        exact yc m e (q9u e.bV ho ht hn h1 h2 h3 hv hj fH)
      ·cases hs
     ·cases hs
    ·cases hs
   ·rename_i n el ht
    obtain⟨sz,hn,rfl⟩:=E3.1 hc
    simp only[j9,zh]at hs
    split at hs
    ·rename_i b q hv
     split at hs
     ·rename_i j hj
      split at hs
      ·rename_i i fH
       cases hk:(Ga i 0||Hh i j)with
       |false=>simp[hk]at hs
       |true=>
        simp only[hk,cT]at hs
        obtain rfl:=zx hs
        refine yc m e (q5e e.bV ho ht hn h1 h2 h3 hv hj fH ?_)
        rcases If _ _▸hk with hk|hk
        ·exact .inl (En hk)
        ·exact .inr (N0.mp hk)
      ·cases hs
     ·cases hs
    ·cases hs
   ·cases hc
  ·cases hc
theorem q06 (m:av P C ω w0 C0 hp w)(e:aj C ω w w0.heap.size env a.tmps){t:TypeId}{x:Operand}{i:Nat}(ho:o.op=.fieldAddr t x i)(hc:cx P h md r dst (.fieldAddr t x i)=I cr)(hs:j9 p xc h0 al env hp cr=I res):dW P C C0 w0 a d env o w res:=by
 simp only[cx]at hc
 split at hc
 ·rename_i fs ht
  split at hc
  ·rename_i f hf
   split at hc
   ·rename_i ag n x' cL hn h1
    split at hc
    ·rename_i hb
     cases hc
     simp only[Ef,decide_eq_true_eq]at hb
     simp only[j9,zh]at hs
     split at hs
     ·rename_i b q hv
      obtain rfl:=zx hs
      exact yc m e (qp0 (ag:=ag) e.bV ho ht hf hn hb.1 h1 hv (.inl ⟨b,q,rfl,rfl⟩))
     ·rename_i cs hv
      split at hs
      ·rename_i z hz
       cases hk:Bool.xor ag z.isAgg with
       |true=>simp[hk]at hs
       |false=>
        simp only[hk,cond_false]at hs
        obtain rfl:=zx hs
        exact yc m e (qp0 e.bV ho ht hf hn hb.1 h1 hv (.inr ⟨cs,z,rfl,hz,hk,rfl⟩))
      ·cases hs
     ·rename_i b bz q hv
      obtain rfl:=zx hs
      exact yc m e (qzr e.bV ho ht hf hn hb.1 h1 hv)
     ·cases hs
    ·cases hc
   ·cases hc
  ·cases hc
 ·cases hc
theorem jbf (m:av P C ω w0 C0 hp w)(e:aj C ω w w0.heap.size env a.tmps){t:TypeId}{x:Operand}{i:Nat}(ho:o.op=.field t x i)(hc:cx P h md r dst (.field t x i)=I cr)(hs:j9 p xc h0 al env hp cr=I res):dW P C C0 w0 a d env o w res:=by
 simp only[cx]at hc
 split at hc
 ·rename_i fs ht
  split at hc
  ·rename_i f hf
   split at hc
   ·rename_i ag n x' cL hn h1
    cases hc
    simp only[j9,zh]at hs
    split at hs
    ·rename_i cs hv
     obtain⟨z,hz,rfl⟩:=ul hs
     exact yc m e (jbn e.bV ho ht hf cL hn h1 hv hz)
    ·cases hs
   ·cases hc
  ·cases hc
 ·cases hc
theorem q1g (m:av P C ω w0 C0 hp w)(e:aj C ω w w0.heap.size env a.tmps){t:TypeId}{x i:Operand}(ho:o.op=.indexAddr t x i)(hc:cx P h md r dst (.indexAddr t x i)=I cr)(hs:j9 p xc h0 al env hp cr=I res):dW P C C0 w0 a d env o w res:=by
 simp only[cx]at hc
 split at hc
 ·rename_i x' i' h1 h2
  split at hc
  ·rename_i el ht
   split at hc
   ·rename_i sz hn
    split at hc
    ·cases hc
     simp only[j9,zh]at hs
     split at hs
     ·rename_i nl cK xs iv hv hi
      cases hk:(Ga sz cK||xs.isEmpty)with
      |false=>simp[hk]at hs
      |true=>
       simp only[hk,cT]at hs
       split at hs
       ·rename_i j hj
        split at hs
        ·rename_i z hz
         obtain rfl:=zx hs
         have bA:xs.isEmpty=Gd:=by
          have:=(Gm.1 hz).1
          cases xs with
          |nil=>simp at this
          |cons _ _=>rfl
         rw[bA,Bool.or_false]at hk
         obtain rfl:=En hk
         exact yc m e (qpx e.bV ho ht hn h1 h2 hv hi (.inr ⟨nl,xs,z,j,rfl,hj,hz,rfl⟩))
        ·cases hs
       ·cases hs
     ·rename_i b q len iv hv hi
      split at hs
      ·rename_i j hj
       obtain rfl:=zx hs
       exact yc m e (qpx e.bV ho ht hn h1 h2 hv hi (.inl ⟨b,q,len,j,rfl,hj,rfl⟩))
      ·cases hs
     ·rename_i b bz len iv hv hi
      split at hs
      ·rename_i j hj
       obtain rfl:=zx hs
       exact yc m e (qzo e.bV ho ht hn h1 h2 hv hi hj)
      ·cases hs
     ·cases hs
    ·cases hc
   ·cases hc
  ·rename_i n el ht
   split at hc
   ·rename_i sz ag hn cL
    split at hc
    ·cases hc
     simp only[j9,zh]at hs
     split at hs
     ·rename_i b q iv hv hi
      split at hs
      ·rename_i j hj
       obtain rfl:=zx hs
       exact yc m e (qqt (ag:=ag) e.bV ho ht hn h1 h2 hv hi hj (.inl ⟨b,q,rfl,rfl⟩))
      ·cases hs
     ·rename_i cs iv hv hi
      split at hs
      ·rename_i j hj
       split at hs
       ·rename_i z hz
        cases hk:Bool.xor ag z.isAgg with
        |true=>simp[hk]at hs
        |false=>
         simp only[hk,cond_false]at hs
         obtain rfl:=zx hs
         exact yc m e (qqt e.bV ho ht hn h1 h2 hv hi hj (.inr ⟨cs,z,rfl,hz,hk,rfl⟩))
       ·cases hs
      ·cases hs
     ·cases hs
    ·cases hc
   ·cases hc
  ·cases hc
 ·cases hc
theorem jcz (m:av P C ω w0 C0 hp w)(e:aj C ω w w0.heap.size env a.tmps){t:TypeId}{x i:Operand}(ho:o.op=.index t x i)(hc:cx P h md r dst (.index t x i)=I cr)(hs:j9 p xc h0 al env hp cr=I res):dW P C C0 w0 a d env o w res:=by
 simp only[cx]at hc
 split at hc
 ·rename_i x' i' h1 h2
  split at hc
  ·rename_i ht
   cases hc
   simp only[j9,zh]at hs
   split at hs
   ·rename_i s iv hv hi
    split at hs
    ·rename_i j hj
     split at hs
     ·rename_i c dk
      obtain rfl:=zx hs
      exact yc m e (q48 e.bV ho ht h1 h2 hv hi hj dk)
     ·cases hs
    ·cases hs
   ·cases hs
  ·rename_i n el ht
   split at hc
   ·rename_i sz ag hn cL
    cases hc
    simp only[j9,zh]at hs
    split at hs
    ·rename_i cs iv hv hi
     split at hs
     ·rename_i j hj
      obtain⟨z,hz,rfl⟩:=ul hs
      exact yc m e (jb4 e.bV ho ht cL hn h1 h2 hv hi hj hz)
     ·cases hs
    ·cases hs
   ·cases hc
  ·cases hc
 ·cases hc
theorem q54 (m:av P C ω w0 C0 hp w)(e:aj C ω w w0.heap.size env a.tmps){c:Call}(ho:o.op=.call c)(oc:∀f,c.callee≠.value f)(hc:zi P h md r dst c=I cr)(hs:j9 p xc h0 al env hp cr=I res):dW P C C0 w0 a d env o w res:=by
 unfold zi at hc
 split at hc
 ·rename_i f hf;exact absurd hf (oc f)
 ·rename_i dB
  split at hc
  ·rename_i x t dK dY
   split at hc
   ·rename_i ht
    obtain⟨x',hx,rfl⟩:=E3.1 hc
    simp only[j9,zh]at hs
    split at hs<;>first|(exfalso;omega)|skip
    ·rename_i s _ hv
     obtain rfl:=zx hs
     exact yc m e (Sg e.bV ho dB dK dY hx hv (.inl ⟨ht,s,rfl,rfl⟩))
    ·cases hs
   ·rename_i el ht
    obtain⟨x',hx,rfl⟩:=E3.1 hc
    simp only[j9,zh]at hs
    split at hs<;>first|(exfalso;omega)|skip
    ·rename_i n sz xs _ hv
     obtain rfl:=zx hs
     exact yc m e (Sg e.bV ho dB dK dY hx hv (.inr ⟨⟨el,ht⟩,.inl ⟨n,sz,xs,rfl,rfl⟩⟩))
    ·rename_i b q n _ hv
     obtain rfl:=zx hs
     exact yc m e (Sg e.bV ho dB dK dY hx hv (.inr ⟨⟨el,ht⟩,.inr ⟨b,q,rfl⟩⟩))
    ·rename_i b bz n _ hv
     obtain rfl:=zx hs
     exact yc m e (jf2 e.bV ho dB dK dY hx hv ht)
    ·cases hs
   ·cases hc
  ·cases hc
 ·rename_i dB
  split at hc
  ·rename_i x t dK dY
   split at hc
   ·rename_i el ht
    obtain⟨x',hx,rfl⟩:=E3.1 hc
    simp only[j9,zh]at hs
    split at hs<;>first|(exfalso;omega)|skip
    ·rename_i sz xs _ hv
     obtain rfl:=zx hs
     refine yc m e ?_
     have ha:c.args=#[x]:=by apply N1;simpa using dK
     have jS:c.argTypes=#[t]:=by apply N1;simpa using dY
     refine⟨.int .i64 0,?_,.int _ _⟩
     have hq:∃b,a.eval x=.slice b 0 0:=by
      rcases(zt e.bV hx hv).cG with⟨_,_,h⟩|⟨h,_⟩|⟨h,_⟩
      ·exact⟨_,h⟩
      ·cases h
      ·cases h
     obtain⟨b,hq⟩:=hq
     simp[execOp,ho,resolve,dB,ha,jS,invoke,builtin,Builtin.cap_,run_underlying ht,hq,goInt]
    ·cases hs
   ·cases hc
  ·cases hc
 ·rename_i dB
  split at hc
  ·rename_i x y t u dK dY
   split at hc
   ·rename_i el ut ht hu
    split at hc
    ·rename_i iN
     split at hc
     ·rename_i sz b x' y' hn hb h1 h2
      cases hc
      have hzero:∃z,ek P el=I z∧z.length=sz:=by
       have hz:=(Ef _ _▸iN).2
       rw[hn]at hz
       cases xa:ek P el with
       |none=>simp[xa]at hz
       |some z=>exact⟨z,rfl,by simpa[xa]using hz⟩
      generalize (dst.map (h.vec.contains ·)).getD Gd=bb at hs
      cases bb with
      |true=>
       simp only[if_true,j9,zj]at hs
       split at hs
       ·rename_i SI vy e1 e2
        split at hs
        ·rename_i ys cy
         cases hk:(Ge ys.length 1073741824&&Ge b 4096&&Hh 0 sz&&!ys.isEmpty&&zu 0 ys&&Hh r 1000)with
         |false=>rw[hk]at hs;cases hs
         |true=>
          rw[hk]at hs
          simp only[cT]at hs
          split at hs
          ·rename_i h' cZ
           obtain rfl:=zx hs
           simp only[Ef]at hk iN
           obtain⟨⟨⟨⟨⟨k1,k2⟩,k3⟩,k4⟩,k5⟩,_⟩:=hk
           exact .inl (jev m e ho dB dK dY ht hu iN.1 hn hb h1 h2 e1 e2 cy (E0 k1) (by intro h;rw[h]at k4;cases k4) (E0 k2) k5 hzero cZ)
          ·cases hs
        ·cases hs
       ·rename_i bx bz len vy e1 e2
        split at hs
        ·rename_i cK df xs gd
         split at hs
         ·rename_i ys cy
          cases hk:(Ga bz df&&Ga sz cK&&Ge len xs.length&&Ge (len+ys.length) 1073741824&&Ge b 4096&&Hh 0 sz&&zu 0 ys&&Hh r 1000)with
          |false=>rw[hk]at hs;cases hs
          |true=>
           rw[hk]at hs
           simp only[cT]at hs
           split at hs
           ·rename_i h' bq
            obtain rfl:=zx hs
            simp only[Ef]at hk iN
            obtain⟨⟨⟨⟨⟨⟨⟨k1,k2⟩,k3⟩,k4⟩,k5⟩,k6⟩,k7⟩,_⟩:=hk
            obtain rfl:=En k1
            obtain rfl:=En k2
            exact .inl (jg9 m e ho dB dK dY ht hu iN.1 hn hb h1 h2 e1 e2 cy gd (E0 k3) (E0 k4) (E0 k5) k7 hzero bq)
           ·cases hs
         ·cases hs
        ·cases hs
       ·cases hs
      |false=>
      simp only[E7,if_false]at hs
      generalize hR:(if(So (fun x=>h.bC.contains x) dst).getD Gd=E6 then I r else E9)=R at hs
      cases R with
      |some rr=>
       simp only[j9,zj]at hs
       split at hs
       ·rename_i cK vy e1 e2
        cases fY:((kg env x').isSome&&Ga sz cK)with
        |false=>simp[fY]at hs
        |true=>
         simp only[fY,cT]at hs
         split at hs
         ·rename_i ys cy
          cases cY:(Ge ys.length 1073741824&&Ge b 4096&&Hh 0 sz)with
          |false=>simp[cY]at hs
          |true=>
           simp only[cY,cT]at hs
           split at hs
           ·rename_i h' cZ
            cases hs
            simp only[Ef]at cY iN fY
            obtain⟨⟨k2,k3⟩,k4⟩:=cY
            refine .inl (q1e m e ho dB dK dY ht hu iN.1 hn hb h1 h2 e1 e2 cy fY.1 rfl (E0 k2) (E0 k3) ?_ (En fY.2) cZ)
            have hz:=iN.2
            rw[hn]at hz
            cases xa:ek P el with
            |none=>simp[xa]at hz
            |some z=>exact⟨z,rfl,by simpa[xa]using hz⟩
           ·cases hs
         ·cases hs
       ·cases hs
      |none=>
       simp only[j9,zh]at hs
       split at hs
       ·rename_i n cK xs vy e1 e2
        cases fY:(n||(kg env x').isSome)with
        |false=>simp[fY]at hs
        |true=>
         simp only[fY,cT]at hs
         split at hs
         ·rename_i ys cy
          cases cY:((Ga sz cK||(xs.isEmpty&&n))&&Ge (xs.length+ys.length) 1073741824&&Ge b 4096&&Hh 0 sz)with
          |false=>simp[cY]at hs
          |true=>
           simp only[cY,cT]at hs
           cases hs
           simp only[Ef]at cY iN
           obtain⟨⟨⟨k1,k2⟩,k3⟩,k4⟩:=cY
           refine .inl (q8v m e ho dB dK dY ht hu iN.1 hn hb h1 h2 e1 e2 cy (by simpa using fY) ?_ (E0 k2) (E0 k3) ?_)
           ·rcases If _ _▸k1 with k1|k1
            ·exact .inl (En k1)
            ·simp only[Ef,Mn]at k1;exact .inr k1
           ·have hz:=iN.2
            rw[hn]at hz
            cases xa:ek P el with
            |none=>simp[xa]at hz
            |some z=>exact⟨z,rfl,by simpa[xa]using hz⟩
         ·cases hs
       ·cases hs
     ·cases hc
    ·cases hc
   ·cases hc
  ·cases hc
 ·rename_i dB
  split at hc
  ·rename_i x y t ts dK dY
   split at hc
   ·rename_i el ht
    split at hc
    ·rename_i sz x' y' hn h1 h2
     cases hc
     simp only[j9,zj]at hs
     split at hs
     ·rename_i b q len vy e1 e2
      cases hk:yv h0 al b with
      |false=>simp[hk]at hs
      |true=>
       simp only[hk,cT]at hs
       split at hs
       ·rename_i cs hcs
        split at hs
        ·rename_i n us cy
         split at hs
         ·rename_i dV bU
          cases cY:Ga us.length (n*sz)with
          |false=>simp[cY]at hs
          |true=>
           simp only[cY,cT]at hs
           split at hs
           ·rename_i h' bq
            obtain rfl:=zx hs
            exact .inl (jet m e ho dB dK dY ht hn h1 h2 e1 e2 hcs cy bU (En cY) bq)
           ·cases hs
         ·cases hs
        ·cases hs
       ·cases hs
     ·cases hs
    ·cases hc
   ·cases hc
  ·cases hc
 ·rename_i dB
  split at hc
  ·rename_i x y t ts dK dY
   split at hc
   ·rename_i kt el ht
    split at hc
    ·rename_i kd x' y' hH h1 h2
     cases hc
     simp only[j9,zj]at hs
     split at hs
     ·rename_i b kv e1 e2
      cases hk:yv h0 al b with
      |false=>simp[hk]at hs
      |true=>
       simp only[hk,cT]at hs
       split at hs
       ·rename_i es hb
        split at hs
        ·rename_i r hf
         split at hs
         ·rename_i h' bq
          obtain rfl:=zx hs
          exact .inl (q8s m e ho dB dK dY ht hH h1 h2 e1 e2 hb hf bq)
         ·cases hs
        ·cases hs
       ·cases hs
     ·cases hs
    ·cases hc
   ·cases hc
  ·cases hc
 ·rename_i dB
  obtain⟨l,hl,rfl⟩:=E3.1 hc
  simp only[j9,zh]at hs
  split at hs
  ·rename_i v vs hv
   obtain⟨z,hz,rfl⟩:=ul hs
   exact yc m e (ja3 (mx:=true) e.bV ho dB hl hv hz)
  ·cases hs
 ·rename_i dB
  obtain⟨l,hl,rfl⟩:=E3.1 hc
  simp only[j9,zh]at hs
  split at hs
  ·rename_i v vs hv
   obtain⟨z,hz,rfl⟩:=ul hs
   exact yc m e (ja3 (mx:=false) e.bV ho dB hl hv hz)
  ·cases hs
 ·cases hc
end
def ay.cut (C:ay)(n:Nat):ay:={ C with β:=fun b=>if b<n then C.β b else E9 }
theorem ay.eE (C:ay)(n:Nat):(C.cut n).le C where
 k _ _ _ h:=h
 b b r h:=by
  simp only[ay.cut]at h
  split at h
  ·exact h
  ·cases h
 w:=rfl
 d _ h:=h
theorem ay.ie {C C':ay}{n:Nat}(h:C.le C')(hn:∀b r,C.β b=I r→b<n):C.le (C'.cut n):=
 ⟨h.1,fun b r hb=>by simp only[ay.cut];rw[if_pos (hn b r hb)];exact h.2 b r hb,h.w,h.d,h.t⟩
section
variable {P:Program}{p:qt}{xc:XC}{C C0:ay}{ω:Nat→Option Loc}{w w0:World}{hp:j8}{env:Env}{tmps:Array Value}{B:Nat}
theorem aF.cut {ℓ:Loc}{x:qa}{v:Value}(n:Nat)(ho:aF C ω w B ℓ x v):aF (C.cut n) ω w B ℓ x v:=by
 unfold aF at *
 split at ho
 ·obtain⟨h1,h2,h3,h4,h5⟩:=ho
  exact⟨h1,h2,fun b hb=>h3 b ((ay.eE C n).2 b _ hb),h4,h5⟩
 ·obtain⟨h1,h2,h3,h4,h5⟩:=ho
  exact⟨h1,h2,fun b hb=>h3 b ((ay.eE C n).2 b _ hb),h4,h5⟩
 ·trivial
theorem bF.cut {x:qa}{v:Value}{n:Nat}(h:bF C x v)(hb:below n x=E6):bF (C.cut n) x v:=
 qp.shift (C:=C) (C':=C.cut n) n (fun _ _ _ h=>h) (fun b r aY hb=>by simp only[ay.cut];rw[if_pos aY];exact hb) h hb
theorem SR {n:Nat}:∀ {e:Env} {s:Nat} {x:qa×Bool},mc n e=E6→yd s e=I x→below n x.1=E6
 | [],_,_,_,h=>by simp[yd]at h
 |(t,y)::e,s,x,hb,h=>by
  simp only[mc,Ef]at hb
  simp only[yd]at h
  cases lq:Ga t s with
  |true=>simp only[lq,cT,I.injEq]at h;subst h;exact hb.1
  |false=>simp only[lq,cond_false]at h;exact SR hb.2 h
theorem qp6 {n:Nat}:∀ {l:j8} {b:Nat} {x:qn},kh n l=E6→l[b]?=I x→oS n x=E6
 | [],_,_,_,h=>by simp at h
 |y::l,b,x,hb,h=>by
  simp only[kh,Ef]at hb
  cases b with
  |zero=>simp at h;subst h;exact hb.1
  |succ b=>simp at h;exact qp6 hb.2 h
theorem qn0 {n:Nat}:∀ {l:List (qa×Bool)} {j:Nat} {c:qa×Bool},oR n l=E6→l[j]?=I c→below n c.1=E6
 | [],_,_,_,h=>by simp at h
 |(y,o)::l,j,c,hb,h=>by
  simp only[oR,Ef]at hb
  cases j with
  |zero=>simp at h;subst h;exact hb.1
  |succ j=>simp at h;exact qn0 hb.2 h
theorem qy.cut {n:Nat}{es:List (qa×qa)}{ms:List MapEntry}(hr:qy C es ms):tV n es=E6→qy (C.cut n) es ms:=by
 induction hr with
 |nil=>exact fun _=>.nil
 |cons k v es m ms hk hv _ ih=>
  intro hb
  simp only[tV,Ef]at hb
  exact .cons k v es m ms (bF.cut hk hb.1.1) (bF.cut hv hb.1.2) (ih hb.2)
theorem br.cut {b r n:Nat}{x:qn}(h:br P C ω w B b r x)(hb:oS n x=E6):br P (C.cut n) ω w B b r x:=by
 cases x with
 |hole=>exact h
 |cells cs=>
  obtain⟨vs,el,h1,h2,h3⟩:=h
  exact⟨vs,el,h1,h2,fun j c hc=>let ⟨v,a,q,b,d⟩:=h3 j c hc; ⟨v,a,q,bF.cut b (qn0 hb hc),fun e=>(d e).cut n⟩⟩
 |map es=>obtain⟨bQ,clock,h1,h2⟩:=h;exact⟨bQ,clock,h1,h2.cut hb⟩
 |iter s pos=>exact h
 |loop l=>obtain⟨lp,h1,h2⟩:=h;exact⟨lp,h1,{ h2 with env:=fun s x hx=>let ⟨v,a,b⟩:=h2.env s x hx; ⟨v,a,bF.cut b (SR hb hx)⟩ }⟩
 |fE t e l=>obtain⟨p,v,h1,h2,h3,h4⟩:=h;exact⟨p,v,h1,h2,h3,h4.cut n⟩
 |dead=>exact h
 |vec sz bz xs=>exact dH.imp (C:=C) (C':=C.cut n) (ω:=ω) (ω':=ω) (B':=B) (fun _ _ _ h=>h) (fun _ h=>h) (fun _ h _=>h) rfl (fun q n' cap k=>⟨rfl,aF.cut (C:=C) n k⟩) h
theorem av.gc (m:av P C ω w0 C0 hp w){n:Nat}(hn:n≤hp.length)(hb:kh n (hp.take n)=E6)(h0:∀b r,C0.β b=I r→b<n):av P (C.cut n) ω w0 C0 (hp.take n) w where
 base:=m.base
 know:=m.know
 cR:=m.cR
 apart b r o hb:=m.apart b r o ((ay.eE C n).2 b r hb)
 inj b b' r h1 h2:=m.inj b b' r ((ay.eE C n).2 _ _ h1) ((ay.eE C n).2 _ _ h2)
 lt b r h:=by
  have h1:=m.lt b r ((ay.eE C n).2 _ _ h)
  refine⟨h1.1,?_⟩
  simp only[ay.cut]at h
  split at h
  ·rw[Hb];omega
  ·cases h
 size:=m.size
 frame:=m.frame
 eN:=m.eN
 os:=m.os
 output:=m.output
 fresh b r h:=m.fresh b r ((ay.eE C n).2 _ _ h)
 grown:=ay.ie m.grown h0
 old:=m.old
 box b x r hx hr:=by
  have aY:b<n:=by
   have:=(Gm.1 hx).1
   rw[Hb]at this;omega
  have fh:hp[b]?=I x:=by rwa [List.getElem?_take_of_lt aY]at hx
  exact(m.box b x r fh ((ay.eE C n).2 _ _ hr)).cut (qp6 hb hx)
 gY:=m.gY
theorem aj.cut {n:Nat}(e:aj C ω w B env tmps)(hb:mc n env=E6):aj (C.cut n) ω w B env tmps:=
 fun s x hx=>let ⟨v,h1,h2,h3⟩:=e s x hx; ⟨v,h1,bF.cut h2 (SR hb hx),fun h=>(h3 h).cut n⟩
def j15 (env:Env)(hp:j8)(r:ja)(ℓ:Loc)(x:qa×Bool):Prop:=
 (∃s,ℓ=.slot s)∨∃t n b j ow cs,r=.cell t Gd n∧yd t env=I (.ptr b j,ow)∧ℓ=.cell b j∧ym hp b=I cs∧cs[j]?=I x
def SS (C:ay)(ω:Nat→Option Loc)(w:World)(B:Nat)(env:Env)(hp:j8)(r:ja)(x:qa×Bool)(v:Value):Prop:=bF C x.1 v∧(x.2=E6→∃ℓ,aF C ω w B ℓ x.1 v∧j15 env hp r ℓ x)
theorem q35 {B':Nat}(m:av P C ω w0 C0 hp w)(hB:B'=w0.heap.size)(e:aj C ω w B' env tmps){rv:ResultVar}{r:ja}{x:qa×Bool}(hc:L4 P rv=I r)(hr:tY ⟨env,hp⟩ r=I x):
  ∃v,((match rv with | .tmp t=>pure (tmps.getD t undef) | .cell a t=>do loadVar t (←asAddr (tmps.getD a undef)):Sem Value)).run P w=.ok v w∧SS C ω w B' env hp r x v:=by
 subst hB
 cases rv with
 |tmp t=>
  simp only[L4]at hc
  cases hc
  simp only[tY]at hr
  obtain⟨v,h1,h2,h3⟩:=e t x hr
  refine⟨v,?_,h2,fun h=>⟨_,h3 h,.inl ⟨_,rfl⟩⟩⟩
  simp[Mi,h1]
 |cell t ty=>
  simp only[L4]at hc
  have key:∀ {ag:Bool} {n:Nat},fc P ty=I ag→yg P ty=I n→(ag=Gd→n=1)→tY ⟨env,hp⟩ (.cell t ag n)=I x→∃v,((do loadVar ty (←asAddr (tmps.getD t undef)):Sem Value)).run P w=.ok v w∧SS C ω w w0.heap.size env hp (.cell t ag n) x v:=by
   intro ag n hg hn Fg hr
   simp only[tY]at hr
   split at hr
   ·rename_i b q ow hl
    obtain⟨u,h1,h2,_⟩:=e t _ hl
    obtain⟨r,hE,rfl⟩:=h2.cW
    have hu:tmps.getD t undef=.pointer (I ⟨r,q,E9⟩):=by simp[Mi,h1]
    split at hr
    ·rename_i cs hcs
     have ga:=m.box b _ r (vp hcs) hE
     split at hr
     ·rename_i us gy
      cases ag with
      |true=>
       simp only[cT,I.injEq]at hr
       subst hr
       obtain⟨vs,k1,_,k2,k3,_⟩:=ga.read gy
       refine⟨.agg ⟨vs⟩,?_,.agg _ _ k1,by simp⟩
       simp[hu,asAddr,Fe hg hn k2 k3]
      |false=>
       simp only[cond_false]at hr
       split at hr
       ·rename_i c hc
        cases hr
        obtain⟨vs,te,g1,g2,g3⟩:=ga
        obtain⟨v,a1,a2,a3,a4⟩:=g3 q _ hc
        have dE:w.cell? ⟨r,q,E9⟩=I v:=by
         simp only[World.cell?,g1]
         simpa using a1
        refine⟨v,?_,a3,fun h=>⟨_,a4 h,.inr ⟨_,_,_,_,_,_,rfl,hl,rfl,hcs,hc⟩⟩⟩
        simp[hu,asAddr,Ff hg dE]
       ·cases hr
     ·cases hr
    ·cases hr
   ·cases hr
  split at hc
  ·rename_i n hg hn;cases hc;exact key hg hn (by simp) hr
  ·rename_i hg hn;cases hc;exact key hg hn (fun _=>rfl) hr
  ·cases hc
inductive jn (P:Program)(C:ay)(ω:Nat→Option Loc)(w:World)(B:Nat)(env:Env)(hp:j8):List ja→List (qa×Bool)→List Value→Prop where
 |nil:jn P C ω w B env hp [] [] []
 |cons {r:ja} {x:qa×Bool} {v:Value} {rs:List ja} {xs:List (qa×Bool)} {vs:List Value} (h:SS C ω w B env hp r x v) (t:jn P C ω w B env hp rs xs vs):jn P C ω w B env hp (r::rs) (x::xs) (v::vs)
theorem jn.bV {rs:List ja}{xs:List (qa×Bool)}{vs:List Value}(h:jn P C ω w B env hp rs xs vs):aM C (xs.map (·.1)) vs:=by
 induction h with
 |nil=>exact .nil
 |cons h _ ih=>exact .cons _ _ _ _ h.1 ih
theorem qp5 {B':Nat}(m:av P C ω w0 C0 hp w)(hB:B'=w0.heap.size)(e:aj C ω w B' env tmps):∀ {l:List ResultVar} {rs:List ja} {xs:List (qa×Bool)},zy P l=I rs→lh ⟨env,hp⟩ rs=I xs →
  ∃vs,(l.mapM fun(rv:ResultVar)=>(match rv with | .tmp t=>pure (tmps.getD t undef) | .cell a t=>do loadVar t (←asAddr (tmps.getD a undef)):Sem Value)).run P w=.ok vs w∧jn P C ω w B' env hp rs xs vs
 | [],rs,xs,hc,hr=>by
  simp[zy]at hc;subst hc
  simp[lh]at hr;subst hr
  exact⟨[],rfl,.nil⟩
 |rv::l,rs,xs,hc,hr=>by
  simp only[zy]at hc
  split at hc
  ·rename_i r Di h1 h2
   cases hc
   simp only[lh]at hr
   split at hr
   ·rename_i x hx
    split at hr
    ·rename_i ys mE
     cases hr
     obtain⟨v,k1,k2⟩:=q35 m hB e h1 hx
     obtain⟨vs,j1,j2⟩:=qp5 m hB e h2 mE
     refine⟨v::vs,?_,.cons k2 j2⟩
     simp only[List.mapM_cons,Sem.run_bind,k1,Result.andThen_ok,j1,Sem.run_pure]
    ·cases hr
   ·cases hr
  ·cases hc
def Dt:List Value→Value
 | [v]=>v
 |vs=>.tuple ⟨vs⟩
theorem qxc (m:av P C ω w0 C0 hp w){ω':Nat→Option Loc}{b j:Nat}{v:qa}{ow:Bool}{cs:List (qa×Bool)}(kP:ym hp b=I cs)(hc:cs[j]?=I (v,ow))(hω:∀b' j' y u,(b'≠b∨j'≠j)→aF C ω w w0.heap.size (.cell b' j') y u→aF C ω' w w0.heap.size (.cell b' j') y u):
  av P C ω' w0 C0 (hp.set b (.cells (cs.set j (v,Gd)))) w:=by
 by_cases hb:∃r,C.β b=I r
 ·obtain⟨r,hr⟩:=hb
  obtain⟨vs,te,hg,cD,hold⟩:=m.box b _ r (vp kP) hr
  obtain⟨cv,k1,k2,k3,k4⟩:=hold j _ hc
  have hu:jk w w r:=⟨rfl,fun _ _=>rfl,fun c t fr h=>by rw[hg]at h;cases h;rfl,rfl,rfl⟩
  refine m.dx hu hr _ (fun b' j' y u eV hz=>hω b' j' y u (.inl eV) hz) ⟨vs,te,hg,by simpa using cD,fun i c hi=>?_⟩
  rw[List.getElem?_set]at hi
  split at hi
  ·rename_i xb
   subst xb
   split at hi
   ·cases hi;exact⟨cv,k1,k2,k3,by simp⟩
   ·cases hi
  ·rename_i xb
   obtain⟨u,a1,a2,a3,a4⟩:=hold i c hi
   exact⟨u,a1,a2,a3,fun h=>hω b i _ _ (.inr (Ne.symm xb)) (a4 h)⟩
 ·refine { m with lt:=fun k r hk=>by rw[Nf];exact m.lt k r hk,box:=fun k x r hx hk=>?_ }
  have lu:k≠b:=fun h=>hb ⟨r,h▸hk⟩
  rw[H6 (Ne.symm lu)]at hx
  exact(m.box k x r hx hk).mono (ay.le_refl C) fun j' y u ho=>hω k j' y u (.inl lu) ho
theorem jf3 (m:av P C ω w0 C0 hp w){rs:List ja}{xs:List (qa×Bool)}{vs:List Value}(h:jn P C ω w w0.heap.size env hp rs xs vs):
  ∃ω',av P C ω' w0 C0 (kL ⟨env,hp⟩ rs) w∧bF C (yr xs).1 (Dt vs)∧((yr xs).2=E6→aF C ω' w w0.heap.size (.slot 0) (yr xs).1 (Dt vs)):=by
 have same:∃ω',av P C ω' w0 C0 hp w:=⟨ω,m⟩
 cases h with
 |nil=>exact⟨ω,m,by simpa[yr,Dt]using qp.aB _ _ (qp.nil),by simp[yr]⟩
 |cons hx ht=>
  cases ht with
  |cons hy ht=>
   have:=(jn.cons hx (jn.cons hy ht)).bV
   exact⟨ω,by simpa[kL]using m,by simpa[yr,Dt]using qp.aB _ _ this,by simp[yr]⟩
  |nil=>
   rename_i r x v
   obtain⟨h1,h2⟩:=hx
   simp only[yr]
   -- without the flag
   have plain:av P C ω w0 C0 (kL ⟨env,hp⟩ [r]) w:=by
    unfold kL
    split
    ·split
     ·split
      ·rename_i cs hcs
       split
       ·rename_i u hu
        exact qxc m hcs hu (fun _ _ _ _ _ h=>h)
       ·exact m
      ·exact m
     ·exact m
    ·exact m
   by_cases hk:x.2=E6
   ·have fY:=hk
    obtain⟨ℓ,h3,h4⟩:=h2 fY
    refine⟨ui ω x.1 v (.slot 0),?_,h1,fun _=>Ml h3⟩
    rcases h4 with⟨s,rfl⟩|⟨t,n,b,j,ow,cs,rfl,g1,rfl,g2,g3⟩
    ·exact { plain with box:=fun b x r hx hb=>(plain.box b x r hx hb).mono (ay.le_refl C) fun j y u hz=>wX h3 (by simp) hz }
    ·obtain⟨xv,xo⟩:=x
     simp only at fY
     subst fY
     have:kL ⟨env,hp⟩ [.cell t Gd n]=hp.set b (.cells (cs.set j (xv,Gd))):=by
      simp only[kL,g1,g2,g3]
     rw[this]
     exact qxc m g2 g3 fun b' j' y u bA hz=>wX h3 (by
      rcases bA with bA|bA
      ·simp[bA]
      ·simp[bA]) hz
   ·exact⟨ω,plain,h1,fun h=>absurd h hk⟩
theorem q5y {fn:Func}(m:av P C ω w0 C0 hp w)(e:aj C ω w w0.heap.size env tmps){rs:List ja}{xs:List (qa×Bool)}(hc:zy P fn.results.toList=I rs)(hr:lh ⟨env,hp⟩ rs=I xs):
  ∃v ω',(results fn tmps).run P w=.ok v w∧av P C ω' w0 C0 (kL ⟨env,hp⟩ rs) w∧bF C (yr xs).1 v∧((yr xs).2=E6→aF C ω' w w0.heap.size (.slot 0) (yr xs).1 v):=by
 obtain⟨vs,h1,h2⟩:=qp5 m rfl e hc hr
 have ll:(fn.results.mapM fun(rv:ResultVar)=>(match rv with | .tmp t=>pure (tmps.getD t undef) | .cell a t=>do loadVar t (←asAddr (tmps.getD a undef)):Sem Value)).run P w=.ok vs.toArray w:=by
  rw[Array.mapM_eq_mapM_toList]
  simp only[Sem.run_map]
  rw[h1]
  rfl
 have bm:(results fn tmps).run P w=.ok (if h:vs.toArray.size=1 then vs.toArray[0]else .tuple vs.toArray) w:=by
  unfold results
  rw[Sem.run_bind]
  exact congrArg (fun z=>Result.andThen z fun(a:Array Value) w'=>Sem.run P (pure (if h:a.size=1 then a[0]else Value.tuple a)) w') ll
 have hval:(if h:vs.toArray.size=1 then vs.toArray[0]else .tuple vs.toArray)=(Dt vs):=by
  match vs with
  | []=>rfl
  | [v]=>rfl
  |v::u::vs=>simp[Dt]
 rw[hval]at bm
 obtain⟨ω',q1,q2,q3⟩:=jf3 m h2
 exact⟨_,ω',bm,q1,q2,q3⟩
end
section
variable {P:Program}{C C0:ay}{ω:Nat→Option Loc}{w w0:World}{hp:j8}
def pX (C:ay)(hp:j8)(r:Nat):Prop:=∃b sz bz xs r0 cap,hp[b]?=I (.vec sz bz xs)∧C.β b=I r0∧C.T (r0,bz,r,cap)
def Hid (C:ay)(hp:j8)(r:Nat):Prop:=(∃b,C.β b=I r)∨pX C hp r
theorem pX.is (m:av P C ω w0 C0 hp w){r:Nat}(h:pX C hp r):(∃b,C.β b=I r)∨∃b sz bz xs n cap,hp[b]?=I (.vec sz bz xs)∧wS C ω w w0.heap.size b r n cap:=by
 obtain⟨b,sz,bz,xs,r0,cap,h1,h2,h3⟩:=h
 obtain⟨q,jV,k1,k2,k3,k4,_⟩:=m.box b _ r0 h1 h2
 have:=(k2 _ h3 rfl).2 rfl
 simp only[Prod.mk.injEq]at this
 obtain⟨rfl,rfl⟩:=this
 rcases k4 with rfl|k4
 ·exact .inl ⟨b,h2⟩
 ·exact .inr ⟨b,sz,bz,xs,_,_,h1,k4⟩
theorem SU (m:av P C ω w0 C0 hp w){r:Nat}(h:Hid C hp r)(o:Nat):C.K r o=E9:=by
 rcases h with⟨b,hb⟩|h
 ·exact m.apart b r o hb
 ·rcases h.is m with⟨b,hb⟩|⟨b,sz,bz,xs,n,cap,_,h2⟩
  ·exact m.apart b r o hb
  ·exact h2.2.2.2.2.2.2 o (by simp)
theorem jdd {K:Nat→Nat→Option Value}(hW:C.W=fun _=>False)(m:av P C ω w0 (.bM K) hp w){r:Nat}(h:Hid C hp r):w0.heap.size≤r:=by
 have key:∀b,C.β b=I r→w0.heap.size≤r:=fun b hb=>by
  rcases m.fresh b r hb with h|h|h
  ·cases h
  ·exact h
  ·exact h.elim
 rcases h with⟨b,hb⟩|h
 ·exact key b hb
 ·rcases h.is m with⟨b,hb⟩|⟨b,sz,bz,xs,n,cap,_,h2⟩
  ·exact key b hb
  ·rcases h2.2.1 with h|h
   ·exact h
   ·rw[hW]at h;exact h.elim
theorem js6 (m:av P C ω w0 C0 hp w){r:Nat}(h:Hid C hp r):r<w.heap.size:=by
 rcases h with⟨b,hb⟩|h
 ·exact(m.lt b r hb).1
 ·rcases h.is m with⟨b,hb⟩|⟨b,sz,bz,xs,n,cap,_,h2⟩
  ·exact(m.lt b r hb).1
  ·obtain⟨_,_,_,_,_,⟨cells,elem,h5,_⟩,_⟩:=h2
   exact(E1.1 h5).1
open Classical in
noncomputable def ki (C:ay)(hp:j8)(w:World):Nat→Nat→Option Value:=fun r o=>if Hid C hp r then(w.cell? ⟨r,o,E9⟩).filter (·.oneCell')else C.K r o
theorem Fz (m:av P C ω w0 C0 hp w){r o:Nat}{x:Value}(h:C.K r o=I x):ki C hp w r o=I x:=by
 unfold ki
 rw[if_neg]
 ·exact h
 ·intro hh
  rw[SU m hh o]at h;cases h
theorem Mr (m:av P C ω w0 C0 hp w){r o:Nat}{x:Value}(h:ki C hp w r o=I x):w.cell? ⟨r,o,E9⟩=I x∧x.oneCell'=E6:=by
 unfold ki at h
 split at h
 ·rw[Option.filter_eq_some_iff]at h;exact h
 ·exact⟨m.know r o x h,m.cR r o x h⟩
theorem qt6 {r o:Nat}{x:Value}(hb:Hid C hp r)(hc:w.cell? ⟨r,o,E9⟩=I x)(h1:x.oneCell'=E6):ki C hp w r o=I x:=by
 unfold ki
 rw[if_pos hb,hc]
 simp[h1]
theorem SV {b r o:Nat}{x:Value}(hb:C.β b=I r)(hc:w.cell? ⟨r,o,E9⟩=I x)(h1:x.oneCell'=E6):ki C hp w r o=I x:=
 qt6 (.inl ⟨b,hb⟩) hc h1
theorem SW (m:av P C ω w0 C0 hp w){x:qa}{v:Value}(h:bF C x v)(hb:below 0 x=E6):bF (.bM (ki C hp w)) x v:=
 qp.shift (C:=C) (C':=.bM (ki C hp w)) 0 (fun _ _ _ h=>Fz m h) (fun b r aY=>by omega) h hb
theorem qt0 {x:qa}{v:Value}(h:bF C x v)(h1:v.oneCell'=E6):x.isAgg=Gd:=by
 cases h<;>first|rfl|(simp[Value.oneCell']at h1)
theorem SX {C:ay}{r:Nat}:∀ {ys:List qa} {o:Nat},(∀j x,ys[j]?=I x→∃v,C.K r (o+j)=I v∧bF C x v)→bZ C r ys o
 | [],o,_=>.gK _ _
 |x::ys,o,h=>by
  obtain⟨v,h1,h2⟩:=h 0 x rfl
  refine .dh _ _ _ _ v (by simpa using h1) h2 (SX fun j y hy=>?_)
  obtain⟨v,k1,k2⟩:=h (j+1) y (by simpa using hy)
  exact⟨v,by rw[show o+1+j=o+(j+1) by omega];exact k1,k2⟩
theorem SY {C:ay}{r sz:Nat}(hz:0<sz):∀ {n:Nat} {xs:List qa} {o:Nat},xs.length=n*sz→(∀x∈xs,x.isAgg=Gd)→(∀j x,xs[j]?=I x→∃v,C.K r (o+j)=I v∧bF C x v)→aX C r sz (lV sz n xs) o
 |0,xs,o,_,_,_=>.fg _ _ _
 |n+1,xs,o,hl,hp,h=>by
  rw[Nat.succ_mul]at hl
  have hf:(bif Ga sz 1 then xs.headD .undef else qa.agg (xs.take sz)).flat=xs.take sz:=by
   cases hb:Ga sz 1 with
   |false=>rfl
   |true=>
    have:=En hb
    subst this
    match xs,hl with
    |x::xs,_=>simp only[cT,List.headD_cons];rw[qc0 (hp x (List.mem_cons_self ..))];rfl
  refine .db _ _ _ _ _ ?_ ?_ (SY hz ?_ (fun x hx=>hp x (List.mem_of_mem_drop hx)) fun j x hx=>?_)
  ·rw[hf,Hb];omega
  ·rw[hf]
   refine SX fun j x hx=>h j x ?_
   rw[List.getElem?_take]at hx
   split at hx
   ·exact hx
   ·cases hx
  ·rw[R5];omega
  ·rw[List.getElem?_drop]at hx
   obtain⟨v,k1,k2⟩:=h _ x hx
   exact⟨v,by rw[Nat.add_assoc];exact k1,k2⟩
theorem FA {sz:Nat}:∀ {n:Nat} {xs:List qa},(lV sz n xs).length=n
 |0,_=>rfl
 |n+1,xs=>by simp only[lV,List.length_cons];rw[FA]
theorem qq4 {sz:Nat}(hz:1<sz):∀ {n:Nat} {xs:List qa},xs.length=n*sz→zu 0 (lV sz n xs)=E6→∀x∈xs,below 0 x=E6
 |0,xs,hl,_=>by
  rw[Nat.zero_mul]at hl
  rw[List.length_eq_zero_iff.1 hl]
  intro x hx;cases hx
 |n+1,xs,hl,h=>by
  have hb:Ga sz 1=Gd:=by
   cases hc:Ga sz 1 with
   |false=>rfl
   |true=>have:=En hc;omega
  simp only[lV,hb,cond_false,zu,below,Ef]at h
  have ih:=qq4 hz (n:=n) (xs:=xs.drop sz) (by rw[R5,hl,Nat.succ_mul];omega) h.2
  have ht:∀(ys:List qa),zu 0 ys=E6→∀x∈ys,below 0 x=E6:=by
   intro ys
   induction ys with
   |nil=>intro _ x hx;cases hx
   |cons y ys ih=>
    intro hh x hx
    simp only[zu,Ef]at hh
    rcases Sf.1 hx with rfl|hx
    ·exact hh.1
    ·exact ih hh.2 x hx
  intro x hx
  rw[←List.take_append_drop sz xs]at hx
  rcases List.mem_append.1 hx with hx|hx
  ·exact ht _ h.1 x hx
  ·exact ih x hx
theorem SZ (m:av P C ω w0 C0 hp w){x x':qa}{v:Value}(hf:iB hp x=I x')(h:bF C x v)(hb:below 0 x'=E6):bF (.bM (ki C hp w)) x' v:=by
 unfold iB at hf
 split at hf
 ·rename_i b off len
  split at hf
  ·rename_i cs hcs
   cases cM:Dc off len cs with
   |true=>
    rw[cM]at hf
    simp only[cT,I.injEq]at hf
    subst hf
    simp only[Dc,Ef]at cM
    obtain⟨⟨⟨r0,r1⟩,r2⟩,_⟩:=cM
    have r0:=En r0
    have r2:=En r2
    have r1:1<cs.length / len:=by simpa using r1
    subst r0
    obtain⟨r,cap,hE,hle,rfl⟩:=h.ey
    obtain⟨vs,elem,k1,k2,k3⟩:=m.box b _ r (vp hcs) hE
    have iM:zu 0 (lV (cs.length / len) len (cs.map (·.1)))=E6:=by simpa[below]using hb
    have S0:=qq4 r1 (by rw[Ny];exact r2.symm) iM
    have hrr:aX (.bM (ki C hp w)) r (cs.length / len) (lV (cs.length / len) len (cs.map (·.1))) 0:=by
     refine SY (by omega) (by rw[Ny];exact r2.symm) (fun x hx=>?_) fun j x hx=>?_
     ·obtain⟨j,hj⟩:=List.getElem?_of_mem hx
      rw[Hq,E3]at hj
      obtain⟨c,hc,rfl⟩:=hj
      obtain⟨u,q1,q2,q3,_⟩:=k3 j c hc
      exact qt0 q3 q2
     ·have cS:=Gc hx
      rw[Hq,E3]at hx
      obtain⟨c,hc,rfl⟩:=hx
      obtain⟨u,q1,q2,q3,_⟩:=k3 j c hc
      have dE:w.cell? ⟨r,0+j,E9⟩=I u:=by
       unfold World.cell?
       rw[k1]
       simp only[Gy,E7,if_false,Ma]
       exact q1
      exact⟨u,SV hE dE q2,SW m q3 (S0 _ cS)⟩
    have:=qp.list (C:=.bM (ki C hp w)) (cs.length / len) (lV (cs.length / len) len (cs.map (·.1))) r 0 cap (by rw[FA];exact hle) hrr
    rw[FA]at this
    exact this
   |false=>
   rw[cM]at hf
   simp only[cond_false]at hf
   split at hf
   ·rename_i us gy
    cases hf
    obtain⟨r,cap,hE,hle,rfl⟩:=h.ey
    obtain⟨vs,k1,k0,k2,k3,k4⟩:=(m.box b _ r (vp hcs) hE).read gy
    have iM:zu 0 us=E6:=by simpa[below]using hb
    have fI:aM (.bM (ki C hp w)) us vs:=qp.shift (C:=C) (C':=.bM (ki C hp w)) 0 (fun _ _ _ h=>Fz m h) (fun b r aY=>by omega) k1 iM
    have jH:∀(us:List qa) (vs:List Value),aM C us vs→(∀v∈vs,v.oneCell'=E6)→us.flatMap qa.flat=us∧∀u∈us,u.flat.length=1:=by
     intro us
     induction us with
     |nil=>intro _ _ _;exact⟨rfl,by simp⟩
     |cons u us ih=>
      intro vs h h1
      cases h with
      |cons _ _ v vs hx h=>
       obtain⟨i1,i2⟩:=ih vs h (fun v hv=>h1 v (by simp[hv]))
       have wU:=qt0 hx (h1 v (by simp))
       rw[N4,qc0 wU,i1]
       refine⟨rfl,fun u' oX=>?_⟩
       rcases Sf.1 oX with rfl|oX
       ·rw[qc0 wU];rfl
       ·exact i2 u' oX
    obtain⟨f1,f2⟩:=jH us vs k1 k4
    have hcells:bZ (.bM (ki C hp w)) r (us.flatMap qa.flat) off:=by
     rw[f1]
     exact bZ.gZ fI fun j u hj=>SV hE (k3 j u hj) (k4 u (Gc hj))
    have hl:us.length=len:=k0
    have:=qp.list (C:=.bM (ki C hp w)) 1 us r off cap (by omega) (aX.et hcells f2)
    rw[hl]at this
    exact this
   ·cases hf
  ·cases hf
 ·rename_i b bz len
  split at hf
  ·rename_i sz df xs gd
   cases hk:(Ga bz df&&Ge len xs.length)with
   |false=>rw[hk]at hf;cases hf
   |true=>
    rw[hk]at hf
    simp only[cT,I.injEq]at hf
    subst hf
    simp only[Ef]at hk
    obtain rfl:=En hk.1
    have hlen:=E0 hk.2
    cases h with
    |ak _ _ _ r0 q cap hβ hT hl=>
     obtain⟨q',jV,k1,k2,k3,k4,_⟩:=m.box b _ r0 gd hβ
     have heq:=(k2 _ hT rfl).2 rfl
     simp only[Prod.mk.injEq]at heq
     obtain⟨rfl,rfl⟩:=heq
     obtain⟨cells,t,vs,g1,g2,g3,g4,g5,g6,g7⟩:=k3
     have S1:Hid C hp q:=.inr ⟨b,sz,bz,xs,r0,cap,gd,hβ,hT⟩
     have hall:bZ (.bM (ki C hp w)) q (xs.flatMap qa.flat) 0:=by
      refine bZ.gZ (qp.imp (C:=.bM C.K) (C':=.bM (ki C hp w)) ⟨fun _ _ _ h=>Fz m h,fun _ _ h=>h⟩ g5) fun j u hj=>?_
      refine qt6 S1 ?_ (g7 u (Gc hj))
      unfold World.cell?
      rw[g1]
      simp only[Gy,E7,if_false,Ma]
      exact g6 j u hj
     have cM:aX (.bM (ki C hp w)) q sz xs 0:=aX.et hall g4
     have:=qp.list (C:=.bM (ki C hp w)) sz (xs.take len) q 0 cap (by rw[Hb];omega) (cM.take len)
     rw[Hb,Nat.min_eq_left hlen]at this
     exact this
  ·cases hf
 ·cases hf
  exact SW m h hb
theorem S2 (m:av P C ω w0 C0 hp w):∀ {xs fq:List qa} {vs:List Value},lf hp xs=I fq→aM C xs vs→zu 0 fq=E6→aM (.bM (ki C hp w)) fq vs
 | [],fq,vs,hf,h,_=>by
  simp only[lf,I.injEq]at hf
  subst hf
  cases h
  exact .nil
 |x::xs,fq,vs,hf,h,hb=>by
  simp only[lf]at hf
  split at hf
  ·rename_i y hy
   split at hf
   ·rename_i ys mE
    cases hf
    simp only[zu,Ef]at hb
    cases h with
    |cons _ _ v vs hx h=>exact .cons _ _ _ _ (SZ m hy hx hb.1) (S2 m mE h hb.2)
   ·cases hf
  ·cases hf
theorem S3 (m:av P C ω w0 C0 hp w):∀ {xs fq:List qa} {vs:List Value},aC.bn hp xs=I fq→aM C xs vs→zu 0 fq=E6→aM (.bM (ki C hp w)) fq vs
 | [],fq,vs,hf,h,_=>by
  simp only[aC.bn,I.injEq]at hf
  subst hf
  cases h
  exact .nil
 |x::xs,fq,vs,hf,h,hb=>by
  cases h with
  |cons _ _ v vs hx h=>
   unfold aC.bn at hf
   split at hf
   ·cases ‹_::_=[]›
   ·rename_i cs pU heq
    cases heq
    split at hf
    ·rename_i y hy
     split at hf
     ·rename_i ys mE
      cases hf
      simp only[zu,below,Ef]at hb
      obtain⟨us,rfl,hu⟩:=bF.dX hx
      exact .cons _ _ _ _ (.agg _ _ (S2 m hy hu hb.1)) (S3 m mE h hb.2)
     ·cases hf
    ·cases hf
   ·rename_i heq
    cases heq
    split at hf
    ·rename_i y hy
     split at hf
     ·rename_i ys mE
      cases hf
      simp only[zu,Ef]at hb
      exact .cons _ _ _ _ (SZ m hy hx hb.1) (S3 m mE h hb.2)
     ·cases hf
    ·cases hf
theorem q5n (m:av P C ω w0 C0 hp w){x x':qa}{v:Value}(hf:aC hp x=I x')(h:bF C x v)(hb:below 0 x'=E6):bF (.bM (ki C hp w)) x' v:=by
 unfold aC at hf
 split at hf
 ·split at hf
  ·rename_i ys mE
   cases hf
   obtain⟨us,rfl,hu⟩:=h.dX
   exact .agg _ _ (S2 m mE hu (by simpa[below]using hb))
  ·cases hf
 ·split at hf
  ·rename_i ys mE
   cases hf
   cases h with
   |aB _ vs hu=>exact .aB _ _ (S3 m mE hu (by simpa[below]using hb))
  ·cases hf
 ·exact SZ m hf h hb
end
def zV:qo→Exit
 | .normal=>.normal
 | .exit id=>.exit id
 | .ret=>.ret
def iE (ρ:Option Nat):Fence:={ Fence.wide with round:=ρ }
theorem qxq {ρ:Option Nat}{n:Nat}{P:Program}{f:FuncId}{args:Array Value}{w:World}{R:Ending→World→Prop}:CallsIn (iE ρ) n P f args w R↔CallsIn Fence.wide n P f args w R:=Iff.rfl
def Marks (C:ay)(B:Nat)(ds:List Deferred):Prop:=∃rs:List Nat,ds=rs.map (fun r=>{ target:=.collected r,args:=#[] })∧rs.Nodup∧∀r∈rs,C.D r∧B≤r
theorem Marks.mono {C C':ay}{B:Nat}{ds:List Deferred}(h:Marks C B ds)(hle:C.le C'):Marks C' B ds:=
 let ⟨rs,h1,h2,h3⟩:=h; ⟨rs,h1,h2,fun r hr=>⟨hle.d r (h3 r hr).1,(h3 r hr).2⟩⟩
theorem Marks.nil {C:ay}{B:Nat}:Marks C B []:=⟨[],rfl,List.nodup_nil,by simp⟩
def cg (P:Program)(xc:XC):Prop:=
 ∀(ρ:Option Nat) (nt:Nat) (c:Code) (ca:qe) (st bL:qg) (x:qo),EV P nt c ca→(ρ≠E9→km ca=E6)→xc ca st=I (x,bL) →
  ∀(C:ay) (ω:Nat→Option Loc) (w0:World) (C0:ay) (a:Act) (w:World),av P C ω w0 C0 st.heap w→aj C ω w w0.heap.size st.env a.tmps→a.tmps.size=nt→Marks C w0.heap.size a.defers →
   c.wpIn (iE ρ) 0 P (fun e a' w'=>e=zV x∧a'.tmps.size=nt∧∃C' ω',C.le C'∧Marks C' w0.heap.size a'.defers∧av P C' ω' w0 C0 bL.heap w'∧aj C' ω' w' w0.heap.size bL.env a'.tmps) a w
def IsoCall (P:Program)(k:Nat)(args:List qa)(v:qa)(ow:Bool):Prop:=
 ∀(K:Nat→Nat→Option Value) (w:World) (vs:List Value),Tabs P w →
  (∀r o u,K r o=I u→w.cell? ⟨r,o,E9⟩=I u)→(∀r o u,K r o=I u→u.oneCell'=E6)→aM (.bM K) args vs →
  CallsIn Fence.wide 0 P k ⟨vs⟩ w fun e w'=>∃u K',e=.returned u∧Ext w w'∧(∀r o x,K r o=I x→K' r o=I x)∧(∀r o,r<w.heap.size→K' r o=K r o) ∧
   (∀r o x,K' r o=I x→w'.cell? ⟨r,o,E9⟩=I x)∧(∀r o x,K' r o=I x→x.oneCell'=E6)∧bF (.bM K') v u ∧
   (ow=E6→∃ℓ ω',aF (.bM K') ω' w' w.heap.size ℓ v u)
def Enters (P : Program) (k : Nat) : Prop := ∃ fn, P.funcs[k]? = I fn ∧ fn.name ≠ "runtime.NumGoroutine" ∧ fn.body.isSome
def zW (P:Program)(k:Nat)(args:List qa)(h:j8)(v:qa)(ow:Bool)(h':j8):Prop:=
 ∀(C:ay) (ω:Nat→Option Loc) (w:World) (vs:List Value),aM C args vs→av P C ω w C h w →
  CallsIn Fence.wide 0 P k ⟨vs⟩ w fun e w'=>∃u C' ω',e=.returned u∧C.le C'∧av P C' ω' w C h' w'∧bF C' v u∧(ow=E6→aF C' ω' w' w.heap.size (.slot 0) v u)
def S4 (P:Program)(k:Nat)(es:List (qa×qa)):Prop:=
 ∀(K:Nat→Nat→Option Value) (w:World),Tabs P w →
  (∀r o u,K r o=I u→w.cell? ⟨r,o,E9⟩=I u)→(∀r o u,K r o=I u→u.oneCell'=E6) →
  CallsIn Fence.wide 0 P k ⟨[]⟩ w fun e w'=>∃q K' bQ clock,e=.returned (.map (I q))∧Ext w w'∧(∀r o x,K r o=I x→K' r o=I x)∧(∀r o,r<w.heap.size→K' r o=K r o) ∧
   (∀r o x,K' r o=I x→w'.cell? ⟨r,o,E9⟩=I x)∧(∀r o x,K' r o=I x→x.oneCell'=E6)∧w.heap.size≤q∧w'.heap[q]?=I (.map bQ clock)∧qy (.bM K') es bQ.toList
structure qx (P:Program)(p:qt):Prop where
 fn:∀k f,p.bj k=I f→∃fn h,P.funcs[k]?=I fn∧EU P h fn=I f
 gG:∀k f,p.cq k=I f→Enters P k∧∀args v o,f args=I (v,o)→lU v=E6→zu 0 args=E6→IsoCall P k args v o
 mixed:P.follows .mixedOrders=E6
 fD:∀k f,p.dl k=I f→Enters P k∧∀args h v o h',f args h=I (v,o,h')→zW P k args h v o h':=by intro k f h;cases h
 maps:∀k es,p.maps k=I es→Enters P k∧S4 P k es:=by intro k f h;cases h
theorem S5 {P : Program} {h : qb} {fn : Func} {f : qd} (hc : EU P h fn = I f) : ∃ c, fn.body = I c ∧ gw P h fn.ntmps c = I f.body ∧ zy P fn.results.toList = I f.results ∧ f.ntmps = fn.ntmps ∧ fn.name ≠ "runtime.NumGoroutine" := by
 unfold EU at hc
 split at hc
 ·rename_i c hb
  split at hc
  ·rename_i b rs h1 h2
   split at hc
   ·cases hc
   ·rename_i hn
    cases hc
    exact⟨c,hb,h1,h2,rfl,by simpa using hn⟩
  ·cases hc
 ·cases hc
theorem qx.enters {P:Program}{p:qt}(h:qx P p){k:Nat}{f:qd}(hf:p.bj k=I f):Enters P k:=by
 obtain⟨fn,hh,h1,h2⟩:=h.fn k f hf
 obtain⟨c,hb,_,_,_,hn⟩:=S5 h2
 exact⟨fn,h1,hn,by simp[hb]⟩
theorem qrz {P:Program}{k:Nat}(h:Enters P k)(args:Array Value)(w:World):(callFunc k args).run P w=.ok (.enter k args) w:=by
 obtain⟨fn,h1,h2,h3⟩:=h
 simp[callFunc,h1,h2,Option.isNone_iff_eq_none,Option.isSome_iff_ne_none.1 h3]
section
variable {P:Program}{p:qt}{xc:XC}{C C0:ay}{ω:Nat→Option Loc}{w w0:World}{hp:j8}{env:Env}{tmps:Array Value}{B:Nat}{a:Act}{o:Oper}{d:Loc}
theorem qua:∀ {args:List qa} {i s:Nat} {x:qa×Bool},yd s (n6 i args)=I x→∃j,s=i+j∧args[j]?=I x.1∧x.2=Gd
 | [],_,_,_,h=>by simp[n6,yd]at h
 |v::args,i,s,x,h=>by
  simp only[n6,yd]at h
  cases hb:Ga i s with
  |true=>
   simp only[hb,cT,I.injEq]at h
   subst h
   exact⟨0,(En hb).symm,rfl,rfl⟩
  |false=>
   simp only[hb,cond_false]at h
   obtain⟨j,h1,h2,h3⟩:=qua h
   exact⟨j+1,by omega,by simpa using h2,h3⟩
theorem q9f {r o:Nat}{v:Value}(h:w.cell? ⟨r,o,E9⟩=I v):∃cs t fr,w.heap[r]?=I (.cells cs t fr):=by
 unfold World.cell? at h
 split at h
 ·rename_i cs t fr hg;exact⟨cs,t,fr,hg⟩
 ·cases h
theorem av.other {D':Nat→Prop}(m:av P C ω w0 C0 hp w){r:Nat}{w':World}(hu:jk w w' r)(hβ:∀b,C.β b≠I r)(hr:w0.heap.size≤r)(kQ:∀cs t fr,w.heap[r]?≠I (.cells cs t fr))(hD:∀k,D' k→C.D k∧k≠r)(h0:∀k,C0.D k→D' k):
  av P { C with D:=D' } ω w0 C0 hp w':=by
 have cB:∀ {B:Nat} {ℓ:Loc} {x:qa} {v:Value},aF C ω w B ℓ x v→aF { C with D:=D' } ω w' B ℓ x v:=by
  intro B ℓ x v ho
  unfold aF at *
  split at ho
  ·obtain⟨h1,h2,h3,h4,h8,⟨cells,elem,h5,h6⟩,h7⟩:=ho
   refine⟨h1,h2,h3,h4,h8,⟨cells,elem,?_,h6⟩,h7⟩
   rw[hu.other _ (fun h=>kQ _ _ _ (h▸h5))]
   exact h5
  ·obtain⟨h1,h2,h3,h4,h8,⟨cells,elem,h5,h6⟩,h7⟩:=ho
   refine⟨h1,h2,h3,h4,h8,⟨cells,elem,?_,h6⟩,h7⟩
   rw[hu.other _ (fun h=>kQ _ _ _ (h▸h5))]
   exact h5
  ·trivial
 refine { base:=m.base,know:=?_,cR:=m.cR,apart:=m.apart,inj:=m.inj,lt:=?_,size:=?_,frame:=?_,eN:=?_,os:=hu.os.trans m.os,output:=hu.output.trans m.output,fresh:=m.fresh,grown:=⟨m.grown.k,m.grown.b,m.grown.w,h0,m.grown.t⟩,old:=m.old,box:=?_,gY:=fun q hq=>by rw[hu.size];exact m.gY q hq }
 ·intro k p v hk
  have hc:=m.know _ _ _ hk
  have bA:k≠r:=fun h=>by
   obtain⟨cs,t,fr,hg⟩:=q9f hc
   exact kQ cs t fr (h▸hg)
  simp only[World.cell?]at hc ⊢
  rw[hu.other k bA];exact hc
 ·intro b p hb
  rw[hu.size];exact m.lt b p hb
 ·rw[hu.size];exact m.size
 ·intro k hk hn hw
  rw[hu.other k (by omega)];exact m.frame k hk hn hw
 ·intro k hk
  obtain⟨h1,h2⟩:=hD k hk
  rw[hu.other k h2];exact m.eN k h1
 ·intro b x p hx hb
  refine br.imp (C:=C) (C':={ C with D:=D' }) ⟨fun _ _ _ h=>h,fun _ _ h=>h⟩ (hu.other p (fun h=>hβ b (h▸hb))) (fun j y v ho=>cB ho) (m.box b x p hx hb) (hq:=fun q n cap k=>by
   obtain⟨_,_,_,_,_,⟨cells,elem,h5,_⟩,_⟩:=k
   exact hu.other q (fun h=>kQ _ _ _ (h▸h5)))
theorem aF.jY {D':Nat→Prop}{r:Nat}{w':World}(hu:jk w w' r)(kQ:∀cs t fr,w.heap[r]?≠I (.cells cs t fr)){ℓ:Loc}{x:qa}{v:Value}(ho:aF C ω w B ℓ x v):aF { C with D:=D' } ω w' B ℓ x v:=by
 unfold aF at *
 split at ho
 ·obtain⟨h1,h2,h3,h4,h8,⟨cells,elem,h5,h6⟩,h7⟩:=ho
  refine⟨h1,h2,h3,h4,h8,⟨cells,elem,?_,h6⟩,h7⟩
  rw[hu.other _ (fun h=>kQ _ _ _ (h▸h5))]
  exact h5
 ·obtain⟨h1,h2,h3,h4,h8,⟨cells,elem,h5,h6⟩,h7⟩:=ho
  refine⟨h1,h2,h3,h4,h8,⟨cells,elem,?_,h6⟩,h7⟩
  rw[hu.other _ (fun h=>kQ _ _ _ (h▸h5))]
  exact h5
 ·trivial
theorem bF.pY {D':Nat→Prop}{x:qa}{v:Value}(h:bF C x v):bF { C with D:=D' } x v:=qp.imp (C:=C) (C':={ C with D:=D' }) ⟨fun _ _ _ h=>h,fun _ _ h=>h⟩ h
theorem aj.jY {D':Nat→Prop}{r:Nat}{w':World}(hu:jk w w' r)(kQ:∀cs t fr,w.heap[r]?≠I (.cells cs t fr))(e:aj C ω w B env tmps):aj { C with D:=D' } ω w' B env tmps:=
 fun s x hs=>let ⟨v,h1,h2,h3⟩:=e s x hs; ⟨v,h1,bF.pY h2,fun h=>(h3 h).jY hu kQ⟩
theorem q0e {fn:Func}{R:Ending→World→Prop}:∀(rs:List Nat) (C':ay) (w:World),C.le C'→av P C' ω w0 C hp w→aj C' ω w w0.heap.size env tmps→rs.Nodup→(∀r∈rs,C'.D r∧w0.heap.size≤r)→(∀k,C.D k→k<w0.heap.size) →
  (∀(C2:ay) (w2:World),C.le C2→C2.D=C.D→av P C2 ω w0 C hp w2→aj C2 ω w2 w0.heap.size env tmps→∃v,(results fn tmps).run P w2=.ok v w2∧R (.returned v) w2) →
  LeavesInM Fence.wide 0 P fn tmps R (rs.map fun r=>{ target:=.collected r,args:=#[] }) .returning w
 | [],C',w,hle,m,e,_,_,hD,dS=>by
  have hr0:∀ {k},C.D k→C'.D k:=fun h=>hle.d _ h
  -- the marks are forgotten
  have m2:av P { C' with D:=C.D } ω w0 C hp w:={ m with
   eN:=fun r hr=>m.eN r (hr0 hr)
   grown:=⟨m.grown.k,m.grown.b,m.grown.w,fun _ h=>h,m.grown.t⟩
   box:=fun b x r hx hb=>br.imp (C:=C') (C':={ C' with D:=C.D }) ⟨fun _ _ _ h=>h,fun _ _ h=>h⟩ rfl (fun j y v ho=>ho) (m.box b x r hx hb) }
  have e2:aj { C' with D:=C.D } ω w w0.heap.size env tmps:=fun s x hs=>let ⟨v,h1,h2,h3⟩:=e s x hs; ⟨v,h1,bF.pY h2,h3⟩
  exact dS { C' with D:=C.D } w ⟨hle.k,hle.b,hle.w,fun _ h=>h,hle.t⟩ rfl m2 e2
 |r::rs,C',w,hle,m,e,Dq,FB,hD,dS=>by
  obtain⟨hDr,hBr⟩:=FB r (by simp)
  have hg:=m.eN r hDr
  have aY:=(E1.1 hg).1
  have kQ:∀cs t fr,w.heap[r]?≠I (.cells cs t fr):=fun cs t fr h=>by rw[hg]at h;cases h
  have hu:jk w (jI w r (.deferred E9)) r:=Dr aY (by simp)
  have hβ:∀b,C'.β b≠I r:=by
   intro b hb
   obtain⟨x,hx⟩:=Mj (m.lt b r hb).2▸(⟨_,rfl⟩:∃x,I (hp[b]'(m.lt b r hb).2)=I x)
   have h0:=m.box b x r hx hb
   cases x with
   |hole=>exact h0
   |cells cs=>obtain⟨vs,elem,h1,_⟩:=h0;rw[hg]at h1;cases h1
   |map es=>obtain⟨bQ,clock,h1,_⟩:=h0;rw[hg]at h1;cases h1
   |iter s pos=>have h1:w.heap[r]?=_:=h0;rw[hg]at h1;cases h1
   |loop l=>obtain⟨lp,h1,_⟩:=h0;rw[hg]at h1;cases h1
   |fE t e l=>obtain⟨p,v,h1,_⟩:=h0;rw[hg]at h1;cases h1
   |dead=>obtain⟨cs,t,h1⟩:=h0;rw[hg]at h1;cases h1
   |vec sz bz xs=>obtain⟨_,_,_,_,_,_,cs,t,h1⟩:=h0;rw[hg]at h1;cases h1
  have bm:(Instr.takeDeferred r).run P w=.ok [] (jI w r (.deferred E9)):=by
   have hs:=wZ (P:=P) (x:=.deferred E9) hg (by simp)
   simp only[Instr.takeDeferred,Sem.run_bind,oY hg (by simp),Result.andThen_ok,hs,Sem.run_pure]
  refine⟨by simp,.inl ⟨r,_,rfl,bm,?_⟩⟩
  have FC:=List.nodup_cons.1 Dq
  have m2:=m.other (D':=fun k=>C'.D k∧k≠r) hu hβ hBr kQ (fun k h=>h) (fun k h=>⟨hle.d k h,fun hk=>by have:=hD k h;omega⟩)
  exact q0e rs { C' with D:=fun k=>C'.D k∧k≠r } _ ⟨hle.k,hle.b,hle.w,fun k h=>⟨hle.d k h,fun hk=>by have:=hD k h;omega⟩,hle.t⟩ m2 (e.jY hu kQ) FC.2
   (fun k hk=>⟨⟨(FB k (by simp[hk])).1,fun h=>FC.1 (h▸hk)⟩,(FB k (by simp[hk])).2⟩) hD dS
theorem q5j (hx:cg P xc){k:Nat}{fn:Func}{h:qb}{f:qd}(hfn:P.funcs[k]?=I fn)(hc:EU P h fn=I f){args:List qa}{v:qa}{ow:Bool}{h':j8}(hr:oU xc f args hp=I (v,ow,h')){vs:List Value}(dQ:aM C args vs)(m:av P C ω w C hp w):
  CallsIn Fence.wide 0 P k ⟨vs⟩ w fun e w'=>∃u C' ω',e=.returned u∧C.le C'∧av P C' ω' w C h' w'∧bF C' v u∧(ow=E6→aF C' ω' w' w.heap.size (.slot 0) v u):=by
 obtain⟨c,hb,h1,h2,h3,_⟩:=S5 hc
 unfold oU at hr
 have hD:∀k,C.D k→k<w.heap.size:=fun k hk=>(E1.1 (m.eN k hk)).1
 cases hle:Ge args.length f.ntmps with
 |false=>simp[hle]at hr
 |true=>
  simp only[hle,cT]at hr
  have hlen:=E0 hle
  have vn:=dQ.length
  refine callsIn_of_wp_marks hfn hb trivial ?_
  have cD:((⟨vs⟩:Array Value)++R9 (fn.ntmps-(⟨vs⟩:Array Value).size) undef).size=fn.ntmps:=by
   simp;omega
  have FD:aj C ω w w.heap.size (n6 0 args) ((⟨vs⟩:Array Value)++R9 (fn.ntmps-(⟨vs⟩:Array Value).size) undef):=by
   intro s x hx
   obtain⟨j,rfl,hj,hf⟩:=qua hx
   obtain⟨u,k1,k2⟩:=dQ.get hj
   have aY:j<vs.length:=(Gm.1 k1).1
   refine⟨u,?_,k2,by simp[hf]⟩
   rw[Ma,Array.getElem?_append_left (by simpa using aY)]
   simpa using k1
  have fin:∀(st:qg) (a':Act) (w':World) (C':ay) (ω':Nat→Option Loc),C.le C'→Marks C' w.heap.size a'.defers→av P C' ω' w C st.heap w'→aj C' ω' w' w.heap.size st.env a'.tmps →
    (match lh st f.results with
     |some xs=>I ((yr xs).1,(yr xs).2,kL st f.results)
     |none=>E9)=I (v,ow,h') →
    LeavesInM Fence.wide 0 P fn a'.tmps (fun e w'=>∃u C' ω',e=.returned u∧C.le C'∧av P C' ω' w C h' w'∧bF C' v u∧(ow=E6→aF C' ω' w' w.heap.size (.slot 0) v u)) a'.defers .returning w':=by
   intro st a' w' C' ω' hle ⟨rs,hds,Dq,FB⟩ m' e' hr
   rw[hds]
   refine q0e (C:=C) (ω:=ω') (w0:=w) (hp:=st.heap) (env:=st.env) rs C' w' hle m' e' Dq FB hD ?_
   intro C2 w2 iP _ m2 e2
   split at hr
   ·rename_i xs oW
    cases hr
    obtain⟨u,ω2,k1,k2,k3,k4⟩:=q5y (fn:=fn) m2 e2 h2 oW
    exact⟨u,k1,u,C2,ω2,rfl,iP,k2,k3,k4⟩
   ·cases hr
  split at hr
  ·rename_i st bU
   refine wpIn_mono (hx E9 fn.ntmps c f.body _ _ _ ⟨h,h1⟩ (fun h=>absurd rfl h) bU C ω w C _ w m FD cD Marks.nil) ?_
   rintro e a' w' ⟨rfl,q1,C',ω',q3,q2,q4,q5⟩
   exact fin st a' w' C' ω' q3 q2 q4 q5 hr
  ·rename_i st bU
   refine wpIn_mono (hx E9 fn.ntmps c f.body _ _ _ ⟨h,h1⟩ (fun h=>absurd rfl h) bU C ω w C _ w m FD cD Marks.nil) ?_
   rintro e a' w' ⟨rfl,q1,C',ω',q3,q2,q4,q5⟩
   exact fin st a' w' C' ω' q3 q2 q4 q5 hr
  ·cases hr
theorem q16 {K:Nat→Nat→Option Value}(ht:Tabs P w)(h1:∀r o u,K r o=I u→w.cell? ⟨r,o,E9⟩=I u)(h2:∀r o u,K r o=I u→u.oneCell'=E6):av P (.bM K) (fun _=>E9) w (.bM K) [] w where
 base:=⟨ht,fun g _=>⟨fun b h=>(by cases h),fun h=>h⟩⟩
 know:=h1
 cR:=h2
 apart:=by simp[ay.bM]
 inj:=by simp[ay.bM]
 lt:=by simp[ay.bM]
 size:=Nat.le_refl _
 frame _ _ _ _:=rfl
 eN _ h:=h.elim
 os:=rfl
 output:=rfl
 fresh:=by simp[ay.bM]
 grown:=ay.le_refl _
 old _ _ _ _:=rfl
 box:=by simp
 gY _ h:=h.elim
theorem FE (hp:qx P p)(hx:cg P xc){k:Nat}{args:List qa}{h h':j8}{v:qa}{ow:Bool}(hr:zf p xc k args h=I (v,ow,h')):Enters P k∧zW P k args h v ow h':=by
 unfold zf at hr
 split at hr
 ·rename_i f hf
  obtain⟨fn,hh,hfn,FF⟩:=hp.fn k f hf
  exact⟨hp.enters hf,fun C ω w vs dQ m=>q5j hx hfn FF hr dQ m⟩
 ·split at hr
  ·rename_i f hf
   obtain⟨he,hs⟩:=hp.fD k f hf
   exact⟨he,hs _ _ _ _ _ hr⟩
  ·cases hr
theorem qy.bM {es:List (qa×qa)}{ms:List MapEntry}(h:qy C es ms):tV 0 es=E6→qy (.bM C.K) es ms:=by
 induction h with
 |nil=>exact fun _=>.nil
 |cons k v es m ms hk hv _ ih=>
  intro hb
  simp only[tV,Ef]at hb
  exact .cons _ _ _ _ _ (qp.shift (C:=C) (C':=.bM C.K) 0 (fun _ _ _ h=>h) (fun b r aY=>by omega) hk hb.1.1) (qp.shift (C:=C) (C':=.bM C.K) 0 (fun _ _ _ h=>h) (fun b r aY=>by omega) hv hb.1.2) (ih hb.2)
theorem jaw (hp:qx P p)(hx:cg P xc){k b:Nat}{ow:Bool}{h1:j8}{es:List (qa×qa)}(hr:zf p xc k [] []=I (.map b,ow,h1))(hb:h1[b]?=I (.map es))(he:tV 0 es=E6):Enters P k∧S4 P k es:=by
 obtain⟨lA,mL⟩:=FE hp hx hr
 refine⟨lA,fun K w ht g1 g2=>?_⟩
 refine CallsIn.mono (mL _ _ _ [] .nil (q16 (P:=P) ht g1 g2)) ?_
 rintro e w' ⟨u,C',ω',rfl,hle,m',fI,_⟩
 cases fI with
 |map _ q hq=>
  obtain⟨bQ,clock,k1,k2⟩:=m'.box b _ q hb hq
  refine⟨q,C'.K,bQ,clock,rfl,⟨m'.size,fun r hr=>m'.frame r hr (by simp[ay.bM]) (by simp[ay.bM]),m'.os,m'.output⟩,hle.1,fun r o hr=>m'.old r o hr (by simp[ay.bM]),m'.know,m'.cR,?_,k1,k2.bM he⟩
  rcases m'.fresh b q hq with h|h|h
  ·cases h
  ·exact h
  ·exact h.elim
theorem Ms (hp:qx P p)(hx:cg P xc){k:Nat}{args:List qa}{v:qa}{ow:Bool}(hr:jy p xc k args=I (v,ow))(hb:zu 0 args=E6):Enters P k∧lU v=E6∧IsoCall P k args v ow:=by
 unfold jy at hr
 split at hr
 ·rename_i f hf
  obtain⟨he,FG⟩:=hp.gG k f hf
  split at hr
  ·rename_i v' o' FH
   cases kT:lU v' with
   |false=>simp[kT]at hr
   |true=>
    simp only[kT,cT]at hr
    cases hr
    exact⟨he,kT,FG args _ _ FH kT hb⟩
  ·cases hr
 ·split at hr
  ·rename_i v0 o' h' FH
   split at hr
   ·rename_i v' Du
    cases kT:lU v' with
    |false=>simp[kT]at hr
    |true=>
     simp only[kT,cT]at hr
     cases hr
     obtain⟨lA,mL⟩:=FE hp hx FH
     ·refine⟨lA,kT,?_⟩
      intro K w vs ht h1 h2 dQ
      have:=mL _ _ _ _ dQ (q16 (P:=P) ht h1 h2)
      refine CallsIn.mono this ?_
      rintro e w' ⟨u,C',ω',rfl,hle,m',fI,cB⟩
      refine⟨u,ki C' h' w',rfl,?_,fun r o x hr=>Fz m' (hle.1 r o x hr),fun r o hr=>?_,fun r o x hr=>(Mr m' hr).1,fun r o x hr=>(Mr m' hr).2,q5n m' Du fI kT,?_⟩
      ·exact⟨m'.size,fun r hr=>m'.frame r hr (by simp[ay.bM]) (by simp[ay.bM]),m'.os,m'.output⟩
      ·have hold:=m'.old r o hr (by simp[ay.bM])
       unfold ki
       rw[if_neg]
       ·exact hold
       intro hh
       have:=jdd hle.w m' hh
       omega
      ·intro ho
       simp only[Ef]at ho
       have hℓ:=cB ho.1
       refine⟨.slot 0,ω',?_⟩
       cases v0 with
       |list n sz xs=>
        have FI:v=.list n sz xs:=by
         simp only[aC,iB,I.injEq]at Du
         exact Du.symm
        subst FI
        unfold aF at *
        split at hℓ
        ·obtain⟨g1,g2,g3,g4,g5,g6,g7⟩:=hℓ
         refine⟨g1,.inl (g2.resolve_right (by rw[hle.w];exact fun h=>h)),by simp[ay.bM],g4,g5,g6,fun o xd=>?_⟩
         show ki C' h' w' _ o=E9
         unfold ki
         rw[if_neg]
         ·exact g7 o xd
         ·rintro (⟨b,hb⟩|hh)
          ·exact g3 b hb
          ·rcases hh.is m' with⟨b,hb⟩|⟨b,_,_,_,_,_,_,h2⟩
           ·exact g3 b hb
           ·have:=h2.1;rw[g1]at this;simp at this
        all_goals trivial
       |_=>exact absurd ho.2 (by simp[qa.cu])
   ·cases hr
  ·cases hr
end
section
variable {P:Program}{p:qt}{xc:XC}{C C0 C1:ay}{ω ω1:Nat→Option Loc}{w w' w0:World}{hp h1:j8}{env:Env}{tmps:Array Value}{B:Nat}{a:Act}{o:Oper}{d:Loc}
theorem aF.grow {K':Nat→Nat→Option Value}{ℓ:Loc}{x:qa}{v:Value}(hx:Ext w w')(hK:∀r o,r<w.heap.size→K' r o=C.K r o)(ho:aF C ω w B ℓ x v):aF { C with K:=K' } ω w' B ℓ x v:=by
 unfold aF at *
 split at ho
 ·obtain⟨h1,h2,h3,h4,h8,⟨cells,elem,h5,h6⟩,h7⟩:=ho
  have aY:=(E1.1 h5).1
  exact⟨h1,h2,h3,h4,h8,⟨cells,elem,hx.get h5,h6⟩,fun o ho=>by
   show K' _ o=E9
   rw[hK _ o aY];exact h7 o ho⟩
 ·obtain⟨h1,h2,h3,h4,h8,⟨cells,elem,h5,h6⟩,h7⟩:=ho
  have aY:=(E1.1 h5).1
  exact⟨h1,h2,h3,h4,h8,⟨cells,elem,hx.get h5,h6⟩,fun o ho=>by
   show K' _ o=E9
   rw[hK _ o aY];exact h7 o ho⟩
 ·trivial
theorem av.bM {K':Nat→Nat→Option Value}(m:av P C ω w0 C0 hp w)(hx:Ext w w')(hle:∀r o x,C.K r o=I x→K' r o=I x)(hK:∀r o,r<w.heap.size→K' r o=C.K r o)(hk:∀r o x,K' r o=I x→w'.cell? ⟨r,o,E9⟩=I x)(h1:∀r o x,K' r o=I x→x.oneCell'=E6):
  av P { C with K:=K' } ω w0 C0 hp w' where
 base:=m.base
 know:=hk
 cR:=h1
 apart b r o hb:=by
  show K' r o=E9
  rw[hK r o (m.lt b r hb).1];exact m.apart b r o hb
 inj:=m.inj
 lt b r hb:=⟨Gz (m.lt b r hb).1 hx.size,(m.lt b r hb).2⟩
 size:=Gb m.size hx.size
 frame:=(m.ext hx).frame
 eN:=(m.ext hx).eN
 os:=(m.ext hx).os
 output:=(m.ext hx).output
 fresh:=m.fresh
 grown:=ay.le_trans m.grown ⟨hle,fun _ _ h=>h,rfl,fun _ h=>h,fun _ h=>h⟩
 old r o hr hw:=by
  show K' r o=_
  rw[hK r o (Gz hr m.size)];exact m.old r o hr hw
 box b x r hb hr:=by
  have h0:=m.box b x r hb hr
  -- in the new world first,then in the richer context
  cases x with
  |hole=>exact h0
  |cells cs=>
   obtain⟨vs,elem,g1,g2,g3⟩:=h0
   exact⟨vs,elem,hx.get g1,g2,fun j c hc=>let ⟨v,a,q,b,d⟩:=g3 j c hc; ⟨v,a,q,qp.mono (C':={ C with K:=K' }) ⟨hle,fun _ _ h=>h,rfl,fun _ h=>h,fun _ h=>h⟩ b,fun e=>(d e).grow hx hK⟩⟩
  |map es=>obtain⟨bQ,clock,g1,g2⟩:=h0;exact⟨bQ,clock,hx.get g1,qy.mono (C:=C) (C':={ C with K:=K' }) ⟨hle,fun _ _ h=>h,rfl,fun _ h=>h,fun _ h=>h⟩ g2⟩
  |iter s pos=>exact hx.get h0
  |loop l=>obtain⟨lp,g1,g2⟩:=h0;exact⟨lp,hx.get g1,q9.mono (C:=C) (C':={ C with K:=K' }) ⟨hle,fun _ _ h=>h,rfl,fun _ h=>h,fun _ h=>h⟩ g2⟩
  |fE t e l=>obtain⟨p,v,g1,g2,g3,g4⟩:=h0;exact⟨p,v,hx.get g1,g2,g3,g4.grow hx hK⟩
  |dead=>obtain⟨cs,t,g1⟩:=h0;exact⟨cs,t,hx.get g1⟩
  |vec sz bz xs=>
   have hg:∀ {k:Nat} {c:Array Value} {t:TypeId},w.heap[k]?=I (.cells c t (0,0))→w'.heap[k]?=w.heap[k]?:=fun hk=>by rw[hx.get hk,hk]
   obtain⟨_,_,_,_,_,_,cs,t,g1⟩:=id h0
   refine dH.imp hle (fun _ h=>h) (fun _ h _=>h) (hg g1) (fun q n cap k=>⟨?_,k.grow hx hK⟩) h0
   obtain⟨_,_,_,_,_,⟨cells,elem,h5,_⟩,_⟩:=k
   exact hg h5
 gY q hq:=Gz (m.gY q hq) hx.size
theorem aj.bM {K':Nat→Nat→Option Value}(e:aj C ω w B env tmps)(hx:Ext w w')(hle:∀r o x,C.K r o=I x→K' r o=I x)(hK:∀r o,r<w.heap.size→K' r o=C.K r o):aj { C with K:=K' } ω w' B env tmps:=
 fun s x hs=>let ⟨v,h1,h2,h3⟩:=e s x hs; ⟨v,h1,qp.mono (C':={ C with K:=K' }) ⟨hle,fun _ _ h=>h,rfl,fun _ h=>h,fun _ h=>h⟩ h2,fun h=>(h3 h).grow hx hK⟩
theorem q5b (m:av P C ω w0 C0 hp w)(e:aj C ω w w0.heap.size env tmps){v:qa}{ow:Bool}{u:Value}{K':Nat→Nat→Option Value}(hx:Ext w w')(hle:∀r o x,C.K r o=I x→K' r o=I x)(hK:∀r o,r<w.heap.size→K' r o=C.K r o)(hk:∀r o x,K' r o=I x→w'.cell? ⟨r,o,E9⟩=I x)(h1:∀r o x,K' r o=I x→x.oneCell'=E6)
  (kT:lU v=E6) (hr:bF (.bM K') v u) (ho:ow=E6→∃ℓ ω',aF (.bM K') ω' w' w.heap.size ℓ v u):kf P C0 w0 C tmps d env ⟨v,ow,E9,hp⟩ u w':=by
 have m':=m.bM hx hle hK hk h1
 have e':=e.bM hx hle hK
 have jD:bF { C with K:=K' } v u:=qp.shift (C:=.bM K') (C':={ C with K:=K' }) 0 (fun _ _ _ h=>h) (fun b r aY=>by omega) hr kT
 have cz:C.le { C with K:=K' }:=⟨hle,fun _ _ h=>h,rfl,fun _ h=>h,fun _ h=>h⟩
 by_cases hkL:∃(n:Bool) (sz:Nat) (xs:List qa) (ad:Addr) (len cap:Nat),v=.list n sz xs∧u=.slice (I ad) len cap∧ow=E6
 ·obtain⟨n,sz,xs,ad,len,cap,rfl,rfl,rfl⟩:=hkL
  obtain⟨ℓ,ω',g1,S6,g3,g4,g5,g6,g7⟩:=ho rfl
  have g2:w.heap.size≤ad.block:=S6.resolve_right (fun h=>h)
  have zX:∀ℓ x v,aF C ω w w0.heap.size ℓ x v→aF { C with K:=K' } (ct ω ad.block d) w' w0.heap.size ℓ x v:=fun ℓ x v h=>by
   have h2:=(h.fresh (ℓ':=d) g2).grow hx hK
   exact h2
  refine⟨{ C with K:=K' },ct ω ad.block d,cz,?_,?_,jD,fun _=>?_⟩
  ·have:=(m.jQ ad.block d g2).bM hx hle hK hk h1
   exact this
  ·exact fun s x hs=>let ⟨v,h1,h2,h3⟩:=e s x hs; ⟨v,h1,qp.mono cz h2,fun h=>zX _ _ _ (h3 h)⟩
  ·refine⟨by simp[ct],.inl (Gb m.size g2),fun b hb=>?_,g4,g5,g6,g7⟩
   have:=(m.lt b _ hb).1
   omega
 by_cases cY:∃(n:Nat) (ad:Addr),v=.cE n∧u=.pointer (I ad)∧ow=E6
 ·obtain⟨n,ad,rfl,rfl,rfl⟩:=cY
  obtain⟨ℓ,ω',g1,S6,g3,g4,g5,g6,g7⟩:=ho rfl
  have g2:w.heap.size≤ad.block:=S6.resolve_right (fun h=>h)
  have zX:∀ℓ x v,aF C ω w w0.heap.size ℓ x v→aF { C with K:=K' } (ct ω ad.block d) w' w0.heap.size ℓ x v:=fun ℓ x v h=>by
   have h2:=(h.fresh (ℓ':=d) g2).grow hx hK
   exact h2
  refine⟨{ C with K:=K' },ct ω ad.block d,cz,?_,?_,jD,fun _=>?_⟩
  ·have:=(m.jQ ad.block d g2).bM hx hle hK hk h1
   exact this
  ·exact fun s x hs=>let ⟨v,h1,h2,h3⟩:=e s x hs; ⟨v,h1,qp.mono cz h2,fun h=>zX _ _ _ (h3 h)⟩
  ·refine⟨by simp[ct],.inl (Gb m.size g2),fun b hb=>?_,g4,g5,g6,g7⟩
   have:=(m.lt b _ hb).1
   omega
 ·refine⟨{ C with K:=K' },ω,cz,m',e',jD,fun h=>?_⟩
  cases v with
  |list n sz xs=>
   cases u with
   |slice q len cap=>
    cases q with
    |some ad=>exact absurd ⟨_,_,_,_,_,_,rfl,rfl,h⟩ hkL
    |none=>trivial
   |_=>trivial
  |cE n=>
   cases u with
   |pointer q=>
    cases q with
    |some ad=>exact absurd ⟨_,_,rfl,rfl,h⟩ cY
    |none=>trivial
   |_=>trivial
  |_=>trivial
theorem jiz (m:av P C ω w0 C0 hp w)(e:aj C ω w w0.heap.size env tmps){b q:Nat}{K':Nat→Nat→Option Value}{es:List (qa×qa)}{bQ:Array MapEntry}{clock:Nat}(hx:Ext w w')(hle:∀r o x,C.K r o=I x→K' r o=I x)(hK:∀r o,r<w.heap.size→K' r o=C.K r o)(hk:∀r o x,K' r o=I x→w'.cell? ⟨r,o,E9⟩=I x)(h1:∀r o x,K' r o=I x→x.oneCell'=E6)
  (hh:hp[b]?=I .hole) (hq:w.heap.size≤q) (hg:w'.heap[q]?=I (.map bQ clock)) (hr:qy (.bM K') es bQ.toList):kf P C0 w0 C tmps d env ⟨.map b,Gd,E9,hp.set b (.map es)⟩ (.map (I q)) w':=by
 have m':=m.bM hx hle hK hk h1
 have e':=e.bM hx hle hK
 have cz:C.le { C with K:=K' }:=⟨hle,fun _ _ h=>h,rfl,fun _ h=>h,fun _ h=>h⟩
 obtain⟨m2,e2,iP⟩:=m'.Fj e' hh hg (fun k hk=>by have:=(m.lt k q hk).1;omega) (Gb m.size hq) (qy.imp (C:=.bM K') (C':={ C with K:=K' }) ⟨fun _ _ _ h=>h,fun b r h=>by simp[ay.bM]at h⟩ hr)
 exact⟨_,ω,ay.le_trans cz iP,m2,e2,.map _ _ (by simp[ay.box]),by simp⟩
theorem FJ {C C':ay}{x:qa}{v:Value}(hp:ny x=E6)(h:bF C x v):bF C' x v:=by
 cases x<;>simp only[ny,E7]at hp<;>cases h<;>constructor
theorem av.zY (m:av P C ω w0 C0 hp w)(e:aj C ω w w0.heap.size env tmps){b q:Nat}{K':Nat→Nat→Option Value}{cells:Array Value}{t:TypeId}{cs:List (qa×Bool)}(hx:Ext w w')(hle:∀r o x,C.K r o=I x→K' r o=I x)(hK:∀r o,r<w.heap.size→K' r o=C.K r o)(hk:∀r o x,K' r o=I x→w'.cell? ⟨r,o,E9⟩=I x)(h1:∀r o x,K' r o=I x→x.oneCell'=E6)
  (hq:w.heap.size≤q) (hn:∀o,K' q o=E9) (hh:hp[b]?=I .hole) (hg:w'.heap[q]?=I (.cells cells t (0,0))) (hl:cs.length≤cells.size)
  (hcs:∀(j:Nat) (c:qa×Bool),cs[j]?=I c→∃v,cells[j]?=I v∧v.oneCell'=E6∧bF (({ C with K:=K' }:ay).box b q) c.1 v∧c.2=Gd):
  av P (({ C with K:=K' }:ay).box b q) ω w0 C0 (hp.set b (.cells cs)) w'∧aj (({ C with K:=K' }:ay).box b q) ω w' w0.heap.size env tmps∧C.le (({ C with K:=K' }:ay).box b q):=by
 have m':=m.bM hx hle hK hk h1
 have hβ:=Fh m hh
 have zT:C.le { C with K:=K' }:=⟨hle,fun _ _ h=>h,rfl,fun _ h=>h,fun _ h=>h⟩
 have iP:({ C with K:=K' }:ay).le (({ C with K:=K' }:ay).box b q):=ay.jU (C:={ C with K:=K' }) (r:=q) hβ
 have cz:=ay.le_trans zT iP
 have aY:b<hp.length:=(Gm.1 hh).1
 have Mt:∀k,C.β k≠I q:=fun k hk=>by have:=(m.lt k q hk).1;omega
 have cB:∀ℓ x v,aF C ω w w0.heap.size ℓ x v→aF (({ C with K:=K' }:ay).box b q) ω w' w0.heap.size ℓ x v:=fun ℓ x v h=>aF.grow (C:=C.box b q) hx hK (aF.box (.inl hq) h)
 refine⟨{ m' with apart:=?_,inj:=?_,lt:=?_,fresh:=?_,grown:=ay.le_trans m'.grown iP,box:=?_ },?_,cz⟩
 ·intro k r o hk
  simp only[ay.box]at hk
  split at hk
  ·cases hk;exact hn o
  ·exact m'.apart k r o hk
 ·intro k k' r hk eC
  simp only[ay.box]at hk eC
  split at hk<;>split at eC
  ·rename_i h1 h2;rw[h1,h2]
  ·cases hk;exact absurd eC (Mt k')
  ·cases eC;exact absurd hk (Mt k)
  ·exact m.inj k k' r hk eC
 ·intro k r hk
  rw[Nf]
  simp only[ay.box]at hk
  split at hk
  ·rename_i h1;cases hk;subst h1;exact⟨(E1.1 hg).1,aY⟩
  ·exact m'.lt k r hk
 ·intro k r hk
  simp only[ay.box]at hk
  split at hk
  ·cases hk;exact .inr (.inl (Gb m.size hq))
  ·exact m.fresh k r hk
 ·intro k y r hy hk
  simp only[ay.box]at hk
  split at hk
  ·rename_i h1
   subst h1
   cases hk
   rw[List.getElem?_set_self aY]at hy
   cases hy
   refine⟨cells,t,hg,hl,fun j c hc=>?_⟩
   obtain⟨v,a1,a2,a3,a4⟩:=hcs j c hc
   exact⟨v,a1,a2,a3,fun h=>by rw[a4]at h;cases h⟩
  ·rename_i h1
   rw[H6 (Ne.symm h1)]at hy
   have h0:=m.box k y r hy hk
   cases y with
   |hole=>exact h0
   |cells cs=>
    obtain⟨vs,elem,g1,g2,g3⟩:=h0
    exact⟨vs,elem,hx.get g1,g2,fun j c hc=>let ⟨v,a,q,b,d⟩:=g3 j c hc; ⟨v,a,q,qp.mono cz b,fun e=>cB _ _ _ (d e)⟩⟩
   |map es=>obtain⟨bQ,clock,g1,g2⟩:=h0;exact⟨bQ,clock,hx.get g1,qy.mono cz g2⟩
   |iter s pos=>exact hx.get h0
   |loop l=>obtain⟨lp,g1,g2⟩:=h0;exact⟨lp,hx.get g1,q9.mono cz g2⟩
   |fE t e l=>obtain⟨p,v,g1,g2,g3,g4⟩:=h0;exact⟨p,v,hx.get g1,g2,g3,cB _ _ _ g4⟩
   |dead=>obtain⟨cs,t,g1⟩:=h0;exact⟨cs,t,hx.get g1⟩
   |vec sz bz xs=>
    have Mu:∀ {k:Nat} {c:Array Value} {t:TypeId},w.heap[k]?=I (.cells c t (0,0))→w'.heap[k]?=w.heap[k]?:=fun hk=>by rw[hx.get hk,hk]
    obtain⟨_,_,_,_,_,_,cs,t,g1⟩:=id h0
    refine dH.imp hle (fun _ h=>h) (fun _ h _=>h) (Mu g1) (fun q n cap k'=>⟨?_,cB _ _ _ k'⟩) h0
    obtain⟨_,_,_,_,_,⟨cells,elem,h5,_⟩,_⟩:=k'
    exact Mu h5
 ·exact fun s y hy=>let ⟨v,h1,h2,h3⟩:=e s y hy; ⟨v,h1,qp.mono cz h2,fun h=>cB _ _ _ (h3 h)⟩
theorem av.FK (m:av P C ω w0 C0 hp w){b:Nat}{x:qn}(hh:hp[b]?=I .hole):av P C ω w0 C0 (hp.set b x) w:=by
 have hβ:=Fh m hh
 refine { m with lt:=fun k r hk=>by rw[Nf];exact m.lt k r hk,box:=fun k y r hy hk=>?_ }
 by_cases lu:k=b
 ·subst lu;rw[hβ]at hk;cases hk
 ·rw[H6 (Ne.symm lu)]at hy
  exact m.box k y r hy hk
theorem jbe (m:av P C ω w0 C0 hp w)(e:aj C ω w w0.heap.size env tmps){v:qa}{ow:Bool}{u:Value}{h0 r:Nat}{res:qq}{K':Nat→Nat→Option Value}(hx:Ext w w')(hle:∀r o x,C.K r o=I x→K' r o=I x)(hK:∀r o,r<w.heap.size→K' r o=C.K r o)(hk:∀r o x,K' r o=I x→w'.cell? ⟨r,o,E9⟩=I x)(h1:∀r o x,K' r o=I x→x.oneCell'=E6)
  (hr:bF (.bM K') v u) (ho:ow=E6→∃ℓ ω',aF (.bM K') ω' w' w.heap.size ℓ v u) (ht:pH h0 hp r v ow=I res):kf P C0 w0 C tmps d env res u w':=by
 unfold pH at ht
 split at ht
 ·rename_i sz _
  split at ht
  ·rename_i h' hn
   have hv:=zx ht
   obtain⟨hh,rfl⟩:=lv hn
   subst hv
   have cz:C.le { C with K:=K' }:=⟨hle,fun _ _ h=>h,rfl,fun _ h=>h,fun _ h=>h⟩
   refine⟨{ C with K:=K' },ω,cz,(m.bM hx hle hK hk h1).FK hh,e.bM hx hle hK,qp.shift (C:=.bM K') (C':={ C with K:=K' }) 0 (fun _ _ _ h=>h) (fun b r aY=>by omega) hr (by rfl),fun h=>by simp at h⟩
  ·cases ht
 ·rename_i sz xs
  cases hb:(xs.flatMap qa.flat).all ny with
  |false=>rw[hb]at ht;cases ht
  |true=>
   rw[hb]at ht
   simp only[cT]at ht
   split at ht
   ·rename_i h' hn
    have hv:=zx ht
    obtain⟨hh,rfl⟩:=lv hn
    subst hv
    obtain⟨ℓ,ω',ho⟩:=ho rfl
    cases hr with
    |iJ sz a lW=>
     simp only[aF]at ho
     exact absurd ho.2.2.2.1 lW
    |list sz _ q o cap hl cM=>
     simp only[aF]at ho
     obtain⟨o1,o2,o3,_,o5,⟨cells,elem,o6,o7,_⟩,o8⟩:=ho
     subst o5
     have hq:w.heap.size≤q:=o2.resolve_right (fun h=>h)
     let K2:Nat→Nat→Option Value:=fun r o=>if r=q then E9 else K' r o
     have FL:∀ {r o x},K2 r o=I x→K' r o=I x:=by
      intro r o x h
      simp only[K2]at h
      split at h
      ·cases h
      ·exact h
     have iP:∀r o x,C.K r o=I x→K2 r o=I x:=by
      intro r o x h
      have aY:r<w.heap.size:=by
       have:=m.know r o x h
       unfold World.cell? at this
       split at this
       ·rename_i c _ _ hc;exact(E1.1 hc).1
       ·cases this
      have bA:r≠q:=by omega
      simp only[K2,if_neg bA]
      exact hle r o x h
     have S7:∀r o,r<w.heap.size→K2 r o=C.K r o:=by
      intro r o aY
      have bA:r≠q:=by omega
      simp only[K2,if_neg bA]
      exact hK r o aY
     have hcells:=aX.cells cM
     have hlen:(xs.flatMap qa.flat).length≤cells.size:=by
      rcases Nat.eq_zero_or_pos (xs.flatMap qa.flat).length with h0|h0
      ·omega
      ·obtain⟨y,hy⟩:∃y,(xs.flatMap qa.flat)[(xs.flatMap qa.flat).length-1]?=I y:=⟨_,Mj (by omega)⟩
       obtain⟨v,hv,_⟩:=bZ.get hcells hy
       have h3:=hk _ _ _ hv
       unfold World.cell? at h3
       rw[o6]at h3
       simp only[Gy,E7,if_false]at h3
       have:=(E1.1 h3).1
       omega
     obtain⟨m2,e2,l2⟩:=m.zY e (b:=h0+r) (q:=q) (K':=K2) (cells:=cells) (t:=elem) (cs:=cellsOf (xs.flatMap qa.flat)) hx iP S7 (fun r o x h=>hk r o x (FL h)) (fun r o x h=>h1 r o x (FL h)) hq (fun o=>by simp[K2]) hh o6 (by rw[show(cellsOf (xs.flatMap qa.flat)).length=(xs.flatMap qa.flat).length by simp[cellsOf]];exact hlen) (by
      intro j c hc
      simp only[cellsOf,Hq,E3]at hc
      obtain⟨y,hy,rfl⟩:=hc
      obtain⟨v,hv,pe⟩:=bZ.get hcells hy
      have h3:=hk _ _ _ hv
      unfold World.cell? at h3
      rw[o6]at h3
      simp only[Gy,E7,if_false,Ma]at h3
      exact⟨v,h3,h1 _ _ _ hv,FJ (Ha.1 hb y (Gc hy)) pe,rfl⟩)
     exact⟨_,ω,l2,m2,e2,.ms _ 0 _ q cap (by simp[ay.box]) hl,fun h=>by simp at h⟩
   ·cases ht
 ·cases ht
theorem q7q (m:av P C ω w0 C0 hp w){x x':qa}{v:Value}(hf:RS hp x=I x')(h:bF C x v)(hb:Abs.below 0 x'=E6):bF (.bM (ki C hp w)) x' v:=by
 unfold RS at hf
 split at hf
 ·rename_i b len
  split at hf
  ·rename_i cs hcs
   cases hc:(Ga (len*(cs.length / len)) cs.length&&Hh 0 (cs.length / len)&&cs.all (fun c=>ny c.1))with
   |false=>
    rw[hc,cond_false]at hf
    cases hl:Ga len 0 with
    |false=>rw[hl]at hf;cases hf
    |true=>
     rw[hl]at hf
     have hl:=En hl
     subst hl
     simp only[cT,I.injEq]at hf
     subst hf
     obtain⟨r,cap,hE,hle,rfl⟩:=h.ey
     exact qp.list (C:=.bM (ki C hp w)) 8 [] r 0 cap (Nat.zero_le _) (.fg _ _ _)
   |true=>
    rw[hc]at hf
    simp only[cT,I.injEq]at hf
    subst hf
    simp only[Ef]at hc
    obtain⟨⟨c1,c2⟩,c3⟩:=hc
    have c1:=En c1
    have c2:0<cs.length / len:=by simpa using c2
    obtain⟨r,cap,hE,hle,rfl⟩:=h.ey
    obtain⟨vs,elem,k1,k2,k3⟩:=m.box b _ r (vp hcs) hE
    have cM:aX (.bM (ki C hp w)) r (cs.length / len) (lV (cs.length / len) len (cs.map (·.1))) 0:=by
     refine SY c2 (by rw[Ny];exact c1.symm) (fun x hx=>?_) fun j x hx=>?_
     ·obtain⟨c,hc,rfl⟩:=List.mem_map.1 hx
      have:=Ha.1 c3 c hc
      cases hq:c.1<;>rw[hq]at this<;>first|rfl|cases this
     ·rw[Hq,E3]at hx
      obtain⟨c,hc,rfl⟩:=hx
      obtain⟨u,q1,q2,q3,_⟩:=k3 j c hc
      have dE:w.cell? ⟨r,0+j,E9⟩=I u:=by
       unfold World.cell?
       rw[k1]
       simp only[Gy,E7,if_false,Ma]
       exact q1
      exact⟨u,SV hE dE q2,FJ (Ha.1 c3 c (Gc hc)) q3⟩
    have:=qp.list (C:=.bM (ki C hp w)) (cs.length / len) (lV (cs.length / len) len (cs.map (·.1))) r 0 cap (by rw[FA];exact hle) cM
    rw[FA]at this
    exact this
  ·cases hf
 ·cases hf
  exact SW m h hb
theorem qt5 (m:av P C ω w0 C0 hp w):∀ {xs fq:List qa} {vs:List Value},wM hp xs=I fq→aM C xs vs→zu 0 fq=E6→aM (.bM (ki C hp w)) fq vs
 | [],fq,vs,hf,h,_=>by
  simp only[wM,I.injEq]at hf
  subst hf
  cases h
  exact .nil
 |x::xs,fq,vs,hf,h,hb=>by
  simp only[wM]at hf
  split at hf
  ·rename_i y ys h1 h2
   cases hf
   cases h with
   |cons _ _ v vs hx h=>
    simp only[zu,Ef]at hb
    exact .cons _ _ _ _ (q7q m h1 hx hb.1) (qt5 m h2 h hb.2)
  ·cases hf
theorem qvy {C C':ay}{x:qa}{v:Value}(hp:wN x=E6)(h:bF C x v):bF C' x v:=by
 cases x with
 |agg cs=>
  obtain⟨vs,rfl,hl⟩:=h.dX
  refine .agg _ _ ?_
  simp only[wN]at hp
  clear h
  induction cs generalizing vs with
  |nil=>cases hl;exact .nil
  |cons c cs ih=>
   cases hl with
   |cons _ _ v vs hx hl=>
    simp only[Sj,Ef]at hp
    exact .cons _ _ _ _ (FJ hp.1 hx) (ih hp.2 vs hl)
 |_=>exact FJ hp h
theorem jiu {C C':ay}{x:qa}{v:Value}(h:bF C x v):bF C' (Dd x) v:=by
 unfold Dd
 cases hp:wN x with
 |true=>exact qvy hp h
 |false=>exact .any _
theorem q0n {C C':ay}:∀ {xs:List qa} {vs:List Value},aM C xs vs→aM C' (xs.map Dd) vs
 | [],_,h=>by cases h;exact .nil
 |x::xs,_,h=>by
  cases h with
  |cons _ _ v vs hx h=>exact .cons _ _ _ _ (jiu hx) (q0n h)
open Classical in
theorem jiy (m:av P C ω w0 C0 hp w)(e:aj C ω w w0.heap.size env tmps){v v':qa}{ow FM:Bool}{u:Value}{K':Nat→Nat→Option Value}(hx:Ext w w')(hle:∀r o x,ki C hp w r o=I x→K' r o=I x)(hK:∀r o,r<w.heap.size→K' r o=ki C hp w r o)(hk:∀r o x,K' r o=I x→w'.cell? ⟨r,o,E9⟩=I x)(h1:∀r o x,K' r o=I x→x.oneCell'=E6)
  (hr:bF (.bM K') v u) (ho:ow=E6→∃ℓ ω',aF (.bM K') ω' w' w.heap.size ℓ v u) (ht:LX v ow=I (v',FM)):kf P C0 w0 C tmps d env ⟨v',FM,E9,hp⟩ u w':=by
 let K2:Nat→Nat→Option Value:=fun r o=>if Hid C hp r then E9 else K' r o
 have FL:∀ {r o x},K2 r o=I x→K' r o=I x:=by
  intro r o x h
  simp only[K2]at h
  split at h
  ·cases h
  ·exact h
 have iP:∀r o x,C.K r o=I x→K2 r o=I x:=by
  intro r o x h
  have hn:¬Hid C hp r:=by
   intro hh
   rw[SU m hh o]at h;cases h
  simp only[K2,if_neg hn]
  exact hle r o x (Fz m h)
 have S7:∀r o,r<w.heap.size→K2 r o=C.K r o:=by
  intro r o aY
  by_cases hb:Hid C hp r
  ·simp only[K2,if_pos hb]
   exact(SU m hb o).symm
  ·simp only[K2,if_neg hb]
   rw[hK r o aY]
   unfold ki
   rw[if_neg hb]
 have fin:∀(kT:lU v'=E6) (jD:bF (.bM K2) v' u) (xd:FM=E6→∃ℓ ω',aF (.bM K2) ω' w' w.heap.size ℓ v' u),kf P C0 w0 C tmps d env ⟨v',FM,E9,hp⟩ u w':=fun kT jD xd=>
  q5b m e hx iP S7 (fun r o x h=>hk r o x (FL h)) (fun r o x h=>h1 r o x (FL h)) kT jD xd
 have gB:∀y,ny y=E6→Abs.below 0 y=E6:=fun y hy=>by cases y<;>first|rfl|cases hy
 have pZ:∀ys:List qa,ys.all ny=E6→zu 0 ys=E6:=by
  intro ys
  induction ys with
  |nil=>intro _;rfl
  |cons y ys ih=>
   intro h
   simp only[Sj,Ef]at h
   simp only[zu,Ef]
   exact⟨gB y h.1,ih h.2⟩
 have nH:∀y,wN y=E6→Abs.below 0 y=E6:=fun y hy=>by
  cases y with
  |agg cs=>simp only[Abs.below];exact pZ cs hy
  |_=>exact gB _ hy
 unfold LX at ht
 split at ht
 ·rename_i sz xs
  cases hb:(xs.flatMap qa.flat).all ny with
  |false=>rw[hb]at ht;cases ht
  |true=>
   rw[hb]at ht
   simp only[cT,I.injEq,Prod.mk.injEq]at ht
   obtain⟨rfl,rfl⟩:=ht
   obtain⟨ℓ,ω',ho⟩:=ho rfl
   cases hr with
   |iJ sz a lW=>
    simp only[aF]at ho
    exact absurd ho.2.2.2.1 lW
   |list sz _ q o cap hl cM=>
    simp only[aF]at ho
    obtain⟨o1,o2,o3,o4,o5,o6,o8⟩:=ho
    have hq:w.heap.size≤q:=o2.resolve_right (fun h=>h)
    have Dv:¬Hid C hp q:=by
     intro hh
     have:=js6 m hh
     omega
    have hKq:∀o,K2 q o=K' q o:=fun o=>by simp only[K2,if_neg Dv]
    have hcells:=aX.cells cM
    have pP:aX (.bM K2) q sz xs o:=by
     refine aX.et (SX fun j x hx=>?_) (aX.sized cM)
     obtain⟨u,hu,hxu⟩:=bZ.get hcells hx
     exact⟨u,by rw[show(ay.bM K2).K=K2 from rfl,hKq];exact hu,FJ (Ha.1 hb x (Gc hx)) hxu⟩
    refine fin ?_ (.list sz _ q o cap hl pP) fun _=>⟨ℓ,ω',?_⟩
    ·show lU _=E6
     unfold lU
     have iM:∀ys:List qa,(ys.flatMap qa.flat).all ny=E6→zu 0 ys=E6:=by
      intro ys
      induction ys with
      |nil=>intro _;rfl
      |cons y ys ih=>
       intro h
       rw[N4,List.all_append,Ef]at h
       simp only[zu,Ef]
       exact⟨by rw[←L5];exact pZ _ h.1,ih h.2⟩
     simp only[Abs.below]
     exact iM xs hb
    ·simp only[aF]
     exact⟨o1,o2,o3,o4,o5,o6,fun o' xd=>by rw[show(ay.bM K2).K=K2 from rfl,hKq];exact o8 o' xd⟩
 ·simp only[I.injEq,Prod.mk.injEq]at ht
  obtain⟨rfl,rfl⟩:=ht
  refine fin rfl ?_ (fun h=>by cases h)
  cases hr
  exact .iI _
 ·rename_i vs _
  simp only[I.injEq,Prod.mk.injEq]at ht
  obtain⟨rfl,rfl⟩:=ht
  obtain⟨us,rfl,hl⟩:=hr.nE
  refine fin ?_ (.aB _ _ (q0n hl)) (fun h=>by cases h)
  show Abs.below 0 _=E6
  simp only[Abs.below]
  have:∀ys:List qa,zu 0 (ys.map Dd)=E6:=by
   intro ys
   induction ys with
   |nil=>rfl
   |cons y ys ih=>
    simp only[Sm,zu,Ef]
    refine⟨?_,ih⟩
    unfold Dd
    cases hp:wN y with
    |true=>exact nH y hp
    |false=>rfl
  exact this _
 ·cases hb:wN v with
  |false=>rw[hb]at ht;cases ht
  |true=>
   rw[hb]at ht
   simp only[cT,I.injEq,Prod.mk.injEq]at ht
   obtain⟨rfl,rfl⟩:=ht
   exact fin (nH v hb) (qvy hb hr) (fun h=>by cases h)
def ay.shared (C:ay)(ω:Nat→Option Loc)(w0:World):ay:={ C with W:=fun r=>(∃b j,ω r=I (.cell b j))∧(w0.heap.size≤r∨C.W r) }
def qA (ω:Nat→Option Loc):Nat→Option Loc:=fun r=>match ω r with
 |some (.cell b j)=>I (.cell b j)
 |_=>E9
theorem aF.shared {b j:Nat}{x:qa}{v:Value}(ho:aF C ω w w0.heap.size (.cell b j) x v):aF (C.shared ω w0) (qA ω) w w.heap.size (.cell b j) x v:=by
 unfold aF at *
 split at ho
 ·obtain⟨g1,g2,g3⟩:=ho
  exact⟨by simp[qA,g1],.inr ⟨⟨b,j,g1⟩,g2⟩,g3⟩
 ·obtain⟨g1,g2,g3⟩:=ho
  exact⟨by simp[qA,g1],.inr ⟨⟨b,j,g1⟩,g2⟩,g3⟩
 ·trivial
theorem S8 (m:av P C ω w0 C0 hp w):av P (C.shared ω w0) (qA ω) w (C.shared ω w0) hp w where
 base:=⟨m.tabs,fun g hg=>by
  obtain⟨h1,h2⟩:=m.base.2 g hg
  have aY:=(m.base.1 g hg).1
  refine⟨fun b hb=>?_,fun h=>?_⟩
  ·rcases m.fresh b g hb with h|h|h
   ·exact h1 b h
   ·omega
   ·exact h2 h
  ·rcases h.2 with h|h
   ·omega
   ·rw[m.grown.w]at h;exact h2 h⟩
 know:=m.know
 cR:=m.cR
 apart:=m.apart
 inj:=m.inj
 lt:=m.lt
 size:=Nat.le_refl _
 frame _ _ _ _:=rfl
 eN:=m.eN
 os:=rfl
 output:=rfl
 fresh _ _ h:=.inl h
 grown:=ay.le_refl _
 old _ _ _ _:=rfl
 box b x r hx hb:=br.imp (C:=C) (C':=C.shared ω w0) ⟨fun _ _ _ h=>h,fun _ _ h=>h⟩ rfl (fun _ _ _ ho=>ho.shared) (m.box b x r hx hb)
 gY:=m.gY
def mM (ω ω1:Nat→Option Loc)(n:Nat):Nat→Option Loc:=fun r=>match decide (r<n),ω r with
 |true,I (.slot s)=>I (.slot s)
 |_,_=>qA ω1 r
def ay.back (C1 C:ay):ay:={ C1 with W:=C.W }
theorem Mv (hle:(C.shared ω w0).le C1):C.le (C1.back C):=⟨hle.k,hle.b,rfl,hle.d,hle.t⟩
theorem aF.qB {s:Nat}{x:qa}{v:Value}(m1:av P C1 ω1 w (C.shared ω w0) h1 w')(ho:aF C ω w w0.heap.size (.slot s) x v):aF (C1.back C) (mM ω ω1 w.heap.size) w' w0.heap.size (.slot s) x v:=by
 unfold aF at *
 split at ho
 ·rename_i ad len cap
  obtain⟨g1,g2,g3,g4,g8,⟨cells,elem,g5,g6⟩,g7⟩:=ho
  have aY:=(E1.1 g5).1
  have zZ:¬(C.shared ω w0).W ad.block:=fun h=>by
   obtain⟨⟨b,j,h⟩,_⟩:=h
   rw[g1]at h;cases h
  refine⟨by simp[mM,aY,g1],g2,fun b hb=>?_,g4,g8,⟨cells,elem,?_,g6⟩,fun o ho=>?_⟩
  ·rcases m1.fresh b _ hb with h|h|h
   ·exact g3 b h
   ·omega
   ·exact zZ h
  ·rw[m1.frame _ aY g3 zZ];exact g5
  ·have:=m1.old _ o aY zZ
   show C1.K _ o=E9
   rw[this];exact g7 o ho
 ·rename_i ad
  obtain⟨g1,g2,g3,g4,g8,⟨cells,elem,g5,g6⟩,g7⟩:=ho
  have aY:=(E1.1 g5).1
  have zZ:¬(C.shared ω w0).W ad.block:=fun h=>by
   obtain⟨⟨b,j,h⟩,_⟩:=h
   rw[g1]at h;cases h
  refine⟨by simp[mM,aY,g1],g2,fun b hb=>?_,g4,g8,⟨cells,elem,?_,g6⟩,fun o ho=>?_⟩
  ·rcases m1.fresh b _ hb with h|h|h
   ·exact g3 b h
   ·omega
   ·exact zZ h
  ·rw[m1.frame _ aY g3 zZ];exact g5
  ·have:=m1.old _ o aY zZ
   show C1.K _ o=E9
   rw[this];exact g7 o ho
 ·trivial
theorem aF.qC {b j:Nat}{x:qa}{v:Value}(m:av P C ω w0 C0 hp w)(hW:C1.W=(C.shared ω w0).W)(ho:aF C1 ω1 w' w.heap.size (.cell b j) x v):aF (C1.back C) (mM ω ω1 w.heap.size) w' w0.heap.size (.cell b j) x v:=by
 unfold aF at *
 split at ho
 ·rename_i ad len cap
  obtain⟨g1,g2,g3⟩:=ho
  rw[hW]at g2
  refine⟨?_,?_,g3⟩
  ·unfold mM
   split
   ·rename_i s aY hs
    have aY:=of_decide_eq_true aY
    rcases g2 with g2|⟨⟨b',j',g2⟩,_⟩
    ·omega
    ·rw[hs]at g2;cases g2
   ·simp[qA,g1]
  ·rcases g2 with g2|⟨_,g2⟩
   ·exact .inl (Gb m.size g2)
   ·exact g2
 ·rename_i ad
  obtain⟨g1,g2,g3⟩:=ho
  rw[hW]at g2
  refine⟨?_,?_,g3⟩
  ·unfold mM
   split
   ·rename_i s aY hs
    have aY:=of_decide_eq_true aY
    rcases g2 with g2|⟨⟨b',j',g2⟩,_⟩
    ·omega
    ·rw[hs]at g2;cases g2
   ·simp[qA,g1]
  ·rcases g2 with g2|⟨_,g2⟩
   ·exact .inl (Gb m.size g2)
   ·exact g2
 ·trivial
theorem qt1 (m:av P C ω w0 C0 hp w)(e:aj C ω w w0.heap.size env tmps)(m1:av P C1 ω1 w (C.shared ω w0) h1 w')(hle:(C.shared ω w0).le C1):
  av P (C1.back C) (mM ω ω1 w.heap.size) w0 C0 h1 w'∧aj (C1.back C) (mM ω ω1 w.heap.size) w' w0.heap.size env tmps:=by
 have hsh:∀r,r<w0.heap.size→¬C0.W r→¬(C.shared ω w0).W r:=fun r hr hw h=>by
  rcases h.2 with h|h
  ·omega
  ·rw[m.grown.w]at h;exact hw h
 constructor
 ·refine { base:=m.base,know:=m1.know,cR:=m1.cR,apart:=m1.apart,inj:=m1.inj,lt:=m1.lt,size:=Gb m.size m1.size,frame:=?_,eN:=m1.eN,os:=m1.os.trans m.os,output:=m1.output.trans m.output,fresh:=?_,grown:=ay.le_trans m.grown (Mv hle),old:=?_,box:=?_,gY:=m1.gY }
  ·intro r hr hn hw
   have jX:∀b,C.β b≠I r:=fun b hb=>by
    rcases m.fresh b r hb with h|h|h
    ·exact hn b h
    ·omega
    ·exact hw h
   rw[m1.frame r (Gz hr m.size) jX (hsh r hr hw)]
   exact m.frame r hr hn hw
  ·intro b r hb
   rcases m1.fresh b r hb with h|h|h
   ·exact m.fresh b r h
   ·exact .inr (.inl (Gb m.size h))
   ·exact .inr (h.2.imp id (fun h=>by rw[←m.grown.w];exact h))
  ·intro r o hr hw
   show C1.K r o=_
   rw[m1.old r o (Gz hr m.size) (hsh r hr hw)]
   exact m.old r o hr hw
  ·intro b x r hx hb
   exact br.imp (C:=C1) (C':=C1.back C) ⟨fun _ _ _ h=>h,fun _ _ h=>h⟩ rfl (fun _ _ _ ho=>ho.qC m hle.w) (m1.box b x r hx hb)
 ·exact fun s x hs=>let ⟨v,k1,k2,k3⟩:=e s x hs; ⟨v,k1,qp.mono (Mv hle) k2,fun h=>(k3 h).qB m1⟩
theorem bF.back {x:qa}{v:Value}(h:bF C1 x v):bF (C1.back C) x v:=qp.imp (C:=C1) (C':=C1.back C) ⟨fun _ _ _ h=>h,fun _ _ h=>h⟩ h
theorem qt4 (m:av P C ω w0 C0 hp w)(e:aj C ω w w0.heap.size env tmps)(m1:av P C1 ω1 w (C.shared ω w0) h1 w')(hle:(C.shared ω w0).le C1){v:qa}{ow:Bool}{u:Value}(hr:bF C1 v u)(ho:ow=E6→aF C1 ω1 w' w.heap.size (.slot 0) v u):
  kf P C0 w0 C tmps d env ⟨v,ow,E9,yi hp.length v h1⟩ u w':=by
 have hC:∀b r,C.β b=I r→b<hp.length:=fun b r h=>(m.lt b r h).2
 have cz:=Mv hle
 have jD:bF (C1.back C) v u:=hr.back
 -- the result's ownership first
 have step:∃ω',av P (C1.back C) ω' w0 C0 h1 w'∧aj (C1.back C) ω' w' w0.heap.size env tmps∧(ow=E6→aF (C1.back C) ω' w' w0.heap.size d v u):=by
  obtain⟨m2,e2⟩:=qt1 m e m1 hle
  cases ow with
  |false=>exact⟨_,m2,e2,by simp⟩
  |true=>
   by_cases hk:∃(n:Bool) (sz:Nat) (xs:List qa) (ad:Addr) (len cap:Nat),v=.list n sz xs∧u=.slice (I ad) len cap
   ·obtain⟨n,sz,xs,ad,len,cap,rfl,rfl⟩:=hk
    obtain⟨g1,g2,g3,g4⟩:=ho rfl
    rw[hle.w]at g2
    have ig:mM ω ω1 w.heap.size ad.block=E9:=by
     unfold mM
     split
     ·rename_i s aY hs
      have aY:=of_decide_eq_true aY
      rcases g2 with g2|⟨⟨b',j',g2⟩,_⟩
      ·omega
      ·rw[hs]at g2;cases g2
     ·simp[qA,g1]
    refine⟨ct (mM ω ω1 w.heap.size) ad.block d,m2.ct _ _ (by simp[ig]),?_,fun _=>?_⟩
    ·exact fun s x hs=>let ⟨v,k1,k2,k3⟩:=e2 s x hs; ⟨v,k1,k2,fun h=>(k3 h).other (.inl (by simp[ig]))⟩
    ·refine⟨by simp[ct],?_,g3,g4⟩
     rcases g2 with g2|⟨_,g2⟩
     ·exact .inl (Gb m.size g2)
     ·exact g2
   by_cases cY:∃(n:Nat) (ad:Addr),v=.cE n∧u=.pointer (I ad)
   ·obtain⟨n,ad,rfl,rfl⟩:=cY
    obtain⟨g1,g2,g3,g4⟩:=ho rfl
    rw[hle.w]at g2
    have ig:mM ω ω1 w.heap.size ad.block=E9:=by
     unfold mM
     split
     ·rename_i s aY hs
      have aY:=of_decide_eq_true aY
      rcases g2 with g2|⟨⟨b',j',g2⟩,_⟩
      ·omega
      ·rw[hs]at g2;cases g2
     ·simp[qA,g1]
    refine⟨ct (mM ω ω1 w.heap.size) ad.block d,m2.ct _ _ (by simp[ig]),?_,fun _=>?_⟩
    ·exact fun s x hs=>let ⟨v,k1,k2,k3⟩:=e2 s x hs; ⟨v,k1,k2,fun h=>(k3 h).other (.inl (by simp[ig]))⟩
    ·refine⟨by simp[ct],?_,g3,g4⟩
     rcases g2 with g2|⟨_,g2⟩
     ·exact .inl (Gb m.size g2)
     ·exact g2
   ·refine⟨_,m2,e2,fun h=>?_⟩
    unfold aF
    split
    ·exact absurd ⟨_,_,_,_,_,_,rfl,rfl⟩ hk
    ·exact absurd ⟨_,_,rfl,rfl⟩ cY
    ·trivial
 obtain⟨ω',m2,e2,o2⟩:=step
 unfold yi
 cases hb:Ge h1.length hp.length with
 |true=>simp only[cT];exact⟨_,ω',cz,m2,e2,jD,o2⟩
 |false=>
  simp only[cond_false]
  cases lz:(below hp.length v&&kh hp.length (h1.take hp.length))with
  |false=>simp only[cond_false];exact⟨_,ω',cz,m2,e2,jD,o2⟩
  |true=>
   simp only[cT]
   simp only[Ef]at lz
   have aY:hp.length≤h1.length:=by
    rcases Nat.lt_or_ge hp.length h1.length with h|h
    ·omega
    ·rw[Nat.ble_eq_true_of_le h]at hb;cases hb
   have h0:∀b r,C0.β b=I r→b<hp.length:=fun b r h=>hC b r (m.grown.2 b r h)
   have m3:=m2.gc aY lz.2 h0
   refine⟨(C1.back C).cut hp.length,ω',ay.ie cz hC,m3,?_,bF.cut jD lz.1,fun h=>(o2 h).cut _⟩
   intro s x hs
   obtain⟨y,k1,k2,k3⟩:=e s x hs
   obtain⟨y',j1,j2,j3⟩:=e2 s x hs
   rw[k1]at j1
   cases j1
   exact⟨y,k1,qp.mono (ay.ie cz hC) k2,fun h=>(j3 h).cut _⟩
theorem aW.eS {e:Env}(h:aW C e tmps):aj C ω w B (eS e) tmps:=by
 intro s x hx
 have key:∀ {e:Env} {x:qa×Bool},yd s (Abs.eS e)=I x→∃o,yd s e=I (x.1,o)∧x.2=Gd:=by
  intro e
  induction e with
  |nil=>intro x h;simp[Abs.eS,yd]at h
  |cons y e ih=>
   intro x h
   obtain⟨t,v,o⟩:=y
   simp only[Abs.eS,Sm,yd]at h ⊢
   cases hb:Ga t s with
   |true=>simp only[hb,cT,I.injEq]at h ⊢;subst h;exact⟨o,rfl,rfl⟩
   |false=>simp only[hb,cond_false]at h ⊢;exact ih h
 obtain⟨o,h1,h2⟩:=key hx
 obtain⟨v,h3,h4⟩:=h s _ h1
 exact⟨v,h3,h4,by simp[h2]⟩
theorem que:∀ {ts:List Nat} {vs:List qa} {us:List Value} {e e':Env} {tmps:Array Value},vi e ts vs=I e'→aM C vs us→(∀t∈ts,t<tmps.size)→aj C ω w B e tmps →
  ts.length=us.length∧((ts.zip us).foldl (fun(tmps:Array Value) (x:Nat×Value)=>tmps.setIfInBounds x.1 x.2) tmps).size=tmps.size∧aj C ω w B e' ((ts.zip us).foldl (fun(tmps:Array Value) (x:Nat×Value)=>tmps.setIfInBounds x.1 x.2) tmps)
 | [],[],us,e,e',tmps,h,hr,_,he=>by
  simp only[vi,I.injEq]at h
  subst h
  cases hr
  exact⟨rfl,rfl,he⟩
 |t::ts,v::vs,us,e,e',tmps,h,hr,hf,he=>by
  simp only[vi]at h
  cases hr with
  |cons _ _ u us hu hr=>
   have Mw:aj C ω w B ((t,v,Gd)::e) (tmps.setIfInBounds t u):=by
    intro s x hx
    simp only[yd]at hx
    cases hb:Ga t s with
    |true=>
     have:=En hb
     subst this
     simp only[hb,cT,I.injEq]at hx
     subst hx
     exact⟨u,by simp[hf t (by simp)],hu,by simp⟩
    |false=>
     simp only[hb,cond_false]at hx
     obtain⟨y,h1,h2,h3⟩:=he s x hx
     refine⟨y,?_,h2,h3⟩
     rw[Array.getElem?_setIfInBounds_ne (fun hh=>by subst hh;simp at hb)]
     exact h1
   have ih:=que h hr (tmps:=tmps.setIfInBounds t u) (fun t' E4=>by simpa using hf t' (by simp[E4])) Mw
   refine⟨by simp[ih.1],?_,?_⟩
   ·simp only[N2,Sc];rw[ih.2.1];simp
   ·simp only[N2,Sc];exact ih.2.2
 | [],_::_,_,_,_,_,h,_,_,_=>by simp[vi]at h
 |_::_,[],_,_,_,_,h,_,_,_=>by simp[vi]at h
theorem Mx {b r:Nat}{l:jp}(m:av P C ω w0 C0 hp w)(hb:y5 hp b=I (.loop l))(hr:C.β b=I r):∃lp,w.heap[r]?=I (.loop lp)∧q9 P C l lp:=
 m.box b _ r hb hr
theorem FN {b r:Nat}{l':jp}{lp Aa:Loop}(m:av P C ω w0 C0 hp w)(hr:C.β b=I r)(hg:w.heap[r]?=I (.loop lp))(hl:q9 P C l' Aa):
  (setObj r (.loop Aa)).run P w=.ok () (jI w r (.loop Aa))∧jk w (jI w r (.loop Aa)) r∧av P C ω w0 C0 (hp.set b (.loop l')) (jI w r (.loop Aa)):=by
 have aY:=(E1.1 hg).1
 have hu:jk w (jI w r (.loop Aa)) r:=Dr aY (by simp)
 exact⟨wZ hg (by simp),hu,m.dx hu hr _ (fun _ _ _ _ _ h=>h) ⟨Aa,Fp aY,hl⟩⟩
theorem jin (hx:cg P xc)(m:av P C ω w0 C0 hp w)(e:aj C ω w w0.heap.size env tmps){b r:Nat}(hr:C.β b=I r){args:List qa}{us:List Value}(ha:aM C args us){v:qa}{h':j8}(hy:jO xc b args hp=I (v,h')):
  ∃f nI assign body,(Instr.yield r ⟨us⟩).run P w=.ok (.round r f nI assign body) w∧RoundIn Fence.wide 0 P r f nI assign body w fun ee w'=>∃u,ee=.returned u∧kf P C0 w0 C tmps d env ⟨v,Gd,E9,h'⟩ u w':=by
 unfold jO at hy
 split at hy
 ·rename_i l hl
  split at hy
  ·rename_i e0 hpend bq
   obtain⟨lp,hg,lr⟩:=Mx m hl hr
   have ms:=S8 m
   have gy:aM (C.shared ω w0) args us:=qp.imp (C:=C) (C':=C.shared ω w0) ⟨fun _ _ _ h=>h,fun _ _ h=>h⟩ ha
   have hel:aj (C.shared ω w0) (qA ω) w w.heap.size (eS l.env) lp.tmps:=aW.eS (fun s x hs=>let ⟨v,h1,h2⟩:=lr.env s x hs; ⟨v,h1,qp.imp (C:=C) (C':=C.shared ω w0) ⟨fun _ _ _ h=>h,fun _ _ h=>h⟩ h2⟩)
   obtain⟨hlen,cD,he0⟩:=que bq gy lr.fits hel
   have pL:(lp.params.zip (⟨us⟩:Array Value)).foldl (fun(tmps:Array Value) (x:Nat×Value)=>tmps.setIfInBounds x.1 x.2) lp.tmps=(l.params.zip us).foldl (fun(tmps:Array Value) (x:Nat×Value)=>tmps.setIfInBounds x.1 x.2) lp.tmps:=by
    rw[←Array.foldl_toList,Array.toList_zip,lr.params]
   have S9:lp.params.size=us.length:=by rw[←Array.length_toList,lr.params];exact hlen
   refine⟨lp.fn,(l.params.zip us).foldl (fun(tmps:Array Value) (x:Nat×Value)=>tmps.setIfInBounds x.1 x.2) lp.tmps,lp.assign,lp.body,?_,?_⟩
   ·have Ab:(Instr.getLoop r).run P w=.ok lp w:=by simp[Instr.getLoop,oY hg (by simp)]
    have bA:¬((⟨us⟩:Array Value).size≠lp.params.size):=by simp[S9]
    simp only[Instr.yield,Sem.run_bind,Ab,Result.andThen_ok,bA,if_false,Sem.run_pure,Sem.run_ite]
    rw[show((lp.params.zip (⟨us⟩:Array Value)).foldl (fun tmps (x:Nat×Value)=>match x with|(t,a)=>tmps.setIfInBounds t a) lp.tmps)=_ from pL]
   ·refine roundIn_of_wpIn trivial ?_
    split at hy
    ·rename_i st bU
     split at hy
     ·rename_i l1 gL
      cases jG:l1.pending.isNone with
      |false=>simp[jG]at hy
      |true=>
       simp only[jG,cT]at hy
       have FO:l1.pending=E9:=by simpa using jG
       split at hy
       ·rename_i x bL gQ
        split at hy
        ·rename_i l2 n9
         cases hy
         refine wpIn_mono (hx (I r) lp.tmps.size lp.assign l.assign _ _ _ lr.assign (fun _=>lr.nr.1) bU (C.shared ω w0) (qA ω) w (C.shared ω w0) { tmps:=_,defers:=[] } w ms he0 cD Marks.nil) ?_
         rintro ee a1 w1 ⟨rfl,q1,C1,ω1,q2,q3,q4,q5⟩
         have vr:=q2.b b r hr
         obtain⟨My,hg1,Ta⟩:=Mx q4 gL vr
         have xe:My.state=.ready:=by rw[Ta.state,FO]
         have Tb:q9 P C1 { l1 with pending:=I .normal } { My with state:=.busy }:={ Ta with state:=rfl,pending:=by rw[Ta.pending,FO] }
         obtain⟨FP,Fk,m1⟩:=FN q4 vr hg1 Tb
         have hE:(Instr.beginRound r).run P w1=.ok () (jI w1 r (.loop { My with state:=.busy })):=by
          have Ab:(Instr.getLoop r).run P w1=.ok My w1:=by simp[Instr.getLoop,oY hg1 (by simp)]
          simp only[Instr.beginRound,Sem.run_bind,Ab,Result.andThen_ok,FP,xe,Sem.run_pure]
         refine⟨_,hE,?_⟩
         refine wpIn_mono (hx (I r) lp.tmps.size lp.body l.body _ _ _ lr.body (fun _=>lr.nr.2) gQ C1 ω1 w (C.shared ω w0) a1 _ m1 (q5.di Fk vr) q1 q3) ?_
         rintro ee a2 w2 ⟨rfl,p1,C2,ω2,p2,p3,p4,p5⟩
         have qD:=p2.b b r vr
         obtain⟨lB,qE,uq⟩:=Mx p4 n9 qD
         have Ac:(Instr.getLoop r).run P w2=.ok lB w2:=by simp[Instr.getLoop,oY qE (by simp)]
         have fin:∀(Tc:LoopState) (pd:Option Code) (ap:Option qo) (bb:Bool),q9 P C2 { l2 with pending:=ap } { lB with state:=Tc,pending:=pd } →
           kf P C0 w0 C tmps d env ⟨.bool bb,Gd,E9,yi hp.length (.bool E6) (bL.heap.set b (.loop { l2 with pending:=ap }))⟩ (.bool bb) (jI w2 r (.loop { lB with state:=Tc,pending:=pd })):=by
          intro Tc pd ap bb ur
          obtain⟨jJ,hu2,m2⟩:=FN p4 qD qE ur
          have:=qt4 (d:=d) (v:=.bool bb) (ow:=false) (u:=.bool bb) m e m2 (ay.le_trans q2 p2) (.bool bb) (by simp)
          exact this
         cases x with
         |normal=>
          have ur:q9 P C2 { l2 with pending:=E9 } { lB with state:=.ready,pending:=E9 }:={ uq with state:=rfl,pending:=rfl }
          obtain⟨jJ,_,_⟩:=FN p4 qD qE ur
          exact⟨.bool E6,_,by simp only[Instr.endRound,Sem.run_bind,Ac,Result.andThen_ok,Option.isNone_none,if_true,jJ,Sem.run_pure],_,rfl,fin _ _ _ E6 ur⟩
         |ret=>
          have ur:q9 P C2 { l2 with pending:=I .ret } { lB with state:=.done,pending:=I .ret }:={ uq with state:=rfl,pending:=rfl }
          obtain⟨jJ,_,_⟩:=FN p4 qD qE ur
          exact⟨.bool Gd,_,by simp only[Instr.endRound,Sem.run_bind,Ac,Result.andThen_ok,N3,E7,if_false,jJ,Sem.run_pure],_,rfl,fin _ _ _ Gd ur⟩
         |exit id=>
          have ur:q9 P C2 { l2 with pending:=I (.exit id) } { lB with state:=.done,pending:=I (.exit id) }:={ uq with state:=rfl,pending:=rfl }
          obtain⟨jJ,_,_⟩:=FN p4 qD qE ur
          exact⟨.bool Gd,_,by simp only[Instr.endRound,Sem.run_bind,Ac,Result.andThen_ok,N3,E7,if_false,jJ,Sem.run_pure],_,rfl,fin _ _ _ Gd ur⟩
        ·cases hy
       ·cases hy
     ·cases hy
    ·cases hy
  ·cases hy
 ·cases hy
theorem je2 {h:qb}{md:jc}{r h0:Nat}{dst:Option Nat}{al:Option (List Nat)}{cr:qw}{res:qq}(eh:qx P p)(hx:cg P xc)(m:av P C ω w0 C0 hp w)(e:aj C ω w w0.heap.size env a.tmps){c:Call}(ho:o.op=.call c){f:Operand}(oc:c.callee=.value f)
  (hc:zi P h md r dst c=I cr) (hs:j9 p xc h0 al env hp cr=I res):dW P C C0 w0 a d env o w res:=by
 unfold zi at hc
 rw[oc]at hc
 simp only[]at hc
 split at hc
 ·rename_i f' args' h1 h2
  cases hc
  generalize md.at r=md at hs
  simp only[j9,iC]at hs
  split at hs
  ·rename_i k first captured vs e1 e2
   have uv:=zt e.bV h1 e1
   have Td:=Dm e.bV h2 e2
   generalize eg:a.eval f=fv at uv
   cases uv with
   |fn g g' _ _ as bs hf ha hb=>
    simp only[eU]at hf
    subst hf
    have hall:aM C (first++vs++captured) (as++c.args.toList.map a.eval++bs):=aM.append (aM.append ha Td) hb
    have ij:Enters P k→(execOp a.eval o).run P w=.ok (.enter k ⟨as++c.args.toList.map a.eval++bs⟩) w:=by
     intro lA
     have dQ:(⟨as⟩:Array Value)++Array.map a.eval c.args++(⟨bs⟩:Array Value)=⟨as++c.args.toList.map a.eval++bs⟩:=by
      apply N1;simp
     simp[execOp,ho,resolve,oc,eg,Deferred.ofValue,invoke,dQ,qrz lA]
    cases md with
    |fb rk=>
     simp only[]at hs
     cases ug:(first++vs++captured).isEmpty with
     |false=>
      rw[ug]at hs
      simp only[cond_false]at hs
      cases kN:zu 0 (first++vs++captured)with
      |false=>rw[kN]at hs;cases hs
      |true=>
       rw[kN]at hs
       simp only[cT]at hs
       split at hs
       ·rename_i v ow qF
        obtain⟨lA,kT,qG⟩:=Ms eh hx qF kN
        have lC:aM (.bM C.K) (first++vs++captured) (as++c.args.toList.map a.eval++bs):=
         qp.shift (C:=C) (C':=.bM C.K) 0 (fun _ _ _ h=>h) (fun b r aY=>by omega) hall kN
        refine .inr (.inr (.inl ⟨k,_,ij lA,CallsIn.mono (qG C.K w _ m.tabs m.know m.cR lC) ?_⟩))
        rintro ee w' ⟨u,K',rfl,q1,q2,q3,q4,q5,q6,q7⟩
        exact⟨u,rfl,jbe m e q1 q2 q3 q4 q5 q6 q7 hs⟩
       ·cases hs
     |true=>
      rw[ug]at hs
      simp only[cT]at hs
      split at hs
      ·rename_i es hm
       split at hs
       ·rename_i h' hn
        obtain rfl:=zx hs
        obtain⟨hh,rfl⟩:=lv hn
        obtain⟨lA,ll⟩:=eh.maps k es hm
        have jR:as++c.args.toList.map a.eval++bs=[]:=by
         have h1:first++vs++captured=[]:=Mn.1 ug
         have h2:=hall.length
         rw[h1]at h2
         exact List.eq_nil_of_length_eq_zero h2
        refine .inr (.inr (.inl ⟨k,_,ij lA,?_⟩))
        rw[jR]
        refine CallsIn.mono (ll C.K w m.tabs m.know m.cR) ?_
        rintro ee w' ⟨q,K',bQ,clock,rfl,q1,q2,q3,q4,q5,q6,q7,q8⟩
        exact⟨_,rfl,jiz m e q1 q2 q3 q4 q5 hh q6 q7 q8⟩
       ·cases hs
      ·cases hs
    |bM=>
     simp only[]at hs
     cases ug:zu 0 (first++vs++captured)with
     |false=>rw[ug]at hs;cases hs
     |true=>
      rw[ug]at hs
      simp only[cT]at hs
      split at hs
      ·rename_i v ow qF
       cases hs
       obtain⟨lA,kT,qG⟩:=Ms eh hx qF ug
       have lC:aM (.bM C.K) (first++vs++captured) (as++c.args.toList.map a.eval++bs):=
        qp.shift (C:=C) (C':=.bM C.K) 0 (fun _ _ _ h=>h) (fun b r aY=>by omega) hall ug
       refine .inr (.inr (.inl ⟨k,_,ij lA,CallsIn.mono (qG C.K w _ m.tabs m.know m.cR lC) ?_⟩))
       rintro ee w' ⟨u,K',rfl,q1,q2,q3,q4,q5,q6,q7⟩
       exact⟨u,rfl,q5b m e q1 q2 q3 q4 q5 kT q6 q7⟩
      ·cases hs
    |red=>
     simp only[]at hs
     split at hs
     ·rename_i xs Du
      cases kN:zu 0 xs with
      |false=>rw[kN]at hs;cases hs
      |true=>
       rw[kN]at hs
       simp only[cT]at hs
       split at hs
       ·rename_i v ow qF
        split at hs
        ·rename_i v' FM hrd
         cases hs
         obtain⟨lA,kT,qG⟩:=Ms eh hx qF kN
         refine .inr (.inr (.inl ⟨k,_,ij lA,CallsIn.mono (qG (ki C hp w) w _ m.tabs (fun r o u h=>(Mr m h).1) (fun r o u h=>(Mr m h).2) (qt5 m Du hall kN)) ?_⟩))
         rintro ee w' ⟨u,K',rfl,q1,q2,q3,q4,q5,q6,q7⟩
         exact⟨u,rfl,jiy m e q1 q2 q3 q4 q5 q6 q7 hrd⟩
        ·cases hs
       ·cases hs
     ·cases hs
    |shr=>
     simp only[]at hs
     split at hs
     ·rename_i v ow h' FF
      cases hs
      ·obtain⟨lA,mL⟩:=FE eh hx FF
       have lC:aM (C.shared ω w0) (first++vs++captured) (as++c.args.toList.map a.eval++bs):=qp.imp (C:=C) (C':=C.shared ω w0) ⟨fun _ _ _ h=>h,fun _ _ h=>h⟩ hall
       refine .inr (.inr (.inl ⟨k,_,ij lA,CallsIn.mono (mL _ _ _ _ lC (S8 m)) ?_⟩))
       rintro ee w' ⟨u,C',ω',rfl,q1,q2,q3,q4⟩
       exact⟨u,rfl,qt4 m e q2 q1 q3 q4⟩
     ·cases hs
  ·rename_i b vs e1 e2
   have uv:=zt e.bV h1 e1
   have Td:=Dm e.bV h2 e2
   generalize eg:a.eval f=fv at uv
   cases md with
   |bM=>simp at hs
   |fb _=>simp at hs
   |red=>simp at hs
   |shr=>
    simp only[]at hs
    split at hs
    ·rename_i v h' hy
     obtain rfl:=zx hs
     cases uv with
     |fn g g' _ _ as bs hf ha hb=>
      obtain⟨q,oe,rfl⟩:=hf
      cases ha
      cases hb
      obtain⟨ff,nI,assign,body,k1,k2⟩:=jin (d:=d) hx m e oe Td hy
      refine .inr (.inr (.inr ⟨q,ff,nI,assign,body,?_,k2⟩))
      have dQ:Array.map a.eval c.args=⟨c.args.toList.map a.eval⟩:=by
       apply N1;simp
      rw[←dQ]at k1
      simp[execOp,ho,resolve,oc,eg,Deferred.ofValue,invoke,k1]
    ·cases hs
  ·cases hs
 ·cases hc
theorem jul {h:qb}{md:jc}{r h0:Nat}{dst:Option Nat}{al:Option (List Nat)}{cr:qw}{res:qq}(eh:qx P p)(hx:cg P xc)(m:av P C ω w0 C0 hp w)(e:aj C ω w w0.heap.size env a.tmps)
  (mK:cr.gJ=E9) (hc:cx P h md r dst o.op=I cr) (hs:j9 p xc h0 al env hp cr=I res):dW P C C0 w0 a d env o w res:=by
 cases ho:o.op<;>rw[ho]at hc
 case move x=>exact ji9 m e ho hc hs
 case assign x=>exact jam m e ho hc hs
 case pick=>exact jgi m e ho hc hs
 case alloc=>exact jca m e ho hc hs
 case box=>exact jm3 m e ho hc hs
 case build=>exact jcx m e ho hc hs
 case buildSlice=>exact qyl m e ho hc hs
 case load=>exact jdr m e ho hc hs
 case store=>exact jbo m e ho mK hc hs
 case nilCheck=>exact q26 m e ho hc hs
 case binOp=>exact jln m e ho hc hs
 case unOp=>exact jtf m e ho hc hs
 case convert=>exact je8 m e ho hc hs
 case makeFunc=>exact q5a m e ho hc hs
 case makeMap=>exact q5h m e ho hc hs
 case makeSlice=>exact q0z m e ho hc hs
 case slice=>exact jbc m e ho hc hs
 case fieldAddr=>exact q06 m e ho hc hs
 case field=>exact jbf m e ho hc hs
 case indexAddr=>exact q1g m e ho hc hs
 case index=>exact jcz m e ho hc hs
 case range=>exact jbz m e ho hc hs
 case extract=>exact q5u m e ho hc hs
 case call c=>
  have dC:zi P h md r dst c=I cr:=hc
  by_cases hv:∃f,c.callee=.value f
  ·obtain⟨f,hf⟩:=hv
   exact je2 eh hx m e ho hf dC hs
  ·exact q54 m e ho (fun f hf=>hv ⟨f,hf⟩) dC hs
 case lookup=>exact q7f m e ho hc hs
 case mapUpdate=>exact qp1 m e (.inl ho) hc hs
 case insert t x y z=>exact qp1 (h:=h) (md:=md) (r:=r) (dst:=dst) m e (.inr ho) (show cx P h md r dst (.mapUpdate t x y z)=I cr from hc) hs
 case next it b=>exact jhv m e ho hc hs
 all_goals (simp[cx]at hc;done)
end
end Go.Abs
