/- Each operation by itself, third part. -/
import Derived.Test.YtfopaakmgogpiaaGreatDoorAbsD
import Derived.RangeFuncLeaves
set_option linter.unusedVariables false
set_option linter.unusedSimpArgs false
open Option renaming some→I,map_eq_some_iff→Ev,none→E7,isSome_none→Gl,isNone_some→Mu,map→Og
open Bool renaming and_eq_true→Eh,true→E5,false_eq_true→E6,false→Gh,or_eq_true→Ht
open Nat renaming eq_of_beq_eq_true→El,le_of_ble_eq_true→En,beq→Ga,le_trans→Gb,ble→Gi,lt_of_lt_of_le→Gm,blt→Gx,zero_add→Hv,blt_eq→I8
open Array renaming getElem?_eq_some_iff→Eo,getD_eq_getD_getElem?→If,ext'→I9,replicate→M1
open List renaming mem_of_getElem?→Gc,getElem?_eq_some_iff→Gk,all_eq_true→Gn,length_take→Gp,getElem?_map→Ha,getElem?_set_ne→Hb,getElem?_eq_getElem→Ip,isEmpty_iff→Iu,length_set→I6,length_map→I7,zip_cons_cons→Ml,flatMap_cons→Mv,length_drop→My,foldl_cons→M2,mem_cons→Nr,all_cons→Od,map_cons→Oe
namespace Go.Abs
section
variable {P:Program}{p:qr}{xc:XC}{C C0:ax}{ω:Nat→Option Loc}{w w0:World}{hp:j8}{env:Env}{a:Act}{o:Oper}{d:Loc}{h:qb}{md:jc}{r h0:Nat}{dst:Option Nat}{al:Option (List Nat)}{cr:qw}{res:qq}
theorem jam (m:av P C ω w0 C0 hp w)(e:ai C ω w w0.heap.size env a.tmps){t:TypeId}{ps:Array (Nat×Operand)}(ho:o.op=.build t ps)(hc:cx P h md r dst (.build t ps)=I cr)(hs:za p xc h0 al env hp cr=I res):dY P C C0 w0 a d env o w res:=by
 simp only[cx]at hc
 split at hc
 ·rename_i fs z ht hz
  split at hc
  ·rename_i hall
   obtain⟨ft,lT,rfl⟩:=Ev.1 hc
   simp only[za,zi]at hs
   split at hs
   ·rename_i qs hq
    split at hs
    ·rename_i cs hf
     obtain rfl:=zx hs
     exact yd m e (qv1 e.bU ho ht hz (fun f hf=>Gn.1 hall f hf) lT hq hf)
    ·cases hs
   ·cases hs
  ·cases hc
 ·rename_i len el z ht hz
  split at hc
  ·rename_i n hn
   obtain⟨ft,lT,rfl⟩:=Ev.1 hc
   simp only[za,zi]at hs
   split at hs
   ·rename_i qs hq
    split at hs
    ·rename_i cs hf
     obtain rfl:=zx hs
     exact yd m e (qy7 e.bU ho ht hz hn lT hq hf)
    ·cases hs
   ·cases hs
  ·cases hc
 ·cases hc
theorem qy2 (m:av P C ω w0 C0 hp w)(e:ai C ω w w0.heap.size env a.tmps){t:TypeId}{n:Nat}{ps:Array (Nat×Operand)}(ho:o.op=.buildSlice t n ps)(hc:cx P h md r dst (.buildSlice t n ps)=I cr)(hs:za p xc h0 al env hp cr=I res):dY P C C0 w0 a d env o w res:=by
 simp only[cx]at hc
 split at hc
 ·rename_i el ht
  split at hc
  ·rename_i sz z ag es hn hz cL lT
   split at hc
   ·rename_i hb
    cases hc
    simp only[Eh,decide_eq_true_eq,beq_iff_eq]at hb
    generalize (dst.map (h.vec.contains ·)).getD Gh=bb at hs
    cases bb with
    |true=>
     simp only[if_true,za,zk]at hs
     split at hs
     ·rename_i qs hq
      split at hs
      ·rename_i xs hx
       cases zX:zw 0 xs with
       |false=>rw[zX]at hs;cases hs
       |true=>
        rw[zX]at hs
        simp only[cT]at hs
        split at hs
        ·rename_i h' cQ
         obtain rfl:=zx hs
         exact .inl (jc4 m e ho ht hn hz hb.1.1.1.1 hb.1.1.1.2 hb.1.1.2 lT hq hx zX cQ)
        ·cases hs
      ·cases hs
     ·cases hs
    |false=>
    simp only[E6,if_false,za,zi]at hs
    split at hs
    ·rename_i qs hq
     split at hs
     ·rename_i xs hx
      cases hs
      exact .inl (qyk m e ho ht hn hz hb.1.1.1.1 hb.1.1.1.2 hb.1.1.2 lT hq hx)
     ·cases hs
    ·cases hs
   ·cases hc
  ·cases hc
 ·cases hc
theorem q0b (m:av P C ω w0 C0 hp w)(e:ai C ω w w0.heap.size env a.tmps){t:TypeId}{x y:Operand}(ho:o.op=.makeSlice t x y)(hc:cx P h md r dst (.makeSlice t x y)=I cr)(hs:za p xc h0 al env hp cr=I res):dY P C C0 w0 a d env o w res:=by
 simp only[cx]at hc
 split at hc
 ·rename_i el ht
  split at hc
  ·rename_i sz b z ag x' y' hn hb hz cL h1 h2
   split at hc
   ·cases hc
    generalize hR:(if(Og (fun x=>h.bD.contains x) dst).getD Gh=E5 then I r else E7)=R at hs
    cases R with
    |some rr=>
     simp only[za,zk]at hs
     split at hs
     ·rename_i n c e1 e2
      cases hk:(Ga n c&&Gi n 1073741824&&Gi b 4096&&Ga z.length sz&&Gx 0 sz&&z.all ze)with
      |false=>simp[hk]at hs
      |true=>
       simp only[hk,cT]at hs
       split at hs
       ·rename_i h' cQ
        obtain rfl:=zx hs
        simp only[Eh]at hk
        obtain⟨⟨⟨⟨⟨k1,k2⟩,k3⟩,k4⟩,k5⟩,k6⟩:=hk
        obtain rfl:=El k1
        exact .inl (qym m e ho ht hn hb hz (I8.mp k5) (El k4) h1 h2 e1 e2 (En k2) (En k3) cQ)
       ·cases hs
     ·cases hs
    |none=>
     simp only[za,zi]at hs
     split at hs
     ·rename_i n c e1 e2
      cases hk:(Ga n c&&Gi n 1073741824&&Gi b 4096&&Ga z.length sz&&Gx 0 sz&&z.all ze)with
      |false=>simp[hk]at hs
      |true=>
       simp only[hk,cT]at hs
       cases hs
       simp only[Eh]at hk
       obtain⟨⟨⟨⟨⟨k1,k2⟩,k3⟩,k4⟩,k5⟩,k6⟩:=hk
       obtain rfl:=El k1
       exact .inl (q5j m e ho ht hn hb hz (I8.mp k5) (El k4) h1 h2 e1 e2 (En k2) (En k3))
     ·cases hs
   ·cases hc
  ·cases hc
 ·cases hc
theorem jcu (m:av P C ω w0 C0 hp w)(e:ai C ω w w0.heap.size env a.tmps){t:TypeId}{x:Operand}{lo hi mx:Option Operand}(ho:o.op=.slice t x lo hi mx)(hc:cx P h md r dst (.slice t x lo hi mx)=I cr)(hs:za p xc h0 al env hp cr=I res):dY P C C0 w0 a d env o w res:=by
 cases mx with
 |some _=>simp[cx]at hc
 |none=>
  simp only[cx]at hc
  split at hc
  ·rename_i x' li fH h1 h2 h3
   split at hc
   ·rename_i ht
    cases hc
    simp only[za,zi]at hs
    split at hs
    ·rename_i s hv
     split at hs
     ·rename_i j hj
      split at hs
      ·rename_i i fH
       obtain rfl:=zx hs
       exact yd m e (q19 e.bU ho ht h1 h2 h3 hv hj fH)
      ·cases hs
     ·cases hs
    ·cases hs
   ·rename_i el ht
    obtain⟨sz,hn,rfl⟩:=Ev.1 hc
    simp only[za,zi]at hs
    split at hs
    ·rename_i n cK xs hv
     cases hk:(Ga sz cK||xs.isEmpty)with
     |false=>simp[hk]at hs
     |true=>
      simp only[hk,cT]at hs
      split at hs
      ·rename_i j hj
       split at hs
       ·rename_i i fH
        obtain rfl:=zx hs
        refine yd m e (qz3 e.bU ho ht hn h1 h2 h3 hv (.inr ⟨n,cK,xs,rfl,?_,hj,fH,rfl⟩))
        rcases Ht _ _▸hk with hk|hk
        ·exact .inl (El hk)
        ·exact .inr (Iu.1 hk)
       ·cases hs
      ·cases hs
    ·rename_i b q len hv
     split at hs
     ·rename_i j hj
      split at hs
      ·rename_i i fH
       cases hk:(Ga i 0||Gx i j)with
       |false=>simp[hk]at hs
       |true=>
        simp only[hk,cT]at hs
        obtain rfl:=zx hs
        refine yd m e (qz3 e.bU ho ht hn h1 h2 h3 hv (.inl ⟨b,q,len,rfl,hj,fH,?_,rfl⟩))
        rcases Ht _ _▸hk with hk|hk
        ·exact .inl (El hk)
        ·exact .inr (I8.mp hk)
      ·cases hs
     ·cases hs
    ·rename_i b bu len hv
     split at hs
     ·rename_i j hj
      split at hs
      ·rename_i i fH
       cases hk:Ga i 0 with
       |false=>simp[hk]at hs
       |true=>
        simp only[hk,cT]at hs
        obtain rfl:=zx hs
        obtain rfl:=El hk
        exact yd m e (q7n e.bU ho ht hn h1 h2 h3 hv hj fH)
      ·cases hs
     ·cases hs
    ·cases hs
   ·rename_i n el ht
    obtain⟨sz,hn,rfl⟩:=Ev.1 hc
    simp only[za,zi]at hs
    split at hs
    ·rename_i b q hv
     split at hs
     ·rename_i j hj
      split at hs
      ·rename_i i fH
       cases hk:(Ga i 0||Gx i j)with
       |false=>simp[hk]at hs
       |true=>
        simp only[hk,cT]at hs
        obtain rfl:=zx hs
        refine yd m e (q3o e.bU ho ht hn h1 h2 h3 hv hj fH ?_)
        rcases Ht _ _▸hk with hk|hk
        ·exact .inl (El hk)
        ·exact .inr (I8.mp hk)
      ·cases hs
     ·cases hs
    ·cases hs
   ·cases hc
  ·cases hc
theorem q0j (m:av P C ω w0 C0 hp w)(e:ai C ω w w0.heap.size env a.tmps){t:TypeId}{x:Operand}{i:Nat}(ho:o.op=.fieldAddr t x i)(hc:cx P h md r dst (.fieldAddr t x i)=I cr)(hs:za p xc h0 al env hp cr=I res):dY P C C0 w0 a d env o w res:=by
 simp only[cx]at hc
 split at hc
 ·rename_i fs ht
  split at hc
  ·rename_i f hf
   split at hc
   ·rename_i ag n x' cL hn h1
    split at hc
    ·rename_i hb
     cases hc
     simp only[Eh,decide_eq_true_eq]at hb
     simp only[za,zi]at hs
     split at hs
     ·rename_i b q hv
      obtain rfl:=zx hs
      exact yd m e (qp4 (ag:=ag) e.bU ho ht hf hn hb.1 h1 hv (.inl ⟨b,q,rfl,rfl⟩))
     ·rename_i cs hv
      split at hs
      ·rename_i z hz
       cases hk:Bool.xor ag z.isAgg with
       |true=>simp[hk]at hs
       |false=>
        simp only[hk,cond_false]at hs
        obtain rfl:=zx hs
        exact yd m e (qp4 e.bU ho ht hf hn hb.1 h1 hv (.inr ⟨cs,z,rfl,hz,hk,rfl⟩))
      ·cases hs
     ·rename_i b bu q hv
      obtain rfl:=zx hs
      exact yd m e (qy5 e.bU ho ht hf hn hb.1 h1 hv)
     ·cases hs
    ·cases hc
   ·cases hc
  ·cases hc
 ·cases hc
theorem jau (m:av P C ω w0 C0 hp w)(e:ai C ω w w0.heap.size env a.tmps){t:TypeId}{x:Operand}{i:Nat}(ho:o.op=.field t x i)(hc:cx P h md r dst (.field t x i)=I cr)(hs:za p xc h0 al env hp cr=I res):dY P C C0 w0 a d env o w res:=by
 simp only[cx]at hc
 split at hc
 ·rename_i fs ht
  split at hc
  ·rename_i f hf
   split at hc
   ·rename_i ag n x' cL hn h1
    cases hc
    simp only[za,zi]at hs
    split at hs
    ·rename_i cs hv
     obtain⟨z,hz,rfl⟩:=uy hs
     exact yd m e (jal e.bU ho ht hf cL hn h1 hv hz)
    ·cases hs
   ·cases hc
  ·cases hc
 ·cases hc
theorem q0q (m:av P C ω w0 C0 hp w)(e:ai C ω w w0.heap.size env a.tmps){t:TypeId}{x i:Operand}(ho:o.op=.indexAddr t x i)(hc:cx P h md r dst (.indexAddr t x i)=I cr)(hs:za p xc h0 al env hp cr=I res):dY P C C0 w0 a d env o w res:=by
 simp only[cx]at hc
 split at hc
 ·rename_i x' i' h1 h2
  split at hc
  ·rename_i el ht
   split at hc
   ·rename_i sz hn
    split at hc
    ·cases hc
     simp only[za,zi]at hs
     split at hs
     ·rename_i nl cK xs iv hv hi
      cases hk:(Ga sz cK||xs.isEmpty)with
      |false=>simp[hk]at hs
      |true=>
       simp only[hk,cT]at hs
       split at hs
       ·rename_i j hj
        split at hs
        ·rename_i z hz
         obtain rfl:=zx hs
         have br:xs.isEmpty=Gh:=by
          have:=(Gk.1 hz).1
          cases xs with
          |nil=>simp at this
          |cons _ _=>rfl
         rw[br,Bool.or_false]at hk
         obtain rfl:=El hk
         exact yd m e (qpz e.bU ho ht hn h1 h2 hv hi (.inr ⟨nl,xs,z,j,rfl,hj,hz,rfl⟩))
        ·cases hs
       ·cases hs
     ·rename_i b q len iv hv hi
      split at hs
      ·rename_i j hj
       obtain rfl:=zx hs
       exact yd m e (qpz e.bU ho ht hn h1 h2 hv hi (.inl ⟨b,q,len,j,rfl,hj,rfl⟩))
      ·cases hs
     ·rename_i b bu len iv hv hi
      split at hs
      ·rename_i j hj
       obtain rfl:=zx hs
       exact yd m e (qyv e.bU ho ht hn h1 h2 hv hi hj)
      ·cases hs
     ·cases hs
    ·cases hc
   ·cases hc
  ·rename_i n el ht
   split at hc
   ·rename_i sz ag hn cL
    split at hc
    ·cases hc
     simp only[za,zi]at hs
     split at hs
     ·rename_i b q iv hv hi
      split at hs
      ·rename_i j hj
       obtain rfl:=zx hs
       exact yd m e (qqp (ag:=ag) e.bU ho ht hn h1 h2 hv hi hj (.inl ⟨b,q,rfl,rfl⟩))
      ·cases hs
     ·rename_i cs iv hv hi
      split at hs
      ·rename_i j hj
       split at hs
       ·rename_i z hz
        cases hk:Bool.xor ag z.isAgg with
        |true=>simp[hk]at hs
        |false=>
         simp only[hk,cond_false]at hs
         obtain rfl:=zx hs
         exact yd m e (qqp e.bU ho ht hn h1 h2 hv hi hj (.inr ⟨cs,z,rfl,hz,hk,rfl⟩))
       ·cases hs
      ·cases hs
     ·cases hs
    ·cases hc
   ·cases hc
  ·cases hc
 ·cases hc
theorem jb5 (m:av P C ω w0 C0 hp w)(e:ai C ω w w0.heap.size env a.tmps){t:TypeId}{x i:Operand}(ho:o.op=.index t x i)(hc:cx P h md r dst (.index t x i)=I cr)(hs:za p xc h0 al env hp cr=I res):dY P C C0 w0 a d env o w res:=by
 simp only[cx]at hc
 split at hc
 ·rename_i x' i' h1 h2
  split at hc
  ·rename_i ht
   cases hc
   simp only[za,zi]at hs
   split at hs
   ·rename_i s iv hv hi
    split at hs
    ·rename_i j hj
     split at hs
     ·rename_i c di
      obtain rfl:=zx hs
      exact yd m e (q4e e.bU ho ht h1 h2 hv hi hj di)
     ·cases hs
    ·cases hs
   ·cases hs
  ·rename_i n el ht
   split at hc
   ·rename_i sz ag hn cL
    cases hc
    simp only[za,zi]at hs
    split at hs
    ·rename_i cs iv hv hi
     split at hs
     ·rename_i j hj
      obtain⟨z,hz,rfl⟩:=uy hs
      exact yd m e (jb9 e.bU ho ht cL hn h1 h2 hv hi hj hz)
     ·cases hs
    ·cases hs
   ·cases hc
  ·cases hc
 ·cases hc
theorem q4q (m:av P C ω w0 C0 hp w)(e:ai C ω w w0.heap.size env a.tmps){c:Call}(ho:o.op=.call c)(n8:∀f,c.callee≠.value f)(hc:zC P h md r dst c=I cr)(hs:za p xc h0 al env hp cr=I res):dY P C C0 w0 a d env o w res:=by
 unfold zC at hc
 split at hc
 ·rename_i f hf;exact absurd hf (n8 f)
 ·rename_i dA
  split at hc
  ·rename_i x t dL ea
   split at hc
   ·rename_i ht
    obtain⟨x',hx,rfl⟩:=Ev.1 hc
    simp only[za,zi]at hs
    split at hs<;>first|(exfalso;omega)|skip
    ·rename_i s _ hv
     obtain rfl:=zx hs
     exact yd m e (Sm e.bU ho dA dL ea hx hv (.inl ⟨ht,s,rfl,rfl⟩))
    ·cases hs
   ·rename_i el ht
    obtain⟨x',hx,rfl⟩:=Ev.1 hc
    simp only[za,zi]at hs
    split at hs<;>first|(exfalso;omega)|skip
    ·rename_i n sz xs _ hv
     obtain rfl:=zx hs
     exact yd m e (Sm e.bU ho dA dL ea hx hv (.inr ⟨⟨el,ht⟩,.inl ⟨n,sz,xs,rfl,rfl⟩⟩))
    ·rename_i b q n _ hv
     obtain rfl:=zx hs
     exact yd m e (Sm e.bU ho dA dL ea hx hv (.inr ⟨⟨el,ht⟩,.inr ⟨b,q,rfl⟩⟩))
    ·rename_i b bu n _ hv
     obtain rfl:=zx hs
     exact yd m e (jid e.bU ho dA dL ea hx hv ht)
    ·cases hs
   ·cases hc
  ·cases hc
 ·rename_i dA
  split at hc
  ·rename_i x t dL ea
   split at hc
   ·rename_i el ht
    obtain⟨x',hx,rfl⟩:=Ev.1 hc
    simp only[za,zi]at hs
    split at hs<;>first|(exfalso;omega)|skip
    ·rename_i sz xs _ hv
     obtain rfl:=zx hs
     refine yd m e ?_
     have ha:c.args=#[x]:=by apply I9;simpa using dL
     have jW:c.argTypes=#[t]:=by apply I9;simpa using ea
     refine⟨.int .i64 0,?_,.int _ _⟩
     have hq:∃b,a.eval x=.slice b 0 0:=by
      rcases(zt e.bU hx hv).cG with⟨_,_,h⟩|⟨h,_⟩|⟨h,_⟩
      ·exact⟨_,h⟩
      ·cases h
      ·cases h
     obtain⟨b,hq⟩:=hq
     simp[execOp,ho,resolve,dA,ha,jW,invoke,builtin,Builtin.cap_,run_underlying ht,hq,goInt]
    ·cases hs
   ·cases hc
  ·cases hc
 ·rename_i dA
  split at hc
  ·rename_i x y t u dL ea
   split at hc
   ·rename_i el ut ht hu
    split at hc
    ·rename_i iV
     split at hc
     ·rename_i sz b x' y' hn hb h1 h2
      cases hc
      have hzero:∃z,ek P el=I z∧z.length=sz:=by
       have hz:=(Eh _ _▸iV).2
       rw[hn]at hz
       cases xm:ek P el with
       |none=>simp[xm]at hz
       |some z=>exact⟨z,rfl,by simpa[xm]using hz⟩
      generalize (dst.map (h.vec.contains ·)).getD Gh=bb at hs
      cases bb with
      |true=>
       simp only[if_true,za,zk]at hs
       split at hs
       ·rename_i SP vy e1 e2
        split at hs
        ·rename_i ys cy
         cases hk:(Gi ys.length 1073741824&&Gi b 4096&&Gx 0 sz&&!ys.isEmpty&&zw 0 ys&&Gx r 1000)with
         |false=>rw[hk]at hs;cases hs
         |true=>
          rw[hk]at hs
          simp only[cT]at hs
          split at hs
          ·rename_i h' cQ
           obtain rfl:=zx hs
           simp only[Eh]at hk iV
           obtain⟨⟨⟨⟨⟨k1,k2⟩,k3⟩,k4⟩,k5⟩,_⟩:=hk
           exact .inl (jej m e ho dA dL ea ht hu iV.1 hn hb h1 h2 e1 e2 cy (En k1) (by intro h;rw[h]at k4;cases k4) (En k2) k5 hzero cQ)
          ·cases hs
        ·cases hs
       ·rename_i bx bu len vy e1 e2
        split at hs
        ·rename_i cK dc xs gf
         split at hs
         ·rename_i ys cy
          cases hk:(Ga bu dc&&Ga sz cK&&Gi len xs.length&&Gi (len+ys.length) 1073741824&&Gi b 4096&&Gx 0 sz&&zw 0 ys&&Gx r 1000)with
          |false=>rw[hk]at hs;cases hs
          |true=>
           rw[hk]at hs
           simp only[cT]at hs
           split at hs
           ·rename_i h' bh
            obtain rfl:=zx hs
            simp only[Eh]at hk iV
            obtain⟨⟨⟨⟨⟨⟨⟨k1,k2⟩,k3⟩,k4⟩,k5⟩,k6⟩,k7⟩,_⟩:=hk
            obtain rfl:=El k1
            obtain rfl:=El k2
            exact .inl (jc8 m e ho dA dL ea ht hu iV.1 hn hb h1 h2 e1 e2 cy gf (En k3) (En k4) (En k5) k7 hzero bh)
           ·cases hs
         ·cases hs
        ·cases hs
       ·cases hs
      |false=>
      simp only[E6,if_false]at hs
      generalize hR:(if(Og (fun x=>h.bD.contains x) dst).getD Gh=E5 then I r else E7)=R at hs
      cases R with
      |some rr=>
       simp only[za,zk]at hs
       split at hs
       ·rename_i cK vy e1 e2
        cases fG:((km env x').isSome&&Ga sz cK)with
        |false=>simp[fG]at hs
        |true=>
         simp only[fG,cT]at hs
         split at hs
         ·rename_i ys cy
          cases cV:(Gi ys.length 1073741824&&Gi b 4096&&Gx 0 sz)with
          |false=>simp[cV]at hs
          |true=>
           simp only[cV,cT]at hs
           split at hs
           ·rename_i h' cQ
            cases hs
            simp only[Eh]at cV iV fG
            obtain⟨⟨k2,k3⟩,k4⟩:=cV
            refine .inl (q0i m e ho dA dL ea ht hu iV.1 hn hb h1 h2 e1 e2 cy fG.1 rfl (En k2) (En k3) ?_ (El fG.2) cQ)
            have hz:=iV.2
            rw[hn]at hz
            cases xm:ek P el with
            |none=>simp[xm]at hz
            |some z=>exact⟨z,rfl,by simpa[xm]using hz⟩
           ·cases hs
         ·cases hs
       ·cases hs
      |none=>
       simp only[za,zi]at hs
       split at hs
       ·rename_i n cK xs vy e1 e2
        cases fG:(n||(km env x').isSome)with
        |false=>simp[fG]at hs
        |true=>
         simp only[fG,cT]at hs
         split at hs
         ·rename_i ys cy
          cases cV:((Ga sz cK||(xs.isEmpty&&n))&&Gi (xs.length+ys.length) 1073741824&&Gi b 4096&&Gx 0 sz)with
          |false=>simp[cV]at hs
          |true=>
           simp only[cV,cT]at hs
           cases hs
           simp only[Eh]at cV iV
           obtain⟨⟨⟨k1,k2⟩,k3⟩,k4⟩:=cV
           refine .inl (q8y m e ho dA dL ea ht hu iV.1 hn hb h1 h2 e1 e2 cy (by simpa using fG) ?_ (En k2) (En k3) ?_)
           ·rcases Ht _ _▸k1 with k1|k1
            ·exact .inl (El k1)
            ·simp only[Eh,Iu]at k1;exact .inr k1
           ·have hz:=iV.2
            rw[hn]at hz
            cases xm:ek P el with
            |none=>simp[xm]at hz
            |some z=>exact⟨z,rfl,by simpa[xm]using hz⟩
         ·cases hs
       ·cases hs
     ·cases hc
    ·cases hc
   ·cases hc
  ·cases hc
 ·rename_i dA
  split at hc
  ·rename_i x y t ts dL ea
   split at hc
   ·rename_i el ht
    split at hc
    ·rename_i sz x' y' hn h1 h2
     cases hc
     simp only[za,zk]at hs
     split at hs
     ·rename_i b q len vy e1 e2
      cases hk:yw h0 al b with
      |false=>simp[hk]at hs
      |true=>
       simp only[hk,cT]at hs
       split at hs
       ·rename_i cs hcs
        split at hs
        ·rename_i n us cy
         split at hs
         ·rename_i dX bO
          cases cV:Ga us.length (n*sz)with
          |false=>simp[cV]at hs
          |true=>
           simp only[cV,cT]at hs
           split at hs
           ·rename_i h' bh
            obtain rfl:=zx hs
            exact .inl (jd6 m e ho dA dL ea ht hn h1 h2 e1 e2 hcs cy bO (El cV) bh)
           ·cases hs
         ·cases hs
        ·cases hs
       ·cases hs
     ·cases hs
    ·cases hc
   ·cases hc
  ·cases hc
 ·rename_i dA
  split at hc
  ·rename_i x y t ts dL ea
   split at hc
   ·rename_i kt el ht
    split at hc
    ·rename_i kd x' y' hO h1 h2
     cases hc
     simp only[za,zk]at hs
     split at hs
     ·rename_i b kv e1 e2
      cases hk:yw h0 al b with
      |false=>simp[hk]at hs
      |true=>
       simp only[hk,cT]at hs
       split at hs
       ·rename_i es hb
        split at hs
        ·rename_i r hf
         split at hs
         ·rename_i h' bh
          obtain rfl:=zx hs
          exact .inl (q9h m e ho dA dL ea ht hO h1 h2 e1 e2 hb hf bh)
         ·cases hs
        ·cases hs
       ·cases hs
     ·cases hs
    ·cases hc
   ·cases hc
  ·cases hc
 ·rename_i dA
  obtain⟨l,hl,rfl⟩:=Ev.1 hc
  simp only[za,zi]at hs
  split at hs
  ·rename_i v vs hv
   obtain⟨z,hz,rfl⟩:=uy hs
   exact yd m e (jbl (mx:=true) e.bU ho dA hl hv hz)
  ·cases hs
 ·rename_i dA
  obtain⟨l,hl,rfl⟩:=Ev.1 hc
  simp only[za,zi]at hs
  split at hs
  ·rename_i v vs hv
   obtain⟨z,hz,rfl⟩:=uy hs
   exact yd m e (jbl (mx:=false) e.bU ho dA hl hv hz)
  ·cases hs
 ·cases hc
end
def ax.cut (C:ax)(n:Nat):ax:={ C with β:=fun b=>if b<n then C.β b else E7 }
theorem ax.eE (C:ax)(n:Nat):(C.cut n).le C where
 k _ _ _ h:=h
 b b r h:=by
  simp only[ax.cut]at h
  split at h
  ·exact h
  ·cases h
 w:=rfl
 d _ h:=h
theorem ax.ik {C C':ax}{n:Nat}(h:C.le C')(hn:∀b r,C.β b=I r→b<n):C.le (C'.cut n):=
 ⟨h.1,fun b r hb=>by simp only[ax.cut];rw[if_pos (hn b r hb)];exact h.2 b r hb,h.w,h.d,h.t⟩
section
variable {P:Program}{p:qr}{xc:XC}{C C0:ax}{ω:Nat→Option Loc}{w w0:World}{hp:j8}{env:Env}{tmps:Array Value}{B:Nat}
theorem aC.cut {ℓ:Loc}{x:qa}{v:Value}(n:Nat)(ho:aC C ω w B ℓ x v):aC (C.cut n) ω w B ℓ x v:=by
 unfold aC at *
 split at ho
 ·obtain⟨h1,h2,h3,h4,h5⟩:=ho
  exact⟨h1,h2,fun b hb=>h3 b ((ax.eE C n).2 b _ hb),h4,h5⟩
 ·obtain⟨h1,h2,h3,h4,h5⟩:=ho
  exact⟨h1,h2,fun b hb=>h3 b ((ax.eE C n).2 b _ hb),h4,h5⟩
 ·trivial
theorem bC.cut {x:qa}{v:Value}{n:Nat}(h:bC C x v)(hb:below n x=E5):bC (C.cut n) x v:=
 qp.shift (C:=C) (C':=C.cut n) n (fun _ _ _ h=>h) (fun b r aY hb=>by simp only[ax.cut];rw[if_pos aY];exact hb) h hb
theorem SX {n:Nat}:∀ {e:Env} {s:Nat} {x:qa×Bool},mf n e=E5→ye s e=I x→below n x.1=E5
 | [],_,_,_,h=>by simp[ye]at h
 |(t,y)::e,s,x,hb,h=>by
  simp only[mf,Eh]at hb
  simp only[ye]at h
  cases lq:Ga t s with
  |true=>simp only[lq,cT,I.injEq]at h;subst h;exact hb.1
  |false=>simp only[lq,cond_false]at h;exact SX hb.2 h
theorem qp3 {n:Nat}:∀ {l:j8} {b:Nat} {x:qm},ko n l=E5→l[b]?=I x→oN n x=E5
 | [],_,_,_,h=>by simp at h
 |y::l,b,x,hb,h=>by
  simp only[ko,Eh]at hb
  cases b with
  |zero=>simp at h;subst h;exact hb.1
  |succ b=>simp at h;exact qp3 hb.2 h
theorem qn4 {n:Nat}:∀ {l:List (qa×Bool)} {j:Nat} {c:qa×Bool},oM n l=E5→l[j]?=I c→below n c.1=E5
 | [],_,_,_,h=>by simp at h
 |(y,o)::l,j,c,hb,h=>by
  simp only[oM,Eh]at hb
  cases j with
  |zero=>simp at h;subst h;exact hb.1
  |succ j=>simp at h;exact qn4 hb.2 h
theorem qy.cut {n:Nat}{es:List (qa×qa)}{ms:List MapEntry}(hr:qy C es ms):uf n es=E5→qy (C.cut n) es ms:=by
 induction hr with
 |nil=>exact fun _=>.nil
 |cons k v es m ms hk hv _ ih=>
  intro hb
  simp only[uf,Eh]at hb
  exact .cons k v es m ms (bC.cut hk hb.1.1) (bC.cut hv hb.1.2) (ih hb.2)
theorem bm.cut {b r n:Nat}{x:qm}(h:bm P C ω w B b r x)(hb:oN n x=E5):bm P (C.cut n) ω w B b r x:=by
 cases x with
 |hole=>exact h
 |cells cs=>
  obtain⟨vs,el,h1,h2,h3⟩:=h
  exact⟨vs,el,h1,h2,fun j c hc=>let ⟨v,a,q,b,d⟩:=h3 j c hc; ⟨v,a,q,bC.cut b (qn4 hb hc),fun e=>(d e).cut n⟩⟩
 |map es=>obtain⟨bQ,clock,h1,h2⟩:=h;exact⟨bQ,clock,h1,h2.cut hb⟩
 |iter s pos=>exact h
 |loop l=>obtain⟨lp,h1,h2⟩:=h;exact⟨lp,h1,{ h2 with env:=fun s x hx=>let ⟨v,a,b⟩:=h2.env s x hx; ⟨v,a,bC.cut b (SX hb hx)⟩ }⟩
 |fD t e l=>obtain⟨p,v,h1,h2,h3,h4⟩:=h;exact⟨p,v,h1,h2,h3,h4.cut n⟩
 |dead=>exact h
 |vec sz bu xs=>exact dI.imp (C:=C) (C':=C.cut n) (ω:=ω) (ω':=ω) (B':=B) (fun _ _ _ h=>h) (fun _ h=>h) (fun _ h _=>h) rfl (fun q n' cap k=>⟨rfl,aC.cut (C:=C) n k⟩) h
theorem av.gc (m:av P C ω w0 C0 hp w){n:Nat}(hn:n≤hp.length)(hb:ko n (hp.take n)=E5)(h0:∀b r,C0.β b=I r→b<n):av P (C.cut n) ω w0 C0 (hp.take n) w where
 base:=m.base
 know:=m.know
 cP:=m.cP
 apart b r o hb:=m.apart b r o ((ax.eE C n).2 b r hb)
 inj b b' r h1 h2:=m.inj b b' r ((ax.eE C n).2 _ _ h1) ((ax.eE C n).2 _ _ h2)
 lt b r h:=by
  have h1:=m.lt b r ((ax.eE C n).2 _ _ h)
  refine⟨h1.1,?_⟩
  simp only[ax.cut]at h
  split at h
  ·rw[Gp];omega
  ·cases h
 size:=m.size
 frame:=m.frame
 eQ:=m.eQ
 os:=m.os
 output:=m.output
 fresh b r h:=m.fresh b r ((ax.eE C n).2 _ _ h)
 grown:=ax.ik m.grown h0
 old:=m.old
 box b x r hx hr:=by
  have aY:b<n:=by
   have:=(Gk.1 hx).1
   rw[Gp]at this;omega
  have eM:hp[b]?=I x:=by rwa [List.getElem?_take_of_lt aY]at hx
  exact(m.box b x r eM ((ax.eE C n).2 _ _ hr)).cut (qp3 hb hx)
 hH:=m.hH
theorem ai.cut {n:Nat}(e:ai C ω w B env tmps)(hb:mf n env=E5):ai (C.cut n) ω w B env tmps:=
 fun s x hx=>let ⟨v,h1,h2,h3⟩:=e s x hx; ⟨v,h1,bC.cut h2 (SX hb hx),fun h=>(h3 h).cut n⟩
def jwc (env:Env)(hp:j8)(r:ja)(ℓ:Loc)(x:qa×Bool):Prop:=
 (∃s,ℓ=.slot s)∨∃t n b j ow cs,r=.cell t Gh n∧ye t env=I (.ptr b j,ow)∧ℓ=.cell b j∧yl hp b=I cs∧cs[j]?=I x
def SY (C:ax)(ω:Nat→Option Loc)(w:World)(B:Nat)(env:Env)(hp:j8)(r:ja)(x:qa×Bool)(v:Value):Prop:=bC C x.1 v∧(x.2=E5→∃ℓ,aC C ω w B ℓ x.1 v∧jwc env hp r ℓ x)
theorem q12 {B':Nat}(m:av P C ω w0 C0 hp w)(hB:B'=w0.heap.size)(e:ai C ω w B' env tmps){rv:ResultVar}{r:ja}{x:qa×Bool}(hc:Me P rv=I r)(hr:ui ⟨env,hp⟩ r=I x):
  ∃v,((match rv with | .tmp t=>pure (tmps.getD t undef) | .cell a t=>do loadVar t (←asAddr (tmps.getD a undef)):Sem Value)).run P w=.ok v w∧SY C ω w B' env hp r x v:=by
 subst hB
 cases rv with
 |tmp t=>
  simp only[Me]at hc
  cases hc
  simp only[ui]at hr
  obtain⟨v,h1,h2,h3⟩:=e t x hr
  refine⟨v,?_,h2,fun h=>⟨_,h3 h,.inl ⟨_,rfl⟩⟩⟩
  simp[If,h1]
 |cell t ty=>
  simp only[Me]at hc
  have key:∀ {ag:Bool} {n:Nat},fg P ty=I ag→yh P ty=I n→(ag=Gh→n=1)→ui ⟨env,hp⟩ (.cell t ag n)=I x→∃v,((do loadVar ty (←asAddr (tmps.getD t undef)):Sem Value)).run P w=.ok v w∧SY C ω w w0.heap.size env hp (.cell t ag n) x v:=by
   intro ag n hg hn Fq hr
   simp only[ui]at hr
   split at hr
   ·rename_i b q ow hl
    obtain⟨u,h1,h2,_⟩:=e t _ hl
    obtain⟨r,hM,rfl⟩:=h2.cU
    have hu:tmps.getD t undef=.pointer (I ⟨r,q,E7⟩):=by simp[If,h1]
    split at hr
    ·rename_i cs hcs
     have gd:=m.box b _ r (vH hcs) hM
     split at hr
     ·rename_i us fT
      cases ag with
      |true=>
       simp only[cT,I.injEq]at hr
       subst hr
       obtain⟨vs,k1,_,k2,k3,_⟩:=gd.read fT
       refine⟨.agg ⟨vs⟩,?_,.agg _ _ k1,by simp⟩
       simp[hu,asAddr,Fo hg hn k2 k3]
      |false=>
       simp only[cond_false]at hr
       split at hr
       ·rename_i c hc
        cases hr
        obtain⟨vs,te,g1,g2,g3⟩:=gd
        obtain⟨v,a1,a2,a3,a4⟩:=g3 q _ hc
        have dH:w.cell? ⟨r,q,E7⟩=I v:=by
         simp only[World.cell?,g1]
         simpa using a1
        refine⟨v,?_,a3,fun h=>⟨_,a4 h,.inr ⟨_,_,_,_,_,_,rfl,hl,rfl,hcs,hc⟩⟩⟩
        simp[hu,asAddr,Fp hg dH]
       ·cases hr
     ·cases hr
    ·cases hr
   ·cases hr
  split at hc
  ·rename_i n hg hn;cases hc;exact key hg hn (by simp) hr
  ·rename_i hg hn;cases hc;exact key hg hn (fun _=>rfl) hr
  ·cases hc
inductive jo (P:Program)(C:ax)(ω:Nat→Option Loc)(w:World)(B:Nat)(env:Env)(hp:j8):List ja→List (qa×Bool)→List Value→Prop where
 |nil:jo P C ω w B env hp [] [] []
 |cons {r:ja} {x:qa×Bool} {v:Value} {rs:List ja} {xs:List (qa×Bool)} {vs:List Value} (h:SY C ω w B env hp r x v) (t:jo P C ω w B env hp rs xs vs):jo P C ω w B env hp (r::rs) (x::xs) (v::vs)
theorem jo.bU {rs:List ja}{xs:List (qa×Bool)}{vs:List Value}(h:jo P C ω w B env hp rs xs vs):aK C (xs.map (·.1)) vs:=by
 induction h with
 |nil=>exact .nil
 |cons h _ ih=>exact .cons _ _ _ _ h.1 ih
theorem qp5 {B':Nat}(m:av P C ω w0 C0 hp w)(hB:B'=w0.heap.size)(e:ai C ω w B' env tmps):∀ {l:List ResultVar} {rs:List ja} {xs:List (qa×Bool)},zF P l=I rs→lh ⟨env,hp⟩ rs=I xs →
  ∃vs,(l.mapM fun(rv:ResultVar)=>(match rv with | .tmp t=>pure (tmps.getD t undef) | .cell a t=>do loadVar t (←asAddr (tmps.getD a undef)):Sem Value)).run P w=.ok vs w∧jo P C ω w B' env hp rs xs vs
 | [],rs,xs,hc,hr=>by
  simp[zF]at hc;subst hc
  simp[lh]at hr;subst hr
  exact⟨[],rfl,.nil⟩
 |rv::l,rs,xs,hc,hr=>by
  simp only[zF]at hc
  split at hc
  ·rename_i r Dm h1 h2
   cases hc
   simp only[lh]at hr
   split at hr
   ·rename_i x hx
    split at hr
    ·rename_i ys mF
     cases hr
     obtain⟨v,k1,k2⟩:=q12 m hB e h1 hx
     obtain⟨vs,j1,j2⟩:=qp5 m hB e h2 mF
     refine⟨v::vs,?_,.cons k2 j2⟩
     simp only[List.mapM_cons,Sem.run_bind,k1,Result.andThen_ok,j1,Sem.run_pure]
    ·cases hr
   ·cases hr
  ·cases hc
def Dx:List Value→Value
 | [v]=>v
 |vs=>.tuple ⟨vs⟩
theorem qwh (m:av P C ω w0 C0 hp w){ω':Nat→Option Loc}{b j:Nat}{v:qa}{ow:Bool}{cs:List (qa×Bool)}(kU:yl hp b=I cs)(hc:cs[j]?=I (v,ow))(hω:∀b' j' y u,(b'≠b∨j'≠j)→aC C ω w w0.heap.size (.cell b' j') y u→aC C ω' w w0.heap.size (.cell b' j') y u):
  av P C ω' w0 C0 (hp.set b (.cells (cs.set j (v,Gh)))) w:=by
 by_cases hb:∃r,C.β b=I r
 ·obtain⟨r,hr⟩:=hb
  obtain⟨vs,te,hg,cD,hold⟩:=m.box b _ r (vH kU) hr
  obtain⟨cv,k1,k2,k3,k4⟩:=hold j _ hc
  have hu:jl w w r:=⟨rfl,fun _ _=>rfl,fun c t fr h=>by rw[hg]at h;cases h;rfl,rfl,rfl⟩
  refine m.dw hu hr _ (fun b' j' y u eZ hz=>hω b' j' y u (.inl eZ) hz) ⟨vs,te,hg,by simpa using cD,fun i c hi=>?_⟩
  rw[List.getElem?_set]at hi
  split at hi
  ·rename_i oV
   subst oV
   split at hi
   ·cases hi;exact⟨cv,k1,k2,k3,by simp⟩
   ·cases hi
  ·rename_i oV
   obtain⟨u,a1,a2,a3,a4⟩:=hold i c hi
   exact⟨u,a1,a2,a3,fun h=>hω b i _ _ (.inr (Ne.symm oV)) (a4 h)⟩
 ·refine { m with lt:=fun k r hk=>by rw[I6];exact m.lt k r hk,box:=fun k x r hx hk=>?_ }
  have jY:k≠b:=fun h=>hb ⟨r,h▸hk⟩
  rw[Hb (Ne.symm jY)]at hx
  exact(m.box k x r hx hk).mono (ax.le_refl C) fun j' y u ho=>hω k j' y u (.inl jY) ho
theorem jh5 (m:av P C ω w0 C0 hp w){rs:List ja}{xs:List (qa×Bool)}{vs:List Value}(h:jo P C ω w w0.heap.size env hp rs xs vs):
  ∃ω',av P C ω' w0 C0 (kP ⟨env,hp⟩ rs) w∧bC C (yr xs).1 (Dx vs)∧((yr xs).2=E5→aC C ω' w w0.heap.size (.slot 0) (yr xs).1 (Dx vs)):=by
 have same:∃ω',av P C ω' w0 C0 hp w:=⟨ω,m⟩
 cases h with
 |nil=>exact⟨ω,m,by simpa[yr,Dx]using qp.az _ _ (qp.nil),by simp[yr]⟩
 |cons hx ht=>
  cases ht with
  |cons hy ht=>
   have:=(jo.cons hx (jo.cons hy ht)).bU
   exact⟨ω,by simpa[kP]using m,by simpa[yr,Dx]using qp.az _ _ this,by simp[yr]⟩
  |nil=>
   rename_i r x v
   obtain⟨h1,h2⟩:=hx
   simp only[yr]
   -- without the flag
   have plain:av P C ω w0 C0 (kP ⟨env,hp⟩ [r]) w:=by
    unfold kP
    split
    ·split
     ·split
      ·rename_i cs hcs
       split
       ·rename_i u hu
        exact qwh m hcs hu (fun _ _ _ _ _ h=>h)
       ·exact m
      ·exact m
     ·exact m
    ·exact m
   by_cases hk:x.2=E5
   ·have fG:=hk
    obtain⟨ℓ,h3,h4⟩:=h2 fG
    refine⟨uv ω x.1 v (.slot 0),?_,h1,fun _=>Mw h3⟩
    rcases h4 with⟨s,rfl⟩|⟨t,n,b,j,ow,cs,rfl,g1,rfl,g2,g3⟩
    ·exact { plain with box:=fun b x r hx hb=>(plain.box b x r hx hb).mono (ax.le_refl C) fun j y u hz=>xi h3 (by simp) hz }
    ·obtain⟨xv,xo⟩:=x
     simp only at fG
     subst fG
     have:kP ⟨env,hp⟩ [.cell t Gh n]=hp.set b (.cells (cs.set j (xv,Gh))):=by
      simp only[kP,g1,g2,g3]
     rw[this]
     exact qwh m g2 g3 fun b' j' y u br hz=>xi h3 (by
      rcases br with br|br
      ·simp[br]
      ·simp[br]) hz
   ·exact⟨ω,plain,h1,fun h=>absurd h hk⟩
theorem q46 {fn:Func}(m:av P C ω w0 C0 hp w)(e:ai C ω w w0.heap.size env tmps){rs:List ja}{xs:List (qa×Bool)}(hc:zF P fn.results.toList=I rs)(hr:lh ⟨env,hp⟩ rs=I xs):
  ∃v ω',(results fn tmps).run P w=.ok v w∧av P C ω' w0 C0 (kP ⟨env,hp⟩ rs) w∧bC C (yr xs).1 v∧((yr xs).2=E5→aC C ω' w w0.heap.size (.slot 0) (yr xs).1 v):=by
 obtain⟨vs,h1,h2⟩:=qp5 m rfl e hc hr
 have ll:(fn.results.mapM fun(rv:ResultVar)=>(match rv with | .tmp t=>pure (tmps.getD t undef) | .cell a t=>do loadVar t (←asAddr (tmps.getD a undef)):Sem Value)).run P w=.ok vs.toArray w:=by
  rw[Array.mapM_eq_mapM_toList]
  simp only[Sem.run_map]
  rw[h1]
  rfl
 have bn:(results fn tmps).run P w=.ok (if h:vs.toArray.size=1 then vs.toArray[0]else .tuple vs.toArray) w:=by
  unfold results
  rw[Sem.run_bind]
  exact congrArg (fun z=>Result.andThen z fun(a:Array Value) w'=>Sem.run P (pure (if h:a.size=1 then a[0]else Value.tuple a)) w') ll
 have hval:(if h:vs.toArray.size=1 then vs.toArray[0]else .tuple vs.toArray)=(Dx vs):=by
  match vs with
  | []=>rfl
  | [v]=>rfl
  |v::u::vs=>simp[Dx]
 rw[hval]at bn
 obtain⟨ω',q1,q2,q3⟩:=jh5 m h2
 exact⟨_,ω',bn,q1,q2,q3⟩
end
section
variable {P:Program}{C C0:ax}{ω:Nat→Option Loc}{w w0:World}{hp:j8}
def qA (C:ax)(hp:j8)(r:Nat):Prop:=∃b sz bu xs r0 cap,hp[b]?=I (.vec sz bu xs)∧C.β b=I r0∧C.T (r0,bu,r,cap)
def Hid (C:ax)(hp:j8)(r:Nat):Prop:=(∃b,C.β b=I r)∨qA C hp r
theorem qA.is (m:av P C ω w0 C0 hp w){r:Nat}(h:qA C hp r):(∃b,C.β b=I r)∨∃b sz bu xs n cap,hp[b]?=I (.vec sz bu xs)∧xd C ω w w0.heap.size b r n cap:=by
 obtain⟨b,sz,bu,xs,r0,cap,h1,h2,h3⟩:=h
 obtain⟨q,ke,k1,k2,k3,k4,_⟩:=m.box b _ r0 h1 h2
 have:=(k2 _ h3 rfl).2 rfl
 simp only[Prod.mk.injEq]at this
 obtain⟨rfl,rfl⟩:=this
 rcases k4 with rfl|k4
 ·exact .inl ⟨b,h2⟩
 ·exact .inr ⟨b,sz,bu,xs,_,_,h1,k4⟩
theorem SZ (m:av P C ω w0 C0 hp w){r:Nat}(h:Hid C hp r)(o:Nat):C.K r o=E7:=by
 rcases h with⟨b,hb⟩|h
 ·exact m.apart b r o hb
 ·rcases h.is m with⟨b,hb⟩|⟨b,sz,bu,xs,n,cap,_,h2⟩
  ·exact m.apart b r o hb
  ·exact h2.2.2.2.2.2.2 o (by simp)
theorem jcn {K:Nat→Nat→Option Value}(hW:C.W=fun _=>False)(m:av P C ω w0 (.bL K) hp w){r:Nat}(h:Hid C hp r):w0.heap.size≤r:=by
 have key:∀b,C.β b=I r→w0.heap.size≤r:=fun b hb=>by
  rcases m.fresh b r hb with h|h|h
  ·cases h
  ·exact h
  ·exact h.elim
 rcases h with⟨b,hb⟩|h
 ·exact key b hb
 ·rcases h.is m with⟨b,hb⟩|⟨b,sz,bu,xs,n,cap,_,h2⟩
  ·exact key b hb
  ·rcases h2.2.1 with h|h
   ·exact h
   ·rw[hW]at h;exact h.elim
theorem jn6 (m:av P C ω w0 C0 hp w){r:Nat}(h:Hid C hp r):r<w.heap.size:=by
 rcases h with⟨b,hb⟩|h
 ·exact(m.lt b r hb).1
 ·rcases h.is m with⟨b,hb⟩|⟨b,sz,bu,xs,n,cap,_,h2⟩
  ·exact(m.lt b r hb).1
  ·obtain⟨_,_,_,_,_,⟨cells,elem,h5,_⟩,_⟩:=h2
   exact(Eo.1 h5).1
open Classical in
noncomputable def kq (C:ax)(hp:j8)(w:World):Nat→Nat→Option Value:=fun r o=>if Hid C hp r then(w.cell? ⟨r,o,E7⟩).filter (·.oneCell')else C.K r o
theorem FI (m:av P C ω w0 C0 hp w){r o:Nat}{x:Value}(h:C.K r o=I x):kq C hp w r o=I x:=by
 unfold kq
 rw[if_neg]
 ·exact h
 ·intro hh
  rw[SZ m hh o]at h;cases h
theorem MB (m:av P C ω w0 C0 hp w){r o:Nat}{x:Value}(h:kq C hp w r o=I x):w.cell? ⟨r,o,E7⟩=I x∧x.oneCell'=E5:=by
 unfold kq at h
 split at h
 ·rw[Option.filter_eq_some_iff]at h;exact h
 ·exact⟨m.know r o x h,m.cP r o x h⟩
theorem qtv {r o:Nat}{x:Value}(hb:Hid C hp r)(hc:w.cell? ⟨r,o,E7⟩=I x)(h1:x.oneCell'=E5):kq C hp w r o=I x:=by
 unfold kq
 rw[if_pos hb,hc]
 simp[h1]
theorem S0 {b r o:Nat}{x:Value}(hb:C.β b=I r)(hc:w.cell? ⟨r,o,E7⟩=I x)(h1:x.oneCell'=E5):kq C hp w r o=I x:=
 qtv (.inl ⟨b,hb⟩) hc h1
theorem S1 (m:av P C ω w0 C0 hp w){x:qa}{v:Value}(h:bC C x v)(hb:below 0 x=E5):bC (.bL (kq C hp w)) x v:=
 qp.shift (C:=C) (C':=.bL (kq C hp w)) 0 (fun _ _ _ h=>FI m h) (fun b r aY=>by omega) h hb
theorem qtp {x:qa}{v:Value}(h:bC C x v)(h1:v.oneCell'=E5):x.isAgg=Gh:=by
 cases h<;>first|rfl|(simp[Value.oneCell']at h1)
theorem S2 {C:ax}{r:Nat}:∀ {ys:List qa} {o:Nat},(∀j x,ys[j]?=I x→∃v,C.K r (o+j)=I v∧bC C x v)→bZ C r ys o
 | [],o,_=>.gN _ _
 |x::ys,o,h=>by
  obtain⟨v,h1,h2⟩:=h 0 x rfl
  refine .de _ _ _ _ v (by simpa using h1) h2 (S2 fun j y hy=>?_)
  obtain⟨v,k1,k2⟩:=h (j+1) y (by simpa using hy)
  exact⟨v,by rw[show o+1+j=o+(j+1) by omega];exact k1,k2⟩
theorem S3 {C:ax}{r sz:Nat}(hz:0<sz):∀ {n:Nat} {xs:List qa} {o:Nat},xs.length=n*sz→(∀x∈xs,x.isAgg=Gh)→(∀j x,xs[j]?=I x→∃v,C.K r (o+j)=I v∧bC C x v)→aX C r sz (lR sz n xs) o
 |0,xs,o,_,_,_=>.fi _ _ _
 |n+1,xs,o,hl,hp,h=>by
  rw[Nat.succ_mul]at hl
  have hf:(bif Ga sz 1 then xs.headD .undef else qa.agg (xs.take sz)).flat=xs.take sz:=by
   cases hb:Ga sz 1 with
   |false=>rfl
   |true=>
    have:=El hb
    subst this
    match xs,hl with
    |x::xs,_=>simp only[cT,List.headD_cons];rw[qcl (hp x (List.mem_cons_self ..))];rfl
  refine .cY _ _ _ _ _ ?_ ?_ (S3 hz ?_ (fun x hx=>hp x (List.mem_of_mem_drop hx)) fun j x hx=>?_)
  ·rw[hf,Gp];omega
  ·rw[hf]
   refine S2 fun j x hx=>h j x ?_
   rw[List.getElem?_take]at hx
   split at hx
   ·exact hx
   ·cases hx
  ·rw[My];omega
  ·rw[List.getElem?_drop]at hx
   obtain⟨v,k1,k2⟩:=h _ x hx
   exact⟨v,by rw[Nat.add_assoc];exact k1,k2⟩
theorem FJ {sz:Nat}:∀ {n:Nat} {xs:List qa},(lR sz n xs).length=n
 |0,_=>rfl
 |n+1,xs=>by simp only[lR,List.length_cons];rw[FJ]
theorem qrk {sz:Nat}(hz:1<sz):∀ {n:Nat} {xs:List qa},xs.length=n*sz→zw 0 (lR sz n xs)=E5→∀x∈xs,below 0 x=E5
 |0,xs,hl,_=>by
  rw[Nat.zero_mul]at hl
  rw[List.length_eq_zero_iff.1 hl]
  intro x hx;cases hx
 |n+1,xs,hl,h=>by
  have hb:Ga sz 1=Gh:=by
   cases hc:Ga sz 1 with
   |false=>rfl
   |true=>have:=El hc;omega
  simp only[lR,hb,cond_false,zw,below,Eh]at h
  have ih:=qrk hz (n:=n) (xs:=xs.drop sz) (by rw[My,hl,Nat.succ_mul];omega) h.2
  have ht:∀(ys:List qa),zw 0 ys=E5→∀x∈ys,below 0 x=E5:=by
   intro ys
   induction ys with
   |nil=>intro _ x hx;cases hx
   |cons y ys ih=>
    intro hh x hx
    simp only[zw,Eh]at hh
    rcases Nr.1 hx with rfl|hx
    ·exact hh.1
    ·exact ih hh.2 x hx
  intro x hx
  rw[←List.take_append_drop sz xs]at hx
  rcases List.mem_append.1 hx with hx|hx
  ·exact ht _ h.1 x hx
  ·exact ih x hx
theorem S4 (m:av P C ω w0 C0 hp w){x x':qa}{v:Value}(hf:iG hp x=I x')(h:bC C x v)(hb:below 0 x'=E5):bC (.bL (kq C hp w)) x' v:=by
 unfold iG at hf
 split at hf
 ·rename_i b off len
  split at hf
  ·rename_i cs hcs
   cases cM:Dg off len cs with
   |true=>
    rw[cM]at hf
    simp only[cT,I.injEq]at hf
    subst hf
    simp only[Dg,Eh]at cM
    obtain⟨⟨⟨r0,r1⟩,r2⟩,_⟩:=cM
    have r0:=El r0
    have r2:=El r2
    have r1:1<cs.length / len:=by simpa using r1
    subst r0
    obtain⟨r,cap,hM,hle,rfl⟩:=h.ey
    obtain⟨vs,elem,k1,k2,k3⟩:=m.box b _ r (vH hcs) hM
    have iU:zw 0 (lR (cs.length / len) len (cs.map (·.1)))=E5:=by simpa[below]using hb
    have S5:=qrk r1 (by rw[I7];exact r2.symm) iU
    have hrr:aX (.bL (kq C hp w)) r (cs.length / len) (lR (cs.length / len) len (cs.map (·.1))) 0:=by
     refine S3 (by omega) (by rw[I7];exact r2.symm) (fun x hx=>?_) fun j x hx=>?_
     ·obtain⟨j,hj⟩:=List.getElem?_of_mem hx
      rw[Ha,Ev]at hj
      obtain⟨c,hc,rfl⟩:=hj
      obtain⟨u,q1,q2,q3,_⟩:=k3 j c hc
      exact qtp q3 q2
     ·have cR:=Gc hx
      rw[Ha,Ev]at hx
      obtain⟨c,hc,rfl⟩:=hx
      obtain⟨u,q1,q2,q3,_⟩:=k3 j c hc
      have dH:w.cell? ⟨r,0+j,E7⟩=I u:=by
       unfold World.cell?
       rw[k1]
       simp only[Gl,E6,if_false,Hv]
       exact q1
      exact⟨u,S0 hM dH q2,S1 m q3 (S5 _ cR)⟩
    have:=qp.list (C:=.bL (kq C hp w)) (cs.length / len) (lR (cs.length / len) len (cs.map (·.1))) r 0 cap (by rw[FJ];exact hle) hrr
    rw[FJ]at this
    exact this
   |false=>
   rw[cM]at hf
   simp only[cond_false]at hf
   split at hf
   ·rename_i us fT
    cases hf
    obtain⟨r,cap,hM,hle,rfl⟩:=h.ey
    obtain⟨vs,k1,k0,k2,k3,k4⟩:=(m.box b _ r (vH hcs) hM).read fT
    have iU:zw 0 us=E5:=by simpa[below]using hb
    have fI:aK (.bL (kq C hp w)) us vs:=qp.shift (C:=C) (C':=.bL (kq C hp w)) 0 (fun _ _ _ h=>FI m h) (fun b r aY=>by omega) k1 iU
    have jI:∀(us:List qa) (vs:List Value),aK C us vs→(∀v∈vs,v.oneCell'=E5)→us.flatMap qa.flat=us∧∀u∈us,u.flat.length=1:=by
     intro us
     induction us with
     |nil=>intro _ _ _;exact⟨rfl,by simp⟩
     |cons u us ih=>
      intro vs h h1
      cases h with
      |cons _ _ v vs hx h=>
       obtain⟨i1,i2⟩:=ih vs h (fun v hv=>h1 v (by simp[hv]))
       have xf:=qtp hx (h1 v (by simp))
       rw[Mv,qcl xf,i1]
       refine⟨rfl,fun u' oS=>?_⟩
       rcases Nr.1 oS with rfl|oS
       ·rw[qcl xf];rfl
       ·exact i2 u' oS
    obtain⟨f1,f2⟩:=jI us vs k1 k4
    have hcells:bZ (.bL (kq C hp w)) r (us.flatMap qa.flat) off:=by
     rw[f1]
     exact bZ.hJ fI fun j u hj=>S0 hM (k3 j u hj) (k4 u (Gc hj))
    have hl:us.length=len:=k0
    have:=qp.list (C:=.bL (kq C hp w)) 1 us r off cap (by omega) (aX.et hcells f2)
    rw[hl]at this
    exact this
   ·cases hf
  ·cases hf
 ·rename_i b bu len
  split at hf
  ·rename_i sz dc xs gf
   cases hk:(Ga bu dc&&Gi len xs.length)with
   |false=>rw[hk]at hf;cases hf
   |true=>
    rw[hk]at hf
    simp only[cT,I.injEq]at hf
    subst hf
    simp only[Eh]at hk
    obtain rfl:=El hk.1
    have hlen:=En hk.2
    cases h with
    |au _ _ _ r0 q cap hβ hT hl=>
     obtain⟨q',ke,k1,k2,k3,k4,_⟩:=m.box b _ r0 gf hβ
     have heq:=(k2 _ hT rfl).2 rfl
     simp only[Prod.mk.injEq]at heq
     obtain⟨rfl,rfl⟩:=heq
     obtain⟨cells,t,vs,g1,g2,g3,g4,g5,g6,g7⟩:=k3
     have S6:Hid C hp q:=.inr ⟨b,sz,bu,xs,r0,cap,gf,hβ,hT⟩
     have hall:bZ (.bL (kq C hp w)) q (xs.flatMap qa.flat) 0:=by
      refine bZ.hJ (qp.imp (C:=.bL C.K) (C':=.bL (kq C hp w)) ⟨fun _ _ _ h=>FI m h,fun _ _ h=>h⟩ g5) fun j u hj=>?_
      refine qtv S6 ?_ (g7 u (Gc hj))
      unfold World.cell?
      rw[g1]
      simp only[Gl,E6,if_false,Hv]
      exact g6 j u hj
     have cM:aX (.bL (kq C hp w)) q sz xs 0:=aX.et hall g4
     have:=qp.list (C:=.bL (kq C hp w)) sz (xs.take len) q 0 cap (by rw[Gp];omega) (cM.take len)
     rw[Gp,Nat.min_eq_left hlen]at this
     exact this
  ·cases hf
 ·cases hf
  exact S1 m h hb
theorem S7 (m:av P C ω w0 C0 hp w):∀ {xs fq:List qa} {vs:List Value},lf hp xs=I fq→aK C xs vs→zw 0 fq=E5→aK (.bL (kq C hp w)) fq vs
 | [],fq,vs,hf,h,_=>by
  simp only[lf,I.injEq]at hf
  subst hf
  cases h
  exact .nil
 |x::xs,fq,vs,hf,h,hb=>by
  simp only[lf]at hf
  split at hf
  ·rename_i y hy
   split at hf
   ·rename_i ys mF
    cases hf
    simp only[zw,Eh]at hb
    cases h with
    |cons _ _ v vs hx h=>exact .cons _ _ _ _ (S4 m hy hx hb.1) (S7 m mF h hb.2)
   ·cases hf
  ·cases hf
theorem S8 (m:av P C ω w0 C0 hp w):∀ {xs fq:List qa} {vs:List Value},aA.bg hp xs=I fq→aK C xs vs→zw 0 fq=E5→aK (.bL (kq C hp w)) fq vs
 | [],fq,vs,hf,h,_=>by
  simp only[aA.bg,I.injEq]at hf
  subst hf
  cases h
  exact .nil
 |x::xs,fq,vs,hf,h,hb=>by
  cases h with
  |cons _ _ v vs hx h=>
   unfold aA.bg at hf
   split at hf
   ·cases ‹_::_=[]›
   ·rename_i cs pX heq
    cases heq
    split at hf
    ·rename_i y hy
     split at hf
     ·rename_i ys mF
      cases hf
      simp only[zw,below,Eh]at hb
      obtain⟨us,rfl,hu⟩:=bC.dZ hx
      exact .cons _ _ _ _ (.agg _ _ (S7 m hy hu hb.1)) (S8 m mF h hb.2)
     ·cases hf
    ·cases hf
   ·rename_i heq
    cases heq
    split at hf
    ·rename_i y hy
     split at hf
     ·rename_i ys mF
      cases hf
      simp only[zw,Eh]at hb
      exact .cons _ _ _ _ (S4 m hy hx hb.1) (S8 m mF h hb.2)
     ·cases hf
    ·cases hf
theorem q5b (m:av P C ω w0 C0 hp w){x x':qa}{v:Value}(hf:aA hp x=I x')(h:bC C x v)(hb:below 0 x'=E5):bC (.bL (kq C hp w)) x' v:=by
 unfold aA at hf
 split at hf
 ·split at hf
  ·rename_i ys mF
   cases hf
   obtain⟨us,rfl,hu⟩:=h.dZ
   exact .agg _ _ (S7 m mF hu (by simpa[below]using hb))
  ·cases hf
 ·split at hf
  ·rename_i ys mF
   cases hf
   cases h with
   |az _ vs hu=>exact .az _ _ (S8 m mF hu (by simpa[below]using hb))
  ·cases hf
 ·exact S4 m hf h hb
end
def Aa:qo→Exit
 | .normal=>.normal
 | .exit id=>.exit id
 | .ret=>.ret
def iL (ρ:Option Nat):Fence:={ Fence.wide with round:=ρ }
theorem qvv {ρ:Option Nat}{n:Nat}{P:Program}{f:FuncId}{args:Array Value}{w:World}{R:Ending→World→Prop}:CallsIn (iL ρ) n P f args w R↔CallsIn Fence.wide n P f args w R:=Iff.rfl
def Marks (C:ax)(B:Nat)(ds:List Deferred):Prop:=∃rs:List Nat,ds=rs.map (fun r=>{ target:=.collected r,args:=#[] })∧rs.Nodup∧∀r∈rs,C.D r∧B≤r
theorem Marks.mono {C C':ax}{B:Nat}{ds:List Deferred}(h:Marks C B ds)(hle:C.le C'):Marks C' B ds:=
 let ⟨rs,h1,h2,h3⟩:=h; ⟨rs,h1,h2,fun r hr=>⟨hle.d r (h3 r hr).1,(h3 r hr).2⟩⟩
theorem Marks.nil {C:ax}{B:Nat}:Marks C B []:=⟨[],rfl,List.nodup_nil,by simp⟩
def cg (P:Program)(xc:XC):Prop:=
 ∀(ρ:Option Nat) (nt:Nat) (c:Code) (ca:qg) (st bK:qh) (x:qo),E4 P nt c ca→(ρ≠E7→kw ca=E5)→xc ca st=I (x,bK) →
  ∀(C:ax) (ω:Nat→Option Loc) (w0:World) (C0:ax) (a:Act) (w:World),av P C ω w0 C0 st.heap w→ai C ω w w0.heap.size st.env a.tmps→a.tmps.size=nt→Marks C w0.heap.size a.defers →
   c.wpIn (iL ρ) 0 P (fun e a' w'=>e=Aa x∧a'.tmps.size=nt∧∃C' ω',C.le C'∧Marks C' w0.heap.size a'.defers∧av P C' ω' w0 C0 bK.heap w'∧ai C' ω' w' w0.heap.size bK.env a'.tmps) a w
def IsoCall (P:Program)(k:Nat)(args:List qa)(v:qa)(ow:Bool):Prop:=
 ∀(K:Nat→Nat→Option Value) (w:World) (vs:List Value),Tabs P w →
  (∀r o u,K r o=I u→w.cell? ⟨r,o,E7⟩=I u)→(∀r o u,K r o=I u→u.oneCell'=E5)→aK (.bL K) args vs →
  CallsIn Fence.wide 0 P k ⟨vs⟩ w fun e w'=>∃u K',e=.returned u∧Ext w w'∧(∀r o x,K r o=I x→K' r o=I x)∧(∀r o,r<w.heap.size→K' r o=K r o) ∧
   (∀r o x,K' r o=I x→w'.cell? ⟨r,o,E7⟩=I x)∧(∀r o x,K' r o=I x→x.oneCell'=E5)∧bC (.bL K') v u ∧
   (ow=E5→∃ℓ ω',aC (.bL K') ω' w' w.heap.size ℓ v u)
def Enters (P : Program) (k : Nat) : Prop := ∃ fn, P.funcs[k]? = I fn ∧ fn.name ≠ "runtime.NumGoroutine" ∧ fn.body.isSome
def Ab (P:Program)(k:Nat)(args:List qa)(h:j8)(v:qa)(ow:Bool)(h':j8):Prop:=
 ∀(C:ax) (ω:Nat→Option Loc) (w:World) (vs:List Value),aK C args vs→av P C ω w C h w →
  CallsIn Fence.wide 0 P k ⟨vs⟩ w fun e w'=>∃u C' ω',e=.returned u∧C.le C'∧av P C' ω' w C h' w'∧bC C' v u∧(ow=E5→aC C' ω' w' w.heap.size (.slot 0) v u)
def S9 (P:Program)(k:Nat)(es:List (qa×qa)):Prop:=
 ∀(K:Nat→Nat→Option Value) (w:World),Tabs P w →
  (∀r o u,K r o=I u→w.cell? ⟨r,o,E7⟩=I u)→(∀r o u,K r o=I u→u.oneCell'=E5) →
  CallsIn Fence.wide 0 P k ⟨[]⟩ w fun e w'=>∃q K' bQ clock,e=.returned (.map (I q))∧Ext w w'∧(∀r o x,K r o=I x→K' r o=I x)∧(∀r o,r<w.heap.size→K' r o=K r o) ∧
   (∀r o x,K' r o=I x→w'.cell? ⟨r,o,E7⟩=I x)∧(∀r o x,K' r o=I x→x.oneCell'=E5)∧w.heap.size≤q∧w'.heap[q]?=I (.map bQ clock)∧qy (.bL K') es bQ.toList
structure qx (P:Program)(p:qr):Prop where
 fn:∀k f,p.bH k=I f→∃fn h,P.funcs[k]?=I fn∧E3 P h fn=I f
 gJ:∀k f,p.cq k=I f→Enters P k∧∀args v o,f args=I (v,o)→lQ v=E5→zw 0 args=E5→IsoCall P k args v o
 mixed:P.follows .mixedOrders=E5
 fC:∀k f,p.dj k=I f→Enters P k∧∀args h v o h',f args h=I (v,o,h')→Ab P k args h v o h':=by intro k f h;cases h
 maps:∀k es,p.maps k=I es→Enters P k∧S9 P k es:=by intro k f h;cases h
theorem Ta {P : Program} {h : qb} {fn : Func} {f : qd} (hc : E3 P h fn = I f) : ∃ c, fn.body = I c ∧ gA P h fn.ntmps c = I f.body ∧ zF P fn.results.toList = I f.results ∧ f.ntmps = fn.ntmps ∧ fn.name ≠ "runtime.NumGoroutine" := by
 unfold E3 at hc
 split at hc
 ·rename_i c hb
  split at hc
  ·rename_i b rs h1 h2
   split at hc
   ·cases hc
   ·rename_i hn
    cases hc
    exact⟨c,hb,h1,h2,rfl,by simpa using hn⟩
  ·cases hc
 ·cases hc
theorem qx.enters {P:Program}{p:qr}(h:qx P p){k:Nat}{f:qd}(hf:p.bH k=I f):Enters P k:=by
 obtain⟨fn,hh,h1,h2⟩:=h.fn k f hf
 obtain⟨c,hb,_,_,_,hn⟩:=Ta h2
 exact⟨fn,h1,hn,by simp[hb]⟩
theorem qqx {P:Program}{k:Nat}(h:Enters P k)(args:Array Value)(w:World):(callFunc k args).run P w=.ok (.enter k args) w:=by
 obtain⟨fn,h1,h2,h3⟩:=h
 simp[callFunc,h1,h2,Option.isNone_iff_eq_none,Option.isSome_iff_ne_none.1 h3]
section
variable {P:Program}{p:qr}{xc:XC}{C C0:ax}{ω:Nat→Option Loc}{w w0:World}{hp:j8}{env:Env}{tmps:Array Value}{B:Nat}{a:Act}{o:Oper}{d:Loc}
theorem qt4:∀ {args:List qa} {i s:Nat} {x:qa×Bool},ye s (nZ i args)=I x→∃j,s=i+j∧args[j]?=I x.1∧x.2=Gh
 | [],_,_,_,h=>by simp[nZ,ye]at h
 |v::args,i,s,x,h=>by
  simp only[nZ,ye]at h
  cases hb:Ga i s with
  |true=>
   simp only[hb,cT,I.injEq]at h
   subst h
   exact⟨0,(El hb).symm,rfl,rfl⟩
  |false=>
   simp only[hb,cond_false]at h
   obtain⟨j,h1,h2,h3⟩:=qt4 h
   exact⟨j+1,by omega,by simpa using h2,h3⟩
theorem q9i {r o:Nat}{v:Value}(h:w.cell? ⟨r,o,E7⟩=I v):∃cs t fr,w.heap[r]?=I (.cells cs t fr):=by
 unfold World.cell? at h
 split at h
 ·rename_i cs t fr hg;exact⟨cs,t,fr,hg⟩
 ·cases h
theorem av.other {D':Nat→Prop}(m:av P C ω w0 C0 hp w){r:Nat}{w':World}(hu:jl w w' r)(hβ:∀b,C.β b≠I r)(hr:w0.heap.size≤r)(kW:∀cs t fr,w.heap[r]?≠I (.cells cs t fr))(hD:∀k,D' k→C.D k∧k≠r)(h0:∀k,C0.D k→D' k):
  av P { C with D:=D' } ω w0 C0 hp w':=by
 have cB:∀ {B:Nat} {ℓ:Loc} {x:qa} {v:Value},aC C ω w B ℓ x v→aC { C with D:=D' } ω w' B ℓ x v:=by
  intro B ℓ x v ho
  unfold aC at *
  split at ho
  ·obtain⟨h1,h2,h3,h4,h8,⟨cells,elem,h5,h6⟩,h7⟩:=ho
   refine⟨h1,h2,h3,h4,h8,⟨cells,elem,?_,h6⟩,h7⟩
   rw[hu.other _ (fun h=>kW _ _ _ (h▸h5))]
   exact h5
  ·obtain⟨h1,h2,h3,h4,h8,⟨cells,elem,h5,h6⟩,h7⟩:=ho
   refine⟨h1,h2,h3,h4,h8,⟨cells,elem,?_,h6⟩,h7⟩
   rw[hu.other _ (fun h=>kW _ _ _ (h▸h5))]
   exact h5
  ·trivial
 refine { base:=m.base,know:=?_,cP:=m.cP,apart:=m.apart,inj:=m.inj,lt:=?_,size:=?_,frame:=?_,eQ:=?_,os:=hu.os.trans m.os,output:=hu.output.trans m.output,fresh:=m.fresh,grown:=⟨m.grown.k,m.grown.b,m.grown.w,h0,m.grown.t⟩,old:=m.old,box:=?_,hH:=fun q hq=>by rw[hu.size];exact m.hH q hq }
 ·intro k p v hk
  have hc:=m.know _ _ _ hk
  have br:k≠r:=fun h=>by
   obtain⟨cs,t,fr,hg⟩:=q9i hc
   exact kW cs t fr (h▸hg)
  simp only[World.cell?]at hc ⊢
  rw[hu.other k br];exact hc
 ·intro b p hb
  rw[hu.size];exact m.lt b p hb
 ·rw[hu.size];exact m.size
 ·intro k hk hn hw
  rw[hu.other k (by omega)];exact m.frame k hk hn hw
 ·intro k hk
  obtain⟨h1,h2⟩:=hD k hk
  rw[hu.other k h2];exact m.eQ k h1
 ·intro b x p hx hb
  refine bm.imp (C:=C) (C':={ C with D:=D' }) ⟨fun _ _ _ h=>h,fun _ _ h=>h⟩ (hu.other p (fun h=>hβ b (h▸hb))) (fun j y v ho=>cB ho) (m.box b x p hx hb) (hq:=fun q n cap k=>by
   obtain⟨_,_,_,_,_,⟨cells,elem,h5,_⟩,_⟩:=k
   exact hu.other q (fun h=>kW _ _ _ (h▸h5)))
theorem aC.kB {D':Nat→Prop}{r:Nat}{w':World}(hu:jl w w' r)(kW:∀cs t fr,w.heap[r]?≠I (.cells cs t fr)){ℓ:Loc}{x:qa}{v:Value}(ho:aC C ω w B ℓ x v):aC { C with D:=D' } ω w' B ℓ x v:=by
 unfold aC at *
 split at ho
 ·obtain⟨h1,h2,h3,h4,h8,⟨cells,elem,h5,h6⟩,h7⟩:=ho
  refine⟨h1,h2,h3,h4,h8,⟨cells,elem,?_,h6⟩,h7⟩
  rw[hu.other _ (fun h=>kW _ _ _ (h▸h5))]
  exact h5
 ·obtain⟨h1,h2,h3,h4,h8,⟨cells,elem,h5,h6⟩,h7⟩:=ho
  refine⟨h1,h2,h3,h4,h8,⟨cells,elem,?_,h6⟩,h7⟩
  rw[hu.other _ (fun h=>kW _ _ _ (h▸h5))]
  exact h5
 ·trivial
theorem bC.qB {D':Nat→Prop}{x:qa}{v:Value}(h:bC C x v):bC { C with D:=D' } x v:=qp.imp (C:=C) (C':={ C with D:=D' }) ⟨fun _ _ _ h=>h,fun _ _ h=>h⟩ h
theorem ai.kB {D':Nat→Prop}{r:Nat}{w':World}(hu:jl w w' r)(kW:∀cs t fr,w.heap[r]?≠I (.cells cs t fr))(e:ai C ω w B env tmps):ai { C with D:=D' } ω w' B env tmps:=
 fun s x hs=>let ⟨v,h1,h2,h3⟩:=e s x hs; ⟨v,h1,bC.qB h2,fun h=>(h3 h).kB hu kW⟩
theorem qzq {fn:Func}{R:Ending→World→Prop}:∀(rs:List Nat) (C':ax) (w:World),C.le C'→av P C' ω w0 C hp w→ai C' ω w w0.heap.size env tmps→rs.Nodup→(∀r∈rs,C'.D r∧w0.heap.size≤r)→(∀k,C.D k→k<w0.heap.size) →
  (∀(C2:ax) (w2:World),C.le C2→C2.D=C.D→av P C2 ω w0 C hp w2→ai C2 ω w2 w0.heap.size env tmps→∃v,(results fn tmps).run P w2=.ok v w2∧R (.returned v) w2) →
  LeavesInM Fence.wide 0 P fn tmps R (rs.map fun r=>{ target:=.collected r,args:=#[] }) .returning w
 | [],C',w,hle,m,e,_,_,hD,dW=>by
  have hr0:∀ {k},C.D k→C'.D k:=fun h=>hle.d _ h
  -- the marks are forgotten
  have m2:av P { C' with D:=C.D } ω w0 C hp w:={ m with
   eQ:=fun r hr=>m.eQ r (hr0 hr)
   grown:=⟨m.grown.k,m.grown.b,m.grown.w,fun _ h=>h,m.grown.t⟩
   box:=fun b x r hx hb=>bm.imp (C:=C') (C':={ C' with D:=C.D }) ⟨fun _ _ _ h=>h,fun _ _ h=>h⟩ rfl (fun j y v ho=>ho) (m.box b x r hx hb) }
  have e2:ai { C' with D:=C.D } ω w w0.heap.size env tmps:=fun s x hs=>let ⟨v,h1,h2,h3⟩:=e s x hs; ⟨v,h1,bC.qB h2,h3⟩
  exact dW { C' with D:=C.D } w ⟨hle.k,hle.b,hle.w,fun _ h=>h,hle.t⟩ rfl m2 e2
 |r::rs,C',w,hle,m,e,pR,FK,hD,dW=>by
  obtain⟨hDr,hBr⟩:=FK r (by simp)
  have hg:=m.eQ r hDr
  have aY:=(Eo.1 hg).1
  have kW:∀cs t fr,w.heap[r]?≠I (.cells cs t fr):=fun cs t fr h=>by rw[hg]at h;cases h
  have hu:jl w (jJ w r (.deferred E7)) r:=Dv aY (by simp)
  have hβ:∀b,C'.β b≠I r:=by
   intro b hb
   obtain⟨x,hx⟩:=Ip (m.lt b r hb).2▸(⟨_,rfl⟩:∃x,I (hp[b]'(m.lt b r hb).2)=I x)
   have h0:=m.box b x r hx hb
   cases x with
   |hole=>exact h0
   |cells cs=>obtain⟨vs,elem,h1,_⟩:=h0;rw[hg]at h1;cases h1
   |map es=>obtain⟨bQ,clock,h1,_⟩:=h0;rw[hg]at h1;cases h1
   |iter s pos=>have h1:w.heap[r]?=_:=h0;rw[hg]at h1;cases h1
   |loop l=>obtain⟨lp,h1,_⟩:=h0;rw[hg]at h1;cases h1
   |fD t e l=>obtain⟨p,v,h1,_⟩:=h0;rw[hg]at h1;cases h1
   |dead=>obtain⟨cs,t,h1⟩:=h0;rw[hg]at h1;cases h1
   |vec sz bu xs=>obtain⟨_,_,_,_,_,_,cs,t,h1⟩:=h0;rw[hg]at h1;cases h1
  have bn:(Instr.takeDeferred r).run P w=.ok [] (jJ w r (.deferred E7)):=by
   have hs:=xk (P:=P) (x:=.deferred E7) hg (by simp)
   simp only[Instr.takeDeferred,Sem.run_bind,oT hg (by simp),Result.andThen_ok,hs,Sem.run_pure]
  refine⟨by simp,.inl ⟨r,_,rfl,bn,?_⟩⟩
  have FL:=List.nodup_cons.1 pR
  have m2:=m.other (D':=fun k=>C'.D k∧k≠r) hu hβ hBr kW (fun k h=>h) (fun k h=>⟨hle.d k h,fun hk=>by have:=hD k h;omega⟩)
  exact qzq rs { C' with D:=fun k=>C'.D k∧k≠r } _ ⟨hle.k,hle.b,hle.w,fun k h=>⟨hle.d k h,fun hk=>by have:=hD k h;omega⟩,hle.t⟩ m2 (e.kB hu kW) FL.2
   (fun k hk=>⟨⟨(FK k (by simp[hk])).1,fun h=>FL.1 (h▸hk)⟩,(FK k (by simp[hk])).2⟩) hD dW
theorem q45 (hx:cg P xc){k:Nat}{fn:Func}{h:qb}{f:qd}(hfn:P.funcs[k]?=I fn)(hc:E3 P h fn=I f){args:List qa}{v:qa}{ow:Bool}{h':j8}(hr:oP xc f args hp=I (v,ow,h')){vs:List Value}(dS:aK C args vs)(m:av P C ω w C hp w):
  CallsIn Fence.wide 0 P k ⟨vs⟩ w fun e w'=>∃u C' ω',e=.returned u∧C.le C'∧av P C' ω' w C h' w'∧bC C' v u∧(ow=E5→aC C' ω' w' w.heap.size (.slot 0) v u):=by
 obtain⟨c,hb,h1,h2,h3,_⟩:=Ta hc
 unfold oP at hr
 have hD:∀k,C.D k→k<w.heap.size:=fun k hk=>(Eo.1 (m.eQ k hk)).1
 cases hle:Gi args.length f.ntmps with
 |false=>simp[hle]at hr
 |true=>
  simp only[hle,cT]at hr
  have hlen:=En hle
  have vF:=dS.length
  refine callsIn_of_wp_marks hfn hb trivial ?_
  have cD:((⟨vs⟩:Array Value)++M1 (fn.ntmps-(⟨vs⟩:Array Value).size) undef).size=fn.ntmps:=by
   simp;omega
  have FM:ai C ω w w.heap.size (nZ 0 args) ((⟨vs⟩:Array Value)++M1 (fn.ntmps-(⟨vs⟩:Array Value).size) undef):=by
   intro s x hx
   obtain⟨j,rfl,hj,hf⟩:=qt4 hx
   obtain⟨u,k1,k2⟩:=dS.get hj
   have aY:j<vs.length:=(Gk.1 k1).1
   refine⟨u,?_,k2,by simp[hf]⟩
   rw[Hv,Array.getElem?_append_left (by simpa using aY)]
   simpa using k1
  have fin:∀(st:qh) (a':Act) (w':World) (C':ax) (ω':Nat→Option Loc),C.le C'→Marks C' w.heap.size a'.defers→av P C' ω' w C st.heap w'→ai C' ω' w' w.heap.size st.env a'.tmps →
    (match lh st f.results with
     |some xs=>I ((yr xs).1,(yr xs).2,kP st f.results)
     |none=>E7)=I (v,ow,h') →
    LeavesInM Fence.wide 0 P fn a'.tmps (fun e w'=>∃u C' ω',e=.returned u∧C.le C'∧av P C' ω' w C h' w'∧bC C' v u∧(ow=E5→aC C' ω' w' w.heap.size (.slot 0) v u)) a'.defers .returning w':=by
   intro st a' w' C' ω' hle ⟨rs,hds,pR,FK⟩ m' e' hr
   rw[hds]
   refine qzq (C:=C) (ω:=ω') (w0:=w) (hp:=st.heap) (env:=st.env) rs C' w' hle m' e' pR FK hD ?_
   intro C2 w2 iW _ m2 e2
   split at hr
   ·rename_i xs oR
    cases hr
    obtain⟨u,ω2,k1,k2,k3,k4⟩:=q46 (fn:=fn) m2 e2 h2 oR
    exact⟨u,k1,u,C2,ω2,rfl,iW,k2,k3,k4⟩
   ·cases hr
  split at hr
  ·rename_i st bO
   refine wpIn_mono (hx E7 fn.ntmps c f.body _ _ _ ⟨h,h1⟩ (fun h=>absurd rfl h) bO C ω w C _ w m FM cD Marks.nil) ?_
   rintro e a' w' ⟨rfl,q1,C',ω',q3,q2,q4,q5⟩
   exact fin st a' w' C' ω' q3 q2 q4 q5 hr
  ·rename_i st bO
   refine wpIn_mono (hx E7 fn.ntmps c f.body _ _ _ ⟨h,h1⟩ (fun h=>absurd rfl h) bO C ω w C _ w m FM cD Marks.nil) ?_
   rintro e a' w' ⟨rfl,q1,C',ω',q3,q2,q4,q5⟩
   exact fin st a' w' C' ω' q3 q2 q4 q5 hr
  ·cases hr
theorem q2c {K:Nat→Nat→Option Value}(ht:Tabs P w)(h1:∀r o u,K r o=I u→w.cell? ⟨r,o,E7⟩=I u)(h2:∀r o u,K r o=I u→u.oneCell'=E5):av P (.bL K) (fun _=>E7) w (.bL K) [] w where
 base:=⟨ht,fun g _=>⟨fun b h=>(by cases h),fun h=>h⟩⟩
 know:=h1
 cP:=h2
 apart:=by simp[ax.bL]
 inj:=by simp[ax.bL]
 lt:=by simp[ax.bL]
 size:=Nat.le_refl _
 frame _ _ _ _:=rfl
 eQ _ h:=h.elim
 os:=rfl
 output:=rfl
 fresh:=by simp[ax.bL]
 grown:=ax.le_refl _
 old _ _ _ _:=rfl
 box:=by simp
 hH _ h:=h.elim
theorem FN (hp:qx P p)(hx:cg P xc){k:Nat}{args:List qa}{h h':j8}{v:qa}{ow:Bool}(hr:zg p xc k args h=I (v,ow,h')):Enters P k∧Ab P k args h v ow h':=by
 unfold zg at hr
 split at hr
 ·rename_i f hf
  obtain⟨fn,hh,hfn,FO⟩:=hp.fn k f hf
  exact⟨hp.enters hf,fun C ω w vs dS m=>q45 hx hfn FO hr dS m⟩
 ·split at hr
  ·rename_i f hf
   obtain⟨he,hs⟩:=hp.fC k f hf
   exact⟨he,hs _ _ _ _ _ hr⟩
  ·cases hr
theorem qy.bL {es:List (qa×qa)}{ms:List MapEntry}(h:qy C es ms):uf 0 es=E5→qy (.bL C.K) es ms:=by
 induction h with
 |nil=>exact fun _=>.nil
 |cons k v es m ms hk hv _ ih=>
  intro hb
  simp only[uf,Eh]at hb
  exact .cons _ _ _ _ _ (qp.shift (C:=C) (C':=.bL C.K) 0 (fun _ _ _ h=>h) (fun b r aY=>by omega) hk hb.1.1) (qp.shift (C:=C) (C':=.bL C.K) 0 (fun _ _ _ h=>h) (fun b r aY=>by omega) hv hb.1.2) (ih hb.2)
theorem q7z (hp:qx P p)(hx:cg P xc){k b:Nat}{ow:Bool}{h1:j8}{es:List (qa×qa)}(hr:zg p xc k [] []=I (.map b,ow,h1))(hb:h1[b]?=I (.map es))(he:uf 0 es=E5):Enters P k∧S9 P k es:=by
 obtain⟨lz,mM⟩:=FN hp hx hr
 refine⟨lz,fun K w ht g1 g2=>?_⟩
 refine CallsIn.mono (mM _ _ _ [] .nil (q2c (P:=P) ht g1 g2)) ?_
 rintro e w' ⟨u,C',ω',rfl,hle,m',fI,_⟩
 cases fI with
 |map _ q hq=>
  obtain⟨bQ,clock,k1,k2⟩:=m'.box b _ q hb hq
  refine⟨q,C'.K,bQ,clock,rfl,⟨m'.size,fun r hr=>m'.frame r hr (by simp[ax.bL]) (by simp[ax.bL]),m'.os,m'.output⟩,hle.1,fun r o hr=>m'.old r o hr (by simp[ax.bL]),m'.know,m'.cP,?_,k1,k2.bL he⟩
  rcases m'.fresh b q hq with h|h|h
  ·cases h
  ·exact h
  ·exact h.elim
theorem MC (hp:qx P p)(hx:cg P xc){k:Nat}{args:List qa}{v:qa}{ow:Bool}(hr:jz p xc k args=I (v,ow))(hb:zw 0 args=E5):Enters P k∧lQ v=E5∧IsoCall P k args v ow:=by
 unfold jz at hr
 split at hr
 ·rename_i f hf
  obtain⟨he,FP⟩:=hp.gJ k f hf
  split at hr
  ·rename_i v' o' FQ
   cases kX:lQ v' with
   |false=>simp[kX]at hr
   |true=>
    simp only[kX,cT]at hr
    cases hr
    exact⟨he,kX,FP args _ _ FQ kX hb⟩
  ·cases hr
 ·split at hr
  ·rename_i v0 o' h' FQ
   split at hr
   ·rename_i v' Dy
    cases kX:lQ v' with
    |false=>simp[kX]at hr
    |true=>
     simp only[kX,cT]at hr
     cases hr
     obtain⟨lz,mM⟩:=FN hp hx FQ
     ·refine⟨lz,kX,?_⟩
      intro K w vs ht h1 h2 dS
      have:=mM _ _ _ _ dS (q2c (P:=P) ht h1 h2)
      refine CallsIn.mono this ?_
      rintro e w' ⟨u,C',ω',rfl,hle,m',fI,cB⟩
      refine⟨u,kq C' h' w',rfl,?_,fun r o x hr=>FI m' (hle.1 r o x hr),fun r o hr=>?_,fun r o x hr=>(MB m' hr).1,fun r o x hr=>(MB m' hr).2,q5b m' Dy fI kX,?_⟩
      ·exact⟨m'.size,fun r hr=>m'.frame r hr (by simp[ax.bL]) (by simp[ax.bL]),m'.os,m'.output⟩
      ·have hold:=m'.old r o hr (by simp[ax.bL])
       unfold kq
       rw[if_neg]
       ·exact hold
       intro hh
       have:=jcn hle.w m' hh
       omega
      ·intro ho
       simp only[Eh]at ho
       have hℓ:=cB ho.1
       refine⟨.slot 0,ω',?_⟩
       cases v0 with
       |list n sz xs=>
        have FR:v=.list n sz xs:=by
         simp only[aA,iG,I.injEq]at Dy
         exact Dy.symm
        subst FR
        unfold aC at *
        split at hℓ
        ·obtain⟨g1,g2,g3,g4,g5,g6,g7⟩:=hℓ
         refine⟨g1,.inl (g2.resolve_right (by rw[hle.w];exact fun h=>h)),by simp[ax.bL],g4,g5,g6,fun o xn=>?_⟩
         show kq C' h' w' _ o=E7
         unfold kq
         rw[if_neg]
         ·exact g7 o xn
         ·rintro (⟨b,hb⟩|hh)
          ·exact g3 b hb
          ·rcases hh.is m' with⟨b,hb⟩|⟨b,_,_,_,_,_,_,h2⟩
           ·exact g3 b hb
           ·have:=h2.1;rw[g1]at this;simp at this
        all_goals trivial
       |_=>exact absurd ho.2 (by simp[qa.cu])
   ·cases hr
  ·cases hr
end
section
variable {P:Program}{p:qr}{xc:XC}{C C0 C1:ax}{ω ω1:Nat→Option Loc}{w w' w0:World}{hp h1:j8}{env:Env}{tmps:Array Value}{B:Nat}{a:Act}{o:Oper}{d:Loc}
theorem aC.grow {K':Nat→Nat→Option Value}{ℓ:Loc}{x:qa}{v:Value}(hx:Ext w w')(hK:∀r o,r<w.heap.size→K' r o=C.K r o)(ho:aC C ω w B ℓ x v):aC { C with K:=K' } ω w' B ℓ x v:=by
 unfold aC at *
 split at ho
 ·obtain⟨h1,h2,h3,h4,h8,⟨cells,elem,h5,h6⟩,h7⟩:=ho
  have aY:=(Eo.1 h5).1
  exact⟨h1,h2,h3,h4,h8,⟨cells,elem,hx.get h5,h6⟩,fun o ho=>by
   show K' _ o=E7
   rw[hK _ o aY];exact h7 o ho⟩
 ·obtain⟨h1,h2,h3,h4,h8,⟨cells,elem,h5,h6⟩,h7⟩:=ho
  have aY:=(Eo.1 h5).1
  exact⟨h1,h2,h3,h4,h8,⟨cells,elem,hx.get h5,h6⟩,fun o ho=>by
   show K' _ o=E7
   rw[hK _ o aY];exact h7 o ho⟩
 ·trivial
theorem av.bL {K':Nat→Nat→Option Value}(m:av P C ω w0 C0 hp w)(hx:Ext w w')(hle:∀r o x,C.K r o=I x→K' r o=I x)(hK:∀r o,r<w.heap.size→K' r o=C.K r o)(hk:∀r o x,K' r o=I x→w'.cell? ⟨r,o,E7⟩=I x)(h1:∀r o x,K' r o=I x→x.oneCell'=E5):
  av P { C with K:=K' } ω w0 C0 hp w' where
 base:=m.base
 know:=hk
 cP:=h1
 apart b r o hb:=by
  show K' r o=E7
  rw[hK r o (m.lt b r hb).1];exact m.apart b r o hb
 inj:=m.inj
 lt b r hb:=⟨Gm (m.lt b r hb).1 hx.size,(m.lt b r hb).2⟩
 size:=Gb m.size hx.size
 frame:=(m.ext hx).frame
 eQ:=(m.ext hx).eQ
 os:=(m.ext hx).os
 output:=(m.ext hx).output
 fresh:=m.fresh
 grown:=ax.le_trans m.grown ⟨hle,fun _ _ h=>h,rfl,fun _ h=>h,fun _ h=>h⟩
 old r o hr hw:=by
  show K' r o=_
  rw[hK r o (Gm hr m.size)];exact m.old r o hr hw
 box b x r hb hr:=by
  have h0:=m.box b x r hb hr
  -- in the new world first,then in the richer context
  cases x with
  |hole=>exact h0
  |cells cs=>
   obtain⟨vs,elem,g1,g2,g3⟩:=h0
   exact⟨vs,elem,hx.get g1,g2,fun j c hc=>let ⟨v,a,q,b,d⟩:=g3 j c hc; ⟨v,a,q,qp.mono (C':={ C with K:=K' }) ⟨hle,fun _ _ h=>h,rfl,fun _ h=>h,fun _ h=>h⟩ b,fun e=>(d e).grow hx hK⟩⟩
  |map es=>obtain⟨bQ,clock,g1,g2⟩:=h0;exact⟨bQ,clock,hx.get g1,qy.mono (C:=C) (C':={ C with K:=K' }) ⟨hle,fun _ _ h=>h,rfl,fun _ h=>h,fun _ h=>h⟩ g2⟩
  |iter s pos=>exact hx.get h0
  |loop l=>obtain⟨lp,g1,g2⟩:=h0;exact⟨lp,hx.get g1,q9.mono (C:=C) (C':={ C with K:=K' }) ⟨hle,fun _ _ h=>h,rfl,fun _ h=>h,fun _ h=>h⟩ g2⟩
  |fD t e l=>obtain⟨p,v,g1,g2,g3,g4⟩:=h0;exact⟨p,v,hx.get g1,g2,g3,g4.grow hx hK⟩
  |dead=>obtain⟨cs,t,g1⟩:=h0;exact⟨cs,t,hx.get g1⟩
  |vec sz bu xs=>
   have hg:∀ {k:Nat} {c:Array Value} {t:TypeId},w.heap[k]?=I (.cells c t (0,0))→w'.heap[k]?=w.heap[k]?:=fun hk=>by rw[hx.get hk,hk]
   obtain⟨_,_,_,_,_,_,cs,t,g1⟩:=id h0
   refine dI.imp hle (fun _ h=>h) (fun _ h _=>h) (hg g1) (fun q n cap k=>⟨?_,k.grow hx hK⟩) h0
   obtain⟨_,_,_,_,_,⟨cells,elem,h5,_⟩,_⟩:=k
   exact hg h5
 hH q hq:=Gm (m.hH q hq) hx.size
theorem ai.bL {K':Nat→Nat→Option Value}(e:ai C ω w B env tmps)(hx:Ext w w')(hle:∀r o x,C.K r o=I x→K' r o=I x)(hK:∀r o,r<w.heap.size→K' r o=C.K r o):ai { C with K:=K' } ω w' B env tmps:=
 fun s x hs=>let ⟨v,h1,h2,h3⟩:=e s x hs; ⟨v,h1,qp.mono (C':={ C with K:=K' }) ⟨hle,fun _ _ h=>h,rfl,fun _ h=>h,fun _ h=>h⟩ h2,fun h=>(h3 h).grow hx hK⟩
theorem q2f (m:av P C ω w0 C0 hp w)(e:ai C ω w w0.heap.size env tmps){v:qa}{ow:Bool}{u:Value}{K':Nat→Nat→Option Value}(hx:Ext w w')(hle:∀r o x,C.K r o=I x→K' r o=I x)(hK:∀r o,r<w.heap.size→K' r o=C.K r o)(hk:∀r o x,K' r o=I x→w'.cell? ⟨r,o,E7⟩=I x)(h1:∀r o x,K' r o=I x→x.oneCell'=E5)
  (kX:lQ v=E5) (hr:bC (.bL K') v u) (ho:ow=E5→∃ℓ ω',aC (.bL K') ω' w' w.heap.size ℓ v u):kj P C0 w0 C tmps d env ⟨v,ow,E7,hp⟩ u w':=by
 have m':=m.bL hx hle hK hk h1
 have e':=e.bL hx hle hK
 have jE:bC { C with K:=K' } v u:=qp.shift (C:=.bL K') (C':={ C with K:=K' }) 0 (fun _ _ _ h=>h) (fun b r aY=>by omega) hr kX
 have cz:C.le { C with K:=K' }:=⟨hle,fun _ _ h=>h,rfl,fun _ h=>h,fun _ h=>h⟩
 by_cases hkL:∃(n:Bool) (sz:Nat) (xs:List qa) (ad:Addr) (len cap:Nat),v=.list n sz xs∧u=.slice (I ad) len cap∧ow=E5
 ·obtain⟨n,sz,xs,ad,len,cap,rfl,rfl,rfl⟩:=hkL
  obtain⟨ℓ,ω',g1,Tb,g3,g4,g5,g6,g7⟩:=ho rfl
  have g2:w.heap.size≤ad.block:=Tb.resolve_right (fun h=>h)
  have Ac:∀ℓ x v,aC C ω w w0.heap.size ℓ x v→aC { C with K:=K' } (ct ω ad.block d) w' w0.heap.size ℓ x v:=fun ℓ x v h=>by
   have h2:=(h.fresh (ℓ':=d) g2).grow hx hK
   exact h2
  refine⟨{ C with K:=K' },ct ω ad.block d,cz,?_,?_,jE,fun _=>?_⟩
  ·have:=(m.jU ad.block d g2).bL hx hle hK hk h1
   exact this
  ·exact fun s x hs=>let ⟨v,h1,h2,h3⟩:=e s x hs; ⟨v,h1,qp.mono cz h2,fun h=>Ac _ _ _ (h3 h)⟩
  ·refine⟨by simp[ct],.inl (Gb m.size g2),fun b hb=>?_,g4,g5,g6,g7⟩
   have:=(m.lt b _ hb).1
   omega
 by_cases cV:∃(n:Nat) (ad:Addr),v=.cE n∧u=.pointer (I ad)∧ow=E5
 ·obtain⟨n,ad,rfl,rfl,rfl⟩:=cV
  obtain⟨ℓ,ω',g1,Tb,g3,g4,g5,g6,g7⟩:=ho rfl
  have g2:w.heap.size≤ad.block:=Tb.resolve_right (fun h=>h)
  have Ac:∀ℓ x v,aC C ω w w0.heap.size ℓ x v→aC { C with K:=K' } (ct ω ad.block d) w' w0.heap.size ℓ x v:=fun ℓ x v h=>by
   have h2:=(h.fresh (ℓ':=d) g2).grow hx hK
   exact h2
  refine⟨{ C with K:=K' },ct ω ad.block d,cz,?_,?_,jE,fun _=>?_⟩
  ·have:=(m.jU ad.block d g2).bL hx hle hK hk h1
   exact this
  ·exact fun s x hs=>let ⟨v,h1,h2,h3⟩:=e s x hs; ⟨v,h1,qp.mono cz h2,fun h=>Ac _ _ _ (h3 h)⟩
  ·refine⟨by simp[ct],.inl (Gb m.size g2),fun b hb=>?_,g4,g5,g6,g7⟩
   have:=(m.lt b _ hb).1
   omega
 ·refine⟨{ C with K:=K' },ω,cz,m',e',jE,fun h=>?_⟩
  cases v with
  |list n sz xs=>
   cases u with
   |slice q len cap=>
    cases q with
    |some ad=>exact absurd ⟨_,_,_,_,_,_,rfl,rfl,h⟩ hkL
    |none=>trivial
   |_=>trivial
  |cE n=>
   cases u with
   |pointer q=>
    cases q with
    |some ad=>exact absurd ⟨_,_,rfl,rfl,h⟩ cV
    |none=>trivial
   |_=>trivial
  |_=>trivial
theorem jgp (m:av P C ω w0 C0 hp w)(e:ai C ω w w0.heap.size env tmps){b q:Nat}{K':Nat→Nat→Option Value}{es:List (qa×qa)}{bQ:Array MapEntry}{clock:Nat}(hx:Ext w w')(hle:∀r o x,C.K r o=I x→K' r o=I x)(hK:∀r o,r<w.heap.size→K' r o=C.K r o)(hk:∀r o x,K' r o=I x→w'.cell? ⟨r,o,E7⟩=I x)(h1:∀r o x,K' r o=I x→x.oneCell'=E5)
  (hh:hp[b]?=I .hole) (hq:w.heap.size≤q) (hg:w'.heap[q]?=I (.map bQ clock)) (hr:qy (.bL K') es bQ.toList):kj P C0 w0 C tmps d env ⟨.map b,Gh,E7,hp.set b (.map es)⟩ (.map (I q)) w':=by
 have m':=m.bL hx hle hK hk h1
 have e':=e.bL hx hle hK
 have cz:C.le { C with K:=K' }:=⟨hle,fun _ _ h=>h,rfl,fun _ h=>h,fun _ h=>h⟩
 obtain⟨m2,e2,iW⟩:=m'.Fu e' hh hg (fun k hk=>by have:=(m.lt k q hk).1;omega) (Gb m.size hq) (qy.imp (C:=.bL K') (C':={ C with K:=K' }) ⟨fun _ _ _ h=>h,fun b r h=>by simp[ax.bL]at h⟩ hr)
 exact⟨_,ω,ax.le_trans cz iW,m2,e2,.map _ _ (by simp[ax.box]),by simp⟩
theorem FT {C C':ax}{x:qa}{v:Value}(hp:nj x=E5)(h:bC C x v):bC C' x v:=by
 cases x<;>simp only[nj,E6]at hp<;>cases h<;>constructor
theorem av.Ad (m:av P C ω w0 C0 hp w)(e:ai C ω w w0.heap.size env tmps){b q:Nat}{K':Nat→Nat→Option Value}{cells:Array Value}{t:TypeId}{cs:List (qa×Bool)}(hx:Ext w w')(hle:∀r o x,C.K r o=I x→K' r o=I x)(hK:∀r o,r<w.heap.size→K' r o=C.K r o)(hk:∀r o x,K' r o=I x→w'.cell? ⟨r,o,E7⟩=I x)(h1:∀r o x,K' r o=I x→x.oneCell'=E5)
  (hq:w.heap.size≤q) (hn:∀o,K' q o=E7) (hh:hp[b]?=I .hole) (hg:w'.heap[q]?=I (.cells cells t (0,0))) (hl:cs.length≤cells.size)
  (hcs:∀(j:Nat) (c:qa×Bool),cs[j]?=I c→∃v,cells[j]?=I v∧v.oneCell'=E5∧bC (({ C with K:=K' }:ax).box b q) c.1 v∧c.2=Gh):
  av P (({ C with K:=K' }:ax).box b q) ω w0 C0 (hp.set b (.cells cs)) w'∧ai (({ C with K:=K' }:ax).box b q) ω w' w0.heap.size env tmps∧C.le (({ C with K:=K' }:ax).box b q):=by
 have m':=m.bL hx hle hK hk h1
 have hβ:=Fs m hh
 have zY:C.le { C with K:=K' }:=⟨hle,fun _ _ h=>h,rfl,fun _ h=>h,fun _ h=>h⟩
 have iW:({ C with K:=K' }:ax).le (({ C with K:=K' }:ax).box b q):=ax.jZ (C:={ C with K:=K' }) (r:=q) hβ
 have cz:=ax.le_trans zY iW
 have aY:b<hp.length:=(Gk.1 hh).1
 have MD:∀k,C.β k≠I q:=fun k hk=>by have:=(m.lt k q hk).1;omega
 have cB:∀ℓ x v,aC C ω w w0.heap.size ℓ x v→aC (({ C with K:=K' }:ax).box b q) ω w' w0.heap.size ℓ x v:=fun ℓ x v h=>aC.grow (C:=C.box b q) hx hK (aC.box (.inl hq) h)
 refine⟨{ m' with apart:=?_,inj:=?_,lt:=?_,fresh:=?_,grown:=ax.le_trans m'.grown iW,box:=?_ },?_,cz⟩
 ·intro k r o hk
  simp only[ax.box]at hk
  split at hk
  ·cases hk;exact hn o
  ·exact m'.apart k r o hk
 ·intro k k' r hk eC
  simp only[ax.box]at hk eC
  split at hk<;>split at eC
  ·rename_i h1 h2;rw[h1,h2]
  ·cases hk;exact absurd eC (MD k')
  ·cases eC;exact absurd hk (MD k)
  ·exact m.inj k k' r hk eC
 ·intro k r hk
  rw[I6]
  simp only[ax.box]at hk
  split at hk
  ·rename_i h1;cases hk;subst h1;exact⟨(Eo.1 hg).1,aY⟩
  ·exact m'.lt k r hk
 ·intro k r hk
  simp only[ax.box]at hk
  split at hk
  ·cases hk;exact .inr (.inl (Gb m.size hq))
  ·exact m.fresh k r hk
 ·intro k y r hy hk
  simp only[ax.box]at hk
  split at hk
  ·rename_i h1
   subst h1
   cases hk
   rw[List.getElem?_set_self aY]at hy
   cases hy
   refine⟨cells,t,hg,hl,fun j c hc=>?_⟩
   obtain⟨v,a1,a2,a3,a4⟩:=hcs j c hc
   exact⟨v,a1,a2,a3,fun h=>by rw[a4]at h;cases h⟩
  ·rename_i h1
   rw[Hb (Ne.symm h1)]at hy
   have h0:=m.box k y r hy hk
   cases y with
   |hole=>exact h0
   |cells cs=>
    obtain⟨vs,elem,g1,g2,g3⟩:=h0
    exact⟨vs,elem,hx.get g1,g2,fun j c hc=>let ⟨v,a,q,b,d⟩:=g3 j c hc; ⟨v,a,q,qp.mono cz b,fun e=>cB _ _ _ (d e)⟩⟩
   |map es=>obtain⟨bQ,clock,g1,g2⟩:=h0;exact⟨bQ,clock,hx.get g1,qy.mono cz g2⟩
   |iter s pos=>exact hx.get h0
   |loop l=>obtain⟨lp,g1,g2⟩:=h0;exact⟨lp,hx.get g1,q9.mono cz g2⟩
   |fD t e l=>obtain⟨p,v,g1,g2,g3,g4⟩:=h0;exact⟨p,v,hx.get g1,g2,g3,cB _ _ _ g4⟩
   |dead=>obtain⟨cs,t,g1⟩:=h0;exact⟨cs,t,hx.get g1⟩
   |vec sz bu xs=>
    have ME:∀ {k:Nat} {c:Array Value} {t:TypeId},w.heap[k]?=I (.cells c t (0,0))→w'.heap[k]?=w.heap[k]?:=fun hk=>by rw[hx.get hk,hk]
    obtain⟨_,_,_,_,_,_,cs,t,g1⟩:=id h0
    refine dI.imp hle (fun _ h=>h) (fun _ h _=>h) (ME g1) (fun q n cap k'=>⟨?_,cB _ _ _ k'⟩) h0
    obtain⟨_,_,_,_,_,⟨cells,elem,h5,_⟩,_⟩:=k'
    exact ME h5
 ·exact fun s y hy=>let ⟨v,h1,h2,h3⟩:=e s y hy; ⟨v,h1,qp.mono cz h2,fun h=>cB _ _ _ (h3 h)⟩
theorem av.FU (m:av P C ω w0 C0 hp w){b:Nat}{x:qm}(hh:hp[b]?=I .hole):av P C ω w0 C0 (hp.set b x) w:=by
 have hβ:=Fs m hh
 refine { m with lt:=fun k r hk=>by rw[I6];exact m.lt k r hk,box:=fun k y r hy hk=>?_ }
 by_cases jY:k=b
 ·subst jY;rw[hβ]at hk;cases hk
 ·rw[Hb (Ne.symm jY)]at hy
  exact m.box k y r hy hk
theorem jao (m:av P C ω w0 C0 hp w)(e:ai C ω w w0.heap.size env tmps){v:qa}{ow:Bool}{u:Value}{h0 r:Nat}{res:qq}{K':Nat→Nat→Option Value}(hx:Ext w w')(hle:∀r o x,C.K r o=I x→K' r o=I x)(hK:∀r o,r<w.heap.size→K' r o=C.K r o)(hk:∀r o x,K' r o=I x→w'.cell? ⟨r,o,E7⟩=I x)(h1:∀r o x,K' r o=I x→x.oneCell'=E5)
  (hr:bC (.bL K') v u) (ho:ow=E5→∃ℓ ω',aC (.bL K') ω' w' w.heap.size ℓ v u) (ht:pH h0 hp r v ow=I res):kj P C0 w0 C tmps d env res u w':=by
 unfold pH at ht
 split at ht
 ·rename_i sz _
  split at ht
  ·rename_i h' hn
   have hv:=zx ht
   obtain⟨hh,rfl⟩:=lu hn
   subst hv
   have cz:C.le { C with K:=K' }:=⟨hle,fun _ _ h=>h,rfl,fun _ h=>h,fun _ h=>h⟩
   refine⟨{ C with K:=K' },ω,cz,(m.bL hx hle hK hk h1).FU hh,e.bL hx hle hK,qp.shift (C:=.bL K') (C':={ C with K:=K' }) 0 (fun _ _ _ h=>h) (fun b r aY=>by omega) hr (by rfl),fun h=>by simp at h⟩
  ·cases ht
 ·rename_i sz xs
  cases hb:(xs.flatMap qa.flat).all nj with
  |false=>rw[hb]at ht;cases ht
  |true=>
   rw[hb]at ht
   simp only[cT]at ht
   split at ht
   ·rename_i h' hn
    have hv:=zx ht
    obtain⟨hh,rfl⟩:=lu hn
    subst hv
    obtain⟨ℓ,ω',ho⟩:=ho rfl
    cases hr with
    |iR sz a lS=>
     simp only[aC]at ho
     exact absurd ho.2.2.2.1 lS
    |list sz _ q o cap hl cM=>
     simp only[aC]at ho
     obtain⟨o1,o2,o3,_,o5,⟨cells,elem,o6,o7,_⟩,o8⟩:=ho
     subst o5
     have hq:w.heap.size≤q:=o2.resolve_right (fun h=>h)
     let K2:Nat→Nat→Option Value:=fun r o=>if r=q then E7 else K' r o
     have FV:∀ {r o x},K2 r o=I x→K' r o=I x:=by
      intro r o x h
      simp only[K2]at h
      split at h
      ·cases h
      ·exact h
     have iW:∀r o x,C.K r o=I x→K2 r o=I x:=by
      intro r o x h
      have aY:r<w.heap.size:=by
       have:=m.know r o x h
       unfold World.cell? at this
       split at this
       ·rename_i c _ _ hc;exact(Eo.1 hc).1
       ·cases this
      have br:r≠q:=by omega
      simp only[K2,if_neg br]
      exact hle r o x h
     have Tc:∀r o,r<w.heap.size→K2 r o=C.K r o:=by
      intro r o aY
      have br:r≠q:=by omega
      simp only[K2,if_neg br]
      exact hK r o aY
     have hcells:=aX.cells cM
     have hlen:(xs.flatMap qa.flat).length≤cells.size:=by
      rcases Nat.eq_zero_or_pos (xs.flatMap qa.flat).length with h0|h0
      ·omega
      ·obtain⟨y,hy⟩:∃y,(xs.flatMap qa.flat)[(xs.flatMap qa.flat).length-1]?=I y:=⟨_,Ip (by omega)⟩
       obtain⟨v,hv,_⟩:=bZ.get hcells hy
       have h3:=hk _ _ _ hv
       unfold World.cell? at h3
       rw[o6]at h3
       simp only[Gl,E6,if_false]at h3
       have:=(Eo.1 h3).1
       omega
     obtain⟨m2,e2,l2⟩:=m.Ad e (b:=h0+r) (q:=q) (K':=K2) (cells:=cells) (t:=elem) (cs:=cellsOf (xs.flatMap qa.flat)) hx iW Tc (fun r o x h=>hk r o x (FV h)) (fun r o x h=>h1 r o x (FV h)) hq (fun o=>by simp[K2]) hh o6 (by rw[show(cellsOf (xs.flatMap qa.flat)).length=(xs.flatMap qa.flat).length by simp[cellsOf]];exact hlen) (by
      intro j c hc
      simp only[cellsOf,Ha,Ev]at hc
      obtain⟨y,hy,rfl⟩:=hc
      obtain⟨v,hv,oU⟩:=bZ.get hcells hy
      have h3:=hk _ _ _ hv
      unfold World.cell? at h3
      rw[o6]at h3
      simp only[Gl,E6,if_false,Hv]at h3
      exact⟨v,h3,h1 _ _ _ hv,FT (Gn.1 hb y (Gc hy)) oU,rfl⟩)
     exact⟨_,ω,l2,m2,e2,.ms _ 0 _ q cap (by simp[ax.box]) hl,fun h=>by simp at h⟩
   ·cases ht
 ·cases ht
theorem q80 (m:av P C ω w0 C0 hp w){x x':qa}{v:Value}(hf:RY hp x=I x')(h:bC C x v)(hb:Abs.below 0 x'=E5):bC (.bL (kq C hp w)) x' v:=by
 unfold RY at hf
 split at hf
 ·rename_i b len
  split at hf
  ·rename_i cs hcs
   cases hc:(Ga (len*(cs.length / len)) cs.length&&Gx 0 (cs.length / len)&&cs.all (fun c=>nj c.1))with
   |false=>
    rw[hc,cond_false]at hf
    cases hl:Ga len 0 with
    |false=>rw[hl]at hf;cases hf
    |true=>
     rw[hl]at hf
     have hl:=El hl
     subst hl
     simp only[cT,I.injEq]at hf
     subst hf
     obtain⟨r,cap,hM,hle,rfl⟩:=h.ey
     exact qp.list (C:=.bL (kq C hp w)) 8 [] r 0 cap (Nat.zero_le _) (.fi _ _ _)
   |true=>
    rw[hc]at hf
    simp only[cT,I.injEq]at hf
    subst hf
    simp only[Eh]at hc
    obtain⟨⟨c1,c2⟩,c3⟩:=hc
    have c1:=El c1
    have c2:0<cs.length / len:=by simpa using c2
    obtain⟨r,cap,hM,hle,rfl⟩:=h.ey
    obtain⟨vs,elem,k1,k2,k3⟩:=m.box b _ r (vH hcs) hM
    have cM:aX (.bL (kq C hp w)) r (cs.length / len) (lR (cs.length / len) len (cs.map (·.1))) 0:=by
     refine S3 c2 (by rw[I7];exact c1.symm) (fun x hx=>?_) fun j x hx=>?_
     ·obtain⟨c,hc,rfl⟩:=List.mem_map.1 hx
      have:=Gn.1 c3 c hc
      cases hq:c.1<;>rw[hq]at this<;>first|rfl|cases this
     ·rw[Ha,Ev]at hx
      obtain⟨c,hc,rfl⟩:=hx
      obtain⟨u,q1,q2,q3,_⟩:=k3 j c hc
      have dH:w.cell? ⟨r,0+j,E7⟩=I u:=by
       unfold World.cell?
       rw[k1]
       simp only[Gl,E6,if_false,Hv]
       exact q1
      exact⟨u,S0 hM dH q2,FT (Gn.1 c3 c (Gc hc)) q3⟩
    have:=qp.list (C:=.bL (kq C hp w)) (cs.length / len) (lR (cs.length / len) len (cs.map (·.1))) r 0 cap (by rw[FJ];exact hle) cM
    rw[FJ]at this
    exact this
  ·cases hf
 ·cases hf
  exact S1 m h hb
theorem qtw (m:av P C ω w0 C0 hp w):∀ {xs fq:List qa} {vs:List Value},wW hp xs=I fq→aK C xs vs→zw 0 fq=E5→aK (.bL (kq C hp w)) fq vs
 | [],fq,vs,hf,h,_=>by
  simp only[wW,I.injEq]at hf
  subst hf
  cases h
  exact .nil
 |x::xs,fq,vs,hf,h,hb=>by
  simp only[wW]at hf
  split at hf
  ·rename_i y ys h1 h2
   cases hf
   cases h with
   |cons _ _ v vs hx h=>
    simp only[zw,Eh]at hb
    exact .cons _ _ _ _ (q80 m h1 hx hb.1) (qtw m h2 h hb.2)
  ·cases hf
theorem qw9 {C C':ax}{x:qa}{v:Value}(hp:wX x=E5)(h:bC C x v):bC C' x v:=by
 cases x with
 |agg cs=>
  obtain⟨vs,rfl,hl⟩:=h.dZ
  refine .agg _ _ ?_
  simp only[wX]at hp
  clear h
  induction cs generalizing vs with
  |nil=>cases hl;exact .nil
  |cons c cs ih=>
   cases hl with
   |cons _ _ v vs hx hl=>
    simp only[Od,Eh]at hp
    exact .cons _ _ _ _ (FT hp.1 hx) (ih hp.2 vs hl)
 |_=>exact FT hp h
theorem jc3 {C C':ax}{x:qa}{v:Value}(h:bC C x v):bC C' (Dh x) v:=by
 unfold Dh
 cases hp:wX x with
 |true=>exact qw9 hp h
 |false=>exact .any _
theorem qzx {C C':ax}:∀ {xs:List qa} {vs:List Value},aK C xs vs→aK C' (xs.map Dh) vs
 | [],_,h=>by cases h;exact .nil
 |x::xs,_,h=>by
  cases h with
  |cons _ _ v vs hx h=>exact .cons _ _ _ _ (jc3 hx) (qzx h)
open Classical in
theorem jd8 (m:av P C ω w0 C0 hp w)(e:ai C ω w w0.heap.size env tmps){v v':qa}{ow FW:Bool}{u:Value}{K':Nat→Nat→Option Value}(hx:Ext w w')(hle:∀r o x,kq C hp w r o=I x→K' r o=I x)(hK:∀r o,r<w.heap.size→K' r o=kq C hp w r o)(hk:∀r o x,K' r o=I x→w'.cell? ⟨r,o,E7⟩=I x)(h1:∀r o x,K' r o=I x→x.oneCell'=E5)
  (hr:bC (.bL K') v u) (ho:ow=E5→∃ℓ ω',aC (.bL K') ω' w' w.heap.size ℓ v u) (ht:L8 v ow=I (v',FW)):kj P C0 w0 C tmps d env ⟨v',FW,E7,hp⟩ u w':=by
 let K2:Nat→Nat→Option Value:=fun r o=>if Hid C hp r then E7 else K' r o
 have FV:∀ {r o x},K2 r o=I x→K' r o=I x:=by
  intro r o x h
  simp only[K2]at h
  split at h
  ·cases h
  ·exact h
 have iW:∀r o x,C.K r o=I x→K2 r o=I x:=by
  intro r o x h
  have hn:¬Hid C hp r:=by
   intro hh
   rw[SZ m hh o]at h;cases h
  simp only[K2,if_neg hn]
  exact hle r o x (FI m h)
 have Tc:∀r o,r<w.heap.size→K2 r o=C.K r o:=by
  intro r o aY
  by_cases hb:Hid C hp r
  ·simp only[K2,if_pos hb]
   exact(SZ m hb o).symm
  ·simp only[K2,if_neg hb]
   rw[hK r o aY]
   unfold kq
   rw[if_neg hb]
 have fin:∀(kX:lQ v'=E5) (jE:bC (.bL K2) v' u) (xn:FW=E5→∃ℓ ω',aC (.bL K2) ω' w' w.heap.size ℓ v' u),kj P C0 w0 C tmps d env ⟨v',FW,E7,hp⟩ u w':=fun kX jE xn=>
  q2f m e hx iW Tc (fun r o x h=>hk r o x (FV h)) (fun r o x h=>h1 r o x (FV h)) kX jE xn
 have gD:∀y,nj y=E5→Abs.below 0 y=E5:=fun y hy=>by cases y<;>first|rfl|cases hy
 have qC:∀ys:List qa,ys.all nj=E5→zw 0 ys=E5:=by
  intro ys
  induction ys with
  |nil=>intro _;rfl
  |cons y ys ih=>
   intro h
   simp only[Od,Eh]at h
   simp only[zw,Eh]
   exact⟨gD y h.1,ih h.2⟩
 have nB:∀y,wX y=E5→Abs.below 0 y=E5:=fun y hy=>by
  cases y with
  |agg cs=>simp only[Abs.below];exact qC cs hy
  |_=>exact gD _ hy
 unfold L8 at ht
 split at ht
 ·rename_i sz xs
  cases hb:(xs.flatMap qa.flat).all nj with
  |false=>rw[hb]at ht;cases ht
  |true=>
   rw[hb]at ht
   simp only[cT,I.injEq,Prod.mk.injEq]at ht
   obtain⟨rfl,rfl⟩:=ht
   obtain⟨ℓ,ω',ho⟩:=ho rfl
   cases hr with
   |iR sz a lS=>
    simp only[aC]at ho
    exact absurd ho.2.2.2.1 lS
   |list sz _ q o cap hl cM=>
    simp only[aC]at ho
    obtain⟨o1,o2,o3,o4,o5,o6,o8⟩:=ho
    have hq:w.heap.size≤q:=o2.resolve_right (fun h=>h)
    have Dz:¬Hid C hp q:=by
     intro hh
     have:=jn6 m hh
     omega
    have hKq:∀o,K2 q o=K' q o:=fun o=>by simp only[K2,if_neg Dz]
    have hcells:=aX.cells cM
    have pQ:aX (.bL K2) q sz xs o:=by
     refine aX.et (S2 fun j x hx=>?_) (aX.sized cM)
     obtain⟨u,hu,hxu⟩:=bZ.get hcells hx
     exact⟨u,by rw[show(ax.bL K2).K=K2 from rfl,hKq];exact hu,FT (Gn.1 hb x (Gc hx)) hxu⟩
    refine fin ?_ (.list sz _ q o cap hl pQ) fun _=>⟨ℓ,ω',?_⟩
    ·show lQ _=E5
     unfold lQ
     have iU:∀ys:List qa,(ys.flatMap qa.flat).all nj=E5→zw 0 ys=E5:=by
      intro ys
      induction ys with
      |nil=>intro _;rfl
      |cons y ys ih=>
       intro h
       rw[Mv,List.all_append,Eh]at h
       simp only[zw,Eh]
       exact⟨by rw[←Mf];exact qC _ h.1,ih h.2⟩
     simp only[Abs.below]
     exact iU xs hb
    ·simp only[aC]
     exact⟨o1,o2,o3,o4,o5,o6,fun o' xn=>by rw[show(ax.bL K2).K=K2 from rfl,hKq];exact o8 o' xn⟩
 ·simp only[I.injEq,Prod.mk.injEq]at ht
  obtain⟨rfl,rfl⟩:=ht
  refine fin rfl ?_ (fun h=>by cases h)
  cases hr
  exact .iQ _
 ·rename_i vs _
  simp only[I.injEq,Prod.mk.injEq]at ht
  obtain⟨rfl,rfl⟩:=ht
  obtain⟨us,rfl,hl⟩:=hr.ny
  refine fin ?_ (.az _ _ (qzx hl)) (fun h=>by cases h)
  show Abs.below 0 _=E5
  simp only[Abs.below]
  have:∀ys:List qa,zw 0 (ys.map Dh)=E5:=by
   intro ys
   induction ys with
   |nil=>rfl
   |cons y ys ih=>
    simp only[Oe,zw,Eh]
    refine⟨?_,ih⟩
    unfold Dh
    cases hp:wX y with
    |true=>exact nB y hp
    |false=>rfl
  exact this _
 ·cases hb:wX v with
  |false=>rw[hb]at ht;cases ht
  |true=>
   rw[hb]at ht
   simp only[cT,I.injEq,Prod.mk.injEq]at ht
   obtain⟨rfl,rfl⟩:=ht
   exact fin (nB v hb) (qw9 hb hr) (fun h=>by cases h)
def ax.shared (C:ax)(ω:Nat→Option Loc)(w0:World):ax:={ C with W:=fun r=>(∃b j,ω r=I (.cell b j))∧(w0.heap.size≤r∨C.W r) }
def qD (ω:Nat→Option Loc):Nat→Option Loc:=fun r=>match ω r with
 |some (.cell b j)=>I (.cell b j)
 |_=>E7
theorem aC.shared {b j:Nat}{x:qa}{v:Value}(ho:aC C ω w w0.heap.size (.cell b j) x v):aC (C.shared ω w0) (qD ω) w w.heap.size (.cell b j) x v:=by
 unfold aC at *
 split at ho
 ·obtain⟨g1,g2,g3⟩:=ho
  exact⟨by simp[qD,g1],.inr ⟨⟨b,j,g1⟩,g2⟩,g3⟩
 ·obtain⟨g1,g2,g3⟩:=ho
  exact⟨by simp[qD,g1],.inr ⟨⟨b,j,g1⟩,g2⟩,g3⟩
 ·trivial
theorem Td (m:av P C ω w0 C0 hp w):av P (C.shared ω w0) (qD ω) w (C.shared ω w0) hp w where
 base:=⟨m.tabs,fun g hg=>by
  obtain⟨h1,h2⟩:=m.base.2 g hg
  have aY:=(m.base.1 g hg).1
  refine⟨fun b hb=>?_,fun h=>?_⟩
  ·rcases m.fresh b g hb with h|h|h
   ·exact h1 b h
   ·omega
   ·exact h2 h
  ·rcases h.2 with h|h
   ·omega
   ·rw[m.grown.w]at h;exact h2 h⟩
 know:=m.know
 cP:=m.cP
 apart:=m.apart
 inj:=m.inj
 lt:=m.lt
 size:=Nat.le_refl _
 frame _ _ _ _:=rfl
 eQ:=m.eQ
 os:=rfl
 output:=rfl
 fresh _ _ h:=.inl h
 grown:=ax.le_refl _
 old _ _ _ _:=rfl
 box b x r hx hb:=bm.imp (C:=C) (C':=C.shared ω w0) ⟨fun _ _ _ h=>h,fun _ _ h=>h⟩ rfl (fun _ _ _ ho=>ho.shared) (m.box b x r hx hb)
 hH:=m.hH
def mN (ω ω1:Nat→Option Loc)(n:Nat):Nat→Option Loc:=fun r=>match decide (r<n),ω r with
 |true,I (.slot s)=>I (.slot s)
 |_,_=>qD ω1 r
def ax.back (C1 C:ax):ax:={ C1 with W:=C.W }
theorem MF (hle:(C.shared ω w0).le C1):C.le (C1.back C):=⟨hle.k,hle.b,rfl,hle.d,hle.t⟩
theorem aC.qE {s:Nat}{x:qa}{v:Value}(m1:av P C1 ω1 w (C.shared ω w0) h1 w')(ho:aC C ω w w0.heap.size (.slot s) x v):aC (C1.back C) (mN ω ω1 w.heap.size) w' w0.heap.size (.slot s) x v:=by
 unfold aC at *
 split at ho
 ·rename_i ad len cap
  obtain⟨g1,g2,g3,g4,g8,⟨cells,elem,g5,g6⟩,g7⟩:=ho
  have aY:=(Eo.1 g5).1
  have Ae:¬(C.shared ω w0).W ad.block:=fun h=>by
   obtain⟨⟨b,j,h⟩,_⟩:=h
   rw[g1]at h;cases h
  refine⟨by simp[mN,aY,g1],g2,fun b hb=>?_,g4,g8,⟨cells,elem,?_,g6⟩,fun o ho=>?_⟩
  ·rcases m1.fresh b _ hb with h|h|h
   ·exact g3 b h
   ·omega
   ·exact Ae h
  ·rw[m1.frame _ aY g3 Ae];exact g5
  ·have:=m1.old _ o aY Ae
   show C1.K _ o=E7
   rw[this];exact g7 o ho
 ·rename_i ad
  obtain⟨g1,g2,g3,g4,g8,⟨cells,elem,g5,g6⟩,g7⟩:=ho
  have aY:=(Eo.1 g5).1
  have Ae:¬(C.shared ω w0).W ad.block:=fun h=>by
   obtain⟨⟨b,j,h⟩,_⟩:=h
   rw[g1]at h;cases h
  refine⟨by simp[mN,aY,g1],g2,fun b hb=>?_,g4,g8,⟨cells,elem,?_,g6⟩,fun o ho=>?_⟩
  ·rcases m1.fresh b _ hb with h|h|h
   ·exact g3 b h
   ·omega
   ·exact Ae h
  ·rw[m1.frame _ aY g3 Ae];exact g5
  ·have:=m1.old _ o aY Ae
   show C1.K _ o=E7
   rw[this];exact g7 o ho
 ·trivial
theorem aC.qF {b j:Nat}{x:qa}{v:Value}(m:av P C ω w0 C0 hp w)(hW:C1.W=(C.shared ω w0).W)(ho:aC C1 ω1 w' w.heap.size (.cell b j) x v):aC (C1.back C) (mN ω ω1 w.heap.size) w' w0.heap.size (.cell b j) x v:=by
 unfold aC at *
 split at ho
 ·rename_i ad len cap
  obtain⟨g1,g2,g3⟩:=ho
  rw[hW]at g2
  refine⟨?_,?_,g3⟩
  ·unfold mN
   split
   ·rename_i s aY hs
    have aY:=of_decide_eq_true aY
    rcases g2 with g2|⟨⟨b',j',g2⟩,_⟩
    ·omega
    ·rw[hs]at g2;cases g2
   ·simp[qD,g1]
  ·rcases g2 with g2|⟨_,g2⟩
   ·exact .inl (Gb m.size g2)
   ·exact g2
 ·rename_i ad
  obtain⟨g1,g2,g3⟩:=ho
  rw[hW]at g2
  refine⟨?_,?_,g3⟩
  ·unfold mN
   split
   ·rename_i s aY hs
    have aY:=of_decide_eq_true aY
    rcases g2 with g2|⟨⟨b',j',g2⟩,_⟩
    ·omega
    ·rw[hs]at g2;cases g2
   ·simp[qD,g1]
  ·rcases g2 with g2|⟨_,g2⟩
   ·exact .inl (Gb m.size g2)
   ·exact g2
 ·trivial
theorem qt0 (m:av P C ω w0 C0 hp w)(e:ai C ω w w0.heap.size env tmps)(m1:av P C1 ω1 w (C.shared ω w0) h1 w')(hle:(C.shared ω w0).le C1):
  av P (C1.back C) (mN ω ω1 w.heap.size) w0 C0 h1 w'∧ai (C1.back C) (mN ω ω1 w.heap.size) w' w0.heap.size env tmps:=by
 have hsh:∀r,r<w0.heap.size→¬C0.W r→¬(C.shared ω w0).W r:=fun r hr hw h=>by
  rcases h.2 with h|h
  ·omega
  ·rw[m.grown.w]at h;exact hw h
 constructor
 ·refine { base:=m.base,know:=m1.know,cP:=m1.cP,apart:=m1.apart,inj:=m1.inj,lt:=m1.lt,size:=Gb m.size m1.size,frame:=?_,eQ:=m1.eQ,os:=m1.os.trans m.os,output:=m1.output.trans m.output,fresh:=?_,grown:=ax.le_trans m.grown (MF hle),old:=?_,box:=?_,hH:=m1.hH }
  ·intro r hr hn hw
   have iK:∀b,C.β b≠I r:=fun b hb=>by
    rcases m.fresh b r hb with h|h|h
    ·exact hn b h
    ·omega
    ·exact hw h
   rw[m1.frame r (Gm hr m.size) iK (hsh r hr hw)]
   exact m.frame r hr hn hw
  ·intro b r hb
   rcases m1.fresh b r hb with h|h|h
   ·exact m.fresh b r h
   ·exact .inr (.inl (Gb m.size h))
   ·exact .inr (h.2.imp id (fun h=>by rw[←m.grown.w];exact h))
  ·intro r o hr hw
   show C1.K r o=_
   rw[m1.old r o (Gm hr m.size) (hsh r hr hw)]
   exact m.old r o hr hw
  ·intro b x r hx hb
   exact bm.imp (C:=C1) (C':=C1.back C) ⟨fun _ _ _ h=>h,fun _ _ h=>h⟩ rfl (fun _ _ _ ho=>ho.qF m hle.w) (m1.box b x r hx hb)
 ·exact fun s x hs=>let ⟨v,k1,k2,k3⟩:=e s x hs; ⟨v,k1,qp.mono (MF hle) k2,fun h=>(k3 h).qE m1⟩
theorem bC.back {x:qa}{v:Value}(h:bC C1 x v):bC (C1.back C) x v:=qp.imp (C:=C1) (C':=C1.back C) ⟨fun _ _ _ h=>h,fun _ _ h=>h⟩ h
theorem qtt (m:av P C ω w0 C0 hp w)(e:ai C ω w w0.heap.size env tmps)(m1:av P C1 ω1 w (C.shared ω w0) h1 w')(hle:(C.shared ω w0).le C1){v:qa}{ow:Bool}{u:Value}(hr:bC C1 v u)(ho:ow=E5→aC C1 ω1 w' w.heap.size (.slot 0) v u):
  kj P C0 w0 C tmps d env ⟨v,ow,E7,yx hp.length v h1⟩ u w':=by
 have hC:∀b r,C.β b=I r→b<hp.length:=fun b r h=>(m.lt b r h).2
 have cz:=MF hle
 have jE:bC (C1.back C) v u:=hr.back
 -- the result's ownership first
 have step:∃ω',av P (C1.back C) ω' w0 C0 h1 w'∧ai (C1.back C) ω' w' w0.heap.size env tmps∧(ow=E5→aC (C1.back C) ω' w' w0.heap.size d v u):=by
  obtain⟨m2,e2⟩:=qt0 m e m1 hle
  cases ow with
  |false=>exact⟨_,m2,e2,by simp⟩
  |true=>
   by_cases hk:∃(n:Bool) (sz:Nat) (xs:List qa) (ad:Addr) (len cap:Nat),v=.list n sz xs∧u=.slice (I ad) len cap
   ·obtain⟨n,sz,xs,ad,len,cap,rfl,rfl⟩:=hk
    obtain⟨g1,g2,g3,g4⟩:=ho rfl
    rw[hle.w]at g2
    have il:mN ω ω1 w.heap.size ad.block=E7:=by
     unfold mN
     split
     ·rename_i s aY hs
      have aY:=of_decide_eq_true aY
      rcases g2 with g2|⟨⟨b',j',g2⟩,_⟩
      ·omega
      ·rw[hs]at g2;cases g2
     ·simp[qD,g1]
    refine⟨ct (mN ω ω1 w.heap.size) ad.block d,m2.ct _ _ (by simp[il]),?_,fun _=>?_⟩
    ·exact fun s x hs=>let ⟨v,k1,k2,k3⟩:=e2 s x hs; ⟨v,k1,k2,fun h=>(k3 h).other (.inl (by simp[il]))⟩
    ·refine⟨by simp[ct],?_,g3,g4⟩
     rcases g2 with g2|⟨_,g2⟩
     ·exact .inl (Gb m.size g2)
     ·exact g2
   by_cases cV:∃(n:Nat) (ad:Addr),v=.cE n∧u=.pointer (I ad)
   ·obtain⟨n,ad,rfl,rfl⟩:=cV
    obtain⟨g1,g2,g3,g4⟩:=ho rfl
    rw[hle.w]at g2
    have il:mN ω ω1 w.heap.size ad.block=E7:=by
     unfold mN
     split
     ·rename_i s aY hs
      have aY:=of_decide_eq_true aY
      rcases g2 with g2|⟨⟨b',j',g2⟩,_⟩
      ·omega
      ·rw[hs]at g2;cases g2
     ·simp[qD,g1]
    refine⟨ct (mN ω ω1 w.heap.size) ad.block d,m2.ct _ _ (by simp[il]),?_,fun _=>?_⟩
    ·exact fun s x hs=>let ⟨v,k1,k2,k3⟩:=e2 s x hs; ⟨v,k1,k2,fun h=>(k3 h).other (.inl (by simp[il]))⟩
    ·refine⟨by simp[ct],?_,g3,g4⟩
     rcases g2 with g2|⟨_,g2⟩
     ·exact .inl (Gb m.size g2)
     ·exact g2
   ·refine⟨_,m2,e2,fun h=>?_⟩
    unfold aC
    split
    ·exact absurd ⟨_,_,_,_,_,_,rfl,rfl⟩ hk
    ·exact absurd ⟨_,_,rfl,rfl⟩ cV
    ·trivial
 obtain⟨ω',m2,e2,o2⟩:=step
 unfold yx
 cases hb:Gi h1.length hp.length with
 |true=>simp only[cT];exact⟨_,ω',cz,m2,e2,jE,o2⟩
 |false=>
  simp only[cond_false]
  cases ly:(below hp.length v&&ko hp.length (h1.take hp.length))with
  |false=>simp only[cond_false];exact⟨_,ω',cz,m2,e2,jE,o2⟩
  |true=>
   simp only[cT]
   simp only[Eh]at ly
   have aY:hp.length≤h1.length:=by
    rcases Nat.lt_or_ge hp.length h1.length with h|h
    ·omega
    ·rw[Nat.ble_eq_true_of_le h]at hb;cases hb
   have h0:∀b r,C0.β b=I r→b<hp.length:=fun b r h=>hC b r (m.grown.2 b r h)
   have m3:=m2.gc aY ly.2 h0
   refine⟨(C1.back C).cut hp.length,ω',ax.ik cz hC,m3,?_,bC.cut jE ly.1,fun h=>(o2 h).cut _⟩
   intro s x hs
   obtain⟨y,k1,k2,k3⟩:=e s x hs
   obtain⟨y',j1,j2,j3⟩:=e2 s x hs
   rw[k1]at j1
   cases j1
   exact⟨y,k1,qp.mono (ax.ik cz hC) k2,fun h=>(j3 h).cut _⟩
theorem aW.eW {e:Env}(h:aW C e tmps):ai C ω w B (eW e) tmps:=by
 intro s x hx
 have key:∀ {e:Env} {x:qa×Bool},ye s (Abs.eW e)=I x→∃o,ye s e=I (x.1,o)∧x.2=Gh:=by
  intro e
  induction e with
  |nil=>intro x h;simp[Abs.eW,ye]at h
  |cons y e ih=>
   intro x h
   obtain⟨t,v,o⟩:=y
   simp only[Abs.eW,Oe,ye]at h ⊢
   cases hb:Ga t s with
   |true=>simp only[hb,cT,I.injEq]at h ⊢;subst h;exact⟨o,rfl,rfl⟩
   |false=>simp only[hb,cond_false]at h ⊢;exact ih h
 obtain⟨o,h1,h2⟩:=key hx
 obtain⟨v,h3,h4⟩:=h s _ h1
 exact⟨v,h3,h4,by simp[h2]⟩
theorem qtz:∀ {ts:List Nat} {vs:List qa} {us:List Value} {e e':Env} {tmps:Array Value},vB e ts vs=I e'→aK C vs us→(∀t∈ts,t<tmps.size)→ai C ω w B e tmps →
  ts.length=us.length∧((ts.zip us).foldl (fun(tmps:Array Value) (x:Nat×Value)=>tmps.setIfInBounds x.1 x.2) tmps).size=tmps.size∧ai C ω w B e' ((ts.zip us).foldl (fun(tmps:Array Value) (x:Nat×Value)=>tmps.setIfInBounds x.1 x.2) tmps)
 | [],[],us,e,e',tmps,h,hr,_,he=>by
  simp only[vB,I.injEq]at h
  subst h
  cases hr
  exact⟨rfl,rfl,he⟩
 |t::ts,v::vs,us,e,e',tmps,h,hr,hf,he=>by
  simp only[vB]at h
  cases hr with
  |cons _ _ u us hu hr=>
   have MG:ai C ω w B ((t,v,Gh)::e) (tmps.setIfInBounds t u):=by
    intro s x hx
    simp only[ye]at hx
    cases hb:Ga t s with
    |true=>
     have:=El hb
     subst this
     simp only[hb,cT,I.injEq]at hx
     subst hx
     exact⟨u,by simp[hf t (by simp)],hu,by simp⟩
    |false=>
     simp only[hb,cond_false]at hx
     obtain⟨y,h1,h2,h3⟩:=he s x hx
     refine⟨y,?_,h2,h3⟩
     rw[Array.getElem?_setIfInBounds_ne (fun hh=>by subst hh;simp at hb)]
     exact h1
   have ih:=qtz h hr (tmps:=tmps.setIfInBounds t u) (fun t' Fh=>by simpa using hf t' (by simp[Fh])) MG
   refine⟨by simp[ih.1],?_,?_⟩
   ·simp only[Ml,M2];rw[ih.2.1];simp
   ·simp only[Ml,M2];exact ih.2.2
 | [],_::_,_,_,_,_,h,_,_,_=>by simp[vB]at h
 |_::_,[],_,_,_,_,h,_,_,_=>by simp[vB]at h
theorem MH {b r:Nat}{l:jq}(m:av P C ω w0 C0 hp w)(hb:y7 hp b=I (.loop l))(hr:C.β b=I r):∃lp,w.heap[r]?=I (.loop lp)∧q9 P C l lp:=
 m.box b _ r hb hr
theorem FX {b r:Nat}{l':jq}{lp Af:Loop}(m:av P C ω w0 C0 hp w)(hr:C.β b=I r)(hg:w.heap[r]?=I (.loop lp))(hl:q9 P C l' Af):
  (setObj r (.loop Af)).run P w=.ok () (jJ w r (.loop Af))∧jl w (jJ w r (.loop Af)) r∧av P C ω w0 C0 (hp.set b (.loop l')) (jJ w r (.loop Af)):=by
 have aY:=(Eo.1 hg).1
 have hu:jl w (jJ w r (.loop Af)) r:=Dv aY (by simp)
 exact⟨xk hg (by simp),hu,m.dw hu hr _ (fun _ _ _ _ _ h=>h) ⟨Af,Fz aY,hl⟩⟩
theorem jh4 (hx:cg P xc)(m:av P C ω w0 C0 hp w)(e:ai C ω w w0.heap.size env tmps){b r:Nat}(hr:C.β b=I r){args:List qa}{us:List Value}(ha:aK C args us){v:qa}{h':j8}(hy:jS xc b args hp=I (v,h')):
  ∃f nC assign body,(Instr.yield r ⟨us⟩).run P w=.ok (.round r f nC assign body) w∧RoundIn Fence.wide 0 P r f nC assign body w fun ee w'=>∃u,ee=.returned u∧kj P C0 w0 C tmps d env ⟨v,Gh,E7,h'⟩ u w':=by
 unfold jS at hy
 split at hy
 ·rename_i l hl
  split at hy
  ·rename_i e0 hpend bh
   obtain⟨lp,hg,lr⟩:=MH m hl hr
   have ms:=Td m
   have fT:aK (C.shared ω w0) args us:=qp.imp (C:=C) (C':=C.shared ω w0) ⟨fun _ _ _ h=>h,fun _ _ h=>h⟩ ha
   have hel:ai (C.shared ω w0) (qD ω) w w.heap.size (eW l.env) lp.tmps:=aW.eW (fun s x hs=>let ⟨v,h1,h2⟩:=lr.env s x hs; ⟨v,h1,qp.imp (C:=C) (C':=C.shared ω w0) ⟨fun _ _ _ h=>h,fun _ _ h=>h⟩ h2⟩)
   obtain⟨hlen,cD,he0⟩:=qtz bh fT lr.fits hel
   have pL:(lp.params.zip (⟨us⟩:Array Value)).foldl (fun(tmps:Array Value) (x:Nat×Value)=>tmps.setIfInBounds x.1 x.2) lp.tmps=(l.params.zip us).foldl (fun(tmps:Array Value) (x:Nat×Value)=>tmps.setIfInBounds x.1 x.2) lp.tmps:=by
    rw[←Array.foldl_toList,Array.toList_zip,lr.params]
   have Te:lp.params.size=us.length:=by rw[←Array.length_toList,lr.params];exact hlen
   refine⟨lp.fn,(l.params.zip us).foldl (fun(tmps:Array Value) (x:Nat×Value)=>tmps.setIfInBounds x.1 x.2) lp.tmps,lp.assign,lp.body,?_,?_⟩
   ·have Ag:(Instr.getLoop r).run P w=.ok lp w:=by simp[Instr.getLoop,oT hg (by simp)]
    have br:¬((⟨us⟩:Array Value).size≠lp.params.size):=by simp[Te]
    simp only[Instr.yield,Sem.run_bind,Ag,Result.andThen_ok,br,if_false,Sem.run_pure,Sem.run_ite]
    rw[show((lp.params.zip (⟨us⟩:Array Value)).foldl (fun tmps (x:Nat×Value)=>match x with|(t,a)=>tmps.setIfInBounds t a) lp.tmps)=_ from pL]
   ·refine roundIn_of_wpIn trivial ?_
    split at hy
    ·rename_i st bO
     split at hy
     ·rename_i l1 gO
      cases jH:l1.pending.isNone with
      |false=>simp[jH]at hy
      |true=>
       simp only[jH,cT]at hy
       have FY:l1.pending=E7:=by simpa using jH
       split at hy
       ·rename_i x bK gT
        split at hy
        ·rename_i l2 n6
         cases hy
         refine wpIn_mono (hx (I r) lp.tmps.size lp.assign l.assign _ _ _ lr.assign (fun _=>lr.nr.1) bO (C.shared ω w0) (qD ω) w (C.shared ω w0) { tmps:=_,defers:=[] } w ms he0 cD Marks.nil) ?_
         rintro ee a1 w1 ⟨rfl,q1,C1,ω1,q2,q3,q4,q5⟩
         have vJ:=q2.b b r hr
         obtain⟨MI,hg1,Tf⟩:=MH q4 gO vJ
         have xp:MI.state=.ready:=by rw[Tf.state,FY]
         have Tg:q9 P C1 { l1 with pending:=I .normal } { MI with state:=.busy }:={ Tf with state:=rfl,pending:=by rw[Tf.pending,FY] }
         obtain⟨FZ,Fv,m1⟩:=FX q4 vJ hg1 Tg
         have hM:(Instr.beginRound r).run P w1=.ok () (jJ w1 r (.loop { MI with state:=.busy })):=by
          have Ag:(Instr.getLoop r).run P w1=.ok MI w1:=by simp[Instr.getLoop,oT hg1 (by simp)]
          simp only[Instr.beginRound,Sem.run_bind,Ag,Result.andThen_ok,FZ,xp,Sem.run_pure]
         refine⟨_,hM,?_⟩
         refine wpIn_mono (hx (I r) lp.tmps.size lp.body l.body _ _ _ lr.body (fun _=>lr.nr.2) gT C1 ω1 w (C.shared ω w0) a1 _ m1 (q5.df Fv vJ) q1 q3) ?_
         rintro ee a2 w2 ⟨rfl,p1,C2,ω2,p2,p3,p4,p5⟩
         have qG:=p2.b b r vJ
         obtain⟨lA,qH,uC⟩:=MH p4 n6 qG
         have Ah:(Instr.getLoop r).run P w2=.ok lA w2:=by simp[Instr.getLoop,oT qH (by simp)]
         have fin:∀(Ti:LoopState) (pd:Option Code) (ap:Option qo) (bb:Bool),q9 P C2 { l2 with pending:=ap } { lA with state:=Ti,pending:=pd } →
           kj P C0 w0 C tmps d env ⟨.bool bb,Gh,E7,yx hp.length (.bool E5) (bK.heap.set b (.loop { l2 with pending:=ap }))⟩ (.bool bb) (jJ w2 r (.loop { lA with state:=Ti,pending:=pd })):=by
          intro Ti pd ap bb uD
          obtain⟨jK,hu2,m2⟩:=FX p4 qG qH uD
          have:=qtt (d:=d) (v:=.bool bb) (ow:=false) (u:=.bool bb) m e m2 (ax.le_trans q2 p2) (.bool bb) (by simp)
          exact this
         cases x with
         |normal=>
          have uD:q9 P C2 { l2 with pending:=E7 } { lA with state:=.ready,pending:=E7 }:={ uC with state:=rfl,pending:=rfl }
          obtain⟨jK,_,_⟩:=FX p4 qG qH uD
          exact⟨.bool E5,_,by simp only[Instr.endRound,Sem.run_bind,Ah,Result.andThen_ok,Option.isNone_none,if_true,jK,Sem.run_pure],_,rfl,fin _ _ _ E5 uD⟩
         |ret=>
          have uD:q9 P C2 { l2 with pending:=I .ret } { lA with state:=.done,pending:=I .ret }:={ uC with state:=rfl,pending:=rfl }
          obtain⟨jK,_,_⟩:=FX p4 qG qH uD
          exact⟨.bool Gh,_,by simp only[Instr.endRound,Sem.run_bind,Ah,Result.andThen_ok,Mu,E6,if_false,jK,Sem.run_pure],_,rfl,fin _ _ _ Gh uD⟩
         |exit id=>
          have uD:q9 P C2 { l2 with pending:=I (.exit id) } { lA with state:=.done,pending:=I (.exit id) }:={ uC with state:=rfl,pending:=rfl }
          obtain⟨jK,_,_⟩:=FX p4 qG qH uD
          exact⟨.bool Gh,_,by simp only[Instr.endRound,Sem.run_bind,Ah,Result.andThen_ok,Mu,E6,if_false,jK,Sem.run_pure],_,rfl,fin _ _ _ Gh uD⟩
        ·cases hy
       ·cases hy
     ·cases hy
    ·cases hy
  ·cases hy
 ·cases hy
theorem jh2 {h:qb}{md:jc}{r h0:Nat}{dst:Option Nat}{al:Option (List Nat)}{cr:qw}{res:qq}(dV:qx P p)(hx:cg P xc)(m:av P C ω w0 C0 hp w)(e:ai C ω w w0.heap.size env a.tmps){c:Call}(ho:o.op=.call c){f:Operand}(n8:c.callee=.value f)
  (hc:zC P h md r dst c=I cr) (hs:za p xc h0 al env hp cr=I res):dY P C C0 w0 a d env o w res:=by
 unfold zC at hc
 rw[n8]at hc
 simp only[]at hc
 split at hc
 ·rename_i f' args' h1 h2
  cases hc
  generalize md.at r=md at hs
  simp only[za,iH]at hs
  split at hs
  ·rename_i k first captured vs e1 e2
   have xq:=zt e.bU h1 e1
   have Tj:=Dr e.bU h2 e2
   generalize gC:a.eval f=fv at xq
   cases xq with
   |fn g g' _ _ as bs hf ha hb=>
    simp only[eY]at hf
    subst hf
    have hall:aK C (first++vs++captured) (as++c.args.toList.map a.eval++bs):=aK.append (aK.append ha Tj) hb
    have iq:Enters P k→(execOp a.eval o).run P w=.ok (.enter k ⟨as++c.args.toList.map a.eval++bs⟩) w:=by
     intro lz
     have dS:(⟨as⟩:Array Value)++Array.map a.eval c.args++(⟨bs⟩:Array Value)=⟨as++c.args.toList.map a.eval++bs⟩:=by
      apply I9;simp
     simp[execOp,ho,resolve,n8,gC,Deferred.ofValue,invoke,dS,qqx lz]
    cases md with
    |fe rk=>
     simp only[]at hs
     cases uq:(first++vs++captured).isEmpty with
     |false=>
      rw[uq]at hs
      simp only[cond_false]at hs
      cases kT:zw 0 (first++vs++captured)with
      |false=>rw[kT]at hs;cases hs
      |true=>
       rw[kT]at hs
       simp only[cT]at hs
       split at hs
       ·rename_i v ow qI
        obtain⟨lz,kX,qJ⟩:=MC dV hx qI kT
        have lB:aK (.bL C.K) (first++vs++captured) (as++c.args.toList.map a.eval++bs):=
         qp.shift (C:=C) (C':=.bL C.K) 0 (fun _ _ _ h=>h) (fun b r aY=>by omega) hall kT
        refine .inr (.inr (.inl ⟨k,_,iq lz,CallsIn.mono (qJ C.K w _ m.tabs m.know m.cP lB) ?_⟩))
        rintro ee w' ⟨u,K',rfl,q1,q2,q3,q4,q5,q6,q7⟩
        exact⟨u,rfl,jao m e q1 q2 q3 q4 q5 q6 q7 hs⟩
       ·cases hs
     |true=>
      rw[uq]at hs
      simp only[cT]at hs
      split at hs
      ·rename_i es hm
       split at hs
       ·rename_i h' hn
        obtain rfl:=zx hs
        obtain⟨hh,rfl⟩:=lu hn
        obtain⟨lz,ll⟩:=dV.maps k es hm
        have jV:as++c.args.toList.map a.eval++bs=[]:=by
         have h1:first++vs++captured=[]:=Iu.1 uq
         have h2:=hall.length
         rw[h1]at h2
         exact List.eq_nil_of_length_eq_zero h2
        refine .inr (.inr (.inl ⟨k,_,iq lz,?_⟩))
        rw[jV]
        refine CallsIn.mono (ll C.K w m.tabs m.know m.cP) ?_
        rintro ee w' ⟨q,K',bQ,clock,rfl,q1,q2,q3,q4,q5,q6,q7,q8⟩
        exact⟨_,rfl,jgp m e q1 q2 q3 q4 q5 hh q6 q7 q8⟩
       ·cases hs
      ·cases hs
    |bL=>
     simp only[]at hs
     cases uq:zw 0 (first++vs++captured)with
     |false=>rw[uq]at hs;cases hs
     |true=>
      rw[uq]at hs
      simp only[cT]at hs
      split at hs
      ·rename_i v ow qI
       cases hs
       obtain⟨lz,kX,qJ⟩:=MC dV hx qI uq
       have lB:aK (.bL C.K) (first++vs++captured) (as++c.args.toList.map a.eval++bs):=
        qp.shift (C:=C) (C':=.bL C.K) 0 (fun _ _ _ h=>h) (fun b r aY=>by omega) hall uq
       refine .inr (.inr (.inl ⟨k,_,iq lz,CallsIn.mono (qJ C.K w _ m.tabs m.know m.cP lB) ?_⟩))
       rintro ee w' ⟨u,K',rfl,q1,q2,q3,q4,q5,q6,q7⟩
       exact⟨u,rfl,q2f m e q1 q2 q3 q4 q5 kX q6 q7⟩
      ·cases hs
    |red=>
     simp only[]at hs
     split at hs
     ·rename_i xs Dy
      cases kT:zw 0 xs with
      |false=>rw[kT]at hs;cases hs
      |true=>
       rw[kT]at hs
       simp only[cT]at hs
       split at hs
       ·rename_i v ow qI
        split at hs
        ·rename_i v' FW hrd
         cases hs
         obtain⟨lz,kX,qJ⟩:=MC dV hx qI kT
         refine .inr (.inr (.inl ⟨k,_,iq lz,CallsIn.mono (qJ (kq C hp w) w _ m.tabs (fun r o u h=>(MB m h).1) (fun r o u h=>(MB m h).2) (qtw m Dy hall kT)) ?_⟩))
         rintro ee w' ⟨u,K',rfl,q1,q2,q3,q4,q5,q6,q7⟩
         exact⟨u,rfl,jd8 m e q1 q2 q3 q4 q5 q6 q7 hrd⟩
        ·cases hs
       ·cases hs
     ·cases hs
    |shr=>
     simp only[]at hs
     split at hs
     ·rename_i v ow h' FO
      cases hs
      ·obtain⟨lz,mM⟩:=FN dV hx FO
       have lB:aK (C.shared ω w0) (first++vs++captured) (as++c.args.toList.map a.eval++bs):=qp.imp (C:=C) (C':=C.shared ω w0) ⟨fun _ _ _ h=>h,fun _ _ h=>h⟩ hall
       refine .inr (.inr (.inl ⟨k,_,iq lz,CallsIn.mono (mM _ _ _ _ lB (Td m)) ?_⟩))
       rintro ee w' ⟨u,C',ω',rfl,q1,q2,q3,q4⟩
       exact⟨u,rfl,qtt m e q2 q1 q3 q4⟩
     ·cases hs
  ·rename_i b vs e1 e2
   have xq:=zt e.bU h1 e1
   have Tj:=Dr e.bU h2 e2
   generalize gC:a.eval f=fv at xq
   cases md with
   |bL=>simp at hs
   |fe _=>simp at hs
   |red=>simp at hs
   |shr=>
    simp only[]at hs
    split at hs
    ·rename_i v h' hy
     obtain rfl:=zx hs
     cases xq with
     |fn g g' _ _ as bs hf ha hb=>
      obtain⟨q,oc,rfl⟩:=hf
      cases ha
      cases hb
      obtain⟨ff,nC,assign,body,k1,k2⟩:=jh4 (d:=d) hx m e oc Tj hy
      refine .inr (.inr (.inr ⟨q,ff,nC,assign,body,?_,k2⟩))
      have dS:Array.map a.eval c.args=⟨c.args.toList.map a.eval⟩:=by
       apply I9;simp
      rw[←dS]at k1
      simp[execOp,ho,resolve,n8,gC,Deferred.ofValue,invoke,k1]
    ·cases hs
  ·cases hs
 ·cases hc
theorem jqk {h:qb}{md:jc}{r h0:Nat}{dst:Option Nat}{al:Option (List Nat)}{cr:qw}{res:qq}(dV:qx P p)(hx:cg P xc)(m:av P C ω w0 C0 hp w)(e:ai C ω w w0.heap.size env a.tmps)
  (mL:cr.gM=E7) (hc:cx P h md r dst o.op=I cr) (hs:za p xc h0 al env hp cr=I res):dY P C C0 w0 a d env o w res:=by
 cases ho:o.op<;>rw[ho]at hc
 case move x=>exact jhr m e ho hc hs
 case assign x=>exact q7j m e ho hc hs
 case pick=>exact jex m e ho hc hs
 case alloc=>exact jaa m e ho hc hs
 case box=>exact jkj m e ho hc hs
 case build=>exact jam m e ho hc hs
 case buildSlice=>exact qy2 m e ho hc hs
 case load=>exact jge m e ho hc hs
 case store=>exact jcb m e ho mL hc hs
 case nilCheck=>exact q2l m e ho hc hs
 case binOp=>exact jlm m e ho hc hs
 case unOp=>exact jsj m e ho hc hs
 case convert=>exact jgx m e ho hc hs
 case makeFunc=>exact q1c m e ho hc hs
 case makeMap=>exact q5h m e ho hc hs
 case makeSlice=>exact q0b m e ho hc hs
 case slice=>exact jcu m e ho hc hs
 case fieldAddr=>exact q0j m e ho hc hs
 case field=>exact jau m e ho hc hs
 case indexAddr=>exact q0q m e ho hc hs
 case index=>exact jb5 m e ho hc hs
 case range=>exact jbf m e ho hc hs
 case extract=>exact q40 m e ho hc hs
 case call c=>
  have dB:zC P h md r dst c=I cr:=hc
  by_cases hv:∃f,c.callee=.value f
  ·obtain⟨f,hf⟩:=hv
   exact jh2 dV hx m e ho hf dB hs
  ·exact q4q m e ho (fun f hf=>hv ⟨f,hf⟩) dB hs
 case lookup=>exact q82 m e ho hc hs
 case mapUpdate=>exact qpy m e (.inl ho) hc hs
 case insert t x y z=>exact qpy (h:=h) (md:=md) (r:=r) (dst:=dst) m e (.inr ho) (show cx P h md r dst (.mapUpdate t x y z)=I cr from hc) hs
 case next it b=>exact jhv m e ho hc hs
 all_goals (simp[cx]at hc;done)
end
end Go.Abs
