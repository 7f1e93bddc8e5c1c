/- Each operation by itself, third part. -/
import Derived.Test.YtimdocpnkimlfaaGreatDoorAbsC
import Derived.RangeFuncLeaves
import Derived.OrdersIn
set_option linter.unusedVariables false
set_option linter.unusedSimpArgs false
open Option renaming some→I,map_eq_some_iff→E3,none→H2,getD_some→Oh,isSome_none→Oj,isNone_some→Ead,bind_some→Eaj,getD_none→Eak,map→Eav
open Bool renaming and_eq_true→Ea,true→Ek,false→Hy,false_eq_true→Hz,cond_eq_ite→N9,or_eq_true→Ol,false_or→Qn,not_true→Eab,xor→Eau
open Nat renaming eq_of_beq_eq_true→Eb,le_of_ble_eq_true→En,beq→Hu,blt→Ib,blt_eq→Jg,ble→Jp,le_trans→N7,lt_of_lt_of_le→Ok,zero_add→Qp,beq_refl→Eaf
open List renaming getElem?_set_ne→Ec,getElem?_eq_some_iff→Gc,all_eq_true→Jn,set_comm→N1,length_set→N4,getElem?_set_self→N5,getElem?_eq_getElem→Oc,mem_of_getElem?→Od,mem_zipIdx_iff_getElem?→Oe,getElem?_map→Ou,length_take→Ov,mem_append→Qo,getElem?_set→Q6,mem_cons→Q9,ext_getElem?→Rb,isEmpty_iff→Rv,length_eq_zero_iff→Rw,length_map→Rx,mem_append_right→St,getElem?_eq_none→Xp,mem_append_left→Za,pairwise_append→Zb,zip_cons_cons→Eac,pairwise_cons→Eae,flatMap_cons→Eag,length_drop→Eah,cons_append→Eai,foldl_cons→Eam,replicate→Ean,mem_range→Eao,all_cons→Eap,map_cons→Eaq,mem_map→Ear,map_nil→Eas,Sublist→Eat
open Array renaming getElem?_eq_some_iff→Ga,getD_eq_getD_getElem?→If,getElem?_eq_getElem→Og,getElem?_setIfInBounds_ne→Ow,getElem?_replicate→Rc,ext'→Eaa,replicate→Eal
open Ne renaming symm→Jq
open Prod renaming mk→Q7
namespace Go.Abs
section
variable {P:Program}{p:jg}{xc:XC}{C C0:az}{ω:Nat→Option Loc}{w w0:World}{hp:ql}{env:Env}{a:Act}{o:Oper}{d:Loc}{h:qj}{md:dA}{r h0:Nat}{dst:Option Nat}{al:Option (List Nat)}{b3:cc}{res:aK}
theorem q66 (m:aq P C ω w0 C0 hp w)(e:ai C ω w w0.heap.size env a.tmps){t:TypeId}{ps}(ho:o.op=.build t ps)(hc:cf P h md r dst (.build t ps)=I b3)(hs:qb p xc h0 al env hp b3=I res):zi P C C0 w0 a d env o w res:=by
 simp only[cf]at hc
 split at hc
 ·rename_i fs z ht hz
  split at hc
  ·rename_i hall
   obtain⟨fi,la,rfl⟩:=E3.1 hc
   simp only[qb,qo]at hs
   split at hs
   ·rename_i qs hq
    split at hs
    ·rename_i cs hf
     obtain rfl:=qw hs
     exact q9 m e (qq3 e.bJ ho ht hz (fun f hf=>Jn.1 hall f hf) la hq hf)
    ·cases hs
   ·cases hs
  ·cases hc
 ·rename_i len el z ht hz
  split at hc
  ·rename_i n hn
   obtain⟨fi,la,rfl⟩:=E3.1 hc
   simp only[qb,qo]at hs
   split at hs
   ·rename_i qs hq
    split at hs
    ·rename_i cs hf
     obtain rfl:=qw hs
     exact q9 m e (qsu e.bJ ho ht hz hn la hq hf)
    ·cases hs
   ·cases hs
  ·cases hc
 ·cases hc
theorem qs5 (m:aq P C ω w0 C0 hp w)(e:ai C ω w w0.heap.size env a.tmps){t:TypeId}{n ps}(ho:o.op=.buildSlice t n ps)(hc:cf P h md r dst (.buildSlice t n ps)=I b3)(hs:qb p xc h0 al env hp b3=I res):zi P C C0 w0 a d env o w res:=by
 simp only[cf]at hc
 split at hc
 ·rename_i el ht
  split at hc
  ·rename_i sz z ag es hn hz cz la
   split at hc
   ·rename_i hb
    cases hc
    simp only[Ea,decide_eq_true_eq,beq_iff_eq]at hb
    generalize (dst.map (h.vec.contains ·)).getD Hy=bb at hs
    cases bb with
    |true=>
     simp only[if_true,qb,qp]at hs
     split at hs
     ·rename_i qs hq
      split at hs
      ·rename_i xs hx
       cases vq:qr 0 xs with
       |false=>rw[vq]at hs;cases hs
       |true=>
        rw[vq]at hs
        simp only[cond_true]at hs
        split at hs
        ·rename_i h' cL
         obtain rfl:=qw hs
         exact .inl (jam m e ho ht hn hz hb.1.1.1.1 hb.1.1.1.2 hb.1.1.2 la hq hx vq cL)
        ·cases hs
      ·cases hs
     ·cases hs
    |false=>
    simp only[Hz,if_false,qb,qo]at hs
    split at hs
    ·rename_i qs hq
     split at hs
     ·rename_i xs hx
      cases hs
      exact .inl (qsl m e ho ht hn hz hb.1.1.1.1 hb.1.1.1.2 hb.1.1.2 la hq hx)
     ·cases hs
    ·cases hs
   ·cases hc
  ·cases hc
 ·cases hc
theorem quw (m:aq P C ω w0 C0 hp w)(e:ai C ω w w0.heap.size env a.tmps){t:TypeId}{x y}(ho:o.op=.makeSlice t x y)(hc:cf P h md r dst (.makeSlice t x y)=I b3)(hs:qb p xc h0 al env hp b3=I res):zi P C C0 w0 a d env o w res:=by
 simp only[cf]at hc
 split at hc
 ·rename_i el ht
  split at hc
  ·rename_i sz b z ag x' y' hn hb hz cz h1 h2
   split at hc
   ·cases hc
    generalize hR:(if(Eav (fun x=>h.bz.contains x) dst).getD Hy=Ek then I r else H2)=R at hs
    cases R with
    |some rr=>
     simp only[qb,qp]at hs
     split at hs
     ·rename_i n c e1 e2
      cases hk:(Hu n c&&Jp n 1073741824&&Jp b 4096&&Hu z.length sz&&Ib 0 sz&&z.all qk)with
      |false=>simp[hk]at hs
      |true=>
       simp only[hk,cond_true]at hs
       split at hs
       ·rename_i h' cL
        obtain rfl:=qw hs
        simp only[Ea]at hk
        obtain⟨⟨⟨⟨⟨k1,k2⟩,k3⟩,k4⟩,k5⟩,k6⟩:=hk
        obtain rfl:=Eb k1
        exact .inl (qse m e ho ht hn hb hz (Jg.mp k5) (Eb k4) h1 h2 e1 e2 (En k2) (En k3) cL)
       ·cases hs
     ·cases hs
    |none=>
     simp only[qb,qo]at hs
     split at hs
     ·rename_i n c e1 e2
      cases hk:(Hu n c&&Jp n 1073741824&&Jp b 4096&&Hu z.length sz&&Ib 0 sz&&z.all qk)with
      |false=>simp[hk]at hs
      |true=>
       simp only[hk,cond_true]at hs
       cases hs
       simp only[Ea]at hk
       obtain⟨⟨⟨⟨⟨k1,k2⟩,k3⟩,k4⟩,k5⟩,k6⟩:=hk
       obtain rfl:=Eb k1
       exact .inl (q0e m e ho ht hn hb hz (Jg.mp k5) (Eb k4) h1 h2 e1 e2 (En k2) (En k3))
     ·cases hs
   ·cases hc
  ·cases hc
 ·cases hc
theorem q61 (m:aq P C ω w0 C0 hp w)(e:ai C ω w w0.heap.size env a.tmps){t:TypeId}{x lo hi mx}(ho:o.op=.slice t x lo hi mx)(hc:cf P h md r dst (.slice t x lo hi mx)=I b3)(hs:qb p xc h0 al env hp b3=I res):zi P C C0 w0 a d env o w res:=by
 cases mx with
 |some _=>simp[cf]at hc
 |none=>
  simp only[cf]at hc
  split at hc
  ·rename_i x' kF fN h1 h2 h3
   split at hc
   ·rename_i ht
    cases hc
    simp only[qb,qo]at hs
    split at hs
    ·rename_i s hv
     split at hs
     ·rename_i j hj
      split at hs
      ·rename_i i fN
       obtain rfl:=qw hs
       exact q9 m e (qxn e.bJ ho ht h1 h2 h3 hv hj fN)
      ·cases hs
     ·cases hs
    ·cases hs
   ·rename_i el ht
    obtain⟨sz,hn,rfl⟩:=E3.1 hc
    simp only[qb,qo]at hs
    split at hs
    ·rename_i n cD xs hv
     cases hk:(Hu sz cD||xs.isEmpty)with
     |false=>simp[hk]at hs
     |true=>
      simp only[hk,cond_true]at hs
      split at hs
      ·rename_i j hj
       split at hs
       ·rename_i i fN
        obtain rfl:=qw hs
        refine q9 m e (Xo e.bJ ho ht hn h1 h2 h3 hv (.inr ⟨n,cD,xs,rfl,?_,hj,fN,rfl⟩))
        rcases Ol _ _▸hk with hk|hk
        ·exact .inl (Eb hk)
        ·exact .inr (Rv.1 hk)
       ·cases hs
      ·cases hs
    ·rename_i b q len hv
     split at hs
     ·rename_i j hj
      split at hs
      ·rename_i i fN
       cases hk:(Hu i 0||Ib i j)with
       |false=>simp[hk]at hs
       |true=>
        simp only[hk,cond_true]at hs
        obtain rfl:=qw hs
        refine q9 m e (Xo e.bJ ho ht hn h1 h2 h3 hv (.inl ⟨b,q,len,rfl,hj,fN,?_,rfl⟩))
        rcases Ol _ _▸hk with hk|hk
        ·exact .inl (Eb hk)
        ·exact .inr (Jg.mp hk)
      ·cases hs
     ·cases hs
    ·rename_i b bm len hv
     split at hs
     ·rename_i j hj
      split at hs
      ·rename_i i fN
       cases hk:Hu i 0 with
       |false=>simp[hk]at hs
       |true=>
        simp only[hk,cond_true]at hs
        obtain rfl:=qw hs
        obtain rfl:=Eb hk
        exact q9 m e (q2r e.bJ ho ht hn h1 h2 h3 hv hj fN)
      ·cases hs
     ·cases hs
    ·cases hs
   ·rename_i n el ht
    obtain⟨sz,hn,rfl⟩:=E3.1 hc
    simp only[qb,qo]at hs
    split at hs
    ·rename_i b q hv
     split at hs
     ·rename_i j hj
      split at hs
      ·rename_i i fN
       cases hk:(Hu i 0||Ib i j)with
       |false=>simp[hk]at hs
       |true=>
        simp only[hk,cond_true]at hs
        obtain rfl:=qw hs
        refine q9 m e (qyf e.bJ ho ht hn h1 h2 h3 hv hj fN ?_)
        rcases Ol _ _▸hk with hk|hk
        ·exact .inl (Eb hk)
        ·exact .inr (Jg.mp hk)
      ·cases hs
     ·cases hs
    ·cases hs
   ·cases hc
  ·cases hc
theorem quu (m:aq P C ω w0 C0 hp w)(e:ai C ω w w0.heap.size env a.tmps){t:TypeId}{x i}(ho:o.op=.fieldAddr t x i)(hc:cf P h md r dst (.fieldAddr t x i)=I b3)(hs:qb p xc h0 al env hp b3=I res):zi P C C0 w0 a d env o w res:=by
 simp only[cf]at hc
 split at hc
 ·rename_i fs ht
  split at hc
  ·rename_i f hf
   split at hc
   ·rename_i ag n x' cz hn h1
    split at hc
    ·rename_i hb
     cases hc
     simp only[Ea,decide_eq_true_eq]at hb
     simp only[qb,qo]at hs
     split at hs
     ·rename_i b q hv
      obtain rfl:=qw hs
      exact q9 m e (Xl (ag:=ag) e.bJ ho ht hf hn hb.1 h1 hv (.inl ⟨b,q,rfl,rfl⟩))
     ·rename_i cs hv
      split at hs
      ·rename_i z hz
       cases hk:Eau ag z.isAgg with
       |true=>simp[hk]at hs
       |false=>
        simp only[hk,cond_false]at hs
        obtain rfl:=qw hs
        exact q9 m e (Xl e.bJ ho ht hf hn hb.1 h1 hv (.inr ⟨cs,z,rfl,hz,hk,rfl⟩))
      ·cases hs
     ·rename_i b bm q hv
      obtain rfl:=qw hs
      exact q9 m e (qtk e.bJ ho ht hf hn hb.1 h1 hv)
     ·cases hs
    ·cases hc
   ·cases hc
  ·cases hc
 ·cases hc
theorem q5s (m:aq P C ω w0 C0 hp w)(e:ai C ω w w0.heap.size env a.tmps){t:TypeId}{x i}(ho:o.op=.field t x i)(hc:cf P h md r dst (.field t x i)=I b3)(hs:qb p xc h0 al env hp b3=I res):zi P C C0 w0 a d env o w res:=by
 simp only[cf]at hc
 split at hc
 ·rename_i fs ht
  split at hc
  ·rename_i f hf
   split at hc
   ·rename_i ag n x' cz hn h1
    cases hc
    simp only[qb,qo]at hs
    split at hs
    ·rename_i cs hv
     obtain⟨z,hz,rfl⟩:=qN hs
     exact q9 m e (q45 e.bJ ho ht hf cz hn h1 hv hz)
    ·cases hs
   ·cases hc
  ·cases hc
 ·cases hc
theorem quz (m:aq P C ω w0 C0 hp w)(e:ai C ω w w0.heap.size env a.tmps){t:TypeId}{x i}(ho:o.op=.indexAddr t x i)(hc:cf P h md r dst (.indexAddr t x i)=I b3)(hs:qb p xc h0 al env hp b3=I res):zi P C C0 w0 a d env o w res:=by
 simp only[cf]at hc
 split at hc
 ·rename_i x' i' h1 h2
  split at hc
  ·rename_i el ht
   split at hc
   ·rename_i sz hn
    split at hc
    ·cases hc
     simp only[qb,qo]at hs
     split at hs
     ·rename_i nl cD xs iv hv hi
      cases hk:(Hu sz cD||xs.isEmpty)with
      |false=>simp[hk]at hs
      |true=>
       simp only[hk,cond_true]at hs
       split at hs
       ·rename_i j hj
        split at hs
        ·rename_i z hz
         obtain rfl:=qw hs
         have aS:xs.isEmpty=Hy:=by
          have:=(Gc.1 hz).1
          cases xs with
          |nil=>simp at this
          |cons _ _=>rfl
         rw[aS,Bool.or_false]at hk
         obtain rfl:=Eb hk
         exact q9 m e (Xm e.bJ ho ht hn h1 h2 hv hi (.inr ⟨nl,xs,z,j,rfl,hj,hz,rfl⟩))
        ·cases hs
       ·cases hs
     ·rename_i b q len iv hv hi
      split at hs
      ·rename_i j hj
       obtain rfl:=qw hs
       exact q9 m e (Xm e.bJ ho ht hn h1 h2 hv hi (.inl ⟨b,q,len,j,rfl,hj,rfl⟩))
      ·cases hs
     ·rename_i b bm len iv hv hi
      split at hs
      ·rename_i j hj
       obtain rfl:=qw hs
       exact q9 m e (qsy e.bJ ho ht hn h1 h2 hv hi hj)
      ·cases hs
     ·cases hs
    ·cases hc
   ·cases hc
  ·rename_i n el ht
   split at hc
   ·rename_i sz ag hn cz
    split at hc
    ·cases hc
     simp only[qb,qo]at hs
     split at hs
     ·rename_i b q iv hv hi
      split at hs
      ·rename_i j hj
       obtain rfl:=qw hs
       exact q9 m e (Xn (ag:=ag) e.bJ ho ht hn h1 h2 hv hi hj (.inl ⟨b,q,rfl,rfl⟩))
      ·cases hs
     ·rename_i cs iv hv hi
      split at hs
      ·rename_i j hj
       split at hs
       ·rename_i z hz
        cases hk:Eau ag z.isAgg with
        |true=>simp[hk]at hs
        |false=>
         simp only[hk,cond_false]at hs
         obtain rfl:=qw hs
         exact q9 m e (Xn e.bJ ho ht hn h1 h2 hv hi hj (.inr ⟨cs,z,rfl,hz,hk,rfl⟩))
       ·cases hs
      ·cases hs
     ·cases hs
    ·cases hc
   ·cases hc
  ·cases hc
 ·cases hc
theorem q5y (m:aq P C ω w0 C0 hp w)(e:ai C ω w w0.heap.size env a.tmps){t:TypeId}{x i}(ho:o.op=.index t x i)(hc:cf P h md r dst (.index t x i)=I b3)(hs:qb p xc h0 al env hp b3=I res):zi P C C0 w0 a d env o w res:=by
 simp only[cf]at hc
 split at hc
 ·rename_i x' i' h1 h2
  split at hc
  ·rename_i ht
   cases hc
   simp only[qb,qo]at hs
   split at hs
   ·rename_i s iv hv hi
    split at hs
    ·rename_i j hj
     split at hs
     ·rename_i c cY
      obtain rfl:=qw hs
      exact q9 m e (qwd e.bJ ho ht h1 h2 hv hi hj cY)
     ·cases hs
    ·cases hs
   ·cases hs
  ·rename_i n el ht
   split at hc
   ·rename_i sz ag hn cz
    cases hc
    simp only[qb,qo]at hs
    split at hs
    ·rename_i cs iv hv hi
     split at hs
     ·rename_i j hj
      obtain⟨z,hz,rfl⟩:=qN hs
      exact q9 m e (q4v e.bJ ho ht cz hn h1 h2 hv hi hj hz)
     ·cases hs
    ·cases hs
   ·cases hc
  ·cases hc
 ·cases hc
theorem qz5 (m:aq P C ω w0 C0 hp w)(e:ai C ω w w0.heap.size env a.tmps){c}(ho:o.op=.call c)(nh:∀f,c.callee≠.value f)(hc:uQ P h md r dst c=I b3)(hs:qb p xc h0 al env hp b3=I res):zi P C C0 w0 a d env o w res:=by
 unfold uQ at hc
 split at hc
 ·rename_i f hf;exact absurd hf (nh f)
 ·rename_i dk
  split at hc
  ·rename_i x t dy dX
   split at hc
   ·rename_i ht
    obtain⟨x',hx,rfl⟩:=E3.1 hc
    simp only[qb,qo]at hs
    split at hs<;>first|(exfalso;omega)|skip
    ·rename_i s _ hv
     obtain rfl:=qw hs
     exact q9 m e (NY e.bJ ho dk dy dX hx hv (.inl ⟨ht,s,rfl,rfl⟩))
    ·cases hs
   ·rename_i el ht
    obtain⟨x',hx,rfl⟩:=E3.1 hc
    simp only[qb,qo]at hs
    split at hs<;>first|(exfalso;omega)|skip
    ·rename_i n sz xs _ hv
     obtain rfl:=qw hs
     exact q9 m e (NY e.bJ ho dk dy dX hx hv (.inr ⟨⟨el,ht⟩,.inl ⟨n,sz,xs,rfl,rfl⟩⟩))
    ·rename_i b q n _ hv
     obtain rfl:=qw hs
     exact q9 m e (NY e.bJ ho dk dy dX hx hv (.inr ⟨⟨el,ht⟩,.inr ⟨b,q,rfl⟩⟩))
    ·rename_i b bm n _ hv
     obtain rfl:=qw hs
     exact q9 m e (q7u e.bJ ho dk dy dX hx hv ht)
    ·cases hs
   ·cases hc
  ·cases hc
 ·rename_i dk
  split at hc
  ·rename_i x t dy dX
   split at hc
   ·rename_i el ht
    obtain⟨x',hx,rfl⟩:=E3.1 hc
    simp only[qb,qo]at hs
    split at hs<;>first|(exfalso;omega)|skip
    ·rename_i sz xs _ hv
     obtain rfl:=qw hs
     refine q9 m e ?_
     have ha:c.args=#[x]:=by apply Eaa;simpa using dy
     have kG:c.argTypes=#[t]:=by apply Eaa;simpa using dX
     refine⟨.int .i64 0,?_,.int _ _⟩
     have hq:∃b,a.eval x=.slice b 0 0:=by
      rcases(qu e.bJ hx hv).cu with⟨_,_,h⟩|⟨h,_⟩|⟨h,_⟩
      ·exact⟨_,h⟩
      ·cases h
      ·cases h
     obtain⟨b,hq⟩:=hq
     simp[execOp,ho,resolve,dk,ha,kG,invoke,builtin,Builtin.cap_,run_underlying ht,hq,goInt]
    ·cases hs
   ·cases hc
  ·cases hc
 ·rename_i dk
  split at hc
  ·rename_i x y t u dy dX
   split at hc
   ·rename_i el ut ht hu
    split at hc
    ·rename_i ij
     split at hc
     ·rename_i sz b x' y' hn hb h1 h2
      cases hc
      have hzero:∃z,zq P el=I z∧z.length=sz:=by
       have hz:=(Ea _ _▸ij).2
       rw[hn]at hz
       cases tB:zq P el with
       |none=>simp[tB]at hz
       |some z=>exact⟨z,rfl,by simpa[tB]using hz⟩
      generalize (dst.map (h.vec.contains ·)).getD Hy=bb at hs
      cases bb with
      |true=>
       simp only[if_true,qb,qp]at hs
       split at hs
       ·rename_i Om vy e1 e2
        split at hs
        ·rename_i ys cw
         cases hk:(Jp ys.length 1073741824&&Jp b 4096&&Ib 0 sz&&!ys.isEmpty&&qr 0 ys&&Ib r 1000)with
         |false=>rw[hk]at hs;cases hs
         |true=>
          rw[hk]at hs
          simp only[cond_true]at hs
          split at hs
          ·rename_i h' cL
           obtain rfl:=qw hs
           simp only[Ea]at hk ij
           obtain⟨⟨⟨⟨⟨k1,k2⟩,k3⟩,k4⟩,k5⟩,_⟩:=hk
           exact .inl (jbw m e ho dk dy dX ht hu ij.1 hn hb h1 h2 e1 e2 cw (En k1) (by intro h;rw[h]at k4;cases k4) (En k2) k5 hzero cL)
          ·cases hs
        ·cases hs
       ·rename_i bx bm len vy e1 e2
        split at hs
        ·rename_i cD cU xs fR
         split at hs
         ·rename_i ys cw
          cases hk:(Hu bm cU&&Hu sz cD&&Jp len xs.length&&Jp (len+ys.length) 1073741824&&Jp b 4096&&Ib 0 sz&&qr 0 ys&&Ib r 1000)with
          |false=>rw[hk]at hs;cases hs
          |true=>
           rw[hk]at hs
           simp only[cond_true]at hs
           split at hs
           ·rename_i h' aZ
            obtain rfl:=qw hs
            simp only[Ea]at hk ij
            obtain⟨⟨⟨⟨⟨⟨⟨k1,k2⟩,k3⟩,k4⟩,k5⟩,k6⟩,k7⟩,_⟩:=hk
            obtain rfl:=Eb k1
            obtain rfl:=Eb k2
            exact .inl (q97 m e ho dk dy dX ht hu ij.1 hn hb h1 h2 e1 e2 cw fR (En k3) (En k4) (En k5) k7 hzero aZ)
           ·cases hs
         ·cases hs
        ·cases hs
       ·cases hs
      |false=>
      simp only[Hz,if_false]at hs
      generalize hR:(if(Eav (fun x=>h.bz.contains x) dst).getD Hy=Ek then I r else H2)=R at hs
      cases R with
      |some rr=>
       simp only[qb,qp]at hs
       split at hs
       ·rename_i cD vy e1 e2
        cases fp:((jy env x').isSome&&Hu sz cD)with
        |false=>simp[fp]at hs
        |true=>
         simp only[fp,cond_true]at hs
         split at hs
         ·rename_i ys cw
          cases cS:(Jp ys.length 1073741824&&Jp b 4096&&Ib 0 sz)with
          |false=>simp[cS]at hs
          |true=>
           simp only[cS,cond_true]at hs
           split at hs
           ·rename_i h' cL
            cases hs
            simp only[Ea]at cS ij fp
            obtain⟨⟨k2,k3⟩,k4⟩:=cS
            refine .inl (quy m e ho dk dy dX ht hu ij.1 hn hb h1 h2 e1 e2 cw fp.1 rfl (En k2) (En k3) ?_ (Eb fp.2) cL)
            have hz:=ij.2
            rw[hn]at hz
            cases tB:zq P el with
            |none=>simp[tB]at hz
            |some z=>exact⟨z,rfl,by simpa[tB]using hz⟩
           ·cases hs
         ·cases hs
       ·cases hs
      |none=>
       simp only[qb,qo]at hs
       split at hs
       ·rename_i n cD xs vy e1 e2
        cases fp:(n||(jy env x').isSome)with
        |false=>simp[fp]at hs
        |true=>
         simp only[fp,cond_true]at hs
         split at hs
         ·rename_i ys cw
          cases cS:((Hu sz cD||(xs.isEmpty&&n))&&Jp (xs.length+ys.length) 1073741824&&Jp b 4096&&Ib 0 sz)with
          |false=>simp[cS]at hs
          |true=>
           simp only[cS,cond_true]at hs
           cases hs
           simp only[Ea]at cS ij
           obtain⟨⟨⟨k1,k2⟩,k3⟩,k4⟩:=cS
           refine .inl (q3g m e ho dk dy dX ht hu ij.1 hn hb h1 h2 e1 e2 cw (by simpa using fp) ?_ (En k2) (En k3) ?_)
           ·rcases Ol _ _▸k1 with k1|k1
            ·exact .inl (Eb k1)
            ·simp only[Ea,Rv]at k1;exact .inr k1
           ·have hz:=ij.2
            rw[hn]at hz
            cases tB:zq P el with
            |none=>simp[tB]at hz
            |some z=>exact⟨z,rfl,by simpa[tB]using hz⟩
         ·cases hs
       ·cases hs
     ·cases hc
    ·cases hc
   ·cases hc
  ·cases hc
 ·rename_i dk
  split at hc
  ·rename_i x y t ts dy dX
   split at hc
   ·rename_i el ht
    split at hc
    ·rename_i sz x' y' hn h1 h2
     cases hc
     simp only[qb,qp]at hs
     split at hs
     ·rename_i b q len vy e1 e2
      cases hk:jm h0 al b with
      |false=>simp[hk]at hs
      |true=>
       simp only[hk,cond_true]at hs
       split at hs
       ·rename_i cs hcs
        split at hs
        ·rename_i n us cw
         split at hs
         ·rename_i dV bH
          cases cS:Hu us.length (n*sz)with
          |false=>simp[cS]at hs
          |true=>
           simp only[cS,cond_true]at hs
           split at hs
           ·rename_i h' aZ
            obtain rfl:=qw hs
            exact .inl (q92 m e ho dk dy dX ht hn h1 h2 e1 e2 hcs cw bH (Eb cS) aZ)
           ·cases hs
         ·cases hs
        ·cases hs
       ·cases hs
     ·cases hs
    ·cases hc
   ·cases hc
  ·cases hc
 ·rename_i dk
  split at hc
  ·rename_i x y t ts dy dX
   split at hc
   ·rename_i kt el ht
    split at hc
    ·rename_i kd x' y' gN h1 h2
     cases hc
     simp only[qb,qp]at hs
     split at hs
     ·rename_i b kv e1 e2
      cases hk:jm h0 al b with
      |false=>simp[hk]at hs
      |true=>
       simp only[hk,cond_true]at hs
       split at hs
       ·rename_i es hb
        split at hs
        ·rename_i r hf
         split at hs
         ·rename_i h' aZ
          obtain rfl:=qw hs
          exact .inl (q11 m e ho dk dy dX ht gN h1 h2 e1 e2 hb hf aZ)
         ·cases hs
        ·cases hs
       ·cases hs
     ·cases hs
    ·cases hc
   ·cases hc
  ·cases hc
 ·rename_i dk
  obtain⟨l,hl,rfl⟩:=E3.1 hc
  simp only[qb,qo]at hs
  split at hs
  ·rename_i v vs hv
   obtain⟨z,hz,rfl⟩:=qN hs
   exact q9 m e (Xq (mx:=true) e.bJ ho dk hl hv hz)
  ·cases hs
 ·rename_i dk
  obtain⟨l,hl,rfl⟩:=E3.1 hc
  simp only[qb,qo]at hs
  split at hs
  ·rename_i v vs hv
   obtain⟨z,hz,rfl⟩:=qN hs
   exact q9 m e (Xq (mx:=false) e.bJ ho dk hl hv hz)
  ·cases hs
 ·cases hc
end
def az.cut (C:az)(n:Nat):az:={ C with β:=fun b=>if b<n then C.β b else H2 }
theorem az.ej (C:az)(n:Nat):(C.cut n).le C where
 k _ _ _ h:=h
 b b r h:=by
  simp only[az.cut]at h
  split at h
  ·exact h
  ·cases h
 w:=rfl
 d _ h:=h
theorem az.gU {C C':az}{n}(h:C.le C')(hn:∀b r,C.β b=I r→b<n):C.le (C'.cut n):=
 ⟨h.1,fun b r hb=>by simp only[az.cut];rw[if_pos (hn b r hb)];exact h.2 b r hb,h.w,h.d,h.t⟩
section
variable {P:Program}{p:jg}{xc:XC}{C C0:az}{ω:Nat→Option Loc}{w w0:World}{hp:ql}{env:Env}{tmps:Array Value}{B:Nat}
theorem aB.cut {ℓ x v}(n:Nat)(ho:aB C ω w B ℓ x v):aB (C.cut n) ω w B ℓ x v:=by
 unfold aB at *
 split at ho
 ·obtain⟨h1,h2,h3,h4,h5⟩:=ho
  exact⟨h1,h2,fun b hb=>h3 b ((az.ej C n).2 b _ hb),h4,h5⟩
 ·obtain⟨h1,h2,h3,h4,h5⟩:=ho
  exact⟨h1,h2,fun b hb=>h3 b ((az.ej C n).2 b _ hb),h4,h5⟩
 ·trivial
theorem bp.cut {x v n}(h:bp C x v)(hb:below n x=Ek):bp (C.cut n) x v:=
 ay.shift (C:=C) (C':=C.cut n) n (fun _ _ _ h=>h) (fun b r aC hb=>by simp only[az.cut];rw[if_pos aC];exact hb) h hb
theorem Oy {n}:∀ {e:Env} {s:Nat} {x:AVal×Bool},oj n e=Ek→ja s e=I x→below n x.1=Ek
 | [],_,_,_,h=>by simp[ja]at h
 |(t,y)::e,s,x,hb,h=>by
  simp only[oj,Ea]at hb
  simp only[ja]at h
  cases kK:Hu t s with
  |true=>simp only[kK,cond_true,I.injEq]at h;subst h;exact hb.1
  |false=>simp only[kK,cond_false]at h;exact Oy hb.2 h
theorem X2 {n}:∀ {l:ql} {b:Nat} {x:aJ},yk n l=Ek→l[b]?=I x→AU n x=Ek
 | [],_,_,_,h=>by simp at h
 |y::l,b,x,hb,h=>by
  simp only[yk,Ea]at hb
  cases b with
  |zero=>simp at h;subst h;exact hb.1
  |succ b=>simp at h;exact X2 hb.2 h
theorem X3 {n}:∀ {l:List (AVal×Bool)} {j:Nat} {c:AVal×Bool},s9 n l=Ek→l[j]?=I c→below n c.1=Ek
 | [],_,_,_,h=>by simp at h
 |(y,o)::l,j,c,hb,h=>by
  simp only[s9,Ea]at hb
  cases j with
  |zero=>simp at h;subst h;exact hb.1
  |succ j=>simp at h;exact X3 hb.2 h
theorem bU.cut {n es ms}(hr:bU C es ms):kx n es=Ek→bU (C.cut n) es ms:=by
 induction hr with
 |nil=>exact fun _=>.nil
 |cons k v es m ms hk hv _ ih=>
  intro hb
  simp only[kx,Ea]at hb
  exact .cons k v es m ms (bp.cut hk hb.1.1) (bp.cut hv hb.1.2) (ih hb.2)
theorem aX.cut {b r n x}(h:aX P C ω w B b r x)(hb:AU n x=Ek):aX P (C.cut n) ω w B b r x:=by
 cases x with
 |hole=>exact h
 |cells cs=>
  obtain⟨vs,el,h1,h2,h3⟩:=h
  exact⟨vs,el,h1,h2,fun j c hc=>let ⟨v,a,q,b,d⟩:=h3 j c hc; ⟨v,a,q,bp.cut b (X3 hb hc),fun e=>(d e).cut n⟩⟩
 |map es=>obtain⟨bE,clock,h1,h2⟩:=h;exact⟨bE,clock,h1,h2.cut hb⟩
 |iter s pos=>exact h
 |loop l=>obtain⟨lp,h1,h2⟩:=h;exact⟨lp,h1,{ h2 with env:=fun s x hx=>let ⟨v,a,b⟩:=h2.env s x hx; ⟨v,a,bp.cut b (Oy hb hx)⟩ }⟩
 |fm t e l=>obtain⟨p,v,h1,h2,h3,h4⟩:=h;exact⟨p,v,h1,h2,h3,h4.cut n⟩
 |dead=>exact h
 |vec sz bm xs=>exact dv.imp (C:=C) (C':=C.cut n) (ω:=ω) (ω':=ω) (B':=B) (fun _ _ _ h=>h) (fun _ h=>h) (fun _ h _=>h) rfl (fun q n' cap k=>⟨rfl,aB.cut (C:=C) n k⟩) h
theorem aq.gc (m:aq P C ω w0 C0 hp w){n:Nat}(hn:n≤hp.length)(hb:yk n (hp.take n)=Ek)(h0:∀b r,C0.β b=I r→b<n):aq P (C.cut n) ω w0 C0 (hp.take n) w where
 base:=m.base
 know:=m.know
 cE:=m.cE
 apart b r o hb:=m.apart b r o ((az.ej C n).2 b r hb)
 inj b b' r h1 h2:=m.inj b b' r ((az.ej C n).2 _ _ h1) ((az.ej C n).2 _ _ h2)
 lt b r h:=by
  have h1:=m.lt b r ((az.ej C n).2 _ _ h)
  refine⟨h1.1,?_⟩
  simp only[az.cut]at h
  split at h
  ·rw[Ov];omega
  ·cases h
 size:=m.size
 frame:=m.frame
 eC:=m.eC
 os:=m.os
 output:=m.output
 fresh b r h:=m.fresh b r ((az.ej C n).2 _ _ h)
 grown:=az.gU m.grown h0
 old:=m.old
 box b x r hx hr:=by
  have aC:b<n:=by
   have:=(Gc.1 hx).1
   rw[Ov]at this;omega
  have ew:hp[b]?=I x:=by rwa [List.getElem?_take_of_lt aC]at hx
  exact(m.box b x r ew ((az.ej C n).2 _ _ hr)).cut (X2 hb hx)
 gK:=m.gK
theorem ai.cut {n}(e:ai C ω w B env tmps)(hb:oj n env=Ek):ai (C.cut n) ω w B env tmps:=
 fun s x hx=>let ⟨v,h1,h2,h3⟩:=e s x hx; ⟨v,h1,bp.cut h2 (Oy hb hx),fun h=>(h3 h).cut n⟩
def jo1 (env:Env)(hp:ql)(r:lv)(ℓ:Loc)(x:AVal×Bool):Prop:=
 (∃s,ℓ=.slot s)∨∃t n b j ow cs,r=.cell t Hy n∧ja t env=I (.ptr b j,ow)∧ℓ=.cell b j∧ji hp b=I cs∧cs[j]?=I x
def Oz (C:az)(ω:Nat→Option Loc)(w:World)(B:Nat)(env:Env)(hp:ql)(r:lv)(x:AVal×Bool)(v:Value):Prop:=bp C x.1 v∧(x.2=Ek→∃ℓ,aB C ω w B ℓ x.1 v∧jo1 env hp r ℓ x)
theorem qya {B'}(m:aq P C ω w0 C0 hp w)(hB:B'=w0.heap.size)(e:ai C ω w B' env tmps){rv r x}(hc:Hk P rv=I r)(hr:qE ⟨env,hp⟩ r=I x):
  ∃v,((match rv with | .tmp t=>pure (tmps.getD t undef) | .cell a t=>do loadVar t (←asAddr (tmps.getD a undef)):Sem Value)).run P w=.ok v w∧Oz C ω w B' env hp r x v:=by
 subst hB
 cases rv with
 |tmp t=>
  simp only[Hk]at hc
  cases hc
  simp only[qE]at hr
  obtain⟨v,h1,h2,h3⟩:=e t x hr
  refine⟨v,?_,h2,fun h=>⟨_,h3 h,.inl ⟨_,rfl⟩⟩⟩
  simp[If,h1]
 |cell t ty=>
  simp only[Hk]at hc
  have key:∀ {ag:Bool} {n:Nat},zn P ty=I ag→jc P ty=I n→(ag=Hy→n=1)→qE ⟨env,hp⟩ (.cell t ag n)=I x→∃v,((do loadVar ty (←asAddr (tmps.getD t undef)):Sem Value)).run P w=.ok v w∧Oz C ω w w0.heap.size env hp (.cell t ag n) x v:=by
   intro ag n hg hn Dd hr
   simp only[qE]at hr
   split at hr
   ·rename_i b q ow hl
    obtain⟨u,h1,h2,_⟩:=e t _ hl
    obtain⟨r,gM,rfl⟩:=h2.cI
    have hu:tmps.getD t undef=.pointer (I ⟨r,q,H2⟩):=by simp[If,h1]
    split at hr
    ·rename_i cs hcs
     have fQ:=m.box b _ r (kg hcs) gM
     split at hr
     ·rename_i us gg
      cases ag with
      |true=>
       simp only[cond_true,I.injEq]at hr
       subst hr
       obtain⟨vs,k1,_,k2,k3,_⟩:=fQ.read gg
       refine⟨.agg ⟨vs⟩,?_,.agg _ _ k1,by simp⟩
       simp[hu,asAddr,Db hg hn k2 k3]
      |false=>
       simp only[cond_false]at hr
       split at hr
       ·rename_i c hc
        cases hr
        obtain⟨vs,te,g1,g2,g3⟩:=fQ
        obtain⟨v,a1,a2,a3,a4⟩:=g3 q _ hc
        have dq:w.cell? ⟨r,q,H2⟩=I v:=by
         simp only[World.cell?,g1]
         simpa using a1
        refine⟨v,?_,a3,fun h=>⟨_,a4 h,.inr ⟨_,_,_,_,_,_,rfl,hl,rfl,hcs,hc⟩⟩⟩
        simp[hu,asAddr,Dc hg dq]
       ·cases hr
     ·cases hr
    ·cases hr
   ·cases hr
  split at hc
  ·rename_i n hg hn;cases hc;exact key hg hn (by simp) hr
  ·rename_i hg hn;cases hc;exact key hg hn (fun _=>rfl) hr
  ·cases hc
inductive jD (P:Program)(C:az)(ω:Nat→Option Loc)(w:World)(B:Nat)(env:Env)(hp:ql):List lv→List (AVal×Bool)→List Value→Prop where
 |nil:jD P C ω w B env hp [] [] []
 |cons {r:lv} {x:AVal×Bool} {v:Value} {rs:List lv} {xs:List (AVal×Bool)} {vs:List Value} (h:Oz C ω w B env hp r x v) (t:jD P C ω w B env hp rs xs vs):jD P C ω w B env hp (r::rs) (x::xs) (v::vs)
theorem jD.bJ {rs xs vs}(h:jD P C ω w B env hp rs xs vs):aF C (xs.map (·.1)) vs:=by
 induction h with
 |nil=>exact .nil
 |cons h _ ih=>exact .cons _ _ _ _ h.1 ih
theorem X4 {B'}(m:aq P C ω w0 C0 hp w)(hB:B'=w0.heap.size)(e:ai C ω w B' env tmps):∀ {l:List ResultVar} {rs:List lv} {xs:List (AVal×Bool)},uU P l=I rs→ya ⟨env,hp⟩ rs=I xs →
  ∃vs,(l.mapM fun(rv:ResultVar)=>(match rv with | .tmp t=>pure (tmps.getD t undef) | .cell a t=>do loadVar t (←asAddr (tmps.getD a undef)):Sem Value)).run P w=.ok vs w∧jD P C ω w B' env hp rs xs vs
 | [],rs,xs,hc,hr=>by
  simp[uU]at hc;subst hc
  simp[ya]at hr;subst hr
  exact⟨[],rfl,.nil⟩
 |rv::l,rs,xs,hc,hr=>by
  simp only[uU]at hc
  split at hc
  ·rename_i r A1 h1 h2
   cases hc
   simp only[ya]at hr
   split at hr
   ·rename_i x hx
    split at hr
    ·rename_i ys lA
     cases hr
     obtain⟨v,k1,k2⟩:=qya m hB e h1 hx
     obtain⟨vs,j1,j2⟩:=X4 m hB e h2 lA
     refine⟨v::vs,?_,.cons k2 j2⟩
     simp only[List.mapM_cons,Sem.run_bind,k1,Result.andThen_ok,j1,Sem.run_pure]
    ·cases hr
   ·cases hr
  ·cases hc
def Be:List Value→Value
 | [v]=>v
 |vs=>.tuple ⟨vs⟩
theorem X5 (m:aq P C ω w0 C0 hp w){ω' b j v ow cs}(ld:ji hp b=I cs)(hc:cs[j]?=I (v,ow))(hω:∀b' j' y u,(b'≠b∨j'≠j)→aB C ω w w0.heap.size (.cell b' j') y u→aB C ω' w w0.heap.size (.cell b' j') y u):
  aq P C ω' w0 C0 (hp.set b (.cells (cs.set j (v,Hy)))) w:=by
 by_cases hb:∃r,C.β b=I r
 ·obtain⟨r,hr⟩:=hb
  obtain⟨vs,te,hg,cr,hold⟩:=m.box b _ r (kg ld) hr
  obtain⟨cv,k1,k2,k3,k4⟩:=hold j _ hc
  have hu:lG w w r:=⟨rfl,fun _ _=>rfl,fun c t fr h=>by rw[hg]at h;cases h;rfl,rfl,rfl⟩
  refine m.dc hu hr _ (fun b' j' y u eO hz=>hω b' j' y u (.inl eO) hz) ⟨vs,te,hg,by simpa using cr,fun i c hi=>?_⟩
  rw[Q6]at hi
  split at hi
  ·rename_i nJ
   subst nJ
   split at hi
   ·cases hi;exact⟨cv,k1,k2,k3,by simp⟩
   ·cases hi
  ·rename_i nJ
   obtain⟨u,a1,a2,a3,a4⟩:=hold i c hi
   exact⟨u,a1,a2,a3,fun h=>hω b i _ _ (.inr (Jq nJ)) (a4 h)⟩
 ·refine { m with lt:=fun k r hk=>by rw[N4];exact m.lt k r hk,box:=fun k x r hx hk=>?_ }
  have iZ:k≠b:=fun h=>hb ⟨r,h▸hk⟩
  rw[Ec (Jq iZ)]at hx
  exact(m.box k x r hx hk).mono (az.le_refl C) fun j' y u ho=>hω k j' y u (.inl iZ) ho
theorem jad (m:aq P C ω w0 C0 hp w){rs xs vs}(h:jD P C ω w w0.heap.size env hp rs xs vs):
  ∃ω',aq P C ω' w0 C0 (yf ⟨env,hp⟩ rs) w∧bp C (jj xs).1 (Be vs)∧((jj xs).2=Ek→aB C ω' w w0.heap.size (.slot 0) (jj xs).1 (Be vs)):=by
 have same:∃ω',aq P C ω' w0 C0 hp w:=⟨ω,m⟩
 cases h with
 |nil=>exact⟨ω,m,by simpa[jj,Be]using ay.av _ _ (ay.nil),by simp[jj]⟩
 |cons hx ht=>
  cases ht with
  |cons hy ht=>
   have:=(jD.cons hx (jD.cons hy ht)).bJ
   exact⟨ω,by simpa[yf]using m,by simpa[jj,Be]using ay.av _ _ this,by simp[jj]⟩
  |nil=>
   rename_i r x v
   obtain⟨h1,h2⟩:=hx
   simp only[jj]
   -- without the flag
   have plain:aq P C ω w0 C0 (yf ⟨env,hp⟩ [r]) w:=by
    unfold yf
    split
    ·split
     ·split
      ·rename_i cs hcs
       split
       ·rename_i u hu
        exact X5 m hcs hu (fun _ _ _ _ _ h=>h)
       ·exact m
      ·exact m
     ·exact m
    ·exact m
   by_cases hk:x.2=Ek
   ·have fp:=hk
    obtain⟨ℓ,h3,h4⟩:=h2 fp
    refine⟨qJ ω x.1 v (.slot 0),?_,h1,fun _=>HA h3⟩
    rcases h4 with⟨s,rfl⟩|⟨t,n,b,j,ow,cs,rfl,g1,rfl,g2,g3⟩
    ·exact { plain with box:=fun b x r hx hb=>(plain.box b x r hx hb).mono (az.le_refl C) fun j y u hz=>k9 h3 (by simp) hz }
    ·obtain⟨xv,xo⟩:=x
     simp only at fp
     subst fp
     have:yf ⟨env,hp⟩ [.cell t Hy n]=hp.set b (.cells (cs.set j (xv,Hy))):=by
      simp only[yf,g1,g2,g3]
     rw[this]
     exact X5 m g2 g3 fun b' j' y u aS hz=>k9 h3 (by
      rcases aS with aS|aS
      ·simp[aS]
      ·simp[aS]) hz
   ·exact⟨ω,plain,h1,fun h=>absurd h hk⟩
theorem qzr {fn}(m:aq P C ω w0 C0 hp w)(e:ai C ω w w0.heap.size env tmps){rs xs}(hc:uU P fn.results.toList=I rs)(hr:ya ⟨env,hp⟩ rs=I xs):
  ∃v ω',(results fn tmps).run P w=.ok v w∧aq P C ω' w0 C0 (yf ⟨env,hp⟩ rs) w∧bp C (jj xs).1 v∧((jj xs).2=Ek→aB C ω' w w0.heap.size (.slot 0) (jj xs).1 v):=by
 obtain⟨vs,h1,h2⟩:=X4 m rfl e hc hr
 have kI:(fn.results.mapM fun(rv:ResultVar)=>(match rv with | .tmp t=>pure (tmps.getD t undef) | .cell a t=>do loadVar t (←asAddr (tmps.getD a undef)):Sem Value)).run P w=.ok vs.toArray w:=by
  rw[Array.mapM_eq_mapM_toList]
  simp only[Sem.run_map]
  rw[h1]
  rfl
 have aY:(results fn tmps).run P w=.ok (if h:vs.toArray.size=1 then vs.toArray[0]else .tuple vs.toArray) w:=by
  unfold results
  rw[Sem.run_bind]
  exact congrArg (fun z=>Result.andThen z fun(a:Array Value) w'=>Sem.run P (pure (if h:a.size=1 then a[0]else Value.tuple a)) w') kI
 have hval:(if h:vs.toArray.size=1 then vs.toArray[0]else .tuple vs.toArray)=(Be vs):=by
  match vs with
  | []=>rfl
  | [v]=>rfl
  |v::u::vs=>simp[Be]
 rw[hval]at aY
 obtain⟨ω',q1,q2,q3⟩:=jad m h2
 exact⟨_,ω',aY,q1,q2,q3⟩
end
section
variable {P:Program}{C C0:az}{ω:Nat→Option Loc}{w w0:World}{hp:ql}
def oP (C:az)(hp:ql)(r:Nat):Prop:=∃b sz bm xs r0 cap,hp[b]?=I (.vec sz bm xs)∧C.β b=I r0∧C.T (r0,bm,r,cap)
def Hid (C:az)(hp:ql)(r:Nat):Prop:=(∃b,C.β b=I r)∨oP C hp r
theorem oP.is (m:aq P C ω w0 C0 hp w){r}(h:oP C hp r):(∃b,C.β b=I r)∨∃b sz bm xs n cap,hp[b]?=I (.vec sz bm xs)∧tq C ω w w0.heap.size b r n cap:=by
 obtain⟨b,sz,bm,xs,r0,cap,h1,h2,h3⟩:=h
 obtain⟨q,jB,k1,k2,k3,k4,_⟩:=m.box b _ r0 h1 h2
 have:=(k2 _ h3 rfl).2 rfl
 simp only[Q7.injEq]at this
 obtain⟨rfl,rfl⟩:=this
 rcases k4 with rfl|k4
 ·exact .inl ⟨b,h2⟩
 ·exact .inr ⟨b,sz,bm,xs,_,_,h1,k4⟩
theorem OA (m:aq P C ω w0 C0 hp w){r}(h:Hid C hp r)(o:Nat):C.K r o=H2:=by
 rcases h with⟨b,hb⟩|h
 ·exact m.apart b r o hb
 ·rcases h.is m with⟨b,hb⟩|⟨b,sz,bm,xs,n,cap,_,h2⟩
  ·exact m.apart b r o hb
  ·exact h2.2.2.2.2.2.2 o (by simp)
theorem q5o {K}(hW:C.W=fun _=>False)(m:aq P C ω w0 (.bw K) hp w){r}(h:Hid C hp r):w0.heap.size≤r:=by
 have key:∀b,C.β b=I r→w0.heap.size≤r:=fun b hb=>by
  rcases m.fresh b r hb with h|h|h
  ·cases h
  ·exact h
  ·exact h.elim
 rcases h with⟨b,hb⟩|h
 ·exact key b hb
 ·rcases h.is m with⟨b,hb⟩|⟨b,sz,bm,xs,n,cap,_,h2⟩
  ·exact key b hb
  ·rcases h2.2.1 with h|h
   ·exact h
   ·rw[hW]at h;exact h.elim
theorem jfy (m:aq P C ω w0 C0 hp w){r}(h:Hid C hp r):r<w.heap.size:=by
 rcases h with⟨b,hb⟩|h
 ·exact(m.lt b r hb).1
 ·rcases h.is m with⟨b,hb⟩|⟨b,sz,bm,xs,n,cap,_,h2⟩
  ·exact(m.lt b r hb).1
  ·obtain⟨_,_,_,_,_,⟨cells,elem,h5,_⟩,_⟩:=h2
   exact(Ga.1 h5).1
open Classical in
noncomputable def jw (C:az)(hp:ql)(w:World):Nat→Nat→Option Value:=fun r o=>if Hid C hp r then(w.cell? ⟨r,o,H2⟩).filter (·.oneCell')else C.K r o
theorem Dv (m:aq P C ω w0 C0 hp w){r o x}(h:C.K r o=I x):jw C hp w r o=I x:=by
 unfold jw
 rw[if_neg]
 ·exact h
 ·intro hh
  rw[OA m hh o]at h;cases h
theorem HI (m:aq P C ω w0 C0 hp w){r o x}(h:jw C hp w r o=I x):w.cell? ⟨r,o,H2⟩=I x∧x.oneCell'=Ek:=by
 unfold jw at h
 split at h
 ·rw[Option.filter_eq_some_iff]at h;exact h
 ·exact⟨m.know r o x h,m.cE r o x h⟩
theorem X6 {r o x}(hb:Hid C hp r)(hc:w.cell? ⟨r,o,H2⟩=I x)(h1:x.oneCell'=Ek):jw C hp w r o=I x:=by
 unfold jw
 rw[if_pos hb,hc]
 simp[h1]
theorem OB {b r o x}(hb:C.β b=I r)(hc:w.cell? ⟨r,o,H2⟩=I x)(h1:x.oneCell'=Ek):jw C hp w r o=I x:=
 X6 (.inl ⟨b,hb⟩) hc h1
theorem OC (m:aq P C ω w0 C0 hp w){x v}(h:bp C x v)(hb:below 0 x=Ek):bp (.bw (jw C hp w)) x v:=
 ay.shift (C:=C) (C':=.bw (jw C hp w)) 0 (fun _ _ _ h=>Dv m h) (fun b r aC=>by omega) h hb
theorem X7 {x v}(h:bp C x v)(h1:v.oneCell'=Ek):x.isAgg=Hy:=by
 cases h<;>first|rfl|(simp[Value.oneCell']at h1)
theorem OD {C r}:∀ {ys:List AVal} {o:Nat},(∀j x,ys[j]?=I x→∃v,C.K r (o+j)=I v∧bp C x v)→bO C r ys o
 | [],o,_=>.gu _ _
 |x::ys,o,h=>by
  obtain⟨v,h1,h2⟩:=h 0 x rfl
  refine .cV _ _ _ _ v (by simpa using h1) h2 (OD fun j y hy=>?_)
  obtain⟨v,k1,k2⟩:=h (j+1) y (by simpa using hy)
  exact⟨v,by rw[show o+1+j=o+(j+1) by omega];exact k1,k2⟩
theorem OE {C r sz}(hz:0<sz):∀ {n:Nat} {xs:List AVal} {o:Nat},xs.length=n*sz→(∀x∈xs,x.isAgg=Hy)→(∀j x,xs[j]?=I x→∃v,C.K r (o+j)=I v∧bp C x v)→aO C r sz (mY sz n xs) o
 |0,xs,o,_,_,_=>.eY _ _ _
 |n+1,xs,o,hl,hp,h=>by
  rw[Nat.succ_mul]at hl
  have hf:(bif Hu sz 1 then xs.headD .undef else AVal.agg (xs.take sz)).flat=xs.take sz:=by
   cases hb:Hu sz 1 with
   |false=>rfl
   |true=>
    have:=Eb hb
    subst this
    match xs,hl with
    |x::xs,_=>simp only[cond_true,List.headD_cons];rw[qag (hp x (List.mem_cons_self ..))];rfl
  refine .cO _ _ _ _ _ ?_ ?_ (OE hz ?_ (fun x hx=>hp x (List.mem_of_mem_drop hx)) fun j x hx=>?_)
  ·rw[hf,Ov];omega
  ·rw[hf]
   refine OD fun j x hx=>h j x ?_
   rw[List.getElem?_take]at hx
   split at hx
   ·exact hx
   ·cases hx
  ·rw[Eah];omega
  ·rw[List.getElem?_drop]at hx
   obtain⟨v,k1,k2⟩:=h _ x hx
   exact⟨v,by rw[Nat.add_assoc];exact k1,k2⟩
theorem Dw {sz}:∀ {n:Nat} {xs:List AVal},(mY sz n xs).length=n
 |0,_=>rfl
 |n+1,xs=>by simp only[mY,List.length_cons];rw[Dw]
theorem X8 {sz}(hz:1<sz):∀ {n:Nat} {xs:List AVal},xs.length=n*sz→qr 0 (mY sz n xs)=Ek→∀x∈xs,below 0 x=Ek
 |0,xs,hl,_=>by
  rw[Nat.zero_mul]at hl
  rw[Rw.1 hl]
  intro x hx;cases hx
 |n+1,xs,hl,h=>by
  have hb:Hu sz 1=Hy:=by
   cases hc:Hu sz 1 with
   |false=>rfl
   |true=>have:=Eb hc;omega
  simp only[mY,hb,cond_false,qr,below,Ea]at h
  have ih:=X8 hz (n:=n) (xs:=xs.drop sz) (by rw[Eah,hl,Nat.succ_mul];omega) h.2
  have ht:∀(ys:List AVal),qr 0 ys=Ek→∀x∈ys,below 0 x=Ek:=by
   intro ys
   induction ys with
   |nil=>intro _ x hx;cases hx
   |cons y ys ih=>
    intro hh x hx
    simp only[qr,Ea]at hh
    rcases Q9.1 hx with rfl|hx
    ·exact hh.1
    ·exact ih hh.2 x hx
  intro x hx
  rw[←List.take_append_drop sz xs]at hx
  rcases Qo.1 hx with hx|hx
  ·exact ht _ h.1 x hx
  ·exact ih x hx
theorem OG (m:aq P C ω w0 C0 hp w){x x' v}(hf:y6 hp x=I x')(h:bp C x v)(hb:below 0 x'=Ek):bp (.bw (jw C hp w)) x' v:=by
 unfold y6 at hf
 split at hf
 ·rename_i b off len
  split at hf
  ·rename_i cs hcs
   cases cA:NA off len cs with
   |true=>
    rw[cA]at hf
    simp only[cond_true,I.injEq]at hf
    subst hf
    simp only[NA,Ea]at cA
    obtain⟨⟨⟨r0,r1⟩,r2⟩,_⟩:=cA
    have r0:=Eb r0
    have r2:=Eb r2
    have r1:1<cs.length / len:=by simpa using r1
    subst r0
    obtain⟨r,cap,gM,hle,rfl⟩:=h.ef
    obtain⟨vs,elem,k1,k2,k3⟩:=m.box b _ r (kg hcs) gM
    have ig:qr 0 (mY (cs.length / len) len (cs.map (·.1)))=Ek:=by simpa[below]using hb
    have OH:=X8 r1 (by rw[Rx];exact r2.symm) ig
    have hrr:aO (.bw (jw C hp w)) r (cs.length / len) (mY (cs.length / len) len (cs.map (·.1))) 0:=by
     refine OE (by omega) (by rw[Rx];exact r2.symm) (fun x hx=>?_) fun j x hx=>?_
     ·obtain⟨j,hj⟩:=List.getElem?_of_mem hx
      rw[Ou,E3]at hj
      obtain⟨c,hc,rfl⟩:=hj
      obtain⟨u,q1,q2,q3,_⟩:=k3 j c hc
      exact X7 q3 q2
     ·have cG:=Od hx
      rw[Ou,E3]at hx
      obtain⟨c,hc,rfl⟩:=hx
      obtain⟨u,q1,q2,q3,_⟩:=k3 j c hc
      have dq:w.cell? ⟨r,0+j,H2⟩=I u:=by
       unfold World.cell?
       rw[k1]
       simp only[Oj,Hz,if_false,Qp]
       exact q1
      exact⟨u,OB gM dq q2,OC m q3 (OH _ cG)⟩
    have:=ay.list (C:=.bw (jw C hp w)) (cs.length / len) (mY (cs.length / len) len (cs.map (·.1))) r 0 cap (by rw[Dw];exact hle) hrr
    rw[Dw]at this
    exact this
   |false=>
   rw[cA]at hf
   simp only[cond_false]at hf
   split at hf
   ·rename_i us gg
    cases hf
    obtain⟨r,cap,gM,hle,rfl⟩:=h.ef
    obtain⟨vs,k1,k0,k2,k3,k4⟩:=(m.box b _ r (kg hcs) gM).read gg
    have ig:qr 0 us=Ek:=by simpa[below]using hb
    have fq:aF (.bw (jw C hp w)) us vs:=ay.shift (C:=C) (C':=.bw (jw C hp w)) 0 (fun _ _ _ h=>Dv m h) (fun b r aC=>by omega) k1 ig
    have iJ:∀(us:List AVal) (vs:List Value),aF C us vs→(∀v∈vs,v.oneCell'=Ek)→us.flatMap AVal.flat=us∧∀u∈us,u.flat.length=1:=by
     intro us
     induction us with
     |nil=>intro _ _ _;exact⟨rfl,by simp⟩
     |cons u us ih=>
      intro vs h h1
      cases h with
      |cons _ _ v vs hx h=>
       obtain⟨i1,i2⟩:=ih vs h (fun v hv=>h1 v (by simp[hv]))
       have tu:=X7 hx (h1 v (by simp))
       rw[Eag,qag tu,i1]
       refine⟨rfl,fun u' qK=>?_⟩
       rcases Q9.1 qK with rfl|qK
       ·rw[qag tu];rfl
       ·exact i2 u' qK
    obtain⟨f1,f2⟩:=iJ us vs k1 k4
    have hcells:bO (.bw (jw C hp w)) r (us.flatMap AVal.flat) off:=by
     rw[f1]
     exact bO.gL fq fun j u hj=>OB gM (k3 j u hj) (k4 u (Od hj))
    have hl:us.length=len:=k0
    have:=ay.list (C:=.bw (jw C hp w)) 1 us r off cap (by omega) (aO.ea hcells f2)
    rw[hl]at this
    exact this
   ·cases hf
  ·cases hf
 ·rename_i b bm len
  split at hf
  ·rename_i sz cU xs fR
   cases hk:(Hu bm cU&&Jp len xs.length)with
   |false=>rw[hk]at hf;cases hf
   |true=>
    rw[hk]at hf
    simp only[cond_true,I.injEq]at hf
    subst hf
    simp only[Ea]at hk
    obtain rfl:=Eb hk.1
    have hlen:=En hk.2
    cases h with
    |aA _ _ _ r0 q cap hβ hT hl=>
     obtain⟨q',jB,k1,k2,k3,k4,_⟩:=m.box b _ r0 fR hβ
     have heq:=(k2 _ hT rfl).2 rfl
     simp only[Q7.injEq]at heq
     obtain⟨rfl,rfl⟩:=heq
     obtain⟨cells,t,vs,g1,g2,g3,g4,g5,g6,g7⟩:=k3
     have OI:Hid C hp q:=.inr ⟨b,sz,bm,xs,r0,cap,fR,hβ,hT⟩
     have hall:bO (.bw (jw C hp w)) q (xs.flatMap AVal.flat) 0:=by
      refine bO.gL (ay.imp (C:=.bw C.K) (C':=.bw (jw C hp w)) ⟨fun _ _ _ h=>Dv m h,fun _ _ h=>h⟩ g5) fun j u hj=>?_
      refine X6 OI ?_ (g7 u (Od hj))
      unfold World.cell?
      rw[g1]
      simp only[Oj,Hz,if_false,Qp]
      exact g6 j u hj
     have cA:aO (.bw (jw C hp w)) q sz xs 0:=aO.ea hall g4
     have:=ay.list (C:=.bw (jw C hp w)) sz (xs.take len) q 0 cap (by rw[Ov];omega) (cA.take len)
     rw[Ov,Nat.min_eq_left hlen]at this
     exact this
  ·cases hf
 ·cases hf
  exact OC m h hb
theorem OJ (m:aq P C ω w0 C0 hp w):∀ {xs fh:List AVal} {vs:List Value},y5 hp xs=I fh→aF C xs vs→qr 0 fh=Ek→aF (.bw (jw C hp w)) fh vs
 | [],fh,vs,hf,h,_=>by
  simp only[y5,I.injEq]at hf
  subst hf
  cases h
  exact .nil
 |x::xs,fh,vs,hf,h,hb=>by
  simp only[y5]at hf
  split at hf
  ·rename_i y hy
   split at hf
   ·rename_i ys lA
    cases hf
    simp only[qr,Ea]at hb
    cases h with
    |cons _ _ v vs hx h=>exact .cons _ _ _ _ (OG m hy hx hb.1) (OJ m lA h hb.2)
   ·cases hf
  ·cases hf
theorem OL (m:aq P C ω w0 C0 hp w):∀ {xs fh:List AVal} {vs:List Value},aH.aW hp xs=I fh→aF C xs vs→qr 0 fh=Ek→aF (.bw (jw C hp w)) fh vs
 | [],fh,vs,hf,h,_=>by
  simp only[aH.aW,I.injEq]at hf
  subst hf
  cases h
  exact .nil
 |x::xs,fh,vs,hf,h,hb=>by
  cases h with
  |cons _ _ v vs hx h=>
   unfold aH.aW at hf
   split at hf
   ·cases ‹_::_=[]›
   ·rename_i cs oL heq
    cases heq
    split at hf
    ·rename_i y hy
     split at hf
     ·rename_i ys lA
      cases hf
      simp only[qr,below,Ea]at hb
      obtain⟨us,rfl,hu⟩:=bp.dO hx
      exact .cons _ _ _ _ (.agg _ _ (OJ m hy hu hb.1)) (OL m lA h hb.2)
     ·cases hf
    ·cases hf
   ·rename_i heq
    cases heq
    split at hf
    ·rename_i y hy
     split at hf
     ·rename_i ys lA
      cases hf
      simp only[qr,Ea]at hb
      exact .cons _ _ _ _ (OG m hy hx hb.1) (OL m lA h hb.2)
     ·cases hf
    ·cases hf
theorem qzy (m:aq P C ω w0 C0 hp w){x x' v}(hf:aH hp x=I x')(h:bp C x v)(hb:below 0 x'=Ek):bp (.bw (jw C hp w)) x' v:=by
 unfold aH at hf
 split at hf
 ·split at hf
  ·rename_i ys lA
   cases hf
   obtain⟨us,rfl,hu⟩:=h.dO
   exact .agg _ _ (OJ m lA hu (by simpa[below]using hb))
  ·cases hf
 ·split at hf
  ·rename_i ys lA
   cases hf
   cases h with
   |av _ vs hu=>exact .av _ _ (OL m lA hu (by simpa[below]using hb))
  ·cases hf
 ·exact OG m hf h hb
end
def vu:je→Exit
 | .normal=>.normal
 | .exit id=>.exit id
 | .ret=>.ret
def yn (ρ:Option Nat):Fence:={ Fence.wide with round:=ρ }
theorem X9 {ρ n P f args w R}:CallsIn (yn ρ) n P f args w R↔CallsIn Fence.wide n P f args w R:=Iff.rfl
def Marks (C:az)(B:Nat)(ds:List Deferred):Prop:=∃rs:List Nat,ds=rs.map (fun r=>{ target:=.collected r,args:=#[] })∧rs.Nodup∧∀r∈rs,C.D r∧B≤r
theorem Marks.mono {C C' B ds}(h:Marks C B ds)(hle:C.le C'):Marks C' B ds:=
 let ⟨rs,h1,h2,h3⟩:=h; ⟨rs,h1,h2,fun r hr=>⟨hle.d r (h3 r hr).1,(h3 r hr).2⟩⟩
theorem Marks.nil {C B}:Marks C B []:=⟨[],rfl,List.nodup_nil,by simp⟩
def bV (P:Program)(xc:XC):Prop:=
 ∀(ρ:Option Nat) (nt:Nat) (c:Code) (ca:au) (st aN:aV) (x:je),CR P nt c ca→(ρ≠H2→za ca=Ek)→xc ca st=I (x,aN) →
  ∀(C:az) (ω:Nat→Option Loc) (w0:World) (C0:az) (a:Act) (w:World),aq P C ω w0 C0 st.heap w→ai C ω w w0.heap.size st.env a.tmps→a.tmps.size=nt→Marks C w0.heap.size a.defers →
   c.wpIn (yn ρ) 0 P (fun e a' w'=>e=vu x∧a'.tmps.size=nt∧∃C' ω',C.le C'∧Marks C' w0.heap.size a'.defers∧aq P C' ω' w0 C0 aN.heap w'∧ai C' ω' w' w0.heap.size aN.env a'.tmps) a w
def IsoCall (P:Program)(k:Nat)(args:List AVal)(v:AVal)(ow:Bool):Prop:=
 ∀(K:Nat→Nat→Option Value) (w:World) (vs:List Value),Tabs P w →
  (∀r o u,K r o=I u→w.cell? ⟨r,o,H2⟩=I u)→(∀r o u,K r o=I u→u.oneCell'=Ek)→aF (.bw K) args vs →
  CallsIn Fence.wide 0 P k ⟨vs⟩ w fun e w'=>∃u K',e=.returned u∧Ext w w'∧(∀r o x,K r o=I x→K' r o=I x)∧(∀r o,r<w.heap.size→K' r o=K r o) ∧
   (∀r o x,K' r o=I x→w'.cell? ⟨r,o,H2⟩=I x)∧(∀r o x,K' r o=I x→x.oneCell'=Ek)∧bp (.bw K') v u ∧
   (ow=Ek→∃ℓ ω',aB (.bw K') ω' w' w.heap.size ℓ v u)
def Enters (P : Program) (k : Nat) : Prop := ∃ fn, P.funcs[k]? = I fn ∧ fn.name ≠ "runtime.NumGoroutine" ∧ fn.body.isSome
def vw (P:Program)(k:Nat)(args:List AVal)(h:ql)(v:AVal)(ow:Bool)(h':ql):Prop:=
 ∀(C:az) (ω:Nat→Option Loc) (w:World) (vs:List Value),aF C args vs→aq P C ω w C h w →
  CallsIn Fence.wide 0 P k ⟨vs⟩ w fun e w'=>∃u C' ω',e=.returned u∧C.le C'∧aq P C' ω' w C h' w'∧bp C' v u∧(ow=Ek→aB C' ω' w' w.heap.size (.slot 0) v u)
def OM (P:Program)(k:Nat)(es:List (AVal×AVal)):Prop:=
 ∀(K:Nat→Nat→Option Value) (w:World),Tabs P w →
  (∀r o u,K r o=I u→w.cell? ⟨r,o,H2⟩=I u)→(∀r o u,K r o=I u→u.oneCell'=Ek) →
  CallsIn Fence.wide 0 P k ⟨[]⟩ w fun e w'=>∃q K' bE clock,e=.returned (.map (I q))∧Ext w w'∧(∀r o x,K r o=I x→K' r o=I x)∧(∀r o,r<w.heap.size→K' r o=K r o) ∧
   (∀r o x,K' r o=I x→w'.cell? ⟨r,o,H2⟩=I x)∧(∀r o x,K' r o=I x→x.oneCell'=Ek)∧w.heap.size≤q∧w'.heap[q]?=I (.map bE clock)∧bU (.bw K') es bE.toList
structure bu (P:Program)(p:jg):Prop where
 fn:∀k f,p.bn k=I f→∃fn h,P.funcs[k]?=I fn∧CQ P h fn=I f
 eW:∀k f,p.bM k=I f→Enters P k∧∀args v o,f args=I (v,o)→jQ v=Ek→qr 0 args=Ek→IsoCall P k args v o
 mixed:P.follows .mixedOrders=Ek
 dY:∀k f,p.bR k=I f→Enters P k∧∀args h v o h',f args h=I (v,o,h')→vw P k args h v o h':=by intro k f h;cases h
 maps:∀k es,p.maps k=I es→Enters P k∧OM P k es:=by intro k f h;cases h
theorem OO {P h fn f} (hc : CQ P h fn = I f) : ∃ c, fn.body = I c ∧ yo P h fn.ntmps c = I f.body ∧ uU P fn.results.toList = I f.results ∧ f.ntmps = fn.ntmps ∧ fn.name ≠ "runtime.NumGoroutine" := by
 unfold CQ at hc
 split at hc
 ·rename_i c hb
  split at hc
  ·rename_i b rs h1 h2
   split at hc
   ·cases hc
   ·rename_i hn
    cases hc
    exact⟨c,hb,h1,h2,rfl,by simpa using hn⟩
  ·cases hc
 ·cases hc
theorem bu.enters {P p}(h:bu P p){k f}(hf:p.bn k=I f):Enters P k:=by
 obtain⟨fn,hh,h1,h2⟩:=h.fn k f hf
 obtain⟨c,hb,_,_,_,hn⟩:=OO h2
 exact⟨fn,h1,hn,by simp[hb]⟩
theorem Ya {P k}(h:Enters P k)(args:Array Value)(w:World):(callFunc k args).run P w=.ok (.enter k args) w:=by
 obtain⟨fn,h1,h2,h3⟩:=h
 simp[callFunc,h1,h2,Option.isNone_iff_eq_none,Option.isSome_iff_ne_none.1 h3]
section
variable {P:Program}{p:jg}{xc:XC}{C C0:az}{ω:Nat→Option Loc}{w w0:World}{hp:ql}{env:Env}{tmps:Array Value}{B:Nat}{a:Act}{o:Oper}{d:Loc}
theorem Yb:∀ {args:List AVal} {i s:Nat} {x:AVal×Bool},ja s (nc i args)=I x→∃j,s=i+j∧args[j]?=I x.1∧x.2=Hy
 | [],_,_,_,h=>by simp[nc,ja]at h
 |v::args,i,s,x,h=>by
  simp only[nc,ja]at h
  cases hb:Hu i s with
  |true=>
   simp only[hb,cond_true,I.injEq]at h
   subst h
   exact⟨0,(Eb hb).symm,rfl,rfl⟩
  |false=>
   simp only[hb,cond_false]at h
   obtain⟨j,h1,h2,h3⟩:=Yb h
   exact⟨j+1,by omega,by simpa using h2,h3⟩
theorem q3t {r o v}(h:w.cell? ⟨r,o,H2⟩=I v):∃cs t fr,w.heap[r]?=I (.cells cs t fr):=by
 unfold World.cell? at h
 split at h
 ·rename_i cs t fr hg;exact⟨cs,t,fr,hg⟩
 ·cases h
theorem aq.other {D'}(m:aq P C ω w0 C0 hp w){r w'}(hu:lG w w' r)(hβ:∀b,C.β b≠I r)(hr:w0.heap.size≤r)(jV:∀cs t fr,w.heap[r]?≠I (.cells cs t fr))(hD:∀k,D' k→C.D k∧k≠r)(h0:∀k,C0.D k→D' k):
  aq P { C with D:=D' } ω w0 C0 hp w':=by
 have cn:∀ {B:Nat} {ℓ:Loc} {x:AVal} {v:Value},aB C ω w B ℓ x v→aB { C with D:=D' } ω w' B ℓ x v:=by
  intro B ℓ x v ho
  unfold aB at *
  split at ho
  ·obtain⟨h1,h2,h3,h4,h8,⟨cells,elem,h5,h6⟩,h7⟩:=ho
   refine⟨h1,h2,h3,h4,h8,⟨cells,elem,?_,h6⟩,h7⟩
   rw[hu.other _ (fun h=>jV _ _ _ (h▸h5))]
   exact h5
  ·obtain⟨h1,h2,h3,h4,h8,⟨cells,elem,h5,h6⟩,h7⟩:=ho
   refine⟨h1,h2,h3,h4,h8,⟨cells,elem,?_,h6⟩,h7⟩
   rw[hu.other _ (fun h=>jV _ _ _ (h▸h5))]
   exact h5
  ·trivial
 refine { base:=m.base,know:=?_,cE:=m.cE,apart:=m.apart,inj:=m.inj,lt:=?_,size:=?_,frame:=?_,eC:=?_,os:=hu.os.trans m.os,output:=hu.output.trans m.output,fresh:=m.fresh,grown:=⟨m.grown.k,m.grown.b,m.grown.w,h0,m.grown.t⟩,old:=m.old,box:=?_,gK:=fun q hq=>by rw[hu.size];exact m.gK q hq }
 ·intro k p v hk
  have hc:=m.know _ _ _ hk
  have aS:k≠r:=fun h=>by
   obtain⟨cs,t,fr,hg⟩:=q3t hc
   exact jV cs t fr (h▸hg)
  simp only[World.cell?]at hc ⊢
  rw[hu.other k aS];exact hc
 ·intro b p hb
  rw[hu.size];exact m.lt b p hb
 ·rw[hu.size];exact m.size
 ·intro k hk hn hw
  rw[hu.other k (by omega)];exact m.frame k hk hn hw
 ·intro k hk
  obtain⟨h1,h2⟩:=hD k hk
  rw[hu.other k h2];exact m.eC k h1
 ·intro b x p hx hb
  refine aX.imp (C:=C) (C':={ C with D:=D' }) ⟨fun _ _ _ h=>h,fun _ _ h=>h⟩ (hu.other p (fun h=>hβ b (h▸hb))) (fun j y v ho=>cn ho) (m.box b x p hx hb) (hq:=fun q n cap k=>by
   obtain⟨_,_,_,_,_,⟨cells,elem,h5,_⟩,_⟩:=k
   exact hu.other q (fun h=>jV _ _ _ (h▸h5)))
theorem aB.jE {D' r w'}(hu:lG w w' r)(jV:∀cs t fr,w.heap[r]?≠I (.cells cs t fr)){ℓ x v}(ho:aB C ω w B ℓ x v):aB { C with D:=D' } ω w' B ℓ x v:=by
 unfold aB at *
 split at ho
 ·obtain⟨h1,h2,h3,h4,h8,⟨cells,elem,h5,h6⟩,h7⟩:=ho
  refine⟨h1,h2,h3,h4,h8,⟨cells,elem,?_,h6⟩,h7⟩
  rw[hu.other _ (fun h=>jV _ _ _ (h▸h5))]
  exact h5
 ·obtain⟨h1,h2,h3,h4,h8,⟨cells,elem,h5,h6⟩,h7⟩:=ho
  refine⟨h1,h2,h3,h4,h8,⟨cells,elem,?_,h6⟩,h7⟩
  rw[hu.other _ (fun h=>jV _ _ _ (h▸h5))]
  exact h5
 ·trivial
theorem bp.oQ {D' x v}(h:bp C x v):bp { C with D:=D' } x v:=ay.imp (C:=C) (C':={ C with D:=D' }) ⟨fun _ _ _ h=>h,fun _ _ h=>h⟩ h
theorem ai.jE {D' r w'}(hu:lG w w' r)(jV:∀cs t fr,w.heap[r]?≠I (.cells cs t fr))(e:ai C ω w B env tmps):ai { C with D:=D' } ω w' B env tmps:=
 fun s x hs=>let ⟨v,h1,h2,h3⟩:=e s x hs; ⟨v,h1,bp.oQ h2,fun h=>(h3 h).jE hu jV⟩
theorem Yc {fn R}:∀(rs:List Nat) (C':az) (w:World),C.le C'→aq P C' ω w0 C hp w→ai C' ω w w0.heap.size env tmps→rs.Nodup→(∀r∈rs,C'.D r∧w0.heap.size≤r)→(∀k,C.D k→k<w0.heap.size) →
  (∀(C2:az) (w2:World),C.le C2→C2.D=C.D→aq P C2 ω w0 C hp w2→ai C2 ω w2 w0.heap.size env tmps→∃v,(results fn tmps).run P w2=.ok v w2∧R (.returned v) w2) →
  LeavesInM Fence.wide 0 P fn tmps R (rs.map fun r=>{ target:=.collected r,args:=#[] }) .returning w
 | [],C',w,hle,m,e,_,_,hD,dI=>by
  have Yd:∀ {k},C.D k→C'.D k:=fun h=>hle.d _ h
  -- the marks are forgotten
  have m2:aq P { C' with D:=C.D } ω w0 C hp w:={ m with
   eC:=fun r hr=>m.eC r (Yd hr)
   grown:=⟨m.grown.k,m.grown.b,m.grown.w,fun _ h=>h,m.grown.t⟩
   box:=fun b x r hx hb=>aX.imp (C:=C') (C':={ C' with D:=C.D }) ⟨fun _ _ _ h=>h,fun _ _ h=>h⟩ rfl (fun j y v ho=>ho) (m.box b x r hx hb) }
  have e2:ai { C' with D:=C.D } ω w w0.heap.size env tmps:=fun s x hs=>let ⟨v,h1,h2,h3⟩:=e s x hs; ⟨v,h1,bp.oQ h2,h3⟩
  exact dI { C' with D:=C.D } w ⟨hle.k,hle.b,hle.w,fun _ h=>h,hle.t⟩ rfl m2 e2
 |r::rs,C',w,hle,m,e,oF,Dx,hD,dI=>by
  obtain⟨hDr,hBr⟩:=Dx r (by simp)
  have hg:=m.eC r hDr
  have aC:=(Ga.1 hg).1
  have jV:∀cs t fr,w.heap[r]?≠I (.cells cs t fr):=fun cs t fr h=>by rw[hg]at h;cases h
  have hu:lG w (zy w r (.deferred H2)) r:=Bb aC (by simp)
  have hβ:∀b,C'.β b≠I r:=by
   intro b hb
   obtain⟨x,hx⟩:=Oc (m.lt b r hb).2▸(⟨_,rfl⟩:∃x,I (hp[b]'(m.lt b r hb).2)=I x)
   have h0:=m.box b x r hx hb
   cases x with
   |hole=>exact h0
   |cells cs=>obtain⟨vs,elem,h1,_⟩:=h0;rw[hg]at h1;cases h1
   |map es=>obtain⟨bE,clock,h1,_⟩:=h0;rw[hg]at h1;cases h1
   |iter s pos=>have h1:w.heap[r]?=_:=h0;rw[hg]at h1;cases h1
   |loop l=>obtain⟨lp,h1,_⟩:=h0;rw[hg]at h1;cases h1
   |fm t e l=>obtain⟨p,v,h1,_⟩:=h0;rw[hg]at h1;cases h1
   |dead=>obtain⟨cs,t,h1⟩:=h0;rw[hg]at h1;cases h1
   |vec sz bm xs=>obtain⟨_,_,_,_,_,_,cs,t,h1⟩:=h0;rw[hg]at h1;cases h1
  have aY:(Instr.takeDeferred r).run P w=.ok [] (zy w r (.deferred H2)):=by
   have hs:=tA (P:=P) (x:=.deferred H2) hg (by simp)
   simp only[Instr.takeDeferred,Sem.run_bind,yw hg (by simp),Result.andThen_ok,hs,Sem.run_pure]
  refine⟨by simp,.inl ⟨r,_,rfl,aY,?_⟩⟩
  have Dy:=List.nodup_cons.1 oF
  have m2:=m.other (D':=fun k=>C'.D k∧k≠r) hu hβ hBr jV (fun k h=>h) (fun k h=>⟨hle.d k h,fun hk=>by have:=hD k h;omega⟩)
  exact Yc rs { C' with D:=fun k=>C'.D k∧k≠r } _ ⟨hle.k,hle.b,hle.w,fun k h=>⟨hle.d k h,fun hk=>by have:=hD k h;omega⟩,hle.t⟩ m2 (e.jE hu jV) Dy.2
   (fun k hk=>⟨⟨(Dx k (by simp[hk])).1,fun h=>Dy.1 (h▸hk)⟩,(Dx k (by simp[hk])).2⟩) hD dI
theorem qzt (hx:bV P xc){k fn h f}(hfn:P.funcs[k]?=I fn)(hc:CQ P h fn=I f){args v ow h'}(hr:nF xc f args hp=I (v,ow,h')){vs}(dF:aF C args vs)(m:aq P C ω w C hp w):
  CallsIn Fence.wide 0 P k ⟨vs⟩ w fun e w'=>∃u C' ω',e=.returned u∧C.le C'∧aq P C' ω' w C h' w'∧bp C' v u∧(ow=Ek→aB C' ω' w' w.heap.size (.slot 0) v u):=by
 obtain⟨c,hb,h1,h2,h3,_⟩:=OO hc
 unfold nF at hr
 have hD:∀k,C.D k→k<w.heap.size:=fun k hk=>(Ga.1 (m.eC k hk)).1
 cases hle:Jp args.length f.ntmps with
 |false=>simp[hle]at hr
 |true=>
  simp only[hle,cond_true]at hr
  have hlen:=En hle
  have rS:=dF.length
  refine callsIn_of_wp_marks hfn hb trivial ?_
  have cr:((⟨vs⟩:Array Value)++Eal (fn.ntmps-(⟨vs⟩:Array Value).size) undef).size=fn.ntmps:=by
   simp;omega
  have Dz:ai C ω w w.heap.size (nc 0 args) ((⟨vs⟩:Array Value)++Eal (fn.ntmps-(⟨vs⟩:Array Value).size) undef):=by
   intro s x hx
   obtain⟨j,rfl,hj,hf⟩:=Yb hx
   obtain⟨u,k1,k2⟩:=dF.get hj
   have aC:j<vs.length:=(Gc.1 k1).1
   refine⟨u,?_,k2,by simp[hf]⟩
   rw[Qp,Array.getElem?_append_left (by simpa using aC)]
   simpa using k1
  have fin:∀(st:aV) (a':Act) (w':World) (C':az) (ω':Nat→Option Loc),C.le C'→Marks C' w.heap.size a'.defers→aq P C' ω' w C st.heap w'→ai C' ω' w' w.heap.size st.env a'.tmps →
    (match ya st f.results with
     |some xs=>I ((jj xs).1,(jj xs).2,yf st f.results)
     |none=>H2)=I (v,ow,h') →
    LeavesInM Fence.wide 0 P fn a'.tmps (fun e w'=>∃u C' ω',e=.returned u∧C.le C'∧aq P C' ω' w C h' w'∧bp C' v u∧(ow=Ek→aB C' ω' w' w.heap.size (.slot 0) v u)) a'.defers .returning w':=by
   intro st a' w' C' ω' hle ⟨rs,hds,oF,Dx⟩ m' e' hr
   rw[hds]
   refine Yc (C:=C) (ω:=ω') (w0:=w) (hp:=st.heap) (env:=st.env) rs C' w' hle m' e' oF Dx hD ?_
   intro C2 w2 ik _ m2 e2
   split at hr
   ·rename_i xs nH
    cases hr
    obtain⟨u,ω2,k1,k2,k3,k4⟩:=qzr (fn:=fn) m2 e2 h2 nH
    exact⟨u,k1,u,C2,ω2,rfl,ik,k2,k3,k4⟩
   ·cases hr
  split at hr
  ·rename_i st bH
   refine wpIn_mono (hx H2 fn.ntmps c f.body _ _ _ ⟨h,h1⟩ (fun h=>absurd rfl h) bH C ω w C _ w m Dz cr Marks.nil) ?_
   rintro e a' w' ⟨rfl,q1,C',ω',q3,q2,q4,q5⟩
   exact fin st a' w' C' ω' q3 q2 q4 q5 hr
  ·rename_i st bH
   refine wpIn_mono (hx H2 fn.ntmps c f.body _ _ _ ⟨h,h1⟩ (fun h=>absurd rfl h) bH C ω w C _ w m Dz cr Marks.nil) ?_
   rintro e a' w' ⟨rfl,q1,C',ω',q3,q2,q4,q5⟩
   exact fin st a' w' C' ω' q3 q2 q4 q5 hr
  ·cases hr
theorem Ye {K}(ht:Tabs P w)(h1:∀r o u,K r o=I u→w.cell? ⟨r,o,H2⟩=I u)(h2:∀r o u,K r o=I u→u.oneCell'=Ek):aq P (.bw K) (fun _=>H2) w (.bw K) [] w where
 base:=⟨ht,fun g _=>⟨fun b h=>(by cases h),fun h=>h⟩⟩
 know:=h1
 cE:=h2
 apart:=by simp[az.bw]
 inj:=by simp[az.bw]
 lt:=by simp[az.bw]
 size:=Nat.le_refl _
 frame _ _ _ _:=rfl
 eC _ h:=h.elim
 os:=rfl
 output:=rfl
 fresh:=by simp[az.bw]
 grown:=az.le_refl _
 old _ _ _ _:=rfl
 box:=by simp
 gK _ h:=h.elim
theorem DA (hp:bu P p)(hx:bV P xc){k args h h' v ow}(hr:ah p xc k args h=I (v,ow,h')):Enters P k∧vw P k args h v ow h':=by
 unfold ah at hr
 split at hr
 ·rename_i f hf
  obtain⟨fn,hh,hfn,DB⟩:=hp.fn k f hf
  exact⟨hp.enters hf,fun C ω w vs dF m=>qzt hx hfn DB hr dF m⟩
 ·split at hr
  ·rename_i f hf
   obtain⟨he,hs⟩:=hp.dY k f hf
   exact⟨he,hs _ _ _ _ _ hr⟩
  ·cases hr
theorem bU.bw {es ms}(h:bU C es ms):kx 0 es=Ek→bU (.bw C.K) es ms:=by
 induction h with
 |nil=>exact fun _=>.nil
 |cons k v es m ms hk hv _ ih=>
  intro hb
  simp only[kx,Ea]at hb
  exact .cons _ _ _ _ _ (ay.shift (C:=C) (C':=.bw C.K) 0 (fun _ _ _ h=>h) (fun b r aC=>by omega) hk hb.1.1) (ay.shift (C:=C) (C':=.bw C.K) 0 (fun _ _ _ h=>h) (fun b r aC=>by omega) hv hb.1.2) (ih hb.2)
theorem q25 (hp:bu P p)(hx:bV P xc){k b ow h1 es}(hr:ah p xc k [] []=I (.map b,ow,h1))(hb:h1[b]?=I (.map es))(he:kx 0 es=Ek):Enters P k∧OM P k es:=by
 obtain⟨kN,lJ⟩:=DA hp hx hr
 refine⟨kN,fun K w ht g1 g2=>?_⟩
 refine CallsIn.mono (lJ _ _ _ [] .nil (Ye (P:=P) ht g1 g2)) ?_
 rintro e w' ⟨u,C',ω',rfl,hle,m',fq,_⟩
 cases fq with
 |map _ q hq=>
  obtain⟨bE,clock,k1,k2⟩:=m'.box b _ q hb hq
  refine⟨q,C'.K,bE,clock,rfl,⟨m'.size,fun r hr=>m'.frame r hr (by simp[az.bw]) (by simp[az.bw]),m'.os,m'.output⟩,hle.1,fun r o hr=>m'.old r o hr (by simp[az.bw]),m'.know,m'.cE,?_,k1,k2.bw he⟩
  rcases m'.fresh b q hq with h|h|h
  ·cases h
  ·exact h
  ·exact h.elim
theorem HJ (hp:bu P p)(hx:bV P xc){k args v ow}(hr:ae p xc k args=I (v,ow))(hb:qr 0 args=Ek):Enters P k∧jQ v=Ek∧IsoCall P k args v ow:=by
 unfold ae at hr
 split at hr
 ·rename_i f hf
  obtain⟨he,DC⟩:=hp.eW k f hf
  split at hr
  ·rename_i v' o' DE
   cases iL:jQ v' with
   |false=>simp[iL]at hr
   |true=>
    simp only[iL,cond_true]at hr
    cases hr
    exact⟨he,iL,DC args _ _ DE iL hb⟩
  ·cases hr
 ·split at hr
  ·rename_i v0 o' h' DE
   split at hr
   ·rename_i v' Bf
    cases iL:jQ v' with
    |false=>simp[iL]at hr
    |true=>
     simp only[iL,cond_true]at hr
     cases hr
     obtain⟨kN,lJ⟩:=DA hp hx DE
     ·refine⟨kN,iL,?_⟩
      intro K w vs ht h1 h2 dF
      have:=lJ _ _ _ _ dF (Ye (P:=P) ht h1 h2)
      refine CallsIn.mono this ?_
      rintro e w' ⟨u,C',ω',rfl,hle,m',fq,cn⟩
      refine⟨u,jw C' h' w',rfl,?_,fun r o x hr=>Dv m' (hle.1 r o x hr),fun r o hr=>?_,fun r o x hr=>(HI m' hr).1,fun r o x hr=>(HI m' hr).2,qzy m' Bf fq iL,?_⟩
      ·exact⟨m'.size,fun r hr=>m'.frame r hr (by simp[az.bw]) (by simp[az.bw]),m'.os,m'.output⟩
      ·have hold:=m'.old r o hr (by simp[az.bw])
       unfold jw
       rw[if_neg]
       ·exact hold
       intro hh
       have:=q5o hle.w m' hh
       omega
      ·intro ho
       simp only[Ea]at ho
       have hℓ:=cn ho.1
       refine⟨.slot 0,ω',?_⟩
       cases v0 with
       |list n sz xs=>
        have DF:v=.list n sz xs:=by
         simp only[aH,y6,I.injEq]at Bf
         exact Bf.symm
        subst DF
        unfold aB at *
        split at hℓ
        ·obtain⟨g1,g2,g3,g4,g5,g6,g7⟩:=hℓ
         refine⟨g1,.inl (g2.resolve_right (by rw[hle.w];exact fun h=>h)),by simp[az.bw],g4,g5,g6,fun o tC=>?_⟩
         show jw C' h' w' _ o=H2
         unfold jw
         rw[if_neg]
         ·exact g7 o tC
         ·rintro (⟨b,hb⟩|hh)
          ·exact g3 b hb
          ·rcases hh.is m' with⟨b,hb⟩|⟨b,_,_,_,_,_,_,h2⟩
           ·exact g3 b hb
           ·have:=h2.1;rw[g1]at this;simp at this
        all_goals trivial
       |_=>exact absurd ho.2 (by simp[AVal.b6])
   ·cases hr
  ·cases hr
end
section
variable {P:Program}{p:jg}{xc:XC}{C C0 C1:az}{ω ω1:Nat→Option Loc}{w w' w0:World}{hp h1:ql}{env:Env}{tmps:Array Value}{B:Nat}{a:Act}{o:Oper}{d:Loc}
theorem aB.grow {K' ℓ x v}(hx:Ext w w')(hK:∀r o,r<w.heap.size→K' r o=C.K r o)(ho:aB C ω w B ℓ x v):aB { C with K:=K' } ω w' B ℓ x v:=by
 unfold aB at *
 split at ho
 ·obtain⟨h1,h2,h3,h4,h8,⟨cells,elem,h5,h6⟩,h7⟩:=ho
  have aC:=(Ga.1 h5).1
  exact⟨h1,h2,h3,h4,h8,⟨cells,elem,hx.get h5,h6⟩,fun o ho=>by
   show K' _ o=H2
   rw[hK _ o aC];exact h7 o ho⟩
 ·obtain⟨h1,h2,h3,h4,h8,⟨cells,elem,h5,h6⟩,h7⟩:=ho
  have aC:=(Ga.1 h5).1
  exact⟨h1,h2,h3,h4,h8,⟨cells,elem,hx.get h5,h6⟩,fun o ho=>by
   show K' _ o=H2
   rw[hK _ o aC];exact h7 o ho⟩
 ·trivial
theorem aq.bw {K'}(m:aq P C ω w0 C0 hp w)(hx:Ext w w')(hle:∀r o x,C.K r o=I x→K' r o=I x)(hK:∀r o,r<w.heap.size→K' r o=C.K r o)(hk:∀r o x,K' r o=I x→w'.cell? ⟨r,o,H2⟩=I x)(h1:∀r o x,K' r o=I x→x.oneCell'=Ek):
  aq P { C with K:=K' } ω w0 C0 hp w' where
 base:=m.base
 know:=hk
 cE:=h1
 apart b r o hb:=by
  show K' r o=H2
  rw[hK r o (m.lt b r hb).1];exact m.apart b r o hb
 inj:=m.inj
 lt b r hb:=⟨Ok (m.lt b r hb).1 hx.size,(m.lt b r hb).2⟩
 size:=N7 m.size hx.size
 frame:=(m.ext hx).frame
 eC:=(m.ext hx).eC
 os:=(m.ext hx).os
 output:=(m.ext hx).output
 fresh:=m.fresh
 grown:=az.le_trans m.grown ⟨hle,fun _ _ h=>h,rfl,fun _ h=>h,fun _ h=>h⟩
 old r o hr hw:=by
  show K' r o=_
  rw[hK r o (Ok hr m.size)];exact m.old r o hr hw
 box b x r hb hr:=by
  have h0:=m.box b x r hb hr
  -- in the new world first,then in the richer context
  cases x with
  |hole=>exact h0
  |cells cs=>
   obtain⟨vs,elem,g1,g2,g3⟩:=h0
   exact⟨vs,elem,hx.get g1,g2,fun j c hc=>let ⟨v,a,q,b,d⟩:=g3 j c hc; ⟨v,a,q,ay.mono (C':={ C with K:=K' }) ⟨hle,fun _ _ h=>h,rfl,fun _ h=>h,fun _ h=>h⟩ b,fun e=>(d e).grow hx hK⟩⟩
  |map es=>obtain⟨bE,clock,g1,g2⟩:=h0;exact⟨bE,clock,hx.get g1,bU.mono (C:=C) (C':={ C with K:=K' }) ⟨hle,fun _ _ h=>h,rfl,fun _ h=>h,fun _ h=>h⟩ g2⟩
  |iter s pos=>exact hx.get h0
  |loop l=>obtain⟨lp,g1,g2⟩:=h0;exact⟨lp,hx.get g1,bP.mono (C:=C) (C':={ C with K:=K' }) ⟨hle,fun _ _ h=>h,rfl,fun _ h=>h,fun _ h=>h⟩ g2⟩
  |fm t e l=>obtain⟨p,v,g1,g2,g3,g4⟩:=h0;exact⟨p,v,hx.get g1,g2,g3,g4.grow hx hK⟩
  |dead=>obtain⟨cs,t,g1⟩:=h0;exact⟨cs,t,hx.get g1⟩
  |vec sz bm xs=>
   have hg:∀ {k:Nat} {c:Array Value} {t:TypeId},w.heap[k]?=I (.cells c t (0,0))→w'.heap[k]?=w.heap[k]?:=fun hk=>by rw[hx.get hk,hk]
   obtain⟨_,_,_,_,_,_,cs,t,g1⟩:=id h0
   refine dv.imp hle (fun _ h=>h) (fun _ h _=>h) (hg g1) (fun q n cap k=>⟨?_,k.grow hx hK⟩) h0
   obtain⟨_,_,_,_,_,⟨cells,elem,h5,_⟩,_⟩:=k
   exact hg h5
 gK q hq:=Ok (m.gK q hq) hx.size
theorem ai.bw {K'}(e:ai C ω w B env tmps)(hx:Ext w w')(hle:∀r o x,C.K r o=I x→K' r o=I x)(hK:∀r o,r<w.heap.size→K' r o=C.K r o):ai { C with K:=K' } ω w' B env tmps:=
 fun s x hs=>let ⟨v,h1,h2,h3⟩:=e s x hs; ⟨v,h1,ay.mono (C':={ C with K:=K' }) ⟨hle,fun _ _ h=>h,rfl,fun _ h=>h,fun _ h=>h⟩ h2,fun h=>(h3 h).grow hx hK⟩
theorem Yf (m:aq P C ω w0 C0 hp w)(e:ai C ω w w0.heap.size env tmps){v ow u K'}(hx:Ext w w')(hle:∀r o x,C.K r o=I x→K' r o=I x)(hK:∀r o,r<w.heap.size→K' r o=C.K r o)(hk:∀r o x,K' r o=I x→w'.cell? ⟨r,o,H2⟩=I x)(h1:∀r o x,K' r o=I x→x.oneCell'=Ek)
  (iL:jQ v=Ek) (hr:bp (.bw K') v u) (ho:ow=Ek→∃ℓ ω',aB (.bw K') ω' w' w.heap.size ℓ v u):jt P C0 w0 C tmps d env ⟨v,ow,H2,hp⟩ u w':=by
 have m':=m.bw hx hle hK hk h1
 have e':=e.bw hx hle hK
 have iF:bp { C with K:=K' } v u:=ay.shift (C:=.bw K') (C':={ C with K:=K' }) 0 (fun _ _ _ h=>h) (fun b r aC=>by omega) hr iL
 have cg:C.le { C with K:=K' }:=⟨hle,fun _ _ h=>h,rfl,fun _ h=>h,fun _ h=>h⟩
 by_cases Yg:∃(n:Bool) (sz:Nat) (xs:List AVal) (ad:Addr) (len cap:Nat),v=.list n sz xs∧u=.slice (I ad) len cap∧ow=Ek
 ·obtain⟨n,sz,xs,ad,len,cap,rfl,rfl,rfl⟩:=Yg
  obtain⟨ℓ,ω',g1,OP,g3,g4,g5,g6,g7⟩:=ho rfl
  have g2:w.heap.size≤ad.block:=OP.resolve_right (fun h=>h)
  have vz:∀ℓ x v,aB C ω w w0.heap.size ℓ x v→aB { C with K:=K' } (b4 ω ad.block d) w' w0.heap.size ℓ x v:=fun ℓ x v h=>by
   have h2:=(h.fresh (ℓ':=d) g2).grow hx hK
   exact h2
  refine⟨{ C with K:=K' },b4 ω ad.block d,cg,?_,?_,iF,fun _=>?_⟩
  ·have:=(m.iW ad.block d g2).bw hx hle hK hk h1
   exact this
  ·exact fun s x hs=>let ⟨v,h1,h2,h3⟩:=e s x hs; ⟨v,h1,ay.mono cg h2,fun h=>vz _ _ _ (h3 h)⟩
  ·refine⟨by simp[b4],.inl (N7 m.size g2),fun b hb=>?_,g4,g5,g6,g7⟩
   have:=(m.lt b _ hb).1
   omega
 by_cases cS:∃(n:Nat) (ad:Addr),v=.ct n∧u=.pointer (I ad)∧ow=Ek
 ·obtain⟨n,ad,rfl,rfl,rfl⟩:=cS
  obtain⟨ℓ,ω',g1,OP,g3,g4,g5,g6,g7⟩:=ho rfl
  have g2:w.heap.size≤ad.block:=OP.resolve_right (fun h=>h)
  have vz:∀ℓ x v,aB C ω w w0.heap.size ℓ x v→aB { C with K:=K' } (b4 ω ad.block d) w' w0.heap.size ℓ x v:=fun ℓ x v h=>by
   have h2:=(h.fresh (ℓ':=d) g2).grow hx hK
   exact h2
  refine⟨{ C with K:=K' },b4 ω ad.block d,cg,?_,?_,iF,fun _=>?_⟩
  ·have:=(m.iW ad.block d g2).bw hx hle hK hk h1
   exact this
  ·exact fun s x hs=>let ⟨v,h1,h2,h3⟩:=e s x hs; ⟨v,h1,ay.mono cg h2,fun h=>vz _ _ _ (h3 h)⟩
  ·refine⟨by simp[b4],.inl (N7 m.size g2),fun b hb=>?_,g4,g5,g6,g7⟩
   have:=(m.lt b _ hb).1
   omega
 ·refine⟨{ C with K:=K' },ω,cg,m',e',iF,fun h=>?_⟩
  cases v with
  |list n sz xs=>
   cases u with
   |slice q len cap=>
    cases q with
    |some ad=>exact absurd ⟨_,_,_,_,_,_,rfl,rfl,h⟩ Yg
    |none=>trivial
   |_=>trivial
  |ct n=>
   cases u with
   |pointer q=>
    cases q with
    |some ad=>exact absurd ⟨_,_,rfl,rfl,h⟩ cS
    |none=>trivial
   |_=>trivial
  |_=>trivial
theorem jbn (m:aq P C ω w0 C0 hp w)(e:ai C ω w w0.heap.size env tmps){b q K' es bE clock}(hx:Ext w w')(hle:∀r o x,C.K r o=I x→K' r o=I x)(hK:∀r o,r<w.heap.size→K' r o=C.K r o)(hk:∀r o x,K' r o=I x→w'.cell? ⟨r,o,H2⟩=I x)(h1:∀r o x,K' r o=I x→x.oneCell'=Ek)
  (hh:hp[b]?=I .hole) (hq:w.heap.size≤q) (hg:w'.heap[q]?=I (.map bE clock)) (hr:bU (.bw K') es bE.toList):jt P C0 w0 C tmps d env ⟨.map b,Hy,H2,hp.set b (.map es)⟩ (.map (I q)) w':=by
 have m':=m.bw hx hle hK hk h1
 have e':=e.bw hx hle hK
 have cg:C.le { C with K:=K' }:=⟨hle,fun _ _ h=>h,rfl,fun _ h=>h,fun _ h=>h⟩
 obtain⟨m2,e2,ik⟩:=m'.Dg e' hh hg (fun k hk=>by have:=(m.lt k q hk).1;omega) (N7 m.size hq) (bU.imp (C:=.bw K') (C':={ C with K:=K' }) ⟨fun _ _ _ h=>h,fun b r h=>by simp[az.bw]at h⟩ hr)
 exact⟨_,ω,az.le_trans cg ik,m2,e2,.map _ _ (by simp[az.box]),by simp⟩
theorem DG {C C' x v}(hp:l4 x=Ek)(h:bp C x v):bp C' x v:=by
 cases x<;>simp only[l4,Hz]at hp<;>cases h<;>constructor
theorem aq.vA (m:aq P C ω w0 C0 hp w)(e:ai C ω w w0.heap.size env tmps){b q K' cells}{t:TypeId}{cs}(hx:Ext w w')(hle:∀r o x,C.K r o=I x→K' r o=I x)(hK:∀r o,r<w.heap.size→K' r o=C.K r o)(hk:∀r o x,K' r o=I x→w'.cell? ⟨r,o,H2⟩=I x)(h1:∀r o x,K' r o=I x→x.oneCell'=Ek)
  (hq:w.heap.size≤q) (hn:∀o,K' q o=H2) (hh:hp[b]?=I .hole) (hg:w'.heap[q]?=I (.cells cells t (0,0))) (hl:cs.length≤cells.size)
  (hcs:∀(j:Nat) (c:AVal×Bool),cs[j]?=I c→∃v,cells[j]?=I v∧v.oneCell'=Ek∧bp (({ C with K:=K' }:az).box b q) c.1 v∧c.2=Hy):
  aq P (({ C with K:=K' }:az).box b q) ω w0 C0 (hp.set b (.cells cs)) w'∧ai (({ C with K:=K' }:az).box b q) ω w' w0.heap.size env tmps∧C.le (({ C with K:=K' }:az).box b q):=by
 have m':=m.bw hx hle hK hk h1
 have hβ:=De m hh
 have vr:C.le { C with K:=K' }:=⟨hle,fun _ _ h=>h,rfl,fun _ h=>h,fun _ h=>h⟩
 have ik:({ C with K:=K' }:az).le (({ C with K:=K' }:az).box b q):=az.jA (C:={ C with K:=K' }) (r:=q) hβ
 have cg:=az.le_trans vr ik
 have aC:b<hp.length:=(Gc.1 hh).1
 have HK:∀k,C.β k≠I q:=fun k hk=>by have:=(m.lt k q hk).1;omega
 have cn:∀ℓ x v,aB C ω w w0.heap.size ℓ x v→aB (({ C with K:=K' }:az).box b q) ω w' w0.heap.size ℓ x v:=fun ℓ x v h=>aB.grow (C:=C.box b q) hx hK (aB.box (.inl hq) h)
 refine⟨{ m' with apart:=?_,inj:=?_,lt:=?_,fresh:=?_,grown:=az.le_trans m'.grown ik,box:=?_ },?_,cg⟩
 ·intro k r o hk
  simp only[az.box]at hk
  split at hk
  ·cases hk;exact hn o
  ·exact m'.apart k r o hk
 ·intro k k' r hk ei
  simp only[az.box]at hk ei
  split at hk<;>split at ei
  ·rename_i h1 h2;rw[h1,h2]
  ·cases hk;exact absurd ei (HK k')
  ·cases ei;exact absurd hk (HK k)
  ·exact m.inj k k' r hk ei
 ·intro k r hk
  rw[N4]
  simp only[az.box]at hk
  split at hk
  ·rename_i h1;cases hk;subst h1;exact⟨(Ga.1 hg).1,aC⟩
  ·exact m'.lt k r hk
 ·intro k r hk
  simp only[az.box]at hk
  split at hk
  ·cases hk;exact .inr (.inl (N7 m.size hq))
  ·exact m.fresh k r hk
 ·intro k y r hy hk
  simp only[az.box]at hk
  split at hk
  ·rename_i h1
   subst h1
   cases hk
   rw[N5 aC]at hy
   cases hy
   refine⟨cells,t,hg,hl,fun j c hc=>?_⟩
   obtain⟨v,a1,a2,a3,a4⟩:=hcs j c hc
   exact⟨v,a1,a2,a3,fun h=>by rw[a4]at h;cases h⟩
  ·rename_i h1
   rw[Ec (Jq h1)]at hy
   have h0:=m.box k y r hy hk
   cases y with
   |hole=>exact h0
   |cells cs=>
    obtain⟨vs,elem,g1,g2,g3⟩:=h0
    exact⟨vs,elem,hx.get g1,g2,fun j c hc=>let ⟨v,a,q,b,d⟩:=g3 j c hc; ⟨v,a,q,ay.mono cg b,fun e=>cn _ _ _ (d e)⟩⟩
   |map es=>obtain⟨bE,clock,g1,g2⟩:=h0;exact⟨bE,clock,hx.get g1,bU.mono cg g2⟩
   |iter s pos=>exact hx.get h0
   |loop l=>obtain⟨lp,g1,g2⟩:=h0;exact⟨lp,hx.get g1,bP.mono cg g2⟩
   |fm t e l=>obtain⟨p,v,g1,g2,g3,g4⟩:=h0;exact⟨p,v,hx.get g1,g2,g3,cn _ _ _ g4⟩
   |dead=>obtain⟨cs,t,g1⟩:=h0;exact⟨cs,t,hx.get g1⟩
   |vec sz bm xs=>
    have HL:∀ {k:Nat} {c:Array Value} {t:TypeId},w.heap[k]?=I (.cells c t (0,0))→w'.heap[k]?=w.heap[k]?:=fun hk=>by rw[hx.get hk,hk]
    obtain⟨_,_,_,_,_,_,cs,t,g1⟩:=id h0
    refine dv.imp hle (fun _ h=>h) (fun _ h _=>h) (HL g1) (fun q n cap k'=>⟨?_,cn _ _ _ k'⟩) h0
    obtain⟨_,_,_,_,_,⟨cells,elem,h5,_⟩,_⟩:=k'
    exact HL h5
 ·exact fun s y hy=>let ⟨v,h1,h2,h3⟩:=e s y hy; ⟨v,h1,ay.mono cg h2,fun h=>cn _ _ _ (h3 h)⟩
theorem aq.DH (m:aq P C ω w0 C0 hp w){b x}(hh:hp[b]?=I .hole):aq P C ω w0 C0 (hp.set b x) w:=by
 have hβ:=De m hh
 refine { m with lt:=fun k r hk=>by rw[N4];exact m.lt k r hk,box:=fun k y r hy hk=>?_ }
 by_cases iZ:k=b
 ·subst iZ;rw[hβ]at hk;cases hk
 ·rw[Ec (Jq iZ)]at hy
  exact m.box k y r hy hk
theorem q6m (m:aq P C ω w0 C0 hp w)(e:ai C ω w w0.heap.size env tmps){v ow u h0 r res K'}(hx:Ext w w')(hle:∀r o x,C.K r o=I x→K' r o=I x)(hK:∀r o,r<w.heap.size→K' r o=C.K r o)(hk:∀r o x,K' r o=I x→w'.cell? ⟨r,o,H2⟩=I x)(h1:∀r o x,K' r o=I x→x.oneCell'=Ek)
  (hr:bp (.bw K') v u) (ho:ow=Ek→∃ℓ ω',aB (.bw K') ω' w' w.heap.size ℓ v u) (ht:oo h0 hp r v ow=I res):jt P C0 w0 C tmps d env res u w':=by
 unfold oo at ht
 split at ht
 ·rename_i sz _
  split at ht
  ·rename_i h' hn
   have hv:=qw ht
   obtain⟨hh,rfl⟩:=zt hn
   subst hv
   have cg:C.le { C with K:=K' }:=⟨hle,fun _ _ h=>h,rfl,fun _ h=>h,fun _ h=>h⟩
   refine⟨{ C with K:=K' },ω,cg,(m.bw hx hle hK hk h1).DH hh,e.bw hx hle hK,ay.shift (C:=.bw K') (C':={ C with K:=K' }) 0 (fun _ _ _ h=>h) (fun b r aC=>by omega) hr (by rfl),fun h=>by simp at h⟩
  ·cases ht
 ·rename_i sz xs
  cases hb:(xs.flatMap AVal.flat).all l4 with
  |false=>rw[hb]at ht;cases ht
  |true=>
   rw[hb]at ht
   simp only[cond_true]at ht
   split at ht
   ·rename_i h' hn
    have hv:=qw ht
    obtain⟨hh,rfl⟩:=zt hn
    subst hv
    obtain⟨ℓ,ω',ho⟩:=ho rfl
    cases hr with
    |ie sz a jS=>
     simp only[aB]at ho
     exact absurd ho.2.2.2.1 jS
    |list sz _ q o cap hl cA=>
     simp only[aB]at ho
     obtain⟨o1,o2,o3,_,o5,⟨cells,elem,o6,o7,_⟩,o8⟩:=ho
     subst o5
     have hq:w.heap.size≤q:=o2.resolve_right (fun h=>h)
     let K2:Nat→Nat→Option Value:=fun r o=>if r=q then H2 else K' r o
     have DI:∀ {r o x},K2 r o=I x→K' r o=I x:=by
      intro r o x h
      simp only[K2]at h
      split at h
      ·cases h
      ·exact h
     have ik:∀r o x,C.K r o=I x→K2 r o=I x:=by
      intro r o x h
      have aC:r<w.heap.size:=by
       have:=m.know r o x h
       unfold World.cell? at this
       split at this
       ·rename_i c _ _ hc;exact(Ga.1 hc).1
       ·cases this
      have aS:r≠q:=by omega
      simp only[K2,if_neg aS]
      exact hle r o x h
     have OQ:∀r o,r<w.heap.size→K2 r o=C.K r o:=by
      intro r o aC
      have aS:r≠q:=by omega
      simp only[K2,if_neg aS]
      exact hK r o aC
     have hcells:=aO.cells cA
     have hlen:(xs.flatMap AVal.flat).length≤cells.size:=by
      rcases Nat.eq_zero_or_pos (xs.flatMap AVal.flat).length with h0|h0
      ·omega
      ·obtain⟨y,hy⟩:∃y,(xs.flatMap AVal.flat)[(xs.flatMap AVal.flat).length-1]?=I y:=⟨_,Oc (by omega)⟩
       obtain⟨v,hv,_⟩:=bO.get hcells hy
       have h3:=hk _ _ _ hv
       unfold World.cell? at h3
       rw[o6]at h3
       simp only[Oj,Hz,if_false]at h3
       have:=(Ga.1 h3).1
       omega
     obtain⟨m2,e2,l2⟩:=m.vA e (b:=h0+r) (q:=q) (K':=K2) (cells:=cells) (t:=elem) (cs:=cellsOf (xs.flatMap AVal.flat)) hx ik OQ (fun r o x h=>hk r o x (DI h)) (fun r o x h=>h1 r o x (DI h)) hq (fun o=>by simp[K2]) hh o6 (by rw[show(cellsOf (xs.flatMap AVal.flat)).length=(xs.flatMap AVal.flat).length by simp[cellsOf]];exact hlen) (by
      intro j c hc
      simp only[cellsOf,Ou,E3]at hc
      obtain⟨y,hy,rfl⟩:=hc
      obtain⟨v,hv,nI⟩:=bO.get hcells hy
      have h3:=hk _ _ _ hv
      unfold World.cell? at h3
      rw[o6]at h3
      simp only[Oj,Hz,if_false,Qp]at h3
      exact⟨v,h3,h1 _ _ _ hv,DG (Jn.1 hb y (Od hy)) nI,rfl⟩)
     exact⟨_,ω,l2,m2,e2,.ms _ 0 _ q cap (by simp[az.box]) hl,fun h=>by simp at h⟩
   ·cases ht
 ·cases ht
theorem q2a (m:aq P C ω w0 C0 hp w){x x' v}(hf:NB hp x=I x')(h:bp C x v)(hb:Abs.below 0 x'=Ek):bp (.bw (jw C hp w)) x' v:=by
 unfold NB at hf
 split at hf
 ·rename_i b len
  split at hf
  ·rename_i cs hcs
   cases hc:(Hu (len*(cs.length / len)) cs.length&&Ib 0 (cs.length / len)&&cs.all (fun c=>l4 c.1))with
   |false=>
    rw[hc,cond_false]at hf
    cases hl:Hu len 0 with
    |false=>rw[hl]at hf;cases hf
    |true=>
     rw[hl]at hf
     have hl:=Eb hl
     subst hl
     simp only[cond_true,I.injEq]at hf
     subst hf
     obtain⟨r,cap,gM,hle,rfl⟩:=h.ef
     exact ay.list (C:=.bw (jw C hp w)) 8 [] r 0 cap (Nat.zero_le _) (.eY _ _ _)
   |true=>
    rw[hc]at hf
    simp only[cond_true,I.injEq]at hf
    subst hf
    simp only[Ea]at hc
    obtain⟨⟨c1,c2⟩,c3⟩:=hc
    have c1:=Eb c1
    have c2:0<cs.length / len:=by simpa using c2
    obtain⟨r,cap,gM,hle,rfl⟩:=h.ef
    obtain⟨vs,elem,k1,k2,k3⟩:=m.box b _ r (kg hcs) gM
    have cA:aO (.bw (jw C hp w)) r (cs.length / len) (mY (cs.length / len) len (cs.map (·.1))) 0:=by
     refine OE c2 (by rw[Rx];exact c1.symm) (fun x hx=>?_) fun j x hx=>?_
     ·obtain⟨c,hc,rfl⟩:=Ear.1 hx
      have:=Jn.1 c3 c hc
      cases hq:c.1<;>rw[hq]at this<;>first|rfl|cases this
     ·rw[Ou,E3]at hx
      obtain⟨c,hc,rfl⟩:=hx
      obtain⟨u,q1,q2,q3,_⟩:=k3 j c hc
      have dq:w.cell? ⟨r,0+j,H2⟩=I u:=by
       unfold World.cell?
       rw[k1]
       simp only[Oj,Hz,if_false,Qp]
       exact q1
      exact⟨u,OB gM dq q2,DG (Jn.1 c3 c (Od hc)) q3⟩
    have:=ay.list (C:=.bw (jw C hp w)) (cs.length / len) (mY (cs.length / len) len (cs.map (·.1))) r 0 cap (by rw[Dw];exact hle) cA
    rw[Dw]at this
    exact this
  ·cases hf
 ·cases hf
  exact OC m h hb
theorem Yh (m:aq P C ω w0 C0 hp w):∀ {xs fh:List AVal} {vs:List Value},tc hp xs=I fh→aF C xs vs→qr 0 fh=Ek→aF (.bw (jw C hp w)) fh vs
 | [],fh,vs,hf,h,_=>by
  simp only[tc,I.injEq]at hf
  subst hf
  cases h
  exact .nil
 |x::xs,fh,vs,hf,h,hb=>by
  simp only[tc]at hf
  split at hf
  ·rename_i y ys h1 h2
   cases hf
   cases h with
   |cons _ _ v vs hx h=>
    simp only[qr,Ea]at hb
    exact .cons _ _ _ _ (q2a m h1 hx hb.1) (Yh m h2 h hb.2)
  ·cases hf
theorem Yi {C C' x v}(hp:tf x=Ek)(h:bp C x v):bp C' x v:=by
 cases x with
 |agg cs=>
  obtain⟨vs,rfl,hl⟩:=h.dO
  refine .agg _ _ ?_
  simp only[tf]at hp
  clear h
  induction cs generalizing vs with
  |nil=>cases hl;exact .nil
  |cons c cs ih=>
   cases hl with
   |cons _ _ v vs hx hl=>
    simp only[Eap,Ea]at hp
    exact .cons _ _ _ _ (DG hp.1 hx) (ih hp.2 vs hl)
 |_=>exact DG hp h
theorem jaq {C C' x v}(h:bp C x v):bp C' (AW x) v:=by
 unfold AW
 cases hp:tf x with
 |true=>exact Yi hp h
 |false=>exact .any _
theorem Yj {C C'}:∀ {xs:List AVal} {vs:List Value},aF C xs vs→aF C' (xs.map AW) vs
 | [],_,h=>by cases h;exact .nil
 |x::xs,_,h=>by
  cases h with
  |cons _ _ v vs hx h=>exact .cons _ _ _ _ (jaq hx) (Yj h)
open Classical in
theorem q9z (m:aq P C ω w0 C0 hp w)(e:ai C ω w w0.heap.size env tmps){v v' ow DJ u K'}(hx:Ext w w')(hle:∀r o x,jw C hp w r o=I x→K' r o=I x)(hK:∀r o,r<w.heap.size→K' r o=jw C hp w r o)(hk:∀r o x,K' r o=I x→w'.cell? ⟨r,o,H2⟩=I x)(h1:∀r o x,K' r o=I x→x.oneCell'=Ek)
  (hr:bp (.bw K') v u) (ho:ow=Ek→∃ℓ ω',aB (.bw K') ω' w' w.heap.size ℓ v u) (ht:Hd v ow=I (v',DJ)):jt P C0 w0 C tmps d env ⟨v',DJ,H2,hp⟩ u w':=by
 let K2:Nat→Nat→Option Value:=fun r o=>if Hid C hp r then H2 else K' r o
 have DI:∀ {r o x},K2 r o=I x→K' r o=I x:=by
  intro r o x h
  simp only[K2]at h
  split at h
  ·cases h
  ·exact h
 have ik:∀r o x,C.K r o=I x→K2 r o=I x:=by
  intro r o x h
  have hn:¬Hid C hp r:=by
   intro hh
   rw[OA m hh o]at h;cases h
  simp only[K2,if_neg hn]
  exact hle r o x (Dv m h)
 have OQ:∀r o,r<w.heap.size→K2 r o=C.K r o:=by
  intro r o aC
  by_cases hb:Hid C hp r
  ·simp only[K2,if_pos hb]
   exact(OA m hb o).symm
  ·simp only[K2,if_neg hb]
   rw[hK r o aC]
   unfold jw
   rw[if_neg hb]
 have fin:∀(iL:jQ v'=Ek) (iF:bp (.bw K2) v' u) (tC:DJ=Ek→∃ℓ ω',aB (.bw K2) ω' w' w.heap.size ℓ v' u),jt P C0 w0 C tmps d env ⟨v',DJ,H2,hp⟩ u w':=fun iL iF tC=>
  Yf m e hx ik OQ (fun r o x h=>hk r o x (DI h)) (fun r o x h=>h1 r o x (DI h)) iL iF tC
 have gh:∀y,l4 y=Ek→Abs.below 0 y=Ek:=fun y hy=>by cases y<;>first|rfl|cases hy
 have oR:∀ys:List AVal,ys.all l4=Ek→qr 0 ys=Ek:=by
  intro ys
  induction ys with
  |nil=>intro _;rfl
  |cons y ys ih=>
   intro h
   simp only[Eap,Ea]at h
   simp only[qr,Ea]
   exact⟨gh y h.1,ih h.2⟩
 have mC:∀y,tf y=Ek→Abs.below 0 y=Ek:=fun y hy=>by
  cases y with
  |agg cs=>simp only[Abs.below];exact oR cs hy
  |_=>exact gh _ hy
 unfold Hd at ht
 split at ht
 ·rename_i sz xs
  cases hb:(xs.flatMap AVal.flat).all l4 with
  |false=>rw[hb]at ht;cases ht
  |true=>
   rw[hb]at ht
   simp only[cond_true,I.injEq,Q7.injEq]at ht
   obtain⟨rfl,rfl⟩:=ht
   obtain⟨ℓ,ω',ho⟩:=ho rfl
   cases hr with
   |ie sz a jS=>
    simp only[aB]at ho
    exact absurd ho.2.2.2.1 jS
   |list sz _ q o cap hl cA=>
    simp only[aB]at ho
    obtain⟨o1,o2,o3,o4,o5,o6,o8⟩:=ho
    have hq:w.heap.size≤q:=o2.resolve_right (fun h=>h)
    have Bg:¬Hid C hp q:=by
     intro hh
     have:=jfy m hh
     omega
    have Yk:∀o,K2 q o=K' q o:=fun o=>by simp only[K2,if_neg Bg]
    have hcells:=aO.cells cA
    have oE:aO (.bw K2) q sz xs o:=by
     refine aO.ea (OD fun j x hx=>?_) (aO.sized cA)
     obtain⟨u,hu,hxu⟩:=bO.get hcells hx
     exact⟨u,by rw[show(az.bw K2).K=K2 from rfl,Yk];exact hu,DG (Jn.1 hb x (Od hx)) hxu⟩
    refine fin ?_ (.list sz _ q o cap hl oE) fun _=>⟨ℓ,ω',?_⟩
    ·show jQ _=Ek
     unfold jQ
     have ig:∀ys:List AVal,(ys.flatMap AVal.flat).all l4=Ek→qr 0 ys=Ek:=by
      intro ys
      induction ys with
      |nil=>intro _;rfl
      |cons y ys ih=>
       intro h
       rw[Eag,List.all_append,Ea]at h
       simp only[qr,Ea]
       exact⟨by rw[←Hl];exact oR _ h.1,ih h.2⟩
     simp only[Abs.below]
     exact ig xs hb
    ·simp only[aB]
     exact⟨o1,o2,o3,o4,o5,o6,fun o' tC=>by rw[show(az.bw K2).K=K2 from rfl,Yk];exact o8 o' tC⟩
 ·simp only[I.injEq,Q7.injEq]at ht
  obtain⟨rfl,rfl⟩:=ht
  refine fin rfl ?_ (fun h=>by cases h)
  cases hr
  exact .ic _
 ·rename_i vs _
  simp only[I.injEq,Q7.injEq]at ht
  obtain⟨rfl,rfl⟩:=ht
  obtain⟨us,rfl,hl⟩:=hr.mc
  refine fin ?_ (.av _ _ (Yj hl)) (fun h=>by cases h)
  show Abs.below 0 _=Ek
  simp only[Abs.below]
  have:∀ys:List AVal,qr 0 (ys.map AW)=Ek:=by
   intro ys
   induction ys with
   |nil=>rfl
   |cons y ys ih=>
    simp only[Eaq,qr,Ea]
    refine⟨?_,ih⟩
    unfold AW
    cases hp:tf y with
    |true=>exact mC y hp
    |false=>rfl
  exact this _
 ·cases hb:tf v with
  |false=>rw[hb]at ht;cases ht
  |true=>
   rw[hb]at ht
   simp only[cond_true,I.injEq,Q7.injEq]at ht
   obtain⟨rfl,rfl⟩:=ht
   exact fin (mC v hb) (Yi hb hr) (fun h=>by cases h)
def az.shared (C:az)(ω:Nat→Option Loc)(w0:World):az:={ C with W:=fun r=>(∃b j,ω r=I (.cell b j))∧(w0.heap.size≤r∨C.W r) }
def ky (ω:Nat→Option Loc):Nat→Option Loc:=fun r=>match ω r with
 |some (.cell b j)=>I (.cell b j)
 |_=>H2
theorem aB.shared {b j x v}(ho:aB C ω w w0.heap.size (.cell b j) x v):aB (C.shared ω w0) (ky ω) w w.heap.size (.cell b j) x v:=by
 unfold aB at *
 split at ho
 ·obtain⟨g1,g2,g3⟩:=ho
  exact⟨by simp[ky,g1],.inr ⟨⟨b,j,g1⟩,g2⟩,g3⟩
 ·obtain⟨g1,g2,g3⟩:=ho
  exact⟨by simp[ky,g1],.inr ⟨⟨b,j,g1⟩,g2⟩,g3⟩
 ·trivial
theorem OS (m:aq P C ω w0 C0 hp w):aq P (C.shared ω w0) (ky ω) w (C.shared ω w0) hp w where
 base:=⟨m.tabs,fun g hg=>by
  obtain⟨h1,h2⟩:=m.base.2 g hg
  have aC:=(m.base.1 g hg).1
  refine⟨fun b hb=>?_,fun h=>?_⟩
  ·rcases m.fresh b g hb with h|h|h
   ·exact h1 b h
   ·omega
   ·exact h2 h
  ·rcases h.2 with h|h
   ·omega
   ·rw[m.grown.w]at h;exact h2 h⟩
 know:=m.know
 cE:=m.cE
 apart:=m.apart
 inj:=m.inj
 lt:=m.lt
 size:=Nat.le_refl _
 frame _ _ _ _:=rfl
 eC:=m.eC
 os:=rfl
 output:=rfl
 fresh _ _ h:=.inl h
 grown:=az.le_refl _
 old _ _ _ _:=rfl
 box b x r hx hb:=aX.imp (C:=C) (C':=C.shared ω w0) ⟨fun _ _ _ h=>h,fun _ _ h=>h⟩ rfl (fun _ _ _ ho=>ho.shared) (m.box b x r hx hb)
 gK:=m.gK
def yz (ω ω1:Nat→Option Loc)(n:Nat):Nat→Option Loc:=fun r=>match decide (r<n),ω r with
 |true,I (.slot s)=>I (.slot s)
 |_,_=>ky ω1 r
def az.back (C1 C:az):az:={ C1 with W:=C.W }
theorem HM (hle:(C.shared ω w0).le C1):C.le (C1.back C):=⟨hle.k,hle.b,rfl,hle.d,hle.t⟩
theorem aB.oS {s x v}(m1:aq P C1 ω1 w (C.shared ω w0) h1 w')(ho:aB C ω w w0.heap.size (.slot s) x v):aB (C1.back C) (yz ω ω1 w.heap.size) w' w0.heap.size (.slot s) x v:=by
 unfold aB at *
 split at ho
 ·rename_i ad len cap
  obtain⟨g1,g2,g3,g4,g8,⟨cells,elem,g5,g6⟩,g7⟩:=ho
  have aC:=(Ga.1 g5).1
  have vB:¬(C.shared ω w0).W ad.block:=fun h=>by
   obtain⟨⟨b,j,h⟩,_⟩:=h
   rw[g1]at h;cases h
  refine⟨by simp[yz,aC,g1],g2,fun b hb=>?_,g4,g8,⟨cells,elem,?_,g6⟩,fun o ho=>?_⟩
  ·rcases m1.fresh b _ hb with h|h|h
   ·exact g3 b h
   ·omega
   ·exact vB h
  ·rw[m1.frame _ aC g3 vB];exact g5
  ·have:=m1.old _ o aC vB
   show C1.K _ o=H2
   rw[this];exact g7 o ho
 ·rename_i ad
  obtain⟨g1,g2,g3,g4,g8,⟨cells,elem,g5,g6⟩,g7⟩:=ho
  have aC:=(Ga.1 g5).1
  have vB:¬(C.shared ω w0).W ad.block:=fun h=>by
   obtain⟨⟨b,j,h⟩,_⟩:=h
   rw[g1]at h;cases h
  refine⟨by simp[yz,aC,g1],g2,fun b hb=>?_,g4,g8,⟨cells,elem,?_,g6⟩,fun o ho=>?_⟩
  ·rcases m1.fresh b _ hb with h|h|h
   ·exact g3 b h
   ·omega
   ·exact vB h
  ·rw[m1.frame _ aC g3 vB];exact g5
  ·have:=m1.old _ o aC vB
   show C1.K _ o=H2
   rw[this];exact g7 o ho
 ·trivial
theorem aB.oT {b j x v}(m:aq P C ω w0 C0 hp w)(hW:C1.W=(C.shared ω w0).W)(ho:aB C1 ω1 w' w.heap.size (.cell b j) x v):aB (C1.back C) (yz ω ω1 w.heap.size) w' w0.heap.size (.cell b j) x v:=by
 unfold aB at *
 split at ho
 ·rename_i ad len cap
  obtain⟨g1,g2,g3⟩:=ho
  rw[hW]at g2
  refine⟨?_,?_,g3⟩
  ·unfold yz
   split
   ·rename_i s aC hs
    have aC:=of_decide_eq_true aC
    rcases g2 with g2|⟨⟨b',j',g2⟩,_⟩
    ·omega
    ·rw[hs]at g2;cases g2
   ·simp[ky,g1]
  ·rcases g2 with g2|⟨_,g2⟩
   ·exact .inl (N7 m.size g2)
   ·exact g2
 ·rename_i ad
  obtain⟨g1,g2,g3⟩:=ho
  rw[hW]at g2
  refine⟨?_,?_,g3⟩
  ·unfold yz
   split
   ·rename_i s aC hs
    have aC:=of_decide_eq_true aC
    rcases g2 with g2|⟨⟨b',j',g2⟩,_⟩
    ·omega
    ·rw[hs]at g2;cases g2
   ·simp[ky,g1]
  ·rcases g2 with g2|⟨_,g2⟩
   ·exact .inl (N7 m.size g2)
   ·exact g2
 ·trivial
theorem Yl (m:aq P C ω w0 C0 hp w)(e:ai C ω w w0.heap.size env tmps)(m1:aq P C1 ω1 w (C.shared ω w0) h1 w')(hle:(C.shared ω w0).le C1):
  aq P (C1.back C) (yz ω ω1 w.heap.size) w0 C0 h1 w'∧ai (C1.back C) (yz ω ω1 w.heap.size) w' w0.heap.size env tmps:=by
 have hsh:∀r,r<w0.heap.size→¬C0.W r→¬(C.shared ω w0).W r:=fun r hr hw h=>by
  rcases h.2 with h|h
  ·omega
  ·rw[m.grown.w]at h;exact hw h
 constructor
 ·refine { base:=m.base,know:=m1.know,cE:=m1.cE,apart:=m1.apart,inj:=m1.inj,lt:=m1.lt,size:=N7 m.size m1.size,frame:=?_,eC:=m1.eC,os:=m1.os.trans m.os,output:=m1.output.trans m.output,fresh:=?_,grown:=az.le_trans m.grown (HM hle),old:=?_,box:=?_,gK:=m1.gK }
  ·intro r hr hn hw
   have qO:∀b,C.β b≠I r:=fun b hb=>by
    rcases m.fresh b r hb with h|h|h
    ·exact hn b h
    ·omega
    ·exact hw h
   rw[m1.frame r (Ok hr m.size) qO (hsh r hr hw)]
   exact m.frame r hr hn hw
  ·intro b r hb
   rcases m1.fresh b r hb with h|h|h
   ·exact m.fresh b r h
   ·exact .inr (.inl (N7 m.size h))
   ·exact .inr (h.2.imp id (fun h=>by rw[←m.grown.w];exact h))
  ·intro r o hr hw
   show C1.K r o=_
   rw[m1.old r o (Ok hr m.size) (hsh r hr hw)]
   exact m.old r o hr hw
  ·intro b x r hx hb
   exact aX.imp (C:=C1) (C':=C1.back C) ⟨fun _ _ _ h=>h,fun _ _ h=>h⟩ rfl (fun _ _ _ ho=>ho.oT m hle.w) (m1.box b x r hx hb)
 ·exact fun s x hs=>let ⟨v,k1,k2,k3⟩:=e s x hs; ⟨v,k1,ay.mono (HM hle) k2,fun h=>(k3 h).oS m1⟩
theorem bp.back {x v}(h:bp C1 x v):bp (C1.back C) x v:=ay.imp (C:=C1) (C':=C1.back C) ⟨fun _ _ _ h=>h,fun _ _ h=>h⟩ h
theorem Ym (m:aq P C ω w0 C0 hp w)(e:ai C ω w w0.heap.size env tmps)(m1:aq P C1 ω1 w (C.shared ω w0) h1 w')(hle:(C.shared ω w0).le C1){v ow u}(hr:bp C1 v u)(ho:ow=Ek→aB C1 ω1 w' w.heap.size (.slot 0) v u):
  jt P C0 w0 C tmps d env ⟨v,ow,H2,ko hp.length v h1⟩ u w':=by
 have hC:∀b r,C.β b=I r→b<hp.length:=fun b r h=>(m.lt b r h).2
 have cg:=HM hle
 have iF:bp (C1.back C) v u:=hr.back
 -- the result's ownership first
 have step:∃ω',aq P (C1.back C) ω' w0 C0 h1 w'∧ai (C1.back C) ω' w' w0.heap.size env tmps∧(ow=Ek→aB (C1.back C) ω' w' w0.heap.size d v u):=by
  obtain⟨m2,e2⟩:=Yl m e m1 hle
  cases ow with
  |false=>exact⟨_,m2,e2,by simp⟩
  |true=>
   by_cases hk:∃(n:Bool) (sz:Nat) (xs:List AVal) (ad:Addr) (len cap:Nat),v=.list n sz xs∧u=.slice (I ad) len cap
   ·obtain⟨n,sz,xs,ad,len,cap,rfl,rfl⟩:=hk
    obtain⟨g1,g2,g3,g4⟩:=ho rfl
    rw[hle.w]at g2
    have gV:yz ω ω1 w.heap.size ad.block=H2:=by
     unfold yz
     split
     ·rename_i s aC hs
      have aC:=of_decide_eq_true aC
      rcases g2 with g2|⟨⟨b',j',g2⟩,_⟩
      ·omega
      ·rw[hs]at g2;cases g2
     ·simp[ky,g1]
    refine⟨b4 (yz ω ω1 w.heap.size) ad.block d,m2.b4 _ _ (by simp[gV]),?_,fun _=>?_⟩
    ·exact fun s x hs=>let ⟨v,k1,k2,k3⟩:=e2 s x hs; ⟨v,k1,k2,fun h=>(k3 h).other (.inl (by simp[gV]))⟩
    ·refine⟨by simp[b4],?_,g3,g4⟩
     rcases g2 with g2|⟨_,g2⟩
     ·exact .inl (N7 m.size g2)
     ·exact g2
   by_cases cS:∃(n:Nat) (ad:Addr),v=.ct n∧u=.pointer (I ad)
   ·obtain⟨n,ad,rfl,rfl⟩:=cS
    obtain⟨g1,g2,g3,g4⟩:=ho rfl
    rw[hle.w]at g2
    have gV:yz ω ω1 w.heap.size ad.block=H2:=by
     unfold yz
     split
     ·rename_i s aC hs
      have aC:=of_decide_eq_true aC
      rcases g2 with g2|⟨⟨b',j',g2⟩,_⟩
      ·omega
      ·rw[hs]at g2;cases g2
     ·simp[ky,g1]
    refine⟨b4 (yz ω ω1 w.heap.size) ad.block d,m2.b4 _ _ (by simp[gV]),?_,fun _=>?_⟩
    ·exact fun s x hs=>let ⟨v,k1,k2,k3⟩:=e2 s x hs; ⟨v,k1,k2,fun h=>(k3 h).other (.inl (by simp[gV]))⟩
    ·refine⟨by simp[b4],?_,g3,g4⟩
     rcases g2 with g2|⟨_,g2⟩
     ·exact .inl (N7 m.size g2)
     ·exact g2
   ·refine⟨_,m2,e2,fun h=>?_⟩
    unfold aB
    split
    ·exact absurd ⟨_,_,_,_,_,_,rfl,rfl⟩ hk
    ·exact absurd ⟨_,_,rfl,rfl⟩ cS
    ·trivial
 obtain⟨ω',m2,e2,o2⟩:=step
 unfold ko
 cases hb:Jp h1.length hp.length with
 |true=>simp only[cond_true];exact⟨_,ω',cg,m2,e2,iF,o2⟩
 |false=>
  simp only[cond_false]
  cases iK:(below hp.length v&&yk hp.length (h1.take hp.length))with
  |false=>simp only[cond_false];exact⟨_,ω',cg,m2,e2,iF,o2⟩
  |true=>
   simp only[cond_true]
   simp only[Ea]at iK
   have aC:hp.length≤h1.length:=by
    rcases Nat.lt_or_ge hp.length h1.length with h|h
    ·omega
    ·rw[Nat.ble_eq_true_of_le h]at hb;cases hb
   have h0:∀b r,C0.β b=I r→b<hp.length:=fun b r h=>hC b r (m.grown.2 b r h)
   have m3:=m2.gc aC iK.2 h0
   refine⟨(C1.back C).cut hp.length,ω',az.gU cg hC,m3,?_,bp.cut iF iK.1,fun h=>(o2 h).cut _⟩
   intro s x hs
   obtain⟨y,k1,k2,k3⟩:=e s x hs
   obtain⟨y',j1,j2,j3⟩:=e2 s x hs
   rw[k1]at j1
   cases j1
   exact⟨y,k1,ay.mono (az.gU cg hC) k2,fun h=>(j3 h).cut _⟩
theorem aM.gf {e}(h:aM C e tmps):ai C ω w B (gf e) tmps:=by
 intro s x hx
 have key:∀ {e:Env} {x:AVal×Bool},ja s (Abs.gf e)=I x→∃o,ja s e=I (x.1,o)∧x.2=Hy:=by
  intro e
  induction e with
  |nil=>intro x h;simp[Abs.gf,ja]at h
  |cons y e ih=>
   intro x h
   obtain⟨t,v,o⟩:=y
   simp only[Abs.gf,Eaq,ja]at h ⊢
   cases hb:Hu t s with
   |true=>simp only[hb,cond_true,I.injEq]at h ⊢;subst h;exact⟨o,rfl,rfl⟩
   |false=>simp only[hb,cond_false]at h ⊢;exact ih h
 obtain⟨o,h1,h2⟩:=key hx
 obtain⟨v,h3,h4⟩:=h s _ h1
 exact⟨v,h3,h4,by simp[h2]⟩
theorem Yn:∀ {ts:List Nat} {vs:List AVal} {us:List Value} {e e':Env} {tmps:Array Value},uN e ts vs=I e'→aF C vs us→(∀t∈ts,t<tmps.size)→ai C ω w B e tmps →
  ts.length=us.length∧((ts.zip us).foldl (fun(tmps:Array Value) (x:Nat×Value)=>tmps.setIfInBounds x.1 x.2) tmps).size=tmps.size∧ai C ω w B e' ((ts.zip us).foldl (fun(tmps:Array Value) (x:Nat×Value)=>tmps.setIfInBounds x.1 x.2) tmps)
 | [],[],us,e,e',tmps,h,hr,_,he=>by
  simp only[uN,I.injEq]at h
  subst h
  cases hr
  exact⟨rfl,rfl,he⟩
 |t::ts,v::vs,us,e,e',tmps,h,hr,hf,he=>by
  simp only[uN]at h
  cases hr with
  |cons _ _ u us hu hr=>
   have HN:ai C ω w B ((t,v,Hy)::e) (tmps.setIfInBounds t u):=by
    intro s x hx
    simp only[ja]at hx
    cases hb:Hu t s with
    |true=>
     have:=Eb hb
     subst this
     simp only[hb,cond_true,I.injEq]at hx
     subst hx
     exact⟨u,by simp[hf t (by simp)],hu,by simp⟩
    |false=>
     simp only[hb,cond_false]at hx
     obtain⟨y,h1,h2,h3⟩:=he s x hx
     refine⟨y,?_,h2,h3⟩
     rw[Ow (fun hh=>by subst hh;simp at hb)]
     exact h1
   have ih:=Yn h hr (tmps:=tmps.setIfInBounds t u) (fun t' C5=>by simpa using hf t' (by simp[C5])) HN
   refine⟨by simp[ih.1],?_,?_⟩
   ·simp only[Eac,Eam];rw[ih.2.1];simp
   ·simp only[Eac,Eam];exact ih.2.2
 | [],_::_,_,_,_,_,h,_,_,_=>by simp[uN]at h
 |_::_,[],_,_,_,_,h,_,_,_=>by simp[uN]at h
theorem HO {b r l}(m:aq P C ω w0 C0 hp w)(hb:j6 hp b=I (.loop l))(hr:C.β b=I r):∃lp,w.heap[r]?=I (.loop lp)∧bP P C l lp:=
 m.box b _ r hb hr
theorem DK {b r l' lp vC}(m:aq P C ω w0 C0 hp w)(hr:C.β b=I r)(hg:w.heap[r]?=I (.loop lp))(hl:bP P C l' vC):
  (setObj r (.loop vC)).run P w=.ok () (zy w r (.loop vC))∧lG w (zy w r (.loop vC)) r∧aq P C ω w0 C0 (hp.set b (.loop l')) (zy w r (.loop vC)):=by
 have aC:=(Ga.1 hg).1
 have hu:lG w (zy w r (.loop vC)) r:=Bb aC (by simp)
 exact⟨tA hg (by simp),hu,m.dc hu hr _ (fun _ _ _ _ _ h=>h) ⟨vC,Dl aC,hl⟩⟩
theorem q9f (hx:bV P xc)(m:aq P C ω w0 C0 hp w)(e:ai C ω w w0.heap.size env tmps){b r}(hr:C.β b=I r){args us}(ha:aF C args us){v h'}(hy:nf xc b args hp=I (v,h')):
  ∃f mE assign body,(Instr.yield r ⟨us⟩).run P w=.ok (.round r f mE assign body) w∧RoundIn Fence.wide 0 P r f mE assign body w fun ee w'=>∃u,ee=.returned u∧jt P C0 w0 C tmps d env ⟨v,Hy,H2,h'⟩ u w':=by
 unfold nf at hy
 split at hy
 ·rename_i l hl
  split at hy
  ·rename_i e0 Yo aZ
   obtain⟨lp,hg,lr⟩:=HO m hl hr
   have ms:=OS m
   have gg:aF (C.shared ω w0) args us:=ay.imp (C:=C) (C':=C.shared ω w0) ⟨fun _ _ _ h=>h,fun _ _ h=>h⟩ ha
   have hel:ai (C.shared ω w0) (ky ω) w w.heap.size (gf l.env) lp.tmps:=aM.gf (fun s x hs=>let ⟨v,h1,h2⟩:=lr.env s x hs; ⟨v,h1,ay.imp (C:=C) (C':=C.shared ω w0) ⟨fun _ _ _ h=>h,fun _ _ h=>h⟩ h2⟩)
   obtain⟨hlen,cr,he0⟩:=Yn aZ gg lr.fits hel
   have oy:(lp.params.zip (⟨us⟩:Array Value)).foldl (fun(tmps:Array Value) (x:Nat×Value)=>tmps.setIfInBounds x.1 x.2) lp.tmps=(l.params.zip us).foldl (fun(tmps:Array Value) (x:Nat×Value)=>tmps.setIfInBounds x.1 x.2) lp.tmps:=by
    rw[←Array.foldl_toList,Array.toList_zip,lr.params]
   have OT:lp.params.size=us.length:=by rw[←Array.length_toList,lr.params];exact hlen
   refine⟨lp.fn,(l.params.zip us).foldl (fun(tmps:Array Value) (x:Nat×Value)=>tmps.setIfInBounds x.1 x.2) lp.tmps,lp.assign,lp.body,?_,?_⟩
   ·have vD:(Instr.getLoop r).run P w=.ok lp w:=by simp[Instr.getLoop,yw hg (by simp)]
    have aS:¬((⟨us⟩:Array Value).size≠lp.params.size):=by simp[OT]
    simp only[Instr.yield,Sem.run_bind,vD,Result.andThen_ok,aS,if_false,Sem.run_pure,Sem.run_ite]
    rw[show((lp.params.zip (⟨us⟩:Array Value)).foldl (fun tmps (x:Nat×Value)=>match x with|(t,a)=>tmps.setIfInBounds t a) lp.tmps)=_ from oy]
   ·refine roundIn_of_wpIn trivial ?_
    split at hy
    ·rename_i st bH
     split at hy
     ·rename_i l1 lB
      cases iI:l1.pending.isNone with
      |false=>simp[iI]at hy
      |true=>
       simp only[iI,cond_true]at hy
       have DL:l1.pending=H2:=by simpa using iI
       split at hy
       ·rename_i x aN gx
        split at hy
        ·rename_i l2 A6
         cases hy
         refine wpIn_mono (hx (I r) lp.tmps.size lp.assign l.assign _ _ _ lr.assign (fun _=>lr.nr.1) bH (C.shared ω w0) (ky ω) w (C.shared ω w0) { tmps:=_,defers:=[] } w ms he0 cr Marks.nil) ?_
         rintro ee a1 w1 ⟨rfl,q1,C1,ω1,q2,q3,q4,q5⟩
         have rV:=q2.b b r hr
         obtain⟨HP,Yp,OU⟩:=HO q4 lB rV
         have tD:HP.state=.ready:=by rw[OU.state,DL]
         have OV:bP P C1 { l1 with pending:=I .normal } { HP with state:=.busy }:={ OU with state:=rfl,pending:=by rw[OU.pending,DL] }
         obtain⟨DM,Dh,m1⟩:=DK q4 rV Yp OV
         have gM:(Instr.beginRound r).run P w1=.ok () (zy w1 r (.loop { HP with state:=.busy })):=by
          have vD:(Instr.getLoop r).run P w1=.ok HP w1:=by simp[Instr.getLoop,yw Yp (by simp)]
          simp only[Instr.beginRound,Sem.run_bind,vD,Result.andThen_ok,DM,tD,Sem.run_pure]
         refine⟨_,gM,?_⟩
         refine wpIn_mono (hx (I r) lp.tmps.size lp.body l.body _ _ _ lr.body (fun _=>lr.nr.2) gx C1 ω1 w (C.shared ω w0) a1 _ m1 (q5.cW Dh rV) q1 q3) ?_
         rintro ee a2 w2 ⟨rfl,p1,C2,ω2,p2,p3,p4,p5⟩
         have oU:=p2.b b r rV
         obtain⟨kO,oV,qQ⟩:=HO p4 A6 oU
         have vE:(Instr.getLoop r).run P w2=.ok kO w2:=by simp[Instr.getLoop,yw oV (by simp)]
         have fin:∀(OW:LoopState) (pd:Option Code) (ap:Option je) (bb:Bool),bP P C2 { l2 with pending:=ap } { kO with state:=OW,pending:=pd } →
           jt P C0 w0 C tmps d env ⟨.bool bb,Hy,H2,ko hp.length (.bool Ek) (aN.heap.set b (.loop { l2 with pending:=ap }))⟩ (.bool bb) (zy w2 r (.loop { kO with state:=OW,pending:=pd })):=by
          intro OW pd ap bb qR
          obtain⟨iM,hu2,m2⟩:=DK p4 oU oV qR
          have:=Ym (d:=d) (v:=.bool bb) (ow:=false) (u:=.bool bb) m e m2 (az.le_trans q2 p2) (.bool bb) (by simp)
          exact this
         cases x with
         |normal=>
          have qR:bP P C2 { l2 with pending:=H2 } { kO with state:=.ready,pending:=H2 }:={ qQ with state:=rfl,pending:=rfl }
          obtain⟨iM,_,_⟩:=DK p4 oU oV qR
          exact⟨.bool Ek,_,by simp only[Instr.endRound,Sem.run_bind,vE,Result.andThen_ok,Option.isNone_none,if_true,iM,Sem.run_pure],_,rfl,fin _ _ _ Ek qR⟩
         |ret=>
          have qR:bP P C2 { l2 with pending:=I .ret } { kO with state:=.done,pending:=I .ret }:={ qQ with state:=rfl,pending:=rfl }
          obtain⟨iM,_,_⟩:=DK p4 oU oV qR
          exact⟨.bool Hy,_,by simp only[Instr.endRound,Sem.run_bind,vE,Result.andThen_ok,Ead,Hz,if_false,iM,Sem.run_pure],_,rfl,fin _ _ _ Hy qR⟩
         |exit id=>
          have qR:bP P C2 { l2 with pending:=I (.exit id) } { kO with state:=.done,pending:=I (.exit id) }:={ qQ with state:=rfl,pending:=rfl }
          obtain⟨iM,_,_⟩:=DK p4 oU oV qR
          exact⟨.bool Hy,_,by simp only[Instr.endRound,Sem.run_bind,vE,Result.andThen_ok,Ead,Hz,if_false,iM,Sem.run_pure],_,rfl,fin _ _ _ Hy qR⟩
        ·cases hy
       ·cases hy
     ·cases hy
    ·cases hy
  ·cases hy
 ·cases hy
theorem jb9 {h md r h0 dst al b3 res}(dH:bu P p)(hx:bV P xc)(m:aq P C ω w0 C0 hp w)(e:ai C ω w w0.heap.size env a.tmps){c}(ho:o.op=.call c){f}(nh:c.callee=.value f)
  (hc:uQ P h md r dst c=I b3) (hs:qb p xc h0 al env hp b3=I res):zi P C C0 w0 a d env o w res:=by
 unfold uQ at hc
 rw[nh]at hc
 simp only[]at hc
 split at hc
 ·rename_i f' args' h1 h2
  cases hc
  generalize md.at r=md at hs
  simp only[qb,zf]at hs
  split at hs
  ·rename_i k first captured vs e1 e2
   have tE:=qu e.bJ h1 e1
   have OX:=A4 e.bJ h2 e2
   generalize lH:a.eval f=fv at tE
   cases tE with
   |fn g g' _ _ as bs hf ha hb=>
    simp only[eN]at hf
    subst hf
    have hall:aF C (first++vs++captured) (as++c.args.toList.map a.eval++bs):=aF.append (aF.append ha OX) hb
    have gW:Enters P k→(execOp a.eval o).run P w=.ok (.enter k ⟨as++c.args.toList.map a.eval++bs⟩) w:=by
     intro kN
     have dF:(⟨as⟩:Array Value)++Array.map a.eval c.args++(⟨bs⟩:Array Value)=⟨as++c.args.toList.map a.eval++bs⟩:=by
      apply Eaa;simp
     simp[execOp,ho,resolve,nh,lH,Deferred.ofValue,invoke,dF,Ya kN]
    cases md with
    |eH rk=>
     simp only[]at hs
     cases qI:(first++vs++captured).isEmpty with
     |false=>
      rw[qI]at hs
      simp only[cond_false]at hs
      cases jU:qr 0 (first++vs++captured)with
      |false=>rw[jU]at hs;cases hs
      |true=>
       rw[jU]at hs
       simp only[cond_true]at hs
       split at hs
       ·rename_i v ow rW
        obtain⟨kN,iL,oW⟩:=HJ dH hx rW jU
        have kP:aF (.bw C.K) (first++vs++captured) (as++c.args.toList.map a.eval++bs):=
         ay.shift (C:=C) (C':=.bw C.K) 0 (fun _ _ _ h=>h) (fun b r aC=>by omega) hall jU
        refine .inr (.inr (.inl ⟨k,_,gW kN,CallsIn.mono (oW C.K w _ m.tabs m.know m.cE kP) ?_⟩))
        rintro ee w' ⟨u,K',rfl,q1,q2,q3,q4,q5,q6,q7⟩
        exact⟨u,rfl,q6m m e q1 q2 q3 q4 q5 q6 q7 hs⟩
       ·cases hs
     |true=>
      rw[qI]at hs
      simp only[cond_true]at hs
      split at hs
      ·rename_i es hm
       split at hs
       ·rename_i h' hn
        obtain rfl:=qw hs
        obtain⟨hh,rfl⟩:=zt hn
        obtain⟨kN,kI⟩:=dH.maps k es hm
        have iX:as++c.args.toList.map a.eval++bs=[]:=by
         have h1:first++vs++captured=[]:=Rv.1 qI
         have h2:=hall.length
         rw[h1]at h2
         exact List.eq_nil_of_length_eq_zero h2
        refine .inr (.inr (.inl ⟨k,_,gW kN,?_⟩))
        rw[iX]
        refine CallsIn.mono (kI C.K w m.tabs m.know m.cE) ?_
        rintro ee w' ⟨q,K',bE,clock,rfl,q1,q2,q3,q4,q5,q6,q7,q8⟩
        exact⟨_,rfl,jbn m e q1 q2 q3 q4 q5 hh q6 q7 q8⟩
       ·cases hs
      ·cases hs
    |bw=>
     simp only[]at hs
     cases qI:qr 0 (first++vs++captured)with
     |false=>rw[qI]at hs;cases hs
     |true=>
      rw[qI]at hs
      simp only[cond_true]at hs
      split at hs
      ·rename_i v ow rW
       cases hs
       obtain⟨kN,iL,oW⟩:=HJ dH hx rW qI
       have kP:aF (.bw C.K) (first++vs++captured) (as++c.args.toList.map a.eval++bs):=
        ay.shift (C:=C) (C':=.bw C.K) 0 (fun _ _ _ h=>h) (fun b r aC=>by omega) hall qI
       refine .inr (.inr (.inl ⟨k,_,gW kN,CallsIn.mono (oW C.K w _ m.tabs m.know m.cE kP) ?_⟩))
       rintro ee w' ⟨u,K',rfl,q1,q2,q3,q4,q5,q6,q7⟩
       exact⟨u,rfl,Yf m e q1 q2 q3 q4 q5 iL q6 q7⟩
      ·cases hs
    |red=>
     simp only[]at hs
     split at hs
     ·rename_i xs Bf
      cases jU:qr 0 xs with
      |false=>rw[jU]at hs;cases hs
      |true=>
       rw[jU]at hs
       simp only[cond_true]at hs
       split at hs
       ·rename_i v ow rW
        split at hs
        ·rename_i v' DJ hrd
         cases hs
         obtain⟨kN,iL,oW⟩:=HJ dH hx rW jU
         refine .inr (.inr (.inl ⟨k,_,gW kN,CallsIn.mono (oW (jw C hp w) w _ m.tabs (fun r o u h=>(HI m h).1) (fun r o u h=>(HI m h).2) (Yh m Bf hall jU)) ?_⟩))
         rintro ee w' ⟨u,K',rfl,q1,q2,q3,q4,q5,q6,q7⟩
         exact⟨u,rfl,q9z m e q1 q2 q3 q4 q5 q6 q7 hrd⟩
        ·cases hs
       ·cases hs
     ·cases hs
    |shr=>
     simp only[]at hs
     split at hs
     ·rename_i v ow h' DB
      cases hs
      ·obtain⟨kN,lJ⟩:=DA dH hx DB
       have kP:aF (C.shared ω w0) (first++vs++captured) (as++c.args.toList.map a.eval++bs):=ay.imp (C:=C) (C':=C.shared ω w0) ⟨fun _ _ _ h=>h,fun _ _ h=>h⟩ hall
       refine .inr (.inr (.inl ⟨k,_,gW kN,CallsIn.mono (lJ _ _ _ _ kP (OS m)) ?_⟩))
       rintro ee w' ⟨u,C',ω',rfl,q1,q2,q3,q4⟩
       exact⟨u,rfl,Ym m e q2 q1 q3 q4⟩
     ·cases hs
  ·rename_i b vs e1 e2
   have tE:=qu e.bJ h1 e1
   have OX:=A4 e.bJ h2 e2
   generalize lH:a.eval f=fv at tE
   cases md with
   |bw=>simp at hs
   |eH _=>simp at hs
   |red=>simp at hs
   |shr=>
    simp only[]at hs
    split at hs
    ·rename_i v h' hy
     obtain rfl:=qw hs
     cases tE with
     |fn g g' _ _ as bs hf ha hb=>
      obtain⟨q,nj,rfl⟩:=hf
      cases ha
      cases hb
      obtain⟨ff,mE,assign,body,k1,k2⟩:=q9f (d:=d) hx m e nj OX hy
      refine .inr (.inr (.inr ⟨q,ff,mE,assign,body,?_,k2⟩))
      have dF:Array.map a.eval c.args=⟨c.args.toList.map a.eval⟩:=by
       apply Eaa;simp
      rw[←dF]at k1
      simp[execOp,ho,resolve,nh,lH,Deferred.ofValue,invoke,k1]
    ·cases hs
  ·cases hs
 ·cases hc
theorem jjs {h md r h0 dst al b3 res}(dH:bu P p)(hx:bV P xc)(m:aq P C ω w0 C0 hp w)(e:ai C ω w w0.heap.size env a.tmps)
  (lI:b3.gq=H2) (hc:cf P h md r dst o.op=I b3) (hs:qb p xc h0 al env hp b3=I res):zi P C C0 w0 a d env o w res:=by
 cases ho:o.op<;>rw[ho]at hc
 case move x=>exact jao m e ho hc hs
 case assign x=>exact q2h m e ho hc hs
 case pick=>exact jbp m e ho hc hs
 case alloc=>exact q51 m e ho hc hs
 case box=>exact jev m e ho hc hs
 case build=>exact q66 m e ho hc hs
 case buildSlice=>exact qs5 m e ho hc hs
 case load=>exact jbf m e ho hc hs
 case store=>exact q56 m e ho lI hc hs
 case nilCheck=>exact qxl m e ho hc hs
 case binOp=>exact jdm m e ho hc hs
 case unOp=>exact jjc m e ho hc hs
 case convert=>exact q8p m e ho hc hs
 case makeFunc=>exact qxi m e ho hc hs
 case makeMap=>exact qzs m e ho hc hs
 case makeSlice=>exact quw m e ho hc hs
 case slice=>exact q61 m e ho hc hs
 case fieldAddr=>exact quu m e ho hc hs
 case field=>exact q5s m e ho hc hs
 case indexAddr=>exact quz m e ho hc hs
 case index=>exact q5y m e ho hc hs
 case range=>exact q5a m e ho hc hs
 case extract=>exact qzq m e ho hc hs
 case call c=>
  have dl:uQ P h md r dst c=I b3:=hc
  by_cases hv:∃f,c.callee=.value f
  ·obtain⟨f,hf⟩:=hv
   exact jb9 dH hx m e ho hf dl hs
  ·exact qz5 m e ho (fun f hf=>hv ⟨f,hf⟩) dl hs
 case lookup=>exact q4g m e ho hc hs
 case mapUpdate=>exact XZ m e (.inl ho) hc hs
 case insert t x y z=>exact XZ (h:=h) (md:=md) (r:=r) (dst:=dst) m e (.inr ho) (show cf P h md r dst (.mapUpdate t x y z)=I b3 from hc) hs
 case next it b=>exact q71 m e ho hc hs
 all_goals (simp[cf]at hc;done)
end
section
variable {p:jg}{xc:XC}{h0:Nat}{al:Option (List Nat)}
def Agree (l:List Nat)(e e':Env):Prop:=∀s∈l,ja s e=ja s e'
theorem Agree.app {l l' e e'}(h:Agree (l++l') e e'):Agree l e e'∧Agree l' e e':=
 ⟨fun s hs=>h s (Za _ hs),fun s hs=>h s (St _ hs)⟩
theorem qq {e e' x}(h:Agree (jl x) e e'):qg e x=qg e' x:=by
 cases x with
 |tmp t=>simp only[qg,h t (by simp[jl])]
 |const v=>rfl
theorem Bh {e e'}:∀ {l:List jd},Agree (tn l) e e'→yg e l=yg e' l
 | [],_=>rfl
 |x::l,h=>by
  have h':Agree (jl x++tn l) e e':=by simpa[tn]using h
  simp only[yg,qq h'.app.1,Bh h'.app.2]
theorem Bi {e e' x}(d n:Nat)(h:Agree (uR x) e e'):eL e d n x=eL e' d n x:=by
 cases x with
 |none=>rfl
 |some x=>simp only[eL,qq (x:=x) h]
theorem OY {e e' x}(h:Agree (jl x) e e'):jy e x=jy e' x:=by
 cases x with
 |tmp t=>simp only[jy,h t (by simp[jl])]
 |const v=>rfl
theorem Yq {e e'}:∀ {l:List (Nat×Nat×jd)},Agree (l.flatMap fun p=>jl p.2.2) e e'→z8 e l=z8 e' l
 | [],_=>rfl
 |(i,n,x)::l,h=>by
  have h':Agree (jl x++l.flatMap fun p=>jl p.2.2) e e':=by simpa using h
  simp only[z8,qq h'.app.1,Yq h'.app.2]
theorem OZ {e e' sz}:∀ {l:List (Nat×jd)},Agree (l.flatMap fun p=>jl p.2) e e'→zh e sz l=zh e' sz l
 | [],_=>rfl
 |(i,x)::l,h=>by
  have h':Agree (jl x++l.flatMap fun p=>jl p.2) e e':=by simpa using h
  simp only[zh,qq h'.app.1,OZ h'.app.2]
theorem qvx {e e' h op}(ha:Agree op.reads e e'):qb p xc h0 al e h op=qb p xc h0 al e' h op:=by
 cases op with
 |move x=>simp only[qb,qo,qq (x:=x) ha]
 |take s=>simp only[qb,qo,ha s (by simp[cc.reads])]
 |pick c x y=>simp only[cc.reads]at ha;simp only[qb,qo,qq ha.app.1.app.1,qq ha.app.1.app.2,qq ha.app.2]
 |build z ps=>simp only[qb,qo,Yq (l:=ps) ha]
 |buildSlice sz n z ps=>simp only[qb,qo,OZ (l:=ps) ha]
 |nilCheck x=>simp only[qb,qo,qq (x:=x) ha]
 |fK n=>rfl
 |db n s x=>
  simp only[cc.reads]at ha
  have h1:ja s e=ja s e':=ha s (by simp)
  have h2:Agree (jl x) e e':=fun t ht=>ha t (by simp[ht])
  simp only[qb,qo,h1,qq h2]
 |mW n x=>simp only[qb,qo,qq (x:=x) ha]
 |eI ag n x=>simp only[qb,qo,qq (x:=x) ha]
 |bin op x y=>simp only[cc.reads]at ha;simp only[qb,qo,qq ha.app.1,qq ha.app.2]
 |eqs ks n x y=>simp only[cc.reads]at ha;simp only[qb,qo,qq ha.app.1,qq ha.app.2]
 |beq n x y=>simp only[cc.reads]at ha;simp only[qb,qo,qq ha.app.1,qq ha.app.2]
 |eJ k n x=>simp only[qb,qo,qq (x:=x) ha]
 |un op x=>simp only[qb,qo,qq (x:=x) ha]
 |conv k x=>simp only[qb,qo,qq (x:=x) ha]
 |dN x=>simp only[qb,qo,qq (x:=x) ha]
 |field ag off n x=>simp only[qb,qo,qq (x:=x) ha]
 |index ag l n x i=>simp only[cc.reads]at ha;simp only[qb,qo,qq ha.app.1,qq ha.app.2]
 |dB x i=>simp only[cc.reads]at ha;simp only[qb,qo,qq ha.app.1,qq ha.app.2]
 |fieldAddr ag off n x=>simp only[qb,qo,qq (x:=x) ha]
 |indexAddr sz x i=>simp only[cc.reads]at ha;simp only[qb,qo,qq ha.app.1,qq ha.app.2]
 |dZ ag l sz x i=>simp only[cc.reads]at ha;simp only[qb,qo,qq ha.app.1,qq ha.app.2]
 |slice sz x lo hi=>simp only[cc.reads]at ha;simp only[qb,qo,qq ha.app.1.app.1,Bi _ _ ha.app.1.app.2,Bi _ _ ha.app.2]
 |dC x lo hi=>simp only[cc.reads]at ha;simp only[qb,qo,qq ha.app.1.app.1,Bi _ _ ha.app.1.app.2,Bi _ _ ha.app.2]
 |fo l sz x lo hi=>simp only[cc.reads]at ha;simp only[qb,qo,qq ha.app.1.app.1,Bi _ _ ha.app.1.app.2,Bi _ _ ha.app.2]
 |fL f x y=>simp only[cc.reads]at ha;simp only[qb,qo,Bh ha.app.1,Bh ha.app.2]
 |len k x=>simp only[qb,qo,qq (x:=x) ha]
 |append r sz b x y=>
  simp only[cc.reads]at ha
  cases r with
  |none=>simp only[qb,qo,qq ha.app.1,qq ha.app.2,OY ha.app.1]
  |some r=>simp only[qb,qp,qq ha.app.1,qq ha.app.2,OY ha.app.1]
 |gp r sz b x y=>simp only[cc.reads]at ha;simp only[qb,qp,qq ha.app.1,qq ha.app.2]
 |ib r sz n z ps=>simp only[qb,qp,OZ (l:=ps) ha]
 |bK r sz b z n c=>
  simp only[cc.reads]at ha
  cases r with
  |none=>simp only[qb,qo,qq ha.app.1,qq ha.app.2]
  |some r=>simp only[qb,qp,qq ha.app.1,qq ha.app.2]
 |mx l=>simp only[qb,qo,Bh (l:=l) ha]
 |mn l=>simp only[qb,qo,Bh (l:=l) ha]
 |extract x i=>simp only[qb,qo,qq (x:=x) ha]
 |load ag n x=>simp only[qb,zm,qq (x:=x) ha]
 |alloc r z=>rfl
 |fm r t e=>rfl
 |box r n x=>simp only[qb,qp,qq (x:=x) ha]
 |bS off x=>simp only[qb,qp,qq (x:=x) ha]
 |store n x y=>simp only[cc.reads]at ha;simp only[qb,qp,qq ha.app.1,qq ha.app.2,OY ha.app.2]
 |dD r=>rfl
 |cR r x=>simp only[qb,qp,qq (x:=x) ha]
 |call md f l=>simp only[cc.reads]at ha;simp only[qb,zf,qq ha.app.1,Bh ha.app.2]
 |lookup kd z ok x y=>simp only[cc.reads]at ha;simp only[qb,zm,qq ha.app.1,qq ha.app.2]
 |mapUpdate kd x y z=>simp only[cc.reads]at ha;simp only[qb,qp,qq ha.app.1.app.1,qq ha.app.1.app.2,qq ha.app.2]
 |delete kd x y=>simp only[cc.reads]at ha;simp only[qb,qp,qq ha.app.1,qq ha.app.2]
 |copy sz x y=>simp only[cc.reads]at ha;simp only[qb,qp,qq ha.app.1,qq ha.app.2]
 |eK x=>simp only[qb,qp,qq (x:=x) ha]
 |bad=>rfl
def aK.at (r:aK)(h:ql):aK:={ r with heap:=h }
theorem lf {h h' x r}(hs:val h x=I r):r.heap=h∧val h' x=I (r.at h'):=by
 simp only[val,I.injEq]at hs;subst hs;exact⟨rfl,rfl⟩
theorem q84 (h:ql)(x:Option AVal):kl h x=(kl [] x).map (·.at h):=by cases x<;>rfl
theorem O0 {α β:Type}(c:Bool)(x y:Option α)(f:α→β):(bif c then x else y).map f=bif c then x.map f else y.map f:=by cases c<;>rfl
theorem Yr (e:Env)(h:ql)(op:cc):qo e h op=(qo e [] op).map (·.at h):=by
 cases op with
 |append r sz b x y=>
  cases r with
  |some r=>rfl
  |none=>
   simp only[qo]
   repeat' split
   all_goals first
    |rfl
    |(simp only[O0];repeat' split)<;>rfl
 |bK r sz b z n c=>
  cases r with
  |some r=>rfl
  |none=>
   simp only[qo]
   repeat' split
   all_goals first
    |rfl
    |(simp only[O0];rfl)
 |_=>
  simp only[qo]
  repeat' split
  all_goals first
   |rfl
   |exact q84 _ _
   |(simp only[O0];first|rfl|(repeat' split)<;>rfl)
theorem Ys {e h}(h':ql){op r}(hs:qo e h op=I r):r.heap=h∧qo e h' op=I (r.at h'):=by
 rw[Yr]at hs
 obtain⟨r0,h1,rfl⟩:=E3.1 hs
 refine⟨rfl,?_⟩
 rw[Yr,h1]
 rfl
end
section
variable {p:jg}{xc:XC}{h0:Nat}{al:Option (List Nat)}
def nV:Option aJ→Bool
 |some (.vec ..)=>Hy
 |some .hole=>Hy
 |_=>Ek
theorem DN {h b cs}(hc:ji h b=I cs):nV h[b]?=Ek:=by
 unfold ji at hc
 split at hc
 ·rename_i h1;rw[h1];rfl
 ·cases hc
theorem Bj {h b x}(hb:j6 h b=I x)(hx:nV (I x)=Ek):nV h[b]?=Ek:=by
 unfold j6 at hb;rw[hb];exact hx
def O1:aJ→Option Nat
 | .vec sz _ _=>I sz
 |_=>H2
def HB (h0:Nat)(al:Option (List Nat))(F:ql→Option aK)(h:ql)(r:aK):uS→Nat→Prop
 | .pure,_=>r.heap=h∧∀h',F h'=I (r.at h')
 | .read,_=>r.heap=h∧∀h':ql,(∀b,jm h0 al b=Ek→(nE al=Ek→nV h[b]?=Ek)→h'[b]?=h[b]?)→F h'=I (r.at h')
 | .alloc,k=>∃x,aG h0 h k x=I r.heap∧∀h' h3,aG h0 h' k x=I h3→F h'=I (r.at h3)
 | .write,_=>∃b x,jm h0 al b=Ek∧nV h[b]?=Ek∧nV (I x)=Ek∧jh h b x=I r.heap∧∀h' h3:ql,h'[b]?=h[b]?→jh h' b x=I h3→F h'=I (r.at h3)
 | .take,k=>∃b cs v o,jm h0 al b=Ek∧h[b]?=I (.cells cs)∧cs[k]?=I (v,o)∧r.heap=h.set b (.cells (cs.set k (v,Hy))) ∧
   ∀(h':ql) (dV:List (AVal×Bool)),h'[b]?=I (.cells dV)→dV[k]?=I (v,o)→F h'=I (r.at (h'.set b (.cells (dV.set k (v,Hy)))))
 | .eH,_=>False
 | .shr,_=>True
 | .l7,k=>∃q x y,(q=h0+k % 1000∧y=.hole∨O1 y=I (k / 1000))∧h[q]?=I y∧r.heap=h.set q x∧O1 x=I (k / 1000)∧∀h':ql,h'[q]?=I y→F h'=I (r.at (h'.set q x))
theorem DP {h h' b}(hb:h'[b]?=h[b]?):ji h' b=ji h b:=by simp only[ji,hb]
theorem q6t {e h op r}(hs:qb p xc h0 al e h op=I r):HB h0 al (fun h=>qb p xc h0 al e h op) h r op.cl op.cm:=by
 have fA:(∀h,qb p xc h0 al e h op=qo e h op)→op.cl=.pure→HB h0 al (fun h=>qb p xc h0 al e h op) h r op.cl op.cm:=by
  intro heq vm
  rw[vm]
  rw[heq]at hs
  exact⟨(Ys h hs).1,fun h'=>(heq h').trans (Ys h' hs).2⟩
 cases op with
 |load ag n x=>
  simp only[qb,zm]at hs
  split at hs
  ·rename_i b o hv
   cases hk:jm h0 al b with
   |false=>simp[hk]at hs
   |true=>
    simp only[hk,cond_true]at hs
    split at hs
    ·rename_i cs hcs
     split at hs
     ·rename_i vs HE
      have key:r.heap=h∧∀h':ql,ji h' b=ji h b→zm h0 al e h' (.load ag n x)=I (r.at h'):=by
       cases ag with
       |true=>
        simp only[cond_true]at hs
        refine⟨(lf (h':=h) hs).1,fun h' hb=>?_⟩
        simp only[zm,hv,hk,cond_true,hb,hcs,HE]
        exact(lf (h':=h') hs).2
       |false=>
        simp only[cond_false]at hs
        split at hs
        ·refine⟨(lf (h':=h) hs).1,fun h' hb=>?_⟩
         simp only[zm,hv,hk,cond_true,hb,hcs,HE,cond_false]
         exact(lf (h':=h') hs).2
        ·cases hs
      exact⟨key.1,fun h' cz=>key.2 h' (DP (cz b hk fun _=>DN hcs))⟩
     ·cases hs
    ·cases hs
  ·rename_i v hv
   cases hk:(Eau ag v.isAgg||!(Hu v.flat.length n))with
   |true=>simp[hk]at hs
   |false=>
    simp only[hk,cond_false]at hs
    refine⟨(lf (h':=h) hs).1,fun h' _=>?_⟩
    simp only[qb,zm,hv,hk,cond_false]
    exact(lf (h':=h') hs).2
  ·rename_i b bm q hv
   cases hk:qC h0 al b with
   |false=>simp[hk]at hs
   |true=>
    simp only[hk,cond_true]at hs
    have mr:=hk
    simp only[qC,Ea,Bool.not_eq_true']at mr
    split at hs
    ·rename_i sz cU xs fR
     have il:∀h':ql,(∀b,jm h0 al b=Ek→(nE al=Ek→nV h[b]?=Ek)→h'[b]?=h[b]?)→j6 h' b=I (.vec sz cU xs):=fun h' cz=>by
      unfold j6 at fR ⊢;rw[cz b mr.1 (fun ho=>by rw[mr.2]at ho;cases ho),fR]
     cases cS:(Hu bm cU&&Jp (q+n) (xs.flatMap AVal.flat).length)with
     |false=>rw[cS]at hs;cases hs
     |true=>
      rw[cS]at hs
      simp only[cond_true]at hs
      cases ag with
      |true=>
       simp only[cond_true]at hs
       refine⟨(lf (h':=h) hs).1,fun h' cz=>?_⟩
       simp only[qb,zm,hv,hk,cond_true,il h' cz,cS]
       exact(lf (h':=h') hs).2
      |false=>
       simp only[cond_false]at hs
       split at hs
       ·rename_i z hz
        refine⟨(lf (h':=h) hs).1,fun h' cz=>?_⟩
        simp only[qb,zm,hv,hk,cond_true,il h' cz,cS,cond_false,hz]
        exact(lf (h':=h') hs).2
       ·cases hs
    ·cases hs
  ·cases hs
 |len k x=>exact fA (fun _=>rfl) rfl
 |alloc rk z=>
  simp only[qb,qp]at hs
  cases hk:z.all qk with
  |false=>simp[hk]at hs
  |true=>
   simp only[hk,cond_true]at hs
   split at hs
   ·rename_i h' hn
    have h1:=qw hs
    refine⟨_,by rw[h1];exact hn,fun g g3 hg=>?_⟩
    simp only[qb,qp,hk,cond_true]
    rw[show cc.cm (.alloc rk z)=rk from rfl]at hg
    rw[hg,h1];rfl
   ·cases hs
 |box rk n x=>
  simp only[qb,qp]at hs
  split at hs
  ·rename_i v hv
   cases hk:(Hu v.flat.length n&&v.flat.all qk)with
   |false=>simp[hk]at hs
   |true=>
    simp only[hk,cond_true]at hs
    split at hs
    ·rename_i h' hn
     have h1:=qw hs
     refine⟨_,by rw[h1];exact hn,fun g g3 hg=>?_⟩
     simp only[qb,qp,hv,hk,cond_true]
     rw[show cc.cm (.box rk n x)=rk from rfl]at hg
     rw[hg,h1];rfl
    ·cases hs
  ·cases hs
 |fm rk t e'=>
  simp only[qb,qp]at hs
  split at hs
  ·rename_i h' hn
   have h1:=qw hs
   refine⟨_,by rw[h1];exact hn,fun g g3 hg=>?_⟩
   simp only[qb,qp]
   rw[show cc.cm (.fm rk t e')=rk from rfl]at hg
   rw[hg,h1];rfl
  ·cases hs
 |dD rk=>
  simp only[qb,qp]at hs
  split at hs
  ·rename_i h' hn
   have h1:=qw hs
   refine⟨_,by rw[h1];exact hn,fun g g3 hg=>?_⟩
   simp only[qb,qp]
   rw[show cc.cm (.dD rk)=rk from rfl]at hg
   rw[hg,h1];rfl
  ·cases hs
 |cR rk x=>
  simp only[qb,qp]at hs
  split at hs
  ·rename_i s hv
   split at hs
   ·rename_i h' hn
    have h1:=qw hs
    refine⟨_,by rw[h1];exact hn,fun g g3 hg=>?_⟩
    simp only[qb,qp,hv]
    rw[show cc.cm (.cR rk x)=rk from rfl]at hg
    rw[hg,h1];rfl
   ·cases hs
  ·cases hs
 |bS off x=>
  simp only[qb,qp]at hs
  split at hs
  ·rename_i b o hv
   cases hk:jm h0 al b&&qD off o with
   |false=>simp[hk]at hs
   |true=>
    simp only[hk,cond_true]at hs
    have ei:jm h0 al b=Ek:=by simp only[Ea]at hk;exact hk.1
    split at hs
    ·rename_i cs hcs
     split at hs
     ·rename_i v ow hq
      split at hs
      ·rename_i h' aZ
       cases hs
       have mF:=aZ
       unfold jh at mF
       cases aC:Ib b h.length with
       |false=>simp[aC]at mF
       |true=>
        simp only[aC,cond_true,I.injEq]at mF
        cases off with
        |none=>
         refine⟨b,_,ei,DN hcs,rfl,aZ,fun g g3 hb hg=>?_⟩
         simp only[qb,qp,hv,hk,cond_true,DP hb,hcs,hq,hg]
         rfl
        |some k=>
         have hko:k=o:=by
          simp only[Ea,qD]at hk;exact Eb hk.2
         subst hko
         have hhb:h[b]?=I (.cells cs):=by
          unfold ji at hcs
          split at hcs
          ·rename_i dV h';cases hcs;exact h'
          ·cases hcs
         refine⟨b,cs,v,ow,ei,hhb,hq,mF.symm,fun g dV hg dl=>?_⟩
         have dl:dV[k]?=I (v,ow):=dl
         have hlg:b<g.length:=(Gc.1 hg).1
         have ld:ji g b=I dV:=by simp only[ji,hg]
         have hsg:jh g b (.cells (dV.set k (v,Hy)))=I (g.set b (.cells (dV.set k (v,Hy)))):=by
          unfold jh;rw[Jg.mpr hlg];rfl
         simp only[qb,qp,hv,hk,cond_true,ld,dl,hsg]
         rfl
      ·cases hs
     ·cases hs
    ·cases hs
  ·cases hs
 |store n x y=>
  simp only[qb,qp]at hs
  split at hs
  ·rename_i b o v hv hy
   cases hk:jm h0 al b with
   |false=>simp[hk]at hs
   |true=>
    simp only[hk,cond_true]at hs
    split at hs
    ·rename_i cs hcs
     split at hs
     ·rename_i t ht
      cases cS:(Hu n 1&&v.b6&&Ib o cs.length)with
      |false=>simp[cS]at hs
      |true=>
       simp only[cS,cond_true]at hs
       split at hs
       ·rename_i h' aZ
        cases hs
        refine⟨b,_,hk,DN hcs,rfl,aZ,fun g g3 hb hg=>?_⟩
        simp only[qb,qp,hv,hy,hk,cond_true,DP hb,hcs,ht,cS,hg]
        rfl
       ·cases hs
     ·rename_i ht
      cases cS:Hu v.flat.length n with
      |false=>simp[cS]at hs
      |true=>
       simp only[cS,cond_true]at hs
       split at hs
       ·rename_i dV bH
        split at hs
        ·rename_i h' aZ
         have h1:=qw hs
         refine⟨b,_,hk,DN hcs,rfl,by rw[h1];exact aZ,fun g g3 hb hg=>?_⟩
         simp only[qb,qp,hv,hy,hk,cond_true,DP hb,hcs,ht,cS,bH,hg,h1]
         rfl
        ·cases hs
       ·cases hs
    ·cases hs
  ·cases hs
 |call md f l=>
  cases md with
  |shr=>trivial
  |red=>trivial
  |eH rk=>
   simp only[qb,zf]at hs
   split at hs
   ·rename_i k first captured vs e1 e2
    cases hb:(first++vs++captured).isEmpty with
    |false=>
     rw[hb]at hs
     simp only[cond_false]at hs
     cases iK:qr 0 (first++vs++captured)with
     |false=>rw[iK]at hs;cases hs
     |true=>
      rw[iK]at hs
      simp only[cond_true]at hs
      split at hs
      ·rename_i v o rW
       have goal:∃x,aG h0 h rk x=I r.heap∧∀g g3,aG h0 g rk x=I g3→oo h0 g rk v o=I (r.at g3):=by
        unfold oo at hs
        split at hs
        ·split at hs
         ·rename_i h' hn
          have h1:=qw hs
          refine⟨_,by rw[h1];exact hn,fun g g3 hg=>?_⟩
          simp only[oo,hg,h1];rfl
         ·cases hs
        ·rename_i sz xs
         cases Du:(xs.flatMap AVal.flat).all l4 with
         |false=>rw[Du]at hs;cases hs
         |true=>
          rw[Du]at hs
          simp only[cond_true]at hs
          split at hs
          ·rename_i h' hn
           have h1:=qw hs
           refine⟨_,by rw[h1];exact hn,fun g g3 hg=>?_⟩
           simp only[oo,Du,cond_true,hg,h1];rfl
          ·cases hs
        ·cases hs
       obtain⟨x,g1,g2⟩:=goal
       refine⟨x,g1,fun g g3 hg=>?_⟩
       simp only[qb,zf,e1,e2,rW]
       rw[hb,iK]
       exact g2 g g3 hg
      ·cases hs
    |true=>
     rw[hb]at hs
     simp only[cond_true]at hs
     split at hs
     ·rename_i es hm
      split at hs
      ·rename_i h' hn
       have h1:=qw hs
       refine⟨_,by rw[h1];exact hn,fun g g3 hg=>?_⟩
       simp only[qb,zf,e1,e2,hm]
       rw[hb]
       simp only[cond_true]
       rw[show cc.cm (.call (.eH rk) f l)=rk from rfl]at hg
       rw[hg,h1];rfl
      ·cases hs
     ·cases hs
   ·cases hs
   ·cases hs
  |bw=>
   simp only[qb,zf]at hs
   split at hs
   ·rename_i k first captured vs e1 e2
    cases hb:qr 0 (first++vs++captured)with
    |false=>rw[hb]at hs;cases hs
    |true=>
     rw[hb]at hs
     simp only[cond_true]at hs
     split at hs
     ·rename_i v o rW
      cases hs
      refine⟨rfl,fun h'=>?_⟩
      simp only[qb,zf,e1,e2,rW]
      rw[hb]
      rfl
     ·cases hs
   ·cases hs
   ·cases hs
 |append rk sz b x y=>
  cases rk with
  |none=>exact fA (fun _=>rfl) rfl
  |some rk=>
   simp only[qb,qp]at hs
   split at hs
   ·rename_i cD vy e1 e2
    cases fp:((jy e x).isSome&&Hu sz cD)with
    |false=>simp[fp]at hs
    |true=>
     simp only[fp,cond_true]at hs
     split at hs
     ·rename_i ys cw
      cases cS:(Jp ys.length 1073741824&&Jp b 4096&&Ib 0 sz)with
      |false=>simp[cS]at hs
      |true=>
       simp only[cS,cond_true]at hs
       split at hs
       ·rename_i h' hn
        cases hs
        refine⟨_,hn,fun g g3 hg=>?_⟩
        simp only[qb,qp,e1,e2,fp,cw,cS,cond_true]
        rw[show cc.cm (.append (I rk) sz b x y)=rk from rfl]at hg
        rw[hg];rfl
       ·cases hs
     ·cases hs
   ·cases hs
 |gp rk sz bt x y=>
  simp only[qb,qp]at hs
  split at hs
  ·rename_i Om vy e1 e2
   split at hs
   ·rename_i ys cw
    cases hk:(Jp ys.length 1073741824&&Jp bt 4096&&Ib 0 sz&&!ys.isEmpty&&qr 0 ys&&Ib rk 1000)with
    |false=>rw[hk]at hs;cases hs
    |true=>
     rw[hk]at hs
     simp only[cond_true]at hs
     split at hs
     ·rename_i h' cL
      obtain rfl:=qw hs
      obtain⟨i1,i2⟩:=zt cL
      have hrk:rk<1000:=by simp only[Ea]at hk;exact Jg.mp hk.2
      have m1:(rk+1000*sz) % 1000=rk:=by omega
      have m2:(rk+1000*sz) / 1000=sz:=by omega
      refine⟨h0+rk,.vec sz 0 ys,.hole,.inl ⟨by show _=h0+(rk+1000*sz) % 1000;rw[m1],rfl⟩,i1,i2,by show I sz=I ((rk+1000*sz) / 1000);rw[m2],fun g hg=>?_⟩
      simp only[qb,qp,e1,e2,cw,hk,cond_true,aG,hg]
      rfl
     ·cases hs
   ·cases hs
  ·rename_i b bm len vy e1 e2
   split at hs
   ·rename_i cD cU xs fR
    split at hs
    ·rename_i ys cw
     cases hk:(Hu bm cU&&Hu sz cD&&Jp len xs.length&&Jp (len+ys.length) 1073741824&&Jp bt 4096&&Ib 0 sz&&qr 0 ys&&Ib rk 1000)with
     |false=>rw[hk]at hs;cases hs
     |true=>
      rw[hk]at hs
      simp only[cond_true]at hs
      split at hs
      ·rename_i h' aZ
       obtain rfl:=qw hs
       have ei:=hk
       simp only[Ea]at ei
       obtain⟨⟨⟨⟨⟨⟨⟨_,k2⟩,_⟩,_⟩,_⟩,_⟩,_⟩,k8⟩:=ei
       have cr:=Eb k2
       have hrk:rk<1000:=Jg.mp k8
       have m2:(rk+1000*sz) / 1000=sz:=by omega
       have aC:b<h.length:=by unfold j6 at fR;exact(Gc.1 fR).1
       have hh:h'=h.set b (.vec sz (bm+1) (xs.take len++ys)):=by
        unfold jh at aZ
        rw[Jg.mpr aC]at aZ
        simpa using aZ.symm
       refine⟨b,.vec sz (bm+1) (xs.take len++ys),.vec cD cU xs,.inr (by show I cD=I ((rk+1000*sz) / 1000);rw[m2,cr]),fR,hh,by show I sz=I ((rk+1000*sz) / 1000);rw[m2],fun g hg=>?_⟩
       have il:j6 g b=I (.vec cD cU xs):=hg
       have rX:b<g.length:=(Gc.1 hg).1
       simp only[qb,qp,e1,e2,il,cw,hk,cond_true,jh,Jg.mpr rX]
       rfl
      ·cases hs
    ·cases hs
   ·cases hs
  ·cases hs
 |ib rk sz n z ps=>trivial
 |bK rk sz b z n c=>
  cases rk with
  |none=>exact fA (fun _=>rfl) rfl
  |some rk=>
   simp only[qb,qp]at hs
   split at hs
   ·rename_i n' c' e1 e2
    cases hk:(Hu n' c'&&Jp n' 1073741824&&Jp b 4096&&Hu z.length sz&&Ib 0 sz&&z.all qk)with
    |false=>simp[hk]at hs
    |true=>
     simp only[hk,cond_true]at hs
     split at hs
     ·rename_i h' hn
      have h1:=qw hs
      refine⟨_,by rw[h1];exact hn,fun g g3 hg=>?_⟩
      simp only[qb,qp,e1,e2,hk,cond_true]
      rw[show cc.cm (.bK (I rk) sz b z n c)=rk from rfl]at hg
      rw[hg,h1];rfl
     ·cases hs
   ·cases hs
 |lookup kd z ok x y=>
  simp only[qb,zm]at hs
  split at hs
  ·rename_i b kv e1 e2
   cases hk:jm h0 al b with
   |false=>simp[hk]at hs
   |true=>
    simp only[hk,cond_true]at hs
    split at hs
    ·rename_i es hb
     have il:∀h':ql,(∀b,jm h0 al b=Ek→(nE al=Ek→nV h[b]?=Ek)→h'[b]?=h[b]?)→j6 h' b=I (.map es):=fun h' cz=>by
      have hnv:=Bj hb rfl
      unfold j6 at hb ⊢;rw[cz b hk fun _=>hnv,hb]
     split at hs
     ·rename_i i v hf
      refine⟨(lf (h':=h) hs).1,fun h' cz=>?_⟩
      simp only[qb,zm,e1,e2,hk,cond_true,il h' cz,hf]
      exact(lf (h':=h') hs).2
     ·rename_i hf
      refine⟨(lf (h':=h) hs).1,fun h' cz=>?_⟩
      simp only[qb,zm,e1,e2,hk,cond_true,il h' cz,hf]
      exact(lf (h':=h') hs).2
     ·cases hs
    ·cases hs
  ·rename_i kv e1 e2
   refine⟨(lf (h':=h) hs).1,fun h' cz=>?_⟩
   simp only[qb,zm,e1,e2]
   exact(lf (h':=h') hs).2
  ·cases hs
 |mapUpdate kd x y z=>
  simp only[qb,qp]at hs
  split at hs
  ·rename_i b kv v e1 e2 e3
   cases hk:jm h0 al b with
   |false=>simp[hk]at hs
   |true=>
    simp only[hk,cond_true]at hs
    split at hs
    ·rename_i es hb
     have il:∀h':ql,h'[b]?=h[b]?→j6 h' b=I (.map es):=fun h' cz=>by
      unfold j6 at hb ⊢;rw[cz,hb]
     split at hs
     ·rename_i i u hf
      split at hs
      ·rename_i h' aZ
       have h1:=qw hs
       refine⟨b,_,hk,Bj hb rfl,rfl,by rw[h1];exact aZ,fun g g3 eO hg=>?_⟩
       simp only[qb,qp,e1,e2,e3,hk,cond_true,il g eO,hf,hg,h1]
       rfl
      ·cases hs
     ·rename_i hf
      cases hl:Jp es.length 1073741824 with
      |false=>simp[hl]at hs
      |true=>
       simp only[hl,cond_true]at hs
       split at hs
       ·rename_i h' aZ
        have h1:=qw hs
        refine⟨b,_,hk,Bj hb rfl,rfl,by rw[h1];exact aZ,fun g g3 eO hg=>?_⟩
        simp only[qb,qp,e1,e2,e3,hk,cond_true,il g eO,hf,hl,hg,h1]
        rfl
       ·cases hs
     ·cases hs
    ·cases hs
  ·cases hs
 |delete kd x y=>
  simp only[qb,qp]at hs
  split at hs
  ·rename_i b kv e1 e2
   cases hk:jm h0 al b with
   |false=>simp[hk]at hs
   |true=>
    simp only[hk,cond_true]at hs
    split at hs
    ·rename_i es hb
     have il:∀h':ql,h'[b]?=h[b]?→j6 h' b=I (.map es):=fun h' cz=>by
      unfold j6 at hb ⊢;rw[cz,hb]
     split at hs
     ·rename_i rr hf
      split at hs
      ·rename_i h' aZ
       have h1:=qw hs
       refine⟨b,_,hk,Bj hb rfl,rfl,by rw[h1];exact aZ,fun g g3 eO hg=>?_⟩
       simp only[qb,qp,e1,e2,hk,cond_true,il g eO,hf,hg,h1]
       rfl
      ·cases hs
     ·cases hs
    ·cases hs
  ·cases hs
 |copy sz x y=>
  simp only[qb,qp]at hs
  split at hs
  ·rename_i b o len vy e1 e2
   cases hk:jm h0 al b with
   |false=>simp[hk]at hs
   |true=>
    simp only[hk,cond_true]at hs
    split at hs
    ·rename_i cs hcs
     split at hs
     ·rename_i n us cw
      split at hs
      ·rename_i dV bH
       cases cS:Hu us.length (n*sz)with
       |false=>simp[cS]at hs
       |true=>
        simp only[cS,cond_true]at hs
        split at hs
        ·rename_i h' aZ
         have h1:=qw hs
         refine⟨b,_,hk,DN hcs,rfl,by rw[h1];exact aZ,fun g g3 hb hg=>?_⟩
         simp only[qb,qp,e1,e2,hk,cond_true,DP hb,hcs,cw,bH,cS,hg,h1]
         rfl
        ·cases hs
      ·cases hs
     ·cases hs
    ·cases hs
  ·cases hs
 |eK x=>
  simp only[qb,qp]at hs
  split at hs
  ·rename_i b hv
   cases hk:jm h0 al b with
   |false=>simp[hk]at hs
   |true=>
    simp only[hk,cond_true]at hs
    split at hs
    ·rename_i s pos hb
     have aC:b<h.length:=by unfold j6 at hb;exact(Gc.1 hb).1
     cases hp:Ib pos s.length with
     |true=>
      simp only[hp,cond_true]at hs
      split at hs
      ·rename_i h' aZ
       have h1:=qw hs
       refine⟨b,_,hk,Bj hb rfl,rfl,by rw[h1];exact aZ,fun g g3 eO hg=>?_⟩
       have il:j6 g b=I (.iter s pos):=by unfold j6 at hb ⊢;rw[eO,hb]
       simp only[qb,qp,hv,hk,cond_true,il,hp,hg,h1]
       rfl
      ·cases hs
     |false=>
      simp only[hp,cond_false]at hs
      have h1:=qw hs
      have DQ:h.set b (.iter s pos)=h:=by
       unfold j6 at hb
       apply Rb
       intro k
       rw[Q6]
       split
       ·rename_i hbk;subst hbk;first|exact hb.symm|rw[if_pos aC,hb]
       ·rfl
      refine⟨b,.iter s pos,hk,Bj hb rfl,rfl,by rw[h1];unfold jh;rw[Jg.mpr aC];simp[DQ],fun g g3 eO hg=>?_⟩
      have il:j6 g b=I (.iter s pos):=by unfold j6 at hb ⊢;rw[eO,hb]
      have rX:b<g.length:=by unfold j6 at il;exact(Gc.1 il).1
      have vF:g3=g:=by
       unfold jh at hg
       rw[Jg.mpr rX]at hg
       simp only[cond_true,I.injEq]at hg
       rw[←hg]
       unfold j6 at il
       apply Rb
       intro k
       rw[Q6]
       split
       ·rename_i hbk;subst hbk;first|exact il.symm|rw[if_pos rX,il]
       ·rfl
      simp only[qb,qp,hv,hk,cond_true,il,hp,cond_false,h1,vF]
      rfl
    ·cases hs
  ·cases hs
 |_=>exact fA (fun _=>rfl) rfl
theorem tF {h h' b x}(hs:jh h b x=I h'):b<h.length∧h'=h.set b x:=by
 unfold jh at hs
 cases hb:Ib b h.length with
 |false=>simp[hb]at hs
 |true=>exact⟨Jg.mp hb,by simpa[hb]using hs.symm⟩
theorem vG {h b x}(hb:b<h.length):jh h b x=I (h.set b x):=by
 unfold jh
 rw[Jg.mpr hb];rfl
theorem Bk {h k x}(hh:h[h0+k]?=I .hole):aG h0 h k x=I (h.set (h0+k) x):=by
 unfold aG;rw[hh]
theorem Bl {b k}(h:jm h0 al b=Ek)(hk:lz al k=Hy):b≠h0+k:=by
 intro hb
 subst hb
 cases al with
 |none=>simp[lz]at hk
 |some l=>
  simp only[jm,lz]at h hk
  have h1:Ib (h0+k) h0=Hy:=by
   cases hh:Ib (h0+k) h0 with
   |false=>rfl
   |true=>have:=Jg.mp hh;omega
  cases he:mZ l with
  |false=>
   rw[he]at h hk
   simp only[cond_false]at h hk
   rw[h1,Qn,show h0+k-h0=k from by omega,hk]at h
   cases h
  |true=>
   rw[he]at h hk
   simp only[cond_true]at h hk
   cases l with
   |nil=>cases he
   |cons x l=>
    simp only[uM]at h
    cases hx:Ib x 2000 with
    |true=>rw[hx]at h;simp only[cond_true,h1,Bool.and_false]at h;cases h
    |false=>
     rw[hx]at h
     simp only[cond_false]at h
     cases Yt:Ib x 4000 with
     |false=>rw[Yt]at h;simp only[cond_false,h1]at h;cases h
     |true=>
      rw[Yt]at h
      simp only[cond_true]at h
      have h2:=Eb h
      have h3:¬x<2000:=fun hh=>by rw[Jg.mpr hh]at hx;cases hx
      have h4:x=2000+k:=by omega
      rw[show(x::l).headD 0=x from rfl,h4,Eaf]at hk
      cases hk
theorem Yu {l:List Nat}{x}(h:(!(l.contains x))=Ek):l.contains x=Hy:=by
 cases hc:l.contains x with
 |false=>rfl
 |true=>rw[hc]at h;cases h
theorem O2 {O3 O4:Option (List Nat)}{b b'}(h:A2 O3 O4=Ek)(h1:jm h0 O3 b=Ek)(h2:jm h0 O4 b'=Ek):b≠b':=by
 intro hb
 subst hb
 cases O3 with
 |none=>cases h
 |some l=>
  cases O4 with
  |none=>cases h
  |some m=>
   simp only[A2,jm]at h h1 h2
   have inv:∀ {k:List Nat},mZ k=Ek→Ib (k.headD 0) 4000=Ek→uM h0 k b=Ek→(1000≤k.headD 0)∧((k.headD 0<2000∧b=k.headD 0-1000∧b<h0)∨(2000≤k.headD 0∧b=h0+(k.headD 0-2000))):=by
    intro k he h4 hq
    cases k with
    |nil=>cases he
    |cons x k=>
     refine⟨En he,?_⟩
     simp only[uM]at hq
     cases hx:Ib x 2000 with
     |true=>
      rw[hx]at hq
      simp only[cond_true,Ea]at hq
      exact .inl ⟨Jg.mp hx,Eb hq.1,Jg.mp hq.2⟩
     |false=>
      rw[hx,show Ib x 4000=Ek from h4]at hq
      simp only[cond_false,cond_true]at hq
      have h3:¬x<2000:=fun hh=>by rw[Jg.mpr hh]at hx;cases hx
      exact .inr ⟨by show 2000≤x;omega,Eb hq⟩
   have old:∀ {k:List Nat} {r:Nat},b=h0+r→k.contains r=Hy→(Ib b h0||k.contains (b-h0))=Ek→False:=by
    intro k r gM hc hq
    have h3:Ib b h0=Hy:=by
     cases hh:Ib b h0 with
     |false=>rfl
     |true=>have:=Jg.mp hh;omega
    rw[h3,Qn,show b-h0=r by omega,hc]at hq
    cases hq
   cases hl:mZ l with
   |true=>
    rw[hl]at h h1
    simp only[cond_true]at h h1
    cases hm:mZ m with
    |true=>
     rw[hm]at h h2
     simp only[cond_true,Ea]at h h2
     obtain⟨i1,i2⟩:=inv hl h.1.2 h1
     obtain⟨i3,i4⟩:=inv hm h.2 h2
     have aS:l.headD 0≠m.headD 0:=fun e=>by rw[e,Eaf]at h;exact absurd h.1.1 (by simp)
     omega
    |false=>
     rw[hm]at h h2
     simp only[cond_false,Ea]at h h2
     obtain⟨i1,i2⟩:=inv hl h.1.2 h1
     have h3:=En h.1.1
     exact old (by omega) (Yu h.2) h2
   |false=>
    rw[hl]at h h1
    simp only[cond_false,Ea]at h h1
    obtain⟨⟨⟨h3,h4⟩,h6⟩,h5⟩:=h
    rw[h3]at h2
    simp only[cond_true]at h2
    obtain⟨i3,i4⟩:=inv h3 h6 h2
    have h4:=En h4
    exact old (by omega) (Yu h5) h1
theorem O5 {F h r k}(H:HB h0 al F h r .take k):HB h0 al F h r .write k:=by
 obtain⟨b,cs,v,o,hb,hc,hv,hs,h4⟩:=H
 have aC:b<h.length:=(Gc.1 hc).1
 refine⟨b,.cells (cs.set k (v,Hy)),hb,by rw[hc];rfl,rfl,by rw[hs];exact vG aC,fun h' h3 hh aZ=>?_⟩
 rw[h4 h' cs (by rw[hh];exact hc) hv]
 obtain⟨_,s2⟩:=tF aZ
 rw[s2]
theorem ja1 {ca cb ka kb nK nL Fa Fb h ra rb}(tG:Fb h=I rb)(DR:Fa rb.heap=I ra)(Hb:HB h0 nL Fb h rb cb kb)(Ha:HB h0 nK Fa rb.heap ra ca ka)
  (dk:cb=.read∨cb=.write∨cb=.take) (dy:ca=.read∨ca=.write∨ca=.take) (gy:A2 nL nK=Ek):
  ∃h1,Fa h=I (ra.at h1)∧Fb h1=I (rb.at ra.heap):=by
 have hat:∀r:aK,r.at r.heap=r:=fun _=>rfl
 have wb:(cb=.read∧HB h0 nL Fb h rb .read kb)∨HB h0 nL Fb h rb .write kb:=by
  rcases dk with rfl|rfl|rfl
  ·exact .inl ⟨rfl,Hb⟩
  ·exact .inr Hb
  ·exact .inr (O5 Hb)
 have wa:(ca=.read∧HB h0 nK Fa rb.heap ra .read ka)∨HB h0 nK Fa rb.heap ra .write ka:=by
  rcases dy with rfl|rfl|rfl
  ·exact .inl ⟨rfl,Ha⟩
  ·exact .inr Ha
  ·exact .inr (O5 Ha)
 rcases wb with⟨_,h1,h2⟩|⟨b,x,hb,_,_,hs,h2⟩
 ·rcases wa with⟨_,h3,h4⟩|⟨b',y,eO,_,_,gR,h4⟩
  ·exact⟨h,h4 h (fun b _ _=>by rw[h1]),by rw[h3,hat];exact tG⟩
  ·rw[h1]at gR
   obtain⟨s1,s2⟩:=tF gR
   refine⟨ra.heap,by rw[hat,←DR,h1],h2 _ (fun b hb _=>?_)⟩
   rw[s2,Ec (Jq (O2 gy hb eO))]
 ·obtain⟨s1,s2⟩:=tF hs
  rcases wa with⟨_,h3,h4⟩|⟨b',y,eO,_,_,gR,h4⟩
  ·refine⟨h,h4 h (fun b' eO _=>?_),by rw[h3,hat];exact tG⟩
   rw[s2,Ec (O2 gy hb eO)]
  ·obtain⟨s3,s4⟩:=tF gR
   have aS:=O2 gy hb eO
   rw[s2,N4]at s3
   refine⟨h.set b' y,h4 _ _ (by rw[s2,Ec aS]) (vG s3),h2 _ _ (by rw[Ec (Jq aS)]) ?_⟩
   rw[vG (by rw[N4];exact s1),s4,s2,N1 _ _ (Jq aS)]
def HQ (ca cb:uS)(ka kb:Nat)(nK nL:Option (List Nat)):Prop:=
 (cb=.l7∧ca=.l7∧kb % 1000≠ka % 1000∧kb / 1000≠ka / 1000)∨(cb=.l7∧(ca=.read∨ca=.write∨ca=.take)∧nE nK=Ek)∨((cb=.read∨cb=.write∨cb=.take)∧ca=.l7∧nE nL=Ek)
theorem jgf {ca cb ka kb nK nL Fa Fb h ra rb}(tG:Fb h=I rb)(DR:Fa rb.heap=I ra)(Hb:HB h0 nL Fb h rb cb kb)(Ha:HB h0 nK Fa rb.heap ra ca ka)
  (kE:HQ ca cb ka kb nK nL):∃h1,Fa h=I (ra.at h1)∧Fb h1=I (rb.at ra.heap):=by
 have hat:∀r:aK,r.at r.heap=r:=fun _=>rfl
 have DS:∀ {c:uS} {k:Nat} {al:Option (List Nat)} {F:ql→Option aK} {g:ql} {r:aK},HB h0 al F g r c k→(c=.read∨c=.write∨c=.take)→HB h0 al F g r .read k∨HB h0 al F g r .write k:=by
  intro c k al F g r H hc
  rcases hc with rfl|rfl|rfl
  ·exact .inl H
  ·exact .inr H
  ·exact .inr (O5 H)
 have Yv:∀ {x:aJ} {z:Nat},O1 x=I z→nV (I x)=Hy:=fun {x z} h=>by cases x<;>first|rfl|cases h
 rcases kE with⟨rfl,rfl,n1,n2⟩|⟨rfl,dy,hs⟩|⟨dk,rfl,hs⟩
 ·obtain⟨q,x,y,hq,hy,hh,hx,hF⟩:=Hb
  obtain⟨q',x',y',HK,oG,HR,ew,hF'⟩:=Ha
  have aC:q<h.length:=(Gc.1 hy).1
  have aS:q≠q':=by
   intro he
   subst he
   rw[hh,N5 aC]at oG
   cases oG
   rcases HK with⟨_,rfl⟩|h4
   ·cases hx
   ·rw[hx]at h4;exact n2 (I.inj h4)
  rw[hh,Ec aS]at oG
  refine⟨h.set q' x',hF' h oG,?_⟩
  rw[hF _ (by rw[Ec (Jq aS)];exact hy),HR,hh,N1 _ _ aS]
 ·obtain⟨q,x,y,hq,hy,hh,hx,hF⟩:=Hb
  have aC:q<h.length:=(Gc.1 hy).1
  -- the box that the append wrote is a vector now
  have cL:nV rb.heap[q]?=Hy:=by rw[hh,N5 aC];exact Yv hx
  rcases DS Ha dy with⟨h3,h4⟩|⟨b,z,hb,hn,O6,hz,h4⟩
  ·refine⟨h,h4 h (fun b hb hn=>?_),by rw[h3,hat];exact tG⟩
   have aS:b≠q:=fun e=>by subst e;rw[hn hs]at cL;cases cL
   rw[hh,Ec (Jq aS)]
  ·have aS:b≠q:=fun e=>by subst e;rw[hn]at cL;cases cL
   obtain⟨s1,s2⟩:=tF hz
   rw[hh,N4]at s1
   refine⟨h.set b z,h4 _ _ (by rw[hh,Ec (Jq aS)]) (vG s1),?_⟩
   rw[hF _ (by rw[Ec aS];exact hy),s2,hh,N1 _ _ aS]
 ·obtain⟨q,x,y,hq,hy,hh,hx,hF⟩:=Ha
  have hold:nV (I y)=Hy:=by
   rcases hq with⟨_,rfl⟩|h1
   ·rfl
   ·exact Yv h1
  rcases DS Hb dk with⟨h3,h4⟩|⟨b,z,hb,hn,O6,hz,h4⟩
  ·rw[h3]at hy hh
   refine⟨h.set q x,hF h hy,?_⟩
   rw[h4 (h.set q x) (fun b hb hn=>by
    have aS:b≠q:=fun e=>by subst e;rw[hy]at hn;rw[hold]at hn;exact absurd (hn hs) (by simp)
    rw[Ec (Jq aS)]),hh]
  ·obtain⟨s1,s2⟩:=tF hz
   have aS:b≠q:=by
    intro e
    subst e
    rw[s2,N5 s1]at hy
    rw[I.inj hy,hold]at O6
    cases O6
   rw[s2,Ec aS]at hy
   refine⟨h.set q x,hF h hy,h4 _ _ (by rw[Ec (Jq aS)]) ?_⟩
   rw[vG (by rw[N4];exact s1),hh,s2,N1 _ _ (Jq aS)]
theorem jd3 {ca cb ka kb nK nL Fa Fb h ra rb}(tG:Fb h=I rb)(DR:Fa rb.heap=I ra)(Hb:HB h0 nL Fb h rb cb kb)(Ha:HB h0 nK Fa rb.heap ra ca ka)
  (kE:cb=.pure∨ca=.pure∨(cb=.read∧ca=.read)∨(cb=.alloc∧ca=.alloc∧kb≠ka)∨(cb=.alloc∧(ca=.read∨ca=.write∨ca=.take)∧lz nK kb=Hy)∨((cb=.read∨cb=.write∨cb=.take)∧ca=.alloc∧lz nL ka=Hy)∨(cb=.take∧ca=.take∧kb≠ka)):
  ∃h1,Fa h=I (ra.at h1)∧Fb h1=I (rb.at ra.heap):=by
 have hat:∀r:aK,r.at r.heap=r:=fun _=>rfl
 rcases kE with rfl|rfl|⟨rfl,rfl⟩|⟨rfl,rfl,aS⟩|⟨rfl,dy,mG⟩|⟨dk,rfl,mG⟩|⟨rfl,rfl,aS⟩
 ·obtain⟨h1,h2⟩:=Hb
  exact⟨ra.heap,by rw[hat,←DR,h1],h2 _⟩
 ·obtain⟨h1,h2⟩:=Ha
  exact⟨h,h2 _,by rw[h1,hat];exact tG⟩
 ·obtain⟨h1,h2⟩:=Hb
  obtain⟨h3,h4⟩:=Ha
  exact⟨h,h4 h (fun b _ _=>by rw[h1]),by rw[h3,hat];exact tG⟩
 ·obtain⟨x,n1,n2⟩:=Hb
  obtain⟨y,n3,n4⟩:=Ha
  obtain⟨i1,i2⟩:=zt n1
  obtain⟨i3,i4⟩:=zt n3
  rw[i2,Ec (by omega)]at i3
  refine⟨h.set (h0+ka) y,n4 _ _ (Bk i3),n2 _ _ ?_⟩
  rw[Bk (by rw[Ec (by omega)];exact i1),i4,i2,N1 _ _ (by omega)]
 ·obtain⟨x,n1,n2⟩:=Hb
  obtain⟨i1,i2⟩:=zt n1
  rcases dy with rfl|rfl|rfl
  ·obtain⟨h3,h4⟩:=Ha
   refine⟨h,h4 h (fun b hb _=>?_),by rw[h3,hat];exact tG⟩
   rw[i2,Ec (Jq (Bl hb mG))]
  ·obtain⟨b,y,hb,_,_,hs,h4⟩:=Ha
   obtain⟨s1,s2⟩:=tF hs
   have aS:=Bl hb mG
   rw[i2,N4]at s1
   refine⟨h.set b y,h4 _ _ (by rw[i2,Ec (Jq aS)]) (vG s1),n2 _ _ ?_⟩
   rw[Bk (by rw[Ec aS];exact i1),s2,i2,N1 _ _ aS]
  ·obtain⟨b,cs,v,o,hb,hc,hv,hs,h4⟩:=Ha
   have aS:=Bl hb mG
   rw[i2,Ec (Jq aS)]at hc
   refine⟨_,h4 _ _ hc hv,n2 _ _ ?_⟩
   rw[Bk (by rw[Ec aS];exact i1),hs,i2,N1 _ _ aS]
 ·obtain⟨y,n3,n4⟩:=Ha
  obtain⟨i3,i4⟩:=zt n3
  rcases dk with rfl|rfl|rfl
  ·obtain⟨h1,h2⟩:=Hb
   refine⟨ra.heap,by rw[hat,←DR,h1],h2 _ (fun b hb _=>?_)⟩
   rw[i4,h1,Ec (Jq (Bl hb mG))]
  ·obtain⟨b,x,hb,_,_,hs,h2⟩:=Hb
   obtain⟨s1,s2⟩:=tF hs
   have aS:=Bl hb mG
   rw[s2,Ec aS]at i3
   refine⟨h.set (h0+ka) y,n4 _ _ (Bk i3),h2 _ _ (by rw[Ec (Jq aS)]) ?_⟩
   rw[vG (by rw[N4];exact s1),i4,s2,N1 _ _ (Jq aS)]
  ·obtain⟨b,cs,v,o,hb,hc,hv,hs,h2⟩:=Hb
   have aS:=Bl hb mG
   rw[hs,Ec aS]at i3
   refine⟨h.set (h0+ka) y,n4 _ _ (Bk i3),?_⟩
   rw[h2 _ cs (by rw[Ec (Jq aS)];exact hc) hv,i4,hs,N1 _ _ (Jq aS)]
 ·obtain⟨b,cs,v,o,hb,hc,hv,hs,h2⟩:=Hb
  obtain⟨b',dV,v',o',eO,dl,qS,gR,h4⟩:=Ha
  have aC:b<h.length:=(Gc.1 hc).1
  by_cases HS:b'=b
  ·subst HS
   rw[hs,N5 aC]at dl
   cases dl
   rw[Ec aS]at qS
   refine⟨h.set b' (.cells (cs.set ka (v',Hy))),h4 h cs hc qS,?_⟩
   rw[h2 _ (cs.set ka (v',Hy)) (by rw[N5 aC]) (by rw[Ec (Jq aS)];exact hv),gR,hs]
   simp only[List.set_set]
   rw[N1 _ _ aS]
  ·rw[hs,Ec (Jq HS)]at dl
   refine⟨h.set b' (.cells (dV.set ka (v',Hy))),h4 h dV dl qS,?_⟩
   rw[h2 _ cs (by rw[Ec HS];exact hc) hv,gR,hs,N1 _ _ HS]
end
section
variable {p:jg}{xc:XC}{h0:Nat}
def kQ (p:jg)(xc:XC)(h0:Nat)(o:bD)(e:Env)(h:ql):Option aK:=
 match km e o.guard with
 |some Ek=>qb p xc h0 o.al e h o.op
 |some Hy=>I ⟨.undef,Hy,H2,h⟩
 |none=>H2
def nM (o:bD)(e:Env)(r:aK):Env:=l5 (ze e r.strip) o.dst r.v r.own
theorem Bm (o:bD)(st:aV):zg p xc h0 o st=(kQ p xc h0 o st.env st.heap).map fun r=>⟨nM o st.env r,r.heap⟩:=by
 unfold zg kQ
 cases hg:km st.env o.guard with
 |none=>rfl
 |some b=>
  cases b with
  |false=>rfl
  |true=>
   simp only[]
   cases qb p xc h0 o.al st.env st.heap o.op<;>rfl
theorem quq {e e' g}(h:Agree (match g with|some g=>[g.1]|none=>[]) e e'):km e g=km e' g:=by
 cases g with
 |none=>rfl
 |some g=>simp only[km,h g.1 (by simp)]
theorem O7 {o e e' h}(ha:Agree o.reads e e'):kQ p xc h0 o e h=kQ p xc h0 o e' h:=by
 have h1:Agree o.op.reads e e':=(Agree.app ha).1
 have h2:=(Agree.app ha).2
 simp only[kQ,quq h2,qvx h1]
theorem q0a {h0 r h v o res}(hs:oo h0 h r v o=I res):res.strip=H2:=by
 unfold oo at hs
 simp only[N9,val]at hs
 repeat' split at hs
 all_goals first
  |(cases hs;done)
  |(cases hs;rfl)
theorem qu7 {al e h op r}(hs:qb p xc h0 al e h op=I r){s}(hr:r.strip=I s):s∈op.eX:=by
 have own:∀ {x:jd},jy e x=I s→s∈jl x:=by
  intro x h
  obtain⟨rfl,_⟩:=C6 h
  simp[jl]
 have mH:∀ {x:AVal},val h x=I r→False:=fun hv=>by rw[qw hv]at hr;cases hr
 have vH:∀ {x:Option AVal},kl h x=I r→False:=fun hv=>by obtain⟨_,_,h1⟩:=qN hv;rw[h1]at hr;cases hr
 cases op with
 |take t=>
  simp only[qb,qo]at hs
  split at hs
  ·cases hs;simp at hr;simp[cc.eX,hr]
  ·cases hs
 |append rk sz b x y=>
  cases rk with
  |some rk=>
   simp only[qb,qp,N9]at hs
   repeat' split at hs
   all_goals first
    |(cases hs;done)
    |(cases hs;exact own hr)
  |none=>
   simp only[qb,qo,N9]at hs
   repeat' split at hs
   all_goals first
    |(cases hs;done)
    |(cases hs;exact own hr)
 |store n x y=>
  simp only[qb,qp,N9]at hs
  repeat' split at hs
  all_goals first
   |(cases hs;done)
   |exact(mH hs).elim
   |(rename_i ht _ _ _ _;cases hs;simp only[I.injEq]at hr;subst hr;exact own ht)
   |(unfold val at hs;cases hs;cases hr;done)
   |skip
 |bK rk sz b z n c=>
  cases rk with
  |some rk=>
   simp only[qb,qp,N9]at hs
   repeat' split at hs
   all_goals first
    |(cases hs;done)
    |exact(mH hs).elim
    |(unfold val at hs;cases hs;cases hr;done)
  |none=>
   simp only[qb,qo,N9]at hs
   repeat' split at hs
   all_goals first
    |(cases hs;done)
    |(cases hs;cases hr;done)
 |call md f l=>
  cases md<;>simp only[qb,zf,N9]at hs
  all_goals
   repeat' split at hs
  all_goals first
   |(cases hs;done)
   |exact(mH hs).elim
   |(cases hs;cases hr;done)
   |(rw[q0a hs]at hr;cases hr;done)
 |_=>
  simp only[qb,qo,zm,qp,N9]at hs
  repeat' split at hs
  all_goals first
   |(cases hs;done)
   |exact(mH hs).elim
   |exact(vH hs).elim
   |(cases hs;cases hr;done)
   |(unfold val at hs;cases hs;cases hr;done)
theorem Yw {o e h r}(hs:kQ p xc h0 o e h=I r){s}(hr:r.strip=I s):s∈o.op.eX:=by
 unfold kQ at hs
 split at hs
 ·exact qu7 hs hr
 ·cases hs;cases hr
 ·cases hs
theorem Bn {s x e}:ja s ((s,x)::e)=I x:=by
 simp only[ja,Eaf,cond_true]
theorem HT {s t x e}(h:s≠t):ja s ((t,x)::e)=ja s e:=by
 have:Hu t s=Hy:=by
  cases hb:Hu t s with
  |false=>rfl
  |true=>exact absurd (Eb hb).symm h
 simp only[ja,this,cond_false]
theorem O8 {s e x}(h:∀t,x=I t→s≠t):ja s (ze e x)=ja s e:=by
 cases x with
 |none=>rfl
 |some t=>
  simp only[ze]
  split
  ·exact HT (h t rfl)
  ·rfl
theorem qpr {s e e' x}(h:ja s e=ja s e'):ja s (ze e x)=ja s (ze e' x):=by
 cases x with
 |none=>exact h
 |some t=>
  by_cases bH:s=t
  ·subst bH
   simp only[ze]
   rw[←h]
   cases hl:ja s e with
   |none=>simp only[];rw[hl,←h,hl]
   |some y=>simp only[];rw[Bn,Bn]
  ·rw[O8 (fun u hu=>by cases hu;exact bH),O8 (fun u hu=>by cases hu;exact bH)]
   exact h
theorem O9 {s e d v o}(h:∀t,d=I t→s≠t):ja s (l5 e d v o)=ja s e:=by
 cases d with
 |none=>rfl
 |some t=>exact HT (h t rfl)
theorem qs9 {s e e' d v o}(h:ja s e=ja s e'):ja s (l5 e d v o)=ja s (l5 e' d v o):=by
 cases d with
 |none=>exact h
 |some t=>
  by_cases bH:s=t
  ·subst bH;simp only[l5];rw[Bn,Bn]
  ·rw[O9 (fun u hu=>by cases hu;exact bH),O9 (fun u hu=>by cases hu;exact bH)];exact h
theorem Pa {o s e e' r}(h:ja s e=ja s e'):ja s (nM o e r)=ja s (nM o e' r):=qs9 (qpr h)
theorem Bo {o s e r}(hr:∀t,r.strip=I t→t∈o.op.eX)(h:s ∉ o.writes):ja s (nM o e r)=ja s e:=by
 unfold nM
 rw[O9,O8]
 ·intro t ht bH
  exact h (St _ (bH▸hr t ht))
 ·intro t ht bH
  exact h (Za _ (by rw[ht,bH];simp))
theorem q7f {o e r h}:nM o e (r.at h)=nM o e r:=rfl
def iq (a b:aV):Prop:=a.heap=b.heap∧∀s,ja s a.env=ja s b.env
theorem iq.refl (a:aV):iq a a:=⟨rfl,fun _=>rfl⟩
theorem iq.trans {a b c}(h:iq a b)(k:iq b c):iq a c:=⟨h.1.trans k.1,fun s=>(h.2 s).trans (k.2 s)⟩
theorem qsk {o a b a'}(h:iq a b)(hs:zg p xc h0 o a=I a'):∃b',zg p xc h0 o b=I b'∧iq a' b':=by
 rw[Bm]at hs
 obtain⟨r,hr,rfl⟩:=E3.1 hs
 rw[O7 (e':=b.env) (fun s _=>h.2 s),h.1]at hr
 refine⟨⟨nM o b.env r,r.heap⟩,by rw[Bm,hr];rfl,rfl,fun s=>Pa (h.2 s)⟩
theorem Yx:∀ {l:List bD} {a b a':aV},iq a b→yv p xc h0 l a=I a'→∃b',yv p xc h0 l b=I b'∧iq a' b'
 | [],a,b,a',h,hs=>by simp only[yv,I.injEq]at hs ⊢;subst hs;exact⟨b,rfl,h⟩
 |o::l,a,b,a',h,hs=>by
  simp only[yv]at hs
  split at hs
  ·rename_i a1 h1
   obtain⟨b1,k1,k2⟩:=qsk h h1
   obtain⟨b',k3,k4⟩:=Yx k2 hs
   exact⟨b',by simp only[yv,k1,k3],k4⟩
  ·cases hs
theorem Yy {o e h r}(hs:kQ p xc h0 o e h=I r):∃c k,HB h0 o.al (kQ p xc h0 o e) h r c k∧(c=.pure∨(c=o.op.cl∧k=o.op.cm)):=by
 unfold kQ at hs
 cases hg:km e o.guard with
 |none=>rw[hg]at hs;cases hs
 |some b=>
  cases b with
  |false=>
   rw[hg]at hs
   cases hs
   exact⟨.pure,0,⟨rfl,fun h'=>by simp only[kQ,hg];rfl⟩,.inl rfl⟩
  |true=>
   rw[hg]at hs
   have:=q6t hs
   have heq:(fun h=>qb p xc h0 o.al e h o.op)=kQ p xc h0 o e:=by
    funext h;simp only[kQ,hg]
   rw[heq]at this
   exact⟨_,_,this,.inr ⟨rfl,rfl⟩⟩
theorem q28 {a b}(h:NG a b=Ek):a.op.cl=.pure∨b.op.cl=.pure∨a.op.cl=.eH∨b.op.cl=.eH∨(a.op.cl=.read∧b.op.cl=.read)∨(a.op.cl=.alloc∧b.op.cl=.alloc∧a.op.cm≠b.op.cm) ∨
  (a.op.cl=.alloc∧(b.op.cl=.read∨b.op.cl=.write∨b.op.cl=.take)∧lz b.al a.op.cm=Hy)∨((a.op.cl=.read∨a.op.cl=.write∨a.op.cl=.take)∧b.op.cl=.alloc∧lz a.al b.op.cm=Hy)∨(a.op.cl=.take∧b.op.cl=.take∧a.op.cm≠b.op.cm)∨((a.op.cl=.read∨a.op.cl=.write∨a.op.cl=.take)∧(b.op.cl=.read∨b.op.cl=.write∨b.op.cl=.take)∧A2 a.al b.al=Ek)∨HQ b.op.cl a.op.cl b.op.cm a.op.cm b.al a.al:=by
 unfold NG at h
 rw[Ol]at h
 rcases h with h|h
 ·simp only[Ea]at h
  obtain⟨⟨h1,h2⟩,h3⟩:=h
  have hb:∀ {c:uS},c.box=Ek→c=.read∨c=.write∨c=.take:=fun {c} hc=>by cases c<;>first|(cases hc;done)|simp
  simp only[hb h1,hb h2,h3,and_self,or_true,true_or]
 unfold HQ
 cases ha:a.op.cl<;>cases hb:b.op.cl<;>simp_all
theorem Pb {a b}(h:CO a b=Ek){s}(hs:s∈a):s ∉ b:=by
 unfold CO at h
 rw[Jn]at h
 have:=h s hs
 simpa using this
theorem j2v {a b st s1 s2}(hm:uT b a=Ek)(h1:zg p xc h0 b st=I s1)(h2:zg p xc h0 a s1=I s2):
  ∃t1 t2,zg p xc h0 a st=I t1∧zg p xc h0 b t1=I t2∧iq s2 t2:=by
 rw[Bm]at h1
 obtain⟨rb,hb,rfl⟩:=E3.1 h1
 rw[Bm]at h2
 obtain⟨ra,ha,rfl⟩:=E3.1 h2
 simp only[uT,Ea]at hm
 obtain⟨⟨⟨hc,d1⟩,d2⟩,d3⟩:=hm
 have sb:∀t,rb.strip=I t→t∈b.op.eX:=fun t ht=>Yw hb ht
 have sa:∀t,ra.strip=I t→t∈a.op.eX:=fun t ht=>Yw ha ht
 -- the later one reads nothing that the earlier one writes
 have HU:kQ p xc h0 a st.env rb.heap=I ra:=by
  rw[←ha]
  refine O7 fun s hs=>(Bo sb ?_).symm
  exact fun hw=>Pb d1 hw hs
 obtain⟨cb,kb,Hb,ob⟩:=Yy hb
 obtain⟨ca,ka,Ha,oa⟩:=Yy HU
 have gy:((cb=.read∨cb=.write∨cb=.take)∧(ca=.read∨ca=.write∨ca=.take)∧A2 b.al a.al=Ek)∨(cb=.pure∨ca=.pure∨(cb=.read∧ca=.read)∨(cb=.alloc∧ca=.alloc∧kb≠ka)∨(cb=.alloc∧(ca=.read∨ca=.write∨ca=.take)∧lz a.al kb=Hy)∨((cb=.read∨cb=.write∨cb=.take)∧ca=.alloc∧lz b.al ka=Hy)∨(cb=.take∧ca=.take∧kb≠ka))∨HQ ca cb ka kb a.al b.al:=by
  rcases ob with rfl|⟨rfl,rfl⟩
  ·exact .inr (.inl (.inl rfl))
  rcases oa with rfl|⟨rfl,rfl⟩
  ·exact .inr (.inl (.inr (.inl rfl)))
  rcases q28 hc with h|h|h|h|h|h|h|h|h|h|h
  ·exact .inr (.inl (.inl h))
  ·exact .inr (.inl (.inr (.inl h)))
  ·rw[h]at Hb;exact Hb.elim
  ·rw[h]at Ha;exact Ha.elim
  ·exact .inr (.inl (.inr (.inr (.inl h))))
  ·exact .inr (.inl (.inr (.inr (.inr (.inl h)))))
  ·exact .inr (.inl (.inr (.inr (.inr (.inr (.inl h))))))
  ·exact .inr (.inl (.inr (.inr (.inr (.inr (.inr (.inl h)))))))
  ·exact .inr (.inl (.inr (.inr (.inr (.inr (.inr (.inr h)))))))
  ·exact .inl h
  ·exact .inr (.inr h)
 have hsw:∃h1,kQ p xc h0 a st.env st.heap=I (ra.at h1)∧kQ p xc h0 b st.env h1=I (rb.at ra.heap):=by
  rcases gy with⟨q1,q2,q3⟩|kE|kE
  ·exact ja1 hb HU Hb Ha q1 q2 q3
  ·exact jd3 hb HU Hb Ha kE
  ·exact jgf hb HU Hb Ha kE
 obtain⟨h3,k1,k2⟩:=hsw
 have k2':kQ p xc h0 b (nM a st.env (ra.at h3)) h3=I (rb.at ra.heap):=by
  rw[←k2]
  refine O7 fun s hs=>Bo (fun t ht=>sa t ht) ?_
  exact fun hw=>Pb d3 hw hs
 refine⟨⟨nM a st.env (ra.at h3),h3⟩,⟨nM b (nM a st.env (ra.at h3)) (rb.at ra.heap),ra.heap⟩,by rw[Bm,k1];rfl,by rw[Bm];simp only[k2'];rfl,rfl,fun s=>?_⟩
 simp only[q7f]
 by_cases hw:s∈a.writes
 ·have Bg:s ∉ b.writes:=fun h=>Pb d2 h hw
  rw[Bo sb Bg]
  exact Pa (Bo sb Bg)
 ·rw[Bo sa hw]
  exact Pa (Bo sa hw).symm
theorem Yz:∀ {l1 l2:List bD} {a:bD} {st s2:aV},(∀b∈l1,uT b a=Ek)→yv p xc h0 (l1++a::l2) st=I s2 →
  ∃t1 t2,zg p xc h0 a st=I t1∧yv p xc h0 (l1++l2) t1=I t2∧iq s2 t2
 | [],l2,a,st,s2,_,hs=>by
  simp only[List.nil_append,yv]at hs
  split at hs
  ·rename_i t1 h1;exact⟨t1,s2,h1,hs,iq.refl _⟩
  ·cases hs
 |b::l1,l2,a,st,s2,hm,hs=>by
  simp only[Eai,yv]at hs
  split at hs
  ·rename_i s h1
   obtain⟨u1,u2,h2,h3,h4⟩:=Yz (fun c hc=>hm c (by simp[hc])) hs
   obtain⟨t1,t2,h5,h6,h7⟩:=j2v (hm b (by simp)) h1 h2
   obtain⟨u3,h8,h9⟩:=Yx h7 h3
   exact⟨t1,u3,h5,by simp only[Eai,yv,h6,h8],h4.trans h9⟩
  ·cases hs
end
def cM (P:Program)(w0:World)(C0 C:az)(nt:Nat)(st:aV)(a:Act)(w:World):Prop:=
 a.tmps.size=nt∧∃C' ω',C.le C'∧Marks C' w0.heap.size a.defers∧aq P C' ω' w0 C0 st.heap w∧ai C' ω' w w0.heap.size st.env a.tmps
structure DT (P:Program)(nt:Nat)(ops:Array Oper)(o:Oper)(ao:bD):Prop where
 op:∃h md r,(cf P h md r o.dst o.op).getD .bad=ao.op
 guard:A0 ops o.guard=I ao.guard
 dst:ao.dst=ao.op.tm o.dst
 fits:∀d,o.dst=I d→d<nt
 YA:∀d,ao.op.gq=I d→d<nt
 DU:∀d,ao.op.gq=I d→o.dst=H2∧o.guard=H2
section
variable {P:Program}{p:jg}{xc:XC}{C C0:az}{w0:World}{nt h0:Nat}{ops:Array Oper}{ρ:Option Nat}
theorem cM.eqv {st aN a w}(h:cM P w0 C0 C nt st a w)(he:iq st aN):cM P w0 C0 C nt aN a w:=by
 obtain⟨h1,C',ω',h3,h2,h4,h5⟩:=h
 exact⟨h1,C',ω',h3,h2,he.1▸h4,fun s x hx=>h5 s x (by rw[he.2 s];exact hx)⟩
theorem ai.putAt {ω w B d e tmps v u o}(he:ai C ω w B e tmps)(hd:d<tmps.size)(hr:bp C v u)(ho:o=Ek→aB C ω w B (.slot d) v u):ai C ω w B ((d,v,o)::e) (tmps.setIfInBounds d u):=by
 intro s x hx
 by_cases Pc:s=d
 ·subst Pc
  rw[Bn]at hx
  cases hx
  exact⟨u,by simp[hd],hr,ho⟩
 ·rw[HT Pc]at hx
  obtain⟨y,h1,h2,h3⟩:=he s x hx
  exact⟨y,by rw[Ow (Jq Pc)];exact h1,h2,h3⟩
theorem YB {ao:bD}{st:aV}{a:Act}{w:World}{C1:az}{ω1:Nat→Option Loc}{e:Env}{h:ql}{v:AVal}{u:Value}{own:Bool}{o:Oper}(hd:ao.dst=o.dst)(hf:∀d,o.dst=I d→d<nt)(hs:a.tmps.size=nt)(jF:Marks C1 w0.heap.size a.defers)(hle:C.le C1)(m:aq P C1 ω1 w0 C0 h w)(he:ai C1 ω1 w w0.heap.size e a.tmps)(hr:bp C1 v u)(ho:own=Ek→aB C1 ω1 w w0.heap.size (.slot (o.dst.getD 0)) v u):
  cM P w0 C0 C nt ⟨l5 e ao.dst v own,h⟩ (a.put o.dst u) w:=by
 rw[hd]
 cases HW:o.dst with
 |none=>exact⟨hs,C1,ω1,hle,jF,m,he⟩
 |some d=>
  rw[HW]at ho
  refine⟨by simpa[Act.put]using hs,C1,ω1,hle,jF,m,?_⟩
  exact he.putAt (hs▸hf d HW) hr ho
theorem YC {o:Oper}{ao:bD}{e tmps ω w B b}(he:ai C ω w B e tmps)(hg:A0 ops o.guard=I ao.guard)(hb:km e ao.guard=I b):Region.wanted o (yielded ops tmps)=b:=by
 unfold Region.wanted
 cases YD:o.guard with
 |none=>
  rw[YD]at hg
  simp only[A0,I.injEq]at hg
  rw[←hg]at hb
  simp only[km,I.injEq]at hb
  exact hb
 |some g=>
  obtain⟨j,want⟩:=g
  rw[YD]at hg
  simp only[A0]at hg
  split at hg
  ·rename_i d hd
   have hgd:=I.inj hg
   rw[←hgd]at hb
   simp only[km]at hb
   split at hb
   ·rename_i c ow hl
    cases hb
    obtain⟨v,h1,h2,_⟩:=he d _ hl
    have:=h2.cH
    subst this
    simp only[yielded,hd,Eaj,h1]
    cases c<;>cases want<;>rfl
   ·rename_i ow hl
    cases hb
    obtain⟨v,h1,h2,_⟩:=he d _ hl
    have hv:v=.tuple #[]:=by cases h2;rfl
    subst hv
    simp only[yielded,hd,Eaj,h1]
    rfl
   ·cases hb
  ·cases hg
theorem q0l {h md r d op n s y}(DV:∀t x z,op≠.store t x z):(cf P h md r d op).getD .bad≠.db n s y:=by
 intro hc
 cases jG:cf P h md r d op with
 |none=>rw[jG]at hc;cases hc
 |some a=>
  rw[jG]at hc
  simp only[Oh]at hc
  subst hc
  cases op<;>simp only[cf,cond_eq_ite]at jG<;>(try exact DV _ _ _ rfl)<;>(repeat' split at jG)<;>(try split at jG)<;>(try contradiction)<;>(try simp at jG)<;>(try (split at jG<;>simp at jG))<;>(try (unfold Hf at jG; (repeat' split at jG)<;>simp at jG))<;>(try (simp only[NE,AY]at jG; (repeat' split at jG)<;>simp at jG))<;>(try (simp only[uQ]at jG; (repeat' split at jG)<;>(try contradiction)<;>(try simp at jG)<;>(try (split at jG<;>simp at jG))))
theorem YE (dH:bu P p)(hx:bV P xc){i:Nat}{o:Oper}{ao:bD}{st aN:aV}{a:Act}{w:World}{Q:Exit→Act→World→Prop}{K:Act→World→Prop}(hi:ops[i]?=I o)(hr:DT P nt ops o ao)(hs:zg p xc h0 ao st=I aN)(bH:cM P w0 C0 C nt st a w)
  (hK:∀a' w',cM P w0 C0 C nt aN a' w'→K a' w'):wpOpIn (yn ρ) 0 P ops Q i K a w:=by
 obtain⟨cr,C1,ω1,hle,jF,m,he⟩:=bH
 unfold wpOpIn
 rw[hi]
 simp only[]
 unfold zg at hs
 split at hs
 ·rename_i hg
  rw[YC he hr.guard hg]
  simp only[if_true]
  split at hs
  ·rename_i res dI
   cases hs
   obtain⟨h,md,r,hop⟩:=hr.op
   cases lI:ao.op.gq with
   |some sv=>
    -- the one write of a variable
    have vI:∃n y',ao.op=.db n sv y':=by
     cases tH:ao.op<;>rw[tH]at lI<;>simp[cc.gq]at lI
     subst lI;exact⟨_,_,rfl⟩
    obtain⟨n,y',tH⟩:=vI
    have hdd:ao.dst=I sv:=by rw[hr.dst,tH];rfl
    rw[tH]at dI hop
    have bH:∃t x y,o.op=.store t x y∧jc P t=I n∧qt x=I (.tmp sv)∧qt y=I y':=by
     cases hoo:o.op<;>rw[hoo]at hop
     case store t x y=>
      simp only[cf]at hop
      split at hop
      ·rename_i n' x' yy hn h1 h2
       simp only[Oh]at hop
       cases kM:Hg h x' with
       |none=>rw[kM]at hop;cases hop
       |some s'=>
        rw[kM]at hop
        simp only[cc.db.injEq]at hop
        obtain⟨rfl,rfl,rfl⟩:=hop
        refine⟨t,x,y,rfl,hn,?_,h2⟩
        unfold Hg at kM
        split at kM
        ·split at kM
         ·cases kM;exact h1
         ·cases kM
        ·cases kM
      ·cases hop
     all_goals exact absurd hop (q0l (by simp))
    obtain⟨t,x,y,ho,hn,h1,h2⟩:=bH
    simp only[qb,qo]at dI
    split at dI
    ·rename_i mm v hl e2
     cases hk:(Hu mm n&&Hu v.flat.length n&&v.flat.all qk)with
     |false=>rw[hk]at dI;cases dI
     |true=>
      rw[hk]at dI
      simp only[cond_true,val,I.injEq]at dI
      subst dI
      simp only[Ea]at hk
      obtain⟨⟨k1,k2⟩,k3⟩:=hk
      obtain rfl:=Eb k1
      obtain⟨w',C',ω',aY,cg,m',e'⟩:=q36 m he ho hn h1 h2 hl e2 (Eb k2) k3
      refine⟨fun _ _=>trivial,?_⟩
      rw[Oper.semAt_eq _ _ _ (fun c hc=>by rw[ho]at hc;cases hc),aY]
      have HW:o.dst=H2:=(hr.DU sv lI).1
      refine hK _ _ ?_
      rw[HW,hdd]
      exact⟨cr,C',ω',az.le_trans hle cg,jF.mono cg,m',e'⟩
    ·cases dI
   |none=>
   have oX:ao.dst=o.dst:=by rw[hr.dst];cases tH:ao.op<;>rw[tH]at lI<;>first|rfl|simp[cc.gq]at lI
   have aY:zi P C1 C0 w0 a (.slot (o.dst.getD 0)) st.env o w res:=by
    cases hc:cf P h md r o.dst o.op with
    |none=>rw[hc]at hop;simp only[Eak]at hop;rw[←hop]at dI;simp[qb,qo]at dI
    |some b3=>rw[hc]at hop;simp only[Oh]at hop;subst hop;exact jjs dH hx m he lI hc dI
   have fin:∀v w',jt P C0 w0 C1 a.tmps (.slot (o.dst.getD 0)) st.env res v w'→K (a.put o.dst v) w':=by
    rintro v w' ⟨C2,ω2,h1,h2,h3,h4,h5⟩
    exact hK _ _ (YB (st:=st) oX hr.fits cr (jF.mono h1) (az.le_trans hle h1) h2 h3 h4 h5)
   refine⟨fun _ _=>trivial,?_⟩
   rw[Oper.semAt_eq _ _ _ (fun c hc=>by
    rw[hc]at hop
    simp only[cf,Eak]at hop
    rw[←hop]at dI
    simp[qb,qo]at dI)]
   rcases aY with⟨v,w',h1,h2⟩|⟨w',h1,h2⟩|⟨f,args,h1,h2⟩|⟨l,f,tmps,assign,body,h1,h2⟩
   ·rw[h1];exact fin v w' h2
   ·rw[h1];exact fin undef w' h2
   ·rw[h1]
    refine⟨fun h=>by simp[yn,Fence.wide]at h,CallsIn.mono (X9.2 h2) ?_⟩
    rintro e w' ⟨v,rfl,gi⟩
    exact fin v w' gi
   ·rw[h1]
    have lK:RoundIn (yn ρ) 0 P l f tmps assign body w _:=h2
    refine⟨fun h=>by simp[yn,Fence.wide]at h,RoundIn.mono lK ?_⟩
    rintro e w' ⟨v,rfl,gi⟩
    exact fin v w' gi
  ·cases hs
 ·rename_i hg
  cases hs
  rw[YC he hr.guard hg]
  simp only[Hz,if_false]
  have oX:ao.dst=o.dst:=by
   cases lI:ao.op.gq with
   |none=>rw[hr.dst];cases tH:ao.op<;>rw[tH]at lI<;>first|rfl|simp[cc.gq]at lI
   |some sv=>
    have h1:=hr.guard
    rw[(hr.DU sv lI).2]at h1
    simp only[A0,I.injEq]at h1
    rw[←h1]at hg
    simp[km]at hg
  exact⟨fun _ _=>trivial,hK _ _ (YB (st:=st) oX hr.fits cr jF hle m he .undef (by simp))⟩
 ·cases hs
inductive kR (P:Program)(nt:Nat)(ops:Array Oper):List Nat→List bD→Prop where
 |nil:kR P nt ops [] []
 |cons {i:Nat} {o:Oper} {ao:bD} {l:List Nat} {lo:List bD} (hi:ops[i]?=I o) (h:DT P nt ops o ao) (t:kR P nt ops l lo):kR P nt ops (i::l) (ao::lo)
theorem YF (dH:bu P p)(hx:bV P xc){Q aN}(hQ:∀a' w',cM P w0 C0 C nt aN a' w'→Q .normal a' w'):∀ {l:List Nat} {lo:List bD} {st:aV} {a:Act} {w:World},kR P nt ops l lo→yv p xc h0 lo st=I aN→cM P w0 C0 C nt st a w→wpOpsIn (yn ρ) 0 P ops Q l a w
 | [],_,st,a,w,.nil,hs,bH=>by
  simp only[yv,I.injEq]at hs
  subst hs
  exact hQ _ _ bH
 |i::l,_,st,a,w,.cons hi h t,hs,bH=>by
  simp only[yv]at hs
  split at hs
  ·rename_i s1 h1
   rw[wpOpsIn_cons]
   exact YE dH hx hi h h1 bH fun a' w' gx=>YF dH hx hQ t hs gx
  ·cases hs
theorem YG {h id gJ draw}:∀ {os:List Oper} {i:Nat} {rs A1:List (Nat×Nat)} {l:List bD},CN P h nt id ops gJ draw os i rs=I (l,A1)→(∀j,os[j]?=ops[i+j]?)→kR P nt ops (List.range' i os.length) l
 | [],i,rs,A1,l,hc,_=>by
  simp only[CN,I.injEq,Q7.injEq]at hc
  rw[←hc.1];exact .nil
 |o::os,i,rs,A1,l,hc,YH=>by
  simp only[CN]at hc
  split at hc
  ·rename_i g hg
   split at hc
   ·rename_i bT
    split at hc
    ·rename_i l1 rs1 DW
     simp only[I.injEq,Q7.injEq]at hc
     rw[←hc.1]
     simp only[Ea]at bT
     obtain⟨⟨Bp,Bq⟩,YI⟩:=bT
     refine .cons (o:=o) (by rw[←Nat.add_zero i,←YH 0];rfl) ⟨⟨h,W9 h id i,rs.length,rfl⟩,hg,rfl,fun d hd=>?_,fun d hd=>?_,fun d hd=>?_⟩ ?_
     ·rw[hd]at Bp
      simpa using Bp
     ·simp only at hd
      rw[hd]at Bq
      simpa using Bq
     ·simp only at hd
      rw[hd]at YI
      simpa using YI
     ·exact YG DW (fun j=>by rw[show i+1+j=i+(j+1)from by omega,←YH (j+1)];rfl)
    ·cases hc
   ·cases hc
  ·cases hc
theorem aq.holes {ω w hp}(m:aq P C ω w0 C0 hp w)(n:Nat):aq P C ω w0 C0 (hp++Ean n .hole) w:=
 { m with
  lt:=fun b r hb=>⟨(m.lt b r hb).1,by rw[List.length_append];have:=(m.lt b r hb).2;omega⟩
  box:=fun b x r hx hb=>m.box b x r (by rw[List.getElem?_append_left (m.lt b r hb).2]at hx;exact hx) hb }
theorem qx8 {l e s x}:ja s (oh e l)=I x→ja s e=I x:=by
 induction l with
 |nil=>simp[oh,ja]
 |cons t l ih=>
  intro h
  simp only[oh]at h
  split at h
  ·rename_i y hy
   by_cases bH:s=t
   ·subst bH;rw[Bn]at h;rw[hy];exact h
   ·rw[HT bH]at h;exact ih h
  ·exact ih h
theorem cM.keep {st a w k}(h:cM P w0 C0 C nt st a w):cM P w0 C0 C nt (uO st k) a w:=by
 cases k with
 |none=>exact h
 |some l=>
  obtain⟨h1,C',ω',h3,h2,h4,h5⟩:=h
  exact⟨h1,C',ω',h3,h2,h4,fun s x hx=>h5 s x (qx8 hx)⟩
theorem YJ {listed:Array Bool}{i j d}:(listed.setIfInBounds i Ek).getD j d=if i=j∧j<listed.size then Ek else listed.getD j d:=by
 simp only[If,Array.getElem?_setIfInBounds]
 by_cases ox:i=j
 ·subst ox
  by_cases hl:i<listed.size
  ·simp[hl]
  ·simp[hl]
 ·simp[ox]
theorem iq.DX {a b}(h:iq a b):iq b a:=⟨h.1.symm,fun s=>(h.2 s).symm⟩
def pick (full:List bD)(l:List Nat):List bD:=l.map fun i=>full.getD i default
theorem kR.get {l lo}(h:kR P nt ops l lo):l.length=lo.length∧∀k i,l[k]?=I i→∃o,ops[i]?=I o∧DT P nt ops o (lo.getD k default):=by
 induction h with
 |nil=>exact⟨rfl,by simp⟩
 |cons hi h t ih=>
  refine⟨by simp[ih.1],fun k i hk=>?_⟩
  cases k with
  |zero=>simp at hk;subst hk;exact⟨_,hi,h⟩
  |succ k=>simp at hk;obtain⟨o,h1,h2⟩:=ih.2 k i hk;exact⟨o,h1,by simpa using h2⟩
theorem jlc {full:List bD}{gJ:Array Nat}(dH:bu P p)(hx:bV P xc){Q aN}(hQ:∀a' w',cM P w0 C0 C nt aN a' w'→Q .normal a' w')
  (oY:∀i o,ops[i]?=I o→DT P nt ops o (full.getD i default)) (DY:∀i j,i<j→j<ops.size→(gJ.getD j 0).testBit i=Hy→uT (full.getD i default) (full.getD j default)=Ek)
  (Pd:∀j o i,ops[j]?=I o→i<ops.size→(gJ.getD j 0).testBit i=Ek→∃e∈o.after,Region.binds .any e=Ek∧(e.on=i∨(gJ.getD e.on 0).testBit i=Ek))
  (DZ:∀i o,ops[i]?=I o→∀e∈o.after,Region.binds .any e=Ek→e.on<i):
  ∀(fuel:Nat) (listed:Array Bool) (l:List Nat) (st s2:aV) (a:Act) (w:World),listed.size=ops.size→l.Pairwise (· < ·)→(∀i,i∈l↔i<ops.size∧listed.getD i Ek=Hy)→l.length≤fuel →
   (∀k i,i<ops.size→listed.getD k Hy=Ek→(gJ.getD k 0).testBit i=Ek→listed.getD i Hy=Ek)→yv p xc h0 (pick full l) st=I s2→iq s2 aN→cM P w0 C0 C nt st a w→wpAnyIn (yn ρ) 0 P .any ops Q fuel listed a w:=by
 intro fuel
 induction fuel with
 |zero=>
  intro listed l st s2 a w cr fB cG hlen jH hs heq bH
  have hl:l=[]:=Rw.1 (by omega)
  subst hl
  simp only[pick,Eas,yv,I.injEq]at hs
  subst hs
  refine⟨?_,hQ _ _ (bH.eqv heq)⟩
  cases hr:Region.ready .any ops listed with
  |nil=>rfl
  |cons i rs=>
   have hi:i∈Region.ready .any ops listed:=by rw[hr];simp
   obtain⟨h1,o,ho,_⟩:=mem_ready.1 hi
   have:=(cG i).2 ⟨(Ga.1 ho).1,h1⟩
   cases this
 |succ fuel ih=>
  intro listed l st s2 a w cr fB cG hlen jH hs heq bH
  refine⟨fun hr=>?_,fun i hi=>?_⟩
  ·cases l with
   |nil=>
    simp only[pick,Eas,yv,I.injEq]at hs
    subst hs
    exact hQ _ _ (bH.eqv heq)
   |cons i l=>
    exfalso
    obtain⟨h1,h2⟩:=(cG i).1 (by simp)
    have hi:i∈Region.ready .any ops listed:=by
     refine mem_ready.2 ⟨h2,ops[i],Og h1,fun e he hb=>?_⟩
     have aC:=DZ i _ (Og h1) e he hb
     have aS:e.on ∉ i::l:=fun hm=>by
      rcases Q9.1 hm with h|h
      ·omega
      ·have:=(Eae.1 fB).1 _ h;omega
     have h3:¬(listed.getD e.on Ek=Hy):=fun h=>aS ((cG e.on).2 ⟨by omega,h⟩)
     have oZ:e.on<listed.size:=by omega
     simp only[If,Og oZ,Oh]at h3 ⊢
     simpa using h3
    rw[hr]at hi
    cases hi
  ·obtain⟨h1,o,ho,hall⟩:=mem_ready.1 hi
   have aC:=(Ga.1 ho).1
   have him:i∈l:=(cG i).2 ⟨aC,h1⟩
   obtain⟨l1,l2,rfl⟩:=List.append_of_mem him
   have Pe:∀k,k∈l1++i::l2→listed.getD k Hy=Ek→False:=fun k hk hl=>by
    obtain⟨k1,k2⟩:=(cG k).1 hk
    have oZ:k<listed.size:=by omega
    simp only[If,Og oZ,Oh]at hl k2
    rw[hl]at k2;cases k2
   have YK:∀k,k<ops.size→(gJ.getD i 0).testBit k=Ek→listed.getD k Hy=Ek:=fun k hk hb=>by
    obtain⟨e,he,jU,h2|h2⟩:=Pd i o k ho hk hb
    ·rw[←h2];exact hall e he jU
    ·exact jH e.on k hk (hall e he jU) h2
   have hm:∀b∈pick full l1,uT b (full.getD i default)=Ek:=by
    intro b hb
    obtain⟨k,hk,rfl⟩:=Ear.1 hb
    have vJ:k<i:=(Zb.1 fB).2.2 k hk i (by simp)
    refine DY k i vJ aC ?_
    cases Pg:(gJ.getD i 0).testBit k with
    |false=>rfl
    |true=>exact(Pe k (by simp[hk]) (YK k (by omega) Pg)).elim
   have Ph:pick full (l1++i::l2)=pick full l1++full.getD i default::pick full l2:=by simp[pick]
   rw[Ph]at hs
   obtain⟨t1,t2,g1,g2,g3⟩:=Yz hm hs
   refine YE dH hx ho (oY i o ho) g1 bH fun a' w' gx=>?_
   refine ih (listed.setIfInBounds i Ek) (l1++l2) t1 t2 a' w' (by simpa using cr) ?_ ?_ ?_ ?_ (by rw[show pick full (l1++l2)=pick full l1++pick full l2 from by simp[pick]];exact g2) (iq.trans (iq.DX g3) heq) gx
   ·exact fB.sublist (Eat.append (Eat.refl _) (List.sublist_cons_self _ _))
   ·intro k
    rw[YJ]
    have D0:i ∉ l1∧i ∉ l2:=by
     have h:=Zb.1 fB
     refine⟨fun hi1=>?_,fun hi2=>?_⟩
     ·have:=h.2.2 i hi1 i (by simp);omega
     ·have:=(Eae.1 h.2.1).1 i hi2;omega
    constructor
    ·intro hk
     have vJ:k≠i:=fun h=>by
      subst h
      rcases Qo.1 hk with h|h
      ·exact D0.1 h
      ·exact D0.2 h
     have:=(cG k).1 (by rcases Qo.1 hk with h|h<;>simp[h])
     rw[if_neg (by omega)]
     exact this
    ·rintro ⟨k1,k2⟩
     split at k2
     ·cases k2
     ·rename_i aS
      have vJ:k≠i:=fun h=>aS ⟨h.symm,by omega⟩
      have:=(cG k).2 ⟨k1,k2⟩
      rcases Qo.1 this with h|h
      ·simp[h]
      ·rcases Q9.1 h with h|h
       ·exact absurd h vJ
       ·simp[h]
   ·simp at hlen ⊢;omega
   ·intro k j hj hk hb
    rw[YJ]at hk ⊢
    split
    ·rfl
    ·split at hk
     ·rename_i rZ
      rw[←rZ.1]at hb
      exact YK j hj hb
     ·exact jH k j hj hk hb
theorem qz9 {gJ l}(h:NH gJ l=Ek){i j}(ox:i<j)(hj:j<l.length)(hb:(gJ.getD j 0).testBit i=Hy):uT (l.getD i default) (l.getD j default)=Ek:=by
 unfold NH at h
 rw[Jn]at h
 have h1:=h (l[j],j) (Oe.2 (by simp[hj]))
 simp only[]at h1
 rw[Jn]at h1
 have h2:=h1 (l[i]'(by omega),i) (Oe.2 (by simp))
 simp only[ox,hb,decide_true,Eab,Qn]at h2
 simp only[List.getD_eq_getElem?_getD,Oc hj,Oc (show i<l.length by omega),Oh]
 exact h2
theorem q4p {gJ}(h:NJ gJ ops=Ek){j i o}(ho:ops[j]?=I o)(hi:i<ops.size)(hb:(gJ.getD j 0).testBit i=Ek):∃e∈o.after,Region.binds .any e=Ek∧(e.on=i∨(gJ.getD e.on 0).testBit i=Ek):=by
 unfold NJ at h
 rw[Jn]at h
 have h1:=h (o,j) (Oe.2 (by simpa using ho))
 simp only[]at h1
 rw[Jn]at h1
 have h2:=h1 i (Eao.2 hi)
 rw[hb]at h2
 simp only[Eab,Qn,Array.any_eq_true']at h2
 obtain⟨e,he,h3⟩:=h2
 simp only[Ea,Ol,beq_iff_eq]at h3
 exact⟨e,he,h3.1,h3.2⟩
theorem qym (h:NI ops=Ek){i o}(ho:ops[i]?=I o):∀e∈o.after,Region.binds .any e=Ek→e.on<i:=by
 intro e he hb
 unfold NI at h
 rw[Jn]at h
 have h1:=h (o,i) (Oe.2 (by simpa using ho))
 simp only[Array.all_eq_true']at h1
 have:=h1 e he
 simpa[hb]using this
theorem q5p (dH:bu P p)(hx:bV P xc){id:Nat}{draw:Bool}{ca h na l keep}(hc:CP P h nt id ops draw=I ca)(dy:ca=.region na l keep){st aN x}(hs:yq p xc na l keep st=I (x,aN)){ω a w}
  (m:aq P C ω w0 C0 st.heap w) (he:ai C ω w w0.heap.size st.env a.tmps) (cr:a.tmps.size=nt) (jF:Marks C w0.heap.size a.defers):
  (Code.region id ops draw).wpIn (yn ρ) 0 P (fun e a' w'=>e=vu x∧cM P w0 C0 C nt aN a' w') a w:=by
 subst dy
 unfold CP at hc
 split at hc
 ·rename_i l' rs hl
  split at hc
  ·rename_i hd
   simp only[I.injEq,au.region.injEq]at hc
   obtain⟨rfl,rfl,mg⟩:=hc
   unfold yq at hs
   split at hs
   ·rename_i s1 h1
    cases hs
    have tI:kR P nt ops (List.range' 0 ops.size) l':=by
     have:=YG hl (ops:=ops) (fun j=>by simp)
     simpa using this
    have hQ:∀a' w',cM P w0 C0 C nt s1 a' w'→(fun e a' w'=>e=vu .normal∧cM P w0 C0 C nt (uO s1 keep) a' w') Exit.normal a' w':=fun a' w' bH=>⟨rfl,bH.keep⟩
    cases draw with
    |false=>
     refine wpIn_region ?_
     rw[List.range_eq_range']
     exact YF dH hx hQ tI h1 ⟨cr,C,ω,az.le_refl C,jF,m.holes _,he⟩
    |true=>
     simp only[Eab,Qn,Ea]at hd
     obtain⟨⟨d1,d2⟩,d3⟩:=hd
     refine wpIn_region_any dH.mixed ?_
     obtain⟨hlen,Pj⟩:=tI.get
     have YL:l'.length=ops.size:=by rw[←hlen];simp
     have oY:∀i o,ops[i]?=I o→DT P nt ops o (l'.getD i default):=by
      intro i o ho
      have hi:=(Ga.1 ho).1
      obtain⟨o',h2,h3⟩:=Pj i i (by rw[List.getElem?_range' hi];simp)
      rw[ho]at h2;cases h2;exact h3
     have Ph:pick l' (List.range ops.size)=l':=by
      apply Rb
      intro k
      simp only[pick,Ou]
      by_cases hk:k<ops.size
      ·rw[List.getElem?_range hk]
       simp[Oc (show k<l'.length by omega)]
      ·rw[Xp (by simpa using hk),Xp (by omega)];rfl
     refine jlc (gJ:=Region.before ops) (full:=l') dH hx hQ oY (fun i j h2 h3 h4=>qz9 d1 h2 (by omega) h4) (fun j o i h2 h3 h4=>q4p d3 h2 h3 h4) (fun i o h2=>qym d2 h2) ops.size _ (List.range ops.size) ⟨st.env,st.heap++Ean rs.length .hole⟩ s1 a _ (by simp) List.pairwise_lt_range ?_ (by simp) ?_ (by rw[Ph];exact h1) (iq.refl _) ⟨cr,C,ω,az.le_refl C,jF,(m.holes _).ext (Ext.drew w),he.ext (Ext.drew w)⟩
     ·intro i
      simp only[Eao,If,Rc]
      constructor
      ·intro hi;exact⟨hi,by simp[hi]⟩
      ·exact fun hi=>hi.1
     ·intro k i hi hk
      simp only[If,Rc]at hk
      split at hk<;>simp at hk
   ·cases hs
  ·cases hc
 ·cases hc
end
end Go.Abs
