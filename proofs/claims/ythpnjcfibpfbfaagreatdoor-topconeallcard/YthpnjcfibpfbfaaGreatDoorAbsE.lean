/- Each operation by itself, third part. -/
import Derived.Test.YthpnjcfibpfbfaaGreatDoorAbsC
import Derived.RangeFuncLeaves
import Derived.OrdersIn
set_option linter.unusedVariables false
set_option linter.unusedSimpArgs false
namespace Go.Abs
section
variable {P:Program}{p:je}{xc:XC}{C C0:Ctx}{ω:Nat→Option Loc}{w w0:World}{hp:qi}{env:Env}{a:Act}{o:Oper}{d:Loc}{h:qt}{md:CMode}{r h0:Nat}{dst:Option Nat}{al:Option (List Nat)}{aop:AOp}{res:ORes}
theorem qtr (m:MInv P C ω w0 C0 hp w)(e:EnvRel C ω w w0.heap.size env a.tmps){t:TypeId}{ps}(ho:o.op=.build t ps)(hc:cOp P h md r dst (.build t ps)=some aop)(hs:qb p xc h0 al env hp aop=some res):jz P C C0 w0 a d env o w res:=by
 simp only[cOp]at hc
 split at hc
 ·rename_i fs z ht hz
  split at hc
  ·rename_i hall
   obtain⟨ps',hps,rfl⟩:=Option.map_eq_some_iff.1 hc
   simp only[qb,qg]at hs
   split at hs
   ·rename_i qs hq
    split at hs
    ·rename_i cs hf
     obtain rfl:=qp hs
     exact qu m e (qkq e.rep ho ht hz (fun f hf=>List.all_eq_true.1 hall f hf) hps hq hf)
    ·cases hs
   ·cases hs
  ·cases hc
 ·rename_i len el z ht hz
  split at hc
  ·rename_i n hn
   obtain⟨ps',hps,rfl⟩:=Option.map_eq_some_iff.1 hc
   simp only[qb,qg]at hs
   split at hs
   ·rename_i qs hq
    split at hs
    ·rename_i cs hf
     obtain rfl:=qp hs
     exact qu m e (qk6 e.rep ho ht hz hn hps hq hf)
    ·cases hs
   ·cases hs
  ·cases hc
 ·cases hc
theorem qlb (m:MInv P C ω w0 C0 hp w)(e:EnvRel C ω w w0.heap.size env a.tmps){t:TypeId}{n ps}(ho:o.op=.buildSlice t n ps)(hc:cOp P h md r dst (.buildSlice t n ps)=some aop)(hs:qb p xc h0 al env hp aop=some res):jz P C C0 w0 a d env o w res:=by
 simp only[cOp]at hc
 split at hc
 ·rename_i el ht
  split at hc
  ·rename_i sz z ag es hn hz hag hps
   split at hc
   ·rename_i hb
    cases hc
    simp only[Bool.and_eq_true,decide_eq_true_eq,beq_iff_eq]at hb
    generalize (dst.map (h.vec.contains ·)).getD false=bb at hs
    cases bb with
    |true=>
     simp only[if_true,qb,qj]at hs
     split at hs
     ·rename_i qs hq
      split at hs
      ·rename_i xs hx
       cases hpx:qo 0 xs with
       |false=>rw[hpx]at hs;cases hs
       |true=>
        rw[hpx]at hs
        simp only[cond_true]at hs
        split at hs
        ·rename_i h' hnew
         obtain rfl:=qp hs
         exact .inl (qv8 m e ho ht hn hz hb.1.1.1.1 hb.1.1.1.2 hb.1.1.2 hps hq hx hpx hnew)
        ·cases hs
      ·cases hs
     ·cases hs
    |false=>
    simp only[Bool.false_eq_true,if_false,qb,qg]at hs
    split at hs
    ·rename_i qs hq
     split at hs
     ·rename_i xs hx
      cases hs
      exact .inl (qlm m e ho ht hn hz hb.1.1.1.1 hb.1.1.1.2 hb.1.1.2 hps hq hx)
     ·cases hs
    ·cases hs
   ·cases hc
  ·cases hc
 ·cases hc
theorem qmt (m:MInv P C ω w0 C0 hp w)(e:EnvRel C ω w w0.heap.size env a.tmps){t:TypeId}{x y}(ho:o.op=.makeSlice t x y)(hc:cOp P h md r dst (.makeSlice t x y)=some aop)(hs:qb p xc h0 al env hp aop=some res):jz P C C0 w0 a d env o w res:=by
 simp only[cOp]at hc
 split at hc
 ·rename_i el ht
  split at hc
  ·rename_i sz b z ag x' y' hn hb hz hag h1 h2
   split at hc
   ·cases hc
    generalize hR:(if(Option.map (fun x=>h.muts.contains x) dst).getD false=true then some r else none)=R at hs
    cases R with
    |some rr=>
     simp only[qb,qj]at hs
     split at hs
     ·rename_i n c e1 e2
      cases hk:(Nat.beq n c&&Nat.ble n 1073741824&&Nat.ble b 4096&&Nat.beq z.length sz&&Nat.blt 0 sz&&z.all qf)with
      |false=>simp[hk]at hs
      |true=>
       simp only[hk,cond_true]at hs
       split at hs
       ·rename_i h' hnew
        obtain rfl:=qp hs
        simp only[Bool.and_eq_true]at hk
        obtain⟨⟨⟨⟨⟨k1,k2⟩,k3⟩,k4⟩,k5⟩,k6⟩:=hk
        obtain rfl:=Nat.eq_of_beq_eq_true k1
        exact .inl (qli m e ho ht hn hb hz (Nat.blt_eq.mp k5) (Nat.eq_of_beq_eq_true k4) h1 h2 e1 e2 (Nat.le_of_ble_eq_true k2) (Nat.le_of_ble_eq_true k3) hnew)
       ·cases hs
     ·cases hs
    |none=>
     simp only[qb,qg]at hs
     split at hs
     ·rename_i n c e1 e2
      cases hk:(Nat.beq n c&&Nat.ble n 1073741824&&Nat.ble b 4096&&Nat.beq z.length sz&&Nat.blt 0 sz&&z.all qf)with
      |false=>simp[hk]at hs
      |true=>
       simp only[hk,cond_true]at hs
       cases hs
       simp only[Bool.and_eq_true]at hk
       obtain⟨⟨⟨⟨⟨k1,k2⟩,k3⟩,k4⟩,k5⟩,k6⟩:=hk
       obtain rfl:=Nat.eq_of_beq_eq_true k1
       exact .inl (qp5 m e ho ht hn hb hz (Nat.blt_eq.mp k5) (Nat.eq_of_beq_eq_true k4) h1 h2 e1 e2 (Nat.le_of_ble_eq_true k2) (Nat.le_of_ble_eq_true k3))
     ·cases hs
   ·cases hc
  ·cases hc
 ·cases hc
theorem qtp (m:MInv P C ω w0 C0 hp w)(e:EnvRel C ω w w0.heap.size env a.tmps){t:TypeId}{x lo hi mx}(ho:o.op=.slice t x lo hi mx)(hc:cOp P h md r dst (.slice t x lo hi mx)=some aop)(hs:qb p xc h0 al env hp aop=some res):jz P C C0 w0 a d env o w res:=by
 cases mx with
 |some _=>simp[cOp]at hc
 |none=>
  simp only[cOp]at hc
  split at hc
  ·rename_i x' lo' hi' h1 h2 h3
   split at hc
   ·rename_i ht
    cases hc
    simp only[qb,qg]at hs
    split at hs
    ·rename_i s hv
     split at hs
     ·rename_i j hj
      split at hs
      ·rename_i i hi'
       obtain rfl:=qp hs
       exact qu m e (qo9 e.rep ho ht h1 h2 h3 hv hj hi')
      ·cases hs
     ·cases hs
    ·cases hs
   ·rename_i el ht
    obtain⟨sz,hn,rfl⟩:=Option.map_eq_some_iff.1 hc
    simp only[qb,qg]at hs
    split at hs
    ·rename_i n sz' xs hv
     cases hk:(Nat.beq sz sz'||xs.isEmpty)with
     |false=>simp[hk]at hs
     |true=>
      simp only[hk,cond_true]at hs
      split at hs
      ·rename_i j hj
       split at hs
       ·rename_i i hi'
        obtain rfl:=qp hs
        refine qu m e (ql8 e.rep ho ht hn h1 h2 h3 hv (.inr ⟨n,sz',xs,rfl,?_,hj,hi',rfl⟩))
        rcases Bool.or_eq_true _ _▸hk with hk|hk
        ·exact .inl (Nat.eq_of_beq_eq_true hk)
        ·exact .inr (List.isEmpty_iff.1 hk)
       ·cases hs
      ·cases hs
    ·rename_i b q len hv
     split at hs
     ·rename_i j hj
      split at hs
      ·rename_i i hi'
       cases hk:(Nat.beq i 0||Nat.blt i j)with
       |false=>simp[hk]at hs
       |true=>
        simp only[hk,cond_true]at hs
        obtain rfl:=qp hs
        refine qu m e (ql8 e.rep ho ht hn h1 h2 h3 hv (.inl ⟨b,q,len,rfl,hj,hi',?_,rfl⟩))
        rcases Bool.or_eq_true _ _▸hk with hk|hk
        ·exact .inl (Nat.eq_of_beq_eq_true hk)
        ·exact .inr (Nat.blt_eq.mp hk)
      ·cases hs
     ·cases hs
    ·rename_i b ver len hv
     split at hs
     ·rename_i j hj
      split at hs
      ·rename_i i hi'
       cases hk:Nat.beq i 0 with
       |false=>simp[hk]at hs
       |true=>
        simp only[hk,cond_true]at hs
        obtain rfl:=qp hs
        obtain rfl:=Nat.eq_of_beq_eq_true hk
        exact qu m e (qsz e.rep ho ht hn h1 h2 h3 hv hj hi')
      ·cases hs
     ·cases hs
    ·cases hs
   ·rename_i n el ht
    obtain⟨sz,hn,rfl⟩:=Option.map_eq_some_iff.1 hc
    simp only[qb,qg]at hs
    split at hs
    ·rename_i b q hv
     split at hs
     ·rename_i j hj
      split at hs
      ·rename_i i hi'
       cases hk:(Nat.beq i 0||Nat.blt i j)with
       |false=>simp[hk]at hs
       |true=>
        simp only[hk,cond_true]at hs
        obtain rfl:=qp hs
        refine qu m e (qo7 e.rep ho ht hn h1 h2 h3 hv hj hi' ?_)
        rcases Bool.or_eq_true _ _▸hk with hk|hk
        ·exact .inl (Nat.eq_of_beq_eq_true hk)
        ·exact .inr (Nat.blt_eq.mp hk)
      ·cases hs
     ·cases hs
    ·cases hs
   ·cases hc
  ·cases hc
theorem qmq (m:MInv P C ω w0 C0 hp w)(e:EnvRel C ω w w0.heap.size env a.tmps){t:TypeId}{x i}(ho:o.op=.fieldAddr t x i)(hc:cOp P h md r dst (.fieldAddr t x i)=some aop)(hs:qb p xc h0 al env hp aop=some res):jz P C C0 w0 a d env o w res:=by
 simp only[cOp]at hc
 split at hc
 ·rename_i fs ht
  split at hc
  ·rename_i f hf
   split at hc
   ·rename_i ag n x' hag hn h1
    split at hc
    ·rename_i hb
     cases hc
     simp only[Bool.and_eq_true,decide_eq_true_eq]at hb
     simp only[qb,qg]at hs
     split at hs
     ·rename_i b q hv
      obtain rfl:=qp hs
      exact qu m e (qhb (ag:=ag) e.rep ho ht hf hn hb.1 h1 hv (.inl ⟨b,q,rfl,rfl⟩))
     ·rename_i cs hv
      split at hs
      ·rename_i z hz
       cases hk:Bool.xor ag z.isAgg with
       |true=>simp[hk]at hs
       |false=>
        simp only[hk,cond_false]at hs
        obtain rfl:=qp hs
        exact qu m e (qhb e.rep ho ht hf hn hb.1 h1 hv (.inr ⟨cs,z,rfl,hz,hk,rfl⟩))
      ·cases hs
     ·rename_i b ver q hv
      obtain rfl:=qp hs
      exact qu m e (qlw e.rep ho ht hf hn hb.1 h1 hv)
     ·cases hs
    ·cases hc
   ·cases hc
  ·cases hc
 ·cases hc
theorem qul (m:MInv P C ω w0 C0 hp w)(e:EnvRel C ω w w0.heap.size env a.tmps){t:TypeId}{x i}(ho:o.op=.field t x i)(hc:cOp P h md r dst (.field t x i)=some aop)(hs:qb p xc h0 al env hp aop=some res):jz P C C0 w0 a d env o w res:=by
 simp only[cOp]at hc
 split at hc
 ·rename_i fs ht
  split at hc
  ·rename_i f hf
   split at hc
   ·rename_i ag n x' hag hn h1
    cases hc
    simp only[qb,qg]at hs
    split at hs
    ·rename_i cs hv
     obtain⟨z,hz,rfl⟩:=qad hs
     exact qu m e (qtf e.rep ho ht hf hag hn h1 hv hz)
    ·cases hs
   ·cases hc
  ·cases hc
 ·cases hc
theorem qmw (m:MInv P C ω w0 C0 hp w)(e:EnvRel C ω w w0.heap.size env a.tmps){t:TypeId}{x i}(ho:o.op=.indexAddr t x i)(hc:cOp P h md r dst (.indexAddr t x i)=some aop)(hs:qb p xc h0 al env hp aop=some res):jz P C C0 w0 a d env o w res:=by
 simp only[cOp]at hc
 split at hc
 ·rename_i x' i' h1 h2
  split at hc
  ·rename_i el ht
   split at hc
   ·rename_i sz hn
    split at hc
    ·cases hc
     simp only[qb,qg]at hs
     split at hs
     ·rename_i nl sz' xs iv hv hi
      cases hk:(Nat.beq sz sz'||xs.isEmpty)with
      |false=>simp[hk]at hs
      |true=>
       simp only[hk,cond_true]at hs
       split at hs
       ·rename_i j hj
        split at hs
        ·rename_i z hz
         obtain rfl:=qp hs
         have hne:xs.isEmpty=false:=by
          have:=(List.getElem?_eq_some_iff.1 hz).1
          cases xs with
          |nil=>simp at this
          |cons _ _=>rfl
         rw[hne,Bool.or_false]at hk
         obtain rfl:=Nat.eq_of_beq_eq_true hk
         exact qu m e (qg2 e.rep ho ht hn h1 h2 hv hi (.inr ⟨nl,xs,z,j,rfl,hj,hz,rfl⟩))
        ·cases hs
       ·cases hs
     ·rename_i b q len iv hv hi
      split at hs
      ·rename_i j hj
       obtain rfl:=qp hs
       exact qu m e (qg2 e.rep ho ht hn h1 h2 hv hi (.inl ⟨b,q,len,j,rfl,hj,rfl⟩))
      ·cases hs
     ·rename_i b ver len iv hv hi
      split at hs
      ·rename_i j hj
       obtain rfl:=qp hs
       exact qu m e (qk7 e.rep ho ht hn h1 h2 hv hi hj)
      ·cases hs
     ·cases hs
    ·cases hc
   ·cases hc
  ·rename_i n el ht
   split at hc
   ·rename_i sz ag hn hag
    split at hc
    ·cases hc
     simp only[qb,qg]at hs
     split at hs
     ·rename_i b q iv hv hi
      split at hs
      ·rename_i j hj
       obtain rfl:=qp hs
       exact qu m e (qhw (ag:=ag) e.rep ho ht hn h1 h2 hv hi hj (.inl ⟨b,q,rfl,rfl⟩))
      ·cases hs
     ·rename_i cs iv hv hi
      split at hs
      ·rename_i j hj
       split at hs
       ·rename_i z hz
        cases hk:Bool.xor ag z.isAgg with
        |true=>simp[hk]at hs
        |false=>
         simp only[hk,cond_false]at hs
         obtain rfl:=qp hs
         exact qu m e (qhw e.rep ho ht hn h1 h2 hv hi hj (.inr ⟨cs,z,rfl,hz,hk,rfl⟩))
       ·cases hs
      ·cases hs
     ·cases hs
    ·cases hc
   ·cases hc
  ·cases hc
 ·cases hc
theorem quf (m:MInv P C ω w0 C0 hp w)(e:EnvRel C ω w w0.heap.size env a.tmps){t:TypeId}{x i}(ho:o.op=.index t x i)(hc:cOp P h md r dst (.index t x i)=some aop)(hs:qb p xc h0 al env hp aop=some res):jz P C C0 w0 a d env o w res:=by
 simp only[cOp]at hc
 split at hc
 ·rename_i x' i' h1 h2
  split at hc
  ·rename_i ht
   cases hc
   simp only[qb,qg]at hs
   split at hs
   ·rename_i s iv hv hi
    split at hs
    ·rename_i j hj
     split at hs
     ·rename_i c hcc
      obtain rfl:=qp hs
      exact qu m e (qoz e.rep ho ht h1 h2 hv hi hj hcc)
     ·cases hs
    ·cases hs
   ·cases hs
  ·rename_i n el ht
   split at hc
   ·rename_i sz ag hn hag
    cases hc
    simp only[qb,qg]at hs
    split at hs
    ·rename_i cs iv hv hi
     split at hs
     ·rename_i j hj
      obtain⟨z,hz,rfl⟩:=qad hs
      exact qu m e (qui e.rep ho ht hag hn h1 h2 hv hi hj hz)
     ·cases hs
    ·cases hs
   ·cases hc
  ·cases hc
 ·cases hc
theorem qp0 (m:MInv P C ω w0 C0 hp w)(e:EnvRel C ω w w0.heap.size env a.tmps){c}(ho:o.op=.call c)(hcv:∀f,c.callee≠.value f)(hc:qgk P h md r dst c=some aop)(hs:qb p xc h0 al env hp aop=some res):jz P C C0 w0 a d env o w res:=by
 unfold qgk at hc
 split at hc
 ·rename_i f hf;exact absurd hf (hcv f)
 ·rename_i hcb
  split at hc
  ·rename_i x t hca hct
   split at hc
   ·rename_i ht
    obtain⟨x',hx,rfl⟩:=Option.map_eq_some_iff.1 hc
    simp only[qb,qg]at hs
    split at hs<;>first|(exfalso;omega)|skip
    ·rename_i s _ hv
     obtain rfl:=qp hs
     exact qu m e (qlf e.rep ho hcb hca hct hx hv (.inl ⟨ht,s,rfl,rfl⟩))
    ·cases hs
   ·rename_i el ht
    obtain⟨x',hx,rfl⟩:=Option.map_eq_some_iff.1 hc
    simp only[qb,qg]at hs
    split at hs<;>first|(exfalso;omega)|skip
    ·rename_i n sz xs _ hv
     obtain rfl:=qp hs
     exact qu m e (qlf e.rep ho hcb hca hct hx hv (.inr ⟨⟨el,ht⟩,.inl ⟨n,sz,xs,rfl,rfl⟩⟩))
    ·rename_i b q n _ hv
     obtain rfl:=qp hs
     exact qu m e (qlf e.rep ho hcb hca hct hx hv (.inr ⟨⟨el,ht⟩,.inr ⟨b,q,rfl⟩⟩))
    ·rename_i b ver n _ hv
     obtain rfl:=qp hs
     exact qu m e (qwv e.rep ho hcb hca hct hx hv ht)
    ·cases hs
   ·cases hc
  ·cases hc
 ·rename_i hcb
  split at hc
  ·rename_i x t hca hct
   split at hc
   ·rename_i el ht
    obtain⟨x',hx,rfl⟩:=Option.map_eq_some_iff.1 hc
    simp only[qb,qg]at hs
    split at hs<;>first|(exfalso;omega)|skip
    ·rename_i sz xs _ hv
     obtain rfl:=qp hs
     refine qu m e ?_
     have ha:c.args=#[x]:=by apply Array.ext';simpa using hca
     have hty:c.argTypes=#[t]:=by apply Array.ext';simpa using hct
     refine⟨.int .i64 0,?_,.int _ _⟩
     have hq:∃b,a.eval x=.slice b 0 0:=by
      rcases(qn e.rep hx hv).list_inv with⟨_,_,h⟩|⟨h,_⟩|⟨h,_⟩
      ·exact⟨_,h⟩
      ·cases h
      ·cases h
     obtain⟨b,hq⟩:=hq
     simp[execOp,ho,resolve,hcb,ha,hty,invoke,builtin,Builtin.cap_,run_underlying ht,hq,goInt]
    ·cases hs
   ·cases hc
  ·cases hc
 ·rename_i hcb
  split at hc
  ·rename_i x y t u hca hct
   split at hc
   ·rename_i el ut ht hu
    split at hc
    ·rename_i hut
     split at hc
     ·rename_i sz b x' y' hn hb h1 h2
      cases hc
      have hzero:∃z,zd P el=some z∧z.length=sz:=by
       have hz:=(Bool.and_eq_true _ _▸hut).2
       rw[hn]at hz
       cases hz':zd P el with
       |none=>simp[hz']at hz
       |some z=>exact⟨z,rfl,by simpa[hz']using hz⟩
      generalize (dst.map (h.vec.contains ·)).getD false=bb at hs
      cases bb with
      |true=>
       simp only[if_true,qb,qj]at hs
       split at hs
       ·rename_i sz0 vy e1 e2
        split at hs
        ·rename_i ys hsrc
         cases hk:(Nat.ble ys.length 1073741824&&Nat.ble b 4096&&Nat.blt 0 sz&&!ys.isEmpty&&qo 0 ys&&Nat.blt r 1000)with
         |false=>rw[hk]at hs;cases hs
         |true=>
          rw[hk]at hs
          simp only[cond_true]at hs
          split at hs
          ·rename_i h' hnew
           obtain rfl:=qp hs
           simp only[Bool.and_eq_true]at hk hut
           obtain⟨⟨⟨⟨⟨k1,k2⟩,k3⟩,k4⟩,k5⟩,_⟩:=hk
           exact .inl (qu8 m e ho hcb hca hct ht hu hut.1 hn hb h1 h2 e1 e2 hsrc (Nat.le_of_ble_eq_true k1) (by intro h;rw[h]at k4;cases k4) (Nat.le_of_ble_eq_true k2) k5 hzero hnew)
          ·cases hs
        ·cases hs
       ·rename_i bx ver len vy e1 e2
        split at hs
        ·rename_i sz' ver' xs hbx
         split at hs
         ·rename_i ys hsrc
          cases hk:(Nat.beq ver ver'&&Nat.beq sz sz'&&Nat.ble len xs.length&&Nat.ble (len+ys.length) 1073741824&&Nat.ble b 4096&&Nat.blt 0 sz&&qo 0 ys&&Nat.blt r 1000)with
          |false=>rw[hk]at hs;cases hs
          |true=>
           rw[hk]at hs
           simp only[cond_true]at hs
           split at hs
           ·rename_i h' hset
            obtain rfl:=qp hs
            simp only[Bool.and_eq_true]at hk hut
            obtain⟨⟨⟨⟨⟨⟨⟨k1,k2⟩,k3⟩,k4⟩,k5⟩,k6⟩,k7⟩,_⟩:=hk
            obtain rfl:=Nat.eq_of_beq_eq_true k1
            obtain rfl:=Nat.eq_of_beq_eq_true k2
            exact .inl (qwr m e ho hcb hca hct ht hu hut.1 hn hb h1 h2 e1 e2 hsrc hbx (Nat.le_of_ble_eq_true k3) (Nat.le_of_ble_eq_true k4) (Nat.le_of_ble_eq_true k5) k7 hzero hset)
           ·cases hs
         ·cases hs
        ·cases hs
       ·cases hs
      |false=>
      simp only[Bool.false_eq_true,if_false]at hs
      generalize hR:(if(Option.map (fun x=>h.muts.contains x) dst).getD false=true then some r else none)=R at hs
      cases R with
      |some rr=>
       simp only[qb,qj]at hs
       split at hs
       ·rename_i sz' vy e1 e2
        cases hk1:((jn env x').isSome&&Nat.beq sz sz')with
        |false=>simp[hk1]at hs
        |true=>
         simp only[hk1,cond_true]at hs
         split at hs
         ·rename_i ys hsrc
          cases hk2:(Nat.ble ys.length 1073741824&&Nat.ble b 4096&&Nat.blt 0 sz)with
          |false=>simp[hk2]at hs
          |true=>
           simp only[hk2,cond_true]at hs
           split at hs
           ·rename_i h' hnew
            cases hs
            simp only[Bool.and_eq_true]at hk2 hut hk1
            obtain⟨⟨k2,k3⟩,k4⟩:=hk2
            refine .inl (qmv m e ho hcb hca hct ht hu hut.1 hn hb h1 h2 e1 e2 hsrc hk1.1 rfl (Nat.le_of_ble_eq_true k2) (Nat.le_of_ble_eq_true k3) ?_ (Nat.eq_of_beq_eq_true hk1.2) hnew)
            have hz:=hut.2
            rw[hn]at hz
            cases hz':zd P el with
            |none=>simp[hz']at hz
            |some z=>exact⟨z,rfl,by simpa[hz']using hz⟩
           ·cases hs
         ·cases hs
       ·cases hs
      |none=>
       simp only[qb,qg]at hs
       split at hs
       ·rename_i n sz' xs vy e1 e2
        cases hk1:(n||(jn env x').isSome)with
        |false=>simp[hk1]at hs
        |true=>
         simp only[hk1,cond_true]at hs
         split at hs
         ·rename_i ys hsrc
          cases hk2:((Nat.beq sz sz'||(xs.isEmpty&&n))&&Nat.ble (xs.length+ys.length) 1073741824&&Nat.ble b 4096&&Nat.blt 0 sz)with
          |false=>simp[hk2]at hs
          |true=>
           simp only[hk2,cond_true]at hs
           cases hs
           simp only[Bool.and_eq_true]at hk2 hut
           obtain⟨⟨⟨k1,k2⟩,k3⟩,k4⟩:=hk2
           refine .inl (qrw m e ho hcb hca hct ht hu hut.1 hn hb h1 h2 e1 e2 hsrc (by simpa using hk1) ?_ (Nat.le_of_ble_eq_true k2) (Nat.le_of_ble_eq_true k3) ?_)
           ·rcases Bool.or_eq_true _ _▸k1 with k1|k1
            ·exact .inl (Nat.eq_of_beq_eq_true k1)
            ·simp only[Bool.and_eq_true,List.isEmpty_iff]at k1;exact .inr k1
           ·have hz:=hut.2
            rw[hn]at hz
            cases hz':zd P el with
            |none=>simp[hz']at hz
            |some z=>exact⟨z,rfl,by simpa[hz']using hz⟩
         ·cases hs
       ·cases hs
     ·cases hc
    ·cases hc
   ·cases hc
  ·cases hc
 ·rename_i hcb
  split at hc
  ·rename_i x y t ts hca hct
   split at hc
   ·rename_i el ht
    split at hc
    ·rename_i sz x' y' hn h1 h2
     cases hc
     simp only[qb,qj]at hs
     split at hs
     ·rename_i b q len vy e1 e2
      cases hk:jf h0 al b with
      |false=>simp[hk]at hs
      |true=>
       simp only[hk,cond_true]at hs
       split at hs
       ·rename_i cs hcs
        split at hs
        ·rename_i n us hsrc
         split at hs
         ·rename_i cs' hst
          cases hk2:Nat.beq us.length (n*sz)with
          |false=>simp[hk2]at hs
          |true=>
           simp only[hk2,cond_true]at hs
           split at hs
           ·rename_i h' hset
            obtain rfl:=qp hs
            exact .inl (qwf m e ho hcb hca hct ht hn h1 h2 e1 e2 hcs hsrc hst (Nat.eq_of_beq_eq_true hk2) hset)
           ·cases hs
         ·cases hs
        ·cases hs
       ·cases hs
     ·cases hs
    ·cases hc
   ·cases hc
  ·cases hc
 ·rename_i hcb
  split at hc
  ·rename_i x y t ts hca hct
   split at hc
   ·rename_i kt el ht
    split at hc
    ·rename_i kd x' y' hkd h1 h2
     cases hc
     simp only[qb,qj]at hs
     split at hs
     ·rename_i b kv e1 e2
      cases hk:jf h0 al b with
      |false=>simp[hk]at hs
      |true=>
       simp only[hk,cond_true]at hs
       split at hs
       ·rename_i es hb
        split at hs
        ·rename_i r hf
         split at hs
         ·rename_i h' hset
          obtain rfl:=qp hs
          exact .inl (qsh m e ho hcb hca hct ht hkd h1 h2 e1 e2 hb hf hset)
         ·cases hs
        ·cases hs
       ·cases hs
     ·cases hs
    ·cases hc
   ·cases hc
  ·cases hc
 ·rename_i hcb
  obtain⟨l,hl,rfl⟩:=Option.map_eq_some_iff.1 hc
  simp only[qb,qg]at hs
  split at hs
  ·rename_i v vs hv
   obtain⟨z,hz,rfl⟩:=qad hs
   exact qu m e (qs5 (mx:=true) e.rep ho hcb hl hv hz)
  ·cases hs
 ·rename_i hcb
  obtain⟨l,hl,rfl⟩:=Option.map_eq_some_iff.1 hc
  simp only[qb,qg]at hs
  split at hs
  ·rename_i v vs hv
   obtain⟨z,hz,rfl⟩:=qad hs
   exact qu m e (qs5 (mx:=false) e.rep ho hcb hl hv hz)
  ·cases hs
 ·cases hc
end
def Ctx.cut (C:Ctx)(n:Nat):Ctx:={ C with β:=fun b=>if b<n then C.β b else none }
theorem Ctx.cut_le (C:Ctx)(n:Nat):(C.cut n).le C where
 k _ _ _ h:=h
 b b r h:=by
  simp only[Ctx.cut]at h
  split at h
  ·exact h
  ·cases h
 w:=rfl
 d _ h:=h
theorem Ctx.le_cut {C C':Ctx}{n}(h:C.le C')(hn:∀b r,C.β b=some r→b<n):C.le (C'.cut n):=
 ⟨h.1,fun b r hb=>by simp only[Ctx.cut];rw[if_pos (hn b r hb)];exact h.2 b r hb,h.w,h.d,h.t⟩
section
variable {P:Program}{p:je}{xc:XC}{C C0:Ctx}{ω:Nat→Option Loc}{w w0:World}{hp:qi}{env:Env}{tmps:Array Value}{B:Nat}
theorem OwnV.cut {ℓ x v}(n:Nat)(ho:OwnV C ω w B ℓ x v):OwnV (C.cut n) ω w B ℓ x v:=by
 unfold OwnV at *
 split at ho
 ·obtain⟨h1,h2,h3,h4,h5⟩:=ho
  exact⟨h1,h2,fun b hb=>h3 b ((Ctx.cut_le C n).2 b _ hb),h4,h5⟩
 ·obtain⟨h1,h2,h3,h4,h5⟩:=ho
  exact⟨h1,h2,fun b hb=>h3 b ((Ctx.cut_le C n).2 b _ hb),h4,h5⟩
 ·trivial
theorem Rep.cut {x v n}(h:Rep C x v)(hb:below n x=true):Rep (C.cut n) x v:=
 RepI.shift (C:=C) (C':=C.cut n) n (fun _ _ _ h=>h) (fun b r hlt hb=>by simp only[Ctx.cut];rw[if_pos hlt];exact hb) h hb
theorem qdu {n}:∀ {e:Env} {s:Nat} {x:AVal×Bool},yd n e=true→qv s e=some x→below n x.1=true
 | [],_,_,_,h=>by simp[qv]at h
 |(t,y)::e,s,x,hb,h=>by
  simp only[yd,Bool.and_eq_true]at hb
  simp only[qv]at h
  cases hts:Nat.beq t s with
  |true=>simp only[hts,cond_true,Option.some.injEq]at h;subst h;exact hb.1
  |false=>simp only[hts,cond_false]at h;exact qdu hb.2 h
theorem qg4 {n}:∀ {l:qi} {b:Nat} {x:ABox},js n l=true→l[b]?=some x→qag n x=true
 | [],_,_,_,h=>by simp at h
 |y::l,b,x,hb,h=>by
  simp only[js,Bool.and_eq_true]at hb
  cases b with
  |zero=>simp at h;subst h;exact hb.1
  |succ b=>simp at h;exact qg4 hb.2 h
theorem qge {n}:∀ {l:List (AVal×Bool)} {j:Nat} {c:AVal×Bool},ku n l=true→l[j]?=some c→below n c.1=true
 | [],_,_,_,h=>by simp at h
 |(y,o)::l,j,c,hb,h=>by
  simp only[ku,Bool.and_eq_true]at hb
  cases j with
  |zero=>simp at h;subst h;exact hb.1
  |succ j=>simp at h;exact qge hb.2 h
theorem RepE.cut {n es ms}(hr:RepE C es ms):y8 n es=true→RepE (C.cut n) es ms:=by
 induction hr with
 |nil=>exact fun _=>.nil
 |cons k v es m ms hk hv _ ih=>
  intro hb
  simp only[y8,Bool.and_eq_true]at hb
  exact .cons k v es m ms (Rep.cut hk hb.1.1) (Rep.cut hv hb.1.2) (ih hb.2)
theorem BoxRel.cut {b r n x}(h:BoxRel P C ω w B b r x)(hb:qag n x=true):BoxRel P (C.cut n) ω w B b r x:=by
 cases x with
 |hole=>exact h
 |cells cs=>
  obtain⟨vs,el,h1,h2,h3⟩:=h
  exact⟨vs,el,h1,h2,fun j c hc=>let ⟨v,a,q,b,d⟩:=h3 j c hc; ⟨v,a,q,Rep.cut b (qge hb hc),fun e=>(d e).cut n⟩⟩
 |map es=>obtain⟨ents,clock,h1,h2⟩:=h;exact⟨ents,clock,h1,h2.cut hb⟩
 |iter s pos=>exact h
 |loop l=>obtain⟨lp,h1,h2⟩:=h;exact⟨lp,h1,{ h2 with env:=fun s x hx=>let ⟨v,a,b⟩:=h2.env s x hx; ⟨v,a,Rep.cut b (qdu hb hx)⟩ }⟩
 |bld t e l=>obtain⟨p,v,h1,h2,h3,h4⟩:=h;exact⟨p,v,h1,h2,h3,h4.cut n⟩
 |dead=>exact h
 |vec sz ver xs=>exact VecRel.imp (C:=C) (C':=C.cut n) (ω:=ω) (ω':=ω) (B':=B) (fun _ _ _ h=>h) (fun _ h=>h) (fun _ h _=>h) rfl (fun q n' cap k=>⟨rfl,OwnV.cut (C:=C) n k⟩) h
theorem MInv.gc (m:MInv P C ω w0 C0 hp w){n:Nat}(hn:n≤hp.length)(hb:js n (hp.take n)=true)(h0:∀b r,C0.β b=some r→b<n):MInv P (C.cut n) ω w0 C0 (hp.take n) w where
 base:=m.base
 know:=m.know
 kone:=m.kone
 apart b r o hb:=m.apart b r o ((Ctx.cut_le C n).2 b r hb)
 inj b b' r h1 h2:=m.inj b b' r ((Ctx.cut_le C n).2 _ _ h1) ((Ctx.cut_le C n).2 _ _ h2)
 lt b r h:=by
  have h1:=m.lt b r ((Ctx.cut_le C n).2 _ _ h)
  refine⟨h1.1,?_⟩
  simp only[Ctx.cut]at h
  split at h
  ·rw[List.length_take];omega
  ·cases h
 size:=m.size
 frame:=m.frame
 dfr:=m.dfr
 os:=m.os
 output:=m.output
 fresh b r h:=m.fresh b r ((Ctx.cut_le C n).2 _ _ h)
 grown:=Ctx.le_cut m.grown h0
 old:=m.old
 box b x r hx hr:=by
  have hlt:b<n:=by
   have:=(List.getElem?_eq_some_iff.1 hx).1
   rw[List.length_take]at this;omega
  have hx':hp[b]?=some x:=by rwa [List.getElem?_take_of_lt hlt]at hx
  exact(m.box b x r hx' ((Ctx.cut_le C n).2 _ _ hr)).cut (qg4 hb hx)
 tlt:=m.tlt
theorem EnvRel.cut {n}(e:EnvRel C ω w B env tmps)(hb:yd n env=true):EnvRel (C.cut n) ω w B env tmps:=
 fun s x hx=>let ⟨v,h1,h2,h3⟩:=e s x hx; ⟨v,h1,Rep.cut h2 (qdu hb hx),fun h=>(h3 h).cut n⟩
def q37 (env:Env)(hp:qi)(r:qcl)(ℓ:Loc)(x:AVal×Bool):Prop:=
 (∃s,ℓ=.slot s)∨∃t n b j ow cs,r=.cell t false n∧qv t env=some (.ptr b j,ow)∧ℓ=.cell b j∧ja hp b=some cs∧cs[j]?=some x
def qox (C:Ctx)(ω:Nat→Option Loc)(w:World)(B:Nat)(env:Env)(hp:qi)(r:qcl)(x:AVal×Bool)(v:Value):Prop:=Rep C x.1 v∧(x.2=true→∃ℓ,OwnV C ω w B ℓ x.1 v∧q37 env hp r ℓ x)
theorem qod {B'}(m:MInv P C ω w0 C0 hp w)(hB:B'=w0.heap.size)(e:EnvRel C ω w B' env tmps){rv r x}(hc:qsl P rv=some r)(hr:qac ⟨env,hp⟩ r=some x):
  ∃v,((match rv with | .tmp t=>pure (tmps.getD t undef) | .cell a t=>do loadVar t (←asAddr (tmps.getD a undef)):Sem Value)).run P w=.ok v w∧qox C ω w B' env hp r x v:=by
 subst hB
 cases rv with
 |tmp t=>
  simp only[qsl]at hc
  cases hc
  simp only[qac]at hr
  obtain⟨v,h1,h2,h3⟩:=e t x hr
  refine⟨v,?_,h2,fun h=>⟨_,h3 h,.inl ⟨_,rfl⟩⟩⟩
  simp[Array.getD_eq_getD_getElem?,h1]
 |cell t ty=>
  simp only[qsl]at hc
  have key:∀ {ag:Bool} {n:Nat},zb P ty=some ag→qy P ty=some n→(ag=false→n=1)→qac ⟨env,hp⟩ (.cell t ag n)=some x→∃v,((do loadVar ty (←asAddr (tmps.getD t undef)):Sem Value)).run P w=.ok v w∧qox C ω w w0.heap.size env hp (.cell t ag n) x v:=by
   intro ag n hg hn h1n hr
   simp only[qac]at hr
   split at hr
   ·rename_i b q ow hl
    obtain⟨u,h1,h2,_⟩:=e t _ hl
    obtain⟨r,hbr,rfl⟩:=h2.ptr_inv
    have hu:tmps.getD t undef=.pointer (some ⟨r,q,none⟩):=by simp[Array.getD_eq_getD_getElem?,h1]
    split at hr
    ·rename_i cs hcs
     have hbox:=m.box b _ r (ym hcs) hbr
     split at hr
     ·rename_i us hus
      cases ag with
      |true=>
       simp only[cond_true,Option.some.injEq]at hr
       subst hr
       obtain⟨vs,k1,_,k2,k3,_⟩:=hbox.read hus
       refine⟨.agg ⟨vs⟩,?_,.agg _ _ k1,by simp⟩
       simp[hu,asAddr,qbt hg hn k2 k3]
      |false=>
       simp only[cond_false]at hr
       split at hr
       ·rename_i c hc
        cases hr
        obtain⟨vs,te,g1,g2,g3⟩:=hbox
        obtain⟨v,a1,a2,a3,a4⟩:=g3 q _ hc
        have hcell:w.cell? ⟨r,q,none⟩=some v:=by
         simp only[World.cell?,g1]
         simpa using a1
        refine⟨v,?_,a3,fun h=>⟨_,a4 h,.inr ⟨_,_,_,_,_,_,rfl,hl,rfl,hcs,hc⟩⟩⟩
        simp[hu,asAddr,qbs hg hcell]
       ·cases hr
     ·cases hr
    ·cases hr
   ·cases hr
  split at hc
  ·rename_i n hg hn;cases hc;exact key hg hn (by simp) hr
  ·rename_i hg hn;cases hc;exact key hg hn (fun _=>rfl) hr
  ·cases hc
inductive ResL (P:Program)(C:Ctx)(ω:Nat→Option Loc)(w:World)(B:Nat)(env:Env)(hp:qi):List qcl→List (AVal×Bool)→List Value→Prop where
 |nil:ResL P C ω w B env hp [] [] []
 |cons {r:qcl} {x:AVal×Bool} {v:Value} {rs:List qcl} {xs:List (AVal×Bool)} {vs:List Value} (h:qox C ω w B env hp r x v) (t:ResL P C ω w B env hp rs xs vs):ResL P C ω w B env hp (r::rs) (x::xs) (v::vs)
theorem ResL.rep {rs xs vs}(h:ResL P C ω w B env hp rs xs vs):RepL C (xs.map (·.1)) vs:=by
 induction h with
 |nil=>exact .nil
 |cons h _ ih=>exact .cons _ _ _ _ h.1 ih
theorem qg8 {B'}(m:MInv P C ω w0 C0 hp w)(hB:B'=w0.heap.size)(e:EnvRel C ω w B' env tmps):∀ {l:List ResultVar} {rs:List qcl} {xs:List (AVal×Bool)},qgq P l=some rs→zp ⟨env,hp⟩ rs=some xs →
  ∃vs,(l.mapM fun(rv:ResultVar)=>(match rv with | .tmp t=>pure (tmps.getD t undef) | .cell a t=>do loadVar t (←asAddr (tmps.getD a undef)):Sem Value)).run P w=.ok vs w∧ResL P C ω w B' env hp rs xs vs
 | [],rs,xs,hc,hr=>by
  simp[qgq]at hc;subst hc
  simp[zp]at hr;subst hr
  exact⟨[],rfl,.nil⟩
 |rv::l,rs,xs,hc,hr=>by
  simp only[qgq]at hc
  split at hc
  ·rename_i r rs' h1 h2
   cases hc
   simp only[zp]at hr
   split at hr
   ·rename_i x hx
    split at hr
    ·rename_i ys hys
     cases hr
     obtain⟨v,k1,k2⟩:=qod m hB e h1 hx
     obtain⟨vs,j1,j2⟩:=qg8 m hB e h2 hys
     refine⟨v::vs,?_,.cons k2 j2⟩
     simp only[List.mapM_cons,Sem.run_bind,k1,Result.andThen_ok,j1,Sem.run_pure]
    ·cases hr
   ·cases hr
  ·cases hc
def qfw:List Value→Value
 | [v]=>v
 |vs=>.tuple ⟨vs⟩
theorem qkr (m:MInv P C ω w0 C0 hp w){ω' b j v ow cs}(hbc:ja hp b=some cs)(hc:cs[j]?=some (v,ow))(hω:∀b' j' y u,(b'≠b∨j'≠j)→OwnV C ω w w0.heap.size (.cell b' j') y u→OwnV C ω' w w0.heap.size (.cell b' j') y u):
  MInv P C ω' w0 C0 (hp.set b (.cells (cs.set j (v,false)))) w:=by
 by_cases hb:∃r,C.β b=some r
 ·obtain⟨r,hr⟩:=hb
  obtain⟨vs,te,hg,hsz,hold⟩:=m.box b _ r (ym hbc) hr
  obtain⟨cv,k1,k2,k3,k4⟩:=hold j _ hc
  have hu:Upd w w r:=⟨rfl,fun _ _=>rfl,fun c t fr h=>by rw[hg]at h;cases h;rfl,rfl,rfl⟩
  refine m.updBox hu hr _ (fun b' j' y u hb' hz=>hω b' j' y u (.inl hb') hz) ⟨vs,te,hg,by simpa using hsz,fun i c hi=>?_⟩
  rw[List.getElem?_set]at hi
  split at hi
  ·rename_i hji
   subst hji
   split at hi
   ·cases hi;exact⟨cv,k1,k2,k3,by simp⟩
   ·cases hi
  ·rename_i hji
   obtain⟨u,a1,a2,a3,a4⟩:=hold i c hi
   exact⟨u,a1,a2,a3,fun h=>hω b i _ _ (.inr (Ne.symm hji)) (a4 h)⟩
 ·refine { m with lt:=fun k r hk=>by rw[List.length_set];exact m.lt k r hk,box:=fun k x r hx hk=>?_ }
  have hkb:k≠b:=fun h=>hb ⟨r,h▸hk⟩
  rw[List.getElem?_set_ne (Ne.symm hkb)]at hx
  exact(m.box k x r hx hk).mono (Ctx.le_refl C) fun j' y u ho=>hω k j' y u (.inl hkb) ho
theorem qvj (m:MInv P C ω w0 C0 hp w){rs xs vs}(h:ResL P C ω w w0.heap.size env hp rs xs vs):
  ∃ω',MInv P C ω' w0 C0 (zu ⟨env,hp⟩ rs) w∧Rep C (jc xs).1 (qfw vs)∧((jc xs).2=true→OwnV C ω' w w0.heap.size (.slot 0) (jc xs).1 (qfw vs)):=by
 have same:∃ω',MInv P C ω' w0 C0 hp w:=⟨ω,m⟩
 cases h with
 |nil=>exact⟨ω,m,by simpa[jc,qfw]using RepI.tup _ _ (RepI.nil),by simp[jc]⟩
 |cons hx ht=>
  cases ht with
  |cons hy ht=>
   have:=(ResL.cons hx (ResL.cons hy ht)).rep
   exact⟨ω,by simpa[zu]using m,by simpa[jc,qfw]using RepI.tup _ _ this,by simp[jc]⟩
  |nil=>
   rename_i r x v
   obtain⟨h1,h2⟩:=hx
   simp only[jc]
   -- without the flag
   have plain:MInv P C ω w0 C0 (zu ⟨env,hp⟩ [r]) w:=by
    unfold zu
    split
    ·split
     ·split
      ·rename_i cs hcs
       split
       ·rename_i u hu
        exact qkr m hcs hu (fun _ _ _ _ _ h=>h)
       ·exact m
      ·exact m
     ·exact m
    ·exact m
   by_cases hk:x.2=true
   ·have hk1:=hk
    obtain⟨ℓ,h3,h4⟩:=h2 hk1
    refine⟨qa6 ω x.1 v (.slot 0),?_,h1,fun _=>qdg h3⟩
    rcases h4 with⟨s,rfl⟩|⟨t,n,b,j,ow,cs,rfl,g1,rfl,g2,g3⟩
    ·exact { plain with box:=fun b x r hx hb=>(plain.box b x r hx hb).mono (Ctx.le_refl C) fun j y u hz=>kc h3 (by simp) hz }
    ·obtain⟨xv,xo⟩:=x
     simp only at hk1
     subst hk1
     have:zu ⟨env,hp⟩ [.cell t false n]=hp.set b (.cells (cs.set j (xv,false))):=by
      simp only[zu,g1,g2,g3]
     rw[this]
     exact qkr m g2 g3 fun b' j' y u hne hz=>kc h3 (by
      rcases hne with hne|hne
      ·simp[hne]
      ·simp[hne]) hz
   ·exact⟨ω,plain,h1,fun h=>absurd h hk⟩
theorem qqa {fn}(m:MInv P C ω w0 C0 hp w)(e:EnvRel C ω w w0.heap.size env tmps){rs xs}(hc:qgq P fn.results.toList=some rs)(hr:zp ⟨env,hp⟩ rs=some xs):
  ∃v ω',(results fn tmps).run P w=.ok v w∧MInv P C ω' w0 C0 (zu ⟨env,hp⟩ rs) w∧Rep C (jc xs).1 v∧((jc xs).2=true→OwnV C ω' w w0.heap.size (.slot 0) (jc xs).1 v):=by
 obtain⟨vs,h1,h2⟩:=qg8 m rfl e hc hr
 have hmap:(fn.results.mapM fun(rv:ResultVar)=>(match rv with | .tmp t=>pure (tmps.getD t undef) | .cell a t=>do loadVar t (←asAddr (tmps.getD a undef)):Sem Value)).run P w=.ok vs.toArray w:=by
  rw[Array.mapM_eq_mapM_toList]
  simp only[Sem.run_map]
  rw[h1]
  rfl
 have hrun:(results fn tmps).run P w=.ok (if h:vs.toArray.size=1 then vs.toArray[0]else .tuple vs.toArray) w:=by
  unfold results
  rw[Sem.run_bind]
  exact congrArg (fun z=>Result.andThen z fun(a:Array Value) w'=>Sem.run P (pure (if h:a.size=1 then a[0]else Value.tuple a)) w') hmap
 have hval:(if h:vs.toArray.size=1 then vs.toArray[0]else .tuple vs.toArray)=(qfw vs):=by
  match vs with
  | []=>rfl
  | [v]=>rfl
  |v::u::vs=>simp[qfw]
 rw[hval]at hrun
 obtain⟨ω',q1,q2,q3⟩:=qvj m h2
 exact⟨_,ω',hrun,q1,q2,q3⟩
end
section
variable {P:Program}{C C0:Ctx}{ω:Nat→Option Loc}{w w0:World}{hp:qi}
def VecAt (C:Ctx)(hp:qi)(r:Nat):Prop:=∃b sz ver xs r0 cap,hp[b]?=some (.vec sz ver xs)∧C.β b=some r0∧C.T (r0,ver,r,cap)
def Hid (C:Ctx)(hp:qi)(r:Nat):Prop:=(∃b,C.β b=some r)∨VecAt C hp r
theorem VecAt.is (m:MInv P C ω w0 C0 hp w){r}(h:VecAt C hp r):(∃b,C.β b=some r)∨∃b sz ver xs n cap,hp[b]?=some (.vec sz ver xs)∧qdo C ω w w0.heap.size b r n cap:=by
 obtain⟨b,sz,ver,xs,r0,cap,h1,h2,h3⟩:=h
 obtain⟨q,cap',k1,k2,k3,k4,_⟩:=m.box b _ r0 h1 h2
 have:=(k2 _ h3 rfl).2 rfl
 simp only[Prod.mk.injEq]at this
 obtain⟨rfl,rfl⟩:=this
 rcases k4 with rfl|k4
 ·exact .inl ⟨b,h2⟩
 ·exact .inr ⟨b,sz,ver,xs,_,_,h1,k4⟩
theorem qjm (m:MInv P C ω w0 C0 hp w){r}(h:Hid C hp r)(o:Nat):C.K r o=none:=by
 rcases h with⟨b,hb⟩|h
 ·exact m.apart b r o hb
 ·rcases h.is m with⟨b,hb⟩|⟨b,sz,ver,xs,n,cap,_,h2⟩
  ·exact m.apart b r o hb
  ·exact h2.2.2.2.2.2.2 o (by simp)
theorem quk {K}(hW:C.W=fun _=>False)(m:MInv P C ω w0 (.iso K) hp w){r}(h:Hid C hp r):w0.heap.size≤r:=by
 have key:∀b,C.β b=some r→w0.heap.size≤r:=fun b hb=>by
  rcases m.fresh b r hb with h|h|h
  ·cases h
  ·exact h
  ·exact h.elim
 rcases h with⟨b,hb⟩|h
 ·exact key b hb
 ·rcases h.is m with⟨b,hb⟩|⟨b,sz,ver,xs,n,cap,_,h2⟩
  ·exact key b hb
  ·rcases h2.2.1 with h|h
   ·exact h
   ·rw[hW]at h;exact h.elim
theorem qzi (m:MInv P C ω w0 C0 hp w){r}(h:Hid C hp r):r<w.heap.size:=by
 rcases h with⟨b,hb⟩|h
 ·exact(m.lt b r hb).1
 ·rcases h.is m with⟨b,hb⟩|⟨b,sz,ver,xs,n,cap,_,h2⟩
  ·exact(m.lt b r hb).1
  ·obtain⟨_,_,_,_,_,⟨cells,elem,h5,_⟩,_⟩:=h2
   exact(Array.getElem?_eq_some_iff.1 h5).1
open Classical in
noncomputable def jm (C:Ctx)(hp:qi)(w:World):Nat→Nat→Option Value:=fun r o=>if Hid C hp r then(w.cell? ⟨r,o,none⟩).filter (·.oneCell')else C.K r o
theorem qcj (m:MInv P C ω w0 C0 hp w){r o x}(h:C.K r o=some x):jm C hp w r o=some x:=by
 unfold jm
 rw[if_neg]
 ·exact h
 ·intro hh
  rw[qjm m hh o]at h;cases h
theorem qcv (m:MInv P C ω w0 C0 hp w){r o x}(h:jm C hp w r o=some x):w.cell? ⟨r,o,none⟩=some x∧x.oneCell'=true:=by
 unfold jm at h
 split at h
 ·rw[Option.filter_eq_some_iff]at h;exact h
 ·exact⟨m.know r o x h,m.kone r o x h⟩
theorem qix {r o x}(hb:Hid C hp r)(hc:w.cell? ⟨r,o,none⟩=some x)(h1:x.oneCell'=true):jm C hp w r o=some x:=by
 unfold jm
 rw[if_pos hb,hc]
 simp[h1]
theorem qfl {b r o x}(hb:C.β b=some r)(hc:w.cell? ⟨r,o,none⟩=some x)(h1:x.oneCell'=true):jm C hp w r o=some x:=
 qix (.inl ⟨b,hb⟩) hc h1
theorem qfi (m:MInv P C ω w0 C0 hp w){x v}(h:Rep C x v)(hb:below 0 x=true):Rep (.iso (jm C hp w)) x v:=
 RepI.shift (C:=C) (C':=.iso (jm C hp w)) 0 (fun _ _ _ h=>qcj m h) (fun b r hlt=>by omega) h hb
theorem qja {x v}(h:Rep C x v)(h1:v.oneCell'=true):x.isAgg=false:=by
 cases h<;>first|rfl|(simp[Value.oneCell']at h1)
theorem qjl {C r}:∀ {ys:List AVal} {o:Nat},(∀j x,ys[j]?=some x→∃v,C.K r (o+j)=some v∧Rep C x v)→RepC C r ys o
 | [],o,_=>.cnil _ _
 |x::ys,o,h=>by
  obtain⟨v,h1,h2⟩:=h 0 x rfl
  refine .ccons _ _ _ _ v (by simpa using h1) h2 (qjl fun j y hy=>?_)
  obtain⟨v,k1,k2⟩:=h (j+1) y (by simpa using hy)
  exact⟨v,by rw[show o+1+j=o+(j+1) by omega];exact k1,k2⟩
theorem qgo {C r sz}(hz:0<sz):∀ {n:Nat} {xs:List AVal} {o:Nat},xs.length=n*sz→(∀x∈xs,x.isAgg=false)→(∀j x,xs[j]?=some x→∃v,C.K r (o+j)=some v∧Rep C x v)→RepRow C r sz (qaj sz n xs) o
 |0,xs,o,_,_,_=>.rnil _ _ _
 |n+1,xs,o,hl,hp,h=>by
  rw[Nat.succ_mul]at hl
  have hf:(bif Nat.beq sz 1 then xs.headD .undef else AVal.agg (xs.take sz)).flat=xs.take sz:=by
   cases hb:Nat.beq sz 1 with
   |false=>rfl
   |true=>
    have:=Nat.eq_of_beq_eq_true hb
    subst this
    match xs,hl with
    |x::xs,_=>simp only[cond_true,List.headD_cons];rw[kj (hp x (List.mem_cons_self ..))];rfl
  refine .rcons _ _ _ _ _ ?_ ?_ (qgo hz ?_ (fun x hx=>hp x (List.mem_of_mem_drop hx)) fun j x hx=>?_)
  ·rw[hf,List.length_take];omega
  ·rw[hf]
   refine qjl fun j x hx=>h j x ?_
   rw[List.getElem?_take]at hx
   split at hx
   ·exact hx
   ·cases hx
  ·rw[List.length_drop];omega
  ·rw[List.getElem?_drop]at hx
   obtain⟨v,k1,k2⟩:=h _ x hx
   exact⟨v,by rw[Nat.add_assoc];exact k1,k2⟩
theorem qa4 {sz}:∀ {n:Nat} {xs:List AVal},(qaj sz n xs).length=n
 |0,_=>rfl
 |n+1,xs=>by simp only[qaj,List.length_cons];rw[qa4]
theorem qhk {sz}(hz:1<sz):∀ {n:Nat} {xs:List AVal},xs.length=n*sz→qo 0 (qaj sz n xs)=true→∀x∈xs,below 0 x=true
 |0,xs,hl,_=>by
  rw[Nat.zero_mul]at hl
  rw[List.length_eq_zero_iff.1 hl]
  intro x hx;cases hx
 |n+1,xs,hl,h=>by
  have hb:Nat.beq sz 1=false:=by
   cases hc:Nat.beq sz 1 with
   |false=>rfl
   |true=>have:=Nat.eq_of_beq_eq_true hc;omega
  simp only[qaj,hb,cond_false,qo,below,Bool.and_eq_true]at h
  have ih:=qhk hz (n:=n) (xs:=xs.drop sz) (by rw[List.length_drop,hl,Nat.succ_mul];omega) h.2
  have ht:∀(ys:List AVal),qo 0 ys=true→∀x∈ys,below 0 x=true:=by
   intro ys
   induction ys with
   |nil=>intro _ x hx;cases hx
   |cons y ys ih=>
    intro hh x hx
    simp only[qo,Bool.and_eq_true]at hh
    rcases List.mem_cons.1 hx with rfl|hx
    ·exact hh.1
    ·exact ih hh.2 x hx
  intro x hx
  rw[←List.take_append_drop sz xs]at hx
  rcases List.mem_append.1 hx with hx|hx
  ·exact ht _ h.1 x hx
  ·exact ih x hx
theorem qfk (m:MInv P C ω w0 C0 hp w){x x' v}(hf:yv hp x=some x')(h:Rep C x v)(hb:below 0 x'=true):Rep (.iso (jm C hp w)) x' v:=by
 unfold yv at hf
 split at hf
 ·rename_i b off len
  split at hf
  ·rename_i cs hcs
   cases hrow:qu2 off len cs with
   |true=>
    rw[hrow]at hf
    simp only[cond_true,Option.some.injEq]at hf
    subst hf
    simp only[qu2,Bool.and_eq_true]at hrow
    obtain⟨⟨⟨r0,r1⟩,r2⟩,_⟩:=hrow
    have r0:=Nat.eq_of_beq_eq_true r0
    have r2:=Nat.eq_of_beq_eq_true r2
    have r1:1<cs.length / len:=by simpa using r1
    subst r0
    obtain⟨r,cap,hbr,hle,rfl⟩:=h.ms_inv
    obtain⟨vs,elem,k1,k2,k3⟩:=m.box b _ r (ym hcs) hbr
    have hbl:qo 0 (qaj (cs.length / len) len (cs.map (·.1)))=true:=by simpa[below]using hb
    have hbel:=qhk r1 (by rw[List.length_map];exact r2.symm) hbl
    have hrr:RepRow (.iso (jm C hp w)) r (cs.length / len) (qaj (cs.length / len) len (cs.map (·.1))) 0:=by
     refine qgo (by omega) (by rw[List.length_map];exact r2.symm) (fun x hx=>?_) fun j x hx=>?_
     ·obtain⟨j,hj⟩:=List.getElem?_of_mem hx
      rw[List.getElem?_map,Option.map_eq_some_iff]at hj
      obtain⟨c,hc,rfl⟩:=hj
      obtain⟨u,q1,q2,q3,_⟩:=k3 j c hc
      exact qja q3 q2
     ·have hmem:=List.mem_of_getElem? hx
      rw[List.getElem?_map,Option.map_eq_some_iff]at hx
      obtain⟨c,hc,rfl⟩:=hx
      obtain⟨u,q1,q2,q3,_⟩:=k3 j c hc
      have hcell:w.cell? ⟨r,0+j,none⟩=some u:=by
       unfold World.cell?
       rw[k1]
       simp only[Option.isSome_none,Bool.false_eq_true,if_false,Nat.zero_add]
       exact q1
      exact⟨u,qfl hbr hcell q2,qfi m q3 (hbel _ hmem)⟩
    have:=RepI.list (C:=.iso (jm C hp w)) (cs.length / len) (qaj (cs.length / len) len (cs.map (·.1))) r 0 cap (by rw[qa4];exact hle) hrr
    rw[qa4]at this
    exact this
   |false=>
   rw[hrow]at hf
   simp only[cond_false]at hf
   split at hf
   ·rename_i us hus
    cases hf
    obtain⟨r,cap,hbr,hle,rfl⟩:=h.ms_inv
    obtain⟨vs,k1,k0,k2,k3,k4⟩:=(m.box b _ r (ym hcs) hbr).read hus
    have hbl:qo 0 us=true:=by simpa[below]using hb
    have hrep:RepL (.iso (jm C hp w)) us vs:=RepI.shift (C:=C) (C':=.iso (jm C hp w)) 0 (fun _ _ _ h=>qcj m h) (fun b r hlt=>by omega) k1 hbl
    have hflat:∀(us:List AVal) (vs:List Value),RepL C us vs→(∀v∈vs,v.oneCell'=true)→us.flatMap AVal.flat=us∧∀u∈us,u.flat.length=1:=by
     intro us
     induction us with
     |nil=>intro _ _ _;exact⟨rfl,by simp⟩
     |cons u us ih=>
      intro vs h h1
      cases h with
      |cons _ _ v vs hx h=>
       obtain⟨i1,i2⟩:=ih vs h (fun v hv=>h1 v (by simp[hv]))
       have hna:=qja hx (h1 v (by simp))
       rw[List.flatMap_cons,kj hna,i1]
       refine⟨rfl,fun u' hu'=>?_⟩
       rcases List.mem_cons.1 hu' with rfl|hu'
       ·rw[kj hna];rfl
       ·exact i2 u' hu'
    obtain⟨f1,f2⟩:=hflat us vs k1 k4
    have hcells:RepC (.iso (jm C hp w)) r (us.flatMap AVal.flat) off:=by
     rw[f1]
     exact RepC.of_vals hrep fun j u hj=>qfl hbr (k3 j u hj) (k4 u (List.mem_of_getElem? hj))
    have hl:us.length=len:=k0
    have:=RepI.list (C:=.iso (jm C hp w)) 1 us r off cap (by omega) (RepRow.of_cells hcells f2)
    rw[hl]at this
    exact this
   ·cases hf
  ·cases hf
 ·rename_i b ver len
  split at hf
  ·rename_i sz ver' xs hbx
   cases hk:(Nat.beq ver ver'&&Nat.ble len xs.length)with
   |false=>rw[hk]at hf;cases hf
   |true=>
    rw[hk]at hf
    simp only[cond_true,Option.some.injEq]at hf
    subst hf
    simp only[Bool.and_eq_true]at hk
    obtain rfl:=Nat.eq_of_beq_eq_true hk.1
    have hlen:=Nat.le_of_ble_eq_true hk.2
    cases h with
    |vref _ _ _ r0 q cap hβ hT hl=>
     obtain⟨q',cap',k1,k2,k3,k4,_⟩:=m.box b _ r0 hbx hβ
     have heq:=(k2 _ hT rfl).2 rfl
     simp only[Prod.mk.injEq]at heq
     obtain⟨rfl,rfl⟩:=heq
     obtain⟨cells,t,vs,g1,g2,g3,g4,g5,g6,g7⟩:=k3
     have hhid:Hid C hp q:=.inr ⟨b,sz,ver,xs,r0,cap,hbx,hβ,hT⟩
     have hall:RepC (.iso (jm C hp w)) q (xs.flatMap AVal.flat) 0:=by
      refine RepC.of_vals (RepI.imp (C:=.iso C.K) (C':=.iso (jm C hp w)) ⟨fun _ _ _ h=>qcj m h,fun _ _ h=>h⟩ g5) fun j u hj=>?_
      refine qix hhid ?_ (g7 u (List.mem_of_getElem? hj))
      unfold World.cell?
      rw[g1]
      simp only[Option.isSome_none,Bool.false_eq_true,if_false,Nat.zero_add]
      exact g6 j u hj
     have hrow:RepRow (.iso (jm C hp w)) q sz xs 0:=RepRow.of_cells hall g4
     have:=RepI.list (C:=.iso (jm C hp w)) sz (xs.take len) q 0 cap (by rw[List.length_take];omega) (hrow.take len)
     rw[List.length_take,Nat.min_eq_left hlen]at this
     exact this
  ·cases hf
 ·cases hf
  exact qfi m h hb
theorem qfr (m:MInv P C ω w0 C0 hp w):∀ {xs xs':List AVal} {vs:List Value},yz hp xs=some xs'→RepL C xs vs→qo 0 xs'=true→RepL (.iso (jm C hp w)) xs' vs
 | [],xs',vs,hf,h,_=>by
  simp only[yz,Option.some.injEq]at hf
  subst hf
  cases h
  exact .nil
 |x::xs,xs',vs,hf,h,hb=>by
  simp only[yz]at hf
  split at hf
  ·rename_i y hy
   split at hf
   ·rename_i ys hys
    cases hf
    simp only[qo,Bool.and_eq_true]at hb
    cases h with
    |cons _ _ v vs hx h=>exact .cons _ _ _ _ (qfk m hy hx hb.1) (qfr m hys h hb.2)
   ·cases hf
  ·cases hf
theorem qfo (m:MInv P C ω w0 C0 hp w):∀ {xs xs':List AVal} {vs:List Value},freezeR.freezeT hp xs=some xs'→RepL C xs vs→qo 0 xs'=true→RepL (.iso (jm C hp w)) xs' vs
 | [],xs',vs,hf,h,_=>by
  simp only[freezeR.freezeT,Option.some.injEq]at hf
  subst hf
  cases h
  exact .nil
 |x::xs,xs',vs,hf,h,hb=>by
  cases h with
  |cons _ _ v vs hx h=>
   unfold freezeR.freezeT at hf
   split at hf
   ·cases ‹_::_=[]›
   ·rename_i cs vs' heq
    cases heq
    split at hf
    ·rename_i y hy
     split at hf
     ·rename_i ys hys
      cases hf
      simp only[qo,below,Bool.and_eq_true]at hb
      obtain⟨us,rfl,hu⟩:=Rep.agg_inv hx
      exact .cons _ _ _ _ (.agg _ _ (qfr m hy hu hb.1)) (qfo m hys h hb.2)
     ·cases hf
    ·cases hf
   ·rename_i heq
    cases heq
    split at hf
    ·rename_i y hy
     split at hf
     ·rename_i ys hys
      cases hf
      simp only[qo,Bool.and_eq_true]at hb
      exact .cons _ _ _ _ (qfk m hy hx hb.1) (qfo m hys h hb.2)
     ·cases hf
    ·cases hf
theorem qpm (m:MInv P C ω w0 C0 hp w){x x' v}(hf:freezeR hp x=some x')(h:Rep C x v)(hb:below 0 x'=true):Rep (.iso (jm C hp w)) x' v:=by
 unfold freezeR at hf
 split at hf
 ·split at hf
  ·rename_i ys hys
   cases hf
   obtain⟨us,rfl,hu⟩:=h.agg_inv
   exact .agg _ _ (qfr m hys hu (by simpa[below]using hb))
  ·cases hf
 ·split at hf
  ·rename_i ys hys
   cases hf
   cases h with
   |tup _ vs hu=>exact .tup _ _ (qfo m hys hu (by simpa[below]using hb))
  ·cases hf
 ·exact qfk m hf h hb
end
def qjg:jo→Exit
 | .normal=>.normal
 | .exit id=>.exit id
 | .ret=>.ret
def yc (ρ:Option Nat):Fence:={ Fence.wide with round:=ρ }
theorem qj3 {ρ n P f args w R}:CallsIn (yc ρ) n P f args w R↔CallsIn Fence.wide n P f args w R:=Iff.rfl
def Marks (C:Ctx)(B:Nat)(ds:List Deferred):Prop:=∃rs:List Nat,ds=rs.map (fun r=>{ target:=.collected r,args:=#[] })∧rs.Nodup∧∀r∈rs,C.D r∧B≤r
theorem Marks.mono {C C' B ds}(h:Marks C B ds)(hle:C.le C'):Marks C' B ds:=
 let ⟨rs,h1,h2,h3⟩:=h; ⟨rs,h1,h2,fun r hr=>⟨hle.d r (h3 r hr).1,(h3 r hr).2⟩⟩
theorem Marks.nil {C B}:Marks C B []:=⟨[],rfl,List.nodup_nil,by simp⟩
def CodeOk (P:Program)(xc:XC):Prop:=
 ∀(ρ:Option Nat) (nt:Nat) (c:Code) (ca:ACode) (st st':ASt) (x:jo),qou P nt c ca→(ρ≠none→jr ca=true)→xc ca st=some (x,st') →
  ∀(C:Ctx) (ω:Nat→Option Loc) (w0:World) (C0:Ctx) (a:Act) (w:World),MInv P C ω w0 C0 st.heap w→EnvRel C ω w w0.heap.size st.env a.tmps→a.tmps.size=nt→Marks C w0.heap.size a.defers →
   c.wpIn (yc ρ) 0 P (fun e a' w'=>e=qjg x∧a'.tmps.size=nt∧∃C' ω',C.le C'∧Marks C' w0.heap.size a'.defers∧MInv P C' ω' w0 C0 st'.heap w'∧EnvRel C' ω' w' w0.heap.size st'.env a'.tmps) a w
def IsoCall (P:Program)(k:Nat)(args:List AVal)(v:AVal)(ow:Bool):Prop:=
 ∀(K:Nat→Nat→Option Value) (w:World) (vs:List Value),Tabs P w →
  (∀r o u,K r o=some u→w.cell? ⟨r,o,none⟩=some u)→(∀r o u,K r o=some u→u.oneCell'=true)→RepL (.iso K) args vs →
  CallsIn Fence.wide 0 P k ⟨vs⟩ w fun e w'=>∃u K',e=.returned u∧Ext w w'∧(∀r o x,K r o=some x→K' r o=some x)∧(∀r o,r<w.heap.size→K' r o=K r o) ∧
   (∀r o x,K' r o=some x→w'.cell? ⟨r,o,none⟩=some x)∧(∀r o x,K' r o=some x→x.oneCell'=true)∧Rep (.iso K') v u ∧
   (ow=true→∃ℓ ω',OwnV (.iso K') ω' w' w.heap.size ℓ v u)
def Enters (P : Program) (k : Nat) : Prop := ∃ fn, P.funcs[k]? = some fn ∧ fn.name ≠ "runtime.NumGoroutine" ∧ fn.body.isSome
def qri (P:Program)(k:Nat)(args:List AVal)(h:qi)(v:AVal)(ow:Bool)(h':qi):Prop:=
 ∀(C:Ctx) (ω:Nat→Option Loc) (w:World) (vs:List Value),RepL C args vs→MInv P C ω w C h w →
  CallsIn Fence.wide 0 P k ⟨vs⟩ w fun e w'=>∃u C' ω',e=.returned u∧C.le C'∧MInv P C' ω' w C h' w'∧Rep C' v u∧(ow=true→OwnV C' ω' w' w.heap.size (.slot 0) v u)
def qk9 (P:Program)(k:Nat)(es:List (AVal×AVal)):Prop:=
 ∀(K:Nat→Nat→Option Value) (w:World),Tabs P w →
  (∀r o u,K r o=some u→w.cell? ⟨r,o,none⟩=some u)→(∀r o u,K r o=some u→u.oneCell'=true) →
  CallsIn Fence.wide 0 P k ⟨[]⟩ w fun e w'=>∃q K' ents clock,e=.returned (.map (some q))∧Ext w w'∧(∀r o x,K r o=some x→K' r o=some x)∧(∀r o,r<w.heap.size→K' r o=K r o) ∧
   (∀r o x,K' r o=some x→w'.cell? ⟨r,o,none⟩=some x)∧(∀r o x,K' r o=some x→x.oneCell'=true)∧w.heap.size≤q∧w'.heap[q]?=some (.map ents clock)∧RepE (.iso K') es ents.toList
structure ProgOk (P:Program)(p:je):Prop where
 fn:∀k f,p.fns k=some f→∃fn h,P.funcs[k]?=some fn∧qn9 P h fn=some f
 prim:∀k f,p.prims k=some f→Enters P k∧∀args v o,f args=some (v,o)→qa0 v=true→qo 0 args=true→IsoCall P k args v o
 mixed:P.follows .mixedOrders=true
 sprim:∀k f,p.sprims k=some f→Enters P k∧∀args h v o h',f args h=some (v,o,h')→qri P k args h v o h':=by intro k f h;cases h
 maps:∀k es,p.maps k=some es→Enters P k∧qk9 P k es:=by intro k f h;cases h
theorem qn5 {P h fn f} (hc : qn9 P h fn = some f) : ∃ c, fn.body = some c ∧ ye P h fn.ntmps c = some f.body ∧ qgq P fn.results.toList = some f.results ∧ f.ntmps = fn.ntmps ∧ fn.name ≠ "runtime.NumGoroutine" := by
 unfold qn9 at hc
 split at hc
 ·rename_i c hb
  split at hc
  ·rename_i b rs h1 h2
   split at hc
   ·cases hc
   ·rename_i hn
    cases hc
    exact⟨c,hb,h1,h2,rfl,by simpa using hn⟩
  ·cases hc
 ·cases hc
theorem ProgOk.enters {P p}(h:ProgOk P p){k f}(hf:p.fns k=some f):Enters P k:=by
 obtain⟨fn,hh,h1,h2⟩:=h.fn k f hf
 obtain⟨c,hb,_,_,_,hn⟩:=qn5 h2
 exact⟨fn,h1,hn,by simp[hb]⟩
theorem qh3 {P k}(h:Enters P k)(args:Array Value)(w:World):(callFunc k args).run P w=.ok (.enter k args) w:=by
 obtain⟨fn,h1,h2,h3⟩:=h
 simp[callFunc,h1,h2,Option.isNone_iff_eq_none,Option.isSome_iff_ne_none.1 h3]
section
variable {P:Program}{p:je}{xc:XC}{C C0:Ctx}{ω:Nat→Option Loc}{w w0:World}{hp:qi}{env:Env}{tmps:Array Value}{B:Nat}{a:Act}{o:Oper}{d:Loc}
theorem qiy:∀ {args:List AVal} {i s:Nat} {x:AVal×Bool},qv s (qbk i args)=some x→∃j,s=i+j∧args[j]?=some x.1∧x.2=false
 | [],_,_,_,h=>by simp[qbk,qv]at h
 |v::args,i,s,x,h=>by
  simp only[qbk,qv]at h
  cases hb:Nat.beq i s with
  |true=>
   simp only[hb,cond_true,Option.some.injEq]at h
   subst h
   exact⟨0,(Nat.eq_of_beq_eq_true hb).symm,rfl,rfl⟩
  |false=>
   simp only[hb,cond_false]at h
   obtain⟨j,h1,h2,h3⟩:=qiy h
   exact⟨j+1,by omega,by simpa using h2,h3⟩
theorem qq5 {r o v}(h:w.cell? ⟨r,o,none⟩=some v):∃cs t fr,w.heap[r]?=some (.cells cs t fr):=by
 unfold World.cell? at h
 split at h
 ·rename_i cs t fr hg;exact⟨cs,t,fr,hg⟩
 ·cases h
theorem MInv.other {D'}(m:MInv P C ω w0 C0 hp w){r w'}(hu:Upd w w' r)(hβ:∀b,C.β b≠some r)(hr:w0.heap.size≤r)(hnc:∀cs t fr,w.heap[r]?≠some (.cells cs t fr))(hD:∀k,D' k→C.D k∧k≠r)(h0:∀k,C0.D k→D' k):
  MInv P { C with D:=D' } ω w0 C0 hp w':=by
 have hown:∀ {B:Nat} {ℓ:Loc} {x:AVal} {v:Value},OwnV C ω w B ℓ x v→OwnV { C with D:=D' } ω w' B ℓ x v:=by
  intro B ℓ x v ho
  unfold OwnV at *
  split at ho
  ·obtain⟨h1,h2,h3,h4,h8,⟨cells,elem,h5,h6⟩,h7⟩:=ho
   refine⟨h1,h2,h3,h4,h8,⟨cells,elem,?_,h6⟩,h7⟩
   rw[hu.other _ (fun h=>hnc _ _ _ (h▸h5))]
   exact h5
  ·obtain⟨h1,h2,h3,h4,h8,⟨cells,elem,h5,h6⟩,h7⟩:=ho
   refine⟨h1,h2,h3,h4,h8,⟨cells,elem,?_,h6⟩,h7⟩
   rw[hu.other _ (fun h=>hnc _ _ _ (h▸h5))]
   exact h5
  ·trivial
 refine { base:=m.base,know:=?_,kone:=m.kone,apart:=m.apart,inj:=m.inj,lt:=?_,size:=?_,frame:=?_,dfr:=?_,os:=hu.os.trans m.os,output:=hu.output.trans m.output,fresh:=m.fresh,grown:=⟨m.grown.k,m.grown.b,m.grown.w,h0,m.grown.t⟩,old:=m.old,box:=?_,tlt:=fun q hq=>by rw[hu.size];exact m.tlt q hq }
 ·intro k p v hk
  have hc:=m.know _ _ _ hk
  have hne:k≠r:=fun h=>by
   obtain⟨cs,t,fr,hg⟩:=qq5 hc
   exact hnc cs t fr (h▸hg)
  simp only[World.cell?]at hc ⊢
  rw[hu.other k hne];exact hc
 ·intro b p hb
  rw[hu.size];exact m.lt b p hb
 ·rw[hu.size];exact m.size
 ·intro k hk hn hw
  rw[hu.other k (by omega)];exact m.frame k hk hn hw
 ·intro k hk
  obtain⟨h1,h2⟩:=hD k hk
  rw[hu.other k h2];exact m.dfr k h1
 ·intro b x p hx hb
  refine BoxRel.imp (C:=C) (C':={ C with D:=D' }) ⟨fun _ _ _ h=>h,fun _ _ h=>h⟩ (hu.other p (fun h=>hβ b (h▸hb))) (fun j y v ho=>hown ho) (m.box b x p hx hb) (hq:=fun q n cap k=>by
   obtain⟨_,_,_,_,_,⟨cells,elem,h5,_⟩,_⟩:=k
   exact hu.other q (fun h=>hnc _ _ _ (h▸h5)))
theorem OwnV.other' {D' r w'}(hu:Upd w w' r)(hnc:∀cs t fr,w.heap[r]?≠some (.cells cs t fr)){ℓ x v}(ho:OwnV C ω w B ℓ x v):OwnV { C with D:=D' } ω w' B ℓ x v:=by
 unfold OwnV at *
 split at ho
 ·obtain⟨h1,h2,h3,h4,h8,⟨cells,elem,h5,h6⟩,h7⟩:=ho
  refine⟨h1,h2,h3,h4,h8,⟨cells,elem,?_,h6⟩,h7⟩
  rw[hu.other _ (fun h=>hnc _ _ _ (h▸h5))]
  exact h5
 ·obtain⟨h1,h2,h3,h4,h8,⟨cells,elem,h5,h6⟩,h7⟩:=ho
  refine⟨h1,h2,h3,h4,h8,⟨cells,elem,?_,h6⟩,h7⟩
  rw[hu.other _ (fun h=>hnc _ _ _ (h▸h5))]
  exact h5
 ·trivial
theorem Rep.sameD {D' x v}(h:Rep C x v):Rep { C with D:=D' } x v:=RepI.imp (C:=C) (C':={ C with D:=D' }) ⟨fun _ _ _ h=>h,fun _ _ h=>h⟩ h
theorem EnvRel.other' {D' r w'}(hu:Upd w w' r)(hnc:∀cs t fr,w.heap[r]?≠some (.cells cs t fr))(e:EnvRel C ω w B env tmps):EnvRel { C with D:=D' } ω w' B env tmps:=
 fun s x hs=>let ⟨v,h1,h2,h3⟩:=e s x hs; ⟨v,h1,Rep.sameD h2,fun h=>(h3 h).other' hu hnc⟩
theorem qly {fn R}:∀(rs:List Nat) (C':Ctx) (w:World),C.le C'→MInv P C' ω w0 C hp w→EnvRel C' ω w w0.heap.size env tmps→rs.Nodup→(∀r∈rs,C'.D r∧w0.heap.size≤r)→(∀k,C.D k→k<w0.heap.size) →
  (∀(C2:Ctx) (w2:World),C.le C2→C2.D=C.D→MInv P C2 ω w0 C hp w2→EnvRel C2 ω w2 w0.heap.size env tmps→∃v,(results fn tmps).run P w2=.ok v w2∧R (.returned v) w2) →
  LeavesInM Fence.wide 0 P fn tmps R (rs.map fun r=>{ target:=.collected r,args:=#[] }) .returning w
 | [],C',w,hle,m,e,_,_,hD,hres=>by
  have hr0:∀ {k},C.D k→C'.D k:=fun h=>hle.d _ h
  -- the marks are forgotten
  have m2:MInv P { C' with D:=C.D } ω w0 C hp w:={ m with
   dfr:=fun r hr=>m.dfr r (hr0 hr)
   grown:=⟨m.grown.k,m.grown.b,m.grown.w,fun _ h=>h,m.grown.t⟩
   box:=fun b x r hx hb=>BoxRel.imp (C:=C') (C':={ C' with D:=C.D }) ⟨fun _ _ _ h=>h,fun _ _ h=>h⟩ rfl (fun j y v ho=>ho) (m.box b x r hx hb) }
  have e2:EnvRel { C' with D:=C.D } ω w w0.heap.size env tmps:=fun s x hs=>let ⟨v,h1,h2,h3⟩:=e s x hs; ⟨v,h1,Rep.sameD h2,h3⟩
  exact hres { C' with D:=C.D } w ⟨hle.k,hle.b,hle.w,fun _ h=>h,hle.t⟩ rfl m2 e2
 |r::rs,C',w,hle,m,e,hnd,hrs,hD,hres=>by
  obtain⟨hDr,hBr⟩:=hrs r (by simp)
  have hg:=m.dfr r hDr
  have hlt:=(Array.getElem?_eq_some_iff.1 hg).1
  have hnc:∀cs t fr,w.heap[r]?≠some (.cells cs t fr):=fun cs t fr h=>by rw[hg]at h;cases h
  have hu:Upd w (zm w r (.deferred none)) r:=qcb hlt (by simp)
  have hβ:∀b,C'.β b≠some r:=by
   intro b hb
   obtain⟨x,hx⟩:=List.getElem?_eq_getElem (m.lt b r hb).2▸(⟨_,rfl⟩:∃x,some (hp[b]'(m.lt b r hb).2)=some x)
   have h0:=m.box b x r hx hb
   cases x with
   |hole=>exact h0
   |cells cs=>obtain⟨vs,elem,h1,_⟩:=h0;rw[hg]at h1;cases h1
   |map es=>obtain⟨ents,clock,h1,_⟩:=h0;rw[hg]at h1;cases h1
   |iter s pos=>have h1:w.heap[r]?=_:=h0;rw[hg]at h1;cases h1
   |loop l=>obtain⟨lp,h1,_⟩:=h0;rw[hg]at h1;cases h1
   |bld t e l=>obtain⟨p,v,h1,_⟩:=h0;rw[hg]at h1;cases h1
   |dead=>obtain⟨cs,t,h1⟩:=h0;rw[hg]at h1;cases h1
   |vec sz ver xs=>obtain⟨_,_,_,_,_,_,cs,t,h1⟩:=h0;rw[hg]at h1;cases h1
  have hrun:(Instr.takeDeferred r).run P w=.ok [] (zm w r (.deferred none)):=by
   have hs:=kw (P:=P) (x:=.deferred none) hg (by simp)
   simp only[Instr.takeDeferred,Sem.run_bind,yj hg (by simp),Result.andThen_ok,hs,Sem.run_pure]
  refine⟨by simp,.inl ⟨r,_,rfl,hrun,?_⟩⟩
  have hnd':=List.nodup_cons.1 hnd
  have m2:=m.other (D':=fun k=>C'.D k∧k≠r) hu hβ hBr hnc (fun k h=>h) (fun k h=>⟨hle.d k h,fun hk=>by have:=hD k h;omega⟩)
  exact qly rs { C' with D:=fun k=>C'.D k∧k≠r } _ ⟨hle.k,hle.b,hle.w,fun k h=>⟨hle.d k h,fun hk=>by have:=hD k h;omega⟩,hle.t⟩ m2 (e.other' hu hnc) hnd'.2
   (fun k hk=>⟨⟨(hrs k (by simp[hk])).1,fun h=>hnd'.1 (h▸hk)⟩,(hrs k (by simp[hk])).2⟩) hD hres
theorem qpv (hx:CodeOk P xc){k fn h f}(hfn:P.funcs[k]?=some fn)(hc:qn9 P h fn=some f){args v ow h'}(hr:ki xc f args hp=some (v,ow,h')){vs}(hargs:RepL C args vs)(m:MInv P C ω w C hp w):
  CallsIn Fence.wide 0 P k ⟨vs⟩ w fun e w'=>∃u C' ω',e=.returned u∧C.le C'∧MInv P C' ω' w C h' w'∧Rep C' v u∧(ow=true→OwnV C' ω' w' w.heap.size (.slot 0) v u):=by
 obtain⟨c,hb,h1,h2,h3,_⟩:=qn5 hc
 unfold ki at hr
 have hD:∀k,C.D k→k<w.heap.size:=fun k hk=>(Array.getElem?_eq_some_iff.1 (m.dfr k hk)).1
 cases hle:Nat.ble args.length f.ntmps with
 |false=>simp[hle]at hr
 |true=>
  simp only[hle,cond_true]at hr
  have hlen:=Nat.le_of_ble_eq_true hle
  have hvl:=hargs.length
  refine callsIn_of_wp_marks hfn hb trivial ?_
  have hsz:((⟨vs⟩:Array Value)++Array.replicate (fn.ntmps-(⟨vs⟩:Array Value).size) undef).size=fn.ntmps:=by
   simp;omega
  have henv:EnvRel C ω w w.heap.size (qbk 0 args) ((⟨vs⟩:Array Value)++Array.replicate (fn.ntmps-(⟨vs⟩:Array Value).size) undef):=by
   intro s x hx
   obtain⟨j,rfl,hj,hf⟩:=qiy hx
   obtain⟨u,k1,k2⟩:=hargs.get hj
   have hlt:j<vs.length:=(List.getElem?_eq_some_iff.1 k1).1
   refine⟨u,?_,k2,by simp[hf]⟩
   rw[Nat.zero_add,Array.getElem?_append_left (by simpa using hlt)]
   simpa using k1
  have fin:∀(st:ASt) (a':Act) (w':World) (C':Ctx) (ω':Nat→Option Loc),C.le C'→Marks C' w.heap.size a'.defers→MInv P C' ω' w C st.heap w'→EnvRel C' ω' w' w.heap.size st.env a'.tmps →
    (match zp st f.results with
     |some xs=>some ((jc xs).1,(jc xs).2,zu st f.results)
     |none=>none)=some (v,ow,h') →
    LeavesInM Fence.wide 0 P fn a'.tmps (fun e w'=>∃u C' ω',e=.returned u∧C.le C'∧MInv P C' ω' w C h' w'∧Rep C' v u∧(ow=true→OwnV C' ω' w' w.heap.size (.slot 0) v u)) a'.defers .returning w':=by
   intro st a' w' C' ω' hle ⟨rs,hds,hnd,hrs⟩ m' e' hr
   rw[hds]
   refine qly (C:=C) (ω:=ω') (w0:=w) (hp:=st.heap) (env:=st.env) rs C' w' hle m' e' hnd hrs hD ?_
   intro C2 w2 hle2 _ m2 e2
   split at hr
   ·rename_i xs hxs
    cases hr
    obtain⟨u,ω2,k1,k2,k3,k4⟩:=qqa (fn:=fn) m2 e2 h2 hxs
    exact⟨u,k1,u,C2,ω2,rfl,hle2,k2,k3,k4⟩
   ·cases hr
  split at hr
  ·rename_i st hst
   refine wpIn_mono (hx none fn.ntmps c f.body _ _ _ ⟨h,h1⟩ (fun h=>absurd rfl h) hst C ω w C _ w m henv hsz Marks.nil) ?_
   rintro e a' w' ⟨rfl,q1,C',ω',q3,q2,q4,q5⟩
   exact fin st a' w' C' ω' q3 q2 q4 q5 hr
  ·rename_i st hst
   refine wpIn_mono (hx none fn.ntmps c f.body _ _ _ ⟨h,h1⟩ (fun h=>absurd rfl h) hst C ω w C _ w m henv hsz Marks.nil) ?_
   rintro e a' w' ⟨rfl,q1,C',ω',q3,q2,q4,q5⟩
   exact fin st a' w' C' ω' q3 q2 q4 q5 hr
  ·cases hr
theorem qog {K}(ht:Tabs P w)(h1:∀r o u,K r o=some u→w.cell? ⟨r,o,none⟩=some u)(h2:∀r o u,K r o=some u→u.oneCell'=true):MInv P (.iso K) (fun _=>none) w (.iso K) [] w where
 base:=⟨ht,fun g _=>⟨fun b h=>(by cases h),fun h=>h⟩⟩
 know:=h1
 kone:=h2
 apart:=by simp[Ctx.iso]
 inj:=by simp[Ctx.iso]
 lt:=by simp[Ctx.iso]
 size:=Nat.le_refl _
 frame _ _ _ _:=rfl
 dfr _ h:=h.elim
 os:=rfl
 output:=rfl
 fresh:=by simp[Ctx.iso]
 grown:=Ctx.le_refl _
 old _ _ _ _:=rfl
 box:=by simp
 tlt _ h:=h.elim
theorem qfh (hp:ProgOk P p)(hx:CodeOk P xc){k args h h' v ow}(hr:jq p xc k args h=some (v,ow,h')):Enters P k∧qri P k args h v ow h':=by
 unfold jq at hr
 split at hr
 ·rename_i f hf
  obtain⟨fn,hh,hfn,hcf⟩:=hp.fn k f hf
  exact⟨hp.enters hf,fun C ω w vs hargs m=>qpv hx hfn hcf hr hargs m⟩
 ·split at hr
  ·rename_i f hf
   obtain⟨he,hs⟩:=hp.sprim k f hf
   exact⟨he,hs _ _ _ _ _ hr⟩
  ·cases hr
theorem RepE.iso {es ms}(h:RepE C es ms):y8 0 es=true→RepE (.iso C.K) es ms:=by
 induction h with
 |nil=>exact fun _=>.nil
 |cons k v es m ms hk hv _ ih=>
  intro hb
  simp only[y8,Bool.and_eq_true]at hb
  exact .cons _ _ _ _ _ (RepI.shift (C:=C) (C':=.iso C.K) 0 (fun _ _ _ h=>h) (fun b r hlt=>by omega) hk hb.1.1) (RepI.shift (C:=C) (C':=.iso C.K) 0 (fun _ _ _ h=>h) (fun b r hlt=>by omega) hv hb.1.2) (ih hb.2)
theorem qsj (hp:ProgOk P p)(hx:CodeOk P xc){k b ow h1 es}(hr:jq p xc k [] []=some (.map b,ow,h1))(hb:h1[b]?=some (.map es))(he:y8 0 es=true):Enters P k∧qk9 P k es:=by
 obtain⟨hen,hshr⟩:=qfh hp hx hr
 refine⟨hen,fun K w ht g1 g2=>?_⟩
 refine CallsIn.mono (hshr _ _ _ [] .nil (qog (P:=P) ht g1 g2)) ?_
 rintro e w' ⟨u,C',ω',rfl,hle,m',hrep,_⟩
 cases hrep with
 |map _ q hq=>
  obtain⟨ents,clock,k1,k2⟩:=m'.box b _ q hb hq
  refine⟨q,C'.K,ents,clock,rfl,⟨m'.size,fun r hr=>m'.frame r hr (by simp[Ctx.iso]) (by simp[Ctx.iso]),m'.os,m'.output⟩,hle.1,fun r o hr=>m'.old r o hr (by simp[Ctx.iso]),m'.know,m'.kone,?_,k1,k2.iso he⟩
  rcases m'.fresh b q hq with h|h|h
  ·cases h
  ·exact h
  ·exact h.elim
theorem qd4 (hp:ProgOk P p)(hx:CodeOk P xc){k args v ow}(hr:qd p xc k args=some (v,ow))(hb:qo 0 args=true):Enters P k∧qa0 v=true∧IsoCall P k args v ow:=by
 unfold qd at hr
 split at hr
 ·rename_i f hf
  obtain⟨he,hprim⟩:=hp.prim k f hf
  split at hr
  ·rename_i v' o' hfv
   cases hpv:qa0 v' with
   |false=>simp[hpv]at hr
   |true=>
    simp only[hpv,cond_true]at hr
    cases hr
    exact⟨he,hpv,hprim args _ _ hfv hpv hb⟩
  ·cases hr
 ·split at hr
  ·rename_i v0 o' h' hfv
   split at hr
   ·rename_i v' hfz
    cases hpv:qa0 v' with
    |false=>simp[hpv]at hr
    |true=>
     simp only[hpv,cond_true]at hr
     cases hr
     obtain⟨hen,hshr⟩:=qfh hp hx hfv
     ·refine⟨hen,hpv,?_⟩
      intro K w vs ht h1 h2 hargs
      have:=hshr _ _ _ _ hargs (qog (P:=P) ht h1 h2)
      refine CallsIn.mono this ?_
      rintro e w' ⟨u,C',ω',rfl,hle,m',hrep,hown⟩
      refine⟨u,jm C' h' w',rfl,?_,fun r o x hr=>qcj m' (hle.1 r o x hr),fun r o hr=>?_,fun r o x hr=>(qcv m' hr).1,fun r o x hr=>(qcv m' hr).2,qpm m' hfz hrep hpv,?_⟩
      ·exact⟨m'.size,fun r hr=>m'.frame r hr (by simp[Ctx.iso]) (by simp[Ctx.iso]),m'.os,m'.output⟩
      ·have hold:=m'.old r o hr (by simp[Ctx.iso])
       unfold jm
       rw[if_neg]
       ·exact hold
       intro hh
       have:=quk hle.w m' hh
       omega
      ·intro ho
       simp only[Bool.and_eq_true]at ho
       have hℓ:=hown ho.1
       refine⟨.slot 0,ω',?_⟩
       cases v0 with
       |list n sz xs=>
        have hvv:v=.list n sz xs:=by
         simp only[freezeR,yv,Option.some.injEq]at hfz
         exact hfz.symm
        subst hvv
        unfold OwnV at *
        split at hℓ
        ·obtain⟨g1,g2,g3,g4,g5,g6,g7⟩:=hℓ
         refine⟨g1,.inl (g2.resolve_right (by rw[hle.w];exact fun h=>h)),by simp[Ctx.iso],g4,g5,g6,fun o ho'=>?_⟩
         show jm C' h' w' _ o=none
         unfold jm
         rw[if_neg]
         ·exact g7 o ho'
         ·rintro (⟨b,hb⟩|hh)
          ·exact g3 b hb
          ·rcases hh.is m' with⟨b,hb⟩|⟨b,_,_,_,_,_,_,h2⟩
           ·exact g3 b hb
           ·have:=h2.1;rw[g1]at this;simp at this
        all_goals trivial
       |_=>exact absurd ho.2 (by simp[AVal.isList])
   ·cases hr
  ·cases hr
end
section
variable {P:Program}{p:je}{xc:XC}{C C0 C1:Ctx}{ω ω1:Nat→Option Loc}{w w' w0:World}{hp h1:qi}{env:Env}{tmps:Array Value}{B:Nat}{a:Act}{o:Oper}{d:Loc}
theorem OwnV.grow {K' ℓ x v}(hx:Ext w w')(hK:∀r o,r<w.heap.size→K' r o=C.K r o)(ho:OwnV C ω w B ℓ x v):OwnV { C with K:=K' } ω w' B ℓ x v:=by
 unfold OwnV at *
 split at ho
 ·obtain⟨h1,h2,h3,h4,h8,⟨cells,elem,h5,h6⟩,h7⟩:=ho
  have hlt:=(Array.getElem?_eq_some_iff.1 h5).1
  exact⟨h1,h2,h3,h4,h8,⟨cells,elem,hx.get h5,h6⟩,fun o ho=>by
   show K' _ o=none
   rw[hK _ o hlt];exact h7 o ho⟩
 ·obtain⟨h1,h2,h3,h4,h8,⟨cells,elem,h5,h6⟩,h7⟩:=ho
  have hlt:=(Array.getElem?_eq_some_iff.1 h5).1
  exact⟨h1,h2,h3,h4,h8,⟨cells,elem,hx.get h5,h6⟩,fun o ho=>by
   show K' _ o=none
   rw[hK _ o hlt];exact h7 o ho⟩
 ·trivial
theorem MInv.iso {K'}(m:MInv P C ω w0 C0 hp w)(hx:Ext w w')(hle:∀r o x,C.K r o=some x→K' r o=some x)(hK:∀r o,r<w.heap.size→K' r o=C.K r o)(hk:∀r o x,K' r o=some x→w'.cell? ⟨r,o,none⟩=some x)(h1:∀r o x,K' r o=some x→x.oneCell'=true):
  MInv P { C with K:=K' } ω w0 C0 hp w' where
 base:=m.base
 know:=hk
 kone:=h1
 apart b r o hb:=by
  show K' r o=none
  rw[hK r o (m.lt b r hb).1];exact m.apart b r o hb
 inj:=m.inj
 lt b r hb:=⟨Nat.lt_of_lt_of_le (m.lt b r hb).1 hx.size,(m.lt b r hb).2⟩
 size:=Nat.le_trans m.size hx.size
 frame:=(m.ext hx).frame
 dfr:=(m.ext hx).dfr
 os:=(m.ext hx).os
 output:=(m.ext hx).output
 fresh:=m.fresh
 grown:=Ctx.le_trans m.grown ⟨hle,fun _ _ h=>h,rfl,fun _ h=>h,fun _ h=>h⟩
 old r o hr hw:=by
  show K' r o=_
  rw[hK r o (Nat.lt_of_lt_of_le hr m.size)];exact m.old r o hr hw
 box b x r hb hr:=by
  have h0:=m.box b x r hb hr
  -- in the new world first,then in the richer context
  cases x with
  |hole=>exact h0
  |cells cs=>
   obtain⟨vs,elem,g1,g2,g3⟩:=h0
   exact⟨vs,elem,hx.get g1,g2,fun j c hc=>let ⟨v,a,q,b,d⟩:=g3 j c hc; ⟨v,a,q,RepI.mono (C':={ C with K:=K' }) ⟨hle,fun _ _ h=>h,rfl,fun _ h=>h,fun _ h=>h⟩ b,fun e=>(d e).grow hx hK⟩⟩
  |map es=>obtain⟨ents,clock,g1,g2⟩:=h0;exact⟨ents,clock,hx.get g1,RepE.mono (C:=C) (C':={ C with K:=K' }) ⟨hle,fun _ _ h=>h,rfl,fun _ h=>h,fun _ h=>h⟩ g2⟩
  |iter s pos=>exact hx.get h0
  |loop l=>obtain⟨lp,g1,g2⟩:=h0;exact⟨lp,hx.get g1,LoopRep.mono (C:=C) (C':={ C with K:=K' }) ⟨hle,fun _ _ h=>h,rfl,fun _ h=>h,fun _ h=>h⟩ g2⟩
  |bld t e l=>obtain⟨p,v,g1,g2,g3,g4⟩:=h0;exact⟨p,v,hx.get g1,g2,g3,g4.grow hx hK⟩
  |dead=>obtain⟨cs,t,g1⟩:=h0;exact⟨cs,t,hx.get g1⟩
  |vec sz ver xs=>
   have hg:∀ {k:Nat} {c:Array Value} {t:TypeId},w.heap[k]?=some (.cells c t (0,0))→w'.heap[k]?=w.heap[k]?:=fun hk=>by rw[hx.get hk,hk]
   obtain⟨_,_,_,_,_,_,cs,t,g1⟩:=id h0
   refine VecRel.imp hle (fun _ h=>h) (fun _ h _=>h) (hg g1) (fun q n cap k=>⟨?_,k.grow hx hK⟩) h0
   obtain⟨_,_,_,_,_,⟨cells,elem,h5,_⟩,_⟩:=k
   exact hg h5
 tlt q hq:=Nat.lt_of_lt_of_le (m.tlt q hq) hx.size
theorem EnvRel.iso {K'}(e:EnvRel C ω w B env tmps)(hx:Ext w w')(hle:∀r o x,C.K r o=some x→K' r o=some x)(hK:∀r o,r<w.heap.size→K' r o=C.K r o):EnvRel { C with K:=K' } ω w' B env tmps:=
 fun s x hs=>let ⟨v,h1,h2,h3⟩:=e s x hs; ⟨v,h1,RepI.mono (C':={ C with K:=K' }) ⟨hle,fun _ _ h=>h,rfl,fun _ h=>h,fun _ h=>h⟩ h2,fun h=>(h3 h).grow hx hK⟩
theorem qpb (m:MInv P C ω w0 C0 hp w)(e:EnvRel C ω w w0.heap.size env tmps){v ow u K'}(hx:Ext w w')(hle:∀r o x,C.K r o=some x→K' r o=some x)(hK:∀r o,r<w.heap.size→K' r o=C.K r o)(hk:∀r o x,K' r o=some x→w'.cell? ⟨r,o,none⟩=some x)(h1:∀r o x,K' r o=some x→x.oneCell'=true)
  (hpv:qa0 v=true) (hr:Rep (.iso K') v u) (ho:ow=true→∃ℓ ω',OwnV (.iso K') ω' w' w.heap.size ℓ v u):jk P C0 w0 C tmps d env ⟨v,ow,none,hp⟩ u w':=by
 have m':=m.iso hx hle hK hk h1
 have e':=e.iso hx hle hK
 have hr':Rep { C with K:=K' } v u:=RepI.shift (C:=.iso K') (C':={ C with K:=K' }) 0 (fun _ _ _ h=>h) (fun b r hlt=>by omega) hr hpv
 have hle':C.le { C with K:=K' }:=⟨hle,fun _ _ h=>h,rfl,fun _ h=>h,fun _ h=>h⟩
 by_cases hkL:∃(n:Bool) (sz:Nat) (xs:List AVal) (ad:Addr) (len cap:Nat),v=.list n sz xs∧u=.slice (some ad) len cap∧ow=true
 ·obtain⟨n,sz,xs,ad,len,cap,rfl,rfl,rfl⟩:=hkL
  obtain⟨ℓ,ω',g1,g2',g3,g4,g5,g6,g7⟩:=ho rfl
  have g2:w.heap.size≤ad.block:=g2'.resolve_right (fun h=>h)
  have hbig:∀ℓ x v,OwnV C ω w w0.heap.size ℓ x v→OwnV { C with K:=K' } (own1 ω ad.block d) w' w0.heap.size ℓ x v:=fun ℓ x v h=>by
   have h2:=(h.fresh (ℓ':=d) g2).grow hx hK
   exact h2
  refine⟨{ C with K:=K' },own1 ω ad.block d,hle',?_,?_,hr',fun _=>?_⟩
  ·have:=(m.fresh1 ad.block d g2).iso hx hle hK hk h1
   exact this
  ·exact fun s x hs=>let ⟨v,h1,h2,h3⟩:=e s x hs; ⟨v,h1,RepI.mono hle' h2,fun h=>hbig _ _ _ (h3 h)⟩
  ·refine⟨by simp[own1],.inl (Nat.le_trans m.size g2),fun b hb=>?_,g4,g5,g6,g7⟩
   have:=(m.lt b _ hb).1
   omega
 by_cases hk2:∃(n:Nat) (ad:Addr),v=.pend n∧u=.pointer (some ad)∧ow=true
 ·obtain⟨n,ad,rfl,rfl,rfl⟩:=hk2
  obtain⟨ℓ,ω',g1,g2',g3,g4,g5,g6,g7⟩:=ho rfl
  have g2:w.heap.size≤ad.block:=g2'.resolve_right (fun h=>h)
  have hbig:∀ℓ x v,OwnV C ω w w0.heap.size ℓ x v→OwnV { C with K:=K' } (own1 ω ad.block d) w' w0.heap.size ℓ x v:=fun ℓ x v h=>by
   have h2:=(h.fresh (ℓ':=d) g2).grow hx hK
   exact h2
  refine⟨{ C with K:=K' },own1 ω ad.block d,hle',?_,?_,hr',fun _=>?_⟩
  ·have:=(m.fresh1 ad.block d g2).iso hx hle hK hk h1
   exact this
  ·exact fun s x hs=>let ⟨v,h1,h2,h3⟩:=e s x hs; ⟨v,h1,RepI.mono hle' h2,fun h=>hbig _ _ _ (h3 h)⟩
  ·refine⟨by simp[own1],.inl (Nat.le_trans m.size g2),fun b hb=>?_,g4,g5,g6,g7⟩
   have:=(m.lt b _ hb).1
   omega
 ·refine⟨{ C with K:=K' },ω,hle',m',e',hr',fun h=>?_⟩
  cases v with
  |list n sz xs=>
   cases u with
   |slice q len cap=>
    cases q with
    |some ad=>exact absurd ⟨_,_,_,_,_,_,rfl,rfl,h⟩ hkL
    |none=>trivial
   |_=>trivial
  |pend n=>
   cases u with
   |pointer q=>
    cases q with
    |some ad=>exact absurd ⟨_,_,rfl,rfl,h⟩ hk2
    |none=>trivial
   |_=>trivial
  |_=>trivial
theorem qu7 (m:MInv P C ω w0 C0 hp w)(e:EnvRel C ω w w0.heap.size env tmps){b q K' es ents clock}(hx:Ext w w')(hle:∀r o x,C.K r o=some x→K' r o=some x)(hK:∀r o,r<w.heap.size→K' r o=C.K r o)(hk:∀r o x,K' r o=some x→w'.cell? ⟨r,o,none⟩=some x)(h1:∀r o x,K' r o=some x→x.oneCell'=true)
  (hh:hp[b]?=some .hole) (hq:w.heap.size≤q) (hg:w'.heap[q]?=some (.map ents clock)) (hr:RepE (.iso K') es ents.toList):jk P C0 w0 C tmps d env ⟨.map b,false,none,hp.set b (.map es)⟩ (.map (some q)) w':=by
 have m':=m.iso hx hle hK hk h1
 have e':=e.iso hx hle hK
 have hle':C.le { C with K:=K' }:=⟨hle,fun _ _ h=>h,rfl,fun _ h=>h,fun _ h=>h⟩
 obtain⟨m2,e2,hle2⟩:=m'.boxAt e' hh hg (fun k hk=>by have:=(m.lt k q hk).1;omega) (Nat.le_trans m.size hq) (RepE.imp (C:=.iso K') (C':={ C with K:=K' }) ⟨fun _ _ _ h=>h,fun b r h=>by simp[Ctx.iso]at h⟩ hr)
 exact⟨_,ω,Ctx.le_trans hle' hle2,m2,e2,.map _ _ (by simp[Ctx.box]),by simp⟩
theorem qcu {C C' x v}(hp:kx x=true)(h:Rep C x v):Rep C' x v:=by
 cases x<;>simp only[kx,Bool.false_eq_true]at hp<;>cases h<;>constructor
theorem MInv.thaw (m:MInv P C ω w0 C0 hp w)(e:EnvRel C ω w w0.heap.size env tmps){b q K' cells}{t:TypeId}{cs}(hx:Ext w w')(hle:∀r o x,C.K r o=some x→K' r o=some x)(hK:∀r o,r<w.heap.size→K' r o=C.K r o)(hk:∀r o x,K' r o=some x→w'.cell? ⟨r,o,none⟩=some x)(h1:∀r o x,K' r o=some x→x.oneCell'=true)
  (hq:w.heap.size≤q) (hn:∀o,K' q o=none) (hh:hp[b]?=some .hole) (hg:w'.heap[q]?=some (.cells cells t (0,0))) (hl:cs.length≤cells.size)
  (hcs:∀(j:Nat) (c:AVal×Bool),cs[j]?=some c→∃v,cells[j]?=some v∧v.oneCell'=true∧Rep (({ C with K:=K' }:Ctx).box b q) c.1 v∧c.2=false):
  MInv P (({ C with K:=K' }:Ctx).box b q) ω w0 C0 (hp.set b (.cells cs)) w'∧EnvRel (({ C with K:=K' }:Ctx).box b q) ω w' w0.heap.size env tmps∧C.le (({ C with K:=K' }:Ctx).box b q):=by
 have m':=m.iso hx hle hK hk h1
 have hβ:=qdr m hh
 have hle1:C.le { C with K:=K' }:=⟨hle,fun _ _ h=>h,rfl,fun _ h=>h,fun _ h=>h⟩
 have hle2:({ C with K:=K' }:Ctx).le (({ C with K:=K' }:Ctx).box b q):=Ctx.box_le (C:={ C with K:=K' }) (r:=q) hβ
 have hle':=Ctx.le_trans hle1 hle2
 have hlt:b<hp.length:=(List.getElem?_eq_some_iff.1 hh).1
 have hq':∀k,C.β k≠some q:=fun k hk=>by have:=(m.lt k q hk).1;omega
 have hown:∀ℓ x v,OwnV C ω w w0.heap.size ℓ x v→OwnV (({ C with K:=K' }:Ctx).box b q) ω w' w0.heap.size ℓ x v:=fun ℓ x v h=>OwnV.grow (C:=C.box b q) hx hK (OwnV.box (.inl hq) h)
 refine⟨{ m' with apart:=?_,inj:=?_,lt:=?_,fresh:=?_,grown:=Ctx.le_trans m'.grown hle2,box:=?_ },?_,hle'⟩
 ·intro k r o hk
  simp only[Ctx.box]at hk
  split at hk
  ·cases hk;exact hn o
  ·exact m'.apart k r o hk
 ·intro k k' r hk hk'
  simp only[Ctx.box]at hk hk'
  split at hk<;>split at hk'
  ·rename_i h1 h2;rw[h1,h2]
  ·cases hk;exact absurd hk' (hq' k')
  ·cases hk';exact absurd hk (hq' k)
  ·exact m.inj k k' r hk hk'
 ·intro k r hk
  rw[List.length_set]
  simp only[Ctx.box]at hk
  split at hk
  ·rename_i h1;cases hk;subst h1;exact⟨(Array.getElem?_eq_some_iff.1 hg).1,hlt⟩
  ·exact m'.lt k r hk
 ·intro k r hk
  simp only[Ctx.box]at hk
  split at hk
  ·cases hk;exact .inr (.inl (Nat.le_trans m.size hq))
  ·exact m.fresh k r hk
 ·intro k y r hy hk
  simp only[Ctx.box]at hk
  split at hk
  ·rename_i h1
   subst h1
   cases hk
   rw[List.getElem?_set_self hlt]at hy
   cases hy
   refine⟨cells,t,hg,hl,fun j c hc=>?_⟩
   obtain⟨v,a1,a2,a3,a4⟩:=hcs j c hc
   exact⟨v,a1,a2,a3,fun h=>by rw[a4]at h;cases h⟩
  ·rename_i h1
   rw[List.getElem?_set_ne (Ne.symm h1)]at hy
   have h0:=m.box k y r hy hk
   cases y with
   |hole=>exact h0
   |cells cs=>
    obtain⟨vs,elem,g1,g2,g3⟩:=h0
    exact⟨vs,elem,hx.get g1,g2,fun j c hc=>let ⟨v,a,q,b,d⟩:=g3 j c hc; ⟨v,a,q,RepI.mono hle' b,fun e=>hown _ _ _ (d e)⟩⟩
   |map es=>obtain⟨ents,clock,g1,g2⟩:=h0;exact⟨ents,clock,hx.get g1,RepE.mono hle' g2⟩
   |iter s pos=>exact hx.get h0
   |loop l=>obtain⟨lp,g1,g2⟩:=h0;exact⟨lp,hx.get g1,LoopRep.mono hle' g2⟩
   |bld t e l=>obtain⟨p,v,g1,g2,g3,g4⟩:=h0;exact⟨p,v,hx.get g1,g2,g3,hown _ _ _ g4⟩
   |dead=>obtain⟨cs,t,g1⟩:=h0;exact⟨cs,t,hx.get g1⟩
   |vec sz ver xs=>
    have hg':∀ {k:Nat} {c:Array Value} {t:TypeId},w.heap[k]?=some (.cells c t (0,0))→w'.heap[k]?=w.heap[k]?:=fun hk=>by rw[hx.get hk,hk]
    obtain⟨_,_,_,_,_,_,cs,t,g1⟩:=id h0
    refine VecRel.imp hle (fun _ h=>h) (fun _ h _=>h) (hg' g1) (fun q n cap k'=>⟨?_,hown _ _ _ k'⟩) h0
    obtain⟨_,_,_,_,_,⟨cells,elem,h5,_⟩,_⟩:=k'
    exact hg' h5
 ·exact fun s y hy=>let ⟨v,h1,h2,h3⟩:=e s y hy; ⟨v,h1,RepI.mono hle' h2,fun h=>hown _ _ _ (h3 h)⟩
theorem MInv.noBox (m:MInv P C ω w0 C0 hp w){b x}(hh:hp[b]?=some .hole):MInv P C ω w0 C0 (hp.set b x) w:=by
 have hβ:=qdr m hh
 refine { m with lt:=fun k r hk=>by rw[List.length_set];exact m.lt k r hk,box:=fun k y r hy hk=>?_ }
 by_cases hkb:k=b
 ·subst hkb;rw[hβ]at hk;cases hk
 ·rw[List.getElem?_set_ne (Ne.symm hkb)]at hy
  exact m.box k y r hy hk
theorem qt2 (m:MInv P C ω w0 C0 hp w)(e:EnvRel C ω w w0.heap.size env tmps){v ow u h0 r res K'}(hx:Ext w w')(hle:∀r o x,C.K r o=some x→K' r o=some x)(hK:∀r o,r<w.heap.size→K' r o=C.K r o)(hk:∀r o x,K' r o=some x→w'.cell? ⟨r,o,none⟩=some x)(h1:∀r o x,K' r o=some x→x.oneCell'=true)
  (hr:Rep (.iso K') v u) (ho:ow=true→∃ℓ ω',OwnV (.iso K') ω' w' w.heap.size ℓ v u) (ht:qcf h0 hp r v ow=some res):jk P C0 w0 C tmps d env res u w':=by
 unfold qcf at ht
 split at ht
 ·rename_i sz _
  split at ht
  ·rename_i h' hn
   have hv:=qp ht
   obtain⟨hh,rfl⟩:=zj hn
   subst hv
   have hle':C.le { C with K:=K' }:=⟨hle,fun _ _ h=>h,rfl,fun _ h=>h,fun _ h=>h⟩
   refine⟨{ C with K:=K' },ω,hle',(m.iso hx hle hK hk h1).noBox hh,e.iso hx hle hK,RepI.shift (C:=.iso K') (C':={ C with K:=K' }) 0 (fun _ _ _ h=>h) (fun b r hlt=>by omega) hr (by rfl),fun h=>by simp at h⟩
  ·cases ht
 ·rename_i sz xs
  cases hb:(xs.flatMap AVal.flat).all kx with
  |false=>rw[hb]at ht;cases ht
  |true=>
   rw[hb]at ht
   simp only[cond_true]at ht
   split at ht
   ·rename_i h' hn
    have hv:=qp ht
    obtain⟨hh,rfl⟩:=zj hn
    subst hv
    obtain⟨ℓ,ω',ho⟩:=ho rfl
    cases hr with
    |lemp sz a hsp=>
     simp only[OwnV]at ho
     exact absurd ho.2.2.2.1 hsp
    |list sz _ q o cap hl hrow=>
     simp only[OwnV]at ho
     obtain⟨o1,o2,o3,_,o5,⟨cells,elem,o6,o7,_⟩,o8⟩:=ho
     subst o5
     have hq:w.heap.size≤q:=o2.resolve_right (fun h=>h)
     let K2:Nat→Nat→Option Value:=fun r o=>if r=q then none else K' r o
     have hK2:∀ {r o x},K2 r o=some x→K' r o=some x:=by
      intro r o x h
      simp only[K2]at h
      split at h
      ·cases h
      ·exact h
     have hle2:∀r o x,C.K r o=some x→K2 r o=some x:=by
      intro r o x h
      have hlt:r<w.heap.size:=by
       have:=m.know r o x h
       unfold World.cell? at this
       split at this
       ·rename_i c _ _ hc;exact(Array.getElem?_eq_some_iff.1 hc).1
       ·cases this
      have hne:r≠q:=by omega
      simp only[K2,if_neg hne]
      exact hle r o x h
     have hKk:∀r o,r<w.heap.size→K2 r o=C.K r o:=by
      intro r o hlt
      have hne:r≠q:=by omega
      simp only[K2,if_neg hne]
      exact hK r o hlt
     have hcells:=RepRow.cells hrow
     have hlen:(xs.flatMap AVal.flat).length≤cells.size:=by
      rcases Nat.eq_zero_or_pos (xs.flatMap AVal.flat).length with h0|h0
      ·omega
      ·obtain⟨y,hy⟩:∃y,(xs.flatMap AVal.flat)[(xs.flatMap AVal.flat).length-1]?=some y:=⟨_,List.getElem?_eq_getElem (by omega)⟩
       obtain⟨v,hv,_⟩:=RepC.get hcells hy
       have h3:=hk _ _ _ hv
       unfold World.cell? at h3
       rw[o6]at h3
       simp only[Option.isSome_none,Bool.false_eq_true,if_false]at h3
       have:=(Array.getElem?_eq_some_iff.1 h3).1
       omega
     obtain⟨m2,e2,l2⟩:=m.thaw e (b:=h0+r) (q:=q) (K':=K2) (cells:=cells) (t:=elem) (cs:=cellsOf (xs.flatMap AVal.flat)) hx hle2 hKk (fun r o x h=>hk r o x (hK2 h)) (fun r o x h=>h1 r o x (hK2 h)) hq (fun o=>by simp[K2]) hh o6 (by rw[show(cellsOf (xs.flatMap AVal.flat)).length=(xs.flatMap AVal.flat).length by simp[cellsOf]];exact hlen) (by
      intro j c hc
      simp only[cellsOf,List.getElem?_map,Option.map_eq_some_iff]at hc
      obtain⟨y,hy,rfl⟩:=hc
      obtain⟨v,hv,hyv⟩:=RepC.get hcells hy
      have h3:=hk _ _ _ hv
      unfold World.cell? at h3
      rw[o6]at h3
      simp only[Option.isSome_none,Bool.false_eq_true,if_false,Nat.zero_add]at h3
      exact⟨v,h3,h1 _ _ _ hv,qcu (List.all_eq_true.1 hb y (List.mem_of_getElem? hy)) hyv,rfl⟩)
     exact⟨_,ω,l2,m2,e2,.ms _ 0 _ q cap (by simp[Ctx.box]) hl,fun h=>by simp at h⟩
   ·cases ht
 ·cases ht
theorem qrz (m:MInv P C ω w0 C0 hp w){x x' v}(hf:qor hp x=some x')(h:Rep C x v)(hb:Abs.below 0 x'=true):Rep (.iso (jm C hp w)) x' v:=by
 unfold qor at hf
 split at hf
 ·rename_i b len
  split at hf
  ·rename_i cs hcs
   cases hc:(Nat.beq (len*(cs.length / len)) cs.length&&Nat.blt 0 (cs.length / len)&&cs.all (fun c=>kx c.1))with
   |false=>
    rw[hc,cond_false]at hf
    cases hl:Nat.beq len 0 with
    |false=>rw[hl]at hf;cases hf
    |true=>
     rw[hl]at hf
     have hl:=Nat.eq_of_beq_eq_true hl
     subst hl
     simp only[cond_true,Option.some.injEq]at hf
     subst hf
     obtain⟨r,cap,hbr,hle,rfl⟩:=h.ms_inv
     exact RepI.list (C:=.iso (jm C hp w)) 8 [] r 0 cap (Nat.zero_le _) (.rnil _ _ _)
   |true=>
    rw[hc]at hf
    simp only[cond_true,Option.some.injEq]at hf
    subst hf
    simp only[Bool.and_eq_true]at hc
    obtain⟨⟨c1,c2⟩,c3⟩:=hc
    have c1:=Nat.eq_of_beq_eq_true c1
    have c2:0<cs.length / len:=by simpa using c2
    obtain⟨r,cap,hbr,hle,rfl⟩:=h.ms_inv
    obtain⟨vs,elem,k1,k2,k3⟩:=m.box b _ r (ym hcs) hbr
    have hrow:RepRow (.iso (jm C hp w)) r (cs.length / len) (qaj (cs.length / len) len (cs.map (·.1))) 0:=by
     refine qgo c2 (by rw[List.length_map];exact c1.symm) (fun x hx=>?_) fun j x hx=>?_
     ·obtain⟨c,hc,rfl⟩:=List.mem_map.1 hx
      have:=List.all_eq_true.1 c3 c hc
      cases hq:c.1<;>rw[hq]at this<;>first|rfl|cases this
     ·rw[List.getElem?_map,Option.map_eq_some_iff]at hx
      obtain⟨c,hc,rfl⟩:=hx
      obtain⟨u,q1,q2,q3,_⟩:=k3 j c hc
      have hcell:w.cell? ⟨r,0+j,none⟩=some u:=by
       unfold World.cell?
       rw[k1]
       simp only[Option.isSome_none,Bool.false_eq_true,if_false,Nat.zero_add]
       exact q1
      exact⟨u,qfl hbr hcell q2,qcu (List.all_eq_true.1 c3 c (List.mem_of_getElem? hc)) q3⟩
    have:=RepI.list (C:=.iso (jm C hp w)) (cs.length / len) (qaj (cs.length / len) len (cs.map (·.1))) r 0 cap (by rw[qa4];exact hle) hrow
    rw[qa4]at this
    exact this
  ·cases hf
 ·cases hf
  exact qfi m h hb
theorem qi0 (m:MInv P C ω w0 C0 hp w):∀ {xs xs':List AVal} {vs:List Value},qca hp xs=some xs'→RepL C xs vs→qo 0 xs'=true→RepL (.iso (jm C hp w)) xs' vs
 | [],xs',vs,hf,h,_=>by
  simp only[qca,Option.some.injEq]at hf
  subst hf
  cases h
  exact .nil
 |x::xs,xs',vs,hf,h,hb=>by
  simp only[qca]at hf
  split at hf
  ·rename_i y ys h1 h2
   cases hf
   cases h with
   |cons _ _ v vs hx h=>
    simp only[qo,Bool.and_eq_true]at hb
    exact .cons _ _ _ _ (qrz m h1 hx hb.1) (qi0 m h2 h hb.2)
  ·cases hf
theorem qkc {C C' x v}(hp:qdi x=true)(h:Rep C x v):Rep C' x v:=by
 cases x with
 |agg cs=>
  obtain⟨vs,rfl,hl⟩:=h.agg_inv
  refine .agg _ _ ?_
  simp only[qdi]at hp
  clear h
  induction cs generalizing vs with
  |nil=>cases hl;exact .nil
  |cons c cs ih=>
   cases hl with
   |cons _ _ v vs hx hl=>
    simp only[List.all_cons,Bool.and_eq_true]at hp
    exact .cons _ _ _ _ (qcu hp.1 hx) (ih hp.2 vs hl)
 |_=>exact qcu hp h
theorem qwn {C C' x v}(h:Rep C x v):Rep C' (qif x) v:=by
 unfold qif
 cases hp:qdi x with
 |true=>exact qkc hp h
 |false=>exact .any _
theorem ql5 {C C'}:∀ {xs:List AVal} {vs:List Value},RepL C xs vs→RepL C' (xs.map qif) vs
 | [],_,h=>by cases h;exact .nil
 |x::xs,_,h=>by
  cases h with
  |cons _ _ v vs hx h=>exact .cons _ _ _ _ (qwn hx) (ql5 h)
open Classical in
theorem qu3 (m:MInv P C ω w0 C0 hp w)(e:EnvRel C ω w w0.heap.size env tmps){v v' ow ow' u K'}(hx:Ext w w')(hle:∀r o x,jm C hp w r o=some x→K' r o=some x)(hK:∀r o,r<w.heap.size→K' r o=jm C hp w r o)(hk:∀r o x,K' r o=some x→w'.cell? ⟨r,o,none⟩=some x)(h1:∀r o x,K' r o=some x→x.oneCell'=true)
  (hr:Rep (.iso K') v u) (ho:ow=true→∃ℓ ω',OwnV (.iso K') ω' w' w.heap.size ℓ v u) (ht:qrq v ow=some (v',ow')):jk P C0 w0 C tmps d env ⟨v',ow',none,hp⟩ u w':=by
 let K2:Nat→Nat→Option Value:=fun r o=>if Hid C hp r then none else K' r o
 have hK2:∀ {r o x},K2 r o=some x→K' r o=some x:=by
  intro r o x h
  simp only[K2]at h
  split at h
  ·cases h
  ·exact h
 have hle2:∀r o x,C.K r o=some x→K2 r o=some x:=by
  intro r o x h
  have hn:¬Hid C hp r:=by
   intro hh
   rw[qjm m hh o]at h;cases h
  simp only[K2,if_neg hn]
  exact hle r o x (qcj m h)
 have hKk:∀r o,r<w.heap.size→K2 r o=C.K r o:=by
  intro r o hlt
  by_cases hb:Hid C hp r
  ·simp only[K2,if_pos hb]
   exact(qjm m hb o).symm
  ·simp only[K2,if_neg hb]
   rw[hK r o hlt]
   unfold jm
   rw[if_neg hb]
 have fin:∀(hpv:qa0 v'=true) (hr':Rep (.iso K2) v' u) (ho':ow'=true→∃ℓ ω',OwnV (.iso K2) ω' w' w.heap.size ℓ v' u),jk P C0 w0 C tmps d env ⟨v',ow',none,hp⟩ u w':=fun hpv hr' ho'=>
  qpb m e hx hle2 hKk (fun r o x h=>hk r o x (hK2 h)) (fun r o x h=>h1 r o x (hK2 h)) hpv hr' ho'
 have below_plain:∀y,kx y=true→Abs.below 0 y=true:=fun y hy=>by cases y<;>first|rfl|cases hy
 have belows:∀ys:List AVal,ys.all kx=true→qo 0 ys=true:=by
  intro ys
  induction ys with
  |nil=>intro _;rfl
  |cons y ys ih=>
   intro h
   simp only[List.all_cons,Bool.and_eq_true]at h
   simp only[qo,Bool.and_eq_true]
   exact⟨below_plain y h.1,ih h.2⟩
 have below_A:∀y,qdi y=true→Abs.below 0 y=true:=fun y hy=>by
  cases y with
  |agg cs=>simp only[Abs.below];exact belows cs hy
  |_=>exact below_plain _ hy
 unfold qrq at ht
 split at ht
 ·rename_i sz xs
  cases hb:(xs.flatMap AVal.flat).all kx with
  |false=>rw[hb]at ht;cases ht
  |true=>
   rw[hb]at ht
   simp only[cond_true,Option.some.injEq,Prod.mk.injEq]at ht
   obtain⟨rfl,rfl⟩:=ht
   obtain⟨ℓ,ω',ho⟩:=ho rfl
   cases hr with
   |lemp sz a hsp=>
    simp only[OwnV]at ho
    exact absurd ho.2.2.2.1 hsp
   |list sz _ q o cap hl hrow=>
    simp only[OwnV]at ho
    obtain⟨o1,o2,o3,o4,o5,o6,o8⟩:=ho
    have hq:w.heap.size≤q:=o2.resolve_right (fun h=>h)
    have hnb:¬Hid C hp q:=by
     intro hh
     have:=qzi m hh
     omega
    have hKq:∀o,K2 q o=K' q o:=fun o=>by simp only[K2,if_neg hnb]
    have hcells:=RepRow.cells hrow
    have hrow':RepRow (.iso K2) q sz xs o:=by
     refine RepRow.of_cells (qjl fun j x hx=>?_) (RepRow.sized hrow)
     obtain⟨u,hu,hxu⟩:=RepC.get hcells hx
     exact⟨u,by rw[show(Ctx.iso K2).K=K2 from rfl,hKq];exact hu,qcu (List.all_eq_true.1 hb x (List.mem_of_getElem? hx)) hxu⟩
    refine fin ?_ (.list sz _ q o cap hl hrow') fun _=>⟨ℓ,ω',?_⟩
    ·show qa0 _=true
     unfold qa0
     have hbl:∀ys:List AVal,(ys.flatMap AVal.flat).all kx=true→qo 0 ys=true:=by
      intro ys
      induction ys with
      |nil=>intro _;rfl
      |cons y ys ih=>
       intro h
       rw[List.flatMap_cons,List.all_append,Bool.and_eq_true]at h
       simp only[qo,Bool.and_eq_true]
       exact⟨by rw[←qef];exact belows _ h.1,ih h.2⟩
     simp only[Abs.below]
     exact hbl xs hb
    ·simp only[OwnV]
     exact⟨o1,o2,o3,o4,o5,o6,fun o' ho'=>by rw[show(Ctx.iso K2).K=K2 from rfl,hKq];exact o8 o' ho'⟩
 ·simp only[Option.some.injEq,Prod.mk.injEq]at ht
  obtain⟨rfl,rfl⟩:=ht
  refine fin rfl ?_ (fun h=>by cases h)
  cases hr
  exact .lnil _
 ·rename_i vs _
  simp only[Option.some.injEq,Prod.mk.injEq]at ht
  obtain⟨rfl,rfl⟩:=ht
  obtain⟨us,rfl,hl⟩:=hr.tup_inv
  refine fin ?_ (.tup _ _ (ql5 hl)) (fun h=>by cases h)
  show Abs.below 0 _=true
  simp only[Abs.below]
  have:∀ys:List AVal,qo 0 (ys.map qif)=true:=by
   intro ys
   induction ys with
   |nil=>rfl
   |cons y ys ih=>
    simp only[List.map_cons,qo,Bool.and_eq_true]
    refine⟨?_,ih⟩
    unfold qif
    cases hp:qdi y with
    |true=>exact below_A y hp
    |false=>rfl
  exact this _
 ·cases hb:qdi v with
  |false=>rw[hb]at ht;cases ht
  |true=>
   rw[hb]at ht
   simp only[cond_true,Option.some.injEq,Prod.mk.injEq]at ht
   obtain⟨rfl,rfl⟩:=ht
   exact fin (below_A v hb) (qkc hb hr) (fun h=>by cases h)
def Ctx.shared (C:Ctx)(ω:Nat→Option Loc)(w0:World):Ctx:={ C with W:=fun r=>(∃b j,ω r=some (.cell b j))∧(w0.heap.size≤r∨C.W r) }
def y7 (ω:Nat→Option Loc):Nat→Option Loc:=fun r=>match ω r with
 |some (.cell b j)=>some (.cell b j)
 |_=>none
theorem OwnV.shared {b j x v}(ho:OwnV C ω w w0.heap.size (.cell b j) x v):OwnV (C.shared ω w0) (y7 ω) w w.heap.size (.cell b j) x v:=by
 unfold OwnV at *
 split at ho
 ·obtain⟨g1,g2,g3⟩:=ho
  exact⟨by simp[y7,g1],.inr ⟨⟨b,j,g1⟩,g2⟩,g3⟩
 ·obtain⟨g1,g2,g3⟩:=ho
  exact⟨by simp[y7,g1],.inr ⟨⟨b,j,g1⟩,g2⟩,g3⟩
 ·trivial
theorem qfj (m:MInv P C ω w0 C0 hp w):MInv P (C.shared ω w0) (y7 ω) w (C.shared ω w0) hp w where
 base:=⟨m.tabs,fun g hg=>by
  obtain⟨h1,h2⟩:=m.base.2 g hg
  have hlt:=(m.base.1 g hg).1
  refine⟨fun b hb=>?_,fun h=>?_⟩
  ·rcases m.fresh b g hb with h|h|h
   ·exact h1 b h
   ·omega
   ·exact h2 h
  ·rcases h.2 with h|h
   ·omega
   ·rw[m.grown.w]at h;exact h2 h⟩
 know:=m.know
 kone:=m.kone
 apart:=m.apart
 inj:=m.inj
 lt:=m.lt
 size:=Nat.le_refl _
 frame _ _ _ _:=rfl
 dfr:=m.dfr
 os:=rfl
 output:=rfl
 fresh _ _ h:=.inl h
 grown:=Ctx.le_refl _
 old _ _ _ _:=rfl
 box b x r hx hb:=BoxRel.imp (C:=C) (C':=C.shared ω w0) ⟨fun _ _ _ h=>h,fun _ _ h=>h⟩ rfl (fun _ _ _ ho=>ho.shared) (m.box b x r hx hb)
 tlt:=m.tlt
def yk (ω ω1:Nat→Option Loc)(n:Nat):Nat→Option Loc:=fun r=>match decide (r<n),ω r with
 |true,some (.slot s)=>some (.slot s)
 |_,_=>y7 ω1 r
def Ctx.back (C1 C:Ctx):Ctx:={ C1 with W:=C.W }
theorem qio (hle:(C.shared ω w0).le C1):C.le (C1.back C):=⟨hle.k,hle.b,rfl,hle.d,hle.t⟩
theorem OwnV.afterOld {s x v}(m1:MInv P C1 ω1 w (C.shared ω w0) h1 w')(ho:OwnV C ω w w0.heap.size (.slot s) x v):OwnV (C1.back C) (yk ω ω1 w.heap.size) w' w0.heap.size (.slot s) x v:=by
 unfold OwnV at *
 split at ho
 ·rename_i ad len cap
  obtain⟨g1,g2,g3,g4,g8,⟨cells,elem,g5,g6⟩,g7⟩:=ho
  have hlt:=(Array.getElem?_eq_some_iff.1 g5).1
  have hnw:¬(C.shared ω w0).W ad.block:=fun h=>by
   obtain⟨⟨b,j,h⟩,_⟩:=h
   rw[g1]at h;cases h
  refine⟨by simp[yk,hlt,g1],g2,fun b hb=>?_,g4,g8,⟨cells,elem,?_,g6⟩,fun o ho=>?_⟩
  ·rcases m1.fresh b _ hb with h|h|h
   ·exact g3 b h
   ·omega
   ·exact hnw h
  ·rw[m1.frame _ hlt g3 hnw];exact g5
  ·have:=m1.old _ o hlt hnw
   show C1.K _ o=none
   rw[this];exact g7 o ho
 ·rename_i ad
  obtain⟨g1,g2,g3,g4,g8,⟨cells,elem,g5,g6⟩,g7⟩:=ho
  have hlt:=(Array.getElem?_eq_some_iff.1 g5).1
  have hnw:¬(C.shared ω w0).W ad.block:=fun h=>by
   obtain⟨⟨b,j,h⟩,_⟩:=h
   rw[g1]at h;cases h
  refine⟨by simp[yk,hlt,g1],g2,fun b hb=>?_,g4,g8,⟨cells,elem,?_,g6⟩,fun o ho=>?_⟩
  ·rcases m1.fresh b _ hb with h|h|h
   ·exact g3 b h
   ·omega
   ·exact hnw h
  ·rw[m1.frame _ hlt g3 hnw];exact g5
  ·have:=m1.old _ o hlt hnw
   show C1.K _ o=none
   rw[this];exact g7 o ho
 ·trivial
theorem OwnV.afterNew {b j x v}(m:MInv P C ω w0 C0 hp w)(hW:C1.W=(C.shared ω w0).W)(ho:OwnV C1 ω1 w' w.heap.size (.cell b j) x v):OwnV (C1.back C) (yk ω ω1 w.heap.size) w' w0.heap.size (.cell b j) x v:=by
 unfold OwnV at *
 split at ho
 ·rename_i ad len cap
  obtain⟨g1,g2,g3⟩:=ho
  rw[hW]at g2
  refine⟨?_,?_,g3⟩
  ·unfold yk
   split
   ·rename_i s hlt hs
    have hlt:=of_decide_eq_true hlt
    rcases g2 with g2|⟨⟨b',j',g2⟩,_⟩
    ·omega
    ·rw[hs]at g2;cases g2
   ·simp[y7,g1]
  ·rcases g2 with g2|⟨_,g2⟩
   ·exact .inl (Nat.le_trans m.size g2)
   ·exact g2
 ·rename_i ad
  obtain⟨g1,g2,g3⟩:=ho
  rw[hW]at g2
  refine⟨?_,?_,g3⟩
  ·unfold yk
   split
   ·rename_i s hlt hs
    have hlt:=of_decide_eq_true hlt
    rcases g2 with g2|⟨⟨b',j',g2⟩,_⟩
    ·omega
    ·rw[hs]at g2;cases g2
   ·simp[y7,g1]
  ·rcases g2 with g2|⟨_,g2⟩
   ·exact .inl (Nat.le_trans m.size g2)
   ·exact g2
 ·trivial
theorem qi8 (m:MInv P C ω w0 C0 hp w)(e:EnvRel C ω w w0.heap.size env tmps)(m1:MInv P C1 ω1 w (C.shared ω w0) h1 w')(hle:(C.shared ω w0).le C1):
  MInv P (C1.back C) (yk ω ω1 w.heap.size) w0 C0 h1 w'∧EnvRel (C1.back C) (yk ω ω1 w.heap.size) w' w0.heap.size env tmps:=by
 have hsh:∀r,r<w0.heap.size→¬C0.W r→¬(C.shared ω w0).W r:=fun r hr hw h=>by
  rcases h.2 with h|h
  ·omega
  ·rw[m.grown.w]at h;exact hw h
 constructor
 ·refine { base:=m.base,know:=m1.know,kone:=m1.kone,apart:=m1.apart,inj:=m1.inj,lt:=m1.lt,size:=Nat.le_trans m.size m1.size,frame:=?_,dfr:=m1.dfr,os:=m1.os.trans m.os,output:=m1.output.trans m.output,fresh:=?_,grown:=Ctx.le_trans m.grown (qio hle),old:=?_,box:=?_,tlt:=m1.tlt }
  ·intro r hr hn hw
   have hn':∀b,C.β b≠some r:=fun b hb=>by
    rcases m.fresh b r hb with h|h|h
    ·exact hn b h
    ·omega
    ·exact hw h
   rw[m1.frame r (Nat.lt_of_lt_of_le hr m.size) hn' (hsh r hr hw)]
   exact m.frame r hr hn hw
  ·intro b r hb
   rcases m1.fresh b r hb with h|h|h
   ·exact m.fresh b r h
   ·exact .inr (.inl (Nat.le_trans m.size h))
   ·exact .inr (h.2.imp id (fun h=>by rw[←m.grown.w];exact h))
  ·intro r o hr hw
   show C1.K r o=_
   rw[m1.old r o (Nat.lt_of_lt_of_le hr m.size) (hsh r hr hw)]
   exact m.old r o hr hw
  ·intro b x r hx hb
   exact BoxRel.imp (C:=C1) (C':=C1.back C) ⟨fun _ _ _ h=>h,fun _ _ h=>h⟩ rfl (fun _ _ _ ho=>ho.afterNew m hle.w) (m1.box b x r hx hb)
 ·exact fun s x hs=>let ⟨v,k1,k2,k3⟩:=e s x hs; ⟨v,k1,RepI.mono (qio hle) k2,fun h=>(k3 h).afterOld m1⟩
theorem Rep.back {x v}(h:Rep C1 x v):Rep (C1.back C) x v:=RepI.imp (C:=C1) (C':=C1.back C) ⟨fun _ _ _ h=>h,fun _ _ h=>h⟩ h
theorem qi3 (m:MInv P C ω w0 C0 hp w)(e:EnvRel C ω w w0.heap.size env tmps)(m1:MInv P C1 ω1 w (C.shared ω w0) h1 w')(hle:(C.shared ω w0).le C1){v ow u}(hr:Rep C1 v u)(ho:ow=true→OwnV C1 ω1 w' w.heap.size (.slot 0) v u):
  jk P C0 w0 C tmps d env ⟨v,ow,none,ya hp.length v h1⟩ u w':=by
 have hC:∀b r,C.β b=some r→b<hp.length:=fun b r h=>(m.lt b r h).2
 have hle':=qio hle
 have hr':Rep (C1.back C) v u:=hr.back
 -- the result's ownership first
 have step:∃ω',MInv P (C1.back C) ω' w0 C0 h1 w'∧EnvRel (C1.back C) ω' w' w0.heap.size env tmps∧(ow=true→OwnV (C1.back C) ω' w' w0.heap.size d v u):=by
  obtain⟨m2,e2⟩:=qi8 m e m1 hle
  cases ow with
  |false=>exact⟨_,m2,e2,by simp⟩
  |true=>
   by_cases hk:∃(n:Bool) (sz:Nat) (xs:List AVal) (ad:Addr) (len cap:Nat),v=.list n sz xs∧u=.slice (some ad) len cap
   ·obtain⟨n,sz,xs,ad,len,cap,rfl,rfl⟩:=hk
    obtain⟨g1,g2,g3,g4⟩:=ho rfl
    rw[hle.w]at g2
    have hnone:yk ω ω1 w.heap.size ad.block=none:=by
     unfold yk
     split
     ·rename_i s hlt hs
      have hlt:=of_decide_eq_true hlt
      rcases g2 with g2|⟨⟨b',j',g2⟩,_⟩
      ·omega
      ·rw[hs]at g2;cases g2
     ·simp[y7,g1]
    refine⟨own1 (yk ω ω1 w.heap.size) ad.block d,m2.own1 _ _ (by simp[hnone]),?_,fun _=>?_⟩
    ·exact fun s x hs=>let ⟨v,k1,k2,k3⟩:=e2 s x hs; ⟨v,k1,k2,fun h=>(k3 h).other (.inl (by simp[hnone]))⟩
    ·refine⟨by simp[own1],?_,g3,g4⟩
     rcases g2 with g2|⟨_,g2⟩
     ·exact .inl (Nat.le_trans m.size g2)
     ·exact g2
   by_cases hk2:∃(n:Nat) (ad:Addr),v=.pend n∧u=.pointer (some ad)
   ·obtain⟨n,ad,rfl,rfl⟩:=hk2
    obtain⟨g1,g2,g3,g4⟩:=ho rfl
    rw[hle.w]at g2
    have hnone:yk ω ω1 w.heap.size ad.block=none:=by
     unfold yk
     split
     ·rename_i s hlt hs
      have hlt:=of_decide_eq_true hlt
      rcases g2 with g2|⟨⟨b',j',g2⟩,_⟩
      ·omega
      ·rw[hs]at g2;cases g2
     ·simp[y7,g1]
    refine⟨own1 (yk ω ω1 w.heap.size) ad.block d,m2.own1 _ _ (by simp[hnone]),?_,fun _=>?_⟩
    ·exact fun s x hs=>let ⟨v,k1,k2,k3⟩:=e2 s x hs; ⟨v,k1,k2,fun h=>(k3 h).other (.inl (by simp[hnone]))⟩
    ·refine⟨by simp[own1],?_,g3,g4⟩
     rcases g2 with g2|⟨_,g2⟩
     ·exact .inl (Nat.le_trans m.size g2)
     ·exact g2
   ·refine⟨_,m2,e2,fun h=>?_⟩
    unfold OwnV
    split
    ·exact absurd ⟨_,_,_,_,_,_,rfl,rfl⟩ hk
    ·exact absurd ⟨_,_,rfl,rfl⟩ hk2
    ·trivial
 obtain⟨ω',m2,e2,o2⟩:=step
 unfold ya
 cases hb:Nat.ble h1.length hp.length with
 |true=>simp only[cond_true];exact⟨_,ω',hle',m2,e2,hr',o2⟩
 |false=>
  simp only[cond_false]
  cases hb2:(below hp.length v&&js hp.length (h1.take hp.length))with
  |false=>simp only[cond_false];exact⟨_,ω',hle',m2,e2,hr',o2⟩
  |true=>
   simp only[cond_true]
   simp only[Bool.and_eq_true]at hb2
   have hlt:hp.length≤h1.length:=by
    rcases Nat.lt_or_ge hp.length h1.length with h|h
    ·omega
    ·rw[Nat.ble_eq_true_of_le h]at hb;cases hb
   have h0:∀b r,C0.β b=some r→b<hp.length:=fun b r h=>hC b r (m.grown.2 b r h)
   have m3:=m2.gc hlt hb2.2 h0
   refine⟨(C1.back C).cut hp.length,ω',Ctx.le_cut hle' hC,m3,?_,Rep.cut hr' hb2.1,fun h=>(o2 h).cut _⟩
   intro s x hs
   obtain⟨y,k1,k2,k3⟩:=e s x hs
   obtain⟨y',j1,j2,j3⟩:=e2 s x hs
   rw[k1]at j1
   cases j1
   exact⟨y,k1,RepI.mono (Ctx.le_cut hle' hC) k2,fun h=>(j3 h).cut _⟩
theorem EnvRep.noOwn {e}(h:EnvRep C e tmps):EnvRel C ω w B (noOwn e) tmps:=by
 intro s x hx
 have key:∀ {e:Env} {x:AVal×Bool},qv s (Abs.noOwn e)=some x→∃o,qv s e=some (x.1,o)∧x.2=false:=by
  intro e
  induction e with
  |nil=>intro x h;simp[Abs.noOwn,qv]at h
  |cons y e ih=>
   intro x h
   obtain⟨t,v,o⟩:=y
   simp only[Abs.noOwn,List.map_cons,qv]at h ⊢
   cases hb:Nat.beq t s with
   |true=>simp only[hb,cond_true,Option.some.injEq]at h ⊢;subst h;exact⟨o,rfl,rfl⟩
   |false=>simp only[hb,cond_false]at h ⊢;exact ih h
 obtain⟨o,h1,h2⟩:=key hx
 obtain⟨v,h3,h4⟩:=h s _ h1
 exact⟨v,h3,h4,by simp[h2]⟩
theorem qi6:∀ {ts:List Nat} {vs:List AVal} {us:List Value} {e e':Env} {tmps:Array Value},qb7 e ts vs=some e'→RepL C vs us→(∀t∈ts,t<tmps.size)→EnvRel C ω w B e tmps →
  ts.length=us.length∧((ts.zip us).foldl (fun(tmps:Array Value) (x:Nat×Value)=>tmps.setIfInBounds x.1 x.2) tmps).size=tmps.size∧EnvRel C ω w B e' ((ts.zip us).foldl (fun(tmps:Array Value) (x:Nat×Value)=>tmps.setIfInBounds x.1 x.2) tmps)
 | [],[],us,e,e',tmps,h,hr,_,he=>by
  simp only[qb7,Option.some.injEq]at h
  subst h
  cases hr
  exact⟨rfl,rfl,he⟩
 |t::ts,v::vs,us,e,e',tmps,h,hr,hf,he=>by
  simp only[qb7]at h
  cases hr with
  |cons _ _ u us hu hr=>
   have he2:EnvRel C ω w B ((t,v,false)::e) (tmps.setIfInBounds t u):=by
    intro s x hx
    simp only[qv]at hx
    cases hb:Nat.beq t s with
    |true=>
     have:=Nat.eq_of_beq_eq_true hb
     subst this
     simp only[hb,cond_true,Option.some.injEq]at hx
     subst hx
     exact⟨u,by simp[hf t (by simp)],hu,by simp⟩
    |false=>
     simp only[hb,cond_false]at hx
     obtain⟨y,h1,h2,h3⟩:=he s x hx
     refine⟨y,?_,h2,h3⟩
     rw[Array.getElem?_setIfInBounds_ne (fun hh=>by subst hh;simp at hb)]
     exact h1
   have ih:=qi6 h hr (tmps:=tmps.setIfInBounds t u) (fun t' ht'=>by simpa using hf t' (by simp[ht'])) he2
   refine⟨by simp[ih.1],?_,?_⟩
   ·simp only[List.zip_cons_cons,List.foldl_cons];rw[ih.2.1];simp
   ·simp only[List.zip_cons_cons,List.foldl_cons];exact ih.2.2
 | [],_::_,_,_,_,_,h,_,_,_=>by simp[qb7]at h
 |_::_,[],_,_,_,_,h,_,_,_=>by simp[qb7]at h
theorem qdh {b r l}(m:MInv P C ω w0 C0 hp w)(hb:jl hp b=some (.loop l))(hr:C.β b=some r):∃lp,w.heap[r]?=some (.loop lp)∧LoopRep P C l lp:=
 m.box b _ r hb hr
theorem qe2 {b r l' lp lp'}(m:MInv P C ω w0 C0 hp w)(hr:C.β b=some r)(hg:w.heap[r]?=some (.loop lp))(hl:LoopRep P C l' lp'):
  (setObj r (.loop lp')).run P w=.ok () (zm w r (.loop lp'))∧Upd w (zm w r (.loop lp')) r∧MInv P C ω w0 C0 (hp.set b (.loop l')) (zm w r (.loop lp')):=by
 have hlt:=(Array.getElem?_eq_some_iff.1 hg).1
 have hu:Upd w (zm w r (.loop lp')) r:=qcb hlt (by simp)
 exact⟨kw hg (by simp),hu,m.updBox hu hr _ (fun _ _ _ _ _ h=>h) ⟨lp',qbj hlt,hl⟩⟩
theorem qva (hx:CodeOk P xc)(m:MInv P C ω w0 C0 hp w)(e:EnvRel C ω w w0.heap.size env tmps){b r}(hr:C.β b=some r){args us}(ha:RepL C args us){v h'}(hy:y5 xc b args hp=some (v,h')):
  ∃f tmps' assign body,(Instr.yield r ⟨us⟩).run P w=.ok (.round r f tmps' assign body) w∧RoundIn Fence.wide 0 P r f tmps' assign body w fun ee w'=>∃u,ee=.returned u∧jk P C0 w0 C tmps d env ⟨v,false,none,h'⟩ u w':=by
 unfold y5 at hy
 split at hy
 ·rename_i l hl
  split at hy
  ·rename_i e0 hpend hset
   obtain⟨lp,hg,lr⟩:=qdh m hl hr
   have ms:=qfj m
   have hus:RepL (C.shared ω w0) args us:=RepI.imp (C:=C) (C':=C.shared ω w0) ⟨fun _ _ _ h=>h,fun _ _ h=>h⟩ ha
   have hel:EnvRel (C.shared ω w0) (y7 ω) w w.heap.size (noOwn l.env) lp.tmps:=EnvRep.noOwn (fun s x hs=>let ⟨v,h1,h2⟩:=lr.env s x hs; ⟨v,h1,RepI.imp (C:=C) (C':=C.shared ω w0) ⟨fun _ _ _ h=>h,fun _ _ h=>h⟩ h2⟩)
   obtain⟨hlen,hsz,he0⟩:=qi6 hset hus lr.fits hel
   have hfold:(lp.params.zip (⟨us⟩:Array Value)).foldl (fun(tmps:Array Value) (x:Nat×Value)=>tmps.setIfInBounds x.1 x.2) lp.tmps=(l.params.zip us).foldl (fun(tmps:Array Value) (x:Nat×Value)=>tmps.setIfInBounds x.1 x.2) lp.tmps:=by
    rw[←Array.foldl_toList,Array.toList_zip,lr.params]
   have hpsz:lp.params.size=us.length:=by rw[←Array.length_toList,lr.params];exact hlen
   refine⟨lp.fn,(l.params.zip us).foldl (fun(tmps:Array Value) (x:Nat×Value)=>tmps.setIfInBounds x.1 x.2) lp.tmps,lp.assign,lp.body,?_,?_⟩
   ·have hgl:(Instr.getLoop r).run P w=.ok lp w:=by simp[Instr.getLoop,yj hg (by simp)]
    have hne:¬((⟨us⟩:Array Value).size≠lp.params.size):=by simp[hpsz]
    simp only[Instr.yield,Sem.run_bind,hgl,Result.andThen_ok,hne,if_false,Sem.run_pure,Sem.run_ite]
    rw[show((lp.params.zip (⟨us⟩:Array Value)).foldl (fun tmps (x:Nat×Value)=>match x with|(t,a)=>tmps.setIfInBounds t a) lp.tmps)=_ from hfold]
   ·refine roundIn_of_wpIn trivial ?_
    split at hy
    ·rename_i st hst
     split at hy
     ·rename_i l1 hl1
      cases hp1:l1.pending.isNone with
      |false=>simp[hp1]at hy
      |true=>
       simp only[hp1,cond_true]at hy
       have hp1':l1.pending=none:=by simpa using hp1
       split at hy
       ·rename_i x st' hst'
        split at hy
        ·rename_i l2 hl2
         cases hy
         refine wpIn_mono (hx (some r) lp.tmps.size lp.assign l.assign _ _ _ lr.assign (fun _=>lr.nr.1) hst (C.shared ω w0) (y7 ω) w (C.shared ω w0) { tmps:=_,defers:=[] } w ms he0 hsz Marks.nil) ?_
         rintro ee a1 w1 ⟨rfl,q1,C1,ω1,q2,q3,q4,q5⟩
         have hr1:=q2.b b r hr
         obtain⟨lp1,hg1,lr1⟩:=qdh q4 hl1 hr1
         have hs1:lp1.state=.ready:=by rw[lr1.state,hp1']
         have hlrb:LoopRep P C1 { l1 with pending:=some .normal } { lp1 with state:=.busy }:={ lr1 with state:=rfl,pending:=by rw[lr1.pending,hp1'] }
         obtain⟨hset1,hu1,m1⟩:=qe2 q4 hr1 hg1 hlrb
         have hbr:(Instr.beginRound r).run P w1=.ok () (zm w1 r (.loop { lp1 with state:=.busy })):=by
          have hgl:(Instr.getLoop r).run P w1=.ok lp1 w1:=by simp[Instr.getLoop,yj hg1 (by simp)]
          simp only[Instr.beginRound,Sem.run_bind,hgl,Result.andThen_ok,hset1,hs1,Sem.run_pure]
         refine⟨_,hbr,?_⟩
         refine wpIn_mono (hx (some r) lp.tmps.size lp.body l.body _ _ _ lr.body (fun _=>lr.nr.2) hst' C1 ω1 w (C.shared ω w0) a1 _ m1 (q5.updβ hu1 hr1) q1 q3) ?_
         rintro ee a2 w2 ⟨rfl,p1,C2,ω2,p2,p3,p4,p5⟩
         have hr2:=p2.b b r hr1
         obtain⟨lp2,hg2,lr2⟩:=qdh p4 hl2 hr2
         have hgl2:(Instr.getLoop r).run P w2=.ok lp2 w2:=by simp[Instr.getLoop,yj hg2 (by simp)]
         have fin:∀(st3:LoopState) (pd:Option Code) (ap:Option jo) (bb:Bool),LoopRep P C2 { l2 with pending:=ap } { lp2 with state:=st3,pending:=pd } →
           jk P C0 w0 C tmps d env ⟨.bool bb,false,none,ya hp.length (.bool true) (st'.heap.set b (.loop { l2 with pending:=ap }))⟩ (.bool bb) (zm w2 r (.loop { lp2 with state:=st3,pending:=pd })):=by
          intro st3 pd ap bb hlr
          obtain⟨hset2,hu2,m2⟩:=qe2 p4 hr2 hg2 hlr
          have:=qi3 (d:=d) (v:=.bool bb) (ow:=false) (u:=.bool bb) m e m2 (Ctx.le_trans q2 p2) (.bool bb) (by simp)
          exact this
         cases x with
         |normal=>
          have hlr:LoopRep P C2 { l2 with pending:=none } { lp2 with state:=.ready,pending:=none }:={ lr2 with state:=rfl,pending:=rfl }
          obtain⟨hset2,_,_⟩:=qe2 p4 hr2 hg2 hlr
          exact⟨.bool true,_,by simp only[Instr.endRound,Sem.run_bind,hgl2,Result.andThen_ok,Option.isNone_none,if_true,hset2,Sem.run_pure],_,rfl,fin _ _ _ true hlr⟩
         |ret=>
          have hlr:LoopRep P C2 { l2 with pending:=some .ret } { lp2 with state:=.done,pending:=some .ret }:={ lr2 with state:=rfl,pending:=rfl }
          obtain⟨hset2,_,_⟩:=qe2 p4 hr2 hg2 hlr
          exact⟨.bool false,_,by simp only[Instr.endRound,Sem.run_bind,hgl2,Result.andThen_ok,Option.isNone_some,Bool.false_eq_true,if_false,hset2,Sem.run_pure],_,rfl,fin _ _ _ false hlr⟩
         |exit id=>
          have hlr:LoopRep P C2 { l2 with pending:=some (.exit id) } { lp2 with state:=.done,pending:=some (.exit id) }:={ lr2 with state:=rfl,pending:=rfl }
          obtain⟨hset2,_,_⟩:=qe2 p4 hr2 hg2 hlr
          exact⟨.bool false,_,by simp only[Instr.endRound,Sem.run_bind,hgl2,Result.andThen_ok,Option.isNone_some,Bool.false_eq_true,if_false,hset2,Sem.run_pure],_,rfl,fin _ _ _ false hlr⟩
        ·cases hy
       ·cases hy
     ·cases hy
    ·cases hy
  ·cases hy
 ·cases hy
theorem qu5 {h md r h0 dst al aop res}(hp':ProgOk P p)(hx:CodeOk P xc)(m:MInv P C ω w0 C0 hp w)(e:EnvRel C ω w w0.heap.size env a.tmps){c}(ho:o.op=.call c){f}(hcv:c.callee=.value f)
  (hc:qgk P h md r dst c=some aop) (hs:qb p xc h0 al env hp aop=some res):jz P C C0 w0 a d env o w res:=by
 unfold qgk at hc
 rw[hcv]at hc
 simp only[]at hc
 split at hc
 ·rename_i f' args' h1 h2
  cases hc
  generalize md.at r=md at hs
  simp only[qb,ze]at hs
  split at hs
  ·rename_i k first captured vs e1 e2
   have hrf:=qn e.rep h1 e1
   have hra:=qcz e.rep h2 e2
   generalize hev:a.eval f=fv at hrf
   cases hrf with
   |fn g g' _ _ as bs hf ha hb=>
    simp only[RepFn]at hf
    subst hf
    have hall:RepL C (first++vs++captured) (as++c.args.toList.map a.eval++bs):=RepL.append (RepL.append ha hra) hb
    have henter:Enters P k→(execOp a.eval o).run P w=.ok (.enter k ⟨as++c.args.toList.map a.eval++bs⟩) w:=by
     intro hen
     have hargs:(⟨as⟩:Array Value)++Array.map a.eval c.args++(⟨bs⟩:Array Value)=⟨as++c.args.toList.map a.eval++bs⟩:=by
      apply Array.ext';simp
     simp[execOp,ho,resolve,hcv,hev,Deferred.ofValue,invoke,hargs,qh3 hen]
    cases md with
    |frz rk=>
     simp only[]at hs
     cases hb0:(first++vs++captured).isEmpty with
     |false=>
      rw[hb0]at hs
      simp only[cond_false]at hs
      cases hb1:qo 0 (first++vs++captured)with
      |false=>rw[hb1]at hs;cases hs
      |true=>
       rw[hb1]at hs
       simp only[cond_true]at hs
       split at hs
       ·rename_i v ow hci
        obtain⟨hen,hpv,hiso⟩:=qd4 hp' hx hci hb1
        have hall':RepL (.iso C.K) (first++vs++captured) (as++c.args.toList.map a.eval++bs):=
         RepI.shift (C:=C) (C':=.iso C.K) 0 (fun _ _ _ h=>h) (fun b r hlt=>by omega) hall hb1
        refine .inr (.inr (.inl ⟨k,_,henter hen,CallsIn.mono (hiso C.K w _ m.tabs m.know m.kone hall') ?_⟩))
        rintro ee w' ⟨u,K',rfl,q1,q2,q3,q4,q5,q6,q7⟩
        exact⟨u,rfl,qt2 m e q1 q2 q3 q4 q5 q6 q7 hs⟩
       ·cases hs
     |true=>
      rw[hb0]at hs
      simp only[cond_true]at hs
      split at hs
      ·rename_i es hm
       split at hs
       ·rename_i h' hn
        obtain rfl:=qp hs
        obtain⟨hh,rfl⟩:=zj hn
        obtain⟨hen,hmap⟩:=hp'.maps k es hm
        have hnil:as++c.args.toList.map a.eval++bs=[]:=by
         have h1:first++vs++captured=[]:=List.isEmpty_iff.1 hb0
         have h2:=hall.length
         rw[h1]at h2
         exact List.eq_nil_of_length_eq_zero h2
        refine .inr (.inr (.inl ⟨k,_,henter hen,?_⟩))
        rw[hnil]
        refine CallsIn.mono (hmap C.K w m.tabs m.know m.kone) ?_
        rintro ee w' ⟨q,K',ents,clock,rfl,q1,q2,q3,q4,q5,q6,q7,q8⟩
        exact⟨_,rfl,qu7 m e q1 q2 q3 q4 q5 hh q6 q7 q8⟩
       ·cases hs
      ·cases hs
    |iso=>
     simp only[]at hs
     cases hb0:qo 0 (first++vs++captured)with
     |false=>rw[hb0]at hs;cases hs
     |true=>
      rw[hb0]at hs
      simp only[cond_true]at hs
      split at hs
      ·rename_i v ow hci
       cases hs
       obtain⟨hen,hpv,hiso⟩:=qd4 hp' hx hci hb0
       have hall':RepL (.iso C.K) (first++vs++captured) (as++c.args.toList.map a.eval++bs):=
        RepI.shift (C:=C) (C':=.iso C.K) 0 (fun _ _ _ h=>h) (fun b r hlt=>by omega) hall hb0
       refine .inr (.inr (.inl ⟨k,_,henter hen,CallsIn.mono (hiso C.K w _ m.tabs m.know m.kone hall') ?_⟩))
       rintro ee w' ⟨u,K',rfl,q1,q2,q3,q4,q5,q6,q7⟩
       exact⟨u,rfl,qpb m e q1 q2 q3 q4 q5 hpv q6 q7⟩
      ·cases hs
    |red=>
     simp only[]at hs
     split at hs
     ·rename_i xs hfz
      cases hb1:qo 0 xs with
      |false=>rw[hb1]at hs;cases hs
      |true=>
       rw[hb1]at hs
       simp only[cond_true]at hs
       split at hs
       ·rename_i v ow hci
        split at hs
        ·rename_i v' ow' hrd
         cases hs
         obtain⟨hen,hpv,hiso⟩:=qd4 hp' hx hci hb1
         refine .inr (.inr (.inl ⟨k,_,henter hen,CallsIn.mono (hiso (jm C hp w) w _ m.tabs (fun r o u h=>(qcv m h).1) (fun r o u h=>(qcv m h).2) (qi0 m hfz hall hb1)) ?_⟩))
         rintro ee w' ⟨u,K',rfl,q1,q2,q3,q4,q5,q6,q7⟩
         exact⟨u,rfl,qu3 m e q1 q2 q3 q4 q5 q6 q7 hrd⟩
        ·cases hs
       ·cases hs
     ·cases hs
    |shr=>
     simp only[]at hs
     split at hs
     ·rename_i v ow h' hcf
      cases hs
      ·obtain⟨hen,hshr⟩:=qfh hp' hx hcf
       have hall':RepL (C.shared ω w0) (first++vs++captured) (as++c.args.toList.map a.eval++bs):=RepI.imp (C:=C) (C':=C.shared ω w0) ⟨fun _ _ _ h=>h,fun _ _ h=>h⟩ hall
       refine .inr (.inr (.inl ⟨k,_,henter hen,CallsIn.mono (hshr _ _ _ _ hall' (qfj m)) ?_⟩))
       rintro ee w' ⟨u,C',ω',rfl,q1,q2,q3,q4⟩
       exact⟨u,rfl,qi3 m e q2 q1 q3 q4⟩
     ·cases hs
  ·rename_i b vs e1 e2
   have hrf:=qn e.rep h1 e1
   have hra:=qcz e.rep h2 e2
   generalize hev:a.eval f=fv at hrf
   cases md with
   |iso=>simp at hs
   |frz _=>simp at hs
   |red=>simp at hs
   |shr=>
    simp only[]at hs
    split at hs
    ·rename_i v h' hy
     obtain rfl:=qp hs
     cases hrf with
     |fn g g' _ _ as bs hf ha hb=>
      obtain⟨q,hbq,rfl⟩:=hf
      cases ha
      cases hb
      obtain⟨ff,tmps',assign,body,k1,k2⟩:=qva (d:=d) hx m e hbq hra hy
      refine .inr (.inr (.inr ⟨q,ff,tmps',assign,body,?_,k2⟩))
      have hargs:Array.map a.eval c.args=⟨c.args.toList.map a.eval⟩:=by
       apply Array.ext';simp
      rw[←hargs]at k1
      simp[execOp,ho,resolve,hcv,hev,Deferred.ofValue,invoke,k1]
    ·cases hs
  ·cases hs
 ·cases hc
theorem q0z {h md r h0 dst al aop res}(hp':ProgOk P p)(hx:CodeOk P xc)(m:MInv P C ω w0 C0 hp w)(e:EnvRel C ω w w0.heap.size env a.tmps)
  (hvd:aop.vdst=none) (hc:cOp P h md r dst o.op=some aop) (hs:qb p xc h0 al env hp aop=some res):jz P C C0 w0 a d env o w res:=by
 cases ho:o.op<;>rw[ho]at hc
 case move x=>exact qw0 m e ho hc hs
 case assign x=>exact qrh m e ho hc hs
 case pick=>exact qv0 m e ho hc hs
 case alloc=>exact qt7 m e ho hc hs
 case box=>exact qxz m e ho hc hs
 case build=>exact qtr m e ho hc hs
 case buildSlice=>exact qlb m e ho hc hs
 case load=>exact qwh m e ho hc hs
 case store=>exact qs6 m e ho hvd hc hs
 case nilCheck=>exact qok m e ho hc hs
 case binOp=>exact qyi m e ho hc hs
 case unOp=>exact qze m e ho hc hs
 case convert=>exact qvn m e ho hc hs
 case makeFunc=>exact qoc m e ho hc hs
 case makeMap=>exact qpl m e ho hc hs
 case makeSlice=>exact qmt m e ho hc hs
 case slice=>exact qtp m e ho hc hs
 case fieldAddr=>exact qmq m e ho hc hs
 case field=>exact qul m e ho hc hs
 case indexAddr=>exact qmw m e ho hc hs
 case index=>exact quf m e ho hc hs
 case range=>exact qth m e ho hc hs
 case extract=>exact qpr m e ho hc hs
 case call c=>
  have hc':qgk P h md r dst c=some aop:=hc
  by_cases hv:∃f,c.callee=.value f
  ·obtain⟨f,hf⟩:=hv
   exact qu5 hp' hx m e ho hf hc' hs
  ·exact qp0 m e ho (fun f hf=>hv ⟨f,hf⟩) hc' hs
 case lookup=>exact qsw m e ho hc hs
 case mapUpdate=>exact qg6 m e (.inl ho) hc hs
 case insert t x y z=>exact qg6 (h:=h) (md:=md) (r:=r) (dst:=dst) m e (.inr ho) (show cOp P h md r dst (.mapUpdate t x y z)=some aop from hc) hs
 case next it b=>exact qwt m e ho hc hs
 all_goals (simp[cOp]at hc;done)
end
section
variable {p:je}{xc:XC}{h0:Nat}{al:Option (List Nat)}
def Agree (l:List Nat)(e e':Env):Prop:=∀s∈l,qv s e=qv s e'
theorem Agree.app {l l' e e'}(h:Agree (l++l') e e'):Agree l e e'∧Agree l' e e':=
 ⟨fun s hs=>h s (List.mem_append_left _ hs),fun s hs=>h s (List.mem_append_right _ hs)⟩
theorem qk {e e' x}(h:Agree (jd x) e e'):qe e x=qe e' x:=by
 cases x with
 |tmp t=>simp only[qe,h t (by simp[jd])]
 |const v=>rfl
theorem qa8 {e e'}:∀ {l:List qz},Agree (qfa l) e e'→zw e l=zw e' l
 | [],_=>rfl
 |x::l,h=>by
  have h':Agree (jd x++qfa l) e e':=by simpa[qfa]using h
  simp only[zw,qk h'.app.1,qa8 h'.app.2]
theorem qb9 {e e' x}(d n:Nat)(h:Agree (qgm x) e e'):bnd e d n x=bnd e' d n x:=by
 cases x with
 |none=>rfl
 |some x=>simp only[bnd,qk (x:=x) h]
theorem qfu {e e' x}(h:Agree (jd x) e e'):jn e x=jn e' x:=by
 cases x with
 |tmp t=>simp only[jn,h t (by simp[jd])]
 |const v=>rfl
theorem qe3 {e e'}:∀ {l:List (Nat×Nat×qz)},Agree (l.flatMap fun p=>jd p.2.2) e e'→zo e l=zo e' l
 | [],_=>rfl
 |(i,n,x)::l,h=>by
  have h':Agree (jd x++l.flatMap fun p=>jd p.2.2) e e':=by simpa using h
  simp only[zo,qk h'.app.1,qe3 h'.app.2]
theorem qcg {e e' sz}:∀ {l:List (Nat×qz)},Agree (l.flatMap fun p=>jd p.2) e e'→jy e sz l=jy e' sz l
 | [],_=>rfl
 |(i,x)::l,h=>by
  have h':Agree (jd x++l.flatMap fun p=>jd p.2) e e':=by simpa using h
  simp only[jy,qk h'.app.1,qcg h'.app.2]
theorem qnk {e e' h op}(ha:Agree op.reads e e'):qb p xc h0 al e h op=qb p xc h0 al e' h op:=by
 cases op with
 |move x=>simp only[qb,qg,qk (x:=x) ha]
 |take s=>simp only[qb,qg,ha s (by simp[AOp.reads])]
 |pick c x y=>simp only[AOp.reads]at ha;simp only[qb,qg,qk ha.app.1.app.1,qk ha.app.1.app.2,qk ha.app.2]
 |build z ps=>simp only[qb,qg,qe3 (l:=ps) ha]
 |buildSlice sz n z ps=>simp only[qb,qg,qcg (l:=ps) ha]
 |nilCheck x=>simp only[qb,qg,qk (x:=x) ha]
 |valloc n=>rfl
 |vstore n s x=>
  simp only[AOp.reads]at ha
  have h1:qv s e=qv s e':=ha s (by simp)
  have h2:Agree (jd x) e e':=fun t ht=>ha t (by simp[ht])
  simp only[qb,qg,h1,qk h2]
 |vbox n x=>simp only[qb,qg,qk (x:=x) ha]
 |vload ag n x=>simp only[qb,qg,qk (x:=x) ha]
 |bin op x y=>simp only[AOp.reads]at ha;simp only[qb,qg,qk ha.app.1,qk ha.app.2]
 |eqs ks n x y=>simp only[AOp.reads]at ha;simp only[qb,qg,qk ha.app.1,qk ha.app.2]
 |beq n x y=>simp only[AOp.reads]at ha;simp only[qb,qg,qk ha.app.1,qk ha.app.2]
 |nilEq k n x=>simp only[qb,qg,qk (x:=x) ha]
 |un op x=>simp only[qb,qg,qk (x:=x) ha]
 |conv k x=>simp only[qb,qg,qk (x:=x) ha]
 |convStr x=>simp only[qb,qg,qk (x:=x) ha]
 |field ag off n x=>simp only[qb,qg,qk (x:=x) ha]
 |index ag l n x i=>simp only[AOp.reads]at ha;simp only[qb,qg,qk ha.app.1,qk ha.app.2]
 |strIndex x i=>simp only[AOp.reads]at ha;simp only[qb,qg,qk ha.app.1,qk ha.app.2]
 |fieldAddr ag off n x=>simp only[qb,qg,qk (x:=x) ha]
 |indexAddr sz x i=>simp only[AOp.reads]at ha;simp only[qb,qg,qk ha.app.1,qk ha.app.2]
 |indexArr ag l sz x i=>simp only[AOp.reads]at ha;simp only[qb,qg,qk ha.app.1,qk ha.app.2]
 |slice sz x lo hi=>simp only[AOp.reads]at ha;simp only[qb,qg,qk ha.app.1.app.1,qb9 _ _ ha.app.1.app.2,qb9 _ _ ha.app.2]
 |strSlice x lo hi=>simp only[AOp.reads]at ha;simp only[qb,qg,qk ha.app.1.app.1,qb9 _ _ ha.app.1.app.2,qb9 _ _ ha.app.2]
 |sliceArr l sz x lo hi=>simp only[AOp.reads]at ha;simp only[qb,qg,qk ha.app.1.app.1,qb9 _ _ ha.app.1.app.2,qb9 _ _ ha.app.2]
 |mkfunc f x y=>simp only[AOp.reads]at ha;simp only[qb,qg,qa8 ha.app.1,qa8 ha.app.2]
 |len k x=>simp only[qb,qg,qk (x:=x) ha]
 |append r sz b x y=>
  simp only[AOp.reads]at ha
  cases r with
  |none=>simp only[qb,qg,qk ha.app.1,qk ha.app.2,qfu ha.app.1]
  |some r=>simp only[qb,qj,qk ha.app.1,qk ha.app.2,qfu ha.app.1]
 |vapp r sz b x y=>simp only[AOp.reads]at ha;simp only[qb,qj,qk ha.app.1,qk ha.app.2]
 |vlit r sz n z ps=>simp only[qb,qj,qcg (l:=ps) ha]
 |mkslice r sz b z n c=>
  simp only[AOp.reads]at ha
  cases r with
  |none=>simp only[qb,qg,qk ha.app.1,qk ha.app.2]
  |some r=>simp only[qb,qj,qk ha.app.1,qk ha.app.2]
 |mx l=>simp only[qb,qg,qa8 (l:=l) ha]
 |mn l=>simp only[qb,qg,qa8 (l:=l) ha]
 |extract x i=>simp only[qb,qg,qk (x:=x) ha]
 |load ag n x=>simp only[qb,j0,qk (x:=x) ha]
 |alloc r z=>rfl
 |bld r t e=>rfl
 |box r n x=>simp only[qb,qj,qk (x:=x) ha]
 |loadTake off x=>simp only[qb,qj,qk (x:=x) ha]
 |store n x y=>simp only[AOp.reads]at ha;simp only[qb,qj,qk ha.app.1,qk ha.app.2,qfu ha.app.2]
 |mkmap r=>rfl
 |srange r x=>simp only[qb,qj,qk (x:=x) ha]
 |call md f l=>simp only[AOp.reads]at ha;simp only[qb,ze,qk ha.app.1,qa8 ha.app.2]
 |lookup kd z ok x y=>simp only[AOp.reads]at ha;simp only[qb,j0,qk ha.app.1,qk ha.app.2]
 |mapUpdate kd x y z=>simp only[AOp.reads]at ha;simp only[qb,qj,qk ha.app.1.app.1,qk ha.app.1.app.2,qk ha.app.2]
 |delete kd x y=>simp only[AOp.reads]at ha;simp only[qb,qj,qk ha.app.1,qk ha.app.2]
 |copy sz x y=>simp only[AOp.reads]at ha;simp only[qb,qj,qk ha.app.1,qk ha.app.2]
 |snext x=>simp only[qb,qj,qk (x:=x) ha]
 |bad=>rfl
def ORes.at (r:ORes)(h:qi):ORes:={ r with heap:=h }
theorem kl {h h' x r}(hs:val h x=some r):r.heap=h∧val h' x=some (r.at h'):=by
 simp only[val,Option.some.injEq]at hs;subst hs;exact⟨rfl,rfl⟩
theorem qwz (h:qi)(x:Option AVal):y9 h x=(y9 [] x).map (·.at h):=by cases x<;>rfl
theorem qjk {α β:Type}(c:Bool)(x y:Option α)(f:α→β):(bif c then x else y).map f=bif c then x.map f else y.map f:=by cases c<;>rfl
theorem qh6 (e:Env)(h:qi)(op:AOp):qg e h op=(qg e [] op).map (·.at h):=by
 cases op with
 |append r sz b x y=>
  cases r with
  |some r=>rfl
  |none=>
   simp only[qg]
   repeat' split
   all_goals first
    |rfl
    |(simp only[qjk];repeat' split)<;>rfl
 |mkslice r sz b z n c=>
  cases r with
  |some r=>rfl
  |none=>
   simp only[qg]
   repeat' split
   all_goals first
    |rfl
    |(simp only[qjk];rfl)
 |_=>
  simp only[qg]
  repeat' split
  all_goals first
   |rfl
   |exact qwz _ _
   |(simp only[qjk];first|rfl|(repeat' split)<;>rfl)
theorem qjb {e h}(h':qi){op r}(hs:qg e h op=some r):r.heap=h∧qg e h' op=some (r.at h'):=by
 rw[qh6]at hs
 obtain⟨r0,h1,rfl⟩:=Option.map_eq_some_iff.1 hs
 refine⟨rfl,?_⟩
 rw[qh6,h1]
 rfl
end
section
variable {p:je}{xc:XC}{h0:Nat}{al:Option (List Nat)}
def nV:Option ABox→Bool
 |some (.vec ..)=>false
 |some .hole=>false
 |_=>true
theorem qes {h b cs}(hc:ja h b=some cs):nV h[b]?=true:=by
 unfold ja at hc
 split at hc
 ·rename_i h1;rw[h1];rfl
 ·cases hc
theorem qf3 {h b x}(hb:jl h b=some x)(hx:nV (some x)=true):nV h[b]?=true:=by
 unfold jl at hb;rw[hb];exact hx
def vsz:ABox→Option Nat
 | .vec sz _ _=>some sz
 |_=>none
def HB (h0:Nat)(al:Option (List Nat))(F:qi→Option ORes)(h:qi)(r:ORes):Cls→Nat→Prop
 | .pure,_=>r.heap=h∧∀h',F h'=some (r.at h')
 | .read,_=>r.heap=h∧∀h':qi,(∀b,jf h0 al b=true→(qbx al=true→nV h[b]?=true)→h'[b]?=h[b]?)→F h'=some (r.at h')
 | .alloc,k=>∃x,newBox h0 h k x=some r.heap∧∀h' h3,newBox h0 h' k x=some h3→F h'=some (r.at h3)
 | .write,_=>∃b x,jf h0 al b=true∧nV h[b]?=true∧nV (some x)=true∧jb h b x=some r.heap∧∀h' h3:qi,h'[b]?=h[b]?→jb h' b x=some h3→F h'=some (r.at h3)
 | .take,k=>∃b cs v o,jf h0 al b=true∧h[b]?=some (.cells cs)∧cs[k]?=some (v,o)∧r.heap=h.set b (.cells (cs.set k (v,false))) ∧
   ∀(h':qi) (cs':List (AVal×Bool)),h'[b]?=some (.cells cs')→cs'[k]?=some (v,o)→F h'=some (r.at (h'.set b (.cells (cs'.set k (v,false)))))
 | .frz,_=>False
 | .shr,_=>True
 | .vap,k=>∃q x y,(q=h0+k % 1000∧y=.hole∨vsz y=some (k / 1000))∧h[q]?=some y∧r.heap=h.set q x∧vsz x=some (k / 1000)∧∀h':qi,h'[q]?=some y→F h'=some (r.at (h'.set q x))
theorem qaq {h h' b}(hb:h'[b]?=h[b]?):ja h' b=ja h b:=by simp only[ja,hb]
theorem qtt {e h op r}(hs:qb p xc h0 al e h op=some r):HB h0 al (fun h=>qb p xc h0 al e h op) h r op.cl op.rank:=by
 have pureCase:(∀h,qb p xc h0 al e h op=qg e h op)→op.cl=.pure→HB h0 al (fun h=>qb p xc h0 al e h op) h r op.cl op.rank:=by
  intro heq hcl
  rw[hcl]
  rw[heq]at hs
  exact⟨(qjb h hs).1,fun h'=>(heq h').trans (qjb h' hs).2⟩
 cases op with
 |load ag n x=>
  simp only[qb,j0]at hs
  split at hs
  ·rename_i b o hv
   cases hk:jf h0 al b with
   |false=>simp[hk]at hs
   |true=>
    simp only[hk,cond_true]at hs
    split at hs
    ·rename_i cs hcs
     split at hs
     ·rename_i vs hvs
      have key:r.heap=h∧∀h':qi,ja h' b=ja h b→j0 h0 al e h' (.load ag n x)=some (r.at h'):=by
       cases ag with
       |true=>
        simp only[cond_true]at hs
        refine⟨(kl (h':=h) hs).1,fun h' hb=>?_⟩
        simp only[j0,hv,hk,cond_true,hb,hcs,hvs]
        exact(kl (h':=h') hs).2
       |false=>
        simp only[cond_false]at hs
        split at hs
        ·refine⟨(kl (h':=h) hs).1,fun h' hb=>?_⟩
         simp only[j0,hv,hk,cond_true,hb,hcs,hvs,cond_false]
         exact(kl (h':=h') hs).2
        ·cases hs
      exact⟨key.1,fun h' hag=>key.2 h' (qaq (hag b hk fun _=>qes hcs))⟩
     ·cases hs
    ·cases hs
  ·rename_i v hv
   cases hk:(Bool.xor ag v.isAgg||!(Nat.beq v.flat.length n))with
   |true=>simp[hk]at hs
   |false=>
    simp only[hk,cond_false]at hs
    refine⟨(kl (h':=h) hs).1,fun h' _=>?_⟩
    simp only[qb,j0,hv,hk,cond_false]
    exact(kl (h':=h') hs).2
  ·rename_i b ver q hv
   cases hk:qbv h0 al b with
   |false=>simp[hk]at hs
   |true=>
    simp only[hk,cond_true]at hs
    have hkk:=hk
    simp only[qbv,Bool.and_eq_true,Bool.not_eq_true']at hkk
    split at hs
    ·rename_i sz ver' xs hbx
     have hgb:∀h':qi,(∀b,jf h0 al b=true→(qbx al=true→nV h[b]?=true)→h'[b]?=h[b]?)→jl h' b=some (.vec sz ver' xs):=fun h' hag=>by
      unfold jl at hbx ⊢;rw[hag b hkk.1 (fun ho=>by rw[hkk.2]at ho;cases ho),hbx]
     cases hk2:(Nat.beq ver ver'&&Nat.ble (q+n) (xs.flatMap AVal.flat).length)with
     |false=>rw[hk2]at hs;cases hs
     |true=>
      rw[hk2]at hs
      simp only[cond_true]at hs
      cases ag with
      |true=>
       simp only[cond_true]at hs
       refine⟨(kl (h':=h) hs).1,fun h' hag=>?_⟩
       simp only[qb,j0,hv,hk,cond_true,hgb h' hag,hk2]
       exact(kl (h':=h') hs).2
      |false=>
       simp only[cond_false]at hs
       split at hs
       ·rename_i z hz
        refine⟨(kl (h':=h) hs).1,fun h' hag=>?_⟩
        simp only[qb,j0,hv,hk,cond_true,hgb h' hag,hk2,cond_false,hz]
        exact(kl (h':=h') hs).2
       ·cases hs
    ·cases hs
  ·cases hs
 |len k x=>exact pureCase (fun _=>rfl) rfl
 |alloc rk z=>
  simp only[qb,qj]at hs
  cases hk:z.all qf with
  |false=>simp[hk]at hs
  |true=>
   simp only[hk,cond_true]at hs
   split at hs
   ·rename_i h' hn
    have h1:=qp hs
    refine⟨_,by rw[h1];exact hn,fun g g3 hg=>?_⟩
    simp only[qb,qj,hk,cond_true]
    rw[show AOp.rank (.alloc rk z)=rk from rfl]at hg
    rw[hg,h1];rfl
   ·cases hs
 |box rk n x=>
  simp only[qb,qj]at hs
  split at hs
  ·rename_i v hv
   cases hk:(Nat.beq v.flat.length n&&v.flat.all qf)with
   |false=>simp[hk]at hs
   |true=>
    simp only[hk,cond_true]at hs
    split at hs
    ·rename_i h' hn
     have h1:=qp hs
     refine⟨_,by rw[h1];exact hn,fun g g3 hg=>?_⟩
     simp only[qb,qj,hv,hk,cond_true]
     rw[show AOp.rank (.box rk n x)=rk from rfl]at hg
     rw[hg,h1];rfl
    ·cases hs
  ·cases hs
 |bld rk t e'=>
  simp only[qb,qj]at hs
  split at hs
  ·rename_i h' hn
   have h1:=qp hs
   refine⟨_,by rw[h1];exact hn,fun g g3 hg=>?_⟩
   simp only[qb,qj]
   rw[show AOp.rank (.bld rk t e')=rk from rfl]at hg
   rw[hg,h1];rfl
  ·cases hs
 |mkmap rk=>
  simp only[qb,qj]at hs
  split at hs
  ·rename_i h' hn
   have h1:=qp hs
   refine⟨_,by rw[h1];exact hn,fun g g3 hg=>?_⟩
   simp only[qb,qj]
   rw[show AOp.rank (.mkmap rk)=rk from rfl]at hg
   rw[hg,h1];rfl
  ·cases hs
 |srange rk x=>
  simp only[qb,qj]at hs
  split at hs
  ·rename_i s hv
   split at hs
   ·rename_i h' hn
    have h1:=qp hs
    refine⟨_,by rw[h1];exact hn,fun g g3 hg=>?_⟩
    simp only[qb,qj,hv]
    rw[show AOp.rank (.srange rk x)=rk from rfl]at hg
    rw[hg,h1];rfl
   ·cases hs
  ·cases hs
 |loadTake off x=>
  simp only[qb,qj]at hs
  split at hs
  ·rename_i b o hv
   cases hk:jf h0 al b&&qde off o with
   |false=>simp[hk]at hs
   |true=>
    simp only[hk,cond_true]at hs
    have hk':jf h0 al b=true:=by simp only[Bool.and_eq_true]at hk;exact hk.1
    split at hs
    ·rename_i cs hcs
     split at hs
     ·rename_i v ow hq
      split at hs
      ·rename_i h' hset
       cases hs
       have hset0:=hset
       unfold jb at hset0
       cases hlt:Nat.blt b h.length with
       |false=>simp[hlt]at hset0
       |true=>
        simp only[hlt,cond_true,Option.some.injEq]at hset0
        cases off with
        |none=>
         refine⟨b,_,hk',qes hcs,rfl,hset,fun g g3 hb hg=>?_⟩
         simp only[qb,qj,hv,hk,cond_true,qaq hb,hcs,hq,hg]
         rfl
        |some k=>
         have hko:k=o:=by
          simp only[Bool.and_eq_true,qde]at hk;exact Nat.eq_of_beq_eq_true hk.2
         subst hko
         have hhb:h[b]?=some (.cells cs):=by
          unfold ja at hcs
          split at hcs
          ·rename_i cs' h';cases hcs;exact h'
          ·cases hcs
         refine⟨b,cs,v,ow,hk',hhb,hq,hset0.symm,fun g cs' hg hc'=>?_⟩
         have hc':cs'[k]?=some (v,ow):=hc'
         have hlg:b<g.length:=(List.getElem?_eq_some_iff.1 hg).1
         have hbc:ja g b=some cs':=by simp only[ja,hg]
         have hsg:jb g b (.cells (cs'.set k (v,false)))=some (g.set b (.cells (cs'.set k (v,false)))):=by
          unfold jb;rw[Nat.blt_eq.mpr hlg];rfl
         simp only[qb,qj,hv,hk,cond_true,hbc,hc',hsg]
         rfl
      ·cases hs
     ·cases hs
    ·cases hs
  ·cases hs
 |store n x y=>
  simp only[qb,qj]at hs
  split at hs
  ·rename_i b o v hv hy
   cases hk:jf h0 al b with
   |false=>simp[hk]at hs
   |true=>
    simp only[hk,cond_true]at hs
    split at hs
    ·rename_i cs hcs
     split at hs
     ·rename_i t ht
      cases hk2:(Nat.beq n 1&&v.isList&&Nat.blt o cs.length)with
      |false=>simp[hk2]at hs
      |true=>
       simp only[hk2,cond_true]at hs
       split at hs
       ·rename_i h' hset
        cases hs
        refine⟨b,_,hk,qes hcs,rfl,hset,fun g g3 hb hg=>?_⟩
        simp only[qb,qj,hv,hy,hk,cond_true,qaq hb,hcs,ht,hk2,hg]
        rfl
       ·cases hs
     ·rename_i ht
      cases hk2:Nat.beq v.flat.length n with
      |false=>simp[hk2]at hs
      |true=>
       simp only[hk2,cond_true]at hs
       split at hs
       ·rename_i cs' hst
        split at hs
        ·rename_i h' hset
         have h1:=qp hs
         refine⟨b,_,hk,qes hcs,rfl,by rw[h1];exact hset,fun g g3 hb hg=>?_⟩
         simp only[qb,qj,hv,hy,hk,cond_true,qaq hb,hcs,ht,hk2,hst,hg,h1]
         rfl
        ·cases hs
       ·cases hs
    ·cases hs
  ·cases hs
 |call md f l=>
  cases md with
  |shr=>trivial
  |red=>trivial
  |frz rk=>
   simp only[qb,ze]at hs
   split at hs
   ·rename_i k first captured vs e1 e2
    cases hb:(first++vs++captured).isEmpty with
    |false=>
     rw[hb]at hs
     simp only[cond_false]at hs
     cases hb2:qo 0 (first++vs++captured)with
     |false=>rw[hb2]at hs;cases hs
     |true=>
      rw[hb2]at hs
      simp only[cond_true]at hs
      split at hs
      ·rename_i v o hci
       have goal:∃x,newBox h0 h rk x=some r.heap∧∀g g3,newBox h0 g rk x=some g3→qcf h0 g rk v o=some (r.at g3):=by
        unfold qcf at hs
        split at hs
        ·split at hs
         ·rename_i h' hn
          have h1:=qp hs
          refine⟨_,by rw[h1];exact hn,fun g g3 hg=>?_⟩
          simp only[qcf,hg,h1];rfl
         ·cases hs
        ·rename_i sz xs
         cases hb3:(xs.flatMap AVal.flat).all kx with
         |false=>rw[hb3]at hs;cases hs
         |true=>
          rw[hb3]at hs
          simp only[cond_true]at hs
          split at hs
          ·rename_i h' hn
           have h1:=qp hs
           refine⟨_,by rw[h1];exact hn,fun g g3 hg=>?_⟩
           simp only[qcf,hb3,cond_true,hg,h1];rfl
          ·cases hs
        ·cases hs
       obtain⟨x,g1,g2⟩:=goal
       refine⟨x,g1,fun g g3 hg=>?_⟩
       simp only[qb,ze,e1,e2,hci]
       rw[hb,hb2]
       exact g2 g g3 hg
      ·cases hs
    |true=>
     rw[hb]at hs
     simp only[cond_true]at hs
     split at hs
     ·rename_i es hm
      split at hs
      ·rename_i h' hn
       have h1:=qp hs
       refine⟨_,by rw[h1];exact hn,fun g g3 hg=>?_⟩
       simp only[qb,ze,e1,e2,hm]
       rw[hb]
       simp only[cond_true]
       rw[show AOp.rank (.call (.frz rk) f l)=rk from rfl]at hg
       rw[hg,h1];rfl
      ·cases hs
     ·cases hs
   ·cases hs
   ·cases hs
  |iso=>
   simp only[qb,ze]at hs
   split at hs
   ·rename_i k first captured vs e1 e2
    cases hb:qo 0 (first++vs++captured)with
    |false=>rw[hb]at hs;cases hs
    |true=>
     rw[hb]at hs
     simp only[cond_true]at hs
     split at hs
     ·rename_i v o hci
      cases hs
      refine⟨rfl,fun h'=>?_⟩
      simp only[qb,ze,e1,e2,hci]
      rw[hb]
      rfl
     ·cases hs
   ·cases hs
   ·cases hs
 |append rk sz b x y=>
  cases rk with
  |none=>exact pureCase (fun _=>rfl) rfl
  |some rk=>
   simp only[qb,qj]at hs
   split at hs
   ·rename_i sz' vy e1 e2
    cases hk1:((jn e x).isSome&&Nat.beq sz sz')with
    |false=>simp[hk1]at hs
    |true=>
     simp only[hk1,cond_true]at hs
     split at hs
     ·rename_i ys hsrc
      cases hk2:(Nat.ble ys.length 1073741824&&Nat.ble b 4096&&Nat.blt 0 sz)with
      |false=>simp[hk2]at hs
      |true=>
       simp only[hk2,cond_true]at hs
       split at hs
       ·rename_i h' hn
        cases hs
        refine⟨_,hn,fun g g3 hg=>?_⟩
        simp only[qb,qj,e1,e2,hk1,hsrc,hk2,cond_true]
        rw[show AOp.rank (.append (some rk) sz b x y)=rk from rfl]at hg
        rw[hg];rfl
       ·cases hs
     ·cases hs
   ·cases hs
 |vapp rk sz bt x y=>
  simp only[qb,qj]at hs
  split at hs
  ·rename_i sz0 vy e1 e2
   split at hs
   ·rename_i ys hsrc
    cases hk:(Nat.ble ys.length 1073741824&&Nat.ble bt 4096&&Nat.blt 0 sz&&!ys.isEmpty&&qo 0 ys&&Nat.blt rk 1000)with
    |false=>rw[hk]at hs;cases hs
    |true=>
     rw[hk]at hs
     simp only[cond_true]at hs
     split at hs
     ·rename_i h' hnew
      obtain rfl:=qp hs
      obtain⟨i1,i2⟩:=zj hnew
      have hrk:rk<1000:=by simp only[Bool.and_eq_true]at hk;exact Nat.blt_eq.mp hk.2
      have m1:(rk+1000*sz) % 1000=rk:=by omega
      have m2:(rk+1000*sz) / 1000=sz:=by omega
      refine⟨h0+rk,.vec sz 0 ys,.hole,.inl ⟨by show _=h0+(rk+1000*sz) % 1000;rw[m1],rfl⟩,i1,i2,by show some sz=some ((rk+1000*sz) / 1000);rw[m2],fun g hg=>?_⟩
      simp only[qb,qj,e1,e2,hsrc,hk,cond_true,newBox,hg]
      rfl
     ·cases hs
   ·cases hs
  ·rename_i b ver len vy e1 e2
   split at hs
   ·rename_i sz' ver' xs hbx
    split at hs
    ·rename_i ys hsrc
     cases hk:(Nat.beq ver ver'&&Nat.beq sz sz'&&Nat.ble len xs.length&&Nat.ble (len+ys.length) 1073741824&&Nat.ble bt 4096&&Nat.blt 0 sz&&qo 0 ys&&Nat.blt rk 1000)with
     |false=>rw[hk]at hs;cases hs
     |true=>
      rw[hk]at hs
      simp only[cond_true]at hs
      split at hs
      ·rename_i h' hset
       obtain rfl:=qp hs
       have hk':=hk
       simp only[Bool.and_eq_true]at hk'
       obtain⟨⟨⟨⟨⟨⟨⟨_,k2⟩,_⟩,_⟩,_⟩,_⟩,_⟩,k8⟩:=hk'
       have hsz:=Nat.eq_of_beq_eq_true k2
       have hrk:rk<1000:=Nat.blt_eq.mp k8
       have m2:(rk+1000*sz) / 1000=sz:=by omega
       have hlt:b<h.length:=by unfold jl at hbx;exact(List.getElem?_eq_some_iff.1 hbx).1
       have hh:h'=h.set b (.vec sz (ver+1) (xs.take len++ys)):=by
        unfold jb at hset
        rw[Nat.blt_eq.mpr hlt]at hset
        simpa using hset.symm
       refine⟨b,.vec sz (ver+1) (xs.take len++ys),.vec sz' ver' xs,.inr (by show some sz'=some ((rk+1000*sz) / 1000);rw[m2,hsz]),hbx,hh,by show some sz=some ((rk+1000*sz) / 1000);rw[m2],fun g hg=>?_⟩
       have hgb:jl g b=some (.vec sz' ver' xs):=hg
       have hglt:b<g.length:=(List.getElem?_eq_some_iff.1 hg).1
       simp only[qb,qj,e1,e2,hgb,hsrc,hk,cond_true,jb,Nat.blt_eq.mpr hglt]
       rfl
      ·cases hs
    ·cases hs
   ·cases hs
  ·cases hs
 |vlit rk sz n z ps=>trivial
 |mkslice rk sz b z n c=>
  cases rk with
  |none=>exact pureCase (fun _=>rfl) rfl
  |some rk=>
   simp only[qb,qj]at hs
   split at hs
   ·rename_i n' c' e1 e2
    cases hk:(Nat.beq n' c'&&Nat.ble n' 1073741824&&Nat.ble b 4096&&Nat.beq z.length sz&&Nat.blt 0 sz&&z.all qf)with
    |false=>simp[hk]at hs
    |true=>
     simp only[hk,cond_true]at hs
     split at hs
     ·rename_i h' hn
      have h1:=qp hs
      refine⟨_,by rw[h1];exact hn,fun g g3 hg=>?_⟩
      simp only[qb,qj,e1,e2,hk,cond_true]
      rw[show AOp.rank (.mkslice (some rk) sz b z n c)=rk from rfl]at hg
      rw[hg,h1];rfl
     ·cases hs
   ·cases hs
 |lookup kd z ok x y=>
  simp only[qb,j0]at hs
  split at hs
  ·rename_i b kv e1 e2
   cases hk:jf h0 al b with
   |false=>simp[hk]at hs
   |true=>
    simp only[hk,cond_true]at hs
    split at hs
    ·rename_i es hb
     have hgb:∀h':qi,(∀b,jf h0 al b=true→(qbx al=true→nV h[b]?=true)→h'[b]?=h[b]?)→jl h' b=some (.map es):=fun h' hag=>by
      have hnv:=qf3 hb rfl
      unfold jl at hb ⊢;rw[hag b hk fun _=>hnv,hb]
     split at hs
     ·rename_i i v hf
      refine⟨(kl (h':=h) hs).1,fun h' hag=>?_⟩
      simp only[qb,j0,e1,e2,hk,cond_true,hgb h' hag,hf]
      exact(kl (h':=h') hs).2
     ·rename_i hf
      refine⟨(kl (h':=h) hs).1,fun h' hag=>?_⟩
      simp only[qb,j0,e1,e2,hk,cond_true,hgb h' hag,hf]
      exact(kl (h':=h') hs).2
     ·cases hs
    ·cases hs
  ·rename_i kv e1 e2
   refine⟨(kl (h':=h) hs).1,fun h' hag=>?_⟩
   simp only[qb,j0,e1,e2]
   exact(kl (h':=h') hs).2
  ·cases hs
 |mapUpdate kd x y z=>
  simp only[qb,qj]at hs
  split at hs
  ·rename_i b kv v e1 e2 e3
   cases hk:jf h0 al b with
   |false=>simp[hk]at hs
   |true=>
    simp only[hk,cond_true]at hs
    split at hs
    ·rename_i es hb
     have hgb:∀h':qi,h'[b]?=h[b]?→jl h' b=some (.map es):=fun h' hag=>by
      unfold jl at hb ⊢;rw[hag,hb]
     split at hs
     ·rename_i i u hf
      split at hs
      ·rename_i h' hset
       have h1:=qp hs
       refine⟨b,_,hk,qf3 hb rfl,rfl,by rw[h1];exact hset,fun g g3 hb' hg=>?_⟩
       simp only[qb,qj,e1,e2,e3,hk,cond_true,hgb g hb',hf,hg,h1]
       rfl
      ·cases hs
     ·rename_i hf
      cases hl:Nat.ble es.length 1073741824 with
      |false=>simp[hl]at hs
      |true=>
       simp only[hl,cond_true]at hs
       split at hs
       ·rename_i h' hset
        have h1:=qp hs
        refine⟨b,_,hk,qf3 hb rfl,rfl,by rw[h1];exact hset,fun g g3 hb' hg=>?_⟩
        simp only[qb,qj,e1,e2,e3,hk,cond_true,hgb g hb',hf,hl,hg,h1]
        rfl
       ·cases hs
     ·cases hs
    ·cases hs
  ·cases hs
 |delete kd x y=>
  simp only[qb,qj]at hs
  split at hs
  ·rename_i b kv e1 e2
   cases hk:jf h0 al b with
   |false=>simp[hk]at hs
   |true=>
    simp only[hk,cond_true]at hs
    split at hs
    ·rename_i es hb
     have hgb:∀h':qi,h'[b]?=h[b]?→jl h' b=some (.map es):=fun h' hag=>by
      unfold jl at hb ⊢;rw[hag,hb]
     split at hs
     ·rename_i rr hf
      split at hs
      ·rename_i h' hset
       have h1:=qp hs
       refine⟨b,_,hk,qf3 hb rfl,rfl,by rw[h1];exact hset,fun g g3 hb' hg=>?_⟩
       simp only[qb,qj,e1,e2,hk,cond_true,hgb g hb',hf,hg,h1]
       rfl
      ·cases hs
     ·cases hs
    ·cases hs
  ·cases hs
 |copy sz x y=>
  simp only[qb,qj]at hs
  split at hs
  ·rename_i b o len vy e1 e2
   cases hk:jf h0 al b with
   |false=>simp[hk]at hs
   |true=>
    simp only[hk,cond_true]at hs
    split at hs
    ·rename_i cs hcs
     split at hs
     ·rename_i n us hsrc
      split at hs
      ·rename_i cs' hst
       cases hk2:Nat.beq us.length (n*sz)with
       |false=>simp[hk2]at hs
       |true=>
        simp only[hk2,cond_true]at hs
        split at hs
        ·rename_i h' hset
         have h1:=qp hs
         refine⟨b,_,hk,qes hcs,rfl,by rw[h1];exact hset,fun g g3 hb hg=>?_⟩
         simp only[qb,qj,e1,e2,hk,cond_true,qaq hb,hcs,hsrc,hst,hk2,hg,h1]
         rfl
        ·cases hs
      ·cases hs
     ·cases hs
    ·cases hs
  ·cases hs
 |snext x=>
  simp only[qb,qj]at hs
  split at hs
  ·rename_i b hv
   cases hk:jf h0 al b with
   |false=>simp[hk]at hs
   |true=>
    simp only[hk,cond_true]at hs
    split at hs
    ·rename_i s pos hb
     have hlt:b<h.length:=by unfold jl at hb;exact(List.getElem?_eq_some_iff.1 hb).1
     cases hp:Nat.blt pos s.length with
     |true=>
      simp only[hp,cond_true]at hs
      split at hs
      ·rename_i h' hset
       have h1:=qp hs
       refine⟨b,_,hk,qf3 hb rfl,rfl,by rw[h1];exact hset,fun g g3 hb' hg=>?_⟩
       have hgb:jl g b=some (.iter s pos):=by unfold jl at hb ⊢;rw[hb',hb]
       simp only[qb,qj,hv,hk,cond_true,hgb,hp,hg,h1]
       rfl
      ·cases hs
     |false=>
      simp only[hp,cond_false]at hs
      have h1:=qp hs
      have hself:h.set b (.iter s pos)=h:=by
       unfold jl at hb
       apply List.ext_getElem?
       intro k
       rw[List.getElem?_set]
       split
       ·rename_i hbk;subst hbk;first|exact hb.symm|rw[if_pos hlt,hb]
       ·rfl
      refine⟨b,.iter s pos,hk,qf3 hb rfl,rfl,by rw[h1];unfold jb;rw[Nat.blt_eq.mpr hlt];simp[hself],fun g g3 hb' hg=>?_⟩
      have hgb:jl g b=some (.iter s pos):=by unfold jl at hb ⊢;rw[hb',hb]
      have hglt:b<g.length:=by unfold jl at hgb;exact(List.getElem?_eq_some_iff.1 hgb).1
      have hgself:g3=g:=by
       unfold jb at hg
       rw[Nat.blt_eq.mpr hglt]at hg
       simp only[cond_true,Option.some.injEq]at hg
       rw[←hg]
       unfold jl at hgb
       apply List.ext_getElem?
       intro k
       rw[List.getElem?_set]
       split
       ·rename_i hbk;subst hbk;first|exact hgb.symm|rw[if_pos hglt,hgb]
       ·rfl
      simp only[qb,qj,hv,hk,cond_true,hgb,hp,cond_false,h1,hgself]
      rfl
    ·cases hs
  ·cases hs
 |_=>exact pureCase (fun _=>rfl) rfl
theorem km {h h' b x}(hs:jb h b x=some h'):b<h.length∧h'=h.set b x:=by
 unfold jb at hs
 cases hb:Nat.blt b h.length with
 |false=>simp[hb]at hs
 |true=>exact⟨Nat.blt_eq.mp hb,by simpa[hb]using hs.symm⟩
theorem qbi {h b x}(hb:b<h.length):jb h b x=some (h.set b x):=by
 unfold jb
 rw[Nat.blt_eq.mpr hb];rfl
theorem qb8 {h k x}(hh:h[h0+k]?=some .hole):newBox h0 h k x=some (h.set (h0+k) x):=by
 unfold newBox;rw[hh]
theorem qc4 {b k}(h:jf h0 al b=true)(hk:qaz al k=false):b≠h0+k:=by
 intro hb
 subst hb
 cases al with
 |none=>simp[qaz]at hk
 |some l=>
  simp only[jf,qaz]at h hk
  have h1:Nat.blt (h0+k) h0=false:=by
   cases hh:Nat.blt (h0+k) h0 with
   |false=>rfl
   |true=>have:=Nat.blt_eq.mp hh;omega
  cases he:exl l with
  |false=>
   rw[he]at h hk
   simp only[cond_false]at h hk
   rw[h1,Bool.false_or,show h0+k-h0=k from by omega,hk]at h
   cases h
  |true=>
   rw[he]at h hk
   simp only[cond_true]at h hk
   cases l with
   |nil=>cases he
   |cons x l=>
    simp only[exq]at h
    cases hx:Nat.blt x 2000 with
    |true=>rw[hx]at h;simp only[cond_true,h1,Bool.and_false]at h;cases h
    |false=>
     rw[hx]at h
     simp only[cond_false]at h
     cases hx4:Nat.blt x 4000 with
     |false=>rw[hx4]at h;simp only[cond_false,h1]at h;cases h
     |true=>
      rw[hx4]at h
      simp only[cond_true]at h
      have h2:=Nat.eq_of_beq_eq_true h
      have h3:¬x<2000:=fun hh=>by rw[Nat.blt_eq.mpr hh]at hx;cases hx
      have h4:x=2000+k:=by omega
      rw[show(x::l).headD 0=x from rfl,h4,Nat.beq_refl]at hk
      cases hk
theorem qhj {l:List Nat}{x}(h:(!(l.contains x))=true):l.contains x=false:=by
 cases hc:l.contains x with
 |false=>rfl
 |true=>rw[hc]at h;cases h
theorem qgz {al1 al2:Option (List Nat)}{b b'}(h:qen al1 al2=true)(h1:jf h0 al1 b=true)(h2:jf h0 al2 b'=true):b≠b':=by
 intro hb
 subst hb
 cases al1 with
 |none=>cases h
 |some l=>
  cases al2 with
  |none=>cases h
  |some m=>
   simp only[qen,jf]at h h1 h2
   have inv:∀ {k:List Nat},exl k=true→Nat.blt (k.headD 0) 4000=true→exq h0 k b=true→(1000≤k.headD 0)∧((k.headD 0<2000∧b=k.headD 0-1000∧b<h0)∨(2000≤k.headD 0∧b=h0+(k.headD 0-2000))):=by
    intro k he h4 hq
    cases k with
    |nil=>cases he
    |cons x k=>
     refine⟨Nat.le_of_ble_eq_true he,?_⟩
     simp only[exq]at hq
     cases hx:Nat.blt x 2000 with
     |true=>
      rw[hx]at hq
      simp only[cond_true,Bool.and_eq_true]at hq
      exact .inl ⟨Nat.blt_eq.mp hx,Nat.eq_of_beq_eq_true hq.1,Nat.blt_eq.mp hq.2⟩
     |false=>
      rw[hx,show Nat.blt x 4000=true from h4]at hq
      simp only[cond_false,cond_true]at hq
      have h3:¬x<2000:=fun hh=>by rw[Nat.blt_eq.mpr hh]at hx;cases hx
      exact .inr ⟨by show 2000≤x;omega,Nat.eq_of_beq_eq_true hq⟩
   have old:∀ {k:List Nat} {r:Nat},b=h0+r→k.contains r=false→(Nat.blt b h0||k.contains (b-h0))=true→False:=by
    intro k r hbr hc hq
    have h3:Nat.blt b h0=false:=by
     cases hh:Nat.blt b h0 with
     |false=>rfl
     |true=>have:=Nat.blt_eq.mp hh;omega
    rw[h3,Bool.false_or,show b-h0=r by omega,hc]at hq
    cases hq
   cases hl:exl l with
   |true=>
    rw[hl]at h h1
    simp only[cond_true]at h h1
    cases hm:exl m with
    |true=>
     rw[hm]at h h2
     simp only[cond_true,Bool.and_eq_true]at h h2
     obtain⟨i1,i2⟩:=inv hl h.1.2 h1
     obtain⟨i3,i4⟩:=inv hm h.2 h2
     have hne:l.headD 0≠m.headD 0:=fun e=>by rw[e,Nat.beq_refl]at h;exact absurd h.1.1 (by simp)
     omega
    |false=>
     rw[hm]at h h2
     simp only[cond_false,Bool.and_eq_true]at h h2
     obtain⟨i1,i2⟩:=inv hl h.1.2 h1
     have h3:=Nat.le_of_ble_eq_true h.1.1
     exact old (by omega) (qhj h.2) h2
   |false=>
    rw[hl]at h h1
    simp only[cond_false,Bool.and_eq_true]at h h1
    obtain⟨⟨⟨h3,h4⟩,h6⟩,h5⟩:=h
    rw[h3]at h2
    simp only[cond_true]at h2
    obtain⟨i3,i4⟩:=inv h3 h6 h2
    have h4:=Nat.le_of_ble_eq_true h4
    exact old (by omega) (qhj h5) h1
theorem qla {F h r k}(H:HB h0 al F h r .take k):HB h0 al F h r .write k:=by
 obtain⟨b,cs,v,o,hb,hc,hv,hs,h4⟩:=H
 have hlt:b<h.length:=(List.getElem?_eq_some_iff.1 hc).1
 refine⟨b,.cells (cs.set k (v,false)),hb,by rw[hc];rfl,rfl,by rw[hs];exact qbi hlt,fun h' h3 hh hset=>?_⟩
 rw[h4 h' cs (by rw[hh];exact hc) hv]
 obtain⟨_,s2⟩:=km hset
 rw[s2]
theorem qvx {ca cb ka kb ala alb Fa Fb h ra rb}(hFb:Fb h=some rb)(hFa:Fa rb.heap=some ra)(Hb:HB h0 alb Fb h rb cb kb)(Ha:HB h0 ala Fa rb.heap ra ca ka)
  (hcb:cb=.read∨cb=.write∨cb=.take) (hca:ca=.read∨ca=.write∨ca=.take) (hap:qen alb ala=true):
  ∃h1,Fa h=some (ra.at h1)∧Fb h1=some (rb.at ra.heap):=by
 have hat:∀r:ORes,r.at r.heap=r:=fun _=>rfl
 have wb:(cb=.read∧HB h0 alb Fb h rb .read kb)∨HB h0 alb Fb h rb .write kb:=by
  rcases hcb with rfl|rfl|rfl
  ·exact .inl ⟨rfl,Hb⟩
  ·exact .inr Hb
  ·exact .inr (qla Hb)
 have wa:(ca=.read∧HB h0 ala Fa rb.heap ra .read ka)∨HB h0 ala Fa rb.heap ra .write ka:=by
  rcases hca with rfl|rfl|rfl
  ·exact .inl ⟨rfl,Ha⟩
  ·exact .inr Ha
  ·exact .inr (qla Ha)
 rcases wb with⟨_,h1,h2⟩|⟨b,x,hb,_,_,hs,h2⟩
 ·rcases wa with⟨_,h3,h4⟩|⟨b',y,hb',_,_,hs',h4⟩
  ·exact⟨h,h4 h (fun b _ _=>by rw[h1]),by rw[h3,hat];exact hFb⟩
  ·rw[h1]at hs'
   obtain⟨s1,s2⟩:=km hs'
   refine⟨ra.heap,by rw[hat,←hFa,h1],h2 _ (fun b hb _=>?_)⟩
   rw[s2,List.getElem?_set_ne (Ne.symm (qgz hap hb hb'))]
 ·obtain⟨s1,s2⟩:=km hs
  rcases wa with⟨_,h3,h4⟩|⟨b',y,hb',_,_,hs',h4⟩
  ·refine⟨h,h4 h (fun b' hb' _=>?_),by rw[h3,hat];exact hFb⟩
   rw[s2,List.getElem?_set_ne (qgz hap hb hb')]
  ·obtain⟨s3,s4⟩:=km hs'
   have hne:=qgz hap hb hb'
   rw[s2,List.length_set]at s3
   refine⟨h.set b' y,h4 _ _ (by rw[s2,List.getElem?_set_ne hne]) (qbi s3),h2 _ _ (by rw[List.getElem?_set_ne (Ne.symm hne)]) ?_⟩
   rw[qbi (by rw[List.length_set];exact s1),s4,s2,List.set_comm _ _ (Ne.symm hne)]
def qm6 (ca cb:Cls)(ka kb:Nat)(ala alb:Option (List Nat)):Prop:=
 (cb=.vap∧ca=.vap∧kb % 1000≠ka % 1000∧kb / 1000≠ka / 1000)∨(cb=.vap∧(ca=.read∨ca=.write∨ca=.take)∧qbx ala=true)∨((cb=.read∨cb=.write∨cb=.take)∧ca=.vap∧qbx alb=true)
theorem qz0 {ca cb ka kb ala alb Fa Fb h ra rb}(hFb:Fb h=some rb)(hFa:Fa rb.heap=some ra)(Hb:HB h0 alb Fb h rb cb kb)(Ha:HB h0 ala Fa rb.heap ra ca ka)
  (hok:qm6 ca cb ka kb ala alb):∃h1,Fa h=some (ra.at h1)∧Fb h1=some (rb.at ra.heap):=by
 have hat:∀r:ORes,r.at r.heap=r:=fun _=>rfl
 have rdwr:∀ {c:Cls} {k:Nat} {al:Option (List Nat)} {F:qi→Option ORes} {g:qi} {r:ORes},HB h0 al F g r c k→(c=.read∨c=.write∨c=.take)→HB h0 al F g r .read k∨HB h0 al F g r .write k:=by
  intro c k al F g r H hc
  rcases hc with rfl|rfl|rfl
  ·exact .inl H
  ·exact .inr H
  ·exact .inr (qla H)
 have nvs:∀ {x:ABox} {z:Nat},vsz x=some z→nV (some x)=false:=fun {x z} h=>by cases x<;>first|rfl|cases h
 rcases hok with⟨rfl,rfl,n1,n2⟩|⟨rfl,hca,hs⟩|⟨hcb,rfl,hs⟩
 ·obtain⟨q,x,y,hq,hy,hh,hx,hF⟩:=Hb
  obtain⟨q',x',y',hq',hy',hh',hx',hF'⟩:=Ha
  have hlt:q<h.length:=(List.getElem?_eq_some_iff.1 hy).1
  have hne:q≠q':=by
   intro he
   subst he
   rw[hh,List.getElem?_set_self hlt]at hy'
   cases hy'
   rcases hq' with⟨_,rfl⟩|h4
   ·cases hx
   ·rw[hx]at h4;exact n2 (Option.some.inj h4)
  rw[hh,List.getElem?_set_ne hne]at hy'
  refine⟨h.set q' x',hF' h hy',?_⟩
  rw[hF _ (by rw[List.getElem?_set_ne (Ne.symm hne)];exact hy),hh',hh,List.set_comm _ _ hne]
 ·obtain⟨q,x,y,hq,hy,hh,hx,hF⟩:=Hb
  have hlt:q<h.length:=(List.getElem?_eq_some_iff.1 hy).1
  -- the box that the append wrote is a vector now
  have hnew:nV rb.heap[q]?=false:=by rw[hh,List.getElem?_set_self hlt];exact nvs hx
  rcases rdwr Ha hca with⟨h3,h4⟩|⟨b,z,hb,hn,hnz,hz,h4⟩
  ·refine⟨h,h4 h (fun b hb hn=>?_),by rw[h3,hat];exact hFb⟩
   have hne:b≠q:=fun e=>by subst e;rw[hn hs]at hnew;cases hnew
   rw[hh,List.getElem?_set_ne (Ne.symm hne)]
  ·have hne:b≠q:=fun e=>by subst e;rw[hn]at hnew;cases hnew
   obtain⟨s1,s2⟩:=km hz
   rw[hh,List.length_set]at s1
   refine⟨h.set b z,h4 _ _ (by rw[hh,List.getElem?_set_ne (Ne.symm hne)]) (qbi s1),?_⟩
   rw[hF _ (by rw[List.getElem?_set_ne hne];exact hy),s2,hh,List.set_comm _ _ hne]
 ·obtain⟨q,x,y,hq,hy,hh,hx,hF⟩:=Ha
  have hold:nV (some y)=false:=by
   rcases hq with⟨_,rfl⟩|h1
   ·rfl
   ·exact nvs h1
  rcases rdwr Hb hcb with⟨h3,h4⟩|⟨b,z,hb,hn,hnz,hz,h4⟩
  ·rw[h3]at hy hh
   refine⟨h.set q x,hF h hy,?_⟩
   rw[h4 (h.set q x) (fun b hb hn=>by
    have hne:b≠q:=fun e=>by subst e;rw[hy]at hn;rw[hold]at hn;exact absurd (hn hs) (by simp)
    rw[List.getElem?_set_ne (Ne.symm hne)]),hh]
  ·obtain⟨s1,s2⟩:=km hz
   have hne:b≠q:=by
    intro e
    subst e
    rw[s2,List.getElem?_set_self s1]at hy
    rw[Option.some.inj hy,hold]at hnz
    cases hnz
   rw[s2,List.getElem?_set_ne hne]at hy
   refine⟨h.set q x,hF h hy,h4 _ _ (by rw[List.getElem?_set_ne (Ne.symm hne)]) ?_⟩
   rw[qbi (by rw[List.length_set];exact s1),hh,s2,List.set_comm _ _ (Ne.symm hne)]
theorem qyq {ca cb ka kb ala alb Fa Fb h ra rb}(hFb:Fb h=some rb)(hFa:Fa rb.heap=some ra)(Hb:HB h0 alb Fb h rb cb kb)(Ha:HB h0 ala Fa rb.heap ra ca ka)
  (hok:cb=.pure∨ca=.pure∨(cb=.read∧ca=.read)∨(cb=.alloc∧ca=.alloc∧kb≠ka)∨(cb=.alloc∧(ca=.read∨ca=.write∨ca=.take)∧qaz ala kb=false)∨((cb=.read∨cb=.write∨cb=.take)∧ca=.alloc∧qaz alb ka=false)∨(cb=.take∧ca=.take∧kb≠ka)):
  ∃h1,Fa h=some (ra.at h1)∧Fb h1=some (rb.at ra.heap):=by
 have hat:∀r:ORes,r.at r.heap=r:=fun _=>rfl
 rcases hok with rfl|rfl|⟨rfl,rfl⟩|⟨rfl,rfl,hne⟩|⟨rfl,hca,hal⟩|⟨hcb,rfl,hal⟩|⟨rfl,rfl,hne⟩
 ·obtain⟨h1,h2⟩:=Hb
  exact⟨ra.heap,by rw[hat,←hFa,h1],h2 _⟩
 ·obtain⟨h1,h2⟩:=Ha
  exact⟨h,h2 _,by rw[h1,hat];exact hFb⟩
 ·obtain⟨h1,h2⟩:=Hb
  obtain⟨h3,h4⟩:=Ha
  exact⟨h,h4 h (fun b _ _=>by rw[h1]),by rw[h3,hat];exact hFb⟩
 ·obtain⟨x,n1,n2⟩:=Hb
  obtain⟨y,n3,n4⟩:=Ha
  obtain⟨i1,i2⟩:=zj n1
  obtain⟨i3,i4⟩:=zj n3
  rw[i2,List.getElem?_set_ne (by omega)]at i3
  refine⟨h.set (h0+ka) y,n4 _ _ (qb8 i3),n2 _ _ ?_⟩
  rw[qb8 (by rw[List.getElem?_set_ne (by omega)];exact i1),i4,i2,List.set_comm _ _ (by omega)]
 ·obtain⟨x,n1,n2⟩:=Hb
  obtain⟨i1,i2⟩:=zj n1
  rcases hca with rfl|rfl|rfl
  ·obtain⟨h3,h4⟩:=Ha
   refine⟨h,h4 h (fun b hb _=>?_),by rw[h3,hat];exact hFb⟩
   rw[i2,List.getElem?_set_ne (Ne.symm (qc4 hb hal))]
  ·obtain⟨b,y,hb,_,_,hs,h4⟩:=Ha
   obtain⟨s1,s2⟩:=km hs
   have hne:=qc4 hb hal
   rw[i2,List.length_set]at s1
   refine⟨h.set b y,h4 _ _ (by rw[i2,List.getElem?_set_ne (Ne.symm hne)]) (qbi s1),n2 _ _ ?_⟩
   rw[qb8 (by rw[List.getElem?_set_ne hne];exact i1),s2,i2,List.set_comm _ _ hne]
  ·obtain⟨b,cs,v,o,hb,hc,hv,hs,h4⟩:=Ha
   have hne:=qc4 hb hal
   rw[i2,List.getElem?_set_ne (Ne.symm hne)]at hc
   refine⟨_,h4 _ _ hc hv,n2 _ _ ?_⟩
   rw[qb8 (by rw[List.getElem?_set_ne hne];exact i1),hs,i2,List.set_comm _ _ hne]
 ·obtain⟨y,n3,n4⟩:=Ha
  obtain⟨i3,i4⟩:=zj n3
  rcases hcb with rfl|rfl|rfl
  ·obtain⟨h1,h2⟩:=Hb
   refine⟨ra.heap,by rw[hat,←hFa,h1],h2 _ (fun b hb _=>?_)⟩
   rw[i4,h1,List.getElem?_set_ne (Ne.symm (qc4 hb hal))]
  ·obtain⟨b,x,hb,_,_,hs,h2⟩:=Hb
   obtain⟨s1,s2⟩:=km hs
   have hne:=qc4 hb hal
   rw[s2,List.getElem?_set_ne hne]at i3
   refine⟨h.set (h0+ka) y,n4 _ _ (qb8 i3),h2 _ _ (by rw[List.getElem?_set_ne (Ne.symm hne)]) ?_⟩
   rw[qbi (by rw[List.length_set];exact s1),i4,s2,List.set_comm _ _ (Ne.symm hne)]
  ·obtain⟨b,cs,v,o,hb,hc,hv,hs,h2⟩:=Hb
   have hne:=qc4 hb hal
   rw[hs,List.getElem?_set_ne hne]at i3
   refine⟨h.set (h0+ka) y,n4 _ _ (qb8 i3),?_⟩
   rw[h2 _ cs (by rw[List.getElem?_set_ne (Ne.symm hne)];exact hc) hv,i4,hs,List.set_comm _ _ (Ne.symm hne)]
 ·obtain⟨b,cs,v,o,hb,hc,hv,hs,h2⟩:=Hb
  obtain⟨b',cs',v',o',hb',hc',hv',hs',h4⟩:=Ha
  have hlt:b<h.length:=(List.getElem?_eq_some_iff.1 hc).1
  by_cases hbb:b'=b
  ·subst hbb
   rw[hs,List.getElem?_set_self hlt]at hc'
   cases hc'
   rw[List.getElem?_set_ne hne]at hv'
   refine⟨h.set b' (.cells (cs.set ka (v',false))),h4 h cs hc hv',?_⟩
   rw[h2 _ (cs.set ka (v',false)) (by rw[List.getElem?_set_self hlt]) (by rw[List.getElem?_set_ne (Ne.symm hne)];exact hv),hs',hs]
   simp only[List.set_set]
   rw[List.set_comm _ _ hne]
  ·rw[hs,List.getElem?_set_ne (Ne.symm hbb)]at hc'
   refine⟨h.set b' (.cells (cs'.set ka (v',false))),h4 h cs' hc' hv',?_⟩
   rw[h2 _ cs (by rw[List.getElem?_set_ne hbb];exact hc) hv,hs',hs,List.set_comm _ _ hbb]
end
section
variable {p:je}{xc:XC}{h0:Nat}
def eff (p:je)(xc:XC)(h0:Nat)(o:AOper)(e:Env)(h:qi):Option ORes:=
 match yw e o.guard with
 |some true=>qb p xc h0 o.al e h o.op
 |some false=>some ⟨.undef,false,none,h⟩
 |none=>none
def qa3 (o:AOper)(e:Env)(r:ORes):Env:=k9 (jt e r.strip) o.dst r.v r.own
theorem qal (o:AOper)(st:ASt):zf p xc h0 o st=(eff p xc h0 o st.env st.heap).map fun r=>⟨qa3 o st.env r,r.heap⟩:=by
 unfold zf eff
 cases hg:yw st.env o.guard with
 |none=>rfl
 |some b=>
  cases b with
  |false=>rfl
  |true=>
   simp only[]
   cases qb p xc h0 o.al st.env st.heap o.op<;>rfl
theorem qmn {e e' g}(h:Agree (match g with|some g=>[g.1]|none=>[]) e e'):yw e g=yw e' g:=by
 cases g with
 |none=>rfl
 |some g=>simp only[yw,h g.1 (by simp)]
theorem qhf {o e e' h}(ha:Agree o.reads e e'):eff p xc h0 o e h=eff p xc h0 o e' h:=by
 have h1:Agree o.op.reads e e':=(Agree.app ha).1
 have h2:=(Agree.app ha).2
 simp only[eff,qmn h2,qnk h1]
theorem qpo {h0 r h v o res}(hs:qcf h0 h r v o=some res):res.strip=none:=by
 unfold qcf at hs
 simp only[Bool.cond_eq_ite,val]at hs
 repeat' split at hs
 all_goals first
  |(cases hs;done)
  |(cases hs;rfl)
theorem qml {al e h op r}(hs:qb p xc h0 al e h op=some r){s}(hr:r.strip=some s):s∈op.strips:=by
 have own:∀ {x:qz},jn e x=some s→s∈jd x:=by
  intro x h
  obtain⟨rfl,_⟩:=qdn h
  simp[jd]
 have vnone:∀ {x:AVal},val h x=some r→False:=fun hv=>by rw[qp hv]at hr;cases hr
 have vonone:∀ {x:Option AVal},y9 h x=some r→False:=fun hv=>by obtain⟨_,_,h1⟩:=qad hv;rw[h1]at hr;cases hr
 cases op with
 |take t=>
  simp only[qb,qg]at hs
  split at hs
  ·cases hs;simp at hr;simp[AOp.strips,hr]
  ·cases hs
 |append rk sz b x y=>
  cases rk with
  |some rk=>
   simp only[qb,qj,Bool.cond_eq_ite]at hs
   repeat' split at hs
   all_goals first
    |(cases hs;done)
    |(cases hs;exact own hr)
  |none=>
   simp only[qb,qg,Bool.cond_eq_ite]at hs
   repeat' split at hs
   all_goals first
    |(cases hs;done)
    |(cases hs;exact own hr)
 |store n x y=>
  simp only[qb,qj,Bool.cond_eq_ite]at hs
  repeat' split at hs
  all_goals first
   |(cases hs;done)
   |exact(vnone hs).elim
   |(rename_i ht _ _ _ _;cases hs;simp only[Option.some.injEq]at hr;subst hr;exact own ht)
   |(unfold val at hs;cases hs;cases hr;done)
   |skip
 |mkslice rk sz b z n c=>
  cases rk with
  |some rk=>
   simp only[qb,qj,Bool.cond_eq_ite]at hs
   repeat' split at hs
   all_goals first
    |(cases hs;done)
    |exact(vnone hs).elim
    |(unfold val at hs;cases hs;cases hr;done)
  |none=>
   simp only[qb,qg,Bool.cond_eq_ite]at hs
   repeat' split at hs
   all_goals first
    |(cases hs;done)
    |(cases hs;cases hr;done)
 |call md f l=>
  cases md<;>simp only[qb,ze,Bool.cond_eq_ite]at hs
  all_goals
   repeat' split at hs
  all_goals first
   |(cases hs;done)
   |exact(vnone hs).elim
   |(cases hs;cases hr;done)
   |(rw[qpo hs]at hr;cases hr;done)
 |_=>
  simp only[qb,qg,j0,qj,Bool.cond_eq_ite]at hs
  repeat' split at hs
  all_goals first
   |(cases hs;done)
   |exact(vnone hs).elim
   |exact(vonone hs).elim
   |(cases hs;cases hr;done)
   |(unfold val at hs;cases hs;cases hr;done)
theorem qj0 {o e h r}(hs:eff p xc h0 o e h=some r){s}(hr:r.strip=some s):s∈o.op.strips:=by
 unfold eff at hs
 split at hs
 ·exact qml hs hr
 ·cases hs;cases hr
 ·cases hs
theorem qan {s x e}:qv s ((s,x)::e)=some x:=by
 simp only[qv,Nat.beq_refl,cond_true]
theorem qcp {s t x e}(h:s≠t):qv s ((t,x)::e)=qv s e:=by
 have:Nat.beq t s=false:=by
  cases hb:Nat.beq t s with
  |false=>rfl
  |true=>exact absurd (Nat.eq_of_beq_eq_true hb).symm h
 simp only[qv,this,cond_false]
theorem qd0 {s e x}(h:∀t,x=some t→s≠t):qv s (jt e x)=qv s e:=by
 cases x with
 |none=>rfl
 |some t=>
  simp only[jt]
  split
  ·exact qcp (h t rfl)
  ·rfl
theorem qjj {s e e' x}(h:qv s e=qv s e'):qv s (jt e x)=qv s (jt e' x):=by
 cases x with
 |none=>exact h
 |some t=>
  by_cases hst:s=t
  ·subst hst
   simp only[jt]
   rw[←h]
   cases hl:qv s e with
   |none=>simp only[];rw[hl,←h,hl]
   |some y=>simp only[];rw[qan,qan]
  ·rw[qd0 (fun u hu=>by cases hu;exact hst),qd0 (fun u hu=>by cases hu;exact hst)]
   exact h
theorem qfn {s e d v o}(h:∀t,d=some t→s≠t):qv s (k9 e d v o)=qv s e:=by
 cases d with
 |none=>rfl
 |some t=>exact qcp (h t rfl)
theorem qln {s e e' d v o}(h:qv s e=qv s e'):qv s (k9 e d v o)=qv s (k9 e' d v o):=by
 cases d with
 |none=>exact h
 |some t=>
  by_cases hst:s=t
  ·subst hst;simp only[k9];rw[qan,qan]
  ·rw[qfn (fun u hu=>by cases hu;exact hst),qfn (fun u hu=>by cases hu;exact hst)];exact h
theorem qb5 {o s e e' r}(h:qv s e=qv s e'):qv s (qa3 o e r)=qv s (qa3 o e' r):=qln (qjj h)
theorem kr {o s e r}(hr:∀t,r.strip=some t→t∈o.op.strips)(h:s ∉ o.writes):qv s (qa3 o e r)=qv s e:=by
 unfold qa3
 rw[qfn,qd0]
 ·intro t ht hst
  exact h (List.mem_append_right _ (hst▸hr t ht))
 ·intro t ht hst
  exact h (List.mem_append_left _ (by rw[ht,hst];simp))
theorem quh {o e r h}:qa3 o e (r.at h)=qa3 o e r:=rfl
def Eqv (a b:ASt):Prop:=a.heap=b.heap∧∀s,qv s a.env=qv s b.env
theorem Eqv.refl (a:ASt):Eqv a a:=⟨rfl,fun _=>rfl⟩
theorem Eqv.trans {a b c}(h:Eqv a b)(k:Eqv b c):Eqv a c:=⟨h.1.trans k.1,fun s=>(h.2 s).trans (k.2 s)⟩
theorem qle {o a b a'}(h:Eqv a b)(hs:zf p xc h0 o a=some a'):∃b',zf p xc h0 o b=some b'∧Eqv a' b':=by
 rw[qal]at hs
 obtain⟨r,hr,rfl⟩:=Option.map_eq_some_iff.1 hs
 rw[qhf (e':=b.env) (fun s _=>h.2 s),h.1]at hr
 refine⟨⟨qa3 o b.env r,r.heap⟩,by rw[qal,hr];rfl,rfl,fun s=>qb5 (h.2 s)⟩
theorem qj9:∀ {l:List AOper} {a b a':ASt},Eqv a b→yo p xc h0 l a=some a'→∃b',yo p xc h0 l b=some b'∧Eqv a' b'
 | [],a,b,a',h,hs=>by simp only[yo,Option.some.injEq]at hs ⊢;subst hs;exact⟨b,rfl,h⟩
 |o::l,a,b,a',h,hs=>by
  simp only[yo]at hs
  split at hs
  ·rename_i a1 h1
   obtain⟨b1,k1,k2⟩:=qle h h1
   obtain⟨b',k3,k4⟩:=qj9 k2 hs
   exact⟨b',by simp only[yo,k1,k3],k4⟩
  ·cases hs
theorem qud {o e h r}(hs:eff p xc h0 o e h=some r):∃c k,HB h0 o.al (eff p xc h0 o e) h r c k∧(c=.pure∨(c=o.op.cl∧k=o.op.rank)):=by
 unfold eff at hs
 cases hg:yw e o.guard with
 |none=>rw[hg]at hs;cases hs
 |some b=>
  cases b with
  |false=>
   rw[hg]at hs
   cases hs
   exact⟨.pure,0,⟨rfl,fun h'=>by simp only[eff,hg];rfl⟩,.inl rfl⟩
  |true=>
   rw[hg]at hs
   have:=qtt hs
   have heq:(fun h=>qb p xc h0 o.al e h o.op)=eff p xc h0 o e:=by
    funext h;simp only[eff,hg]
   rw[heq]at this
   exact⟨_,_,this,.inr ⟨rfl,rfl⟩⟩
theorem qr6 {a b}(h:qrl a b=true):a.op.cl=.pure∨b.op.cl=.pure∨a.op.cl=.frz∨b.op.cl=.frz∨(a.op.cl=.read∧b.op.cl=.read)∨(a.op.cl=.alloc∧b.op.cl=.alloc∧a.op.rank≠b.op.rank) ∨
  (a.op.cl=.alloc∧(b.op.cl=.read∨b.op.cl=.write∨b.op.cl=.take)∧qaz b.al a.op.rank=false)∨((a.op.cl=.read∨a.op.cl=.write∨a.op.cl=.take)∧b.op.cl=.alloc∧qaz a.al b.op.rank=false)∨(a.op.cl=.take∧b.op.cl=.take∧a.op.rank≠b.op.rank)∨((a.op.cl=.read∨a.op.cl=.write∨a.op.cl=.take)∧(b.op.cl=.read∨b.op.cl=.write∨b.op.cl=.take)∧qen a.al b.al=true)∨qm6 b.op.cl a.op.cl b.op.rank a.op.rank b.al a.al:=by
 unfold qrl at h
 rw[Bool.or_eq_true]at h
 rcases h with h|h
 ·simp only[Bool.and_eq_true]at h
  obtain⟨⟨h1,h2⟩,h3⟩:=h
  have hb:∀ {c:Cls},c.box=true→c=.read∨c=.write∨c=.take:=fun {c} hc=>by cases c<;>first|(cases hc;done)|simp
  simp only[hb h1,hb h2,h3,and_self,or_true,true_or]
 unfold qm6
 cases ha:a.op.cl<;>cases hb:b.op.cl<;>simp_all
theorem qd1 {a b}(h:qez a b=true){s}(hs:s∈a):s ∉ b:=by
 unfold qez at h
 rw[List.all_eq_true]at h
 have:=h s hs
 simpa using this
theorem jdb {a b st s1 s2}(hm:qc6 b a=true)(h1:zf p xc h0 b st=some s1)(h2:zf p xc h0 a s1=some s2):
  ∃t1 t2,zf p xc h0 a st=some t1∧zf p xc h0 b t1=some t2∧Eqv s2 t2:=by
 rw[qal]at h1
 obtain⟨rb,hb,rfl⟩:=Option.map_eq_some_iff.1 h1
 rw[qal]at h2
 obtain⟨ra,ha,rfl⟩:=Option.map_eq_some_iff.1 h2
 simp only[qc6,Bool.and_eq_true]at hm
 obtain⟨⟨⟨hc,d1⟩,d2⟩,d3⟩:=hm
 have sb:∀t,rb.strip=some t→t∈b.op.strips:=fun t ht=>qj0 hb ht
 have sa:∀t,ra.strip=some t→t∈a.op.strips:=fun t ht=>qj0 ha ht
 -- the later one reads nothing that the earlier one writes
 have ha':eff p xc h0 a st.env rb.heap=some ra:=by
  rw[←ha]
  refine qhf fun s hs=>(kr sb ?_).symm
  exact fun hw=>qd1 d1 hw hs
 obtain⟨cb,kb,Hb,ob⟩:=qud hb
 obtain⟨ca,ka,Ha,oa⟩:=qud ha'
 have hap:((cb=.read∨cb=.write∨cb=.take)∧(ca=.read∨ca=.write∨ca=.take)∧qen b.al a.al=true)∨(cb=.pure∨ca=.pure∨(cb=.read∧ca=.read)∨(cb=.alloc∧ca=.alloc∧kb≠ka)∨(cb=.alloc∧(ca=.read∨ca=.write∨ca=.take)∧qaz a.al kb=false)∨((cb=.read∨cb=.write∨cb=.take)∧ca=.alloc∧qaz b.al ka=false)∨(cb=.take∧ca=.take∧kb≠ka))∨qm6 ca cb ka kb a.al b.al:=by
  rcases ob with rfl|⟨rfl,rfl⟩
  ·exact .inr (.inl (.inl rfl))
  rcases oa with rfl|⟨rfl,rfl⟩
  ·exact .inr (.inl (.inr (.inl rfl)))
  rcases qr6 hc with h|h|h|h|h|h|h|h|h|h|h
  ·exact .inr (.inl (.inl h))
  ·exact .inr (.inl (.inr (.inl h)))
  ·rw[h]at Hb;exact Hb.elim
  ·rw[h]at Ha;exact Ha.elim
  ·exact .inr (.inl (.inr (.inr (.inl h))))
  ·exact .inr (.inl (.inr (.inr (.inr (.inl h)))))
  ·exact .inr (.inl (.inr (.inr (.inr (.inr (.inl h))))))
  ·exact .inr (.inl (.inr (.inr (.inr (.inr (.inr (.inl h)))))))
  ·exact .inr (.inl (.inr (.inr (.inr (.inr (.inr (.inr h)))))))
  ·exact .inl h
  ·exact .inr (.inr h)
 have hsw:∃h1,eff p xc h0 a st.env st.heap=some (ra.at h1)∧eff p xc h0 b st.env h1=some (rb.at ra.heap):=by
  rcases hap with⟨q1,q2,q3⟩|hok|hok
  ·exact qvx hb ha' Hb Ha q1 q2 q3
  ·exact qyq hb ha' Hb Ha hok
  ·exact qz0 hb ha' Hb Ha hok
 obtain⟨h3,k1,k2⟩:=hsw
 have k2':eff p xc h0 b (qa3 a st.env (ra.at h3)) h3=some (rb.at ra.heap):=by
  rw[←k2]
  refine qhf fun s hs=>kr (fun t ht=>sa t ht) ?_
  exact fun hw=>qd1 d3 hw hs
 refine⟨⟨qa3 a st.env (ra.at h3),h3⟩,⟨qa3 b (qa3 a st.env (ra.at h3)) (rb.at ra.heap),ra.heap⟩,by rw[qal,k1];rfl,by rw[qal];simp only[k2'];rfl,rfl,fun s=>?_⟩
 simp only[quh]
 by_cases hw:s∈a.writes
 ·have hnb:s ∉ b.writes:=fun h=>qd1 d2 h hw
  rw[kr sb hnb]
  exact qb5 (kr sb hnb)
 ·rw[kr sa hw]
  exact qb5 (kr sa hw).symm
theorem qkj:∀ {l1 l2:List AOper} {a:AOper} {st s2:ASt},(∀b∈l1,qc6 b a=true)→yo p xc h0 (l1++a::l2) st=some s2 →
  ∃t1 t2,zf p xc h0 a st=some t1∧yo p xc h0 (l1++l2) t1=some t2∧Eqv s2 t2
 | [],l2,a,st,s2,_,hs=>by
  simp only[List.nil_append,yo]at hs
  split at hs
  ·rename_i t1 h1;exact⟨t1,s2,h1,hs,Eqv.refl _⟩
  ·cases hs
 |b::l1,l2,a,st,s2,hm,hs=>by
  simp only[List.cons_append,yo]at hs
  split at hs
  ·rename_i s h1
   obtain⟨u1,u2,h2,h3,h4⟩:=qkj (fun c hc=>hm c (by simp[hc])) hs
   obtain⟨t1,t2,h5,h6,h7⟩:=jdb (hm b (by simp)) h1 h2
   obtain⟨u3,h8,h9⟩:=qj9 h7 h3
   exact⟨t1,u3,h5,by simp only[List.cons_append,yo,h6,h8],h4.trans h9⟩
  ·cases hs
end
def StOk (P:Program)(w0:World)(C0 C:Ctx)(nt:Nat)(st:ASt)(a:Act)(w:World):Prop:=
 a.tmps.size=nt∧∃C' ω',C.le C'∧Marks C' w0.heap.size a.defers∧MInv P C' ω' w0 C0 st.heap w∧EnvRel C' ω' w w0.heap.size st.env a.tmps
structure qkg (P:Program)(nt:Nat)(ops:Array Oper)(o:Oper)(ao:AOper):Prop where
 op:∃h md r,(cOp P h md r o.dst o.op).getD .bad=ao.op
 guard:qgd ops o.guard=some ao.guard
 dst:ao.dst=ao.op.dstOf o.dst
 fits:∀d,o.dst=some d→d<nt
 vfits:∀d,ao.op.vdst=some d→d<nt
 vone:∀d,ao.op.vdst=some d→o.dst=none∧o.guard=none
section
variable {P:Program}{p:je}{xc:XC}{C C0:Ctx}{w0:World}{nt h0:Nat}{ops:Array Oper}{ρ:Option Nat}
theorem StOk.eqv {st st' a w}(h:StOk P w0 C0 C nt st a w)(he:Eqv st st'):StOk P w0 C0 C nt st' a w:=by
 obtain⟨h1,C',ω',h3,h2,h4,h5⟩:=h
 exact⟨h1,C',ω',h3,h2,he.1▸h4,fun s x hx=>h5 s x (by rw[he.2 s];exact hx)⟩
theorem EnvRel.putAt {ω w B d e tmps v u o}(he:EnvRel C ω w B e tmps)(hd:d<tmps.size)(hr:Rep C v u)(ho:o=true→OwnV C ω w B (.slot d) v u):EnvRel C ω w B ((d,v,o)::e) (tmps.setIfInBounds d u):=by
 intro s x hx
 by_cases hsd:s=d
 ·subst hsd
  rw[qan]at hx
  cases hx
  exact⟨u,by simp[hd],hr,ho⟩
 ·rw[qcp hsd]at hx
  obtain⟨y,h1,h2,h3⟩:=he s x hx
  exact⟨y,by rw[Array.getElem?_setIfInBounds_ne (Ne.symm hsd)];exact h1,h2,h3⟩
theorem qt8 {ao:AOper}{st:ASt}{a:Act}{w:World}{C1:Ctx}{ω1:Nat→Option Loc}{e:Env}{h:qi}{v:AVal}{u:Value}{own:Bool}{o:Oper}(hd:ao.dst=o.dst)(hf:∀d,o.dst=some d→d<nt)(hs:a.tmps.size=nt)(hdf:Marks C1 w0.heap.size a.defers)(hle:C.le C1)(m:MInv P C1 ω1 w0 C0 h w)(he:EnvRel C1 ω1 w w0.heap.size e a.tmps)(hr:Rep C1 v u)(ho:own=true→OwnV C1 ω1 w w0.heap.size (.slot (o.dst.getD 0)) v u):
  StOk P w0 C0 C nt ⟨k9 e ao.dst v own,h⟩ (a.put o.dst u) w:=by
 rw[hd]
 cases hod:o.dst with
 |none=>exact⟨hs,C1,ω1,hle,hdf,m,he⟩
 |some d=>
  rw[hod]at ho
  refine⟨by simpa[Act.put]using hs,C1,ω1,hle,hdf,m,?_⟩
  exact he.putAt (hs▸hf d hod) hr ho
theorem qme {o:Oper}{ao:AOper}{e tmps ω w B b}(he:EnvRel C ω w B e tmps)(hg:qgd ops o.guard=some ao.guard)(hb:yw e ao.guard=some b):Region.wanted o (yielded ops tmps)=b:=by
 unfold Region.wanted
 cases hog:o.guard with
 |none=>
  rw[hog]at hg
  simp only[qgd,Option.some.injEq]at hg
  rw[←hg]at hb
  simp only[yw,Option.some.injEq]at hb
  exact hb
 |some g=>
  obtain⟨j,want⟩:=g
  rw[hog]at hg
  simp only[qgd]at hg
  split at hg
  ·rename_i d hd
   have hgd:=Option.some.inj hg
   rw[←hgd]at hb
   simp only[yw]at hb
   split at hb
   ·rename_i c ow hl
    cases hb
    obtain⟨v,h1,h2,_⟩:=he d _ hl
    have:=h2.bool_inv
    subst this
    simp only[yielded,hd,Option.bind_some,h1]
    cases c<;>cases want<;>rfl
   ·rename_i ow hl
    cases hb
    obtain⟨v,h1,h2,_⟩:=he d _ hl
    have hv:v=.tuple #[]:=by cases h2;rfl
    subst hv
    simp only[yielded,hd,Option.bind_some,h1]
    rfl
   ·cases hb
  ·cases hg
theorem qpp {h md r d op n s y}(hno:∀t x z,op≠.store t x z):(cOp P h md r d op).getD .bad≠.vstore n s y:=by
 intro hc
 cases hco:cOp P h md r d op with
 |none=>rw[hco]at hc;cases hc
 |some a=>
  rw[hco]at hc
  simp only[Option.getD_some]at hc
  subst hc
  cases op<;>simp only[cOp,cond_eq_ite]at hco<;>(try exact hno _ _ _ rfl)<;>(repeat' split at hco)<;>(try split at hco)<;>(try contradiction)<;>(try simp at hco)<;>(try (split at hco<;>simp at hco))<;>(try (unfold qnd at hco; (repeat' split at hco)<;>simp at hco))<;>(try (simp only[qvd,cEq]at hco; (repeat' split at hco)<;>simp at hco))<;>(try (simp only[qgk]at hco; (repeat' split at hco)<;>(try contradiction)<;>(try simp at hco)<;>(try (split at hco<;>simp at hco))))
theorem qqf (hp':ProgOk P p)(hx:CodeOk P xc){i:Nat}{o:Oper}{ao:AOper}{st st':ASt}{a:Act}{w:World}{Q:Exit→Act→World→Prop}{K:Act→World→Prop}(hi:ops[i]?=some o)(hr:qkg P nt ops o ao)(hs:zf p xc h0 ao st=some st')(hst:StOk P w0 C0 C nt st a w)
  (hK:∀a' w',StOk P w0 C0 C nt st' a' w'→K a' w'):wpOpIn (yc ρ) 0 P ops Q i K a w:=by
 obtain⟨hsz,C1,ω1,hle,hdf,m,he⟩:=hst
 unfold wpOpIn
 rw[hi]
 simp only[]
 unfold zf at hs
 split at hs
 ·rename_i hg
  rw[qme he hr.guard hg]
  simp only[if_true]
  split at hs
  ·rename_i res hres
   cases hs
   obtain⟨h,md,r,hop⟩:=hr.op
   cases hvd:ao.op.vdst with
   |some sv=>
    -- the one write of a variable
    have hshape:∃n y',ao.op=.vstore n sv y':=by
     cases hao:ao.op<;>rw[hao]at hvd<;>simp[AOp.vdst]at hvd
     subst hvd;exact⟨_,_,rfl⟩
    obtain⟨n,y',hao⟩:=hshape
    have hdd:ao.dst=some sv:=by rw[hr.dst,hao];rfl
    rw[hao]at hres hop
    have hst:∃t x y,o.op=.store t x y∧qy P t=some n∧ql x=some (.tmp sv)∧ql y=some y':=by
     cases hoo:o.op<;>rw[hoo]at hop
     case store t x y=>
      simp only[cOp]at hop
      split at hop
      ·rename_i n' x' yy hn h1 h2
       simp only[Option.getD_some]at hop
       cases hvt:qsv h x' with
       |none=>rw[hvt]at hop;cases hop
       |some s'=>
        rw[hvt]at hop
        simp only[AOp.vstore.injEq]at hop
        obtain⟨rfl,rfl,rfl⟩:=hop
        refine⟨t,x,y,rfl,hn,?_,h2⟩
        unfold qsv at hvt
        split at hvt
        ·split at hvt
         ·cases hvt;exact h1
         ·cases hvt
        ·cases hvt
      ·cases hop
     all_goals exact absurd hop (qpp (by simp))
    obtain⟨t,x,y,ho,hn,h1,h2⟩:=hst
    simp only[qb,qg]at hres
    split at hres
    ·rename_i mm v hl e2
     cases hk:(Nat.beq mm n&&Nat.beq v.flat.length n&&v.flat.all qf)with
     |false=>rw[hk]at hres;cases hres
     |true=>
      rw[hk]at hres
      simp only[cond_true,val,Option.some.injEq]at hres
      subst hres
      simp only[Bool.and_eq_true]at hk
      obtain⟨⟨k1,k2⟩,k3⟩:=hk
      obtain rfl:=Nat.eq_of_beq_eq_true k1
      obtain⟨w',C',ω',hrun,hle',m',e'⟩:=qrp m he ho hn h1 h2 hl e2 (Nat.eq_of_beq_eq_true k2) k3
      refine⟨fun _ _=>trivial,?_⟩
      rw[Oper.semAt_eq _ _ _ (fun c hc=>by rw[ho]at hc;cases hc),hrun]
      have hod:o.dst=none:=(hr.vone sv hvd).1
      refine hK _ _ ?_
      rw[hod,hdd]
      exact⟨hsz,C',ω',Ctx.le_trans hle hle',hdf.mono hle',m',e'⟩
    ·cases hres
   |none=>
   have hdst0:ao.dst=o.dst:=by rw[hr.dst];cases hao:ao.op<;>rw[hao]at hvd<;>first|rfl|simp[AOp.vdst]at hvd
   have hrun:jz P C1 C0 w0 a (.slot (o.dst.getD 0)) st.env o w res:=by
    cases hc:cOp P h md r o.dst o.op with
    |none=>rw[hc]at hop;simp only[Option.getD_none]at hop;rw[←hop]at hres;simp[qb,qg]at hres
    |some aop=>rw[hc]at hop;simp only[Option.getD_some]at hop;subst hop;exact q0z hp' hx m he hvd hc hres
   have fin:∀v w',jk P C0 w0 C1 a.tmps (.slot (o.dst.getD 0)) st.env res v w'→K (a.put o.dst v) w':=by
    rintro v w' ⟨C2,ω2,h1,h2,h3,h4,h5⟩
    exact hK _ _ (qt8 (st:=st) hdst0 hr.fits hsz (hdf.mono h1) (Ctx.le_trans hle h1) h2 h3 h4 h5)
   refine⟨fun _ _=>trivial,?_⟩
   rw[Oper.semAt_eq _ _ _ (fun c hc=>by
    rw[hc]at hop
    simp only[cOp,Option.getD_none]at hop
    rw[←hop]at hres
    simp[qb,qg]at hres)]
   rcases hrun with⟨v,w',h1,h2⟩|⟨w',h1,h2⟩|⟨f,args,h1,h2⟩|⟨l,f,tmps,assign,body,h1,h2⟩
   ·rw[h1];exact fin v w' h2
   ·rw[h1];exact fin undef w' h2
   ·rw[h1]
    refine⟨fun h=>by simp[yc,Fence.wide]at h,CallsIn.mono (qj3.2 h2) ?_⟩
    rintro e w' ⟨v,rfl,hpost⟩
    exact fin v w' hpost
   ·rw[h1]
    have h2':RoundIn (yc ρ) 0 P l f tmps assign body w _:=h2
    refine⟨fun h=>by simp[yc,Fence.wide]at h,RoundIn.mono h2' ?_⟩
    rintro e w' ⟨v,rfl,hpost⟩
    exact fin v w' hpost
  ·cases hs
 ·rename_i hg
  cases hs
  rw[qme he hr.guard hg]
  simp only[Bool.false_eq_true,if_false]
  have hdst0:ao.dst=o.dst:=by
   cases hvd:ao.op.vdst with
   |none=>rw[hr.dst];cases hao:ao.op<;>rw[hao]at hvd<;>first|rfl|simp[AOp.vdst]at hvd
   |some sv=>
    have h1:=hr.guard
    rw[(hr.vone sv hvd).2]at h1
    simp only[qgd,Option.some.injEq]at h1
    rw[←h1]at hg
    simp[yw]at hg
  exact⟨fun _ _=>trivial,hK _ _ (qt8 (st:=st) hdst0 hr.fits hsz hdf hle m he .undef (by simp))⟩
 ·cases hs
inductive Rels (P:Program)(nt:Nat)(ops:Array Oper):List Nat→List AOper→Prop where
 |nil:Rels P nt ops [] []
 |cons {i:Nat} {o:Oper} {ao:AOper} {l:List Nat} {lo:List AOper} (hi:ops[i]?=some o) (h:qkg P nt ops o ao) (t:Rels P nt ops l lo):Rels P nt ops (i::l) (ao::lo)
theorem qqv (hp':ProgOk P p)(hx:CodeOk P xc){Q st'}(hQ:∀a' w',StOk P w0 C0 C nt st' a' w'→Q .normal a' w'):∀ {l:List Nat} {lo:List AOper} {st:ASt} {a:Act} {w:World},Rels P nt ops l lo→yo p xc h0 lo st=some st'→StOk P w0 C0 C nt st a w→wpOpsIn (yc ρ) 0 P ops Q l a w
 | [],_,st,a,w,.nil,hs,hst=>by
  simp only[yo,Option.some.injEq]at hs
  subst hs
  exact hQ _ _ hst
 |i::l,_,st,a,w,.cons hi h t,hs,hst=>by
  simp only[yo]at hs
  split at hs
  ·rename_i s1 h1
   rw[wpOpsIn_cons]
   exact qqf hp' hx hi h h1 hst fun a' w' hst'=>qqv hp' hx hQ t hs hst'
  ·cases hs
theorem qlz {h id bef draw}:∀ {os:List Oper} {i:Nat} {rs rs':List (Nat×Nat)} {l:List AOper},qo2 P h nt id ops bef draw os i rs=some (l,rs')→(∀j,os[j]?=ops[i+j]?)→Rels P nt ops (List.range' i os.length) l
 | [],i,rs,rs',l,hc,_=>by
  simp only[qo2,Option.some.injEq,Prod.mk.injEq]at hc
  rw[←hc.1];exact .nil
 |o::os,i,rs,rs',l,hc,hos=>by
  simp only[qo2]at hc
  split at hc
  ·rename_i g hg
   split at hc
   ·rename_i hfit
    split at hc
    ·rename_i l1 rs1 hrest
     simp only[Option.some.injEq,Prod.mk.injEq]at hc
     rw[←hc.1]
     simp only[Bool.and_eq_true]at hfit
     obtain⟨⟨hf1,hf2⟩,hf3⟩:=hfit
     refine .cons (o:=o) (by rw[←Nat.add_zero i,←hos 0];rfl) ⟨⟨h,qut h id i,rs.length,rfl⟩,hg,rfl,fun d hd=>?_,fun d hd=>?_,fun d hd=>?_⟩ ?_
     ·rw[hd]at hf1
      simpa using hf1
     ·simp only at hd
      rw[hd]at hf2
      simpa using hf2
     ·simp only at hd
      rw[hd]at hf3
      simpa using hf3
     ·exact qlz hrest (fun j=>by rw[show i+1+j=i+(j+1)from by omega,←hos (j+1)];rfl)
    ·cases hc
   ·cases hc
  ·cases hc
theorem MInv.holes {ω w hp}(m:MInv P C ω w0 C0 hp w)(n:Nat):MInv P C ω w0 C0 (hp++List.replicate n .hole) w:=
 { m with
  lt:=fun b r hb=>⟨(m.lt b r hb).1,by rw[List.length_append];have:=(m.lt b r hb).2;omega⟩
  box:=fun b x r hx hb=>m.box b x r (by rw[List.getElem?_append_left (m.lt b r hb).2]at hx;exact hx) hb }
theorem qn1 {l e s x}:qv s (qak e l)=some x→qv s e=some x:=by
 induction l with
 |nil=>simp[qak,qv]
 |cons t l ih=>
  intro h
  simp only[qak]at h
  split at h
  ·rename_i y hy
   by_cases hst:s=t
   ·subst hst;rw[qan]at h;rw[hy];exact h
   ·rw[qcp hst]at h;exact ih h
  ·exact ih h
theorem StOk.keep {st a w k}(h:StOk P w0 C0 C nt st a w):StOk P w0 C0 C nt (qev st k) a w:=by
 cases k with
 |none=>exact h
 |some l=>
  obtain⟨h1,C',ω',h3,h2,h4,h5⟩:=h
  exact⟨h1,C',ω',h3,h2,h4,fun s x hx=>h5 s x (qn1 hx)⟩
theorem qiw {listed:Array Bool}{i j d}:(listed.setIfInBounds i true).getD j d=if i=j∧j<listed.size then true else listed.getD j d:=by
 simp only[Array.getD_eq_getD_getElem?,Array.getElem?_setIfInBounds]
 by_cases hij:i=j
 ·subst hij
  by_cases hl:i<listed.size
  ·simp[hl]
  ·simp[hl]
 ·simp[hij]
theorem Eqv.symm' {a b}(h:Eqv a b):Eqv b a:=⟨h.1.symm,fun s=>(h.2 s).symm⟩
def pick (full:List AOper)(l:List Nat):List AOper:=l.map fun i=>full.getD i default
theorem Rels.get {l lo}(h:Rels P nt ops l lo):l.length=lo.length∧∀k i,l[k]?=some i→∃o,ops[i]?=some o∧qkg P nt ops o (lo.getD k default):=by
 induction h with
 |nil=>exact⟨rfl,by simp⟩
 |cons hi h t ih=>
  refine⟨by simp[ih.1],fun k i hk=>?_⟩
  cases k with
  |zero=>simp at hk;subst hk;exact⟨_,hi,h⟩
  |succ k=>simp at hk;obtain⟨o,h1,h2⟩:=ih.2 k i hk;exact⟨o,h1,by simpa using h2⟩
theorem qzy {full:List AOper}{bef:Array Nat}(hp':ProgOk P p)(hx:CodeOk P xc){Q st'}(hQ:∀a' w',StOk P w0 C0 C nt st' a' w'→Q .normal a' w')
  (hfull:∀i o,ops[i]?=some o→qkg P nt ops o (full.getD i default)) (hpass:∀i j,i<j→j<ops.size→(bef.getD j 0).testBit i=false→qc6 (full.getD i default) (full.getD j default)=true)
  (hbef:∀j o i,ops[j]?=some o→i<ops.size→(bef.getD j 0).testBit i=true→∃e∈o.after,Region.binds .any e=true∧(e.on=i∨(bef.getD e.on 0).testBit i=true))
  (hedge:∀i o,ops[i]?=some o→∀e∈o.after,Region.binds .any e=true→e.on<i):
  ∀(fuel:Nat) (listed:Array Bool) (l:List Nat) (st s2:ASt) (a:Act) (w:World),listed.size=ops.size→l.Pairwise (· < ·)→(∀i,i∈l↔i<ops.size∧listed.getD i true=false)→l.length≤fuel →
   (∀k i,i<ops.size→listed.getD k false=true→(bef.getD k 0).testBit i=true→listed.getD i false=true)→yo p xc h0 (pick full l) st=some s2→Eqv s2 st'→StOk P w0 C0 C nt st a w→wpAnyIn (yc ρ) 0 P .any ops Q fuel listed a w:=by
 intro fuel
 induction fuel with
 |zero=>
  intro listed l st s2 a w hsz hsorted hmem hlen hclosed hs heq hst
  have hl:l=[]:=List.length_eq_zero_iff.1 (by omega)
  subst hl
  simp only[pick,List.map_nil,yo,Option.some.injEq]at hs
  subst hs
  refine⟨?_,hQ _ _ (hst.eqv heq)⟩
  cases hr:Region.ready .any ops listed with
  |nil=>rfl
  |cons i rs=>
   have hi:i∈Region.ready .any ops listed:=by rw[hr];simp
   obtain⟨h1,o,ho,_⟩:=mem_ready.1 hi
   have:=(hmem i).2 ⟨(Array.getElem?_eq_some_iff.1 ho).1,h1⟩
   cases this
 |succ fuel ih=>
  intro listed l st s2 a w hsz hsorted hmem hlen hclosed hs heq hst
  refine⟨fun hr=>?_,fun i hi=>?_⟩
  ·cases l with
   |nil=>
    simp only[pick,List.map_nil,yo,Option.some.injEq]at hs
    subst hs
    exact hQ _ _ (hst.eqv heq)
   |cons i l=>
    exfalso
    obtain⟨h1,h2⟩:=(hmem i).1 (by simp)
    have hi:i∈Region.ready .any ops listed:=by
     refine mem_ready.2 ⟨h2,ops[i],Array.getElem?_eq_getElem h1,fun e he hb=>?_⟩
     have hlt:=hedge i _ (Array.getElem?_eq_getElem h1) e he hb
     have hne:e.on ∉ i::l:=fun hm=>by
      rcases List.mem_cons.1 hm with h|h
      ·omega
      ·have:=(List.pairwise_cons.1 hsorted).1 _ h;omega
     have h3:¬(listed.getD e.on true=false):=fun h=>hne ((hmem e.on).2 ⟨by omega,h⟩)
     have hlt2:e.on<listed.size:=by omega
     simp only[Array.getD_eq_getD_getElem?,Array.getElem?_eq_getElem hlt2,Option.getD_some]at h3 ⊢
     simpa using h3
    rw[hr]at hi
    cases hi
  ·obtain⟨h1,o,ho,hall⟩:=mem_ready.1 hi
   have hlt:=(Array.getElem?_eq_some_iff.1 ho).1
   have him:i∈l:=(hmem i).2 ⟨hlt,h1⟩
   obtain⟨l1,l2,rfl⟩:=List.append_of_mem him
   have hunl:∀k,k∈l1++i::l2→listed.getD k false=true→False:=fun k hk hl=>by
    obtain⟨k1,k2⟩:=(hmem k).1 hk
    have hlt2:k<listed.size:=by omega
    simp only[Array.getD_eq_getD_getElem?,Array.getElem?_eq_getElem hlt2,Option.getD_some]at hl k2
    rw[hl]at k2;cases k2
   have hbi:∀k,k<ops.size→(bef.getD i 0).testBit k=true→listed.getD k false=true:=fun k hk hb=>by
    obtain⟨e,he,hb1,h2|h2⟩:=hbef i o k ho hk hb
    ·rw[←h2];exact hall e he hb1
    ·exact hclosed e.on k hk (hall e he hb1) h2
   have hm:∀b∈pick full l1,qc6 b (full.getD i default)=true:=by
    intro b hb
    obtain⟨k,hk,rfl⟩:=List.mem_map.1 hb
    have hki:k<i:=(List.pairwise_append.1 hsorted).2.2 k hk i (by simp)
    refine hpass k i hki hlt ?_
    cases hbit:(bef.getD i 0).testBit k with
    |false=>rfl
    |true=>exact(hunl k (by simp[hk]) (hbi k (by omega) hbit)).elim
   have hpk:pick full (l1++i::l2)=pick full l1++full.getD i default::pick full l2:=by simp[pick]
   rw[hpk]at hs
   obtain⟨t1,t2,g1,g2,g3⟩:=qkj hm hs
   refine qqf hp' hx ho (hfull i o ho) g1 hst fun a' w' hst'=>?_
   refine ih (listed.setIfInBounds i true) (l1++l2) t1 t2 a' w' (by simpa using hsz) ?_ ?_ ?_ ?_ (by rw[show pick full (l1++l2)=pick full l1++pick full l2 from by simp[pick]];exact g2) (Eqv.trans (Eqv.symm' g3) heq) hst'
   ·exact hsorted.sublist (List.Sublist.append (List.Sublist.refl _) (List.sublist_cons_self _ _))
   ·intro k
    rw[qiw]
    have hnod:i ∉ l1∧i ∉ l2:=by
     have h:=List.pairwise_append.1 hsorted
     refine⟨fun hi1=>?_,fun hi2=>?_⟩
     ·have:=h.2.2 i hi1 i (by simp);omega
     ·have:=(List.pairwise_cons.1 h.2.1).1 i hi2;omega
    constructor
    ·intro hk
     have hki:k≠i:=fun h=>by
      subst h
      rcases List.mem_append.1 hk with h|h
      ·exact hnod.1 h
      ·exact hnod.2 h
     have:=(hmem k).1 (by rcases List.mem_append.1 hk with h|h<;>simp[h])
     rw[if_neg (by omega)]
     exact this
    ·rintro ⟨k1,k2⟩
     split at k2
     ·cases k2
     ·rename_i hne
      have hki:k≠i:=fun h=>hne ⟨h.symm,by omega⟩
      have:=(hmem k).2 ⟨k1,k2⟩
      rcases List.mem_append.1 this with h|h
      ·simp[h]
      ·rcases List.mem_cons.1 h with h|h
       ·exact absurd h hki
       ·simp[h]
   ·simp at hlen ⊢;omega
   ·intro k j hj hk hb
    rw[qiw]at hk ⊢
    split
    ·rfl
    ·split at hk
     ·rename_i hik
      rw[←hik.1]at hb
      exact hbi j hj hb
     ·exact hclosed k j hj hk hb
theorem qqd {bef l}(h:qn3 bef l=true){i j}(hij:i<j)(hj:j<l.length)(hb:(bef.getD j 0).testBit i=false):qc6 (l.getD i default) (l.getD j default)=true:=by
 unfold qn3 at h
 rw[List.all_eq_true]at h
 have h1:=h (l[j],j) (List.mem_zipIdx_iff_getElem?.2 (by simp[hj]))
 simp only[]at h1
 rw[List.all_eq_true]at h1
 have h2:=h1 (l[i]'(by omega),i) (List.mem_zipIdx_iff_getElem?.2 (by simp))
 simp only[hij,hb,decide_true,Bool.not_true,Bool.false_or]at h2
 simp only[List.getD_eq_getElem?_getD,List.getElem?_eq_getElem hj,List.getElem?_eq_getElem (show i<l.length by omega),Option.getD_some]
 exact h2
theorem qsg {bef}(h:qrr bef ops=true){j i o}(ho:ops[j]?=some o)(hi:i<ops.size)(hb:(bef.getD j 0).testBit i=true):∃e∈o.after,Region.binds .any e=true∧(e.on=i∨(bef.getD e.on 0).testBit i=true):=by
 unfold qrr at h
 rw[List.all_eq_true]at h
 have h1:=h (o,j) (List.mem_zipIdx_iff_getElem?.2 (by simpa using ho))
 simp only[]at h1
 rw[List.all_eq_true]at h1
 have h2:=h1 i (List.mem_range.2 hi)
 rw[hb]at h2
 simp only[Bool.not_true,Bool.false_or,Array.any_eq_true']at h2
 obtain⟨e,he,h3⟩:=h2
 simp only[Bool.and_eq_true,Bool.or_eq_true,beq_iff_eq]at h3
 exact⟨e,he,h3.1,h3.2⟩
theorem qom (h:qlo ops=true){i o}(ho:ops[i]?=some o):∀e∈o.after,Region.binds .any e=true→e.on<i:=by
 intro e he hb
 unfold qlo at h
 rw[List.all_eq_true]at h
 have h1:=h (o,i) (List.mem_zipIdx_iff_getElem?.2 (by simpa using ho))
 simp only[Array.all_eq_true']at h1
 have:=h1 e he
 simpa[hb]using this
theorem qur (hp':ProgOk P p)(hx:CodeOk P xc){id:Nat}{draw:Bool}{ca h na l keep}(hc:qgb P h nt id ops draw=some ca)(hca:ca=.region na l keep){st st' x}(hs:yx p xc na l keep st=some (x,st')){ω a w}
  (m:MInv P C ω w0 C0 st.heap w) (he:EnvRel C ω w w0.heap.size st.env a.tmps) (hsz:a.tmps.size=nt) (hdf:Marks C w0.heap.size a.defers):
  (Code.region id ops draw).wpIn (yc ρ) 0 P (fun e a' w'=>e=qjg x∧StOk P w0 C0 C nt st' a' w') a w:=by
 subst hca
 unfold qgb at hc
 split at hc
 ·rename_i l' rs hl
  split at hc
  ·rename_i hd
   simp only[Option.some.injEq,ACode.region.injEq]at hc
   obtain⟨rfl,rfl,hkeep⟩:=hc
   unfold yx at hs
   split at hs
   ·rename_i s1 h1
    cases hs
    have hrels:Rels P nt ops (List.range' 0 ops.size) l':=by
     have:=qlz hl (ops:=ops) (fun j=>by simp)
     simpa using this
    have hQ:∀a' w',StOk P w0 C0 C nt s1 a' w'→(fun e a' w'=>e=qjg .normal∧StOk P w0 C0 C nt (qev s1 keep) a' w') Exit.normal a' w':=fun a' w' hst=>⟨rfl,hst.keep⟩
    cases draw with
    |false=>
     refine wpIn_region ?_
     rw[List.range_eq_range']
     exact qqv hp' hx hQ hrels h1 ⟨hsz,C,ω,Ctx.le_refl C,hdf,m.holes _,he⟩
    |true=>
     simp only[Bool.not_true,Bool.false_or,Bool.and_eq_true]at hd
     obtain⟨⟨d1,d2⟩,d3⟩:=hd
     refine wpIn_region_any hp'.mixed ?_
     obtain⟨hlen,hget⟩:=hrels.get
     have hlen':l'.length=ops.size:=by rw[←hlen];simp
     have hfull:∀i o,ops[i]?=some o→qkg P nt ops o (l'.getD i default):=by
      intro i o ho
      have hi:=(Array.getElem?_eq_some_iff.1 ho).1
      obtain⟨o',h2,h3⟩:=hget i i (by rw[List.getElem?_range' hi];simp)
      rw[ho]at h2;cases h2;exact h3
     have hpk:pick l' (List.range ops.size)=l':=by
      apply List.ext_getElem?
      intro k
      simp only[pick,List.getElem?_map]
      by_cases hk:k<ops.size
      ·rw[List.getElem?_range hk]
       simp[List.getElem?_eq_getElem (show k<l'.length by omega)]
      ·rw[List.getElem?_eq_none (by simpa using hk),List.getElem?_eq_none (by omega)];rfl
     refine qzy (bef:=Region.before ops) (full:=l') hp' hx hQ hfull (fun i j h2 h3 h4=>qqd d1 h2 (by omega) h4) (fun j o i h2 h3 h4=>qsg d3 h2 h3 h4) (fun i o h2=>qom d2 h2) ops.size _ (List.range ops.size) ⟨st.env,st.heap++List.replicate rs.length .hole⟩ s1 a _ (by simp) List.pairwise_lt_range ?_ (by simp) ?_ (by rw[hpk];exact h1) (Eqv.refl _) ⟨hsz,C,ω,Ctx.le_refl C,hdf,(m.holes _).ext (Ext.drew w),he.ext (Ext.drew w)⟩
     ·intro i
      simp only[List.mem_range,Array.getD_eq_getD_getElem?,Array.getElem?_replicate]
      constructor
      ·intro hi;exact⟨hi,by simp[hi]⟩
      ·exact fun hi=>hi.1
     ·intro k i hi hk
      simp only[Array.getD_eq_getD_getElem?,Array.getElem?_replicate]at hk
      split at hk<;>simp at hk
   ·cases hs
  ·cases hc
 ·cases hc
end
end Go.Abs
