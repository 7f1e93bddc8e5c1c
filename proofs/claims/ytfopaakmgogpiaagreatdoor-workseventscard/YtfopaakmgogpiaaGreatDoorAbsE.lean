/- Each operation by itself, third part. -/
import Derived.Test.YtfopaakmgogpiaaGreatDoorAbsD
import Derived.RangeFuncLeaves
set_option linter.unusedVariables false
set_option linter.unusedSimpArgs false
namespace Go.Abs
section
variable {P:Program}{p:qt}{xc:XC}{C C0:Ctx}{ω:Nat→Option Loc}{w w0:World}{hp:j8}{env:Env}{a:Act}{o:Oper}{d:Loc}{h:qb}{md:jc}{r h0:Nat}{dst:Option Nat}{al:Option (List Nat)}{aop:qw}{res:qq}
theorem jcm (m:MInv P C ω w0 C0 hp w)(e:EnvRel C ω w w0.heap.size env a.tmps){t:TypeId}{ps:Array (Nat×Operand)}(ho:o.op=.build t ps)(hc:cOp P h md r dst (.build t ps)=some aop)(hs:j9 p xc h0 al env hp aop=some res):qad P C C0 w0 a d env o w res:=by
 simp only[cOp]at hc
 split at hc
 ·rename_i fs z ht hz
  split at hc
  ·rename_i hall
   obtain⟨ps',hps,rfl⟩:=Option.map_eq_some_iff.1 hc
   simp only[j9,zh]at hs
   split at hs
   ·rename_i qs hq
    split at hs
    ·rename_i cs hf
     obtain rfl:=zx hs
     exact yd m e (qvh e.rep ho ht hz (fun f hf=>List.all_eq_true.1 hall f hf) hps hq hf)
    ·cases hs
   ·cases hs
  ·cases hc
 ·rename_i len el z ht hz
  split at hc
  ·rename_i n hn
   obtain⟨ps',hps,rfl⟩:=Option.map_eq_some_iff.1 hc
   simp only[j9,zh]at hs
   split at hs
   ·rename_i qs hq
    split at hs
    ·rename_i cs hf
     obtain rfl:=zx hs
     exact yd m e (qy4 e.rep ho ht hz hn hps hq hf)
    ·cases hs
   ·cases hs
  ·cases hc
 ·cases hc
theorem qyf (m:MInv P C ω w0 C0 hp w)(e:EnvRel C ω w w0.heap.size env a.tmps){t:TypeId}{n:Nat}{ps:Array (Nat×Operand)}(ho:o.op=.buildSlice t n ps)(hc:cOp P h md r dst (.buildSlice t n ps)=some aop)(hs:j9 p xc h0 al env hp aop=some res):qad P C C0 w0 a d env o w res:=by
 simp only[cOp]at hc
 split at hc
 ·rename_i el ht
  split at hc
  ·rename_i sz z ag es hn hz hag hps
   split at hc
   ·rename_i hb
    cases hc
    simp only[Bool.and_eq_true,decide_eq_true_eq,beq_iff_eq]at hb
    generalize (dst.map (h.vec.contains ·)).getD false=bb at hs
    cases bb with
    |true=>
     simp only[if_true,j9,zj]at hs
     split at hs
     ·rename_i qs hq
      split at hs
      ·rename_i xs hx
       cases hpx:zu 0 xs with
       |false=>rw[hpx]at hs;cases hs
       |true=>
        rw[hpx]at hs
        simp only[cT]at hs
        split at hs
        ·rename_i h' hnew
         obtain rfl:=zx hs
         exact .inl (jev m e ho ht hn hz hb.1.1.1.1 hb.1.1.1.2 hb.1.1.2 hps hq hx hpx hnew)
        ·cases hs
      ·cases hs
     ·cases hs
    |false=>
    simp only[Bool.false_eq_true,if_false,j9,zh]at hs
    split at hs
    ·rename_i qs hq
     split at hs
     ·rename_i xs hx
      cases hs
      exact .inl (qy1 m e ho ht hn hz hb.1.1.1.1 hb.1.1.1.2 hb.1.1.2 hps hq hx)
     ·cases hs
    ·cases hs
   ·cases hc
  ·cases hc
 ·cases hc
theorem q0t (m:MInv P C ω w0 C0 hp w)(e:EnvRel C ω w w0.heap.size env a.tmps){t:TypeId}{x y:Operand}(ho:o.op=.makeSlice t x y)(hc:cOp P h md r dst (.makeSlice t x y)=some aop)(hs:j9 p xc h0 al env hp aop=some res):qad P C C0 w0 a d env o w res:=by
 simp only[cOp]at hc
 split at hc
 ·rename_i el ht
  split at hc
  ·rename_i sz b z ag x' y' hn hb hz hag h1 h2
   split at hc
   ·cases hc
    generalize hR:(if(Option.map (fun x=>h.muts.contains x) dst).getD false=true then some r else none)=R at hs
    cases R with
    |some rr=>
     simp only[j9,zj]at hs
     split at hs
     ·rename_i n c e1 e2
      cases hk:(Nat.beq n c&&Nat.ble n 1073741824&&Nat.ble b 4096&&Nat.beq z.length sz&&Nat.blt 0 sz&&z.all ze)with
      |false=>simp[hk]at hs
      |true=>
       simp only[hk,cT]at hs
       split at hs
       ·rename_i h' hnew
        obtain rfl:=zx hs
        simp only[Bool.and_eq_true]at hk
        obtain⟨⟨⟨⟨⟨k1,k2⟩,k3⟩,k4⟩,k5⟩,k6⟩:=hk
        obtain rfl:=Nat.eq_of_beq_eq_true k1
        exact .inl (qzh m e ho ht hn hb hz (Nat.blt_eq.mp k5) (Nat.eq_of_beq_eq_true k4) h1 h2 e1 e2 (Nat.le_of_ble_eq_true k2) (Nat.le_of_ble_eq_true k3) hnew)
       ·cases hs
     ·cases hs
    |none=>
     simp only[j9,zh]at hs
     split at hs
     ·rename_i n c e1 e2
      cases hk:(Nat.beq n c&&Nat.ble n 1073741824&&Nat.ble b 4096&&Nat.beq z.length sz&&Nat.blt 0 sz&&z.all ze)with
      |false=>simp[hk]at hs
      |true=>
       simp only[hk,cT]at hs
       cases hs
       simp only[Bool.and_eq_true]at hk
       obtain⟨⟨⟨⟨⟨k1,k2⟩,k3⟩,k4⟩,k5⟩,k6⟩:=hk
       obtain rfl:=Nat.eq_of_beq_eq_true k1
       exact .inl (q5v m e ho ht hn hb hz (Nat.blt_eq.mp k5) (Nat.eq_of_beq_eq_true k4) h1 h2 e1 e2 (Nat.le_of_ble_eq_true k2) (Nat.le_of_ble_eq_true k3))
     ·cases hs
   ·cases hc
  ·cases hc
 ·cases hc
theorem jb0 (m:MInv P C ω w0 C0 hp w)(e:EnvRel C ω w w0.heap.size env a.tmps){t:TypeId}{x:Operand}{lo hi mx:Option Operand}(ho:o.op=.slice t x lo hi mx)(hc:cOp P h md r dst (.slice t x lo hi mx)=some aop)(hs:j9 p xc h0 al env hp aop=some res):qad P C C0 w0 a d env o w res:=by
 cases mx with
 |some _=>simp[cOp]at hc
 |none=>
  simp only[cOp]at hc
  split at hc
  ·rename_i x' lo' hi' h1 h2 h3
   split at hc
   ·rename_i ht
    cases hc
    simp only[j9,zh]at hs
    split at hs
    ·rename_i s hv
     split at hs
     ·rename_i j hj
      split at hs
      ·rename_i i hi'
       obtain rfl:=zx hs
       exact yd m e (q40 e.rep ho ht h1 h2 h3 hv hj hi')
      ·cases hs
     ·cases hs
    ·cases hs
   ·rename_i el ht
    obtain⟨sz,hn,rfl⟩:=Option.map_eq_some_iff.1 hc
    simp only[j9,zh]at hs
    split at hs
    ·rename_i n sz' xs hv
     cases hk:(Nat.beq sz sz'||xs.isEmpty)with
     |false=>simp[hk]at hs
     |true=>
      simp only[hk,cT]at hs
      split at hs
      ·rename_i j hj
       split at hs
       ·rename_i i hi'
        obtain rfl:=zx hs
        refine yd m e (q0k e.rep ho ht hn h1 h2 h3 hv (.inr ⟨n,sz',xs,rfl,?_,hj,hi',rfl⟩))
        rcases Bool.or_eq_true _ _▸hk with hk|hk
        ·exact .inl (Nat.eq_of_beq_eq_true hk)
        ·exact .inr (List.isEmpty_iff.1 hk)
       ·cases hs
      ·cases hs
    ·rename_i b q len hv
     split at hs
     ·rename_i j hj
      split at hs
      ·rename_i i hi'
       cases hk:(Nat.beq i 0||Nat.blt i j)with
       |false=>simp[hk]at hs
       |true=>
        simp only[hk,cT]at hs
        obtain rfl:=zx hs
        refine yd m e (q0k e.rep ho ht hn h1 h2 h3 hv (.inl ⟨b,q,len,rfl,hj,hi',?_,rfl⟩))
        rcases Bool.or_eq_true _ _▸hk with hk|hk
        ·exact .inl (Nat.eq_of_beq_eq_true hk)
        ·exact .inr (Nat.blt_eq.mp hk)
      ·cases hs
     ·cases hs
    ·rename_i b ver len hv
     split at hs
     ·rename_i j hj
      split at hs
      ·rename_i i hi'
       cases hk:Nat.beq i 0 with
       |false=>simp[hk]at hs
       |true=>
        simp only[hk,cT]at hs
        obtain rfl:=zx hs
        obtain rfl:=Nat.eq_of_beq_eq_true hk
        exact yd m e (q9e e.rep ho ht hn h1 h2 h3 hv hj hi')
      ·cases hs
     ·cases hs
    ·cases hs
   ·rename_i n el ht
    obtain⟨sz,hn,rfl⟩:=Option.map_eq_some_iff.1 hc
    simp only[j9,zh]at hs
    split at hs
    ·rename_i b q hv
     split at hs
     ·rename_i j hj
      split at hs
      ·rename_i i hi'
       cases hk:(Nat.beq i 0||Nat.blt i j)with
       |false=>simp[hk]at hs
       |true=>
        simp only[hk,cT]at hs
        obtain rfl:=zx hs
        refine yd m e (q24 e.rep ho ht hn h1 h2 h3 hv hj hi' ?_)
        rcases Bool.or_eq_true _ _▸hk with hk|hk
        ·exact .inl (Nat.eq_of_beq_eq_true hk)
        ·exact .inr (Nat.blt_eq.mp hk)
      ·cases hs
     ·cases hs
    ·cases hs
   ·cases hc
  ·cases hc
theorem q01 (m:MInv P C ω w0 C0 hp w)(e:EnvRel C ω w w0.heap.size env a.tmps){t:TypeId}{x:Operand}{i:Nat}(ho:o.op=.fieldAddr t x i)(hc:cOp P h md r dst (.fieldAddr t x i)=some aop)(hs:j9 p xc h0 al env hp aop=some res):qad P C C0 w0 a d env o w res:=by
 simp only[cOp]at hc
 split at hc
 ·rename_i fs ht
  split at hc
  ·rename_i f hf
   split at hc
   ·rename_i ag n x' hag hn h1
    split at hc
    ·rename_i hb
     cases hc
     simp only[Bool.and_eq_true,decide_eq_true_eq]at hb
     simp only[j9,zh]at hs
     split at hs
     ·rename_i b q hv
      obtain rfl:=zx hs
      exact yd m e (qpx (ag:=ag) e.rep ho ht hf hn hb.1 h1 hv (.inl ⟨b,q,rfl,rfl⟩))
     ·rename_i cs hv
      split at hs
      ·rename_i z hz
       cases hk:Bool.xor ag z.isAgg with
       |true=>simp[hk]at hs
       |false=>
        simp only[hk,cond_false]at hs
        obtain rfl:=zx hs
        exact yd m e (qpx e.rep ho ht hf hn hb.1 h1 hv (.inr ⟨cs,z,rfl,hz,hk,rfl⟩))
      ·cases hs
     ·rename_i b ver q hv
      obtain rfl:=zx hs
      exact yd m e (qyg e.rep ho ht hf hn hb.1 h1 hv)
     ·cases hs
    ·cases hc
   ·cases hc
  ·cases hc
 ·cases hc
theorem jau (m:MInv P C ω w0 C0 hp w)(e:EnvRel C ω w w0.heap.size env a.tmps){t:TypeId}{x:Operand}{i:Nat}(ho:o.op=.field t x i)(hc:cOp P h md r dst (.field t x i)=some aop)(hs:j9 p xc h0 al env hp aop=some res):qad P C C0 w0 a d env o w res:=by
 simp only[cOp]at hc
 split at hc
 ·rename_i fs ht
  split at hc
  ·rename_i f hf
   split at hc
   ·rename_i ag n x' hag hn h1
    cases hc
    simp only[j9,zh]at hs
    split at hs
    ·rename_i cs hv
     obtain⟨z,hz,rfl⟩:=qd0 hs
     exact yd m e (jbs e.rep ho ht hf hag hn h1 hv hz)
    ·cases hs
   ·cases hc
  ·cases hc
 ·cases hc
theorem q04 (m:MInv P C ω w0 C0 hp w)(e:EnvRel C ω w w0.heap.size env a.tmps){t:TypeId}{x i:Operand}(ho:o.op=.indexAddr t x i)(hc:cOp P h md r dst (.indexAddr t x i)=some aop)(hs:j9 p xc h0 al env hp aop=some res):qad P C C0 w0 a d env o w res:=by
 simp only[cOp]at hc
 split at hc
 ·rename_i x' i' h1 h2
  split at hc
  ·rename_i el ht
   split at hc
   ·rename_i sz hn
    split at hc
    ·cases hc
     simp only[j9,zh]at hs
     split at hs
     ·rename_i nl sz' xs iv hv hi
      cases hk:(Nat.beq sz sz'||xs.isEmpty)with
      |false=>simp[hk]at hs
      |true=>
       simp only[hk,cT]at hs
       split at hs
       ·rename_i j hj
        split at hs
        ·rename_i z hz
         obtain rfl:=zx hs
         have hne:xs.isEmpty=false:=by
          have:=(List.getElem?_eq_some_iff.1 hz).1
          cases xs with
          |nil=>simp at this
          |cons _ _=>rfl
         rw[hne,Bool.or_false]at hk
         obtain rfl:=Nat.eq_of_beq_eq_true hk
         exact yd m e (qpt e.rep ho ht hn h1 h2 hv hi (.inr ⟨nl,xs,z,j,rfl,hj,hz,rfl⟩))
        ·cases hs
       ·cases hs
     ·rename_i b q len iv hv hi
      split at hs
      ·rename_i j hj
       obtain rfl:=zx hs
       exact yd m e (qpt e.rep ho ht hn h1 h2 hv hi (.inl ⟨b,q,len,j,rfl,hj,rfl⟩))
      ·cases hs
     ·rename_i b ver len iv hv hi
      split at hs
      ·rename_i j hj
       obtain rfl:=zx hs
       exact yd m e (qy6 e.rep ho ht hn h1 h2 hv hi hj)
      ·cases hs
     ·cases hs
    ·cases hc
   ·cases hc
  ·rename_i n el ht
   split at hc
   ·rename_i sz ag hn hag
    split at hc
    ·cases hc
     simp only[j9,zh]at hs
     split at hs
     ·rename_i b q iv hv hi
      split at hs
      ·rename_i j hj
       obtain rfl:=zx hs
       exact yd m e (qrk (ag:=ag) e.rep ho ht hn h1 h2 hv hi hj (.inl ⟨b,q,rfl,rfl⟩))
      ·cases hs
     ·rename_i cs iv hv hi
      split at hs
      ·rename_i j hj
       split at hs
       ·rename_i z hz
        cases hk:Bool.xor ag z.isAgg with
        |true=>simp[hk]at hs
        |false=>
         simp only[hk,cond_false]at hs
         obtain rfl:=zx hs
         exact yd m e (qrk e.rep ho ht hn h1 h2 hv hi hj (.inr ⟨cs,z,rfl,hz,hk,rfl⟩))
       ·cases hs
      ·cases hs
     ·cases hs
    ·cases hc
   ·cases hc
  ·cases hc
 ·cases hc
theorem jb8 (m:MInv P C ω w0 C0 hp w)(e:EnvRel C ω w w0.heap.size env a.tmps){t:TypeId}{x i:Operand}(ho:o.op=.index t x i)(hc:cOp P h md r dst (.index t x i)=some aop)(hs:j9 p xc h0 al env hp aop=some res):qad P C C0 w0 a d env o w res:=by
 simp only[cOp]at hc
 split at hc
 ·rename_i x' i' h1 h2
  split at hc
  ·rename_i ht
   cases hc
   simp only[j9,zh]at hs
   split at hs
   ·rename_i s iv hv hi
    split at hs
    ·rename_i j hj
     split at hs
     ·rename_i c hcc
      obtain rfl:=zx hs
      exact yd m e (q3y e.rep ho ht h1 h2 hv hi hj hcc)
     ·cases hs
    ·cases hs
   ·cases hs
  ·rename_i n el ht
   split at hc
   ·rename_i sz ag hn hag
    cases hc
    simp only[j9,zh]at hs
    split at hs
    ·rename_i cs iv hv hi
     split at hs
     ·rename_i j hj
      obtain⟨z,hz,rfl⟩:=qd0 hs
      exact yd m e (jbz e.rep ho ht hag hn h1 h2 hv hi hj hz)
     ·cases hs
    ·cases hs
   ·cases hc
  ·cases hc
 ·cases hc
theorem q5a (m:MInv P C ω w0 C0 hp w)(e:EnvRel C ω w w0.heap.size env a.tmps){c:Call}(ho:o.op=.call c)(hcv:∀f,c.callee≠.value f)(hc:qo8 P h md r dst c=some aop)(hs:j9 p xc h0 al env hp aop=some res):qad P C C0 w0 a d env o w res:=by
 unfold qo8 at hc
 split at hc
 ·rename_i f hf;exact absurd hf (hcv f)
 ·rename_i hcb
  split at hc
  ·rename_i x t hca hct
   split at hc
   ·rename_i ht
    obtain⟨x',hx,rfl⟩:=Option.map_eq_some_iff.1 hc
    simp only[j9,zh]at hs
    split at hs<;>first|(exfalso;omega)|skip
    ·rename_i s _ hv
     obtain rfl:=zx hs
     exact yd m e (qzq e.rep ho hcb hca hct hx hv (.inl ⟨ht,s,rfl,rfl⟩))
    ·cases hs
   ·rename_i el ht
    obtain⟨x',hx,rfl⟩:=Option.map_eq_some_iff.1 hc
    simp only[j9,zh]at hs
    split at hs<;>first|(exfalso;omega)|skip
    ·rename_i n sz xs _ hv
     obtain rfl:=zx hs
     exact yd m e (qzq e.rep ho hcb hca hct hx hv (.inr ⟨⟨el,ht⟩,.inl ⟨n,sz,xs,rfl,rfl⟩⟩))
    ·rename_i b q n _ hv
     obtain rfl:=zx hs
     exact yd m e (qzq e.rep ho hcb hca hct hx hv (.inr ⟨⟨el,ht⟩,.inr ⟨b,q,rfl⟩⟩))
    ·rename_i b ver n _ hv
     obtain rfl:=zx hs
     exact yd m e (jes e.rep ho hcb hca hct hx hv ht)
    ·cases hs
   ·cases hc
  ·cases hc
 ·rename_i hcb
  split at hc
  ·rename_i x t hca hct
   split at hc
   ·rename_i el ht
    obtain⟨x',hx,rfl⟩:=Option.map_eq_some_iff.1 hc
    simp only[j9,zh]at hs
    split at hs<;>first|(exfalso;omega)|skip
    ·rename_i sz xs _ hv
     obtain rfl:=zx hs
     refine yd m e ?_
     have ha:c.args=#[x]:=by z8 Array.ext';simpa using hca
     have hty:c.argTypes=#[t]:=by z8 Array.ext';simpa using hct
     refine⟨.int .i64 0,?_,.int _ _⟩
     have hq:∃b,a.eval x=.slice b 0 0:=by
      rcases(zt e.rep hx hv).list_inv with⟨_,_,h⟩|⟨h,_⟩|⟨h,_⟩
      ·exact⟨_,h⟩
      ·cases h
      ·cases h
     obtain⟨b,hq⟩:=hq
     simp[execOp,ho,resolve,hcb,ha,hty,invoke,builtin,Builtin.cap_,run_underlying ht,hq,goInt]
    ·cases hs
   ·cases hc
  ·cases hc
 ·rename_i hcb
  split at hc
  ·rename_i x y t u hca hct
   split at hc
   ·rename_i el ut ht hu
    split at hc
    ·rename_i hut
     split at hc
     ·rename_i sz b x' y' hn hb h1 h2
      cases hc
      have hzero:∃z,qan P el=some z∧z.length=sz:=by
       have hz:=(Bool.and_eq_true _ _▸hut).2
       rw[hn]at hz
       cases hz':qan P el with
       |none=>simp[hz']at hz
       |some z=>exact⟨z,rfl,by simpa[hz']using hz⟩
      generalize (dst.map (h.vec.contains ·)).getD false=bb at hs
      cases bb with
      |true=>
       simp only[if_true,j9,zj]at hs
       split at hs
       ·rename_i sz0 vy e1 e2
        split at hs
        ·rename_i ys hsrc
         cases hk:(Nat.ble ys.length 1073741824&&Nat.ble b 4096&&Nat.blt 0 sz&&!ys.isEmpty&&zu 0 ys&&Nat.blt r 1000)with
         |false=>rw[hk]at hs;cases hs
         |true=>
          rw[hk]at hs
          simp only[cT]at hs
          split at hs
          ·rename_i h' hnew
           obtain rfl:=zx hs
           simp only[Bool.and_eq_true]at hk hut
           obtain⟨⟨⟨⟨⟨k1,k2⟩,k3⟩,k4⟩,k5⟩,_⟩:=hk
           exact .inl (jex m e ho hcb hca hct ht hu hut.1 hn hb h1 h2 e1 e2 hsrc (Nat.le_of_ble_eq_true k1) (by intro h;rw[h]at k4;cases k4) (Nat.le_of_ble_eq_true k2) k5 hzero hnew)
          ·cases hs
        ·cases hs
       ·rename_i bx ver len vy e1 e2
        split at hs
        ·rename_i sz' ver' xs hbx
         split at hs
         ·rename_i ys hsrc
          cases hk:(Nat.beq ver ver'&&Nat.beq sz sz'&&Nat.ble len xs.length&&Nat.ble (len+ys.length) 1073741824&&Nat.ble b 4096&&Nat.blt 0 sz&&zu 0 ys&&Nat.blt r 1000)with
          |false=>rw[hk]at hs;cases hs
          |true=>
           rw[hk]at hs
           simp only[cT]at hs
           split at hs
           ·rename_i h' hset
            obtain rfl:=zx hs
            simp only[Bool.and_eq_true]at hk hut
            obtain⟨⟨⟨⟨⟨⟨⟨k1,k2⟩,k3⟩,k4⟩,k5⟩,k6⟩,k7⟩,_⟩:=hk
            obtain rfl:=Nat.eq_of_beq_eq_true k1
            obtain rfl:=Nat.eq_of_beq_eq_true k2
            exact .inl (jip m e ho hcb hca hct ht hu hut.1 hn hb h1 h2 e1 e2 hsrc hbx (Nat.le_of_ble_eq_true k3) (Nat.le_of_ble_eq_true k4) (Nat.le_of_ble_eq_true k5) k7 hzero hset)
           ·cases hs
         ·cases hs
        ·cases hs
       ·cases hs
      |false=>
      simp only[Bool.false_eq_true,if_false]at hs
      generalize hR:(if(Option.map (fun x=>h.muts.contains x) dst).getD false=true then some r else none)=R at hs
      cases R with
      |some rr=>
       simp only[j9,zj]at hs
       split at hs
       ·rename_i sz' vy e1 e2
        cases hk1:((kh env x').isSome&&Nat.beq sz sz')with
        |false=>simp[hk1]at hs
        |true=>
         simp only[hk1,cT]at hs
         split at hs
         ·rename_i ys hsrc
          cases hk2:(Nat.ble ys.length 1073741824&&Nat.ble b 4096&&Nat.blt 0 sz)with
          |false=>simp[hk2]at hs
          |true=>
           simp only[hk2,cT]at hs
           split at hs
           ·rename_i h' hnew
            cases hs
            simp only[Bool.and_eq_true]at hk2 hut hk1
            obtain⟨⟨k2,k3⟩,k4⟩:=hk2
            refine .inl (q0r m e ho hcb hca hct ht hu hut.1 hn hb h1 h2 e1 e2 hsrc hk1.1 rfl (Nat.le_of_ble_eq_true k2) (Nat.le_of_ble_eq_true k3) ?_ (Nat.eq_of_beq_eq_true hk1.2) hnew)
            have hz:=hut.2
            rw[hn]at hz
            cases hz':qan P el with
            |none=>simp[hz']at hz
            |some z=>exact⟨z,rfl,by simpa[hz']using hz⟩
           ·cases hs
         ·cases hs
       ·cases hs
      |none=>
       simp only[j9,zh]at hs
       split at hs
       ·rename_i n sz' xs vy e1 e2
        cases hk1:(n||(kh env x').isSome)with
        |false=>simp[hk1]at hs
        |true=>
         simp only[hk1,cT]at hs
         split at hs
         ·rename_i ys hsrc
          cases hk2:((Nat.beq sz sz'||(xs.isEmpty&&n))&&Nat.ble (xs.length+ys.length) 1073741824&&Nat.ble b 4096&&Nat.blt 0 sz)with
          |false=>simp[hk2]at hs
          |true=>
           simp only[hk2,cT]at hs
           cases hs
           simp only[Bool.and_eq_true]at hk2 hut
           obtain⟨⟨⟨k1,k2⟩,k3⟩,k4⟩:=hk2
           refine .inl (q8s m e ho hcb hca hct ht hu hut.1 hn hb h1 h2 e1 e2 hsrc (by simpa using hk1) ?_ (Nat.le_of_ble_eq_true k2) (Nat.le_of_ble_eq_true k3) ?_)
           ·rcases Bool.or_eq_true _ _▸k1 with k1|k1
            ·exact .inl (Nat.eq_of_beq_eq_true k1)
            ·simp only[Bool.and_eq_true,List.isEmpty_iff]at k1;exact .inr k1
           ·have hz:=hut.2
            rw[hn]at hz
            cases hz':qan P el with
            |none=>simp[hz']at hz
            |some z=>exact⟨z,rfl,by simpa[hz']using hz⟩
         ·cases hs
       ·cases hs
     ·cases hc
    ·cases hc
   ·cases hc
  ·cases hc
 ·rename_i hcb
  split at hc
  ·rename_i x y t ts hca hct
   split at hc
   ·rename_i el ht
    split at hc
    ·rename_i sz x' y' hn h1 h2
     cases hc
     simp only[j9,zj]at hs
     split at hs
     ·rename_i b q len vy e1 e2
      cases hk:yv h0 al b with
      |false=>simp[hk]at hs
      |true=>
       simp only[hk,cT]at hs
       split at hs
       ·rename_i cs hcs
        split at hs
        ·rename_i n us hsrc
         split at hs
         ·rename_i cs' hst
          cases hk2:Nat.beq us.length (n*sz)with
          |false=>simp[hk2]at hs
          |true=>
           simp only[hk2,cT]at hs
           split at hs
           ·rename_i h' hset
            obtain rfl:=zx hs
            exact .inl (jik m e ho hcb hca hct ht hn h1 h2 e1 e2 hcs hsrc hst (Nat.eq_of_beq_eq_true hk2) hset)
           ·cases hs
         ·cases hs
        ·cases hs
       ·cases hs
     ·cases hs
    ·cases hc
   ·cases hc
  ·cases hc
 ·rename_i hcb
  split at hc
  ·rename_i x y t ts hca hct
   split at hc
   ·rename_i kt el ht
    split at hc
    ·rename_i kd x' y' hkd h1 h2
     cases hc
     simp only[j9,zj]at hs
     split at hs
     ·rename_i b kv e1 e2
      cases hk:yv h0 al b with
      |false=>simp[hk]at hs
      |true=>
       simp only[hk,cT]at hs
       split at hs
       ·rename_i es hb
        split at hs
        ·rename_i r hf
         split at hs
         ·rename_i h' hset
          obtain rfl:=zx hs
          exact .inl (q7o m e ho hcb hca hct ht hkd h1 h2 e1 e2 hb hf hset)
         ·cases hs
        ·cases hs
       ·cases hs
     ·cases hs
    ·cases hc
   ·cases hc
  ·cases hc
 ·rename_i hcb
  obtain⟨l,hl,rfl⟩:=Option.map_eq_some_iff.1 hc
  simp only[j9,zh]at hs
  split at hs
  ·rename_i v vs hv
   obtain⟨z,hz,rfl⟩:=qd0 hs
   exact yd m e (jao (mx:=true) e.rep ho hcb hl hv hz)
  ·cases hs
 ·rename_i hcb
  obtain⟨l,hl,rfl⟩:=Option.map_eq_some_iff.1 hc
  simp only[j9,zh]at hs
  split at hs
  ·rename_i v vs hv
   obtain⟨z,hz,rfl⟩:=qd0 hs
   exact yd m e (jao (mx:=false) e.rep ho hcb hl hv hz)
  ·cases hs
 ·cases hc
end
def Ctx.cut (C:Ctx)(n:Nat):Ctx:={ C with β:=fun b=>if b<n then C.β b else none }
theorem Ctx.cut_le (C:Ctx)(n:Nat):(C.cut n).le C where
 k _ _ _ h:=h
 b b r h:=by
  simp only[Ctx.cut]at h
  split at h
  ·exact h
  ·cases h
 w:=rfl
 d _ h:=h
theorem Ctx.le_cut {C C':Ctx}{n:Nat}(h:C.le C')(hn:∀b r,C.β b=some r→b<n):C.le (C'.cut n):=
 ⟨h.1,fun b r hb=>by simp only[Ctx.cut];rw[if_pos (hn b r hb)];exact h.2 b r hb,h.w,h.d,h.t⟩
section
variable {P:Program}{p:qt}{xc:XC}{C C0:Ctx}{ω:Nat→Option Loc}{w w0:World}{hp:j8}{env:Env}{tmps:Array Value}{B:Nat}
theorem OwnV.cut {ℓ:Loc}{x:qa}{v:Value}(n:Nat)(ho:OwnV C ω w B ℓ x v):OwnV (C.cut n) ω w B ℓ x v:=by
 unfold OwnV at *
 split at ho
 ·obtain⟨h1,h2,h3,h4,h5⟩:=ho
  exact⟨h1,h2,fun b hb=>h3 b ((Ctx.cut_le C n).2 b _ hb),h4,h5⟩
 ·obtain⟨h1,h2,h3,h4,h5⟩:=ho
  exact⟨h1,h2,fun b hb=>h3 b ((Ctx.cut_le C n).2 b _ hb),h4,h5⟩
 ·trivial
theorem Rep.cut {x:qa}{v:Value}{n:Nat}(h:Rep C x v)(hb:below n x=true):Rep (C.cut n) x v:=
 qp.shift (C:=C) (C':=C.cut n) n (fun _ _ _ h=>h) (fun b r hlt hb=>by simp only[Ctx.cut];rw[if_pos hlt];exact hb) h hb
theorem qjk {n:Nat}:∀ {e:Env} {s:Nat} {x:qa×Bool},qbw n e=true→ye s e=some x→below n x.1=true
 | [],_,_,_,h=>by simp[ye]at h
 |(t,y)::e,s,x,hb,h=>by
  simp only[qbw,Bool.and_eq_true]at hb
  simp only[ye]at h
  cases hts:Nat.beq t s with
  |true=>simp only[hts,cT,Option.some.injEq]at h;subst h;exact hb.1
  |false=>simp only[hts,cond_false]at h;exact qjk hb.2 h
theorem qp1 {n:Nat}:∀ {l:j8} {b:Nat} {x:qn},ki n l=true→l[b]?=some x→qcx n x=true
 | [],_,_,_,h=>by simp at h
 |y::l,b,x,hb,h=>by
  simp only[ki,Bool.and_eq_true]at hb
  cases b with
  |zero=>simp at h;subst h;exact hb.1
  |succ b=>simp at h;exact qp1 hb.2 h
theorem qnh {n:Nat}:∀ {l:List (qa×Bool)} {j:Nat} {c:qa×Bool},qbt n l=true→l[j]?=some c→below n c.1=true
 | [],_,_,_,h=>by simp at h
 |(y,o)::l,j,c,hb,h=>by
  simp only[qbt,Bool.and_eq_true]at hb
  cases j with
  |zero=>simp at h;subst h;exact hb.1
  |succ j=>simp at h;exact qnh hb.2 h
theorem qy.cut {n:Nat}{es:List (qa×qa)}{ms:List MapEntry}(hr:qy C es ms):qbp n es=true→qy (C.cut n) es ms:=by
 induction hr with
 |nil=>exact fun _=>.nil
 |cons k v es m ms hk hv _ ih=>
  intro hb
  simp only[qbp,Bool.and_eq_true]at hb
  exact .cons k v es m ms (Rep.cut hk hb.1.1) (Rep.cut hv hb.1.2) (ih hb.2)
theorem BoxRel.cut {b r n:Nat}{x:qn}(h:BoxRel P C ω w B b r x)(hb:qcx n x=true):BoxRel P (C.cut n) ω w B b r x:=by
 cases x with
 |hole=>exact h
 |cells cs=>
  obtain⟨vs,el,h1,h2,h3⟩:=h
  exact⟨vs,el,h1,h2,fun j c hc=>let ⟨v,a,q,b,d⟩:=h3 j c hc; ⟨v,a,q,Rep.cut b (qnh hb hc),fun e=>(d e).cut n⟩⟩
 |map es=>obtain⟨ents,clock,h1,h2⟩:=h;exact⟨ents,clock,h1,h2.cut hb⟩
 |iter s pos=>exact h
 |loop l=>obtain⟨lp,h1,h2⟩:=h;exact⟨lp,h1,{ h2 with env:=fun s x hx=>let ⟨v,a,b⟩:=h2.env s x hx; ⟨v,a,Rep.cut b (qjk hb hx)⟩ }⟩
 |bld t e l=>obtain⟨p,v,h1,h2,h3,h4⟩:=h;exact⟨p,v,h1,h2,h3,h4.cut n⟩
 |dead=>exact h
 |vec sz ver xs=>exact VecRel.imp (C:=C) (C':=C.cut n) (ω:=ω) (ω':=ω) (B':=B) (fun _ _ _ h=>h) (fun _ h=>h) (fun _ h _=>h) rfl (fun q n' cap k=>⟨rfl,OwnV.cut (C:=C) n k⟩) h
theorem MInv.gc (m:MInv P C ω w0 C0 hp w){n:Nat}(hn:n≤hp.length)(hb:ki n (hp.take n)=true)(h0:∀b r,C0.β b=some r→b<n):MInv P (C.cut n) ω w0 C0 (hp.take n) w where
 base:=m.base
 know:=m.know
 kone:=m.kone
 apart b r o hb:=m.apart b r o ((Ctx.cut_le C n).2 b r hb)
 inj b b' r h1 h2:=m.inj b b' r ((Ctx.cut_le C n).2 _ _ h1) ((Ctx.cut_le C n).2 _ _ h2)
 lt b r h:=by
  have h1:=m.lt b r ((Ctx.cut_le C n).2 _ _ h)
  refine⟨h1.1,?_⟩
  simp only[Ctx.cut]at h
  split at h
  ·rw[List.length_take];omega
  ·cases h
 size:=m.size
 frame:=m.frame
 dfr:=m.dfr
 os:=m.os
 output:=m.output
 fresh b r h:=m.fresh b r ((Ctx.cut_le C n).2 _ _ h)
 grown:=Ctx.le_cut m.grown h0
 old:=m.old
 box b x r hx hr:=by
  have hlt:b<n:=by
   have:=(List.getElem?_eq_some_iff.1 hx).1
   rw[List.length_take]at this;omega
  have hx':hp[b]?=some x:=by rwa [List.getElem?_take_of_lt hlt]at hx
  exact(m.box b x r hx' ((Ctx.cut_le C n).2 _ _ hr)).cut (qp1 hb hx)
 tlt:=m.tlt
theorem EnvRel.cut {n:Nat}(e:EnvRel C ω w B env tmps)(hb:qbw n env=true):EnvRel (C.cut n) ω w B env tmps:=
 fun s x hx=>let ⟨v,h1,h2,h3⟩:=e s x hx; ⟨v,h1,Rep.cut h2 (qjk hb hx),fun h=>(h3 h).cut n⟩
def jz6 (env:Env)(hp:j8)(r:ja)(ℓ:Loc)(x:qa×Bool):Prop:=
 (∃s,ℓ=.slot s)∨∃t n b j ow cs,r=.cell t false n∧ye t env=some (.ptr b j,ow)∧ℓ=.cell b j∧yn hp b=some cs∧cs[j]?=some x
def q25 (C:Ctx)(ω:Nat→Option Loc)(w:World)(B:Nat)(env:Env)(hp:j8)(r:ja)(x:qa×Bool)(v:Value):Prop:=Rep C x.1 v∧(x.2=true→∃ℓ,OwnV C ω w B ℓ x.1 v∧jz6 env hp r ℓ x)
theorem q1z {B':Nat}(m:MInv P C ω w0 C0 hp w)(hB:B'=w0.heap.size)(e:EnvRel C ω w B' env tmps){rv:ResultVar}{r:ja}{x:qa×Bool}(hc:q7k P rv=some r)(hr:qd4 ⟨env,hp⟩ r=some x):
  ∃v,((match rv with | .tmp t=>pure (tmps.getD t undef) | .cell a t=>do loadVar t (←asAddr (tmps.getD a undef)):Sem Value)).run P w=.ok v w∧q25 C ω w B' env hp r x v:=by
 subst hB
 cases rv with
 |tmp t=>
  simp only[q7k]at hc
  cases hc
  simp only[qd4]at hr
  obtain⟨v,h1,h2,h3⟩:=e t x hr
  refine⟨v,?_,h2,fun h=>⟨_,h3 h,.inl ⟨_,rfl⟩⟩⟩
  simp[Array.getD_eq_getD_getElem?,h1]
 |cell t ty=>
  simp only[q7k]at hc
  have key:∀ {ag:Bool} {n:Nat},qak P ty=some ag→yh P ty=some n→(ag=false→n=1)→qd4 ⟨env,hp⟩ (.cell t ag n)=some x→∃v,((do loadVar ty (←asAddr (tmps.getD t undef)):Sem Value)).run P w=.ok v w∧q25 C ω w w0.heap.size env hp (.cell t ag n) x v:=by
   intro ag n hg hn h1n hr
   simp only[qd4]at hr
   split at hr
   ·rename_i b q ow hl
    obtain⟨u,h1,h2,_⟩:=e t _ hl
    obtain⟨r,hbr,rfl⟩:=h2.ptr_inv
    have hu:tmps.getD t undef=.pointer (some ⟨r,q,none⟩):=by simp[Array.getD_eq_getD_getElem?,h1]
    split at hr
    ·rename_i cs hcs
     have hbox:=m.box b _ r (qb2 hcs) hbr
     split at hr
     ·rename_i us hus
      cases ag with
      |true=>
       simp only[cT,Option.some.injEq]at hr
       subst hr
       obtain⟨vs,k1,_,k2,k3,_⟩:=hbox.read hus
       refine⟨.agg ⟨vs⟩,?_,.agg _ _ k1,by simp⟩
       simp[hu,asAddr,qgo hg hn k2 k3]
      |false=>
       simp only[cond_false]at hr
       split at hr
       ·rename_i c hc
        cases hr
        obtain⟨vs,te,g1,g2,g3⟩:=hbox
        obtain⟨v,a1,a2,a3,a4⟩:=g3 q _ hc
        have hcell:w.cell? ⟨r,q,none⟩=some v:=by
         simp only[World.cell?,g1]
         simpa using a1
        refine⟨v,?_,a3,fun h=>⟨_,a4 h,.inr ⟨_,_,_,_,_,_,rfl,hl,rfl,hcs,hc⟩⟩⟩
        simp[hu,asAddr,qge hg hcell]
       ·cases hr
     ·cases hr
    ·cases hr
   ·cases hr
  split at hc
  ·rename_i n hg hn;cases hc;exact key hg hn (by simp) hr
  ·rename_i hg hn;cases hc;exact key hg hn (fun _=>rfl) hr
  ·cases hc
inductive jn (P:Program)(C:Ctx)(ω:Nat→Option Loc)(w:World)(B:Nat)(env:Env)(hp:j8):List ja→List (qa×Bool)→List Value→Prop where
 |nil:jn P C ω w B env hp [] [] []
 |cons {r:ja} {x:qa×Bool} {v:Value} {rs:List ja} {xs:List (qa×Bool)} {vs:List Value} (h:q25 C ω w B env hp r x v) (t:jn P C ω w B env hp rs xs vs):jn P C ω w B env hp (r::rs) (x::xs) (v::vs)
theorem jn.rep {rs:List ja}{xs:List (qa×Bool)}{vs:List Value}(h:jn P C ω w B env hp rs xs vs):RepL C (xs.map (·.1)) vs:=by
 induction h with
 |nil=>exact .nil
 |cons h _ ih=>exact .cons _ _ _ _ h.1 ih
theorem qpu {B':Nat}(m:MInv P C ω w0 C0 hp w)(hB:B'=w0.heap.size)(e:EnvRel C ω w B' env tmps):∀ {l:List ResultVar} {rs:List ja} {xs:List (qa×Bool)},qo9 P l=some rs→qa1 ⟨env,hp⟩ rs=some xs →
  ∃vs,(l.mapM fun(rv:ResultVar)=>(match rv with | .tmp t=>pure (tmps.getD t undef) | .cell a t=>do loadVar t (←asAddr (tmps.getD a undef)):Sem Value)).run P w=.ok vs w∧jn P C ω w B' env hp rs xs vs
 | [],rs,xs,hc,hr=>by
  simp[qo9]at hc;subst hc
  simp[qa1]at hr;subst hr
  exact⟨[],rfl,.nil⟩
 |rv::l,rs,xs,hc,hr=>by
  simp only[qo9]at hc
  split at hc
  ·rename_i r rs' h1 h2
   cases hc
   simp only[qa1]at hr
   split at hr
   ·rename_i x hx
    split at hr
    ·rename_i ys hys
     cases hr
     obtain⟨v,k1,k2⟩:=q1z m hB e h1 hx
     obtain⟨vs,j1,j2⟩:=qpu m hB e h2 hys
     refine⟨v::vs,?_,.cons k2 j2⟩
     simp only[List.mapM_cons,Sem.run_bind,k1,Result.andThen_ok,j1,Sem.run_pure]
    ·cases hr
   ·cases hr
  ·cases hc
def qm8:List Value→Value
 | [v]=>v
 |vs=>.tuple ⟨vs⟩
theorem qwv (m:MInv P C ω w0 C0 hp w){ω':Nat→Option Loc}{b j:Nat}{v:qa}{ow:Bool}{cs:List (qa×Bool)}(hbc:yn hp b=some cs)(hc:cs[j]?=some (v,ow))(hω:∀b' j' y u,(b'≠b∨j'≠j)→OwnV C ω w w0.heap.size (.cell b' j') y u→OwnV C ω' w w0.heap.size (.cell b' j') y u):
  MInv P C ω' w0 C0 (hp.set b (.cells (cs.set j (v,false)))) w:=by
 by_cases hb:∃r,C.β b=some r
 ·obtain⟨r,hr⟩:=hb
  obtain⟨vs,te,hg,hsz,hold⟩:=m.box b _ r (qb2 hbc) hr
  obtain⟨cv,k1,k2,k3,k4⟩:=hold j _ hc
  have hu:jk w w r:=⟨rfl,fun _ _=>rfl,fun c t fr h=>by rw[hg]at h;cases h;rfl,rfl,rfl⟩
  refine m.updBox hu hr _ (fun b' j' y u hb' hz=>hω b' j' y u (.inl hb') hz) ⟨vs,te,hg,by simpa using hsz,fun i c hi=>?_⟩
  rw[List.getElem?_set]at hi
  split at hi
  ·rename_i hji
   subst hji
   split at hi
   ·cases hi;exact⟨cv,k1,k2,k3,by simp⟩
   ·cases hi
  ·rename_i hji
   obtain⟨u,a1,a2,a3,a4⟩:=hold i c hi
   exact⟨u,a1,a2,a3,fun h=>hω b i _ _ (.inr (Ne.symm hji)) (a4 h)⟩
 ·refine { m with lt:=fun k r hk=>by rw[List.length_set];exact m.lt k r hk,box:=fun k x r hx hk=>?_ }
  have hkb:k≠b:=fun h=>hb ⟨r,h▸hk⟩
  rw[List.getElem?_set_ne (Ne.symm hkb)]at hx
  exact(m.box k x r hx hk).mono (Ctx.le_refl C) fun j' y u ho=>hω k j' y u (.inl hkb) ho
theorem jih (m:MInv P C ω w0 C0 hp w){rs:List ja}{xs:List (qa×Bool)}{vs:List Value}(h:jn P C ω w w0.heap.size env hp rs xs vs):
  ∃ω',MInv P C ω' w0 C0 (qa8 ⟨env,hp⟩ rs) w∧Rep C (yt xs).1 (qm8 vs)∧((yt xs).2=true→OwnV C ω' w w0.heap.size (.slot 0) (yt xs).1 (qm8 vs)):=by
 have same:∃ω',MInv P C ω' w0 C0 hp w:=⟨ω,m⟩
 cases h with
 |nil=>exact⟨ω,m,by simpa[yt,qm8]using qp.tup _ _ (qp.nil),by simp[yt]⟩
 |cons hx ht=>
  cases ht with
  |cons hy ht=>
   have:=(jn.cons hx (jn.cons hy ht)).rep
   exact⟨ω,by simpa[qa8]using m,by simpa[yt,qm8]using qp.tup _ _ this,by simp[yt]⟩
  |nil=>
   rename_i r x v
   obtain⟨h1,h2⟩:=hx
   simp only[yt]
   -- without the flag
   have plain:MInv P C ω w0 C0 (qa8 ⟨env,hp⟩ [r]) w:=by
    unfold qa8
    split
    ·split
     ·split
      ·rename_i cs hcs
       split
       ·rename_i u hu
        exact qwv m hcs hu (fun _ _ _ _ _ h=>h)
       ·exact m
      ·exact m
     ·exact m
    ·exact m
   by_cases hk:x.2=true
   ·have hk1:=hk
    obtain⟨ℓ,h3,h4⟩:=h2 hk1
    refine⟨qe7 ω x.1 v (.slot 0),?_,h1,fun _=>qiq h3⟩
    rcases h4 with⟨s,rfl⟩|⟨t,n,b,j,ow,cs,rfl,g1,rfl,g2,g3⟩
    ·exact { plain with box:=fun b x r hx hb=>(plain.box b x r hx hb).mono (Ctx.le_refl C) fun j y u hz=>qco h3 (by simp) hz }
    ·obtain⟨xv,xo⟩:=x
     simp only at hk1
     subst hk1
     have:qa8 ⟨env,hp⟩ [.cell t false n]=hp.set b (.cells (cs.set j (xv,false))):=by
      simp only[qa8,g1,g2,g3]
     rw[this]
     exact qwv m g2 g3 fun b' j' y u hne hz=>qco h3 (by
      rcases hne with hne|hne
      ·simp[hne]
      ·simp[hne]) hz
   ·exact⟨ω,plain,h1,fun h=>absurd h hk⟩
theorem q51 {fn:Func}(m:MInv P C ω w0 C0 hp w)(e:EnvRel C ω w w0.heap.size env tmps){rs:List ja}{xs:List (qa×Bool)}(hc:qo9 P fn.results.toList=some rs)(hr:qa1 ⟨env,hp⟩ rs=some xs):
  ∃v ω',(results fn tmps).run P w=.ok v w∧MInv P C ω' w0 C0 (qa8 ⟨env,hp⟩ rs) w∧Rep C (yt xs).1 v∧((yt xs).2=true→OwnV C ω' w w0.heap.size (.slot 0) (yt xs).1 v):=by
 obtain⟨vs,h1,h2⟩:=qpu m rfl e hc hr
 have hmap:(fn.results.mapM fun(rv:ResultVar)=>(match rv with | .tmp t=>pure (tmps.getD t undef) | .cell a t=>do loadVar t (←asAddr (tmps.getD a undef)):Sem Value)).run P w=.ok vs.toArray w:=by
  rw[Array.mapM_eq_mapM_toList]
  simp only[Sem.run_map]
  rw[h1]
  rfl
 have hrun:(results fn tmps).run P w=.ok (if h:vs.toArray.size=1 then vs.toArray[0]else .tuple vs.toArray) w:=by
  unfold results
  rw[Sem.run_bind]
  exact congrArg (fun z=>Result.andThen z fun(a:Array Value) w'=>Sem.run P (pure (if h:a.size=1 then a[0]else Value.tuple a)) w') hmap
 have hval:(if h:vs.toArray.size=1 then vs.toArray[0]else .tuple vs.toArray)=(qm8 vs):=by
  match vs with
  | []=>rfl
  | [v]=>rfl
  |v::u::vs=>simp[qm8]
 rw[hval]at hrun
 obtain⟨ω',q1,q2,q3⟩:=jih m h2
 exact⟨_,ω',hrun,q1,q2,q3⟩
end
section
variable {P:Program}{C C0:Ctx}{ω:Nat→Option Loc}{w w0:World}{hp:j8}
def VecAt (C:Ctx)(hp:j8)(r:Nat):Prop:=∃b sz ver xs r0 cap,hp[b]?=some (.vec sz ver xs)∧C.β b=some r0∧C.T (r0,ver,r,cap)
def Hid (C:Ctx)(hp:j8)(r:Nat):Prop:=(∃b,C.β b=some r)∨VecAt C hp r
theorem VecAt.is (m:MInv P C ω w0 C0 hp w){r:Nat}(h:VecAt C hp r):(∃b,C.β b=some r)∨∃b sz ver xs n cap,hp[b]?=some (.vec sz ver xs)∧qi5 C ω w w0.heap.size b r n cap:=by
 obtain⟨b,sz,ver,xs,r0,cap,h1,h2,h3⟩:=h
 obtain⟨q,cap',k1,k2,k3,k4,_⟩:=m.box b _ r0 h1 h2
 have:=(k2 _ h3 rfl).2 rfl
 simp only[Prod.mk.injEq]at this
 obtain⟨rfl,rfl⟩:=this
 rcases k4 with rfl|k4
 ·exact .inl ⟨b,h2⟩
 ·exact .inr ⟨b,sz,ver,xs,_,_,h1,k4⟩
theorem qu4 (m:MInv P C ω w0 C0 hp w){r:Nat}(h:Hid C hp r)(o:Nat):C.K r o=none:=by
 rcases h with⟨b,hb⟩|h
 ·exact m.apart b r o hb
 ·rcases h.is m with⟨b,hb⟩|⟨b,sz,ver,xs,n,cap,_,h2⟩
  ·exact m.apart b r o hb
  ·exact h2.2.2.2.2.2.2 o (by simp)
theorem jba {K:Nat→Nat→Option Value}(hW:C.W=fun _=>False)(m:MInv P C ω w0 (.iso K) hp w){r:Nat}(h:Hid C hp r):w0.heap.size≤r:=by
 have key:∀b,C.β b=some r→w0.heap.size≤r:=fun b hb=>by
  rcases m.fresh b r hb with h|h|h
  ·cases h
  ·exact h
  ·exact h.elim
 rcases h with⟨b,hb⟩|h
 ·exact key b hb
 ·rcases h.is m with⟨b,hb⟩|⟨b,sz,ver,xs,n,cap,_,h2⟩
  ·exact key b hb
  ·rcases h2.2.1 with h|h
   ·exact h
   ·rw[hW]at h;exact h.elim
theorem joq (m:MInv P C ω w0 C0 hp w){r:Nat}(h:Hid C hp r):r<w.heap.size:=by
 rcases h with⟨b,hb⟩|h
 ·exact(m.lt b r hb).1
 ·rcases h.is m with⟨b,hb⟩|⟨b,sz,ver,xs,n,cap,_,h2⟩
  ·exact(m.lt b r hb).1
  ·obtain⟨_,_,_,_,_,⟨cells,elem,h5,_⟩,_⟩:=h2
   exact(Array.getElem?_eq_some_iff.1 h5).1
open Classical in
noncomputable def kj (C:Ctx)(hp:j8)(w:World):Nat→Nat→Option Value:=fun r o=>if Hid C hp r then(w.cell? ⟨r,o,none⟩).filter (·.oneCell')else C.K r o
theorem qhr (m:MInv P C ω w0 C0 hp w){r o:Nat}{x:Value}(h:C.K r o=some x):kj C hp w r o=some x:=by
 unfold kj
 rw[if_neg]
 ·exact h
 ·intro hh
  rw[qu4 m hh o]at h;cases h
theorem qhf (m:MInv P C ω w0 C0 hp w){r o:Nat}{x:Value}(h:kj C hp w r o=some x):w.cell? ⟨r,o,none⟩=some x∧x.oneCell'=true:=by
 unfold kj at h
 split at h
 ·rw[Option.filter_eq_some_iff]at h;exact h
 ·exact⟨m.know r o x h,m.kone r o x h⟩
theorem qtu {r o:Nat}{x:Value}(hb:Hid C hp r)(hc:w.cell? ⟨r,o,none⟩=some x)(h1:x.oneCell'=true):kj C hp w r o=some x:=by
 unfold kj
 rw[if_pos hb,hc]
 simp[h1]
theorem qmi {b r o:Nat}{x:Value}(hb:C.β b=some r)(hc:w.cell? ⟨r,o,none⟩=some x)(h1:x.oneCell'=true):kj C hp w r o=some x:=
 qtu (.inl ⟨b,hb⟩) hc h1
theorem qma (m:MInv P C ω w0 C0 hp w){x:qa}{v:Value}(h:Rep C x v)(hb:below 0 x=true):Rep (.iso (kj C hp w)) x v:=
 qp.shift (C:=C) (C':=.iso (kj C hp w)) 0 (fun _ _ _ h=>qhr m h) (fun b r hlt=>by omega) h hb
theorem qt3 {x:qa}{v:Value}(h:Rep C x v)(h1:v.oneCell'=true):x.isAgg=false:=by
 cases h<;>first|rfl|(simp[Value.oneCell']at h1)
theorem quy {C:Ctx}{r:Nat}:∀ {ys:List qa} {o:Nat},(∀j x,ys[j]?=some x→∃v,C.K r (o+j)=some v∧Rep C x v)→RepC C r ys o
 | [],o,_=>.cnil _ _
 |x::ys,o,h=>by
  obtain⟨v,h1,h2⟩:=h 0 x rfl
  refine .ccons _ _ _ _ v (by simpa using h1) h2 (quy fun j y hy=>?_)
  obtain⟨v,k1,k2⟩:=h (j+1) y (by simpa using hy)
  exact⟨v,by rw[show o+1+j=o+(j+1) by omega];exact k1,k2⟩
theorem qor {C:Ctx}{r sz:Nat}(hz:0<sz):∀ {n:Nat} {xs:List qa} {o:Nat},xs.length=n*sz→(∀x∈xs,x.isAgg=false)→(∀j x,xs[j]?=some x→∃v,C.K r (o+j)=some v∧Rep C x v)→RepRow C r sz (qc3 sz n xs) o
 |0,xs,o,_,_,_=>.rnil _ _ _
 |n+1,xs,o,hl,hp,h=>by
  rw[Nat.succ_mul]at hl
  have hf:(bif Nat.beq sz 1 then xs.headD .undef else qa.agg (xs.take sz)).flat=xs.take sz:=by
   cases hb:Nat.beq sz 1 with
   |false=>rfl
   |true=>
    have:=Nat.eq_of_beq_eq_true hb
    subst this
    match xs,hl with
    |x::xs,_=>simp only[cT,List.headD_cons];rw[qcz (hp x (List.mem_cons_self ..))];rfl
  refine .rcons _ _ _ _ _ ?_ ?_ (qor hz ?_ (fun x hx=>hp x (List.mem_of_mem_drop hx)) fun j x hx=>?_)
  ·rw[hf,List.length_take];omega
  ·rw[hf]
   refine quy fun j x hx=>h j x ?_
   rw[List.getElem?_take]at hx
   split at hx
   ·exact hx
   ·cases hx
  ·rw[List.length_drop];omega
  ·rw[List.getElem?_drop]at hx
   obtain⟨v,k1,k2⟩:=h _ x hx
   exact⟨v,by rw[Nat.add_assoc];exact k1,k2⟩
theorem qe3 {sz:Nat}:∀ {n:Nat} {xs:List qa},(qc3 sz n xs).length=n
 |0,_=>rfl
 |n+1,xs=>by simp only[qc3,List.length_cons];rw[qe3]
theorem qse {sz:Nat}(hz:1<sz):∀ {n:Nat} {xs:List qa},xs.length=n*sz→zu 0 (qc3 sz n xs)=true→∀x∈xs,below 0 x=true
 |0,xs,hl,_=>by
  rw[Nat.zero_mul]at hl
  rw[List.length_eq_zero_iff.1 hl]
  intro x hx;cases hx
 |n+1,xs,hl,h=>by
  have hb:Nat.beq sz 1=false:=by
   cases hc:Nat.beq sz 1 with
   |false=>rfl
   |true=>have:=Nat.eq_of_beq_eq_true hc;omega
  simp only[qc3,hb,cond_false,zu,below,Bool.and_eq_true]at h
  have ih:=qse hz (n:=n) (xs:=xs.drop sz) (by rw[List.length_drop,hl,Nat.succ_mul];omega) h.2
  have ht:∀(ys:List qa),zu 0 ys=true→∀x∈ys,below 0 x=true:=by
   intro ys
   induction ys with
   |nil=>intro _ x hx;cases hx
   |cons y ys ih=>
    intro hh x hx
    simp only[zu,Bool.and_eq_true]at hh
    rcases List.mem_cons.1 hx with rfl|hx
    ·exact hh.1
    ·exact ih hh.2 x hx
  intro x hx
  rw[←List.take_append_drop sz xs]at hx
  rcases List.mem_append.1 hx with hx|hx
  ·exact ht _ h.1 x hx
  ·exact ih x hx
theorem qml (m:MInv P C ω w0 C0 hp w){x x':qa}{v:Value}(hf:qa4 hp x=some x')(h:Rep C x v)(hb:below 0 x'=true):Rep (.iso (kj C hp w)) x' v:=by
 unfold qa4 at hf
 split at hf
 ·rename_i b off len
  split at hf
  ·rename_i cs hcs
   cases hrow:qye off len cs with
   |true=>
    rw[hrow]at hf
    simp only[cT,Option.some.injEq]at hf
    subst hf
    simp only[qye,Bool.and_eq_true]at hrow
    obtain⟨⟨⟨r0,r1⟩,r2⟩,_⟩:=hrow
    have r0:=Nat.eq_of_beq_eq_true r0
    have r2:=Nat.eq_of_beq_eq_true r2
    have r1:1<cs.length / len:=by simpa using r1
    subst r0
    obtain⟨r,cap,hbr,hle,rfl⟩:=h.ms_inv
    obtain⟨vs,elem,k1,k2,k3⟩:=m.box b _ r (qb2 hcs) hbr
    have hbl:zu 0 (qc3 (cs.length / len) len (cs.map (·.1)))=true:=by simpa[below]using hb
    have hbel:=qse r1 (by rw[List.length_map];exact r2.symm) hbl
    have hrr:RepRow (.iso (kj C hp w)) r (cs.length / len) (qc3 (cs.length / len) len (cs.map (·.1))) 0:=by
     refine qor (by omega) (by rw[List.length_map];exact r2.symm) (fun x hx=>?_) fun j x hx=>?_
     ·obtain⟨j,hj⟩:=List.getElem?_of_mem hx
      rw[List.getElem?_map,Option.map_eq_some_iff]at hj
      obtain⟨c,hc,rfl⟩:=hj
      obtain⟨u,q1,q2,q3,_⟩:=k3 j c hc
      exact qt3 q3 q2
     ·have hmem:=List.mem_of_getElem? hx
      rw[List.getElem?_map,Option.map_eq_some_iff]at hx
      obtain⟨c,hc,rfl⟩:=hx
      obtain⟨u,q1,q2,q3,_⟩:=k3 j c hc
      have hcell:w.cell? ⟨r,0+j,none⟩=some u:=by
       unfold World.cell?
       rw[k1]
       simp only[Option.isSome_none,Bool.false_eq_true,if_false,Nat.zero_add]
       exact q1
      exact⟨u,qmi hbr hcell q2,qma m q3 (hbel _ hmem)⟩
    have:=qp.list (C:=.iso (kj C hp w)) (cs.length / len) (qc3 (cs.length / len) len (cs.map (·.1))) r 0 cap (by rw[qe3];exact hle) hrr
    rw[qe3]at this
    exact this
   |false=>
   rw[hrow]at hf
   simp only[cond_false]at hf
   split at hf
   ·rename_i us hus
    cases hf
    obtain⟨r,cap,hbr,hle,rfl⟩:=h.ms_inv
    obtain⟨vs,k1,k0,k2,k3,k4⟩:=(m.box b _ r (qb2 hcs) hbr).read hus
    have hbl:zu 0 us=true:=by simpa[below]using hb
    have hrep:RepL (.iso (kj C hp w)) us vs:=qp.shift (C:=C) (C':=.iso (kj C hp w)) 0 (fun _ _ _ h=>qhr m h) (fun b r hlt=>by omega) k1 hbl
    have hflat:∀(us:List qa) (vs:List Value),RepL C us vs→(∀v∈vs,v.oneCell'=true)→us.flatMap qa.flat=us∧∀u∈us,u.flat.length=1:=by
     intro us
     induction us with
     |nil=>intro _ _ _;exact⟨rfl,by simp⟩
     |cons u us ih=>
      intro vs h h1
      cases h with
      |cons _ _ v vs hx h=>
       obtain⟨i1,i2⟩:=ih vs h (fun v hv=>h1 v (by simp[hv]))
       have hna:=qt3 hx (h1 v (by simp))
       rw[List.flatMap_cons,qcz hna,i1]
       refine⟨rfl,fun u' hu'=>?_⟩
       rcases List.mem_cons.1 hu' with rfl|hu'
       ·rw[qcz hna];rfl
       ·exact i2 u' hu'
    obtain⟨f1,f2⟩:=hflat us vs k1 k4
    have hcells:RepC (.iso (kj C hp w)) r (us.flatMap qa.flat) off:=by
     rw[f1]
     exact RepC.of_vals hrep fun j u hj=>qmi hbr (k3 j u hj) (k4 u (List.mem_of_getElem? hj))
    have hl:us.length=len:=k0
    have:=qp.list (C:=.iso (kj C hp w)) 1 us r off cap (by omega) (RepRow.of_cells hcells f2)
    rw[hl]at this
    exact this
   ·cases hf
  ·cases hf
 ·rename_i b ver len
  split at hf
  ·rename_i sz ver' xs hbx
   cases hk:(Nat.beq ver ver'&&Nat.ble len xs.length)with
   |false=>rw[hk]at hf;cases hf
   |true=>
    rw[hk]at hf
    simp only[cT,Option.some.injEq]at hf
    subst hf
    simp only[Bool.and_eq_true]at hk
    obtain rfl:=Nat.eq_of_beq_eq_true hk.1
    have hlen:=Nat.le_of_ble_eq_true hk.2
    cases h with
    |vref _ _ _ r0 q cap hβ hT hl=>
     obtain⟨q',cap',k1,k2,k3,k4,_⟩:=m.box b _ r0 hbx hβ
     have heq:=(k2 _ hT rfl).2 rfl
     simp only[Prod.mk.injEq]at heq
     obtain⟨rfl,rfl⟩:=heq
     obtain⟨cells,t,vs,g1,g2,g3,g4,g5,g6,g7⟩:=k3
     have hhid:Hid C hp q:=.inr ⟨b,sz,ver,xs,r0,cap,hbx,hβ,hT⟩
     have hall:RepC (.iso (kj C hp w)) q (xs.flatMap qa.flat) 0:=by
      refine RepC.of_vals (qp.imp (C:=.iso C.K) (C':=.iso (kj C hp w)) ⟨fun _ _ _ h=>qhr m h,fun _ _ h=>h⟩ g5) fun j u hj=>?_
      refine qtu hhid ?_ (g7 u (List.mem_of_getElem? hj))
      unfold World.cell?
      rw[g1]
      simp only[Option.isSome_none,Bool.false_eq_true,if_false,Nat.zero_add]
      exact g6 j u hj
     have hrow:RepRow (.iso (kj C hp w)) q sz xs 0:=RepRow.of_cells hall g4
     have:=qp.list (C:=.iso (kj C hp w)) sz (xs.take len) q 0 cap (by rw[List.length_take];omega) (hrow.take len)
     rw[List.length_take,Nat.min_eq_left hlen]at this
     exact this
  ·cases hf
 ·cases hf
  exact qma m h hb
theorem qmp (m:MInv P C ω w0 C0 hp w):∀ {xs xs':List qa} {vs:List Value},qby hp xs=some xs'→RepL C xs vs→zu 0 xs'=true→RepL (.iso (kj C hp w)) xs' vs
 | [],xs',vs,hf,h,_=>by
  simp only[qby,Option.some.injEq]at hf
  subst hf
  cases h
  exact .nil
 |x::xs,xs',vs,hf,h,hb=>by
  simp only[qby]at hf
  split at hf
  ·rename_i y hy
   split at hf
   ·rename_i ys hys
    cases hf
    simp only[zu,Bool.and_eq_true]at hb
    cases h with
    |cons _ _ v vs hx h=>exact .cons _ _ _ _ (qml m hy hx hb.1) (qmp m hys h hb.2)
   ·cases hf
  ·cases hf
theorem ql6 (m:MInv P C ω w0 C0 hp w):∀ {xs xs':List qa} {vs:List Value},freezeR.freezeT hp xs=some xs'→RepL C xs vs→zu 0 xs'=true→RepL (.iso (kj C hp w)) xs' vs
 | [],xs',vs,hf,h,_=>by
  simp only[freezeR.freezeT,Option.some.injEq]at hf
  subst hf
  cases h
  exact .nil
 |x::xs,xs',vs,hf,h,hb=>by
  cases h with
  |cons _ _ v vs hx h=>
   unfold freezeR.freezeT at hf
   split at hf
   ·cases ‹_::_=[]›
   ·rename_i cs vs' heq
    cases heq
    split at hf
    ·rename_i y hy
     split at hf
     ·rename_i ys hys
      cases hf
      simp only[zu,below,Bool.and_eq_true]at hb
      obtain⟨us,rfl,hu⟩:=Rep.agg_inv hx
      exact .cons _ _ _ _ (.agg _ _ (qmp m hy hu hb.1)) (ql6 m hys h hb.2)
     ·cases hf
    ·cases hf
   ·rename_i heq
    cases heq
    split at hf
    ·rename_i y hy
     split at hf
     ·rename_i ys hys
      cases hf
      simp only[zu,Bool.and_eq_true]at hb
      exact .cons _ _ _ _ (qml m hy hx hb.1) (ql6 m hys h hb.2)
     ·cases hf
    ·cases hf
theorem q5t (m:MInv P C ω w0 C0 hp w){x x':qa}{v:Value}(hf:freezeR hp x=some x')(h:Rep C x v)(hb:below 0 x'=true):Rep (.iso (kj C hp w)) x' v:=by
 unfold freezeR at hf
 split at hf
 ·split at hf
  ·rename_i ys hys
   cases hf
   obtain⟨us,rfl,hu⟩:=h.agg_inv
   exact .agg _ _ (qmp m hys hu (by simpa[below]using hb))
  ·cases hf
 ·split at hf
  ·rename_i ys hys
   cases hf
   cases h with
   |tup _ vs hu=>exact .tup _ _ (ql6 m hys hu (by simpa[below]using hb))
  ·cases hf
 ·exact qml m hf h hb
end
def qut:qo→Exit
 | .normal=>.normal
 | .exit id=>.exit id
 | .ret=>.ret
def qbi (ρ:Option Nat):Fence:={ Fence.wide with round:=ρ }
theorem qxh {ρ:Option Nat}{n:Nat}{P:Program}{f:FuncId}{args:Array Value}{w:World}{R:Ending→World→Prop}:CallsIn (qbi ρ) n P f args w R↔CallsIn Fence.wide n P f args w R:=Iff.rfl
def Marks (C:Ctx)(B:Nat)(ds:List Deferred):Prop:=∃rs:List Nat,ds=rs.map (fun r=>{ target:=.collected r,args:=#[] })∧rs.Nodup∧∀r∈rs,C.D r∧B≤r
theorem Marks.mono {C C':Ctx}{B:Nat}{ds:List Deferred}(h:Marks C B ds)(hle:C.le C'):Marks C' B ds:=
 let ⟨rs,h1,h2,h3⟩:=h; ⟨rs,h1,h2,fun r hr=>⟨hle.d r (h3 r hr).1,(h3 r hr).2⟩⟩
theorem Marks.nil {C:Ctx}{B:Nat}:Marks C B []:=⟨[],rfl,List.nodup_nil,by simp⟩
def CodeOk (P:Program)(xc:XC):Prop:=
 ∀(ρ:Option Nat) (nt:Nat) (c:Code) (ca:qe) (st st':qg) (x:qo),q36 P nt c ca→(ρ≠none→kn ca=true)→xc ca st=some (x,st') →
  ∀(C:Ctx) (ω:Nat→Option Loc) (w0:World) (C0:Ctx) (a:Act) (w:World),MInv P C ω w0 C0 st.heap w→EnvRel C ω w w0.heap.size st.env a.tmps→a.tmps.size=nt→Marks C w0.heap.size a.defers →
   c.wpIn (qbi ρ) 0 P (fun e a' w'=>e=qut x∧a'.tmps.size=nt∧∃C' ω',C.le C'∧Marks C' w0.heap.size a'.defers∧MInv P C' ω' w0 C0 st'.heap w'∧EnvRel C' ω' w' w0.heap.size st'.env a'.tmps) a w
def IsoCall (P:Program)(k:Nat)(args:List qa)(v:qa)(ow:Bool):Prop:=
 ∀(K:Nat→Nat→Option Value) (w:World) (vs:List Value),Tabs P w →
  (∀r o u,K r o=some u→w.cell? ⟨r,o,none⟩=some u)→(∀r o u,K r o=some u→u.oneCell'=true)→RepL (.iso K) args vs →
  CallsIn Fence.wide 0 P k ⟨vs⟩ w fun e w'=>∃u K',e=.returned u∧Ext w w'∧(∀r o x,K r o=some x→K' r o=some x)∧(∀r o,r<w.heap.size→K' r o=K r o) ∧
   (∀r o x,K' r o=some x→w'.cell? ⟨r,o,none⟩=some x)∧(∀r o x,K' r o=some x→x.oneCell'=true)∧Rep (.iso K') v u ∧
   (ow=true→∃ℓ ω',OwnV (.iso K') ω' w' w.heap.size ℓ v u)
def Enters (P : Program) (k : Nat) : Prop := ∃ fn, P.funcs[k]? = some fn ∧ fn.name ≠ "runtime.NumGoroutine" ∧ fn.body.isSome
def qou (P:Program)(k:Nat)(args:List qa)(h:j8)(v:qa)(ow:Bool)(h':j8):Prop:=
 ∀(C:Ctx) (ω:Nat→Option Loc) (w:World) (vs:List Value),RepL C args vs→MInv P C ω w C h w →
  CallsIn Fence.wide 0 P k ⟨vs⟩ w fun e w'=>∃u C' ω',e=.returned u∧C.le C'∧MInv P C' ω' w C h' w'∧Rep C' v u∧(ow=true→OwnV C' ω' w' w.heap.size (.slot 0) v u)
def qyx (P:Program)(k:Nat)(es:List (qa×qa)):Prop:=
 ∀(K:Nat→Nat→Option Value) (w:World),Tabs P w →
  (∀r o u,K r o=some u→w.cell? ⟨r,o,none⟩=some u)→(∀r o u,K r o=some u→u.oneCell'=true) →
  CallsIn Fence.wide 0 P k ⟨[]⟩ w fun e w'=>∃q K' ents clock,e=.returned (.map (some q))∧Ext w w'∧(∀r o x,K r o=some x→K' r o=some x)∧(∀r o,r<w.heap.size→K' r o=K r o) ∧
   (∀r o x,K' r o=some x→w'.cell? ⟨r,o,none⟩=some x)∧(∀r o x,K' r o=some x→x.oneCell'=true)∧w.heap.size≤q∧w'.heap[q]?=some (.map ents clock)∧qy (.iso K') es ents.toList
structure qx (P:Program)(p:qt):Prop where
 fn:∀k f,p.fns k=some f→∃fn h,P.funcs[k]?=some fn∧q3t P h fn=some f
 prim:∀k f,p.prims k=some f→Enters P k∧∀args v o,f args=some (v,o)→qea v=true→zu 0 args=true→IsoCall P k args v o
 mixed:P.follows .mixedOrders=true
 sprim:∀k f,p.sprims k=some f→Enters P k∧∀args h v o h',f args h=some (v,o,h')→qou P k args h v o h':=by intro k f h;cases h
 maps:∀k es,p.maps k=some es→Enters P k∧qyx P k es:=by intro k f h;cases h
theorem qu3 {P : Program} {h : qb} {fn : Func} {f : qd} (hc : q3t P h fn = some f) : ∃ c, fn.body = some c ∧ qbl P h fn.ntmps c = some f.body ∧ qo9 P fn.results.toList = some f.results ∧ f.ntmps = fn.ntmps ∧ fn.name ≠ "runtime.NumGoroutine" := by
 unfold q3t at hc
 split at hc
 ·rename_i c hb
  split at hc
  ·rename_i b rs h1 h2
   split at hc
   ·cases hc
   ·rename_i hn
    cases hc
    exact⟨c,hb,h1,h2,rfl,by simpa using hn⟩
  ·cases hc
 ·cases hc
theorem qx.enters {P:Program}{p:qt}(h:qx P p){k:Nat}{f:qd}(hf:p.fns k=some f):Enters P k:=by
 obtain⟨fn,hh,h1,h2⟩:=h.fn k f hf
 obtain⟨c,hb,_,_,_,hn⟩:=qu3 h2
 exact⟨fn,h1,hn,by simp[hb]⟩
theorem qrc {P:Program}{k:Nat}(h:Enters P k)(args:Array Value)(w:World):(callFunc k args).run P w=.ok (.enter k args) w:=by
 obtain⟨fn,h1,h2,h3⟩:=h
 simp[callFunc,h1,h2,Option.isNone_iff_eq_none,Option.isSome_iff_ne_none.1 h3]
section
variable {P:Program}{p:qt}{xc:XC}{C C0:Ctx}{ω:Nat→Option Loc}{w w0:World}{hp:j8}{env:Env}{tmps:Array Value}{B:Nat}{a:Act}{o:Oper}{d:Loc}
theorem qtz:∀ {args:List qa} {i s:Nat} {x:qa×Bool},ye s (qeo i args)=some x→∃j,s=i+j∧args[j]?=some x.1∧x.2=false
 | [],_,_,_,h=>by simp[qeo,ye]at h
 |v::args,i,s,x,h=>by
  simp only[qeo,ye]at h
  cases hb:Nat.beq i s with
  |true=>
   simp only[hb,cT,Option.some.injEq]at h
   subst h
   exact⟨0,(Nat.eq_of_beq_eq_true hb).symm,rfl,rfl⟩
  |false=>
   simp only[hb,cond_false]at h
   obtain⟨j,h1,h2,h3⟩:=qtz h
   exact⟨j+1,by omega,by simpa using h2,h3⟩
theorem q65 {r o:Nat}{v:Value}(h:w.cell? ⟨r,o,none⟩=some v):∃cs t fr,w.heap[r]?=some (.cells cs t fr):=by
 unfold World.cell? at h
 split at h
 ·rename_i cs t fr hg;exact⟨cs,t,fr,hg⟩
 ·cases h
theorem MInv.other {D':Nat→Prop}(m:MInv P C ω w0 C0 hp w){r:Nat}{w':World}(hu:jk w w' r)(hβ:∀b,C.β b≠some r)(hr:w0.heap.size≤r)(hnc:∀cs t fr,w.heap[r]?≠some (.cells cs t fr))(hD:∀k,D' k→C.D k∧k≠r)(h0:∀k,C0.D k→D' k):
  MInv P { C with D:=D' } ω w0 C0 hp w':=by
 have hown:∀ {B:Nat} {ℓ:Loc} {x:qa} {v:Value},OwnV C ω w B ℓ x v→OwnV { C with D:=D' } ω w' B ℓ x v:=by
  intro B ℓ x v ho
  unfold OwnV at *
  split at ho
  ·obtain⟨h1,h2,h3,h4,h8,⟨cells,elem,h5,h6⟩,h7⟩:=ho
   refine⟨h1,h2,h3,h4,h8,⟨cells,elem,?_,h6⟩,h7⟩
   rw[hu.other _ (fun h=>hnc _ _ _ (h▸h5))]
   exact h5
  ·obtain⟨h1,h2,h3,h4,h8,⟨cells,elem,h5,h6⟩,h7⟩:=ho
   refine⟨h1,h2,h3,h4,h8,⟨cells,elem,?_,h6⟩,h7⟩
   rw[hu.other _ (fun h=>hnc _ _ _ (h▸h5))]
   exact h5
  ·trivial
 refine { base:=m.base,know:=?_,kone:=m.kone,apart:=m.apart,inj:=m.inj,lt:=?_,size:=?_,frame:=?_,dfr:=?_,os:=hu.os.trans m.os,output:=hu.output.trans m.output,fresh:=m.fresh,grown:=⟨m.grown.k,m.grown.b,m.grown.w,h0,m.grown.t⟩,old:=m.old,box:=?_,tlt:=fun q hq=>by rw[hu.size];exact m.tlt q hq }
 ·intro k p v hk
  have hc:=m.know _ _ _ hk
  have hne:k≠r:=fun h=>by
   obtain⟨cs,t,fr,hg⟩:=q65 hc
   exact hnc cs t fr (h▸hg)
  simp only[World.cell?]at hc ⊢
  rw[hu.other k hne];exact hc
 ·intro b p hb
  rw[hu.size];exact m.lt b p hb
 ·rw[hu.size];exact m.size
 ·intro k hk hn hw
  rw[hu.other k (by omega)];exact m.frame k hk hn hw
 ·intro k hk
  obtain⟨h1,h2⟩:=hD k hk
  rw[hu.other k h2];exact m.dfr k h1
 ·intro b x p hx hb
  refine BoxRel.imp (C:=C) (C':={ C with D:=D' }) ⟨fun _ _ _ h=>h,fun _ _ h=>h⟩ (hu.other p (fun h=>hβ b (h▸hb))) (fun j y v ho=>hown ho) (m.box b x p hx hb) (hq:=fun q n cap k=>by
   obtain⟨_,_,_,_,_,⟨cells,elem,h5,_⟩,_⟩:=k
   exact hu.other q (fun h=>hnc _ _ _ (h▸h5)))
theorem OwnV.other' {D':Nat→Prop}{r:Nat}{w':World}(hu:jk w w' r)(hnc:∀cs t fr,w.heap[r]?≠some (.cells cs t fr)){ℓ:Loc}{x:qa}{v:Value}(ho:OwnV C ω w B ℓ x v):OwnV { C with D:=D' } ω w' B ℓ x v:=by
 unfold OwnV at *
 split at ho
 ·obtain⟨h1,h2,h3,h4,h8,⟨cells,elem,h5,h6⟩,h7⟩:=ho
  refine⟨h1,h2,h3,h4,h8,⟨cells,elem,?_,h6⟩,h7⟩
  rw[hu.other _ (fun h=>hnc _ _ _ (h▸h5))]
  exact h5
 ·obtain⟨h1,h2,h3,h4,h8,⟨cells,elem,h5,h6⟩,h7⟩:=ho
  refine⟨h1,h2,h3,h4,h8,⟨cells,elem,?_,h6⟩,h7⟩
  rw[hu.other _ (fun h=>hnc _ _ _ (h▸h5))]
  exact h5
 ·trivial
theorem Rep.sameD {D':Nat→Prop}{x:qa}{v:Value}(h:Rep C x v):Rep { C with D:=D' } x v:=qp.imp (C:=C) (C':={ C with D:=D' }) ⟨fun _ _ _ h=>h,fun _ _ h=>h⟩ h
theorem EnvRel.other' {D':Nat→Prop}{r:Nat}{w':World}(hu:jk w w' r)(hnc:∀cs t fr,w.heap[r]?≠some (.cells cs t fr))(e:EnvRel C ω w B env tmps):EnvRel { C with D:=D' } ω w' B env tmps:=
 fun s x hs=>let ⟨v,h1,h2,h3⟩:=e s x hs; ⟨v,h1,Rep.sameD h2,fun h=>(h3 h).other' hu hnc⟩
theorem qzz {fn:Func}{R:Ending→World→Prop}:∀(rs:List Nat) (C':Ctx) (w:World),C.le C'→MInv P C' ω w0 C hp w→EnvRel C' ω w w0.heap.size env tmps→rs.Nodup→(∀r∈rs,C'.D r∧w0.heap.size≤r)→(∀k,C.D k→k<w0.heap.size) →
  (∀(C2:Ctx) (w2:World),C.le C2→C2.D=C.D→MInv P C2 ω w0 C hp w2→EnvRel C2 ω w2 w0.heap.size env tmps→∃v,(results fn tmps).run P w2=.ok v w2∧R (.returned v) w2) →
  LeavesInM Fence.wide 0 P fn tmps R (rs.map fun r=>{ target:=.collected r,args:=#[] }) .returning w
 | [],C',w,hle,m,e,_,_,hD,hres=>by
  have hr0:∀ {k},C.D k→C'.D k:=fun h=>hle.d _ h
  -- the marks are forgotten
  have m2:MInv P { C' with D:=C.D } ω w0 C hp w:={ m with
   dfr:=fun r hr=>m.dfr r (hr0 hr)
   grown:=⟨m.grown.k,m.grown.b,m.grown.w,fun _ h=>h,m.grown.t⟩
   box:=fun b x r hx hb=>BoxRel.imp (C:=C') (C':={ C' with D:=C.D }) ⟨fun _ _ _ h=>h,fun _ _ h=>h⟩ rfl (fun j y v ho=>ho) (m.box b x r hx hb) }
  have e2:EnvRel { C' with D:=C.D } ω w w0.heap.size env tmps:=fun s x hs=>let ⟨v,h1,h2,h3⟩:=e s x hs; ⟨v,h1,Rep.sameD h2,h3⟩
  exact hres { C' with D:=C.D } w ⟨hle.k,hle.b,hle.w,fun _ h=>h,hle.t⟩ rfl m2 e2
 |r::rs,C',w,hle,m,e,hnd,hrs,hD,hres=>by
  obtain⟨hDr,hBr⟩:=hrs r (by simp)
  have hg:=m.dfr r hDr
  have hlt:=(Array.getElem?_eq_some_iff.1 hg).1
  have hnc:∀cs t fr,w.heap[r]?≠some (.cells cs t fr):=fun cs t fr h=>by rw[hg]at h;cases h
  have hu:jk w (qay w r (.deferred none)) r:=qg0 hlt (by simp)
  have hβ:∀b,C'.β b≠some r:=by
   intro b hb
   obtain⟨x,hx⟩:=List.getElem?_eq_getElem (m.lt b r hb).2▸(⟨_,rfl⟩:∃x,some (hp[b]'(m.lt b r hb).2)=some x)
   have h0:=m.box b x r hx hb
   cases x with
   |hole=>exact h0
   |cells cs=>obtain⟨vs,elem,h1,_⟩:=h0;rw[hg]at h1;cases h1
   |map es=>obtain⟨ents,clock,h1,_⟩:=h0;rw[hg]at h1;cases h1
   |iter s pos=>have h1:w.heap[r]?=_:=h0;rw[hg]at h1;cases h1
   |loop l=>obtain⟨lp,h1,_⟩:=h0;rw[hg]at h1;cases h1
   |bld t e l=>obtain⟨p,v,h1,_⟩:=h0;rw[hg]at h1;cases h1
   |dead=>obtain⟨cs,t,h1⟩:=h0;rw[hg]at h1;cases h1
   |vec sz ver xs=>obtain⟨_,_,_,_,_,_,cs,t,h1⟩:=h0;rw[hg]at h1;cases h1
  have hrun:(Instr.takeDeferred r).run P w=.ok [] (qay w r (.deferred none)):=by
   have hs:=qdv (P:=P) (x:=.deferred none) hg (by simp)
   simp only[Instr.takeDeferred,Sem.run_bind,qbu hg (by simp),Result.andThen_ok,hs,Sem.run_pure]
  refine⟨by simp,.inl ⟨r,_,rfl,hrun,?_⟩⟩
  have hnd':=List.nodup_cons.1 hnd
  have m2:=m.other (D':=fun k=>C'.D k∧k≠r) hu hβ hBr hnc (fun k h=>h) (fun k h=>⟨hle.d k h,fun hk=>by have:=hD k h;omega⟩)
  exact qzz rs { C' with D:=fun k=>C'.D k∧k≠r } _ ⟨hle.k,hle.b,hle.w,fun k h=>⟨hle.d k h,fun hk=>by have:=hD k h;omega⟩,hle.t⟩ m2 (e.other' hu hnc) hnd'.2
   (fun k hk=>⟨⟨(hrs k (by simp[hk])).1,fun h=>hnd'.1 (h▸hk)⟩,(hrs k (by simp[hk])).2⟩) hD hres
theorem q5x (hx:CodeOk P xc){k:Nat}{fn:Func}{h:qb}{f:qd}(hfn:P.funcs[k]?=some fn)(hc:q3t P h fn=some f){args:List qa}{v:qa}{ow:Bool}{h':j8}(hr:qcy xc f args hp=some (v,ow,h')){vs:List Value}(hargs:RepL C args vs)(m:MInv P C ω w C hp w):
  CallsIn Fence.wide 0 P k ⟨vs⟩ w fun e w'=>∃u C' ω',e=.returned u∧C.le C'∧MInv P C' ω' w C h' w'∧Rep C' v u∧(ow=true→OwnV C' ω' w' w.heap.size (.slot 0) v u):=by
 obtain⟨c,hb,h1,h2,h3,_⟩:=qu3 hc
 unfold qcy at hr
 have hD:∀k,C.D k→k<w.heap.size:=fun k hk=>(Array.getElem?_eq_some_iff.1 (m.dfr k hk)).1
 cases hle:Nat.ble args.length f.ntmps with
 |false=>simp[hle]at hr
 |true=>
  simp only[hle,cT]at hr
  have hlen:=Nat.le_of_ble_eq_true hle
  have hvl:=hargs.length
  refine callsIn_of_wp_marks hfn hb trivial ?_
  have hsz:((⟨vs⟩:Array Value)++Array.replicate (fn.ntmps-(⟨vs⟩:Array Value).size) undef).size=fn.ntmps:=by
   simp;omega
  have henv:EnvRel C ω w w.heap.size (qeo 0 args) ((⟨vs⟩:Array Value)++Array.replicate (fn.ntmps-(⟨vs⟩:Array Value).size) undef):=by
   intro s x hx
   obtain⟨j,rfl,hj,hf⟩:=qtz hx
   obtain⟨u,k1,k2⟩:=hargs.get hj
   have hlt:j<vs.length:=(List.getElem?_eq_some_iff.1 k1).1
   refine⟨u,?_,k2,by simp[hf]⟩
   rw[Nat.zero_add,Array.getElem?_append_left (by simpa using hlt)]
   simpa using k1
  have fin:∀(st:qg) (a':Act) (w':World) (C':Ctx) (ω':Nat→Option Loc),C.le C'→Marks C' w.heap.size a'.defers→MInv P C' ω' w C st.heap w'→EnvRel C' ω' w' w.heap.size st.env a'.tmps →
    (match qa1 st f.results with
     |some xs=>some ((yt xs).1,(yt xs).2,qa8 st f.results)
     |none=>none)=some (v,ow,h') →
    LeavesInM Fence.wide 0 P fn a'.tmps (fun e w'=>∃u C' ω',e=.returned u∧C.le C'∧MInv P C' ω' w C h' w'∧Rep C' v u∧(ow=true→OwnV C' ω' w' w.heap.size (.slot 0) v u)) a'.defers .returning w':=by
   intro st a' w' C' ω' hle ⟨rs,hds,hnd,hrs⟩ m' e' hr
   rw[hds]
   refine qzz (C:=C) (ω:=ω') (w0:=w) (hp:=st.heap) (env:=st.env) rs C' w' hle m' e' hnd hrs hD ?_
   intro C2 w2 hle2 _ m2 e2
   split at hr
   ·rename_i xs hxs
    cases hr
    obtain⟨u,ω2,k1,k2,k3,k4⟩:=q51 (fn:=fn) m2 e2 h2 hxs
    exact⟨u,k1,u,C2,ω2,rfl,hle2,k2,k3,k4⟩
   ·cases hr
  split at hr
  ·rename_i st hst
   refine wpIn_mono (hx none fn.ntmps c f.body _ _ _ ⟨h,h1⟩ (fun h=>absurd rfl h) hst C ω w C _ w m henv hsz Marks.nil) ?_
   rintro e a' w' ⟨rfl,q1,C',ω',q3,q2,q4,q5⟩
   exact fin st a' w' C' ω' q3 q2 q4 q5 hr
  ·rename_i st hst
   refine wpIn_mono (hx none fn.ntmps c f.body _ _ _ ⟨h,h1⟩ (fun h=>absurd rfl h) hst C ω w C _ w m henv hsz Marks.nil) ?_
   rintro e a' w' ⟨rfl,q1,C',ω',q3,q2,q4,q5⟩
   exact fin st a' w' C' ω' q3 q2 q4 q5 hr
  ·cases hr
theorem q28 {K:Nat→Nat→Option Value}(ht:Tabs P w)(h1:∀r o u,K r o=some u→w.cell? ⟨r,o,none⟩=some u)(h2:∀r o u,K r o=some u→u.oneCell'=true):MInv P (.iso K) (fun _=>none) w (.iso K) [] w where
 base:=⟨ht,fun g _=>⟨fun b h=>(by cases h),fun h=>h⟩⟩
 know:=h1
 kone:=h2
 apart:=by simp[Ctx.iso]
 inj:=by simp[Ctx.iso]
 lt:=by simp[Ctx.iso]
 size:=Nat.le_refl _
 frame _ _ _ _:=rfl
 dfr _ h:=h.elim
 os:=rfl
 output:=rfl
 fresh:=by simp[Ctx.iso]
 grown:=Ctx.le_refl _
 old _ _ _ _:=rfl
 box:=by simp
 tlt _ h:=h.elim
theorem qi1 (hp:qx P p)(hx:CodeOk P xc){k:Nat}{args:List qa}{h h':j8}{v:qa}{ow:Bool}(hr:zf p xc k args h=some (v,ow,h')):Enters P k∧qou P k args h v ow h':=by
 unfold zf at hr
 split at hr
 ·rename_i f hf
  obtain⟨fn,hh,hfn,hcf⟩:=hp.fn k f hf
  exact⟨hp.enters hf,fun C ω w vs hargs m=>q5x hx hfn hcf hr hargs m⟩
 ·split at hr
  ·rename_i f hf
   obtain⟨he,hs⟩:=hp.sprim k f hf
   exact⟨he,hs _ _ _ _ _ hr⟩
  ·cases hr
theorem qy.iso {es:List (qa×qa)}{ms:List MapEntry}(h:qy C es ms):qbp 0 es=true→qy (.iso C.K) es ms:=by
 induction h with
 |nil=>exact fun _=>.nil
 |cons k v es m ms hk hv _ ih=>
  intro hb
  simp only[qbp,Bool.and_eq_true]at hb
  exact .cons _ _ _ _ _ (qp.shift (C:=C) (C':=.iso C.K) 0 (fun _ _ _ h=>h) (fun b r hlt=>by omega) hk hb.1.1) (qp.shift (C:=C) (C':=.iso C.K) 0 (fun _ _ _ h=>h) (fun b r hlt=>by omega) hv hb.1.2) (ih hb.2)
theorem q7m (hp:qx P p)(hx:CodeOk P xc){k b:Nat}{ow:Bool}{h1:j8}{es:List (qa×qa)}(hr:zf p xc k [] []=some (.map b,ow,h1))(hb:h1[b]?=some (.map es))(he:qbp 0 es=true):Enters P k∧qyx P k es:=by
 obtain⟨hen,hshr⟩:=qi1 hp hx hr
 refine⟨hen,fun K w ht g1 g2=>?_⟩
 refine CallsIn.mono (hshr _ _ _ [] .nil (q28 (P:=P) ht g1 g2)) ?_
 rintro e w' ⟨u,C',ω',rfl,hle,m',hrep,_⟩
 cases hrep with
 |map _ q hq=>
  obtain⟨ents,clock,k1,k2⟩:=m'.box b _ q hb hq
  refine⟨q,C'.K,ents,clock,rfl,⟨m'.size,fun r hr=>m'.frame r hr (by simp[Ctx.iso]) (by simp[Ctx.iso]),m'.os,m'.output⟩,hle.1,fun r o hr=>m'.old r o hr (by simp[Ctx.iso]),m'.know,m'.kone,?_,k1,k2.iso he⟩
  rcases m'.fresh b q hq with h|h|h
  ·cases h
  ·exact h
  ·exact h.elim
theorem qjw (hp:qx P p)(hx:CodeOk P xc){k:Nat}{args:List qa}{v:qa}{ow:Bool}(hr:jy p xc k args=some (v,ow))(hb:zu 0 args=true):Enters P k∧qea v=true∧IsoCall P k args v ow:=by
 unfold jy at hr
 split at hr
 ·rename_i f hf
  obtain⟨he,hprim⟩:=hp.prim k f hf
  split at hr
  ·rename_i v' o' hfv
   cases hpv:qea v' with
   |false=>simp[hpv]at hr
   |true=>
    simp only[hpv,cT]at hr
    cases hr
    exact⟨he,hpv,hprim args _ _ hfv hpv hb⟩
  ·cases hr
 ·split at hr
  ·rename_i v0 o' h' hfv
   split at hr
   ·rename_i v' hfz
    cases hpv:qea v' with
    |false=>simp[hpv]at hr
    |true=>
     simp only[hpv,cT]at hr
     cases hr
     obtain⟨hen,hshr⟩:=qi1 hp hx hfv
     ·refine⟨hen,hpv,?_⟩
      intro K w vs ht h1 h2 hargs
      have:=hshr _ _ _ _ hargs (q28 (P:=P) ht h1 h2)
      refine CallsIn.mono this ?_
      rintro e w' ⟨u,C',ω',rfl,hle,m',hrep,hown⟩
      refine⟨u,kj C' h' w',rfl,?_,fun r o x hr=>qhr m' (hle.1 r o x hr),fun r o hr=>?_,fun r o x hr=>(qhf m' hr).1,fun r o x hr=>(qhf m' hr).2,q5t m' hfz hrep hpv,?_⟩
      ·exact⟨m'.size,fun r hr=>m'.frame r hr (by simp[Ctx.iso]) (by simp[Ctx.iso]),m'.os,m'.output⟩
      ·have hold:=m'.old r o hr (by simp[Ctx.iso])
       unfold kj
       rw[if_neg]
       ·exact hold
       intro hh
       have:=jba hle.w m' hh
       omega
      ·intro ho
       simp only[Bool.and_eq_true]at ho
       have hℓ:=hown ho.1
       refine⟨.slot 0,ω',?_⟩
       cases v0 with
       |list n sz xs=>
        have hvv:v=.list n sz xs:=by
         simp only[freezeR,qa4,Option.some.injEq]at hfz
         exact hfz.symm
        subst hvv
        unfold OwnV at *
        split at hℓ
        ·obtain⟨g1,g2,g3,g4,g5,g6,g7⟩:=hℓ
         refine⟨g1,.inl (g2.resolve_right (by rw[hle.w];exact fun h=>h)),by simp[Ctx.iso],g4,g5,g6,fun o ho'=>?_⟩
         show kj C' h' w' _ o=none
         unfold kj
         rw[if_neg]
         ·exact g7 o ho'
         ·rintro (⟨b,hb⟩|hh)
          ·exact g3 b hb
          ·rcases hh.is m' with⟨b,hb⟩|⟨b,_,_,_,_,_,_,h2⟩
           ·exact g3 b hb
           ·have:=h2.1;rw[g1]at this;simp at this
        all_goals trivial
       |_=>exact absurd ho.2 (by simp[qa.isList])
   ·cases hr
  ·cases hr
end
section
variable {P:Program}{p:qt}{xc:XC}{C C0 C1:Ctx}{ω ω1:Nat→Option Loc}{w w' w0:World}{hp h1:j8}{env:Env}{tmps:Array Value}{B:Nat}{a:Act}{o:Oper}{d:Loc}
theorem OwnV.grow {K':Nat→Nat→Option Value}{ℓ:Loc}{x:qa}{v:Value}(hx:Ext w w')(hK:∀r o,r<w.heap.size→K' r o=C.K r o)(ho:OwnV C ω w B ℓ x v):OwnV { C with K:=K' } ω w' B ℓ x v:=by
 unfold OwnV at *
 split at ho
 ·obtain⟨h1,h2,h3,h4,h8,⟨cells,elem,h5,h6⟩,h7⟩:=ho
  have hlt:=(Array.getElem?_eq_some_iff.1 h5).1
  exact⟨h1,h2,h3,h4,h8,⟨cells,elem,hx.get h5,h6⟩,fun o ho=>by
   show K' _ o=none
   rw[hK _ o hlt];exact h7 o ho⟩
 ·obtain⟨h1,h2,h3,h4,h8,⟨cells,elem,h5,h6⟩,h7⟩:=ho
  have hlt:=(Array.getElem?_eq_some_iff.1 h5).1
  exact⟨h1,h2,h3,h4,h8,⟨cells,elem,hx.get h5,h6⟩,fun o ho=>by
   show K' _ o=none
   rw[hK _ o hlt];exact h7 o ho⟩
 ·trivial
theorem MInv.iso {K':Nat→Nat→Option Value}(m:MInv P C ω w0 C0 hp w)(hx:Ext w w')(hle:∀r o x,C.K r o=some x→K' r o=some x)(hK:∀r o,r<w.heap.size→K' r o=C.K r o)(hk:∀r o x,K' r o=some x→w'.cell? ⟨r,o,none⟩=some x)(h1:∀r o x,K' r o=some x→x.oneCell'=true):
  MInv P { C with K:=K' } ω w0 C0 hp w' where
 base:=m.base
 know:=hk
 kone:=h1
 apart b r o hb:=by
  show K' r o=none
  rw[hK r o (m.lt b r hb).1];exact m.apart b r o hb
 inj:=m.inj
 lt b r hb:=⟨Nat.lt_of_lt_of_le (m.lt b r hb).1 hx.size,(m.lt b r hb).2⟩
 size:=Nat.le_trans m.size hx.size
 frame:=(m.ext hx).frame
 dfr:=(m.ext hx).dfr
 os:=(m.ext hx).os
 output:=(m.ext hx).output
 fresh:=m.fresh
 grown:=Ctx.le_trans m.grown ⟨hle,fun _ _ h=>h,rfl,fun _ h=>h,fun _ h=>h⟩
 old r o hr hw:=by
  show K' r o=_
  rw[hK r o (Nat.lt_of_lt_of_le hr m.size)];exact m.old r o hr hw
 box b x r hb hr:=by
  have h0:=m.box b x r hb hr
  -- in the new world first,then in the richer context
  cases x with
  |hole=>exact h0
  |cells cs=>
   obtain⟨vs,elem,g1,g2,g3⟩:=h0
   exact⟨vs,elem,hx.get g1,g2,fun j c hc=>let ⟨v,a,q,b,d⟩:=g3 j c hc; ⟨v,a,q,qp.mono (C':={ C with K:=K' }) ⟨hle,fun _ _ h=>h,rfl,fun _ h=>h,fun _ h=>h⟩ b,fun e=>(d e).grow hx hK⟩⟩
  |map es=>obtain⟨ents,clock,g1,g2⟩:=h0;exact⟨ents,clock,hx.get g1,qy.mono (C:=C) (C':={ C with K:=K' }) ⟨hle,fun _ _ h=>h,rfl,fun _ h=>h,fun _ h=>h⟩ g2⟩
  |iter s pos=>exact hx.get h0
  |loop l=>obtain⟨lp,g1,g2⟩:=h0;exact⟨lp,hx.get g1,q9.mono (C:=C) (C':={ C with K:=K' }) ⟨hle,fun _ _ h=>h,rfl,fun _ h=>h,fun _ h=>h⟩ g2⟩
  |bld t e l=>obtain⟨p,v,g1,g2,g3,g4⟩:=h0;exact⟨p,v,hx.get g1,g2,g3,g4.grow hx hK⟩
  |dead=>obtain⟨cs,t,g1⟩:=h0;exact⟨cs,t,hx.get g1⟩
  |vec sz ver xs=>
   have hg:∀ {k:Nat} {c:Array Value} {t:TypeId},w.heap[k]?=some (.cells c t (0,0))→w'.heap[k]?=w.heap[k]?:=fun hk=>by rw[hx.get hk,hk]
   obtain⟨_,_,_,_,_,_,cs,t,g1⟩:=id h0
   refine VecRel.imp hle (fun _ h=>h) (fun _ h _=>h) (hg g1) (fun q n cap k=>⟨?_,k.grow hx hK⟩) h0
   obtain⟨_,_,_,_,_,⟨cells,elem,h5,_⟩,_⟩:=k
   exact hg h5
 tlt q hq:=Nat.lt_of_lt_of_le (m.tlt q hq) hx.size
theorem EnvRel.iso {K':Nat→Nat→Option Value}(e:EnvRel C ω w B env tmps)(hx:Ext w w')(hle:∀r o x,C.K r o=some x→K' r o=some x)(hK:∀r o,r<w.heap.size→K' r o=C.K r o):EnvRel { C with K:=K' } ω w' B env tmps:=
 fun s x hs=>let ⟨v,h1,h2,h3⟩:=e s x hs; ⟨v,h1,qp.mono (C':={ C with K:=K' }) ⟨hle,fun _ _ h=>h,rfl,fun _ h=>h,fun _ h=>h⟩ h2,fun h=>(h3 h).grow hx hK⟩
theorem q4e (m:MInv P C ω w0 C0 hp w)(e:EnvRel C ω w w0.heap.size env tmps){v:qa}{ow:Bool}{u:Value}{K':Nat→Nat→Option Value}(hx:Ext w w')(hle:∀r o x,C.K r o=some x→K' r o=some x)(hK:∀r o,r<w.heap.size→K' r o=C.K r o)(hk:∀r o x,K' r o=some x→w'.cell? ⟨r,o,none⟩=some x)(h1:∀r o x,K' r o=some x→x.oneCell'=true)
  (hpv:qea v=true) (hr:Rep (.iso K') v u) (ho:ow=true→∃ℓ ω',OwnV (.iso K') ω' w' w.heap.size ℓ v u):kg P C0 w0 C tmps d env ⟨v,ow,none,hp⟩ u w':=by
 have m':=m.iso hx hle hK hk h1
 have e':=e.iso hx hle hK
 have hr':Rep { C with K:=K' } v u:=qp.shift (C:=.iso K') (C':={ C with K:=K' }) 0 (fun _ _ _ h=>h) (fun b r hlt=>by omega) hr hpv
 have hle':C.le { C with K:=K' }:=⟨hle,fun _ _ h=>h,rfl,fun _ h=>h,fun _ h=>h⟩
 by_cases hkL:∃(n:Bool) (sz:Nat) (xs:List qa) (ad:Addr) (len cap:Nat),v=.list n sz xs∧u=.slice (some ad) len cap∧ow=true
 ·obtain⟨n,sz,xs,ad,len,cap,rfl,rfl,rfl⟩:=hkL
  obtain⟨ℓ,ω',g1,g2',g3,g4,g5,g6,g7⟩:=ho rfl
  have g2:w.heap.size≤ad.block:=g2'.resolve_right (fun h=>h)
  have hbig:∀ℓ x v,OwnV C ω w w0.heap.size ℓ x v→OwnV { C with K:=K' } (own1 ω ad.block d) w' w0.heap.size ℓ x v:=fun ℓ x v h=>by
   have h2:=(h.fresh (ℓ':=d) g2).grow hx hK
   exact h2
  refine⟨{ C with K:=K' },own1 ω ad.block d,hle',?_,?_,hr',fun _=>?_⟩
  ·have:=(m.fresh1 ad.block d g2).iso hx hle hK hk h1
   exact this
  ·exact fun s x hs=>let ⟨v,h1,h2,h3⟩:=e s x hs; ⟨v,h1,qp.mono hle' h2,fun h=>hbig _ _ _ (h3 h)⟩
  ·refine⟨by simp[own1],.inl (Nat.le_trans m.size g2),fun b hb=>?_,g4,g5,g6,g7⟩
   have:=(m.lt b _ hb).1
   omega
 by_cases hk2:∃(n:Nat) (ad:Addr),v=.pend n∧u=.pointer (some ad)∧ow=true
 ·obtain⟨n,ad,rfl,rfl,rfl⟩:=hk2
  obtain⟨ℓ,ω',g1,g2',g3,g4,g5,g6,g7⟩:=ho rfl
  have g2:w.heap.size≤ad.block:=g2'.resolve_right (fun h=>h)
  have hbig:∀ℓ x v,OwnV C ω w w0.heap.size ℓ x v→OwnV { C with K:=K' } (own1 ω ad.block d) w' w0.heap.size ℓ x v:=fun ℓ x v h=>by
   have h2:=(h.fresh (ℓ':=d) g2).grow hx hK
   exact h2
  refine⟨{ C with K:=K' },own1 ω ad.block d,hle',?_,?_,hr',fun _=>?_⟩
  ·have:=(m.fresh1 ad.block d g2).iso hx hle hK hk h1
   exact this
  ·exact fun s x hs=>let ⟨v,h1,h2,h3⟩:=e s x hs; ⟨v,h1,qp.mono hle' h2,fun h=>hbig _ _ _ (h3 h)⟩
  ·refine⟨by simp[own1],.inl (Nat.le_trans m.size g2),fun b hb=>?_,g4,g5,g6,g7⟩
   have:=(m.lt b _ hb).1
   omega
 ·refine⟨{ C with K:=K' },ω,hle',m',e',hr',fun h=>?_⟩
  cases v with
  |list n sz xs=>
   cases u with
   |slice q len cap=>
    cases q with
    |some ad=>exact absurd ⟨_,_,_,_,_,_,rfl,rfl,h⟩ hkL
    |none=>trivial
   |_=>trivial
  |pend n=>
   cases u with
   |pointer q=>
    cases q with
    |some ad=>exact absurd ⟨_,_,rfl,rfl,h⟩ hk2
    |none=>trivial
   |_=>trivial
  |_=>trivial
theorem jf6 (m:MInv P C ω w0 C0 hp w)(e:EnvRel C ω w w0.heap.size env tmps){b q:Nat}{K':Nat→Nat→Option Value}{es:List (qa×qa)}{ents:Array MapEntry}{clock:Nat}(hx:Ext w w')(hle:∀r o x,C.K r o=some x→K' r o=some x)(hK:∀r o,r<w.heap.size→K' r o=C.K r o)(hk:∀r o x,K' r o=some x→w'.cell? ⟨r,o,none⟩=some x)(h1:∀r o x,K' r o=some x→x.oneCell'=true)
  (hh:hp[b]?=some .hole) (hq:w.heap.size≤q) (hg:w'.heap[q]?=some (.map ents clock)) (hr:qy (.iso K') es ents.toList):kg P C0 w0 C tmps d env ⟨.map b,false,none,hp.set b (.map es)⟩ (.map (some q)) w':=by
 have m':=m.iso hx hle hK hk h1
 have e':=e.iso hx hle hK
 have hle':C.le { C with K:=K' }:=⟨hle,fun _ _ h=>h,rfl,fun _ h=>h,fun _ h=>h⟩
 obtain⟨m2,e2,hle2⟩:=m'.boxAt e' hh hg (fun k hk=>by have:=(m.lt k q hk).1;omega) (Nat.le_trans m.size hq) (qy.imp (C:=.iso K') (C':={ C with K:=K' }) ⟨fun _ _ _ h=>h,fun b r h=>by simp[Ctx.iso]at h⟩ hr)
 exact⟨_,ω,Ctx.le_trans hle' hle2,m2,e2,.map _ _ (by simp[Ctx.box]),by simp⟩
theorem qhz {C C':Ctx}{x:qa}{v:Value}(hp:qdo x=true)(h:Rep C x v):Rep C' x v:=by
 cases x<;>simp only[qdo,Bool.false_eq_true]at hp<;>cases h<;>constructor
theorem MInv.thaw (m:MInv P C ω w0 C0 hp w)(e:EnvRel C ω w w0.heap.size env tmps){b q:Nat}{K':Nat→Nat→Option Value}{cells:Array Value}{t:TypeId}{cs:List (qa×Bool)}(hx:Ext w w')(hle:∀r o x,C.K r o=some x→K' r o=some x)(hK:∀r o,r<w.heap.size→K' r o=C.K r o)(hk:∀r o x,K' r o=some x→w'.cell? ⟨r,o,none⟩=some x)(h1:∀r o x,K' r o=some x→x.oneCell'=true)
  (hq:w.heap.size≤q) (hn:∀o,K' q o=none) (hh:hp[b]?=some .hole) (hg:w'.heap[q]?=some (.cells cells t (0,0))) (hl:cs.length≤cells.size)
  (hcs:∀(j:Nat) (c:qa×Bool),cs[j]?=some c→∃v,cells[j]?=some v∧v.oneCell'=true∧Rep (({ C with K:=K' }:Ctx).box b q) c.1 v∧c.2=false):
  MInv P (({ C with K:=K' }:Ctx).box b q) ω w0 C0 (hp.set b (.cells cs)) w'∧EnvRel (({ C with K:=K' }:Ctx).box b q) ω w' w0.heap.size env tmps∧C.le (({ C with K:=K' }:Ctx).box b q):=by
 have m':=m.iso hx hle hK hk h1
 have hβ:=qi7 m hh
 have hle1:C.le { C with K:=K' }:=⟨hle,fun _ _ h=>h,rfl,fun _ h=>h,fun _ h=>h⟩
 have hle2:({ C with K:=K' }:Ctx).le (({ C with K:=K' }:Ctx).box b q):=Ctx.box_le (C:={ C with K:=K' }) (r:=q) hβ
 have hle':=Ctx.le_trans hle1 hle2
 have hlt:b<hp.length:=(List.getElem?_eq_some_iff.1 hh).1
 have hq':∀k,C.β k≠some q:=fun k hk=>by have:=(m.lt k q hk).1;omega
 have hown:∀ℓ x v,OwnV C ω w w0.heap.size ℓ x v→OwnV (({ C with K:=K' }:Ctx).box b q) ω w' w0.heap.size ℓ x v:=fun ℓ x v h=>OwnV.grow (C:=C.box b q) hx hK (OwnV.box (.inl hq) h)
 refine⟨{ m' with apart:=?_,inj:=?_,lt:=?_,fresh:=?_,grown:=Ctx.le_trans m'.grown hle2,box:=?_ },?_,hle'⟩
 ·intro k r o hk
  simp only[Ctx.box]at hk
  split at hk
  ·cases hk;exact hn o
  ·exact m'.apart k r o hk
 ·intro k k' r hk hk'
  simp only[Ctx.box]at hk hk'
  split at hk<;>split at hk'
  ·rename_i h1 h2;rw[h1,h2]
  ·cases hk;exact absurd hk' (hq' k')
  ·cases hk';exact absurd hk (hq' k)
  ·exact m.inj k k' r hk hk'
 ·intro k r hk
  rw[List.length_set]
  simp only[Ctx.box]at hk
  split at hk
  ·rename_i h1;cases hk;subst h1;exact⟨(Array.getElem?_eq_some_iff.1 hg).1,hlt⟩
  ·exact m'.lt k r hk
 ·intro k r hk
  simp only[Ctx.box]at hk
  split at hk
  ·cases hk;exact .inr (.inl (Nat.le_trans m.size hq))
  ·exact m.fresh k r hk
 ·intro k y r hy hk
  simp only[Ctx.box]at hk
  split at hk
  ·rename_i h1
   subst h1
   cases hk
   rw[List.getElem?_set_self hlt]at hy
   cases hy
   refine⟨cells,t,hg,hl,fun j c hc=>?_⟩
   obtain⟨v,a1,a2,a3,a4⟩:=hcs j c hc
   exact⟨v,a1,a2,a3,fun h=>by rw[a4]at h;cases h⟩
  ·rename_i h1
   rw[List.getElem?_set_ne (Ne.symm h1)]at hy
   have h0:=m.box k y r hy hk
   cases y with
   |hole=>exact h0
   |cells cs=>
    obtain⟨vs,elem,g1,g2,g3⟩:=h0
    exact⟨vs,elem,hx.get g1,g2,fun j c hc=>let ⟨v,a,q,b,d⟩:=g3 j c hc; ⟨v,a,q,qp.mono hle' b,fun e=>hown _ _ _ (d e)⟩⟩
   |map es=>obtain⟨ents,clock,g1,g2⟩:=h0;exact⟨ents,clock,hx.get g1,qy.mono hle' g2⟩
   |iter s pos=>exact hx.get h0
   |loop l=>obtain⟨lp,g1,g2⟩:=h0;exact⟨lp,hx.get g1,q9.mono hle' g2⟩
   |bld t e l=>obtain⟨p,v,g1,g2,g3,g4⟩:=h0;exact⟨p,v,hx.get g1,g2,g3,hown _ _ _ g4⟩
   |dead=>obtain⟨cs,t,g1⟩:=h0;exact⟨cs,t,hx.get g1⟩
   |vec sz ver xs=>
    have hg':∀ {k:Nat} {c:Array Value} {t:TypeId},w.heap[k]?=some (.cells c t (0,0))→w'.heap[k]?=w.heap[k]?:=fun hk=>by rw[hx.get hk,hk]
    obtain⟨_,_,_,_,_,_,cs,t,g1⟩:=id h0
    refine VecRel.imp hle (fun _ h=>h) (fun _ h _=>h) (hg' g1) (fun q n cap k'=>⟨?_,hown _ _ _ k'⟩) h0
    obtain⟨_,_,_,_,_,⟨cells,elem,h5,_⟩,_⟩:=k'
    exact hg' h5
 ·exact fun s y hy=>let ⟨v,h1,h2,h3⟩:=e s y hy; ⟨v,h1,qp.mono hle' h2,fun h=>hown _ _ _ (h3 h)⟩
theorem MInv.noBox (m:MInv P C ω w0 C0 hp w){b:Nat}{x:qn}(hh:hp[b]?=some .hole):MInv P C ω w0 C0 (hp.set b x) w:=by
 have hβ:=qi7 m hh
 refine { m with lt:=fun k r hk=>by rw[List.length_set];exact m.lt k r hk,box:=fun k y r hy hk=>?_ }
 by_cases hkb:k=b
 ·subst hkb;rw[hβ]at hk;cases hk
 ·rw[List.getElem?_set_ne (Ne.symm hkb)]at hy
  exact m.box k y r hy hk
theorem jc0 (m:MInv P C ω w0 C0 hp w)(e:EnvRel C ω w w0.heap.size env tmps){v:qa}{ow:Bool}{u:Value}{h0 r:Nat}{res:qq}{K':Nat→Nat→Option Value}(hx:Ext w w')(hle:∀r o x,C.K r o=some x→K' r o=some x)(hK:∀r o,r<w.heap.size→K' r o=C.K r o)(hk:∀r o x,K' r o=some x→w'.cell? ⟨r,o,none⟩=some x)(h1:∀r o x,K' r o=some x→x.oneCell'=true)
  (hr:Rep (.iso K') v u) (ho:ow=true→∃ℓ ω',OwnV (.iso K') ω' w' w.heap.size ℓ v u) (ht:qhc h0 hp r v ow=some res):kg P C0 w0 C tmps d env res u w':=by
 unfold qhc at ht
 split at ht
 ·rename_i sz _
  split at ht
  ·rename_i h' hn
   have hv:=zx ht
   obtain⟨hh,rfl⟩:=qaq hn
   subst hv
   have hle':C.le { C with K:=K' }:=⟨hle,fun _ _ h=>h,rfl,fun _ h=>h,fun _ h=>h⟩
   refine⟨{ C with K:=K' },ω,hle',(m.iso hx hle hK hk h1).noBox hh,e.iso hx hle hK,qp.shift (C:=.iso K') (C':={ C with K:=K' }) 0 (fun _ _ _ h=>h) (fun b r hlt=>by omega) hr (by rfl),fun h=>by simp at h⟩
  ·cases ht
 ·rename_i sz xs
  cases hb:(xs.flatMap qa.flat).all qdo with
  |false=>rw[hb]at ht;cases ht
  |true=>
   rw[hb]at ht
   simp only[cT]at ht
   split at ht
   ·rename_i h' hn
    have hv:=zx ht
    obtain⟨hh,rfl⟩:=qaq hn
    subst hv
    obtain⟨ℓ,ω',ho⟩:=ho rfl
    cases hr with
    |lemp sz a hsp=>
     simp only[OwnV]at ho
     exact absurd ho.2.2.2.1 hsp
    |list sz _ q o cap hl hrow=>
     simp only[OwnV]at ho
     obtain⟨o1,o2,o3,_,o5,⟨cells,elem,o6,o7,_⟩,o8⟩:=ho
     subst o5
     have hq:w.heap.size≤q:=o2.resolve_right (fun h=>h)
     let K2:Nat→Nat→Option Value:=fun r o=>if r=q then none else K' r o
     have hK2:∀ {r o x},K2 r o=some x→K' r o=some x:=by
      intro r o x h
      simp only[K2]at h
      split at h
      ·cases h
      ·exact h
     have hle2:∀r o x,C.K r o=some x→K2 r o=some x:=by
      intro r o x h
      have hlt:r<w.heap.size:=by
       have:=m.know r o x h
       unfold World.cell? at this
       split at this
       ·rename_i c _ _ hc;exact(Array.getElem?_eq_some_iff.1 hc).1
       ·cases this
      have hne:r≠q:=by omega
      simp only[K2,if_neg hne]
      exact hle r o x h
     have hKk:∀r o,r<w.heap.size→K2 r o=C.K r o:=by
      intro r o hlt
      have hne:r≠q:=by omega
      simp only[K2,if_neg hne]
      exact hK r o hlt
     have hcells:=RepRow.cells hrow
     have hlen:(xs.flatMap qa.flat).length≤cells.size:=by
      rcases Nat.eq_zero_or_pos (xs.flatMap qa.flat).length with h0|h0
      ·omega
      ·obtain⟨y,hy⟩:∃y,(xs.flatMap qa.flat)[(xs.flatMap qa.flat).length-1]?=some y:=⟨_,List.getElem?_eq_getElem (by omega)⟩
       obtain⟨v,hv,_⟩:=RepC.get hcells hy
       have h3:=hk _ _ _ hv
       unfold World.cell? at h3
       rw[o6]at h3
       simp only[Option.isSome_none,Bool.false_eq_true,if_false]at h3
       have:=(Array.getElem?_eq_some_iff.1 h3).1
       omega
     obtain⟨m2,e2,l2⟩:=m.thaw e (b:=h0+r) (q:=q) (K':=K2) (cells:=cells) (t:=elem) (cs:=cellsOf (xs.flatMap qa.flat)) hx hle2 hKk (fun r o x h=>hk r o x (hK2 h)) (fun r o x h=>h1 r o x (hK2 h)) hq (fun o=>by simp[K2]) hh o6 (by rw[show(cellsOf (xs.flatMap qa.flat)).length=(xs.flatMap qa.flat).length by simp[cellsOf]];exact hlen) (by
      intro j c hc
      simp only[cellsOf,List.getElem?_map,Option.map_eq_some_iff]at hc
      obtain⟨y,hy,rfl⟩:=hc
      obtain⟨v,hv,hyv⟩:=RepC.get hcells hy
      have h3:=hk _ _ _ hv
      unfold World.cell? at h3
      rw[o6]at h3
      simp only[Option.isSome_none,Bool.false_eq_true,if_false,Nat.zero_add]at h3
      exact⟨v,h3,h1 _ _ _ hv,qhz (List.all_eq_true.1 hb y (List.mem_of_getElem? hy)) hyv,rfl⟩)
     exact⟨_,ω,l2,m2,e2,.ms _ 0 _ q cap (by simp[Ctx.box]) hl,fun h=>by simp at h⟩
   ·cases ht
 ·cases ht
theorem q72 (m:MInv P C ω w0 C0 hp w){x x':qa}{v:Value}(hf:q29 hp x=some x')(h:Rep C x v)(hb:Abs.below 0 x'=true):Rep (.iso (kj C hp w)) x' v:=by
 unfold q29 at hf
 split at hf
 ·rename_i b len
  split at hf
  ·rename_i cs hcs
   cases hc:(Nat.beq (len*(cs.length / len)) cs.length&&Nat.blt 0 (cs.length / len)&&cs.all (fun c=>qdo c.1))with
   |false=>
    rw[hc,cond_false]at hf
    cases hl:Nat.beq len 0 with
    |false=>rw[hl]at hf;cases hf
    |true=>
     rw[hl]at hf
     have hl:=Nat.eq_of_beq_eq_true hl
     subst hl
     simp only[cT,Option.some.injEq]at hf
     subst hf
     obtain⟨r,cap,hbr,hle,rfl⟩:=h.ms_inv
     exact qp.list (C:=.iso (kj C hp w)) 8 [] r 0 cap (Nat.zero_le _) (.rnil _ _ _)
   |true=>
    rw[hc]at hf
    simp only[cT,Option.some.injEq]at hf
    subst hf
    simp only[Bool.and_eq_true]at hc
    obtain⟨⟨c1,c2⟩,c3⟩:=hc
    have c1:=Nat.eq_of_beq_eq_true c1
    have c2:0<cs.length / len:=by simpa using c2
    obtain⟨r,cap,hbr,hle,rfl⟩:=h.ms_inv
    obtain⟨vs,elem,k1,k2,k3⟩:=m.box b _ r (qb2 hcs) hbr
    have hrow:RepRow (.iso (kj C hp w)) r (cs.length / len) (qc3 (cs.length / len) len (cs.map (·.1))) 0:=by
     refine qor c2 (by rw[List.length_map];exact c1.symm) (fun x hx=>?_) fun j x hx=>?_
     ·obtain⟨c,hc,rfl⟩:=List.mem_map.1 hx
      have:=List.all_eq_true.1 c3 c hc
      cases hq:c.1<;>rw[hq]at this<;>first|rfl|cases this
     ·rw[List.getElem?_map,Option.map_eq_some_iff]at hx
      obtain⟨c,hc,rfl⟩:=hx
      obtain⟨u,q1,q2,q3,_⟩:=k3 j c hc
      have hcell:w.cell? ⟨r,0+j,none⟩=some u:=by
       unfold World.cell?
       rw[k1]
       simp only[Option.isSome_none,Bool.false_eq_true,if_false,Nat.zero_add]
       exact q1
      exact⟨u,qmi hbr hcell q2,qhz (List.all_eq_true.1 c3 c (List.mem_of_getElem? hc)) q3⟩
    have:=qp.list (C:=.iso (kj C hp w)) (cs.length / len) (qc3 (cs.length / len) len (cs.map (·.1))) r 0 cap (by rw[qe3];exact hle) hrow
    rw[qe3]at this
    exact this
  ·cases hf
 ·cases hf
  exact qma m h hb
theorem qt1 (m:MInv P C ω w0 C0 hp w):∀ {xs xs':List qa} {vs:List Value},qg9 hp xs=some xs'→RepL C xs vs→zu 0 xs'=true→RepL (.iso (kj C hp w)) xs' vs
 | [],xs',vs,hf,h,_=>by
  simp only[qg9,Option.some.injEq]at hf
  subst hf
  cases h
  exact .nil
 |x::xs,xs',vs,hf,h,hb=>by
  simp only[qg9]at hf
  split at hf
  ·rename_i y ys h1 h2
   cases hf
   cases h with
   |cons _ _ v vs hx h=>
    simp only[zu,Bool.and_eq_true]at hb
    exact .cons _ _ _ _ (q72 m h1 hx hb.1) (qt1 m h2 h hb.2)
  ·cases hf
theorem qxl {C C':Ctx}{x:qa}{v:Value}(hp:qjb x=true)(h:Rep C x v):Rep C' x v:=by
 cases x with
 |agg cs=>
  obtain⟨vs,rfl,hl⟩:=h.agg_inv
  refine .agg _ _ ?_
  simp only[qjb]at hp
  clear h
  induction cs generalizing vs with
  |nil=>cases hl;exact .nil
  |cons c cs ih=>
   cases hl with
   |cons _ _ v vs hx hl=>
    simp only[List.all_cons,Bool.and_eq_true]at hp
    exact .cons _ _ _ _ (qhz hp.1 hx) (ih hp.2 vs hl)
 |_=>exact qhz hp h
theorem jdt {C C':Ctx}{x:qa}{v:Value}(h:Rep C x v):Rep C' (qs0 x) v:=by
 unfold qs0
 cases hp:qjb x with
 |true=>exact qxl hp h
 |false=>exact .any _
theorem qz5 {C C':Ctx}:∀ {xs:List qa} {vs:List Value},RepL C xs vs→RepL C' (xs.map qs0) vs
 | [],_,h=>by cases h;exact .nil
 |x::xs,_,h=>by
  cases h with
  |cons _ _ v vs hx h=>exact .cons _ _ _ _ (jdt hx) (qz5 h)
open Classical in
theorem jil (m:MInv P C ω w0 C0 hp w)(e:EnvRel C ω w w0.heap.size env tmps){v v':qa}{ow ow':Bool}{u:Value}{K':Nat→Nat→Option Value}(hx:Ext w w')(hle:∀r o x,kj C hp w r o=some x→K' r o=some x)(hK:∀r o,r<w.heap.size→K' r o=kj C hp w r o)(hk:∀r o x,K' r o=some x→w'.cell? ⟨r,o,none⟩=some x)(h1:∀r o x,K' r o=some x→x.oneCell'=true)
  (hr:Rep (.iso K') v u) (ho:ow=true→∃ℓ ω',OwnV (.iso K') ω' w' w.heap.size ℓ v u) (ht:q9w v ow=some (v',ow')):kg P C0 w0 C tmps d env ⟨v',ow',none,hp⟩ u w':=by
 let K2:Nat→Nat→Option Value:=fun r o=>if Hid C hp r then none else K' r o
 have hK2:∀ {r o x},K2 r o=some x→K' r o=some x:=by
  intro r o x h
  simp only[K2]at h
  split at h
  ·cases h
  ·exact h
 have hle2:∀r o x,C.K r o=some x→K2 r o=some x:=by
  intro r o x h
  have hn:¬Hid C hp r:=by
   intro hh
   rw[qu4 m hh o]at h;cases h
  simp only[K2,if_neg hn]
  exact hle r o x (qhr m h)
 have hKk:∀r o,r<w.heap.size→K2 r o=C.K r o:=by
  intro r o hlt
  by_cases hb:Hid C hp r
  ·simp only[K2,if_pos hb]
   exact(qu4 m hb o).symm
  ·simp only[K2,if_neg hb]
   rw[hK r o hlt]
   unfold kj
   rw[if_neg hb]
 have fin:∀(hpv:qea v'=true) (hr':Rep (.iso K2) v' u) (ho':ow'=true→∃ℓ ω',OwnV (.iso K2) ω' w' w.heap.size ℓ v' u),kg P C0 w0 C tmps d env ⟨v',ow',none,hp⟩ u w':=fun hpv hr' ho'=>
  q4e m e hx hle2 hKk (fun r o x h=>hk r o x (hK2 h)) (fun r o x h=>h1 r o x (hK2 h)) hpv hr' ho'
 have below_plain:∀y,qdo y=true→Abs.below 0 y=true:=fun y hy=>by cases y<;>first|rfl|cases hy
 have belows:∀ys:List qa,ys.all qdo=true→zu 0 ys=true:=by
  intro ys
  induction ys with
  |nil=>intro _;rfl
  |cons y ys ih=>
   intro h
   simp only[List.all_cons,Bool.and_eq_true]at h
   simp only[zu,Bool.and_eq_true]
   exact⟨below_plain y h.1,ih h.2⟩
 have below_A:∀y,qjb y=true→Abs.below 0 y=true:=fun y hy=>by
  cases y with
  |agg cs=>simp only[Abs.below];exact belows cs hy
  |_=>exact below_plain _ hy
 unfold q9w at ht
 split at ht
 ·rename_i sz xs
  cases hb:(xs.flatMap qa.flat).all qdo with
  |false=>rw[hb]at ht;cases ht
  |true=>
   rw[hb]at ht
   simp only[cT,Option.some.injEq,Prod.mk.injEq]at ht
   obtain⟨rfl,rfl⟩:=ht
   obtain⟨ℓ,ω',ho⟩:=ho rfl
   cases hr with
   |lemp sz a hsp=>
    simp only[OwnV]at ho
    exact absurd ho.2.2.2.1 hsp
   |list sz _ q o cap hl hrow=>
    simp only[OwnV]at ho
    obtain⟨o1,o2,o3,o4,o5,o6,o8⟩:=ho
    have hq:w.heap.size≤q:=o2.resolve_right (fun h=>h)
    have hnb:¬Hid C hp q:=by
     intro hh
     have:=joq m hh
     omega
    have hKq:∀o,K2 q o=K' q o:=fun o=>by simp only[K2,if_neg hnb]
    have hcells:=RepRow.cells hrow
    have hrow':RepRow (.iso K2) q sz xs o:=by
     refine RepRow.of_cells (quy fun j x hx=>?_) (RepRow.sized hrow)
     obtain⟨u,hu,hxu⟩:=RepC.get hcells hx
     exact⟨u,by rw[show(Ctx.iso K2).K=K2 from rfl,hKq];exact hu,qhz (List.all_eq_true.1 hb x (List.mem_of_getElem? hx)) hxu⟩
    refine fin ?_ (.list sz _ q o cap hl hrow') fun _=>⟨ℓ,ω',?_⟩
    ·show qea _=true
     unfold qea
     have hbl:∀ys:List qa,(ys.flatMap qa.flat).all qdo=true→zu 0 ys=true:=by
      intro ys
      induction ys with
      |nil=>intro _;rfl
      |cons y ys ih=>
       intro h
       rw[List.flatMap_cons,List.all_append,Bool.and_eq_true]at h
       simp only[zu,Bool.and_eq_true]
       exact⟨by rw[←qj1];exact belows _ h.1,ih h.2⟩
     simp only[Abs.below]
     exact hbl xs hb
    ·simp only[OwnV]
     exact⟨o1,o2,o3,o4,o5,o6,fun o' ho'=>by rw[show(Ctx.iso K2).K=K2 from rfl,hKq];exact o8 o' ho'⟩
 ·simp only[Option.some.injEq,Prod.mk.injEq]at ht
  obtain⟨rfl,rfl⟩:=ht
  refine fin rfl ?_ (fun h=>by cases h)
  cases hr
  exact .lnil _
 ·rename_i vs _
  simp only[Option.some.injEq,Prod.mk.injEq]at ht
  obtain⟨rfl,rfl⟩:=ht
  obtain⟨us,rfl,hl⟩:=hr.tup_inv
  refine fin ?_ (.tup _ _ (qz5 hl)) (fun h=>by cases h)
  show Abs.below 0 _=true
  simp only[Abs.below]
  have:∀ys:List qa,zu 0 (ys.map qs0)=true:=by
   intro ys
   induction ys with
   |nil=>rfl
   |cons y ys ih=>
    simp only[List.map_cons,zu,Bool.and_eq_true]
    refine⟨?_,ih⟩
    unfold qs0
    cases hp:qjb y with
    |true=>exact below_A y hp
    |false=>rfl
  exact this _
 ·cases hb:qjb v with
  |false=>rw[hb]at ht;cases ht
  |true=>
   rw[hb]at ht
   simp only[cT,Option.some.injEq,Prod.mk.injEq]at ht
   obtain⟨rfl,rfl⟩:=ht
   exact fin (below_A v hb) (qxl hb hr) (fun h=>by cases h)
def Ctx.shared (C:Ctx)(ω:Nat→Option Loc)(w0:World):Ctx:={ C with W:=fun r=>(∃b j,ω r=some (.cell b j))∧(w0.heap.size≤r∨C.W r) }
def qcn (ω:Nat→Option Loc):Nat→Option Loc:=fun r=>match ω r with
 |some (.cell b j)=>some (.cell b j)
 |_=>none
theorem OwnV.shared {b j:Nat}{x:qa}{v:Value}(ho:OwnV C ω w w0.heap.size (.cell b j) x v):OwnV (C.shared ω w0) (qcn ω) w w.heap.size (.cell b j) x v:=by
 unfold OwnV at *
 split at ho
 ·obtain⟨g1,g2,g3⟩:=ho
  exact⟨by simp[qcn,g1],.inr ⟨⟨b,j,g1⟩,g2⟩,g3⟩
 ·obtain⟨g1,g2,g3⟩:=ho
  exact⟨by simp[qcn,g1],.inr ⟨⟨b,j,g1⟩,g2⟩,g3⟩
 ·trivial
theorem qmg (m:MInv P C ω w0 C0 hp w):MInv P (C.shared ω w0) (qcn ω) w (C.shared ω w0) hp w where
 base:=⟨m.tabs,fun g hg=>by
  obtain⟨h1,h2⟩:=m.base.2 g hg
  have hlt:=(m.base.1 g hg).1
  refine⟨fun b hb=>?_,fun h=>?_⟩
  ·rcases m.fresh b g hb with h|h|h
   ·exact h1 b h
   ·omega
   ·exact h2 h
  ·rcases h.2 with h|h
   ·omega
   ·rw[m.grown.w]at h;exact h2 h⟩
 know:=m.know
 kone:=m.kone
 apart:=m.apart
 inj:=m.inj
 lt:=m.lt
 size:=Nat.le_refl _
 frame _ _ _ _:=rfl
 dfr:=m.dfr
 os:=rfl
 output:=rfl
 fresh _ _ h:=.inl h
 grown:=Ctx.le_refl _
 old _ _ _ _:=rfl
 box b x r hx hb:=BoxRel.imp (C:=C) (C':=C.shared ω w0) ⟨fun _ _ _ h=>h,fun _ _ h=>h⟩ rfl (fun _ _ _ ho=>ho.shared) (m.box b x r hx hb)
 tlt:=m.tlt
def qbx (ω ω1:Nat→Option Loc)(n:Nat):Nat→Option Loc:=fun r=>match decide (r<n),ω r with
 |true,some (.slot s)=>some (.slot s)
 |_,_=>qcn ω1 r
def Ctx.back (C1 C:Ctx):Ctx:={ C1 with W:=C.W }
theorem qs9 (hle:(C.shared ω w0).le C1):C.le (C1.back C):=⟨hle.k,hle.b,rfl,hle.d,hle.t⟩
theorem OwnV.afterOld {s:Nat}{x:qa}{v:Value}(m1:MInv P C1 ω1 w (C.shared ω w0) h1 w')(ho:OwnV C ω w w0.heap.size (.slot s) x v):OwnV (C1.back C) (qbx ω ω1 w.heap.size) w' w0.heap.size (.slot s) x v:=by
 unfold OwnV at *
 split at ho
 ·rename_i ad len cap
  obtain⟨g1,g2,g3,g4,g8,⟨cells,elem,g5,g6⟩,g7⟩:=ho
  have hlt:=(Array.getElem?_eq_some_iff.1 g5).1
  have hnw:¬(C.shared ω w0).W ad.block:=fun h=>by
   obtain⟨⟨b,j,h⟩,_⟩:=h
   rw[g1]at h;cases h
  refine⟨by simp[qbx,hlt,g1],g2,fun b hb=>?_,g4,g8,⟨cells,elem,?_,g6⟩,fun o ho=>?_⟩
  ·rcases m1.fresh b _ hb with h|h|h
   ·exact g3 b h
   ·omega
   ·exact hnw h
  ·rw[m1.frame _ hlt g3 hnw];exact g5
  ·have:=m1.old _ o hlt hnw
   show C1.K _ o=none
   rw[this];exact g7 o ho
 ·rename_i ad
  obtain⟨g1,g2,g3,g4,g8,⟨cells,elem,g5,g6⟩,g7⟩:=ho
  have hlt:=(Array.getElem?_eq_some_iff.1 g5).1
  have hnw:¬(C.shared ω w0).W ad.block:=fun h=>by
   obtain⟨⟨b,j,h⟩,_⟩:=h
   rw[g1]at h;cases h
  refine⟨by simp[qbx,hlt,g1],g2,fun b hb=>?_,g4,g8,⟨cells,elem,?_,g6⟩,fun o ho=>?_⟩
  ·rcases m1.fresh b _ hb with h|h|h
   ·exact g3 b h
   ·omega
   ·exact hnw h
  ·rw[m1.frame _ hlt g3 hnw];exact g5
  ·have:=m1.old _ o hlt hnw
   show C1.K _ o=none
   rw[this];exact g7 o ho
 ·trivial
theorem OwnV.afterNew {b j:Nat}{x:qa}{v:Value}(m:MInv P C ω w0 C0 hp w)(hW:C1.W=(C.shared ω w0).W)(ho:OwnV C1 ω1 w' w.heap.size (.cell b j) x v):OwnV (C1.back C) (qbx ω ω1 w.heap.size) w' w0.heap.size (.cell b j) x v:=by
 unfold OwnV at *
 split at ho
 ·rename_i ad len cap
  obtain⟨g1,g2,g3⟩:=ho
  rw[hW]at g2
  refine⟨?_,?_,g3⟩
  ·unfold qbx
   split
   ·rename_i s hlt hs
    have hlt:=of_decide_eq_true hlt
    rcases g2 with g2|⟨⟨b',j',g2⟩,_⟩
    ·omega
    ·rw[hs]at g2;cases g2
   ·simp[qcn,g1]
  ·rcases g2 with g2|⟨_,g2⟩
   ·exact .inl (Nat.le_trans m.size g2)
   ·exact g2
 ·rename_i ad
  obtain⟨g1,g2,g3⟩:=ho
  rw[hW]at g2
  refine⟨?_,?_,g3⟩
  ·unfold qbx
   split
   ·rename_i s hlt hs
    have hlt:=of_decide_eq_true hlt
    rcases g2 with g2|⟨⟨b',j',g2⟩,_⟩
    ·omega
    ·rw[hs]at g2;cases g2
   ·simp[qcn,g1]
  ·rcases g2 with g2|⟨_,g2⟩
   ·exact .inl (Nat.le_trans m.size g2)
   ·exact g2
 ·trivial
theorem qtw (m:MInv P C ω w0 C0 hp w)(e:EnvRel C ω w w0.heap.size env tmps)(m1:MInv P C1 ω1 w (C.shared ω w0) h1 w')(hle:(C.shared ω w0).le C1):
  MInv P (C1.back C) (qbx ω ω1 w.heap.size) w0 C0 h1 w'∧EnvRel (C1.back C) (qbx ω ω1 w.heap.size) w' w0.heap.size env tmps:=by
 have hsh:∀r,r<w0.heap.size→¬C0.W r→¬(C.shared ω w0).W r:=fun r hr hw h=>by
  rcases h.2 with h|h
  ·omega
  ·rw[m.grown.w]at h;exact hw h
 constructor
 ·refine { base:=m.base,know:=m1.know,kone:=m1.kone,apart:=m1.apart,inj:=m1.inj,lt:=m1.lt,size:=Nat.le_trans m.size m1.size,frame:=?_,dfr:=m1.dfr,os:=m1.os.trans m.os,output:=m1.output.trans m.output,fresh:=?_,grown:=Ctx.le_trans m.grown (qs9 hle),old:=?_,box:=?_,tlt:=m1.tlt }
  ·intro r hr hn hw
   have hn':∀b,C.β b≠some r:=fun b hb=>by
    rcases m.fresh b r hb with h|h|h
    ·exact hn b h
    ·omega
    ·exact hw h
   rw[m1.frame r (Nat.lt_of_lt_of_le hr m.size) hn' (hsh r hr hw)]
   exact m.frame r hr hn hw
  ·intro b r hb
   rcases m1.fresh b r hb with h|h|h
   ·exact m.fresh b r h
   ·exact .inr (.inl (Nat.le_trans m.size h))
   ·exact .inr (h.2.imp id (fun h=>by rw[←m.grown.w];exact h))
  ·intro r o hr hw
   show C1.K r o=_
   rw[m1.old r o (Nat.lt_of_lt_of_le hr m.size) (hsh r hr hw)]
   exact m.old r o hr hw
  ·intro b x r hx hb
   exact BoxRel.imp (C:=C1) (C':=C1.back C) ⟨fun _ _ _ h=>h,fun _ _ h=>h⟩ rfl (fun _ _ _ ho=>ho.afterNew m hle.w) (m1.box b x r hx hb)
 ·exact fun s x hs=>let ⟨v,k1,k2,k3⟩:=e s x hs; ⟨v,k1,qp.mono (qs9 hle) k2,fun h=>(k3 h).afterOld m1⟩
theorem Rep.back {x:qa}{v:Value}(h:Rep C1 x v):Rep (C1.back C) x v:=qp.imp (C:=C1) (C':=C1.back C) ⟨fun _ _ _ h=>h,fun _ _ h=>h⟩ h
theorem qt2 (m:MInv P C ω w0 C0 hp w)(e:EnvRel C ω w w0.heap.size env tmps)(m1:MInv P C1 ω1 w (C.shared ω w0) h1 w')(hle:(C.shared ω w0).le C1){v:qa}{ow:Bool}{u:Value}(hr:Rep C1 v u)(ho:ow=true→OwnV C1 ω1 w' w.heap.size (.slot 0) v u):
  kg P C0 w0 C tmps d env ⟨v,ow,none,yi hp.length v h1⟩ u w':=by
 have hC:∀b r,C.β b=some r→b<hp.length:=fun b r h=>(m.lt b r h).2
 have hle':=qs9 hle
 have hr':Rep (C1.back C) v u:=hr.back
 -- the result's ownership first
 have step:∃ω',MInv P (C1.back C) ω' w0 C0 h1 w'∧EnvRel (C1.back C) ω' w' w0.heap.size env tmps∧(ow=true→OwnV (C1.back C) ω' w' w0.heap.size d v u):=by
  obtain⟨m2,e2⟩:=qtw m e m1 hle
  cases ow with
  |false=>exact⟨_,m2,e2,by simp⟩
  |true=>
   by_cases hk:∃(n:Bool) (sz:Nat) (xs:List qa) (ad:Addr) (len cap:Nat),v=.list n sz xs∧u=.slice (some ad) len cap
   ·obtain⟨n,sz,xs,ad,len,cap,rfl,rfl⟩:=hk
    obtain⟨g1,g2,g3,g4⟩:=ho rfl
    rw[hle.w]at g2
    have hnone:qbx ω ω1 w.heap.size ad.block=none:=by
     unfold qbx
     split
     ·rename_i s hlt hs
      have hlt:=of_decide_eq_true hlt
      rcases g2 with g2|⟨⟨b',j',g2⟩,_⟩
      ·omega
      ·rw[hs]at g2;cases g2
     ·simp[qcn,g1]
    refine⟨own1 (qbx ω ω1 w.heap.size) ad.block d,m2.own1 _ _ (by simp[hnone]),?_,fun _=>?_⟩
    ·exact fun s x hs=>let ⟨v,k1,k2,k3⟩:=e2 s x hs; ⟨v,k1,k2,fun h=>(k3 h).other (.inl (by simp[hnone]))⟩
    ·refine⟨by simp[own1],?_,g3,g4⟩
     rcases g2 with g2|⟨_,g2⟩
     ·exact .inl (Nat.le_trans m.size g2)
     ·exact g2
   by_cases hk2:∃(n:Nat) (ad:Addr),v=.pend n∧u=.pointer (some ad)
   ·obtain⟨n,ad,rfl,rfl⟩:=hk2
    obtain⟨g1,g2,g3,g4⟩:=ho rfl
    rw[hle.w]at g2
    have hnone:qbx ω ω1 w.heap.size ad.block=none:=by
     unfold qbx
     split
     ·rename_i s hlt hs
      have hlt:=of_decide_eq_true hlt
      rcases g2 with g2|⟨⟨b',j',g2⟩,_⟩
      ·omega
      ·rw[hs]at g2;cases g2
     ·simp[qcn,g1]
    refine⟨own1 (qbx ω ω1 w.heap.size) ad.block d,m2.own1 _ _ (by simp[hnone]),?_,fun _=>?_⟩
    ·exact fun s x hs=>let ⟨v,k1,k2,k3⟩:=e2 s x hs; ⟨v,k1,k2,fun h=>(k3 h).other (.inl (by simp[hnone]))⟩
    ·refine⟨by simp[own1],?_,g3,g4⟩
     rcases g2 with g2|⟨_,g2⟩
     ·exact .inl (Nat.le_trans m.size g2)
     ·exact g2
   ·refine⟨_,m2,e2,fun h=>?_⟩
    unfold OwnV
    split
    ·exact absurd ⟨_,_,_,_,_,_,rfl,rfl⟩ hk
    ·exact absurd ⟨_,_,rfl,rfl⟩ hk2
    ·trivial
 obtain⟨ω',m2,e2,o2⟩:=step
 unfold yi
 cases hb:Nat.ble h1.length hp.length with
 |true=>simp only[cT];exact⟨_,ω',hle',m2,e2,hr',o2⟩
 |false=>
  simp only[cond_false]
  cases hb2:(below hp.length v&&ki hp.length (h1.take hp.length))with
  |false=>simp only[cond_false];exact⟨_,ω',hle',m2,e2,hr',o2⟩
  |true=>
   simp only[cT]
   simp only[Bool.and_eq_true]at hb2
   have hlt:hp.length≤h1.length:=by
    rcases Nat.lt_or_ge hp.length h1.length with h|h
    ·omega
    ·rw[Nat.ble_eq_true_of_le h]at hb;cases hb
   have h0:∀b r,C0.β b=some r→b<hp.length:=fun b r h=>hC b r (m.grown.2 b r h)
   have m3:=m2.gc hlt hb2.2 h0
   refine⟨(C1.back C).cut hp.length,ω',Ctx.le_cut hle' hC,m3,?_,Rep.cut hr' hb2.1,fun h=>(o2 h).cut _⟩
   intro s x hs
   obtain⟨y,k1,k2,k3⟩:=e s x hs
   obtain⟨y',j1,j2,j3⟩:=e2 s x hs
   rw[k1]at j1
   cases j1
   exact⟨y,k1,qp.mono (Ctx.le_cut hle' hC) k2,fun h=>(j3 h).cut _⟩
theorem EnvRep.noOwn {e:Env}(h:EnvRep C e tmps):EnvRel C ω w B (noOwn e) tmps:=by
 intro s x hx
 have key:∀ {e:Env} {x:qa×Bool},ye s (Abs.noOwn e)=some x→∃o,ye s e=some (x.1,o)∧x.2=false:=by
  intro e
  induction e with
  |nil=>intro x h;simp[Abs.noOwn,ye]at h
  |cons y e ih=>
   intro x h
   obtain⟨t,v,o⟩:=y
   simp only[Abs.noOwn,List.map_cons,ye]at h ⊢
   cases hb:Nat.beq t s with
   |true=>simp only[hb,cT,Option.some.injEq]at h ⊢;subst h;exact⟨o,rfl,rfl⟩
   |false=>simp only[hb,cond_false]at h ⊢;exact ih h
 obtain⟨o,h1,h2⟩:=key hx
 obtain⟨v,h3,h4⟩:=h s _ h1
 exact⟨v,h3,h4,by simp[h2]⟩
theorem qt5:∀ {ts:List Nat} {vs:List qa} {us:List Value} {e e':Env} {tmps:Array Value},qf2 e ts vs=some e'→RepL C vs us→(∀t∈ts,t<tmps.size)→EnvRel C ω w B e tmps →
  ts.length=us.length∧((ts.zip us).foldl (fun(tmps:Array Value) (x:Nat×Value)=>tmps.setIfInBounds x.1 x.2) tmps).size=tmps.size∧EnvRel C ω w B e' ((ts.zip us).foldl (fun(tmps:Array Value) (x:Nat×Value)=>tmps.setIfInBounds x.1 x.2) tmps)
 | [],[],us,e,e',tmps,h,hr,_,he=>by
  simp only[qf2,Option.some.injEq]at h
  subst h
  cases hr
  exact⟨rfl,rfl,he⟩
 |t::ts,v::vs,us,e,e',tmps,h,hr,hf,he=>by
  simp only[qf2]at h
  cases hr with
  |cons _ _ u us hu hr=>
   have he2:EnvRel C ω w B ((t,v,false)::e) (tmps.setIfInBounds t u):=by
    intro s x hx
    simp only[ye]at hx
    cases hb:Nat.beq t s with
    |true=>
     have:=Nat.eq_of_beq_eq_true hb
     subst this
     simp only[hb,cT,Option.some.injEq]at hx
     subst hx
     exact⟨u,by simp[hf t (by simp)],hu,by simp⟩
    |false=>
     simp only[hb,cond_false]at hx
     obtain⟨y,h1,h2,h3⟩:=he s x hx
     refine⟨y,?_,h2,h3⟩
     rw[Array.getElem?_setIfInBounds_ne (fun hh=>by subst hh;simp at hb)]
     exact h1
   have ih:=qt5 h hr (tmps:=tmps.setIfInBounds t u) (fun t' ht'=>by simpa using hf t' (by simp[ht'])) he2
   refine⟨by simp[ih.1],?_,?_⟩
   ·simp only[List.zip_cons_cons,List.foldl_cons];rw[ih.2.1];simp
   ·simp only[List.zip_cons_cons,List.foldl_cons];exact ih.2.2
 | [],_::_,_,_,_,_,h,_,_,_=>by simp[qf2]at h
 |_::_,[],_,_,_,_,h,_,_,_=>by simp[qf2]at h
theorem qip {b r:Nat}{l:jp}(m:MInv P C ω w0 C0 hp w)(hb:y6 hp b=some (.loop l))(hr:C.β b=some r):∃lp,w.heap[r]?=some (.loop lp)∧q9 P C l lp:=
 m.box b _ r hb hr
theorem qka {b r:Nat}{l':jp}{lp lp':Loop}(m:MInv P C ω w0 C0 hp w)(hr:C.β b=some r)(hg:w.heap[r]?=some (.loop lp))(hl:q9 P C l' lp'):
  (setObj r (.loop lp')).run P w=.ok () (qay w r (.loop lp'))∧jk w (qay w r (.loop lp')) r∧MInv P C ω w0 C0 (hp.set b (.loop l')) (qay w r (.loop lp')):=by
 have hlt:=(Array.getElem?_eq_some_iff.1 hg).1
 have hu:jk w (qay w r (.loop lp')) r:=qg0 hlt (by simp)
 exact⟨qdv hg (by simp),hu,m.updBox hu hr _ (fun _ _ _ _ _ h=>h) ⟨lp',qfm hlt,hl⟩⟩
theorem ji7 (hx:CodeOk P xc)(m:MInv P C ω w0 C0 hp w)(e:EnvRel C ω w w0.heap.size env tmps){b r:Nat}(hr:C.β b=some r){args:List qa}{us:List Value}(ha:RepL C args us){v:qa}{h':j8}(hy:qbh xc b args hp=some (v,h')):
  ∃f tmps' assign body,(Instr.yield r ⟨us⟩).run P w=.ok (.round r f tmps' assign body) w∧RoundIn Fence.wide 0 P r f tmps' assign body w fun ee w'=>∃u,ee=.returned u∧kg P C0 w0 C tmps d env ⟨v,false,none,h'⟩ u w':=by
 unfold qbh at hy
 split at hy
 ·rename_i l hl
  split at hy
  ·rename_i e0 hpend hset
   obtain⟨lp,hg,lr⟩:=qip m hl hr
   have ms:=qmg m
   have hus:RepL (C.shared ω w0) args us:=qp.imp (C:=C) (C':=C.shared ω w0) ⟨fun _ _ _ h=>h,fun _ _ h=>h⟩ ha
   have hel:EnvRel (C.shared ω w0) (qcn ω) w w.heap.size (noOwn l.env) lp.tmps:=EnvRep.noOwn (fun s x hs=>let ⟨v,h1,h2⟩:=lr.env s x hs; ⟨v,h1,qp.imp (C:=C) (C':=C.shared ω w0) ⟨fun _ _ _ h=>h,fun _ _ h=>h⟩ h2⟩)
   obtain⟨hlen,hsz,he0⟩:=qt5 hset hus lr.fits hel
   have hfold:(lp.params.zip (⟨us⟩:Array Value)).foldl (fun(tmps:Array Value) (x:Nat×Value)=>tmps.setIfInBounds x.1 x.2) lp.tmps=(l.params.zip us).foldl (fun(tmps:Array Value) (x:Nat×Value)=>tmps.setIfInBounds x.1 x.2) lp.tmps:=by
    rw[←Array.foldl_toList,Array.toList_zip,lr.params]
   have hpsz:lp.params.size=us.length:=by rw[←Array.length_toList,lr.params];exact hlen
   refine⟨lp.fn,(l.params.zip us).foldl (fun(tmps:Array Value) (x:Nat×Value)=>tmps.setIfInBounds x.1 x.2) lp.tmps,lp.assign,lp.body,?_,?_⟩
   ·have hgl:(Instr.getLoop r).run P w=.ok lp w:=by simp[Instr.getLoop,qbu hg (by simp)]
    have hne:¬((⟨us⟩:Array Value).size≠lp.params.size):=by simp[hpsz]
    simp only[Instr.yield,Sem.run_bind,hgl,Result.andThen_ok,hne,if_false,Sem.run_pure,Sem.run_ite]
    rw[show((lp.params.zip (⟨us⟩:Array Value)).foldl (fun tmps (x:Nat×Value)=>match x with|(t,a)=>tmps.setIfInBounds t a) lp.tmps)=_ from hfold]
   ·refine roundIn_of_wpIn trivial ?_
    split at hy
    ·rename_i st hst
     split at hy
     ·rename_i l1 hl1
      cases hp1:l1.pending.isNone with
      |false=>simp[hp1]at hy
      |true=>
       simp only[hp1,cT]at hy
       have hp1':l1.pending=none:=by simpa using hp1
       split at hy
       ·rename_i x st' hst'
        split at hy
        ·rename_i l2 hl2
         cases hy
         refine wpIn_mono (hx (some r) lp.tmps.size lp.assign l.assign _ _ _ lr.assign (fun _=>lr.nr.1) hst (C.shared ω w0) (qcn ω) w (C.shared ω w0) { tmps:=_,defers:=[] } w ms he0 hsz Marks.nil) ?_
         rintro ee a1 w1 ⟨rfl,q1,C1,ω1,q2,q3,q4,q5⟩
         have hr1:=q2.b b r hr
         obtain⟨lp1,hg1,lr1⟩:=qip q4 hl1 hr1
         have hs1:lp1.state=.ready:=by rw[lr1.state,hp1']
         have hlrb:q9 P C1 { l1 with pending:=some .normal } { lp1 with state:=.busy }:={ lr1 with state:=rfl,pending:=by rw[lr1.pending,hp1'] }
         obtain⟨hset1,hu1,m1⟩:=qka q4 hr1 hg1 hlrb
         have hbr:(Instr.beginRound r).run P w1=.ok () (qay w1 r (.loop { lp1 with state:=.busy })):=by
          have hgl:(Instr.getLoop r).run P w1=.ok lp1 w1:=by simp[Instr.getLoop,qbu hg1 (by simp)]
          simp only[Instr.beginRound,Sem.run_bind,hgl,Result.andThen_ok,hset1,hs1,Sem.run_pure]
         refine⟨_,hbr,?_⟩
         refine wpIn_mono (hx (some r) lp.tmps.size lp.body l.body _ _ _ lr.body (fun _=>lr.nr.2) hst' C1 ω1 w (C.shared ω w0) a1 _ m1 (q5.updβ hu1 hr1) q1 q3) ?_
         rintro ee a2 w2 ⟨rfl,p1,C2,ω2,p2,p3,p4,p5⟩
         have hr2:=p2.b b r hr1
         obtain⟨lp2,hg2,lr2⟩:=qip p4 hl2 hr2
         have hgl2:(Instr.getLoop r).run P w2=.ok lp2 w2:=by simp[Instr.getLoop,qbu hg2 (by simp)]
         have fin:∀(st3:LoopState) (pd:Option Code) (ap:Option qo) (bb:Bool),q9 P C2 { l2 with pending:=ap } { lp2 with state:=st3,pending:=pd } →
           kg P C0 w0 C tmps d env ⟨.bool bb,false,none,yi hp.length (.bool true) (st'.heap.set b (.loop { l2 with pending:=ap }))⟩ (.bool bb) (qay w2 r (.loop { lp2 with state:=st3,pending:=pd })):=by
          intro st3 pd ap bb hlr
          obtain⟨hset2,hu2,m2⟩:=qka p4 hr2 hg2 hlr
          have:=qt2 (d:=d) (v:=.bool bb) (ow:=false) (u:=.bool bb) m e m2 (Ctx.le_trans q2 p2) (.bool bb) (by simp)
          exact this
         cases x with
         |normal=>
          have hlr:q9 P C2 { l2 with pending:=none } { lp2 with state:=.ready,pending:=none }:={ lr2 with state:=rfl,pending:=rfl }
          obtain⟨hset2,_,_⟩:=qka p4 hr2 hg2 hlr
          exact⟨.bool true,_,by simp only[Instr.endRound,Sem.run_bind,hgl2,Result.andThen_ok,Option.isNone_none,if_true,hset2,Sem.run_pure],_,rfl,fin _ _ _ true hlr⟩
         |ret=>
          have hlr:q9 P C2 { l2 with pending:=some .ret } { lp2 with state:=.done,pending:=some .ret }:={ lr2 with state:=rfl,pending:=rfl }
          obtain⟨hset2,_,_⟩:=qka p4 hr2 hg2 hlr
          exact⟨.bool false,_,by simp only[Instr.endRound,Sem.run_bind,hgl2,Result.andThen_ok,Option.isNone_some,Bool.false_eq_true,if_false,hset2,Sem.run_pure],_,rfl,fin _ _ _ false hlr⟩
         |exit id=>
          have hlr:q9 P C2 { l2 with pending:=some (.exit id) } { lp2 with state:=.done,pending:=some (.exit id) }:={ lr2 with state:=rfl,pending:=rfl }
          obtain⟨hset2,_,_⟩:=qka p4 hr2 hg2 hlr
          exact⟨.bool false,_,by simp only[Instr.endRound,Sem.run_bind,hgl2,Result.andThen_ok,Option.isNone_some,Bool.false_eq_true,if_false,hset2,Sem.run_pure],_,rfl,fin _ _ _ false hlr⟩
        ·cases hy
       ·cases hy
     ·cases hy
    ·cases hy
  ·cases hy
 ·cases hy
theorem jfi {h:qb}{md:jc}{r h0:Nat}{dst:Option Nat}{al:Option (List Nat)}{aop:qw}{res:qq}(hp':qx P p)(hx:CodeOk P xc)(m:MInv P C ω w0 C0 hp w)(e:EnvRel C ω w w0.heap.size env a.tmps){c:Call}(ho:o.op=.call c){f:Operand}(hcv:c.callee=.value f)
  (hc:qo8 P h md r dst c=some aop) (hs:j9 p xc h0 al env hp aop=some res):qad P C C0 w0 a d env o w res:=by
 unfold qo8 at hc
 rw[hcv]at hc
 simp only[]at hc
 split at hc
 ·rename_i f' args' h1 h2
  cases hc
  generalize md.at r=md at hs
  simp only[j9,qap]at hs
  split at hs
  ·rename_i k first captured vs e1 e2
   have hrf:=zt e.rep h1 e1
   have hra:=qh0 e.rep h2 e2
   generalize hev:a.eval f=fv at hrf
   cases hrf with
   |fn g g' _ _ as bs hf ha hb=>
    simp only[RepFn]at hf
    subst hf
    have hall:RepL C (first++vs++captured) (as++c.args.toList.map a.eval++bs):=RepL.append (RepL.append ha hra) hb
    have henter:Enters P k→(execOp a.eval o).run P w=.ok (.enter k ⟨as++c.args.toList.map a.eval++bs⟩) w:=by
     intro hen
     have hargs:(⟨as⟩:Array Value)++Array.map a.eval c.args++(⟨bs⟩:Array Value)=⟨as++c.args.toList.map a.eval++bs⟩:=by
      z8 Array.ext';simp
     simp[execOp,ho,resolve,hcv,hev,Deferred.ofValue,invoke,hargs,qrc hen]
    cases md with
    |frz rk=>
     simp only[]at hs
     cases hb0:(first++vs++captured).isEmpty with
     |false=>
      rw[hb0]at hs
      simp only[cond_false]at hs
      cases hb1:zu 0 (first++vs++captured)with
      |false=>rw[hb1]at hs;cases hs
      |true=>
       rw[hb1]at hs
       simp only[cT]at hs
       split at hs
       ·rename_i v ow hci
        obtain⟨hen,hpv,hiso⟩:=qjw hp' hx hci hb1
        have hall':RepL (.iso C.K) (first++vs++captured) (as++c.args.toList.map a.eval++bs):=
         qp.shift (C:=C) (C':=.iso C.K) 0 (fun _ _ _ h=>h) (fun b r hlt=>by omega) hall hb1
        refine .inr (.inr (.inl ⟨k,_,henter hen,CallsIn.mono (hiso C.K w _ m.tabs m.know m.kone hall') ?_⟩))
        rintro ee w' ⟨u,K',rfl,q1,q2,q3,q4,q5,q6,q7⟩
        exact⟨u,rfl,jc0 m e q1 q2 q3 q4 q5 q6 q7 hs⟩
       ·cases hs
     |true=>
      rw[hb0]at hs
      simp only[cT]at hs
      split at hs
      ·rename_i es hm
       split at hs
       ·rename_i h' hn
        obtain rfl:=zx hs
        obtain⟨hh,rfl⟩:=qaq hn
        obtain⟨hen,hmap⟩:=hp'.maps k es hm
        have hnil:as++c.args.toList.map a.eval++bs=[]:=by
         have h1:first++vs++captured=[]:=List.isEmpty_iff.1 hb0
         have h2:=hall.length
         rw[h1]at h2
         exact List.eq_nil_of_length_eq_zero h2
        refine .inr (.inr (.inl ⟨k,_,henter hen,?_⟩))
        rw[hnil]
        refine CallsIn.mono (hmap C.K w m.tabs m.know m.kone) ?_
        rintro ee w' ⟨q,K',ents,clock,rfl,q1,q2,q3,q4,q5,q6,q7,q8⟩
        exact⟨_,rfl,jf6 m e q1 q2 q3 q4 q5 hh q6 q7 q8⟩
       ·cases hs
      ·cases hs
    |iso=>
     simp only[]at hs
     cases hb0:zu 0 (first++vs++captured)with
     |false=>rw[hb0]at hs;cases hs
     |true=>
      rw[hb0]at hs
      simp only[cT]at hs
      split at hs
      ·rename_i v ow hci
       cases hs
       obtain⟨hen,hpv,hiso⟩:=qjw hp' hx hci hb0
       have hall':RepL (.iso C.K) (first++vs++captured) (as++c.args.toList.map a.eval++bs):=
        qp.shift (C:=C) (C':=.iso C.K) 0 (fun _ _ _ h=>h) (fun b r hlt=>by omega) hall hb0
       refine .inr (.inr (.inl ⟨k,_,henter hen,CallsIn.mono (hiso C.K w _ m.tabs m.know m.kone hall') ?_⟩))
       rintro ee w' ⟨u,K',rfl,q1,q2,q3,q4,q5,q6,q7⟩
       exact⟨u,rfl,q4e m e q1 q2 q3 q4 q5 hpv q6 q7⟩
      ·cases hs
    |red=>
     simp only[]at hs
     split at hs
     ·rename_i xs hfz
      cases hb1:zu 0 xs with
      |false=>rw[hb1]at hs;cases hs
      |true=>
       rw[hb1]at hs
       simp only[cT]at hs
       split at hs
       ·rename_i v ow hci
        split at hs
        ·rename_i v' ow' hrd
         cases hs
         obtain⟨hen,hpv,hiso⟩:=qjw hp' hx hci hb1
         refine .inr (.inr (.inl ⟨k,_,henter hen,CallsIn.mono (hiso (kj C hp w) w _ m.tabs (fun r o u h=>(qhf m h).1) (fun r o u h=>(qhf m h).2) (qt1 m hfz hall hb1)) ?_⟩))
         rintro ee w' ⟨u,K',rfl,q1,q2,q3,q4,q5,q6,q7⟩
         exact⟨u,rfl,jil m e q1 q2 q3 q4 q5 q6 q7 hrd⟩
        ·cases hs
       ·cases hs
     ·cases hs
    |shr=>
     simp only[]at hs
     split at hs
     ·rename_i v ow h' hcf
      cases hs
      ·obtain⟨hen,hshr⟩:=qi1 hp' hx hcf
       have hall':RepL (C.shared ω w0) (first++vs++captured) (as++c.args.toList.map a.eval++bs):=qp.imp (C:=C) (C':=C.shared ω w0) ⟨fun _ _ _ h=>h,fun _ _ h=>h⟩ hall
       refine .inr (.inr (.inl ⟨k,_,henter hen,CallsIn.mono (hshr _ _ _ _ hall' (qmg m)) ?_⟩))
       rintro ee w' ⟨u,C',ω',rfl,q1,q2,q3,q4⟩
       exact⟨u,rfl,qt2 m e q2 q1 q3 q4⟩
     ·cases hs
  ·rename_i b vs e1 e2
   have hrf:=zt e.rep h1 e1
   have hra:=qh0 e.rep h2 e2
   generalize hev:a.eval f=fv at hrf
   cases md with
   |iso=>simp at hs
   |frz _=>simp at hs
   |red=>simp at hs
   |shr=>
    simp only[]at hs
    split at hs
    ·rename_i v h' hy
     obtain rfl:=zx hs
     cases hrf with
     |fn g g' _ _ as bs hf ha hb=>
      obtain⟨q,hbq,rfl⟩:=hf
      cases ha
      cases hb
      obtain⟨ff,tmps',assign,body,k1,k2⟩:=ji7 (d:=d) hx m e hbq hra hy
      refine .inr (.inr (.inr ⟨q,ff,tmps',assign,body,?_,k2⟩))
      have hargs:Array.map a.eval c.args=⟨c.args.toList.map a.eval⟩:=by
       z8 Array.ext';simp
      rw[←hargs]at k1
      simp[execOp,ho,resolve,hcv,hev,Deferred.ofValue,invoke,k1]
    ·cases hs
  ·cases hs
 ·cases hc
theorem jqz {h:qb}{md:jc}{r h0:Nat}{dst:Option Nat}{al:Option (List Nat)}{aop:qw}{res:qq}(hp':qx P p)(hx:CodeOk P xc)(m:MInv P C ω w0 C0 hp w)(e:EnvRel C ω w w0.heap.size env a.tmps)
  (hvd:aop.vdst=none) (hc:cOp P h md r dst o.op=some aop) (hs:j9 p xc h0 al env hp aop=some res):qad P C C0 w0 a d env o w res:=by
 cases ho:o.op<;>rw[ho]at hc
 case move x=>exact jhf m e ho hc hs
 case assign x=>exact q8a m e ho hc hs
 case pick=>exact jgs m e ho hc hs
 case alloc=>exact jcf m e ho hc hs
 case box=>exact jl4 m e ho hc hs
 case build=>exact jcm m e ho hc hs
 case buildSlice=>exact qyf m e ho hc hs
 case load=>exact jef m e ho hc hs
 case store=>exact jcx m e ho hvd hc hs
 case nilCheck=>exact q2a m e ho hc hs
 case binOp=>exact jlp m e ho hc hs
 case unOp=>exact jt8 m e ho hc hs
 case convert=>exact ji8 m e ho hc hs
 case makeFunc=>exact q4u m e ho hc hs
 case makeMap=>exact q48 m e ho hc hs
 case makeSlice=>exact q0t m e ho hc hs
 case slice=>exact jb0 m e ho hc hs
 case fieldAddr=>exact q01 m e ho hc hs
 case field=>exact jau m e ho hc hs
 case indexAddr=>exact q04 m e ho hc hs
 case index=>exact jb8 m e ho hc hs
 case range=>exact jc1 m e ho hc hs
 case extract=>exact q5y m e ho hc hs
 case call c=>
  have hc':qo8 P h md r dst c=some aop:=hc
  by_cases hv:∃f,c.callee=.value f
  ·obtain⟨f,hf⟩:=hv
   exact jfi hp' hx m e ho hf hc' hs
  ·exact q5a m e ho (fun f hf=>hv ⟨f,hf⟩) hc' hs
 case lookup=>exact q9v m e ho hc hs
 case mapUpdate=>exact qpy m e (.inl ho) hc hs
 case insert t x y z=>exact qpy (h:=h) (md:=md) (r:=r) (dst:=dst) m e (.inr ho) (show cOp P h md r dst (.mapUpdate t x y z)=some aop from hc) hs
 case next it b=>exact jg8 m e ho hc hs
 all_goals (simp[cOp]at hc;done)
end
end Go.Abs
