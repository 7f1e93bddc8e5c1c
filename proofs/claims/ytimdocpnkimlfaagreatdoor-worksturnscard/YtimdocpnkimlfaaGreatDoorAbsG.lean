/- The growth of an empty slice in slices.Grow. -/
import Derived.Test.YtimdocpnkimlfaaGreatDoorAbsE
import Derived.Lib.AppendZeros
import Derived.ProofKit
import Derived.OpenShut
import Derived.ShutString
set_option linter.unusedVariables false
set_option linter.unusedSimpArgs false
open Option renaming some→I,none→En,map_eq_some_iff→G5,bind_some→Jo
open Bool renaming and_eq_true→Es,true→E9,false→Gd,cond_eq_ite→Gj
open Nat renaming eq_of_beq_eq_true→Ga,le_max_right→Gm,le_max_left→G2,beq→G3,ble→Hb,ble_eq_true_of_le→Ie,succ_mul→Jd,le_refl→Jj,blt→Jn
open List renaming getElem?_range→Ge,range→Gl,length_eq_zero_iff→G4,mem_of_getElem?→G6,getElem?_eq_some_iff→Ha,mem_cons_of_mem→If,mem_cons_self→Jc,flatten_cons→Je,length_range→Jf,getElem?_map→Jg,mem_append→L9,replicate→Nk,drop_drop→Nn,mem_cons→Np,map_cons→Qe,all_cons→Qn
open Array renaming getD_eq_getD_getElem?→Gf,ext'→Gn,getElem?_eq_some_iff→G7
open Prod renaming mk→H9
namespace Go.Abs
section
variable {P:Program}{C C0:aK}{ω:Nat→Option Loc}{w w0:World}{hp:qh}{env:Env}{a:Act}{ρ:Option Nat}
theorem wi {a:Act}{d:Nat}{v:Value}(h:d<a.tmps.size):(a.put (I d) v).eval (.tmp d)=v:=by
 simp[Act.eval,Act.put,Gf,h]
theorem kx {a:Act}{d j:Nat}{v:Value}(h:d≠j):(a.put (I d) v).eval (.tmp j)=a.eval (.tmp j):=by
 simp[Act.eval,Act.put,Gf,Array.getElem?_setIfInBounds_ne h]
theorem rF {a:Act}{d:Nat}{v:Value}:(a.put (I d) v).tmps.size=a.tmps.size:=by simp[Act.put]
theorem vd {ops:Array Oper}{Q:Exit→Act→World→Prop}{i d:Nat}{rest:List Nat}{o:Oper}{v:Value}{w':World}(hi:ops[i]?=I o)(hg:o.guard=En)(hd:o.dst=I d)(hn:∀c,o.op≠.defer c)(bE:(execOp a.eval o).run P w=.ok (.value v) w')
  (hk:wpOpsIn (jE ρ) 0 P ops Q rest (a.put (I d) v) w'):wpOpsIn (jE ρ) 0 P ops Q (i::rest) a w:=by
 rw[wpOpsIn_cons]
 unfold wpOpIn
 rw[hi]
 simp only[]
 rw[show Region.wanted o (yielded ops a.tmps)=E9 from by simp[Region.wanted,hg]]
 simp only[if_true]
 refine⟨fun _ _=>trivial,?_⟩
 rw[Oper.semAt_eq _ _ _ hn,bE]
 rw[←hd]at hk
 exact hk
theorem KZ {s d:Nat}{o:Oper}(h:Dp s d o=E9):o.op=.move (.tmp s)∧o.dst=I d∧o.guard=En:=by
 unfold Dp at h
 split at h
 ·rename_i h1 h2 h3
  simp only[Es,beq_iff_eq]at h
  obtain⟨rfl,rfl⟩:=h
  exact⟨h1,h2,h3⟩
 ·cases h
theorem q2z {s d:Nat}{o:Oper}(h:Qj s d o=E9):o.op=.assign (.tmp s)∧o.dst=I d∧o.guard=En:=by
 unfold Qj at h
 split at h
 ·rename_i h1 h2 h3
  simp only[Es,beq_iff_eq]at h
  obtain⟨rfl,rfl⟩:=h
  exact⟨h1,h2,h3⟩
 ·cases h
theorem jlk {x d:Nat}{o:Oper}{t:TypeId}(h:Qk x d o=I t):∃c,o.op=.call c∧c.callee=.builtin .cap∧c.args=#[.tmp x]∧c.argTypes=#[t]∧o.dst=I d∧o.guard=En:=by
 unfold Qk at h
 split at h
 ·rename_i c _ h1 h2 h3
  split at h
  ·rename_i h4 h5 h6
   split at h
   ·rename_i hk
    simp only[Es,beq_iff_eq]at hk
    obtain⟨rfl,rfl⟩:=hk
    cases h
    exact⟨c,h1,h4,by apply Gn;simpa using h5,by apply Gn;simpa using h6,h2,h3⟩
   ·cases h
  ·cases h
 ·cases h
theorem jh7 {x d:Nat}{o:Oper}{t:TypeId}(h:Ql x d o=I t):∃c,o.op=.call c∧c.callee=.builtin .len∧c.args=#[.tmp x]∧c.argTypes=#[t]∧o.dst=I d∧o.guard=En:=by
 unfold Ql at h
 split at h
 ·rename_i c _ h1 h2 h3
  split at h
  ·rename_i h4 h5 h6
   split at h
   ·rename_i hk
    simp only[Es,beq_iff_eq]at hk
    obtain⟨rfl,rfl⟩:=hk
    cases h
    exact⟨c,h1,h4,by apply Gn;simpa using h5,by apply Gn;simpa using h6,h2,h3⟩
   ·cases h
  ·cases h
 ·cases h
theorem q5j {x h d:Nat}{o:Oper}{t:TypeId}(hh:Kn x h d o=I t):o.op=.slice t (.tmp x) En (I (.tmp h)) En∧o.dst=I d∧o.guard=En:=by
 unfold Kn at hh
 split at hh
 ·rename_i h1 h2 h3
  split at hh
  ·rename_i hk
   simp only[Es,beq_iff_eq]at hk
   obtain⟨⟨rfl,rfl⟩,rfl⟩:=hk
   cases hh
   exact⟨h1,h2,h3⟩
  ·cases hh
 ·cases hh
theorem jjc {x y d:Nat}{o:Oper}{t u:TypeId}(h:Qm x y d o=I (t,u)):∃c,o.op=.call c∧c.callee=.builtin .append∧c.args=#[.tmp x,.tmp y]∧c.argTypes=#[t,u]∧o.dst=I d∧o.guard=En:=by
 unfold Qm at h
 split at h
 ·rename_i c _ h1 h2 h3
  split at h
  ·rename_i h4 h5 h6
   split at h
   ·rename_i hk
    simp only[Es,beq_iff_eq]at hk
    obtain⟨⟨rfl,rfl⟩,rfl⟩:=hk
    cases h
    exact⟨c,h1,h4,by apply Gn;simpa using h5,by apply Gn;simpa using h6,h2,h3⟩
   ·cases h
  ·cases h
 ·cases h
theorem q7p {o:Oper}{t e:TypeId}{x h:Nat}{b:Option Addr}{len cap n:Nat}(ho:o.op=.slice t (.tmp x) En (I (.tmp h)) En)(ht:P.underlying t=I (.slice e)){sz:Nat}(hn:jm P e=I sz)(hx:a.eval (.tmp x)=.slice b len cap)(hh:a.eval (.tmp h)=.int .i64 (n:Int))(hle:n≤cap):
  (execOp a.eval o).run P w=.ok (.value (.slice (if cap=0 then b else b.map (·.add 0)) n cap)) w:=by
 have hb:(0:Int)≤n∧(n:Int)≤cap:=by omega
 simp[execOp,ho,Instr.sliceAt,Instr.slice,run_underlying ht,hx,Instr.sliceBounds,hh,Instr.sliceBound,asIntOf,hle,yl hn]
theorem jnj {id nt:Nat}{ops:Array Oper}{sz:Nat}(hg:Ko P nt ops=I sz)(m:az P C ω w0 C0 hp w)(he:ak C ω w w0.heap.size env a.tmps)(c7:a.tmps.size=nt)(x9:Marks C w0.heap.size a.defers){z k:Nat}{xs:List AVal}{o1 o2:Bool}
  (h0:ji 0 env=I (.list E9 z xs,o1)) (h1:ji 1 env=I (.int .i64 (.ofNat k),o2)) (hk0:0<k) (fX:k≤1073741824):
  (Code.region id ops Gd).wpIn (jE ρ) 0 P (fun e a' w'=>e=.normal∧dz P w0 C0 C nt ⟨[(0,.list Gd sz [],E9)],hp⟩ a' w') a w:=by
 unfold Ko at hg
 split at hg
 ·rename_i t u pE
  split at hg
  ·rename_i e kk ht hu
   split at hg
   ·rename_i i hi
    split at hg
    ·rename_i hc
     cases hg
     simp only[Es,decide_eq_true_eq,Option.isSome_iff_exists,beq_iff_eq]at hc
     obtain⟨⟨⟨⟨⟨⟨zv,hz⟩,K0⟩,RR⟩,hnt⟩,⟨zl,ij⟩⟩,qE⟩:=hc
     have yA:jm P e=I i.size:=by simp[jm,hi]
     unfold jl8 at pE
     split at pE
     ·rename_i p0 p1 p2 p3 p4 p5 p6 p7 p8 p9 RS
      split at pE
      ·rename_i t2 t3 tt uu t7 t8 g2 g3 g5 g7 g8
       split at pE
       ·rename_i dK
        cases pE
        simp only[Es,beq_iff_eq]at dK
        obtain⟨⟨⟨⟨⟨⟨⟨⟨c0,c1⟩,c4⟩,c6⟩,c9⟩,x2⟩,x3⟩,x7⟩,x8⟩:=dK
        replace x2:=x2.symm
        replace x3:=x3.symm
        replace x7:=x7.symm
        replace x8:=x8.symm
        subst x2;subst x3;subst x7;subst x8
        have Gp:ops=#[p0,p1,p2,p3,p4,p5,p6,p7,p8,p9]:=by apply Gn;simpa using RS
        subst Gp
        obtain⟨v0,q0,r0,_⟩:=he 0 _ h0
        obtain⟨v1,q1,r1,_⟩:=he 1 _ h1
        have il:v0=.slice En 0 0:=by
         rcases r0.da with⟨_,_,h⟩|⟨h,_⟩|⟨h,_⟩
         ·exact h
         ·cases h
         ·cases h
        have iN:v1=.int .i64 (k:Int):=by cases r1;rfl
        subst il;subst iN
        have hl:26≤a.tmps.size:=by omega
        have e0:a.eval (.tmp 0)=.slice En 0 0:=by simp[Act.eval,Gf,q0]
        have e1:a.eval (.tmp 1)=.int .i64 (k:Int):=by simp[Act.eval,Gf,q1]
        obtain⟨a0,a0d,a0g⟩:=KZ c0
        obtain⟨a1,a1d,a1g⟩:=KZ c1
        obtain⟨cc2,a2,b2,b2a,b2t,a2d,a2g⟩:=jlk g2
        obtain⟨a3,a3d,a3g⟩:=q5j g3
        obtain⟨a4,a4d,a4g⟩:=KZ c4
        obtain⟨cc5,a5,b5,b5a,b5t,a5d,a5g⟩:=jjc g5
        obtain⟨a6,a6d,a6g⟩:=KZ c6
        obtain⟨cc7,a7,b7,b7a,b7t,a7d,a7g⟩:=jh7 g7
        obtain⟨a8,a8d,a8g⟩:=q5j g8
        obtain⟨a9,a9d,a9g⟩:=q2z c9
        refine wpIn_region ?_
        rw[show Gl (#[p0,p1,p2,p3,p4,p5,p6,p7,p8,p9]:Array Oper).size=[0,1,2,3,4,5,6,7,8,9]from rfl]
        refine vd (o:=p0) rfl a0g a0d (by simp[a0]) (v:=.slice En 0 0) (w':=w) (by simp[execOp,a0,e0]) ?_
        refine vd (o:=p1) rfl a1g a1d (by simp[a1]) (v:=.slice En 0 0) (w':=w) (by simp[execOp,a1,kx,e0]) ?_
        refine vd (o:=p2) rfl a2g a2d (by simp[a2]) (v:=.int .i64 0) (w':=w) ?_ ?_
        ·have:(((a.put (I 17) (.slice En 0 0)).put (I 18) (.slice En 0 0))).eval (.tmp 18)=.slice En 0 0:=wi (by rw[rF];omega)
         simp[execOp,a2,resolve,b2,b2a,b2t,invoke,builtin,Builtin.cap_,run_underlying ht,this,goInt]
        refine vd (o:=p3) rfl a3g a3d (by simp[a3]) (v:=.slice En 0 0) (w':=w) ?_ ?_
        ·have Gq:((((a.put (I 17) (.slice En 0 0)).put (I 18) (.slice En 0 0))).put (I 19) (.int .i64 0)).eval (.tmp 17)=.slice En 0 0:=by
          rw[kx (by omega),kx (by omega),wi (by omega)]
         have RT:((((a.put (I 17) (.slice En 0 0)).put (I 18) (.slice En 0 0))).put (I 19) (.int .i64 0)).eval (.tmp 19)=.int .i64 ((0:Nat):Int):=by
          rw[wi (by rw[rF,rF];omega)];rfl
         have:=q7p (P:=P) (w:=w) (o:=p3) a3 ht yA Gq RT (Jj 0)
         simpa using this
        refine vd (o:=p4) rfl a4g a4d (by simp[a4]) (v:=.int .i64 (k:Int)) (w':=w) (by simp[execOp,a4,kx,e1]) ?_
        have nv:=Lib.run_append_nil_zeros w t u p5.type e i zv .i64 kk ht hu hi hz k hk0 K0 (by omega) (by
         have:k*i.bytes≤1073741824*4096:=Nat.mul_le_mul fX RR
         omega)
        refine vd (o:=p5) rfl a5g a5d (by simp[a5]) (v:=.slice (I ⟨w.heap.size,0,En⟩) k (grownCap w k 0 e)) (w':=w.drew.alloc (.cells (Builtin.zeroCells zv.cells k++Builtin.zeroCells zv.cells (grownCap w k 0 e-k)) e)) ?_ ?_
        ·generalize hA:(((((a.put (I 17) (.slice En 0 0)).put (I 18) (.slice En 0 0)).put (I 19) (.int .i64 0)).put (I 20) (.slice En 0 0)).put (I 21) (.int .i64 (k:Int)))=A
         have AX:A.eval (.tmp 20)=.slice En 0 0:=by
          rw[←hA,kx (by omega),wi (by simp only[rF];omega)]
         have RU:A.eval (.tmp 21)=.int .i64 (k:Int):=by
          rw[←hA,wi (by simp only[rF];omega)]
         simp[execOp,a5,resolve,b5,b5a,b5t,invoke,builtin,AX,RU,nv]
        generalize hW:w.drew.alloc (.cells (Builtin.zeroCells zv.cells k++Builtin.zeroCells zv.cells (grownCap w k 0 e-k)) e)=W
        generalize hA:(((((a.put (I 17) (.slice En 0 0)).put (I 18) (.slice En 0 0)).put (I 19) (.int .i64 0)).put (I 20) (.slice En 0 0)).put (I 21) (.int .i64 (k:Int)))=A
        have hA0:A.eval (.tmp 0)=.slice En 0 0:=by rw[←hA];simp only[kx (show(21:Nat)≠0 by omega),kx (show(20:Nat)≠0 by omega),kx (show(19:Nat)≠0 by omega),kx (show(18:Nat)≠0 by omega),kx (show(17:Nat)≠0 by omega),e0]
        have hAs:A.tmps.size=a.tmps.size:=by rw[←hA];simp only[rF]
        have hAd:A.defers=a.defers:=by rw[←hA];rfl
        generalize hcp:grownCap w k 0 e=cp
        have hcap:k≤cp:=by rw[←hcp];simpa using grownCap_ge w k 0 e
        refine vd (o:=p6) rfl a6g a6d (by simp[a6]) (v:=.slice En 0 0) (w':=W) (by simp[execOp,a6,kx,hA0]) ?_
        refine vd (o:=p7) rfl a7g a7d (by simp[a7]) (v:=.int .i64 0) (w':=W) ?_ ?_
        ·generalize hB:((A.put (I 22) (.slice (I ⟨w.heap.size,0,En⟩) k cp)).put (I 23) (.slice En 0 0))=B
         have Gr:B.eval (.tmp 23)=.slice En 0 0:=by
          rw[←hB,wi (by rw[rF];omega)]
         simp[execOp,a7,resolve,b7,b7a,b7t,invoke,builtin,Builtin.len_,run_underlying ht,Gr,goInt]
        refine vd (o:=p8) rfl a8g a8d (by simp[a8]) (v:=.slice (I ⟨w.heap.size,0,En⟩) 0 cp) (w':=W) ?_ ?_
        ·generalize hB:(((A.put (I 22) (.slice (I ⟨w.heap.size,0,En⟩) k cp)).put (I 23) (.slice En 0 0)).put (I 24) (.int .i64 0))=B
         have Gs:B.eval (.tmp 22)=.slice (I ⟨w.heap.size,0,En⟩) k cp:=by
          rw[←hB,kx (by omega),kx (by omega),wi (by omega)]
         have Gt:B.eval (.tmp 24)=.int .i64 ((0:Nat):Int):=by
          rw[←hB,wi (by simp only[rF];omega)];rfl
         have:=q7p (P:=P) (w:=W) (o:=p8) a8 ht yA Gs Gt (Nat.zero_le cp)
         rw[if_neg (by omega)]at this
         simp only[Option.map_some,add_lit,Nat.add_zero]at this
         exact this
        refine vd (o:=p9) rfl a9g a9d (by simp[a9]) (v:=.slice (I ⟨w.heap.size,0,En⟩) 0 cp) (w':=W) ?_ ?_
        ·have RV:((((A.put (I 22) (.slice (I ⟨w.heap.size,0,En⟩) k cp)).put (I 23) (.slice En 0 0)).put (I 24) (.int .i64 0)).put (I 25) (.slice (I ⟨w.heap.size,0,En⟩) 0 cp)).eval (.tmp 25)=.slice (I ⟨w.heap.size,0,En⟩) 0 cp:=by
          rw[wi (by simp only[rF];omega)]
         simp[execOp,a9,RV]
        -- the end
        have hxd:=Ext.drew w
        obtain⟨zs,zvr,Gu,cT,lN⟩:=uO (C:=C) ij
        have nc:zv.cells.size=i.size:=by
         have h3:zl.length=i.size:=by rw[ij]at qE;simpa using qE
         have h4:=cT.length
         have h5:zvr=zv:=by
          have:=Gu w
          simp[zeroValue,typeInfo,hi,hz]at this
          exact this.symm
         subst h5
         simp only[Array.length_toList]at h4;omega
        have gY:=KA (d:=.slot 0) (tmps:=a.tmps) (m.ext hxd) (he.ext hxd) (Builtin.zeroCells zv.cells k++Builtin.zeroCells zv.cells (cp-k)) e [] i.size cp [] (by simpa using aH.nil) (by simp) (by simp) (by simp) (by simp) (by
         have hlen:∀n,(Builtin.zeroCells zv.cells n).size=n*i.size:=fun n=>by simp[Builtin.zeroCells,nc]
         rw[Array.size_append,hlen,hlen,←Nat.add_mul]
         exact Nat.mul_le_mul_right _ (by omega)) En
        rw[hcp]at hW
        rw[hW]at gY
        have hd0:w.drew.heap.size=w.heap.size:=rfl
        rw[hd0]at gY
        simp only[List.length_nil]at gY
        clear hW hA0 Gu cT
        generalize hB:(((A.put (I 22) (.slice (I ⟨w.heap.size,0,En⟩) k cp)).put (I 23) (.slice En 0 0)).put (I 24) (.int .i64 0)).put (I 25) (.slice (I ⟨w.heap.size,0,En⟩) 0 cp)=B
        have hBs:B.tmps.size=a.tmps.size:=by rw[←hB];simp only[rF];omega
        have hBd:B.defers=a.defers:=by rw[←hB,←hAd];rfl
        obtain⟨C',ω',k1,k2,k3,k4,k5⟩:=gY
        have lZ:dz P w0 C0 C nt ⟨[(0,.list Gd i.size [],E9)],hp⟩ (B.put (I 0) (.slice (I ⟨w.heap.size,0,En⟩) 0 cp)) W:=by
         refine⟨by rw[rF];omega,C',ω',k1,?_,k2,?_⟩
         ·rw[show(B.put (I 0) (.slice (I ⟨w.heap.size,0,En⟩) 0 cp)).defers=B.defers from rfl,hBd]
          exact x9.mono k1
         ·intro s x hx
          simp only[ji]at hx
          cases hb:G3 0 s with
          |false=>simp[hb]at hx
          |true=>
           have:=Ga hb
           subst this
           simp only[hb,cond_true,I.injEq]at hx
           subst hx
           exact⟨_,by simp only[Act.put];rw[Array.getElem?_setIfInBounds_self_of_lt (by omega)],k4,k5⟩
        simp only[wpOpsIn]
        exact⟨trivial,lZ⟩
       ·cases pE
      ·cases pE
     ·cases pE
    ·cases hg
   ·cases hg
  ·cases hg
 ·cases hg
end
def fN (ρ:Option Nat)(P:Program)(c:Code)(Q:Exit→Act→World→Prop)(a:Act)(w:World):Prop:=
 ∀(b:Frame) (k:List Item) (cs:List Frame),b.roundOf=(jE ρ).round→(jE ρ).fn b.fn→(jE ρ).room (cs.length+1+0) →
  ∃e a' w',Q e a' w'∧ArrivesIn (Machine.fenced P (jE ρ)) P (lone (b.atR a (.code c::.inLoop c::k)) cs w) b k cs e a' w'
theorem fN.wpIn {ρ P c Q a w}(h:fN ρ P c Q a w):(Code.loop c).wpIn (jE ρ) 0 P Q a w:=by
 intro b k cs yB hb hr
 obtain⟨e,a',w',hq,fb⟩:=h b k cs yB hb hr
 exact⟨e,a',w',hq,.of_steps (.one (fenced_calm hb hr rfl) stepR_loop) fb⟩
theorem fN.wk {ρ P c Q a w}(h:c.wpIn (jE ρ) 0 P (Exit.then (fN ρ P c Q) Q) a w):fN ρ P c Q a w:=by
 intro b k cs yB hb hr
 obtain⟨e,a₁,w₁,hq,fb⟩:=h b (.inLoop c::k) cs yB hb hr
 cases e with
 |normal=>
  obtain⟨e₂,a₂,w₂,Gv,wm⟩:=hq b k cs yB hb hr
  exact⟨e₂,a₂,w₂,Gv,.of_steps (StepsIn.trans fb (.one (fenced_calm hb hr rfl) stepR_inLoop)) wm⟩
 |exit id=>exact⟨_,a₁,w₁,hq,.pass (x:=.inLoop c) rfl (fun _ _=>.inl (by simp)) fb⟩
 |goto l=>exact⟨_,a₁,w₁,hq,.pass (x:=.inLoop c) rfl (fun _ _=>.inl (by simp)) fb⟩
 |ret=>exact⟨_,a₁,w₁,hq,.pass (x:=.inLoop c) rfl (fun _ _=>.inl (by simp)) fb⟩
 |panic ch=>exact⟨_,a₁,w₁,hq,.pass (x:=.inLoop c) rfl (fun _ _=>.inl (by simp)) fb⟩
 |outgrown=>exact⟨_,a₁,w₁,hq,.pass (x:=.inLoop c) rfl (fun _ _=>.inl (by simp)) fb⟩
section
variable {P:Program}{p:jz}{xc:XC}
def K1 (P:Program)(w0:World)(C0 C:aK)(nt:Nat)(x:je)(bZ:bf):Exit→Act→World→Prop:=fun e a' w'=>e=AE x∧dz P w0 C0 C nt bZ a' w'
def q7c (P:Program)(xc:XC):Prop:=
 ∀(ρ:Option Nat) (nt:Nat) (c:Code) (ca:aw) (st bZ:bf) (x:je),Fk P nt c ca→(ρ≠En→zu ca=E9)→xc ca st=I (x,bZ) →
  ∀(C:aK) (w0:World) (C0:aK) (a:Act) (w:World),dz P w0 C0 C nt st a w→c.wpIn (jE ρ) 0 P (K1 P w0 C0 C nt x bZ) a w
theorem cJ.Gw (h:q7c P xc):cJ P xc:=
 fun ρ nt c ca st bZ x hc hn hx C ω w0 C0 a w m he c7 kU=>wpIn_mono (h ρ nt c ca st bZ x hc hn hx C w0 C0 a w ⟨c7,C,ω,aK.le_refl C,kU,m,he⟩) fun _ _ _ hq=>hq
def jdf (P:Program)(xc:XC):Prop:=
 ∀(ρ:Option Nat) (nt:Nat) (c:Code) (ca:aw) (st bZ:bf) (x:je),Fk P nt c ca→(ρ≠En→zu ca=E9)→xc (.loop ca) st=I (x,bZ) →
  ∀(C:aK) (w0:World) (C0:aK) (a:Act) (w:World),dz P w0 C0 C nt st a w→fN ρ P c (K1 P w0 C0 C nt x bZ) a w
theorem dz.gc {w0 C0 C nt n st a w}(h:dz P w0 C0 C nt st a w)(hC:∀b r,C.β b=I r→b<n)(RW:∀b r,C0.β b=I r→b<n):dz P w0 C0 C nt (Abs.gc n st) a w:=by
 unfold Abs.gc
 cases hb:Hb st.heap.length n with
 |true=>exact h
 |false=>
  simp only[cond_false]
  cases lT:(mS n st.env&&zk n (st.heap.take n))with
  |false=>exact h
  |true=>
   simp only[cond_true]
   simp only[Es]at lT
   obtain⟨h1,C',ω',h3,h2,h4,h5⟩:=h
   have hn:n≤st.heap.length:=by
    rcases Nat.lt_or_ge n st.heap.length with h|h
    ·omega
    ·rw[Ie h]at hb;cases hb
   exact⟨h1,C'.cut n,ω',aK.iR h3 hC,⟨h2.choose,h2.choose_spec.1,h2.choose_spec.2.1,h2.choose_spec.2.2⟩,h4.gc hn lT.2 RW,h5.cut lT.1⟩
theorem K3 {K w0 C0 C nt x bZ Q e a w}(h:K1 P w0 C0 C nt x bZ e a w)(hn:x=.normal→dz P w0 C0 C nt bZ a w→K a w)(ho:x≠.normal→dz P w0 C0 C nt bZ a w→Q (AE x) a w):Exit.then K Q e a w:=by
 obtain⟨rfl,h⟩:=h
 cases x with
 |normal=>exact hn rfl h
 |exit id=>exact ho (by simp) h
 |ret=>exact ho (by simp) h
theorem q55 {b:Frame}{a k cs w c}:step P (lone (b.atR a (.code (.scope c)::k)) cs w)=.next (lone (b.atR a (.code c::.inScope c::k)) cs w):=
 step_lone_go (by simp[stepG,stepG.exec,Frame.atR])
theorem qz7 {b:Frame}{a k cs w c}:step P (lone (b.atR a (.inScope c::k)) cs w)=.next (lone (b.atR a k) cs w):=
 step_lone_go (by simp[stepG,stepG.exec,Frame.atR])
theorem qoh {F:Fence}{n c Q a w}(h:c.wpIn F n P (Exit.noGoto Q) a w):(Code.scope c).wpIn F n P Q a w:=by
 intro b k cs yB hb hr
 obtain⟨e,a₁,w₁,hq,fb⟩:=h b (.inScope c::k) cs yB hb hr
 have h1:StepsIn (Machine.fenced P F) P (lone (b.atR a (.code (.scope c)::k)) cs w) (lone (b.atR a (.code c::.inScope c::k)) cs w):=.one (fenced_calm hb hr rfl) q55
 cases e with
 |normal=>exact⟨.normal,a₁,w₁,hq,StepsIn.trans h1 (StepsIn.trans fb (.one (fenced_calm hb hr rfl) qz7))⟩
 |goto l=>exact hq.elim
 |exit id=>
  refine⟨.exit id,a₁,w₁,hq,.of_steps h1 ?_⟩
  refine⟨fun k' hk=>fb.1 k' (by simp[exitTo,hk]),fun RX iT=>?_⟩
  exact fb.2 RX (by simp[exitTo,iT])
 |ret=>exact⟨_,a₁,w₁,hq,.of_steps h1 fb⟩
 |panic ch=>exact⟨_,a₁,w₁,hq,.of_steps h1 fb⟩
 |outgrown=>exact⟨_,a₁,w₁,hq,.of_steps h1 fb⟩
theorem az.RY {C C0 ω w0 w hp}(m:az P C ω w0 C0 hp w):az P { C with D:=fun r=>C.D r∨r=w.heap.size } ω w0 C0 hp (w.alloc (.deferred (I []))):=by
 have hx:Ext w (w.alloc (.deferred (I []))):=Ext.alloc w _ (fun c t fr h=>by cases h)
 have m':=m.ext hx
 exact { m' with
  fo:=fun r hr=>by
   rcases hr with hr|hr
   ·exact m'.fo r hr
   ·subst hr;rw[vU,if_pos rfl]
  grown:=⟨m.grown.k,m.grown.b,m.grown.w,fun r h=>.inl (m.grown.d r h),m.grown.t⟩
  box:=fun b x r fj hb=>bK.imp (C:=C) (C':={ C with D:=fun r=>C.D r∨r=w.heap.size }) ⟨fun _ _ _ h=>h,fun _ _ h=>h⟩ rfl (fun _ _ _ ho=>ho) (m'.box b x r fj hb) }
theorem jku (eA:b6 P p)(hx:cJ P xc){f ps x1 x2 f' a1 a2 h nt st bZ x C w0 C0 a w}
  (hf:qt f=I f') (h1:gU P h nt x1=I a1) (h2:gU P h nt x2=I a2) (cG:∀t∈ps.toList,t<nt) (hs:mV p xc f' ps.toList a1 a2 st=I (x,bZ)) (cr:dz P w0 C0 C nt st a w):
  (Code.rangeFunc f ps x1 x2).wpIn (jE En) 0 P (K1 P w0 C0 C nt x bZ) a w:=by
 obtain⟨c7,Ca,ω,hle,x9,m,he⟩:=cr
 unfold mV at hs
 cases K4:(zu a1&&zu a2)with
 |false=>simp[K4]at hs
 |true=>
  simp only[K4,cond_true]at hs
  simp only[Es]at K4
  split at hs
  ·rename_i k first captured eM
   have uZ:=qv he.ct hf eM
   generalize F2:a.eval f=fv at uZ
   cases uZ with
   |fn g g' _ _ as bs hg ha hb=>
    simp only[fD]at hg
    subst hg
    split at hs
    ·rename_i _r1 _r2 h' AG
     split at hs
     ·rename_i l' hl'
      cases jK:zk st.heap.length (h'.take st.heap.length)with
      |false=>simp[jK]at hs
      |true=>
       simp only[jK,cond_true]at hs
       ·obtain⟨lU,nq⟩:=F0 eA hx AG
        -- the loop's record,and the block before it
        refine wpIn_rangeFunc fun fn _=>?_
        generalize hlp:({ state:=.ready,pending:=En,fn:=fn,tmps:=a.tmps,params:=ps,assign:=x1,body:=x2,defers:=w.heap.size }:Loop)=lp
        have mD:=(m.RY).holes 1
        have eD:ak { Ca with D:=fun r=>Ca.D r∨r=w.heap.size } ω (w.alloc (.deferred (I []))) w0.heap.size st.env a.tmps:=fun s y hy=>
         let ⟨v,k1,k2,k3⟩:=he.ext (Ext.alloc w _ (fun c t fr h=>by cases h)) s y hy
         ⟨v,k1,bT.qY k2,k3⟩
        have Gx:(st.heap++Nk 1 .hole)[st.heap.length]?=I .hole:=by simp
        have Gy:(w.alloc (.deferred (I []))).heap.size=w.heap.size+1:=by rw[World.size_alloc]
        obtain⟨mB,eB,nw⟩:=mD.aS eD Gx (.loop lp) (fun c t fr h=>by cases h) (.loop ⟨st.env,ps.toList,a1,a2,En⟩) (by
         intro C' ω' w' cX KP
         subst hlp
         exact⟨_,KP,{ assign:=⟨h,by rw[c7];exact h1⟩,body:=⟨h,by rw[c7];exact h2⟩,params:=rfl,fits:=fun t ht=>by rw[c7];exact cG t ht,nr:=K4,env:=fun s y hy=>let ⟨v,k1,k2,_⟩:=eD s y hy; ⟨v,k1,aH.mono cX k2⟩,state:=rfl,pending:=rfl }⟩)
        have bJ:(st.heap++Nk 1 bg.hole).set st.heap.length (.loop ⟨st.env,ps.toList,a1,a2,En⟩)=st.heap++[.loop ⟨st.env,ps.toList,a1,a2,En⟩]:=by
         simp
        rw[bJ]at mB
        rw[Gy]at mB eB nw
        generalize hCB:aK.box { Ca with D:=fun r=>Ca.D r∨r=w.heap.size } st.heap.length (w.heap.size+1)=CB at mB eB nw
        generalize hwB:(w.alloc (.deferred (I []))).alloc (.loop lp)=wB at mB eB
        have Gz:CB.β st.heap.length=I (w.heap.size+1):=by rw[←hCB];simp[aK.box]
        have hDB:∀r,Ca.D r∨r=w.heap.size→CB.D r:=fun r hr=>by rw[←hCB];exact hr
        have hKB:∀ {i:lq},aH Ca i→aH CB i:=fun hr=>aH.mono nw (aH.imp (C:=Ca) (C':={ Ca with D:=fun r=>Ca.D r∨r=w.heap.size }) ⟨fun _ _ _ h=>h,fun _ _ h=>h⟩ hr)
        have GD:Ca.le CB:=⟨nw.k,nw.b,nw.w,fun r hr=>hDB r (.inl hr),nw.t⟩
        have ey:aW (CB.shared ω w0) (first++[.fn (.yield st.heap.length) [] []]++captured) (as++[Value.func (.yield (w.heap.size+1)) ⟨[]⟩ ⟨[]⟩]++bs):=by
         refine aH.imp (C:=CB) (C':=CB.shared ω w0) ⟨fun _ _ _ h=>h,fun _ _ h=>h⟩ ?_
         exact aW.append (aW.append (hKB ha) (.cons _ _ _ _ (.fn _ _ _ _ _ _ ⟨_,Gz,rfl⟩ .nil .nil) .nil)) (hKB hb)
        refine⟨w.heap.size+1,[{ target:=.collected w.heap.size,args:=#[] }],wB,{ target:=.fn (.func k) ⟨bs⟩,args:=⟨as⟩++#[Value.func (.yield (w.heap.size+1)) #[] #[]] },wB,k,⟨as++[Value.func (.yield (w.heap.size+1)) ⟨[]⟩ ⟨[]⟩]++bs⟩,wB,?_,?_,fun _ _=>trivial,?_,fun hd=>by simp[jE,Fence.wide]at hd,?_⟩
        ·subst hlp
         rw[←hwB]
         simp[Instr.enterLoop,jE,Fence.wide,Gy]
        ·have hc:a.eval (.const (Value.func (.yield (w.heap.size+1)) #[] #[]))=Value.func (.yield (w.heap.size+1)) #[] #[]:=rfl
         simp[resolve,F2,Deferred.ofValue,hc]
        ·have hq:(⟨as⟩:Array Value)++#[Value.func (.yield (w.heap.size+1)) #[] #[]]++(⟨bs⟩:Array Value)=⟨as++[Value.func (.yield (w.heap.size+1)) ⟨[]⟩ ⟨[]⟩]++bs⟩:=by
          apply Gn;simp
         simp only[invoke,hq]
         exact qpk lU _ _
        ·refine qxd.2 (CallsIn.mono (nq _ _ _ _ ey (Ro mB)) ?_)
         rintro ee w' ⟨u,C1,ω1,rfl,q1,q2,_,_⟩
         obtain⟨m2,e2⟩:=qr8 mB eB q2 q1
         have AY:CB.le (C1.back CB):=KQ q1
         have rm:(C1.back CB).β st.heap.length=I (w.heap.size+1):=AY.b _ _ Gz
         obtain⟨lV,rn,uX⟩:=KS m2 hl' rm
         have hlen:st.heap.length<h'.length:=(m2.lt _ _ rm).2
         have RW:∀b r,C0.β b=I r→b<st.heap.length:=fun b r hb=>(m.lt b r (m.grown.b b r hb)).2
         have m3:=m2.gc (Nat.le_of_lt hlen) jK RW
         have AO:(Instr.getLoop (w.heap.size+1)).run P w'=.ok lV w':=by simp[Instr.getLoop,px rn (by simp)]
         have rD:=(G7.1 rn).1
         have hu:nj w' (kh w' (w.heap.size+1) (.loop { lV with state:=.exhausted })) (w.heap.size+1):=Dw rD (by simp)
         have ly:∀cs t fr,w'.heap[w.heap.size+1]?≠I (.cells cs t fr):=fun cs t fr hh=>by rw[rn]at hh;cases hh
         have RZ:∀b,((C1.back CB).cut st.heap.length).β b≠I (w.heap.size+1):=fun b hb=>by
          simp only[aK.cut]at hb
          split at hb
          ·rename_i bz
           have:=m2.inj b st.heap.length _ hb rm
           omega
          ·cases hb
         have cL:lV.state≠.busy→(Instr.endLoop (w.heap.size+1)).run P w'=.ok lV.pending (kh w' (w.heap.size+1) (.loop { lV with state:=.exhausted })):=fun DA=>by
          have fE:(lV.state == .busy)=Gd:=by
           cases cr:lV.state<;>first|rfl|exact absurd cr DA
          have hs2:=xU (P:=P) (x:=.loop { lV with state:=.exhausted }) rn (by simp)
          simp only[Instr.endLoop,Sem.run_bind,AO,Result.andThen_ok,fE,Bool.false_eq_true,if_false,Sem.run_ite,hs2,Sem.run_pure]
         have m4:=m3.other (D':=((C1.back CB).cut st.heap.length).D) hu RZ (Nat.le_trans m.size (by omega)) ly (fun kk hk=>⟨hk,fun iq=>by
          have:=m3.fo kk hk
          rw[iq,rn]at this;cases this⟩) m3.grown.d
         have AZ:Ca.le ((C1.back CB).cut st.heap.length):=aK.iR (aK.le_trans GD AY) (fun b r hb=>(m.lt b r hb).2)
         have e4:ak ((C1.back CB).cut st.heap.length) (nu ω ω1 wB.heap.size) (kh w' (w.heap.size+1) (.loop { lV with state:=.exhausted })) w0.heap.size st.env a.tmps:=by
          intro s y hy
          obtain⟨v,k1,k2,k3⟩:=he s y hy
          obtain⟨v',j1,j2,j3⟩:=e2 s y hy
          rw[k1]at j1
          cases j1
          exact⟨v,k1,aH.mono AZ k2,fun hh=>(((j3 hh).cut _).kT (D':=((C1.back CB).cut st.heap.length).D) hu ly)⟩
         have lZ:∀(xx:je),dz P w0 C0 C nt { st with heap:=h'.take st.heap.length } { a with defers:=[{ target:=.collected w.heap.size,args:=#[] }]++a.defers } (kh w' (w.heap.size+1) (.loop { lV with state:=.exhausted })):=by
          intro _
          refine⟨c7,_,_,aK.le_trans hle AZ,?_,m4,e4⟩
          obtain⟨rs,g1,g2,g3⟩:=x9
          refine⟨w.heap.size::rs,by rw[g1];rfl,List.nodup_cons.2 ⟨fun hm=>?_,g2⟩,?_⟩
          ·have:=(G7.1 (m.fo _ (g3 _ hm).1)).1;omega
          ·intro r hr
           rcases Np.1 hr with rfl|hr
           ·exact⟨AY.d _ (hDB _ (.inr rfl)),m.size⟩
           ·exact⟨AZ.d _ (g3 r hr).1,(g3 r hr).2⟩
         simp only[rangePost]
         split at hs
         ·rename_i wo
          cases hs
          refine⟨En,_,?_,rfl,lZ .normal⟩
          rw[cL (by rw[uX.state,wo];simp),uX.pending,wo]
         ·cases hs
         ·rename_i xx QO wo
          cases hs
          cases x with
          |normal=>exact absurd rfl QO
          |ret=>
           refine⟨I .ret,_,?_,wpIn_ret ⟨rfl,lZ .ret⟩⟩
           rw[cL (by rw[uX.state,wo];simp),uX.pending,wo]
          |exit id=>
           refine⟨I (.exit id),_,?_,wpIn_exit ⟨rfl,lZ .ret⟩⟩
           rw[cL (by rw[uX.state,wo];simp),uX.pending,wo]
     ·cases hs
    ·cases hs
  ·cases hs
theorem K5 (eA:b6 P p):∀n,q7c P (jj p n)∧jdf P (jj p n)
 |0=>⟨fun ρ nt c ca st bZ x _ _ hx=>by simp[jj]at hx,fun ρ nt c ca st bZ x _ _ hx=>by simp[jj]at hx⟩
 |n+1=>by
  obtain⟨ih,ihl⟩:=K5 eA n
  have loop:jdf P (jj p (n+1)):=by
   intro ρ nt c ca st bZ x hc hn hx C w0 C0 a w cr
   obtain⟨c7,C',ω',hle,kU,m,he⟩:=cr
   have hC':∀b r,C'.β b=I r→b<st.heap.length:=fun b r hb=>(m.lt b r hb).2
   refine fN.wk ?_
   simp only[jj]at hx
   split at hx
   ·rename_i iy h1
    refine wpIn_mono (ih ρ nt c ca st iy .normal hc hn h1 C' w0 C0 a w ⟨c7,C',ω',aK.le_refl _,kU,m,he⟩) ?_
    intro e a' w' hq
    refine K3 hq (fun _ eI=>?_) (fun h=>absurd rfl h)
    have h2:=eI.gc hC' (fun b r hb=>hC' b r (m.grown.2 b r hb))
    have h3:=ihl ρ nt c ca _ bZ x hc hn hx C' w0 C0 a' w' h2
    intro b k cs yB hb hr
    obtain⟨e,a',w',hq,fb⟩:=h3 b k cs yB hb hr
    obtain⟨q1,q2,C2,ω2,q4,q5⟩:=hq
    exact⟨e,a',w',⟨q1,q2,C2,ω2,aK.le_trans hle q4,q5⟩,fb⟩
   ·rename_i bL
    refine wpIn_mono (ih ρ nt c ca st bZ x hc hn hx C w0 C0 a w ⟨c7,C',ω',hle,kU,m,he⟩) ?_
    intro e a' w' hq
    refine K3 hq (fun DL eI=>?_) (fun DL eI=>⟨rfl,eI⟩)
    subst DL
    exact absurd hx (bL bZ)
  refine⟨?_,loop⟩
  intro ρ nt c ca st bZ x hc hn hx C w0 C0 a w cr
  obtain⟨h,dK⟩:=hc
  cases c with
  |skip=>
   simp only[gU,I.injEq]at dK
   subst dK
   simp only[jj,I.injEq,H9.injEq]at hx
   obtain⟨rfl,rfl⟩:=hx
   exact wpIn_skip ⟨rfl,cr⟩
  |label l=>
   simp only[gU,I.injEq]at dK
   subst dK
   simp only[jj,I.injEq,H9.injEq]at hx
   obtain⟨rfl,rfl⟩:=hx
   exact wpIn_label ⟨rfl,cr⟩
  |region id ops draw=>
   simp only[gU]at dK
   have dK:(draw=Gd∧∃sz,Ko P nt ops=I sz∧ca=.grow sz)∨Fi P h nt id ops draw=I ca:=by
    split at dK
    ·rename_i sz R0;cases dK;exact .inl ⟨rfl,sz,R0,rfl⟩
    ·exact .inr dK
   rcases dK with⟨rfl,sz,R0,rfl⟩|dK
   ·simp only[jj]at hx
    split at hx
    ·rename_i z xs o1 k o2 e0 e1
     cases iq:(Jn 0 k&&Hb k 1073741824)with
     |false=>simp[iq]at hx
     |true=>
      simp only[iq,cond_true,I.injEq,H9.injEq]at hx
      obtain⟨rfl,rfl⟩:=hx
      simp only[Es]at iq
      obtain⟨c7,C',ω',hle,kU,m,he⟩:=cr
      refine wpIn_mono (jnj R0 m he c7 kU e0 e1 (Nat.blt_eq.mp iq.1) (Nat.le_of_ble_eq_true iq.2)) ?_
      rintro e a' w' ⟨rfl,q1,C2,ω2,q4,q5⟩
      exact⟨rfl,q1,C2,ω2,aK.le_trans hle q4,q5⟩
    ·cases hx
   have GF:∃na l keep,ca=.region na l keep:=by
    unfold Fi at dK
    split at dK
    ·split at dK
     ·simp only[I.injEq]at dK;exact⟨_,_,_,dK.symm⟩
     ·cases dK
    ·cases dK
   obtain⟨na,l,keep,eo⟩:=GF
   subst eo
   simp only[jj]at hx
   obtain⟨c7,C',ω',hle,kU,m,he⟩:=cr
   refine wpIn_mono (jca eA (cJ.Gw ih) dK rfl hx m he c7 kU) ?_
   rintro e a' w' ⟨q1,q2,C2,ω2,q4,q5⟩
   exact⟨q1,q2,C2,ω2,aK.le_trans hle q4,q5⟩
  |seq c1 c2=>
   simp only[gU]at dK
   split at dK
   ·rename_i x1 x2 h1 h2
    cases dK
    have DM:ρ≠En→zu x1=E9∧zu x2=E9:=fun hh=>by simpa[zu]using hn hh
    simp only[jj]at hx
    refine wpIn_seq ?_
    split at hx
    ·rename_i iy xX
     refine wpIn_mono (ih ρ nt c1 x1 st iy .normal ⟨h,h1⟩ (fun hh=>(DM hh).1) xX C w0 C0 a w cr) ?_
     intro e a' w' hq
     exact K3 hq (fun _ eI=>ih ρ nt c2 x2 iy bZ x ⟨h,h2⟩ (fun hh=>(DM hh).2) hx C w0 C0 a' w' eI) (fun hh=>absurd rfl hh)
    ·rename_i bL
     refine wpIn_mono (ih ρ nt c1 x1 st bZ x ⟨h,h1⟩ (fun hh=>(DM hh).1) hx C w0 C0 a w cr) ?_
     intro e a' w' hq
     refine K3 hq (fun DL eI=>?_) (fun DL eI=>⟨rfl,eI⟩)
     subst DL
     exact absurd hx (bL bZ)
   ·cases dK
  |cond c c1 c2=>
   simp only[gU]at dK
   split at dK
   ·rename_i c' x1 x2 h0 h1 h2
    cases dK
    have DM:ρ≠En→zu x1=E9∧zu x2=E9:=fun hh=>by simpa[zu]using hn hh
    simp only[jj]at hx
    split at hx
    ·rename_i t ht
     have iw:=cr
     obtain⟨c7,C',ω',hle,kU,m,he⟩:=cr
     have eM:=(qv he.ct h0 ht).dv
     refine wpIn_cond eM ?_
     cases t with
     |true=>simp only[cond_true]at hx;exact ih ρ nt c1 x1 st bZ x ⟨h,h1⟩ (fun hh=>(DM hh).1) hx C w0 C0 a w iw
     |false=>simp only[cond_false]at hx;exact ih ρ nt c2 x2 st bZ x ⟨h,h2⟩ (fun hh=>(DM hh).2) hx C w0 C0 a w iw
    ·cases hx
   ·cases dK
  |block id b=>
   simp only[gU]at dK
   obtain⟨b',hb,rfl⟩:=G5.1 dK
   simp only[jj]at hx
   refine wpIn_block ?_
   split at hx
   ·rename_i fP iy xX
    refine wpIn_mono (ih ρ nt b b' st iy (.exit fP) ⟨h,hb⟩ (fun hh=>by simpa[zu]using hn hh) xX C w0 C0 a w cr) ?_
    rintro e a' w' ⟨rfl,eI⟩
    cases hid:G3 fP id with
    |true=>
     simp only[hid,cond_true,I.injEq,H9.injEq]at hx
     obtain⟨rfl,rfl⟩:=hx
     have:=Ga hid
     subst this
     simp only[AE,Exit.inBlock,if_true]
     exact⟨rfl,eI⟩
    |false=>
     simp only[hid,cond_false,I.injEq,H9.injEq]at hx
     obtain⟨rfl,rfl⟩:=hx
     have bL:¬fP=id:=fun hh=>by subst hh;simp at hid
     simp only[AE,Exit.inBlock,bL,if_false]
     exact⟨rfl,eI⟩
   ·rename_i bL
    refine wpIn_mono (ih ρ nt b b' st bZ x ⟨h,hb⟩ (fun hh=>by simpa[zu]using hn hh) hx C w0 C0 a w cr) ?_
    rintro e a' w' ⟨rfl,eI⟩
    cases x with
    |normal=>exact⟨rfl,eI⟩
    |ret=>exact⟨rfl,eI⟩
    |exit fP=>exact absurd hx (bL fP bZ)
  |loop b=>
   simp only[gU]at dK
   obtain⟨b',hb,rfl⟩:=G5.1 dK
   exact(loop ρ nt b b' st bZ x ⟨h,hb⟩ (fun hh=>by simpa[zu]using hn hh) hx C w0 C0 a w cr).wpIn
  |scope b=>
   simp only[gU]at dK
   obtain⟨b',hb,rfl⟩:=G5.1 dK
   have fj:jj p n b' st=I (x,bZ):=by
    simp only[jj]at hx
    split at hx
    ·rename_i iy xX
     cases n with
     |zero=>simp[jj]at xX
     |succ n=>simp only[jj]at hx;rw[xX];exact hx
    ·exact hx
   refine qoh (wpIn_mono (ih ρ nt b b' st bZ x ⟨h,hb⟩ (fun hh=>by simpa[zu]using hn hh) fj C w0 C0 a w cr) ?_)
   rintro e a' w' ⟨rfl,eI⟩
   cases x with
   |normal=>exact⟨rfl,eI⟩
   |exit id=>exact⟨rfl,eI⟩
   |ret=>exact⟨rfl,eI⟩
  |rangeFunc f ps x1 x2=>
   simp only[gU]at dK
   split at dK
   ·split at dK
    ·rename_i cG
     cases dK
     simp only[jj]at hx
     cases ρ with
     |some l=>exact absurd (hn (by simp)) (by simp[zu])
     |none=>exact jku eA (cJ.Gw ih) (by assumption) (by assumption) (by assumption) (fun t ht=>by simpa using(Array.all_eq_true'.1 cG) t (by simpa using ht)) hx cr
    ·cases dK
   ·cases dK
  |exit id=>
   simp only[gU,I.injEq]at dK
   subst dK
   simp only[jj,I.injEq,H9.injEq]at hx
   obtain⟨rfl,rfl⟩:=hx
   exact wpIn_exit ⟨rfl,cr⟩
  |ret=>
   simp only[gU,I.injEq]at dK
   subst dK
   simp only[jj,I.injEq,H9.injEq]at hx
   obtain⟨rfl,rfl⟩:=hx
   exact wpIn_ret ⟨rfl,cr⟩
  |_=>
   simp only[gU,I.injEq]at dK
   subst dK
   simp[jj]at hx
theorem q66 (eA:b6 P p){n k args v ow}(h:qc p (jj p n) k args=I (v,ow))(hb:qw 0 args=E9):IsoCall P k args v ow:=
 (KN eA (cJ.Gw (K5 eA n).1) h hb).2.2
end
def yh {α:Type}(n:Nat)(f:Nat→α):α:=match n with
 |0=>f 0
 |m+1=>f (Nat.succ m)
def R1 {α:Type}(n:Int)(f:Int→α):α:=match n with
 | .ofNat a=>yh a fun a=>f (.ofNat a)
 | .negSucc a=>yh a fun a=>f (.negSucc a)
def GG {α:Type}(b:Bool)(f:Bool→α):α:=match b with
 |true=>f E9
 |false=>f Gd
def qzk {α:Type}(k:IntKind)(f:IntKind→α):α:=match k with
 | .i8=>f .i8 | .i16=>f .i16 | .i32=>f .i32 | .i64=>f .i64 | .u8=>f .u8 | .u16=>f .u16 | .u32=>f .u32 | .u64=>f .u64
def GH {α:Type}:List UInt8→(List UInt8→α)→α
 | [],f=>f []
 |c::s,f=>GH s fun s=>f (c::s)
def R2 {α:Type}(g:Fn)(f:Fn→α):α:=match g with
 | .func k=>yh k fun k=>f (.func k)
 | .yield k=>yh k fun k=>f (.yield k)
 |g=>f g
mutual
def km {α:Type}:AVal→(AVal→α)→α
 | .bool b,f=>GG b fun b=>f (.bool b)
 | .int k n,f=>qzk k fun k=>R1 n fun n=>f (.int k n)
 | .str s,f=>GH s fun s=>f (.str s)
 | .list b sz xs,f=>GG b fun b=>yh sz fun sz=>wu xs fun xs=>f (.list b sz xs)
 | .ms b o l,f=>yh b fun b=>yh o fun o=>yh l fun l=>f (.ms b o l)
 | .ptr b o,f=>yh b fun b=>yh o fun o=>f (.ptr b o)
 | .ai v,f=>km v fun v=>f (.ai v)
 | .c8 n,f=>yh n fun n=>f (.c8 n)
 | .b9,f=>f .b9
 | .map b,f=>yh b fun b=>f (.map b)
 | .b8,f=>f .b8
 | .fn g a c,f=>R2 g fun g=>wu a fun a=>wu c fun c=>f (.fn g a c)
 | .cx,f=>f .cx
 | .agg cs,f=>wu cs fun cs=>f (.agg cs)
 | .aI cs,f=>wu cs fun cs=>f (.aI cs)
 | .undef,f=>f .undef
 | .any,f=>f .any
 | .aj b bN len,f=>yh b fun b=>yh bN fun bN=>yh len fun len=>f (.aj b bN len)
 | .di b bN off,f=>yh b fun b=>yh bN fun bN=>yh off fun off=>f (.di b bN off)
def wu {α:Type}:List AVal→(List AVal→α)→α
 | [],f=>f []
 |x::xs,f=>km x fun x=>wu xs fun xs=>f (x::xs)
end
def GI {α:Type}:Env→(Env→α)→α
 | [],f=>f []
 |(t,v,o)::e,f=>yh t fun t=>km v fun v=>GG o fun o=>GI e fun e=>f ((t,v,o)::e)
def K6 {α:Type}:List (AVal×Bool)→(List (AVal×Bool)→α)→α
 | [],f=>f []
 |(v,o)::e,f=>km v fun v=>GG o fun o=>K6 e fun e=>f ((v,o)::e)
def K7 {α:Type}:List (AVal×AVal)→(List (AVal×AVal)→α)→α
 | [],f=>f []
 |(k,v)::e,f=>km k fun k=>km v fun v=>K7 e fun e=>f ((k,v)::e)
def R3 {α:Type}(x:Option je)(f:Option je→α):α:=match x with
 |none=>f En
 |some .normal=>f (I .normal)
 |some (.exit id)=>yh id fun id=>f (I (.exit id))
 |some .ret=>f (I .ret)
def R4 {α:Type}:bg→(bg→α)→α
 | .hole,f=>f .hole
 | .cells cs,f=>K6 cs fun cs=>f (.cells cs)
 | .map es,f=>K7 es fun es=>f (.map es)
 | .iter s pos,f=>yh pos fun pos=>f (.iter s pos)
 | .fU t e l,f=>GH l fun l=>f (.fU t e l)
 | .dead,f=>f .dead
 -- (what a vector holds was forced when it was appended)
 | .vec sz bN xs,f=>yh sz fun sz=>yh bN fun bN=>f (.vec sz bN xs)
 | .loop l,f=>GI l.env fun e=>R3 l.pending fun x=>f (.loop ⟨e,l.params,l.assign,l.body,x⟩)
def K8 {α:Type}:qh→(qh→α)→α
 | [],f=>f []
 |b::h,f=>R4 b fun b=>K8 h fun h=>f (b::h)
def GJ {α:Type}(st:bf)(f:bf→α):α:=GI st.env fun e=>K8 st.heap fun h=>f ⟨e,h⟩
section
variable {α:Type}
theorem pF (n:Nat)(f:Nat→α):yh n f=f n:=by cases n<;>rfl
theorem q6v (n:Int)(f:Int→α):R1 n f=f n:=by cases n<;>simp[R1,pF]
theorem K9 (n:Bool)(f:Bool→α):GG n f=f n:=by cases n<;>rfl
theorem q2c (n:IntKind)(f:IntKind→α):qzk n f=f n:=by cases n<;>rfl
theorem R5:∀ (s:List UInt8) (f:List UInt8→α),GH s f=f s
 | [],_=>rfl
 |c::s,f=>by simp only[GH];rw[R5 s]
theorem jb3 (g:Fn)(f:Fn→α):R2 g f=f g:=by cases g<;>simp[R2,pF]
mutual
theorem GK:∀ (v:AVal) (f:AVal→α),km v f=f v
 | .bool b,f=>by simp only[km,K9]
 | .int k n,f=>by simp only[km,q2c,q6v]
 | .str s,f=>by simp only[km,R5]
 | .list b sz xs,f=>by simp only[km,K9,pF];rw[A0 xs]
 | .ms b o l,f=>by simp only[km,pF]
 | .ptr b o,f=>by simp only[km,pF]
 | .ai v,f=>by simp only[km];rw[GK v]
 | .c8 n,f=>by simp only[km,pF]
 | .b9,f=>by simp only[km]
 | .map b,f=>by simp only[km,pF]
 | .b8,f=>by simp only[km]
 | .fn g a c,f=>by simp only[km,jb3];rw[A0 a,A0 c]
 | .cx,f=>by simp only[km]
 | .agg cs,f=>by simp only[km];rw[A0 cs]
 | .aI cs,f=>by simp only[km];rw[A0 cs]
 | .undef,f=>by simp only[km]
 | .any,f=>by simp only[km]
 | .aj b bN len,f=>by simp only[km,pF]
 | .di b bN off,f=>by simp only[km,pF]
theorem A0:∀ (l:List AVal) (f:List AVal→α),wu l f=f l
 | [],f=>by simp only[wu]
 |x::xs,f=>by simp only[wu];rw[GK x,A0 xs]
end
theorem R6:∀ (e:Env) (f:Env→α),GI e f=f e
 | [],_=>rfl
 |(t,v,o)::e,f=>by simp only[GI,pF,GK,K9];rw[R6 e]
theorem qn8:∀ (e:List (AVal×Bool)) (f:List (AVal×Bool)→α),K6 e f=f e
 | [],_=>rfl
 |(v,o)::e,f=>by simp only[K6,GK,K9];rw[qn8 e]
theorem qkg:∀ (e:List (AVal×AVal)) (f:List (AVal×AVal)→α),K7 e f=f e
 | [],_=>rfl
 |(v,o)::e,f=>by simp only[K7,GK];rw[qkg e]
theorem q3b (x:Option je)(f:Option je→α):R3 x f=f x:=by
 cases x with
 |none=>rfl
 |some x=>cases x<;>simp[R3,pF]
theorem q6p (b:bg)(f:bg→α):R4 b f=f b:=by
 cases b<;>simp[R4,qn8,qkg,pF,R5,R6,q3b,A0]
theorem qol:∀ (h:qh) (f:qh→α),K8 h f=f h
 | [],_=>rfl
 |b::h,f=>by simp only[K8,q6p];rw[qol h]
theorem R7 (st:bf)(f:bf→α):GJ st f=f st:=by simp only[GJ,R6,qol]
end
def iL (p:jz):Nat→XC
 |0,_,_=>En
 |n+1,c,st=>match c with
  | .skip=>I (.normal,st)
  | .region na ops keep=>match mU p (iL p n) na ops keep st with
   |some (x,bZ)=>GJ bZ fun s=>I (x,s)
   |none=>En
  | .seq a b=>match iL p n a st with
   |some (.normal,bZ)=>iL p n b bZ
   |r=>r
  | .cond c a b=>match qi st.env c with
   |some (.bool t)=>bif t then iL p n a st else iL p n b st
   |_=>En
  | .block id body=>match iL p n body st with
   |some (.exit fP,bZ)=>bif G3 fP id then I (.normal,bZ)else I (.exit fP,bZ)
   |r=>r
  | .loop body=>match iL p n body st with
   |some (.normal,bZ)=>GJ (gc st.heap.length bZ) fun s=>iL p n (.loop body) s
   |r=>r
  | .rangeFunc f params assign body=>match mV p (iL p n) f params assign body st with
   |some (x,bZ)=>GJ bZ fun s=>I (x,s)
   |none=>En
  | .exit id=>I (.exit id,st)
  | .ret=>I (.ret,st)
  | .grow sz=>match ji 0 st.env,ji 1 st.env with
   |some (.list E9 _ _,_),I (.int .i64 (.ofNat m),_)=>bif Jn 0 m&&Hb m 1073741824 then I (.normal,{ st with env:=[(0,.list Gd sz [],E9)] })else En
   |_,_=>En
  | .stuck=>En
theorem La (p:jz):∀n,iL p n=jj p n
 |0=>by funext c st;rfl
 |n+1=>by
  have ih:=La p n
  funext c st
  cases c with
  |region na ops keep=>
   simp only[iL,jj,ih]
   cases mU p (jj p n) na ops keep st with
   |none=>rfl
   |some r=>simp only[R7]
  |rangeFunc f ps a b=>
   simp only[iL,jj,ih]
   cases mV p (jj p n) f ps a b st with
   |none=>rfl
   |some r=>simp only[R7]
  |loop body=>
   simp only[iL,jj,ih,R7]
   rfl
  |_=>simp only[iL,jj,ih]<;>rfl
inductive dB where
 |leaf (k:Nat) (f:av)
 |node (m:Nat) (a b:dB)
def dB.find:dB→Nat→Option av
 | .leaf k f,n=>bif G3 k n then I f else En
 | .node m a b,n=>bif Jn n m then a.find n else b.find n
def dB.All (Q:Nat→av→Prop):dB→Prop
 | .leaf k f=>Q k f
 | .node _ a b=>a.All Q∧b.All Q
theorem dB.gh {Q}:∀ {t:dB} {k:Nat} {f:av},t.All Q→t.find k=I f→Q k f
 | .leaf j g,k,f,h,hf=>by
  simp only[dB.find]at hf
  cases hb:G3 j k with
  |false=>simp[hb]at hf
  |true=>
   have:=Ga hb
   subst this
   simp only[hb,cond_true,I.injEq]at hf
   subst hf;exact h
 | .node m a b,k,f,h,hf=>by
  simp only[dB.find]at hf
  cases hb:Jn k m with
  |true=>simp only[hb,cond_true]at hf;exact dB.gh h.1 hf
  |false=>simp only[hb,cond_false]at hf;exact dB.gh h.2 hf
def dB.prog (t:dB)(cO:xE)(maps:P9:=fun _=>En):jz:={ bG:=t.find,cO:=cO,maps:=maps }
theorem jen {p n k args r}(h:qc p (iL p n) k args=r):qc p (jj p n) k args=r:=by
 rw[←La];exact h
def Kw (w:World):Nat→Nat→Option Value:=fun r o=>(w.cell? ⟨r,o,En⟩).filter (·.oneCell')
theorem j5i {w r o v}(h:w.cell? ⟨r,o,En⟩=I v)(h1:v.oneCell'=E9):Kw w r o=I v:=by simp[Kw,h,h1]
theorem q7b {w r o v}(h:Kw w r o=I v):w.cell? ⟨r,o,En⟩=I v∧v.oneCell'=E9:=by
 unfold Kw at h;rw[Option.filter_eq_some_iff]at h;exact h
def qgf (P:Program)(t:TypeId):Bool:=match P.underlying t with
 |some (.struct _)=>E9
 |some (.array _ _)=>E9
 |_=>Gd
def Lb (P:Program):Nat→List Field→Bool
 |_,[]=>E9
 |o,f::fs=>f.offset == o&&Lb P (o+P.cellsOf f.type) fs
def Lc (P:Program)(fs:List Field):Nat:=(fs.map fun f=>P.cellsOf f.type).sum
def rG (P:Program):Nat→TypeId→Bool
 |0,_=>Gd
 |n+1,t=>match P.underlying t with
  |some .bool=>P.cellsOf t == 1
  |some (.int _)=>P.cellsOf t == 1
  |some .string=>P.cellsOf t == 1
  |some (.slice e)=>P.cellsOf t == 1&&rG P n e&&decide (0<P.cellsOf e)
  |some (.struct fs)=>Lb P 0 fs.toList&&Lc P fs.toList == P.cellsOf t&&fs.toList.all fun f=>rG P n f.type
  |some (.array k e)=>P.cellsOf t == k*P.cellsOf e&&rG P n e
  |_=>Gd
def GL (ty:TypeId→List AVal→Prop):List Field→List AVal→Prop
 | [],cs=>cs=[]
 |f::fs,cs=>∃ys zs,cs=ys++zs∧ty f.type ys∧GL ty fs zs
def GM (ty:List AVal→Prop):Nat→List AVal→Prop
 |0,cs=>cs=[]
 |k+1,cs=>∃ys zs,cs=ys++zs∧ty ys∧GM ty k zs
def y9 (P:Program):Nat→TypeId→List AVal→Prop
 |0,_,_=>False
 |n+1,t,cs=>match P.underlying t with
  |some .bool=>∃b,cs=[.bool b]
  |some (.int k)=>∃m,cs=[.int k m]∧(Lit.int k m).wf=E9
  |some .string=>∃s,cs=[.str s]∧s.length≤maxLen
  |some (.slice e)=>cs=[.list E9 0 []]∨∃xs,cs=[.list Gd (P.cellsOf e) xs]∧xs.length≤maxLen∧∀y∈xs,y9 P n e y.flat∧y.isAgg=qgf P e
  |some (.struct fs)=>GL (y9 P n) fs.toList cs
  |some (.array k e)=>GM (y9 P n e) k cs
  |_=>False
section
variable {P:Program}{H:Type}{enc:TypeId×Value→H}{w:World}
theorem qzl:∀ (fs:List Field) (o:Nat) (vs:List Value),Lb P o fs=E9→vs.length=o+Lc P fs→vs.drop o=(fs.map fun f=>(vs.drop f.offset).take (P.cellsOf f.type)).flatten
 | [],o,vs,_,hl=>by simp[Lc]at hl;simp[hl]
 |f::fs,o,vs,ht,hl=>by
  simp only[Lb,Es,beq_iff_eq]at ht
  obtain⟨rfl,ht⟩:=ht
  have ih:=qzl fs _ vs ht (by simp[Lc]at hl ⊢;omega)
  rw[Qe,Je,←ih,←Nn,List.take_append_drop]
theorem DN {α β:Type}{f}:∀ {l:List α} {ys:List β},l.mapM f=I ys→ys.length=l.length∧∀(i:Nat) (x:α),l[i]?=I x→∃y,ys[i]?=I y∧f x=I y
 | [],ys,h=>by simp at h;subst h;simp
 |a::l,ys,h=>by
  rw[List.mapM_cons]at h
  cases hf:f a with
  |none=>simp[hf]at h
  |some y=>
   cases hr:l.mapM f with
   |none=>simp[hf,hr]at h
   |some zs=>
    simp[hf,hr]at h
    subst h
    obtain⟨h1,h2⟩:=DN hr
    refine⟨by simp[h1],fun i x hx=>?_⟩
    cases i with
    |zero=>simp at hx;subst hx;exact⟨y,rfl,hf⟩
    |succ i=>simp at hx;obtain⟨z,h3,h4⟩:=h2 i x hx;exact⟨z,by simpa using h3,h4⟩
theorem q3t {base n a vs}(h:w.cells? base a n=I vs):vs.length=n∧∀(i:Nat) (v:Value),vs[i]?=I v→w.cell? (a.add i)=I v:=by
 unfold World.cells? at h
 split at h
 ·obtain⟨h1,h2⟩:=DN h
  rw[Jf]at h1
  refine⟨h1,fun i v hv=>?_⟩
  have hi:i<n:=by rw[←h1];exact(Ha.1 hv).1
  obtain⟨y,h3,h4⟩:=h2 i i (by rw[Ge hi])
  rw[hv]at h3;cases h3;exact h4
 ·cases h
theorem qxf {ty:TypeId→List AVal→Prop}:∀(fs:List Field) (nx:List (List Value)),nx.length=fs.length→(∀(i:Nat) (f:Field) (vs:List Value),fs[i]?=I f→nx[i]?=I vs→∃cs,aW (.b3 (Kw w)) cs vs∧ty f.type cs)→∃cs,aW (.b3 (Kw w)) cs nx.flatten∧GL ty fs cs
 | [],nx,hl,_=>by
  have:nx=[]:=G4.1 (by simpa using hl)
  subst this
  exact⟨[],.nil,rfl⟩
 |f::fs,[],hl,_=>by simp at hl
 |f::fs,vs::nx,hl,h=>by
  obtain⟨ys,h1,h2⟩:=h 0 f vs rfl rfl
  obtain⟨zs,h3,h4⟩:=qxf fs nx (by simpa using hl) (fun i f' qU hf hv=>h (i+1) f' qU (by simpa using hf) (by simpa using hv))
  exact⟨ys++zs,aW.append h1 h3,ys,zs,rfl,h2,h4⟩
theorem qr1 {ty}:∀(k:Nat) (nx:List (List Value)),nx.length=k→(∀(i:Nat) vs,nx[i]?=I vs→∃cs,aW (.b3 (Kw w)) cs vs∧ty cs)→∃cs,aW (.b3 (Kw w)) cs nx.flatten∧GM ty k cs
 |0,nx,hl,_=>by
  have:nx=[]:=G4.1 hl
  subst this
  exact⟨[],.nil,rfl⟩
 |k+1,[],hl,_=>by simp at hl
 |k+1,vs::nx,hl,h=>by
  obtain⟨ys,h1,h2⟩:=h 0 vs rfl
  obtain⟨zs,h3,h4⟩:=qr1 k nx (by simpa using hl) (fun i qU hv=>h (i+1) qU (by simpa using hv))
  exact⟨ys++zs,aW.append h1 h3,ys,zs,rfl,h2,h4⟩
theorem q7t (n:Nat):∀(k:Nat) (vs:List Value),vs.length=k*n→vs=((Gl k).map fun i=>(vs.drop (i*n)).take n).flatten
 |0,vs,hl=>by
  have:vs=[]:=G4.1 (by simpa using hl)
  simp[this]
 |k+1,vs,hl=>by
  have ih:=q7t n k (vs.drop n) (by simp[hl,Jd])
  rw[List.range_succ_eq_map,Qe,Je,List.map_map]
  have e:(Gl k).map ((fun i=>(vs.drop (i*n)).take n) ∘ Nat.succ)=(Gl k).map fun i=>((vs.drop n).drop (i*n)).take n:=by
   apply List.map_congr_left
   intro i _
   simp only[Function.comp,Nn]
   congr 2
   rw[Jd];omega
  rw[e,←ih]
  simp
theorem R8:∀ {n:Nat} {t:TypeId} {cs:List AVal},y9 P n t cs→∀x∈cs,ql x=E9
 |0,_,_,h=>h.elim
 |n+1,t,cs,h=>by
  have fsc:∀(fs:List Field) (cs:List AVal),GL (y9 P n) fs cs→∀x∈cs,ql x=E9:=by
   intro fs
   induction fs with
   |nil=>intro cs h;simp only[GL]at h;subst h;simp
   |cons f fs ih=>
    rintro cs ⟨ys,zs,rfl,h1,h2⟩ x hx
    rcases L9.1 hx with hx|hx
    ·exact R8 h1 x hx
    ·exact ih _ h2 x hx
  have rsc:∀(e:TypeId) (k:Nat) (cs:List AVal),GM (y9 P n e) k cs→∀x∈cs,ql x=E9:=by
   intro e k
   induction k with
   |zero=>intro cs h;simp only[GM]at h;subst h;simp
   |succ k ih=>
    rintro cs ⟨ys,zs,rfl,h1,h2⟩ x hx
    rcases L9.1 hx with hx|hx
    ·exact R8 h1 x hx
    ·exact ih _ h2 x hx
  simp only[y9]at h
  split at h
  ·obtain⟨b,rfl⟩:=h;simp[ql]
  ·obtain⟨m,rfl,_⟩:=h;simp[ql]
  ·obtain⟨s,rfl,_⟩:=h;simp[ql]
  ·rcases h with rfl|⟨xs,rfl,_⟩<;>simp[ql]
  ·exact fsc _ _ h
  ·exact rsc _ _ _ h
  ·exact h.elim
theorem qv7 {n}{t:TypeId}{cs}(h:y9 P n t cs)(ha:qgf P t=Gd):∃x,cs=[x]∧x.isAgg=Gd:=by
 cases n with
 |zero=>exact h.elim
 |succ n=>
  unfold qgf at ha
  simp only[y9]at h
  split at h
  ·obtain⟨b,rfl⟩:=h;exact⟨_,rfl,rfl⟩
  ·obtain⟨m,rfl,_⟩:=h;exact⟨_,rfl,rfl⟩
  ·obtain⟨s,rfl,_⟩:=h;exact⟨_,rfl,rfl⟩
  ·rcases h with rfl|⟨xs,rfl,_⟩<;>exact⟨_,rfl,rfl⟩
  ·rename_i hu;rw[hu]at ha;cases ha
  ·rename_i hu;rw[hu]at ha;cases ha
  ·exact h.elim
theorem read {held}:∀(n fuel:Nat) (t:TypeId) (vs:List Value) (d:DataW H) (ps:List MemPlace),rG P n t=E9→DataW.trod enc P w 0 (fun _=>E9) held fuel t vs=I (d,ps) →
  ∃cs,aW (.b3 (Kw w)) cs vs∧y9 P n t cs∧cs.length=P.cellsOf t
 |0,_,_,_,_,_,hp,_=>by simp[rG]at hp
 |n+1,0,_,_,_,_,_,h=>by simp[DataW.trod]at h
 |n+1,fuel+1,t,vs,d,ps,hp,h=>by
  simp only[rG]at hp
  simp only[y9]
  simp only[DataW.trod]at h
  cases hu:P.underlying t with
  |none=>simp[hu]at hp
  |some td=>
   rw[hu]at h hp
   cases td with
   |bool=>
    simp only[beq_iff_eq]at hp
    split at h<;>first|cases ‹I _=I _› | skip
    all_goals first|(rename_i heq;cases heq;done)|skip
    ·exact⟨_,.cons _ _ _ _ (.bool _) .nil,⟨_,rfl⟩,by simp[hp]⟩
    ·cases h
   |int k=>
    simp only[beq_iff_eq]at hp
    split at h<;>first|cases ‹I _=I _› | skip
    all_goals first|(rename_i heq;cases heq;done)|skip
    ·split at h
     ·rename_i hk
      obtain⟨rfl,dx⟩:=hk
      exact⟨_,.cons _ _ _ _ (.int _ _) .nil,⟨_,rfl,dx⟩,by simp[hp]⟩
     ·cases h
    ·cases h
   |string=>
    simp only[beq_iff_eq]at hp
    split at h<;>first|cases ‹I _=I _› | skip
    all_goals first|(rename_i heq;cases heq;done)|skip
    ·rename_i s
     split at h
     ·rename_i hk
      refine⟨[.str s.data.toList],.cons _ _ _ _ (aH.str s.data.toList) .nil,⟨_,rfl,?_⟩,by simp[hp]⟩
      simpa using hk
     ·cases h
    ·cases h
   |slice e=>
    simp only[Es,beq_iff_eq,decide_eq_true_eq]at hp
    obtain⟨⟨jZ,Ld⟩,hp3⟩:=hp
    split at h<;>first|cases ‹I _=I _› | skip
    all_goals first|(rename_i heq;cases heq;done)|skip
    ·exact⟨_,.cons _ _ _ _ (.jI 0) .nil,.inl rfl,by simp[jZ]⟩
    ·rename_i a len cap
     split at h
     ·rename_i hk
      obtain⟨_,dx,hk3⟩:=hk
      cases he:(Gl len).mapM (fun i=>(w.cells? 0 (a.add (i*P.cellsOf e)) (P.cellsOf e)).bind (DataW.trod enc P w 0 (fun _=>E9) held fuel e))with
      |none=>simp[he]at h
      |some elems=>
       simp only[he,Jo,if_true]at h
       cases hr:(Gl (cap-len)).mapM (fun j=>(w.cells? 0 (a.add ((len+j)*P.cellsOf e)) (P.cellsOf e)).bind (DataW.trod enc P w 0 (fun _=>E9) held fuel e))with
       |none=>simp[hr]at h
       |some rest=>
        obtain⟨he1,KR⟩:=DN he
        obtain⟨vY,rm⟩:=DN hr
        rw[Jf]at he1 vY
        have GN:0<cap→a.spot=En:=fun hc=>by
         have pG:∃z,(w.cells? 0 (a.add (0*P.cellsOf e)) (P.cellsOf e)).bind (DataW.trod enc P w 0 (fun _=>E9) held fuel e)=I z:=by
          by_cases hl:0<len
          ·obtain⟨y,_,hy⟩:=KR 0 0 (by rw[Ge hl]);exact⟨y,hy⟩
          ·obtain⟨y,_,hy⟩:=rm 0 0 (by rw[Ge (by omega)])
           have Fs:len=0:=by omega
           subst Fs
           exact⟨y,by simpa using hy⟩
         obtain⟨z0,pG⟩:=pG
         cases Le:w.cells? 0 (a.add (0*P.cellsOf e)) (P.cellsOf e)with
         |none=>rw[Le]at pG;cases pG
         |some us0=>
          obtain⟨d1,d2⟩:=q3t Le
          have dK:=d2 0 _ (List.getElem?_eq_getElem (show 0<us0.length by omega))
          have:=World.cell?_spot dK
          simpa[Addr.add]using this
        by_cases hcap:0<cap
        ·have K0:=GN hcap
         obtain⟨r,o,sp⟩:=a
         simp only at K0
         subst K0
         have elem:∀(i:Nat),i<len→∃y:AVal,cy (.b3 (Kw w)) r y.flat (o+i*P.cellsOf e)∧y.flat.length=P.cellsOf e∧y9 P n e y.flat∧y.isAgg=qgf P e:=by
          intro i hi
          obtain⟨z,_,hz⟩:=KR i i (by rw[Ge hi])
          cases hc:w.cells? 0 ((⟨r,o,En⟩:Addr).add (i*P.cellsOf e)) (P.cellsOf e)with
          |none=>simp[hc]at hz
          |some us=>
           simp only[hc,Jo]at hz
           obtain⟨c1,c2⟩:=q3t hc
           obtain⟨cs,k1,k2,k3⟩:=read n fuel e us z.1 z.2 Ld hz
           have dc:=Ao k1 (R8 k2)
           have hcs:cy (.b3 (Kw w)) r cs (o+i*P.cellsOf e):=cy.iG k1 fun j v hj=>by
            have h1:=c2 j v hj
            rw[add_lit,add_lit]at h1
            exact j5i h1 (dc v (G6 hj))
           cases dk:qgf P e with
           |true=>exact⟨.agg cs,hcs,k3,k2,rfl⟩
           |false=>
            obtain⟨x,rfl,hx⟩:=qv7 k2 dk
            have hf:x.flat=[x]:=qbv hx
            exact⟨x,by rw[hf];exact hcs,by rw[hf];exact k3,by rw[hf];exact k2,hx⟩
         have rows:∀(m:Nat) (q:Nat),q+m=len→∃ys:List AVal,ys.length=m∧bA (.b3 (Kw w)) r (P.cellsOf e) ys (o+q*P.cellsOf e)∧∀y∈ys,y9 P n e y.flat∧y.isAgg=qgf P e:=by
          intro m
          induction m with
          |zero=>intro q _;exact⟨[],rfl,.fL _ _ _,by simp⟩
          |succ m ih=>
           intro q hq
           obtain⟨ys,y1,y2,y3⟩:=ih (q+1) (by omega)
           obtain⟨y,z1,z2,z3⟩:=elem q (by omega)
           refine⟨y::ys,by simp[y1],.dA _ _ _ _ _ z2 z1 ?_,?_⟩
           ·rw[show o+q*P.cellsOf e+P.cellsOf e=o+(q+1)*P.cellsOf e from by rw[Jd];omega];exact y2
           ·intro x hx
            rcases Np.1 hx with rfl|hx
            ·exact z3
            ·exact y3 x hx
         obtain⟨ys,y1,y2,y3⟩:=rows len 0 (by omega)
         rw[Nat.zero_mul,Nat.add_zero]at y2
         subst y1
         exact⟨_,.cons _ _ _ _ (.list (P.cellsOf e) ys r o cap dx y2) .nil,.inr ⟨ys,rfl,by omega,y3⟩,by simp[jZ]⟩
        ·have Le:cap=0:=by omega
         have Fs:len=0:=by omega
         subst Le;subst Fs
         by_cases mH:a.spot=En
         ·obtain⟨r,o,sp⟩:=a
          simp only at mH
          subst mH
          exact⟨_,.cons _ _ _ _ (.list (P.cellsOf e) [] r o 0 (by simp) (.fL _ _ _)) .nil,.inr ⟨[],rfl,by simp,by simp⟩,by simp[jZ]⟩
         ·exact⟨_,.cons _ _ _ _ (.jJ (P.cellsOf e) a mH) .nil,.inr ⟨[],rfl,by simp,by simp⟩,by simp[jZ]⟩
     ·cases h
    ·cases h
   |struct fs=>
    simp only[Es,beq_iff_eq,List.all_eq_true]at hp
    obtain⟨⟨jZ,Ld⟩,hp3⟩:=hp
    change (if vs.length=P.cellsOf t then(fs.toList.mapM fun f=>DataW.trod enc P w 0 (fun _=>E9) held fuel f.type ((vs.drop f.offset).take (P.cellsOf f.type))).map fun xs=>(DataW.agg (xs.map (·.1)),xs.flatMap (·.2))else En)=I (d,ps)at h
    ·split at h
     ·rename_i hl
      cases hm:fs.toList.mapM (fun f=>DataW.trod enc P w 0 (fun _=>E9) held fuel f.type ((vs.drop f.offset).take (P.cellsOf f.type)))with
      |none=>simp[hm]at h
      |some zs=>
       obtain⟨m1,m2⟩:=DN hm
       have A1:=qzl fs.toList 0 vs jZ (by omega)
       obtain⟨cs,k1,k2⟩:=qxf (w:=w) (ty:=y9 P n) fs.toList (fs.toList.map fun f=>(vs.drop f.offset).take (P.cellsOf f.type)) (by simp) (fun i f us hf hv=>by
        obtain⟨z,_,hz⟩:=m2 i f hf
        have gV:us=(vs.drop f.offset).take (P.cellsOf f.type):=by
         rw[Jg,hf]at hv
         simpa using hv.symm
        subst gV
        obtain⟨cs,q1,q2,_⟩:=read n fuel f.type _ z.1 z.2 (hp3 f (G6 hf)) hz
        exact⟨cs,q1,q2⟩)
       rw[←A1]at k1
       exact⟨cs,by simpa using k1,k2,by have:=k1.length;simp at this;omega⟩
     ·cases h
   |array k e=>
    simp only[Es,beq_iff_eq]at hp
    obtain⟨jZ,Ld⟩:=hp
    change (if vs.length=P.cellsOf t then((Gl k).mapM fun i=>DataW.trod enc P w 0 (fun _=>E9) held fuel e ((vs.drop (i*P.cellsOf e)).take (P.cellsOf e))).map fun xs=>(DataW.agg (xs.map (·.1)),xs.flatMap (·.2))else En)=I (d,ps)at h
    ·split at h
     ·rename_i hl
      cases hm:(Gl k).mapM (fun i=>DataW.trod enc P w 0 (fun _=>E9) held fuel e ((vs.drop (i*P.cellsOf e)).take (P.cellsOf e)))with
      |none=>simp[hm]at h
      |some zs=>
       obtain⟨m1,m2⟩:=DN hm
       have A1:=q7t (P.cellsOf e) k vs (by omega)
       obtain⟨cs,k1,k2⟩:=qr1 (w:=w) (ty:=y9 P n e) k ((Gl k).map fun i=>(vs.drop (i*P.cellsOf e)).take (P.cellsOf e)) (by simp) (fun i us hv=>by
        have hi:i<k:=by
         have:=(Ha.1 hv).1
         simpa using this
        obtain⟨z,_,hz⟩:=m2 i i (by rw[Ge hi])
        have gV:us=(vs.drop (i*P.cellsOf e)).take (P.cellsOf e):=by
         rw[Jg,Ge hi]at hv
         simpa using hv.symm
        subst gV
        obtain⟨cs,q1,q2,_⟩:=read n fuel e _ z.1 z.2 Ld hz
        exact⟨cs,q1,q2⟩)
       rw[←A1]at k1
       exact⟨cs,k1,k2,by have:=k1.length;omega⟩
     ·cases h
   |_=>simp at hp
end
open Go.ChangeShapes Go.WideShapes Go.ChangeAt Go.RowKit
section
variable {P:Program}{H:Type}{enc:TypeId×Value→H}{w:World}
def jdd (P:Program)(n:Nat)(t:TypeId)(x:AVal):Prop:=y9 P n t x.flat∧x.isAgg=qgf P t
def qnc (P:Program)(n:Nat):List TypeId→List AVal→Prop
 | [],xs=>xs=[]
 |t::ts,xs=>∃y ys,xs=y::ys∧jdd P n t y∧qnc P n ts ys
theorem jom {n}{t:TypeId}{v d ps base}(hp:rG P n t=E9)(hv:Value.okWide P w .any base t v)(h:DataW.Trod enc P w 0 (fun _=>E9) E9 t v d ps):∃x,bT (.b3 (Kw w)) x v∧jdd P n t x:=by
 obtain⟨fuel,hf⟩:=h
 obtain⟨cs,k1,k2,k3⟩:=read n fuel t _ d ps hp hf
 cases dk:qgf P t with
 |true=>
  have F3:∃cells,v=.agg cells:=by
   unfold qgf at dk
   unfold Value.okWide at hv
   split at dk
   ·rename_i fs hu;rw[hu]at hv;obtain⟨c,hc,_⟩:=hv;exact⟨c,hc⟩
   ·rename_i a b hu;rw[hu]at hv;obtain⟨c,hc,_⟩:=hv;exact⟨c,hc⟩
   ·cases dk
  obtain⟨cells,rfl⟩:=F3
  exact⟨.agg cs,.agg cs cells.toList k1,k2,dk.symm⟩
 |false=>
  obtain⟨x,rfl,hx⟩:=qv7 k2 dk
  have F3:v.cells.toList=[v]:=by
   cases v with
   |agg c=>
    exfalso
    unfold Value.okWide at hv
    unfold qgf at dk
    cases n with
    |zero=>simp[rG]at hp
    |succ n=>
     simp only[rG]at hp
     cases hu:P.underlying t with
     |none=>rw[hu]at hp;cases hp
     |some td=>rw[hu]at hp hv dk;cases td<;>first|(simp at hp;done)|(simp at dk;done)|(simp[Cell.okWide,hu,Cell.ok]at hv;done)
   |_=>rfl
  rw[F3]at k1
  cases k1 with
  |cons _ _ _ _ h1 _=>exact⟨x,h1,by rw[qbv hx];exact k2,by rw[hx,dk]⟩
theorem q7r {n}:∀ {ts:List TypeId} {vs:List Value} {ds:List (DataW H)} {ps:List MemPlace},ts.all (rG P n)=E9→(∀(j:Nat) t v,ts[j]?=I t→vs[j]?=I v→∃base,Value.okWide P w .any base t v)→DataW.TrodAll enc P w 0 (fun _=>E9) E9 ts vs ds ps →
  ds.length=ts.length∧∃xs,aW (.b3 (Kw w)) xs vs∧qnc P n ts xs
 | [],[],[],ps,_,_,_=>⟨rfl,[],.nil,rfl⟩
 | [],[],_::_,ps,_,_,h=>by simp[DataW.TrodAll]at h
 | [],_::_,_,ps,_,_,h=>by simp[DataW.TrodAll]at h
 |_::_,[],_,ps,_,_,h=>by simp[DataW.TrodAll]at h
 |_::_,_::_,[],ps,_,_,h=>by simp[DataW.TrodAll]at h
 |t::ts,v::vs,d::ds,ps,hp,hv,h=>by
  obtain⟨p,q,h1,h2,_⟩:=h
  simp only[Qn,Es]at hp
  obtain⟨base,hb⟩:=hv 0 t v rfl rfl
  obtain⟨x,k1,k2⟩:=jom hp.1 hb h1
  obtain⟨hl,xs,k3,k4⟩:=q7r hp.2 (fun j t' v' ht vb=>hv (j+1) t' v' (by simpa using ht) (by simpa using vb)) h2
  exact⟨by simp[hl],x::xs,.cons _ _ _ _ k1 k3,x,xs,rfl,k2,k4⟩
theorem Ext.frame {w'}(h:Ext w w')(may:MemPlace→Prop):w.keptBut w' may:=by
 refine⟨h.os,h.output,fun i hi=>?_⟩
 rw[h.same i hi]
 split<;>simp_all
theorem Ext.sameAt {w'}(h:Ext w w'){p}(hp:p.block<w.heap.size):w.sameAt w' p:=by
 cases p with
 |cell b o=>exact World.cell?_of_block (w:=w) (h.same b hp)
 |map b=>exact h.same b hp
theorem q3a {w'}(hx:Ext w w')(hl:laidOutB P=E9):∀ {ts:List TypeId} {vs:List Value} {ds:List (DataW H)} {ps:List MemPlace},ts.all (fun t=>P.readableRec t&&decide (t<P.types.size))=E9→DataW.TrodAll enc P w 0 (fun _=>E9) E9 ts vs ds ps →
  DataW.TrodAll enc P w' 0 (fun b=>decide (b<w.heap.size)) E9 ts vs ds ps
 | [],[],[],ps,_,h=>h
 | [],[],_::_,ps,_,h=>by simp[DataW.TrodAll]at h
 | [],_::_,_,ps,_,h=>by simp[DataW.TrodAll]at h
 |_::_,[],_,ps,_,h=>by simp[DataW.TrodAll]at h
 |_::_,_::_,[],ps,_,h=>by simp[DataW.TrodAll]at h
 |t::ts,v::vs,d::ds,ps,hr,h=>by
  obtain⟨p,q,h1,h2,h3⟩:=h
  simp only[Qn,Es,decide_eq_true_eq]at hr
  have bz:∀x∈p,x.block<w.heap.size:=by obtain⟨m,hm⟩:=h1;exact DataW.trod_lt m _ _ _ hm
  exact⟨p,q,WideElems.Trod_stays hl hr.1.1 hr.1.2 h1 (fun x hm=>hx.sameAt (bz x hm)) (fun x hm=>by simpa using bz x hm),q3a hx hl hr.2 h2,h3⟩
end
def oP (f g:XC):Prop:=∀c st r,f c st=I r→g c st=I r
section
variable {p:jz}{f g:XC}
theorem q0p (h:oP f g){af args hp r}(hr:pv f af args hp=I r):pv g af args hp=I r:=by
 unfold pv at *
 cases hb:Hb args.length af.ntmps with
 |false=>simp[hb]at hr
 |true=>
  simp only[hb,cond_true]at hr ⊢
  split at hr
  ·rename_i st cr;rw[h _ _ _ cr];exact hr
  ·rename_i st cr;rw[h _ _ _ cr];exact hr
  ·cases hr
theorem R9 (h:oP f g){k args hp r}(hr:qm p f k args hp=I r):qm p g k args hp=I r:=by
 unfold qm at *
 split at hr
 ·exact q0p h hr
 ·exact hr
theorem Sb (h:oP f g){k args r}(hr:qc p f k args=I r):qc p g k args=I r:=by
 unfold qc at *
 split at hr
 ·exact hr
 ·split at hr
  ·rename_i v o hh hc;rw[R9 h hc];exact hr
  ·cases hr
theorem q3q (h:oP f g){b args hp r}(hr:kG f b args hp=I r):kG g b args hp=I r:=by
 unfold kG at *
 split at hr
 ·split at hr
  ·split at hr
   ·rename_i st cr
    rw[h _ _ _ cr]
    simp only[]
    split at hr
    ·rename_i l1 ig
     cases jZ:l1.pending.isNone with
     |false=>simp[jZ]at hr
     |true=>
      simp only[jZ,cond_true]at hr ⊢
      split at hr
      ·rename_i x bZ iw
       rw[h _ _ _ iw]
       exact hr
      ·cases hr
    ·cases hr
   ·cases hr
  ·cases hr
 ·cases hr
theorem q0m (h:oP f g){h0 e hp md x l r}(hr:yt p f h0 e hp md x l=I r):yt p g h0 e hp md x l=I r:=by
 unfold yt at *
 split at hr
 ·cases md with
  |b3=>
   simp only[]at hr ⊢
   rename_i k first captured vs _ _
   cases hb:qw 0 (first++vs++captured)with
   |false=>rw[hb]at hr;cases hr
   |true=>
    rw[hb]at hr
    simp only[cond_true]at hr ⊢
    split at hr
    ·rename_i v o hc;rw[Sb h hc];exact hr
    ·cases hr
  |red=>
   simp only[]at hr ⊢
   split at hr
   ·rename_i us hf
    cases hb:qw 0 us with
    |false=>rw[hb]at hr;cases hr
    |true=>
     rw[hb]at hr
     simp only[cond_true]at hr ⊢
     split at hr
     ·rename_i v o hc;rw[Sb h hc];exact hr
     ·cases hr
   ·cases hr
  |fJ _=>
   simp only[]at hr ⊢
   rename_i k first captured vs _ _ _
   cases he:(first++vs++captured).isEmpty with
   |true=>rw[he]at hr;exact hr
   |false=>
    rw[he]at hr
    simp only[cond_false]at hr ⊢
    cases hb:qw 0 (first++vs++captured)with
    |false=>rw[hb]at hr;cases hr
    |true=>
     rw[hb]at hr
     simp only[cond_true]at hr ⊢
     split at hr
     ·rename_i v o hc;rw[Sb h hc];exact hr
     ·cases hr
  |shr=>
   simp only[]at hr ⊢
   split at hr
   ·rename_i v o hh hc;rw[R9 h hc];exact hr
   ·cases hr
 ·cases md with
  |shr=>
   simp only[]at hr ⊢
   split at hr
   ·rename_i v hh hc;rw[q3q h hc];exact hr
   ·cases hr
  |_=>simp at hr
 ·cases hr
theorem q62 (h:oP f g){h0 al e hp op r}(hr:qf p f h0 al e hp op=I r):qf p g h0 al e hp op=I r:=by
 cases op with
 |call md x l=>exact q0m h hr
 |append rk sz b x y=>cases rk<;>exact hr
 |cu rk sz b z n c=>cases rk<;>exact hr
 |_=>exact hr
theorem qog (h:oP f g){h0 o st bZ}(hr:yu p f h0 o st=I bZ):yu p g h0 o st=I bZ:=by
 unfold yu at *
 split at hr
 ·split at hr
  ·rename_i r hs;rw[q62 h hs];exact hr
  ·cases hr
 ·exact hr
 ·cases hr
theorem Sc (h:oP f g){h0}:∀ {l:List cf} {st bZ:bf},fW p f h0 l st=I bZ→fW p g h0 l st=I bZ
 | [],_,_,hr=>hr
 |o::l,st,bZ,hr=>by
  simp only[fW]at hr ⊢
  split at hr
  ·rename_i s1 h1;rw[qog h h1];exact Sc h hr
  ·cases hr
theorem qow (h:oP f g){na l k st r}(hr:mU p f na l k st=I r):mU p g na l k st=I r:=by
 unfold mU at *
 split at hr
 ·rename_i s1 h1;rw[Sc h h1];exact hr
 ·cases hr
theorem qsg (h:oP f g){x ps a b st r}(hr:mV p f x ps a b st=I r):mV p g x ps a b st=I r:=by
 unfold mV at *
 cases hn:(zu a&&zu b)with
 |false=>simp[hn]at hr
 |true=>
  simp only[hn,cond_true]at hr ⊢
  split at hr
  ·split at hr
   ·rename_i v o hh hc;rw[R9 h hc];exact hr
   ·cases hr
  ·cases hr
end
theorem qwz (p:jz):∀n,oP (jj p n) (jj p (n+1))
 |0=>fun c st r h=>by simp[jj]at h
 |n+1=>by
  have ih:=qwz p n
  intro c st r h
  cases c with
  |region na l k=>simp only[jj]at h ⊢;exact qow ih h
  |rangeFunc f ps a b=>simp only[jj]at h ⊢;exact qsg ih h
  |seq a b=>
   rw[jj]at h ⊢
   split at h
   ·rename_i iy h1
    rw[ih _ _ _ h1];exact ih _ _ _ h
   ·rename_i bL
    rw[ih _ _ _ h]
    split
    ·rename_i iy h1;cases h1;exact absurd h (bL _)
    ·rfl
  |cond c a b=>
   rw[jj]at h ⊢
   split at h
   ·rename_i t ht
    cases t
    ·simp only[cond_false]at h ⊢;exact ih _ _ _ h
    ·simp only[cond_true]at h ⊢;exact ih _ _ _ h
   ·cases h
  |block id b=>
   rw[jj]at h ⊢
   split at h
   ·rename_i fP iy h1
    rw[ih _ _ _ h1];exact h
   ·rename_i bL
    rw[ih _ _ _ h]
    split
    ·rename_i fP iy h1;cases h1;exact absurd h (bL _ _)
    ·rfl
  |loop b=>
   rw[jj]at h ⊢
   split at h
   ·rename_i iy h1
    rw[ih _ _ _ h1];exact ih _ _ _ h
   ·rename_i bL
    rw[ih _ _ _ h]
    split
    ·rename_i iy h1;cases h1;exact absurd h (bL _)
    ·rfl
  |_=>exact h
theorem vf (p:jz){n m}(h:n≤m):oP (jj p n) (jj p m):=by
 induction h with
 |refl=>exact fun _ _ _ h=>h
 |step _ ih=>exact fun c st r hr=>qwz p _ c st r (ih c st r hr)
open Classical in
noncomputable def X (p:jz):XC:=fun c st=>if h:∃r n,jj p n c st=I r then I (Classical.choose h)else En
theorem yz {p c st r}:X p c st=I r↔∃n,jj p n c st=I r:=by
 unfold X
 constructor
 ·intro h
  split at h
  ·rename_i hh
   cases h
   exact Classical.choose_spec hh
  ·cases h
 ·rintro ⟨n,hn⟩
  have hh:∃r n,jj p n c st=I r:=⟨r,n,hn⟩
  rw[dif_pos hh]
  obtain⟨m,hm⟩:=Classical.choose_spec hh
  have h1:=vf p (G2 n m) _ _ _ hn
  have h2:=vf p (Gm n m) _ _ _ hm
  rw[h1]at h2
  exact h2.symm
theorem pH {p}(n:Nat):oP (jj p n) (X p):=fun _ _ _ h=>yz.2 ⟨n,h⟩
section
variable {p:jz}
theorem q1q {af args hp r}(hr:pv (X p) af args hp=I r):∃n,pv (jj p n) af args hp=I r:=by
 have hr0:=hr
 unfold pv at hr
 cases hb:Hb args.length af.ntmps with
 |false=>simp[hb]at hr
 |true=>
  simp only[hb,cond_true]at hr
  have key:∀ {r'},X p af.body ⟨oH 0 args,hp⟩=I r'→∃n,pv (jj p n) af args hp=I r:=by
   intro r' h
   obtain⟨n,hn⟩:=yz.1 h
   refine⟨n,?_⟩
   unfold pv
   rw[hb,hn]
   rw[h]at hr
   exact hr
  split at hr
  ·rename_i st cr;exact key cr
  ·rename_i st cr;exact key cr
  ·cases hr
theorem Sd {k args hp r}(hr:qm p (X p) k args hp=I r):∃n,qm p (jj p n) k args hp=I r:=by
 unfold qm at *
 cases h:p.bG k with
 |none=>rw[h]at hr;exact⟨0,hr⟩
 |some f=>rw[h]at hr;exact q1q hr
theorem Lf {k args r}(hr:qc p (X p) k args=I r):∃n,qc p (jj p n) k args=I r:=by
 unfold qc at *
 cases h:p.cO k with
 |some f=>rw[h]at hr;exact⟨0,hr⟩
 |none=>
  rw[h]at hr
  simp only[]at hr ⊢
  split at hr
  ·rename_i v o hh hc
   obtain⟨n,hn⟩:=Sd hc
   exact⟨n,by rw[hn];exact hr⟩
  ·cases hr
theorem q57 {b args hp r}(hr:kG (X p) b args hp=I r):∃n,kG (jj p n) b args hp=I r:=by
 unfold kG at hr
 split at hr
 ·rename_i l hl
  split at hr
  ·rename_i e wo hse
   split at hr
   ·rename_i st cr
    split at hr
    ·rename_i l1 ig
     cases jZ:l1.pending.isNone with
     |false=>simp[jZ]at hr
     |true=>
      simp only[jZ,cond_true]at hr
      split at hr
      ·rename_i x bZ iw
       obtain⟨n,hn⟩:=yz.1 cr
       obtain⟨m,hm⟩:=yz.1 iw
       refine⟨max n m,?_⟩
       have h1:=vf p (G2 n m) _ _ _ hn
       have h2:=vf p (Gm n m) _ _ _ hm
       simp only[kG,hl,wo,hse,h1,ig,jZ,cond_true,h2]
       exact hr
      ·cases hr
    ·cases hr
   ·cases hr
  ·cases hr
 ·cases hr
theorem q27 {h0 e hp md x l r}(hr:yt p (X p) h0 e hp md x l=I r):∃n,yt p (jj p n) h0 e hp md x l=I r:=by
 unfold yt at hr
 split at hr
 ·rename_i k first captured vs e1 e2
  cases md with
  |b3=>
   simp only[]at hr
   cases hb:qw 0 (first++vs++captured)with
   |false=>rw[hb]at hr;cases hr
   |true=>
    rw[hb]at hr
    simp only[cond_true]at hr
    split at hr
    ·rename_i v o hc
     obtain⟨n,hn⟩:=Lf hc
     refine⟨n,?_⟩
     simp only[yt,e1,e2,hn]
     rw[hb]
     exact hr
    ·cases hr
  |red=>
   simp only[]at hr
   split at hr
   ·rename_i us hf
    cases hb:qw 0 us with
    |false=>rw[hb]at hr;cases hr
    |true=>
     rw[hb]at hr
     simp only[cond_true]at hr
     split at hr
     ·rename_i v o hc
      obtain⟨n,hn⟩:=Lf hc
      refine⟨n,?_⟩
      simp only[yt,e1,e2,hf,hn]
      rw[hb]
      exact hr
     ·cases hr
   ·cases hr
  |fJ _=>
   simp only[]at hr
   cases he:(first++vs++captured).isEmpty with
   |true=>exact⟨0,by simp only[yt,e1,e2,he];rw[he]at hr;exact hr⟩
   |false=>
    rw[he]at hr
    simp only[cond_false]at hr
    cases hb:qw 0 (first++vs++captured)with
    |false=>rw[hb]at hr;cases hr
    |true=>
     rw[hb]at hr
     simp only[cond_true]at hr
     split at hr
     ·rename_i v o hc
      obtain⟨n,hn⟩:=Lf hc
      refine⟨n,?_⟩
      simp only[yt,e1,e2,hn]
      rw[he,hb]
      exact hr
     ·cases hr
  |shr=>
   simp only[]at hr
   split at hr
   ·rename_i v o hh hc
    obtain⟨n,hn⟩:=Sd hc
    refine⟨n,?_⟩
    simp only[yt,e1,e2,hn]
    exact hr
   ·cases hr
 ·rename_i b vs e1 e2
  cases md with
  |shr=>
   simp only[]at hr
   split at hr
   ·rename_i v hh hc
    obtain⟨n,hn⟩:=q57 hc
    refine⟨n,?_⟩
    simp only[yt,e1,e2,hn]
    exact hr
   ·cases hr
  |_=>simp at hr
 ·cases hr
theorem q8r {h0 al e hp op r}(hr:qf p (X p) h0 al e hp op=I r):∃n,qf p (jj p n) h0 al e hp op=I r:=by
 cases op with
 |call md x l=>exact q27 hr
 |append rk sz b x y=>cases rk<;>exact⟨0,hr⟩
 |cu rk sz b z n c=>cases rk<;>exact⟨0,hr⟩
 |_=>exact⟨0,hr⟩
theorem q2d {h0 o st bZ}(hr:yu p (X p) h0 o st=I bZ):∃n,yu p (jj p n) h0 o st=I bZ:=by
 unfold yu at *
 cases hg:mT st.env o.guard with
 |none=>simp[hg]at hr
 |some b=>
  rw[hg]at hr
  cases b with
  |false=>exact⟨0,hr⟩
  |true=>
   simp only[]at hr ⊢
   split at hr
   ·rename_i r hs
    obtain⟨n,hn⟩:=q8r hs
    exact⟨n,by rw[hn];exact hr⟩
   ·cases hr
theorem q2j {h0}:∀ {l:List cf} {st bZ:bf},fW p (X p) h0 l st=I bZ→∃n,fW p (jj p n) h0 l st=I bZ
 | [],_,_,hr=>⟨0,hr⟩
 |o::l,st,bZ,hr=>by
  simp only[fW]at hr
  split at hr
  ·rename_i s1 h1
   obtain⟨n,hn⟩:=q2d h1
   obtain⟨m,hm⟩:=q2j hr
   refine⟨max n m,?_⟩
   simp only[fW]
   rw[qog (vf p (G2 n m)) hn]
   exact Sc (vf p (Gm n m)) hm
  ·cases hr
theorem q58 {na l k st r}(hr:mU p (X p) na l k st=I r):∃n,mU p (jj p n) na l k st=I r:=by
 unfold mU at hr
 split at hr
 ·rename_i s1 h1
  obtain⟨n,hn⟩:=q2j h1
  exact⟨n,by unfold mU;rw[hn];exact hr⟩
 ·cases hr
theorem q9h {x ps a b st r}(hr:mV p (X p) x ps a b st=I r):∃n,mV p (jj p n) x ps a b st=I r:=by
 unfold mV at hr
 cases hn:(zu a&&zu b)with
 |false=>simp[hn]at hr
 |true=>
  simp only[hn,cond_true]at hr
  split at hr
  ·rename_i k first captured eM
   split at hr
   ·rename_i v o hh hc
    obtain⟨n,jD⟩:=Sd hc
    refine⟨n,?_⟩
    unfold mV
    rw[hn,eM]
    simp only[cond_true]
    rw[jD]
    exact hr
   ·cases hr
  ·cases hr
theorem A2 {α:Type}{x y:Option α}(h1:∀r,x=I r→y=I r)(h2:∀r,y=I r→x=I r):x=y:=by
 cases x with
 |none=>
  cases y with
  |none=>rfl
  |some r=>exact(h2 r rfl)
 |some r=>exact(h1 r rfl).symm
theorem jw0 {st}:X p .skip st=I (.normal,st):=yz.2 ⟨1,rfl⟩
theorem jrn {id st}:X p (.exit id) st=I (.exit id,st):=yz.2 ⟨1,rfl⟩
theorem j0d {st}:X p .ret st=I (.ret,st):=yz.2 ⟨1,rfl⟩
theorem jj3 {na:Nat}{l:List cf}{k st}:X p (.region na l k) st=mU p (X p) na l k st:=by
 refine A2 (fun r h=>?_) (fun r h=>?_)
 ·obtain⟨n,hn⟩:=yz.1 h
  cases n with
  |zero=>simp[jj]at hn
  |succ n=>simp only[jj]at hn;exact qow (pH n) hn
 ·obtain⟨n,hn⟩:=q58 h
  exact yz.2 ⟨n+1,by simp only[jj];exact hn⟩
theorem Se {x:js}{ps:List Nat}{a b st}:X p (.rangeFunc x ps a b) st=mV p (X p) x ps a b st:=by
 refine A2 (fun r h=>?_) (fun r h=>?_)
 ·obtain⟨n,hn⟩:=yz.1 h
  cases n with
  |zero=>simp[jj]at hn
  |succ n=>simp only[jj]at hn;exact qsg (pH n) hn
 ·obtain⟨n,hn⟩:=q9h h
  exact yz.2 ⟨n+1,by simp only[jj];exact hn⟩
theorem j8a {a b:aw}{st:bf}:X p (.seq a b) st=match X p a st with
  |some (.normal,bZ)=>X p b bZ
  |r=>r:=by
 refine A2 (fun r h=>?_) (fun r h=>?_)
 ·obtain⟨n,hn⟩:=yz.1 h
  cases n with
  |zero=>simp[jj]at hn
  |succ n=>
   rw[jj]at hn
   split at hn
   ·rename_i iy h1;rw[pH n _ _ _ h1];exact pH n _ _ _ hn
   ·rename_i bL
    rw[pH n _ _ _ hn]
    split
    ·rename_i iy h1;cases h1;exact absurd hn (bL _)
    ·rfl
 ·split at h
  ·rename_i iy h1
   obtain⟨n,hn⟩:=yz.1 h1
   obtain⟨m,hm⟩:=yz.1 h
   refine yz.2 ⟨max n m+1,?_⟩
   rw[jj,vf p (G2 n m) _ _ _ hn]
   exact vf p (Gm n m) _ _ _ hm
  ·rename_i bL
   obtain⟨n,hn⟩:=yz.1 h
   refine yz.2 ⟨n+1,?_⟩
   rw[jj,hn]
   split
   ·rename_i iy h1;cases h1;exact absurd h (bL _)
   ·rfl
theorem jxd {c:js}{a b:aw}{st}:X p (.cond c a b) st=match qi st.env c with
  |some (.bool t)=>bif t then X p a st else X p b st
  |_=>En:=by
 refine A2 (fun r h=>?_) (fun r h=>?_)
 ·obtain⟨n,hn⟩:=yz.1 h
  cases n with
  |zero=>simp[jj]at hn
  |succ n=>
   rw[jj]at hn
   split at hn
   ·rename_i t ht
    rw[ht]
    cases t
    ·simp only[cond_false]at hn ⊢;exact pH n _ _ _ hn
    ·simp only[cond_true]at hn ⊢;exact pH n _ _ _ hn
   ·cases hn
 ·split at h
  ·rename_i t ht
   cases t
   ·simp only[cond_false]at h
    obtain⟨n,hn⟩:=yz.1 h
    exact yz.2 ⟨n+1,by rw[jj,ht];exact hn⟩
   ·simp only[cond_true]at h
    obtain⟨n,hn⟩:=yz.1 h
    exact yz.2 ⟨n+1,by rw[jj,ht];exact hn⟩
  ·cases h
theorem joe {id:Nat}{b:aw}{st}:X p (.block id b) st=match X p b st with
  |some (.exit fP,bZ)=>bif G3 fP id then I (.normal,bZ)else I (.exit fP,bZ)
  |r=>r:=by
 refine A2 (fun r h=>?_) (fun r h=>?_)
 ·obtain⟨n,hn⟩:=yz.1 h
  cases n with
  |zero=>simp[jj]at hn
  |succ n=>
   rw[jj]at hn
   split at hn
   ·rename_i fP iy h1;rw[pH n _ _ _ h1];exact hn
   ·rename_i bL
    rw[pH n _ _ _ hn]
    split
    ·rename_i fP iy h1;cases h1;exact absurd hn (bL _ _)
    ·rfl
 ·split at h
  ·rename_i fP iy h1
   obtain⟨n,hn⟩:=yz.1 h1
   exact yz.2 ⟨n+1,by rw[jj,hn];exact h⟩
  ·rename_i bL
   obtain⟨n,hn⟩:=yz.1 h
   refine yz.2 ⟨n+1,?_⟩
   rw[jj,hn]
   split
   ·rename_i fP iy h1;cases h1;exact absurd h (bL _ _)
   ·rfl
theorem jqq {b:aw}{st:bf}:X p (.loop b) st=match X p b st with
  |some (.normal,bZ)=>X p (.loop b) (gc st.heap.length bZ)
  |r=>r:=by
 refine A2 (fun r h=>?_) (fun r h=>?_)
 ·obtain⟨n,hn⟩:=yz.1 h
  cases n with
  |zero=>simp[jj]at hn
  |succ n=>
   rw[jj]at hn
   split at hn
   ·rename_i iy h1;rw[pH n _ _ _ h1];exact pH n _ _ _ hn
   ·rename_i bL
    rw[pH n _ _ _ hn]
    split
    ·rename_i iy h1;cases h1;exact absurd hn (bL _)
    ·rfl
 ·split at h
  ·rename_i iy h1
   obtain⟨n,hn⟩:=yz.1 h1
   obtain⟨m,hm⟩:=yz.1 h
   refine yz.2 ⟨max n m+1,?_⟩
   rw[jj,vf p (G2 n m) _ _ _ hn]
   exact vf p (Gm n m) _ _ _ hm
  ·rename_i bL
   obtain⟨n,hn⟩:=yz.1 h
   refine yz.2 ⟨n+1,?_⟩
   rw[jj,hn]
   split
   ·rename_i iy h1;cases h1;exact absurd h (bL _)
   ·rfl
theorem jwj {sz:Nat}{st:bf}:X p (.grow sz) st=match ji 0 st.env,ji 1 st.env with
   |some (.list E9 _ _,_),I (.int .i64 (.ofNat m),_)=>bif Jn 0 m&&Hb m 1073741824 then I (.normal,{ st with env:=[(0,.list Gd sz [],E9)] })else En
   |_,_=>En:=by
 refine A2 (fun r h=>?_) (fun r h=>?_)
 ·obtain⟨n,hn⟩:=yz.1 h
  cases n with
  |zero=>simp[jj]at hn
  |succ n=>simp only[jj]at hn;exact hn
 ·exact yz.2 ⟨1,by simp only[jj];exact h⟩
theorem q4n {P}(eA:b6 P p){k args v ow}(h:qc p (X p) k args=I (v,ow))(hb:qw 0 args=E9):IsoCall P k args v ow:=by
 obtain⟨n,hn⟩:=Lf h
 exact q66 eA hn hb
end
inductive gZ where
 |code (c:aw)
 |seq (a b:gZ)
 |cond (c:js) (a b:gZ)
 |block (id:Nat) (b:gZ)
 |loop (b:gZ)
 |AJ (s:Nat) (c:gZ)
 |shut (s sz:Nat) (c:gZ)
def gZ.erase:gZ→aw
 | .code c=>c
 | .seq a b=>.seq a.erase b.erase
 | .cond c a b=>.cond c a.erase b.erase
 | .block id b=>.block id b.erase
 | .loop b=>.loop b.erase
 | .AJ _ c=>c.erase
 | .shut _ _ c=>c.erase
def Sf (P:Program)(w0:World)(K:Nat→Nat→Option Value)(nt:Nat)(st:bf)(a:Act)(w:World):Prop:=
 a.tmps.size=nt∧∃C' ω',Marks C' w0.heap.size a.defers∧az P C' ω' w0 (.b3 K) st.heap w∧ak C' ω' w w0.heap.size st.env a.tmps
theorem Sf.gc {P w0 K nt n st a w}(h:Sf P w0 K nt st a w):Sf P w0 K nt (Abs.gc n st) a w:=by
 obtain⟨h1,C',ω',h2,h3,h4⟩:=h
 unfold Abs.gc
 cases hb:Hb st.heap.length n with
 |true=>exact⟨h1,C',ω',h2,h3,h4⟩
 |false=>
  simp only[cond_false]
  cases lT:(mS n st.env&&zk n (st.heap.take n))with
  |false=>exact⟨h1,C',ω',h2,h3,h4⟩
  |true=>
   simp only[cond_true]
   simp only[Es]at lT
   have hn:n≤st.heap.length:=by
    rcases Nat.lt_or_ge n st.heap.length with h|h
    ·omega
    ·rw[Ie h]at hb;cases hb
   exact⟨h1,C'.cut n,ω',⟨h2.choose,h2.choose_spec.1,h2.choose_spec.2.1,h2.choose_spec.2.2⟩,h3.gc hn lT.2 (fun b r h=>by cases h),h4.cut lT.1⟩
section
variable {P:Program}
theorem Tabs.table {w}(h:Tabs P w){g}(hg:P.globalNamed n6=I g):Lib.TabIs P w n6 .u64 Lib.pow10Tab:=(h g (.inl hg)).2.1 hg
theorem Tabs.length {w}(h:Tabs P w){g}(hg:P.globalNamed xO=I g):∃m,w.cell? ⟨g,0,En⟩=I (.int .i64 m):=(h g (.inr (.inl hg))).2.2.1 hg
theorem GO {k args v}(h:∀(K:Nat→Nat→Option Value) (w:World) (vs:List Value),Tabs P w→(∀r o u,K r o=I u→w.cell? ⟨r,o,En⟩=I u)→aW (.b3 K) args vs →
  ∃u,bT (.b3 K) v u∧Calls P k ⟨vs⟩ w fun e w'=>e=.returned u∧Ext w w'):IsoCall P k args v Gd:=by
 intro K w vs ht h1 h2 hr
 obtain⟨u,hu,hc⟩:=h K w vs ht h1 hr
 refine callsIn_wide.2 (hc.mono ?_)
 rintro e w' ⟨rfl,hx⟩
 exact⟨u,K,rfl,hx,fun _ _ _ h=>h,fun _ _ _=>rfl,fun r o x hk=>hx.cell (h1 r o x hk),h2,hu,fun h=>by cases h⟩
theorem q71 {C r}:∀ {xs:List AVal} {us:List Value} {o:Nat},aW C xs us→(∀x∈xs,x.flat=[x])→(∀(j:Nat) u,us[j]?=I u→C.K r (o+j)=I u)→bA C r 1 xs o
 | [],_,o,_,_,_=>.fL _ _ _
 |x::xs,us,o,h,hf,hk=>by
  cases h with
  |cons _ _ u us hx hr=>
   have Ak:=hf x (Jc ..)
   refine .dA _ _ _ _ _ (by rw[Ak];rfl) ?_ (q71 hr (fun y hy=>hf y (If _ hy)) fun j u hj=>?_)
   ·rw[Ak]
    exact .dH _ _ _ _ u (by have:=hk 0 u rfl;simpa using this) hx (.ie _ _)
   ·have:=hk (j+1) u (by simpa using hj)
    rw[show o+1+j=o+(j+1) by omega]
    exact this
theorem jj8 {k args xs us}{t:TypeId}(hf:∀x∈xs,x.flat=[x])(gV:∀K,aW (.b3 K) xs us)(h1u:∀u∈us,u.oneCell'=E9)
  (h:∀(K:Nat→Nat→Option Value) (w:World) (vs:List Value),Tabs P w→(∀r o u,K r o=I u→w.cell? ⟨r,o,En⟩=I u)→aW (.b3 K) args vs →
  Calls P k ⟨vs⟩ w fun e w'=>e=.returned (.slice (I ⟨w.heap.size,0,En⟩) xs.length xs.length)∧w'=w.alloc (.cells us.toArray t)):IsoCall P k args (.list Gd 1 xs) Gd:=by
 intro K w vs ht h1 h2 hr
 refine callsIn_wide.2 ((h K w vs ht h1 hr).mono ?_)
 rintro e w' ⟨rfl,rfl⟩
 have hx:Ext w (w.alloc (.cells us.toArray t)):=Ext.alloc w _ (fun c t fr h=>by cases h;rfl)
 have Gi:∀o u,K w.heap.size o=I u→False:=fun o u hk=>by
  have:=h1 _ _ _ hk
  simp only[World.cell?,Array.getElem?_eq_none (Jj _)]at this
  cases this
 refine⟨_,fun r o=>if r=w.heap.size then us[o]? else K r o,rfl,hx,?_,?_,?_,?_,?_,fun h=>by cases h⟩
 ·intro r o x hk
  have bL:r≠w.heap.size:=fun e=>Gi o x (e▸hk)
  simp only[if_neg bL];exact hk
 ·intro r o bz
  have bL:r≠w.heap.size:=by omega
  simp only[if_neg bL]
 ·intro r o x hk
  simp only[]at hk
  split at hk
  ·next hr=>
   subst hr
   have hg:(w.alloc (.cells us.toArray t)).heap[w.heap.size]?=I (.cells us.toArray t):=by rw[vU,if_pos rfl]
   simp only[World.cell?]
   rw[hg]
   simpa using hk
  ·exact hx.cell (h1 r o x hk)
 ·intro r o x hk
  simp only[]at hk
  split at hk
  ·exact h1u x (G6 hk)
  ·exact h2 r o x hk
 ·refine .list _ _ _ _ _ (Jj _) (q71 (gV _) hf fun j u hj=>?_)
  show(if w.heap.size=w.heap.size then us[0+j]? else K w.heap.size (0+j))=I u
  rw[if_pos rfl,Nat.zero_add];exact hj
theorem IsoCall.shr {k args v ow}(h:IsoCall P k args v ow)(hb:qw 0 args=E9)(hp:mF v=E9)(eA:qh):AF P k args eA v Gd eA:=by
 intro C ω w vs hr m
 have jW:aW (.b3 C.K) args vs:=aH.shift (C:=C) (C':=.b3 C.K) 0 (fun _ _ _ h=>h) (fun b r bz=>by omega) hr hb
 refine CallsIn.mono (h C.K w vs m.tabs m.know m.dq jW) ?_
 rintro e w' ⟨u,K',rfl,q1,q2,q3,q4,q5,q6,_⟩
 refine⟨u,{ C with K:=K' },ω,rfl,⟨q2,fun _ _ h=>h,rfl,fun _ h=>h,fun _ h=>h⟩,m.b3 q1 q2 q3 q4 q5,?_,fun h=>by cases h⟩
 exact aH.shift (C:=.b3 K') (C':={ C with K:=K' }) 0 (fun _ _ _ h=>h) (fun b r bz=>by omega) q6 hp
end
open Go
def DP:List UInt8→List UInt8→Bool
 | [],[]=>E9
 |a::l,b::m=>bif G3 a.toNat b.toNat then DP l m else Gd
 |_,_=>Gd
theorem qoc:∀ {l m:List UInt8},DP l m=E9→l=m
 | [],[],_=>rfl
 | [],_::_,h=>by simp[DP]at h
 |_::_,[],h=>by simp[DP]at h
 |a::l,b::m,h=>by
  simp only[DP,Gj]at h
  split at h
  ·next hb=>rw[UInt8.toNat_inj.1 (Ga hb),qoc h]
  ·exact absurd h (by simp)
def Lg:Int→Int→Bool
 | .ofNat a,.ofNat b=>G3 a b
 | .negSucc a,.negSucc b=>G3 a b
 |_,_=>Gd
theorem q59:∀ {a b:Int},Lg a b=E9→a=b
 | .ofNat _,.ofNat _,h=>by rw[Ga h]
 | .negSucc _,.negSucc _,h=>by rw[Ga h]
 | .ofNat _,.negSucc _,h=>by simp[Lg]at h
 | .negSucc _,.ofNat _,h=>by simp[Lg]at h
mutual
def jF:AVal→AVal→Bool
 | .bool a,.bool b=>a == b
 | .int k a,.int k' b=>bif decide (k=k')then Lg a b else Gd
 | .str a,.str b=>DP a b
 | .list a n xs,.list b m ys=>bif a == b then bif G3 n m then vg xs ys else Gd else Gd
 | .agg xs,.agg ys=>vg xs ys
 | .aI xs,.aI ys=>vg xs ys
 |_,_=>Gd
def vg:List AVal→List AVal→Bool
 | [],[]=>E9
 |a::l,b::m=>bif jF a b then vg l m else Gd
 |_,_=>Gd
end
mutual
theorem qzo:∀ {a b:AVal},jF a b=E9→a=b:=by
 intro a b h
 match a,b with
 | .bool _,.bool _=>simp only[jF,beq_iff_eq]at h;rw[h]
 | .int k a,.int k' b=>
  simp only[jF,Gj,decide_eq_true_eq]at h
  split at h
  ·next hk=>rw[hk,q59 h]
  ·exact absurd h (by simp)
 | .str _,.str _=>simp only[jF]at h;rw[qoc h]
 | .list a n xs,.list b m ys=>
  simp only[jF,Gj,beq_iff_eq]at h
  split at h
  ·next h1=>
   split at h
   ·next h2=>rw[h1,Ga h2,DQ h]
   ·exact absurd h (by simp)
  ·exact absurd h (by simp)
 | .agg _,.agg _=>simp only[jF]at h;rw[DQ h]
 | .aI _,.aI _=>simp only[jF]at h;rw[DQ h]
 | .bool _,.int .. | .bool _,.str _ | .bool _,.list .. | .bool _,.agg _ | .bool _,.aI _=>simp[jF]at h
 | .int ..,.bool _ | .int ..,.str _ | .int ..,.list .. | .int ..,.agg _ | .int ..,.aI _=>simp[jF]at h
 | .str _,.bool _ | .str _,.int .. | .str _,.list .. | .str _,.agg _ | .str _,.aI _=>simp[jF]at h
 | .list ..,.bool _ | .list ..,.int .. | .list ..,.str _ | .list ..,.agg _ | .list ..,.aI _=>simp[jF]at h
 | .agg _,.bool _ | .agg _,.int .. | .agg _,.str _ | .agg _,.list .. | .agg _,.aI _=>simp[jF]at h
 | .aI _,.bool _ | .aI _,.int .. | .aI _,.str _ | .aI _,.list .. | .aI _,.agg _=>simp[jF]at h
 | .ms ..,_ | .ptr ..,_ | .ai _,_ | .c8 _,_ | .b9,_ | .map _,_ | .b8,_ | .fn ..,_ | .cx,_ | .undef,_ | .any,_ | .aj ..,_ | .di ..,_=>simp[jF]at h
 | .bool _,.ms .. | .bool _,.ptr .. | .bool _,.ai _ | .bool _,.c8 _ | .bool _,.b9 | .bool _,.map _ | .bool _,.b8 | .bool _,.fn .. | .bool _,.cx | .bool _,.undef | .bool _,.aj .. | .bool _,.di ..=>simp[jF]at h
 | .int ..,.ms .. | .int ..,.ptr .. | .int ..,.ai _ | .int ..,.c8 _ | .int ..,.b9 | .int ..,.map _ | .int ..,.b8 | .int ..,.fn .. | .int ..,.cx | .int ..,.undef | .int ..,.aj .. | .int ..,.di ..=>simp[jF]at h
 | .str ..,.ms .. | .str ..,.ptr .. | .str ..,.ai _ | .str ..,.c8 _ | .str ..,.b9 | .str ..,.map _ | .str ..,.b8 | .str ..,.fn .. | .str ..,.cx | .str ..,.undef | .str ..,.aj .. | .str ..,.di ..=>simp[jF]at h
 | .list ..,.ms .. | .list ..,.ptr .. | .list ..,.ai _ | .list ..,.c8 _ | .list ..,.b9 | .list ..,.map _ | .list ..,.b8 | .list ..,.fn .. | .list ..,.cx | .list ..,.undef | .list ..,.aj .. | .list ..,.di ..=>simp[jF]at h
 | .agg ..,.ms .. | .agg ..,.ptr .. | .agg ..,.ai _ | .agg ..,.c8 _ | .agg ..,.b9 | .agg ..,.map _ | .agg ..,.b8 | .agg ..,.fn .. | .agg ..,.cx | .agg ..,.undef | .agg ..,.aj .. | .agg ..,.di ..=>simp[jF]at h
 | .aI ..,.ms .. | .aI ..,.ptr .. | .aI ..,.ai _ | .aI ..,.c8 _ | .aI ..,.b9 | .aI ..,.map _ | .aI ..,.b8 | .aI ..,.fn .. | .aI ..,.cx | .aI ..,.undef | .aI ..,.aj .. | .aI ..,.di ..=>simp[jF]at h
theorem DQ:∀ {l m:List AVal},vg l m=E9→l=m:=by
 intro l m h
 match l,m with
 | [],[]=>rfl
 | [],_::_=>simp[vg]at h
 |_::_,[]=>simp[vg]at h
 |a::l,b::m=>
  simp only[vg,Gj]at h
  split at h
  ·next h1=>rw[qzo h1,DQ h]
  ·exact absurd h (by simp)
end
abbrev Row:=List AVal×AVal×Bool
def Df (args:List AVal):List Row→Option (AVal×Bool)
 | []=>En
 |r::l=>bif vg r.1 args then I r.2 else Df args l
theorem P7 {args x}:∀ {l:List Row},Df args l=I x→(args,x)∈l
 | [],h=>by simp[Df]at h
 |r::l,h=>by
  simp only[Df,Gj]at h
  split at h
  ·next hb=>
   simp only[I.injEq]at h
   rw[←DQ hb,←h]
   exact Jc ..
  ·exact If _ (P7 h)
def P4 (P:Program)(tab:Nat→Option (List Row)):Prop:=
 ∀k l,tab k=I l→∀r∈l,IsoCall P k r.1 r.2.1 r.2.2
def xD:List (Nat×List Row)→Nat→Option (List Row)
 | [],_=>En
 |(k,l)::t,n=>bif G3 k n then I l else xD t n
def Sg (P:Program)(k:Nat):List Row→Prop
 | []=>True
 |r::l=>IsoCall P k r.1 r.2.1 r.2.2∧Sg P k l
def jd5 (P:Program):List (Nat×List Row)→Prop
 | []=>True
 |(k,l)::t=>Sg P k l∧jd5 P t
theorem q5w {P k}:∀ {l:List Row},Sg P k l→∀r∈l,IsoCall P k r.1 r.2.1 r.2.2
 |r::l,h,x,hx=>by
  cases hx with
  |head=>exact h.1
  |tail _ hx=>exact q5w h.2 x hx
theorem P5 {P}:∀ {t:List (Nat×List Row)},jd5 P t→P4 P (xD t)
 |(j,m)::t,h,k,l,hk=>by
  simp only[xD,Gj]at hk
  split at hk
  ·next hb=>
   rw[Ga hb]at h
   simp only[I.injEq]at hk
   subst hk
   exact q5w h.1
  ·exact P5 h.2 k l hk
theorem qw1 {P p}(h:b6 P p){n k b ow h1 es}(hr:qm p (iL p n) k [] []=I (.map b,ow,h1))(hb:h1[b]?=I (.map es))(he:uF 0 es=E9):Enters P k∧Rk P k es:=
 q76 h (cJ.Gw (K5 h n).1) (by rw[←La];exact hr) hb he
theorem qg {P p}(h:b6 P p){n k args v o}(hr:qc p (iL p n) k args=some (v,o))(hb:qw 0 args=true:=by rfl):IsoCall P k args v o:=
 q66 h (jen hr) hb
end Go.Abs
