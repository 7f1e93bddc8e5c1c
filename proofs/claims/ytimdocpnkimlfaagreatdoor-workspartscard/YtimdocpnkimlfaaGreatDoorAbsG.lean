/- The growth of an empty slice in slices.Grow. -/
import Derived.Test.YtimdocpnkimlfaaGreatDoorAbsE
import Derived.Lib.AppendZeros
import Derived.ProofKit
import Derived.OpenShut
import Derived.ShutString
set_option linter.unusedVariables false
set_option linter.unusedSimpArgs false
open Option renaming some→I,none→En,map_eq_some_iff→G6,bind_some→Hz
open Bool renaming and_eq_true→Ey,true→Gn,false→Gq,cond_eq_ite→Gw
open Nat renaming eq_of_beq_eq_true→Gp,le_max_right→Gz,le_max_left→G1,beq→G2,ble→Hc,ble_eq_true_of_le→Hj,succ_mul→Hp,le_refl→Hx,blt→Hy
open List renaming getElem?_range→Gs,range→Gy,length_eq_zero_iff→G5,mem_of_getElem?→G7,getElem?_eq_some_iff→Hb,mem_cons_of_mem→Hl,mem_cons_self→Hm,flatten_cons→Hq,length_range→Hr,getElem?_map→Hv,mem_append→Ia,replicate→Ib,drop_drop→Ic,mem_cons→Ie,map_cons→If,all_cons→Ig
open Array renaming getD_eq_getD_getElem?→Gv,ext'→G0,getElem?_eq_some_iff→Ha
open Prod renaming mk→Hh
namespace Go.Abs
section
variable {P:Program}{C C0:aH}{ω:Nat→Option Loc}{w w0:World}{hp:qh}{env:Env}{a:Act}{ρ:Option Nat}
theorem wQ {a:Act}{d:Nat}{v:Value}(h:d<a.tmps.size):(a.put (I d) v).eval (.tmp d)=v:=by
 simp[Act.eval,Act.put,Gv,h]
theorem kz {a:Act}{d j:Nat}{v:Value}(h:d≠j):(a.put (I d) v).eval (.tmp j)=a.eval (.tmp j):=by
 simp[Act.eval,Act.put,Gv,Array.getElem?_setIfInBounds_ne h]
theorem rS {a:Act}{d:Nat}{v:Value}:(a.put (I d) v).tmps.size=a.tmps.size:=by simp[Act.put]
theorem vF {ops:Array Oper}{Q:Exit→Act→World→Prop}{i d:Nat}{rest:List Nat}{o:Oper}{v:Value}{w':World}(hi:ops[i]?=I o)(hg:o.guard=En)(hd:o.dst=I d)(hn:∀c,o.op≠.defer c)(bE:(execOp a.eval o).run P w=.ok (.value v) w')
  (hk:wpOpsIn (jF ρ) 0 P ops Q rest (a.put (I d) v) w'):wpOpsIn (jF ρ) 0 P ops Q (i::rest) a w:=by
 rw[wpOpsIn_cons]
 unfold wpOpIn
 rw[hi]
 simp only[]
 rw[show Region.wanted o (yielded ops a.tmps)=Gn from by simp[Region.wanted,hg]]
 simp only[if_true]
 refine⟨fun _ _=>trivial,?_⟩
 rw[Oper.semAt_eq _ _ _ hn,bE]
 rw[←hd]at hk
 exact hk
theorem Mw {s d:Nat}{o:Oper}(h:EA s d o=Gn):o.op=.move (.tmp s)∧o.dst=I d∧o.guard=En:=by
 unfold EA at h
 split at h
 ·rename_i h1 h2 h3
  simp only[Ey,beq_iff_eq]at h
  obtain⟨rfl,rfl⟩:=h
  exact⟨h1,h2,h3⟩
 ·cases h
theorem q6q {s d:Nat}{o:Oper}(h:UO s d o=Gn):o.op=.assign (.tmp s)∧o.dst=I d∧o.guard=En:=by
 unfold UO at h
 split at h
 ·rename_i h1 h2 h3
  simp only[Ey,beq_iff_eq]at h
  obtain⟨rfl,rfl⟩:=h
  exact⟨h1,h2,h3⟩
 ·cases h
theorem jj4 {x d:Nat}{o:Oper}{t:TypeId}(h:UQ x d o=I t):∃c,o.op=.call c∧c.callee=.builtin .cap∧c.args=#[.tmp x]∧c.argTypes=#[t]∧o.dst=I d∧o.guard=En:=by
 unfold UQ at h
 split at h
 ·rename_i c _ h1 h2 h3
  split at h
  ·rename_i h4 h5 h6
   split at h
   ·rename_i hk
    simp only[Ey,beq_iff_eq]at hk
    obtain⟨rfl,rfl⟩:=hk
    cases h
    exact⟨c,h1,h4,by apply G0;simpa using h5,by apply G0;simpa using h6,h2,h3⟩
   ·cases h
  ·cases h
 ·cases h
theorem jme {x d:Nat}{o:Oper}{t:TypeId}(h:UR x d o=I t):∃c,o.op=.call c∧c.callee=.builtin .len∧c.args=#[.tmp x]∧c.argTypes=#[t]∧o.dst=I d∧o.guard=En:=by
 unfold UR at h
 split at h
 ·rename_i c _ h1 h2 h3
  split at h
  ·rename_i h4 h5 h6
   split at h
   ·rename_i hk
    simp only[Ey,beq_iff_eq]at hk
    obtain⟨rfl,rfl⟩:=hk
    cases h
    exact⟨c,h1,h4,by apply G0;simpa using h5,by apply G0;simpa using h6,h2,h3⟩
   ·cases h
  ·cases h
 ·cases h
theorem q42 {x h d:Nat}{o:Oper}{t:TypeId}(hh:LU x h d o=I t):o.op=.slice t (.tmp x) En (I (.tmp h)) En∧o.dst=I d∧o.guard=En:=by
 unfold LU at hh
 split at hh
 ·rename_i h1 h2 h3
  split at hh
  ·rename_i hk
   simp only[Ey,beq_iff_eq]at hk
   obtain⟨⟨rfl,rfl⟩,rfl⟩:=hk
   cases hh
   exact⟨h1,h2,h3⟩
  ·cases hh
 ·cases hh
theorem jkk {x y d:Nat}{o:Oper}{t u:TypeId}(h:US x y d o=I (t,u)):∃c,o.op=.call c∧c.callee=.builtin .append∧c.args=#[.tmp x,.tmp y]∧c.argTypes=#[t,u]∧o.dst=I d∧o.guard=En:=by
 unfold US at h
 split at h
 ·rename_i c _ h1 h2 h3
  split at h
  ·rename_i h4 h5 h6
   split at h
   ·rename_i hk
    simp only[Ey,beq_iff_eq]at hk
    obtain⟨⟨rfl,rfl⟩,rfl⟩:=hk
    cases h
    exact⟨c,h1,h4,by apply G0;simpa using h5,by apply G0;simpa using h6,h2,h3⟩
   ·cases h
  ·cases h
 ·cases h
theorem q86 {o:Oper}{t e:TypeId}{x h:Nat}{b:Option Addr}{len cap n:Nat}(ho:o.op=.slice t (.tmp x) En (I (.tmp h)) En)(ht:P.underlying t=I (.slice e)){sz:Nat}(hn:js P e=I sz)(hx:a.eval (.tmp x)=.slice b len cap)(hh:a.eval (.tmp h)=.int .i64 (n:Int))(hle:n≤cap):
  (execOp a.eval o).run P w=.ok (.value (.slice (if cap=0 then b else b.map (·.add 0)) n cap)) w:=by
 have hb:(0:Int)≤n∧(n:Int)≤cap:=by omega
 simp[execOp,ho,Instr.sliceAt,Instr.slice,run_underlying ht,hx,Instr.sliceBounds,hh,Instr.sliceBound,asIntOf,hle,yo hn]
theorem jpj {id nt:Nat}{ops:Array Oper}{sz:Nat}(hg:LV P nt ops=I sz)(m:ax P C ω w0 C0 hp w)(he:ak C ω w w0.heap.size env a.tmps)(db:a.tmps.size=nt)(zH:Marks C w0.heap.size a.defers){z k:Nat}{xs:List AVal}{o1 o2:Bool}
  (h0:jj 0 env=I (.list Gn z xs,o1)) (h1:jj 1 env=I (.int .i64 (.ofNat k),o2)) (hk0:0<k) (gp:k≤1073741824):
  (Code.region id ops Gq).wpIn (jF ρ) 0 P (fun e a' w'=>e=.normal∧dC P w0 C0 C nt ⟨[(0,.list Gq sz [],Gn)],hp⟩ a' w') a w:=by
 unfold LV at hg
 split at hg
 ·rename_i t u mN
  split at hg
  ·rename_i e kk ht hu
   split at hg
   ·rename_i i hi
    split at hg
    ·rename_i hc
     cases hg
     simp only[Ey,decide_eq_true_eq,Option.isSome_iff_exists,beq_iff_eq]at hc
     obtain⟨⟨⟨⟨⟨⟨zv,hz⟩,Mx⟩,Wh⟩,hnt⟩,⟨zl,iz⟩⟩,qQ⟩:=hc
     have zI:js P e=I i.size:=by simp[js,hi]
     unfold jo5 at mN
     split at mN
     ·rename_i p0 p1 p2 p3 p4 p5 p6 p7 p8 p9 Wi
      split at mN
      ·rename_i t2 t3 tt uu t7 t8 g2 g3 g5 g7 g8
       split at mN
       ·rename_i dO
        cases mN
        simp only[Ey,beq_iff_eq]at dO
        obtain⟨⟨⟨⟨⟨⟨⟨⟨c0,c1⟩,c4⟩,c6⟩,c9⟩,x2⟩,x3⟩,x7⟩,x8⟩:=dO
        replace x2:=x2.symm
        replace x3:=x3.symm
        replace x7:=x7.symm
        replace x8:=x8.symm
        subst x2;subst x3;subst x7;subst x8
        have HA:ops=#[p0,p1,p2,p3,p4,p5,p6,p7,p8,p9]:=by apply G0;simpa using Wi
        subst HA
        obtain⟨v0,q0,r0,_⟩:=he 0 _ h0
        obtain⟨v1,q1,r1,_⟩:=he 1 _ h1
        have jD:v0=.slice En 0 0:=by
         rcases r0.de with⟨_,_,h⟩|⟨h,_⟩|⟨h,_⟩
         ·exact h
         ·cases h
         ·cases h
        have mI:v1=.int .i64 (k:Int):=by cases r1;rfl
        subst jD;subst mI
        have hl:26≤a.tmps.size:=by omega
        have e0:a.eval (.tmp 0)=.slice En 0 0:=by simp[Act.eval,Gv,q0]
        have e1:a.eval (.tmp 1)=.int .i64 (k:Int):=by simp[Act.eval,Gv,q1]
        obtain⟨a0,a0d,a0g⟩:=Mw c0
        obtain⟨a1,a1d,a1g⟩:=Mw c1
        obtain⟨cc2,a2,b2,b2a,b2t,a2d,a2g⟩:=jj4 g2
        obtain⟨a3,a3d,a3g⟩:=q42 g3
        obtain⟨a4,a4d,a4g⟩:=Mw c4
        obtain⟨cc5,a5,b5,b5a,b5t,a5d,a5g⟩:=jkk g5
        obtain⟨a6,a6d,a6g⟩:=Mw c6
        obtain⟨cc7,a7,b7,b7a,b7t,a7d,a7g⟩:=jme g7
        obtain⟨a8,a8d,a8g⟩:=q42 g8
        obtain⟨a9,a9d,a9g⟩:=q6q c9
        refine wpIn_region ?_
        rw[show Gy (#[p0,p1,p2,p3,p4,p5,p6,p7,p8,p9]:Array Oper).size=[0,1,2,3,4,5,6,7,8,9]from rfl]
        refine vF (o:=p0) rfl a0g a0d (by simp[a0]) (v:=.slice En 0 0) (w':=w) (by simp[execOp,a0,e0]) ?_
        refine vF (o:=p1) rfl a1g a1d (by simp[a1]) (v:=.slice En 0 0) (w':=w) (by simp[execOp,a1,kz,e0]) ?_
        refine vF (o:=p2) rfl a2g a2d (by simp[a2]) (v:=.int .i64 0) (w':=w) ?_ ?_
        ·have:(((a.put (I 17) (.slice En 0 0)).put (I 18) (.slice En 0 0))).eval (.tmp 18)=.slice En 0 0:=wQ (by rw[rS];omega)
         simp[execOp,a2,resolve,b2,b2a,b2t,invoke,builtin,Builtin.cap_,run_underlying ht,this,goInt]
        refine vF (o:=p3) rfl a3g a3d (by simp[a3]) (v:=.slice En 0 0) (w':=w) ?_ ?_
        ·have Wj:((((a.put (I 17) (.slice En 0 0)).put (I 18) (.slice En 0 0))).put (I 19) (.int .i64 0)).eval (.tmp 17)=.slice En 0 0:=by
          rw[kz (by omega),kz (by omega),wQ (by omega)]
         have Wk:((((a.put (I 17) (.slice En 0 0)).put (I 18) (.slice En 0 0))).put (I 19) (.int .i64 0)).eval (.tmp 19)=.int .i64 ((0:Nat):Int):=by
          rw[wQ (by rw[rS,rS];omega)];rfl
         have:=q86 (P:=P) (w:=w) (o:=p3) a3 ht zI Wj Wk (Hx 0)
         simpa using this
        refine vF (o:=p4) rfl a4g a4d (by simp[a4]) (v:=.int .i64 (k:Int)) (w':=w) (by simp[execOp,a4,kz,e1]) ?_
        have rN:=Lib.run_append_nil_zeros w t u p5.type e i zv .i64 kk ht hu hi hz k hk0 Mx (by omega) (by
         have:k*i.bytes≤1073741824*4096:=Nat.mul_le_mul gp Wh
         omega)
        refine vF (o:=p5) rfl a5g a5d (by simp[a5]) (v:=.slice (I ⟨w.heap.size,0,En⟩) k (grownCap w k 0 e)) (w':=w.drew.alloc (.cells (Builtin.zeroCells zv.cells k++Builtin.zeroCells zv.cells (grownCap w k 0 e-k)) e)) ?_ ?_
        ·generalize hA:(((((a.put (I 17) (.slice En 0 0)).put (I 18) (.slice En 0 0)).put (I 19) (.int .i64 0)).put (I 20) (.slice En 0 0)).put (I 21) (.int .i64 (k:Int)))=A
         have BO:A.eval (.tmp 20)=.slice En 0 0:=by
          rw[←hA,kz (by omega),wQ (by simp only[rS];omega)]
         have HC:A.eval (.tmp 21)=.int .i64 (k:Int):=by
          rw[←hA,wQ (by simp only[rS];omega)]
         simp[execOp,a5,resolve,b5,b5a,b5t,invoke,builtin,BO,HC,rN]
        generalize hW:w.drew.alloc (.cells (Builtin.zeroCells zv.cells k++Builtin.zeroCells zv.cells (grownCap w k 0 e-k)) e)=W
        generalize hA:(((((a.put (I 17) (.slice En 0 0)).put (I 18) (.slice En 0 0)).put (I 19) (.int .i64 0)).put (I 20) (.slice En 0 0)).put (I 21) (.int .i64 (k:Int)))=A
        have hA0:A.eval (.tmp 0)=.slice En 0 0:=by rw[←hA];simp only[kz (show(21:Nat)≠0 by omega),kz (show(20:Nat)≠0 by omega),kz (show(19:Nat)≠0 by omega),kz (show(18:Nat)≠0 by omega),kz (show(17:Nat)≠0 by omega),e0]
        have hAs:A.tmps.size=a.tmps.size:=by rw[←hA];simp only[rS]
        have hAd:A.defers=a.defers:=by rw[←hA];rfl
        generalize hcp:grownCap w k 0 e=cp
        have hcap:k≤cp:=by rw[←hcp];simpa using grownCap_ge w k 0 e
        refine vF (o:=p6) rfl a6g a6d (by simp[a6]) (v:=.slice En 0 0) (w':=W) (by simp[execOp,a6,kz,hA0]) ?_
        refine vF (o:=p7) rfl a7g a7d (by simp[a7]) (v:=.int .i64 0) (w':=W) ?_ ?_
        ·generalize hB:((A.put (I 22) (.slice (I ⟨w.heap.size,0,En⟩) k cp)).put (I 23) (.slice En 0 0))=B
         have HD:B.eval (.tmp 23)=.slice En 0 0:=by
          rw[←hB,wQ (by rw[rS];omega)]
         simp[execOp,a7,resolve,b7,b7a,b7t,invoke,builtin,Builtin.len_,run_underlying ht,HD,goInt]
        refine vF (o:=p8) rfl a8g a8d (by simp[a8]) (v:=.slice (I ⟨w.heap.size,0,En⟩) 0 cp) (w':=W) ?_ ?_
        ·generalize hB:(((A.put (I 22) (.slice (I ⟨w.heap.size,0,En⟩) k cp)).put (I 23) (.slice En 0 0)).put (I 24) (.int .i64 0))=B
         have BP:B.eval (.tmp 22)=.slice (I ⟨w.heap.size,0,En⟩) k cp:=by
          rw[←hB,kz (by omega),kz (by omega),wQ (by omega)]
         have BQ:B.eval (.tmp 24)=.int .i64 ((0:Nat):Int):=by
          rw[←hB,wQ (by simp only[rS];omega)];rfl
         have:=q86 (P:=P) (w:=W) (o:=p8) a8 ht zI BP BQ (Nat.zero_le cp)
         rw[if_neg (by omega)]at this
         simp only[Option.map_some,add_lit,Nat.add_zero]at this
         exact this
        refine vF (o:=p9) rfl a9g a9d (by simp[a9]) (v:=.slice (I ⟨w.heap.size,0,En⟩) 0 cp) (w':=W) ?_ ?_
        ·have HE:((((A.put (I 22) (.slice (I ⟨w.heap.size,0,En⟩) k cp)).put (I 23) (.slice En 0 0)).put (I 24) (.int .i64 0)).put (I 25) (.slice (I ⟨w.heap.size,0,En⟩) 0 cp)).eval (.tmp 25)=.slice (I ⟨w.heap.size,0,En⟩) 0 cp:=by
          rw[wQ (by simp only[rS];omega)]
         simp[execOp,a9,HE]
        -- the end
        have hxd:=Ext.drew w
        obtain⟨zs,zvr,HF,cT,lN⟩:=vp (C:=C) iz
        have nz:zv.cells.size=i.size:=by
         have h3:zl.length=i.size:=by rw[iz]at qQ;simpa using qQ
         have h4:=cT.length
         have h5:zvr=zv:=by
          have:=HF w
          simp[zeroValue,typeInfo,hi,hz]at this
          exact this.symm
         subst h5
         simp only[Array.length_toList]at h4;omega
        have ia:=L7 (d:=.slot 0) (tmps:=a.tmps) (m.ext hxd) (he.ext hxd) (Builtin.zeroCells zv.cells k++Builtin.zeroCells zv.cells (cp-k)) e [] i.size cp [] (by simpa using aC.nil) (by simp) (by simp) (by simp) (by simp) (by
         have hlen:∀n,(Builtin.zeroCells zv.cells n).size=n*i.size:=fun n=>by simp[Builtin.zeroCells,nz]
         rw[Array.size_append,hlen,hlen,←Nat.add_mul]
         exact Nat.mul_le_mul_right _ (by omega)) En
        rw[hcp]at hW
        rw[hW]at ia
        have hd0:w.drew.heap.size=w.heap.size:=rfl
        rw[hd0]at ia
        simp only[List.length_nil]at ia
        clear hW hA0 HF cT
        generalize hB:(((A.put (I 22) (.slice (I ⟨w.heap.size,0,En⟩) k cp)).put (I 23) (.slice En 0 0)).put (I 24) (.int .i64 0)).put (I 25) (.slice (I ⟨w.heap.size,0,En⟩) 0 cp)=B
        have hBs:B.tmps.size=a.tmps.size:=by rw[←hB];simp only[rS];omega
        have hBd:B.defers=a.defers:=by rw[←hB,←hAd];rfl
        obtain⟨C',ω',k1,k2,k3,k4,k5⟩:=ia
        have l3:dC P w0 C0 C nt ⟨[(0,.list Gq i.size [],Gn)],hp⟩ (B.put (I 0) (.slice (I ⟨w.heap.size,0,En⟩) 0 cp)) W:=by
         refine⟨by rw[rS];omega,C',ω',k1,?_,k2,?_⟩
         ·rw[show(B.put (I 0) (.slice (I ⟨w.heap.size,0,En⟩) 0 cp)).defers=B.defers from rfl,hBd]
          exact zH.mono k1
         ·intro s x hx
          simp only[jj]at hx
          cases hb:G2 0 s with
          |false=>simp[hb]at hx
          |true=>
           have:=Gp hb
           subst this
           simp only[hb,cond_true,I.injEq]at hx
           subst hx
           exact⟨_,by simp only[Act.put];rw[Array.getElem?_setIfInBounds_self_of_lt (by omega)],k4,k5⟩
        simp only[wpOpsIn]
        exact⟨trivial,l3⟩
       ·cases mN
      ·cases mN
     ·cases mN
    ·cases hg
   ·cases hg
  ·cases hg
 ·cases hg
end
def fX (ρ:Option Nat)(P:Program)(c:Code)(Q:Exit→Act→World→Prop)(a:Act)(w:World):Prop:=
 ∀(b:Frame) (k:List Item) (cs:List Frame),b.roundOf=(jF ρ).round→(jF ρ).fn b.fn→(jF ρ).room (cs.length+1+0) →
  ∃e a' w',Q e a' w'∧ArrivesIn (Machine.fenced P (jF ρ)) P (lone (b.atR a (.code c::.inLoop c::k)) cs w) b k cs e a' w'
theorem fX.wpIn {ρ P c Q a w}(h:fX ρ P c Q a w):(Code.loop c).wpIn (jF ρ) 0 P Q a w:=by
 intro b k cs zJ hb hr
 obtain⟨e,a',w',hq,fj⟩:=h b k cs zJ hb hr
 exact⟨e,a',w',hq,.of_steps (.one (fenced_calm hb hr rfl) stepR_loop) fj⟩
theorem fX.wR {ρ P c Q a w}(h:c.wpIn (jF ρ) 0 P (Exit.then (fX ρ P c Q) Q) a w):fX ρ P c Q a w:=by
 intro b k cs zJ hb hr
 obtain⟨e,a₁,w₁,hq,fj⟩:=h b (.inLoop c::k) cs zJ hb hr
 cases e with
 |normal=>
  obtain⟨e₂,a₂,w₂,HG,wS⟩:=hq b k cs zJ hb hr
  exact⟨e₂,a₂,w₂,HG,.of_steps (StepsIn.trans fj (.one (fenced_calm hb hr rfl) stepR_inLoop)) wS⟩
 |exit id=>exact⟨_,a₁,w₁,hq,.pass (x:=.inLoop c) rfl (fun _ _=>.inl (by simp)) fj⟩
 |goto l=>exact⟨_,a₁,w₁,hq,.pass (x:=.inLoop c) rfl (fun _ _=>.inl (by simp)) fj⟩
 |ret=>exact⟨_,a₁,w₁,hq,.pass (x:=.inLoop c) rfl (fun _ _=>.inl (by simp)) fj⟩
 |panic ch=>exact⟨_,a₁,w₁,hq,.pass (x:=.inLoop c) rfl (fun _ _=>.inl (by simp)) fj⟩
 |outgrown=>exact⟨_,a₁,w₁,hq,.pass (x:=.inLoop c) rfl (fun _ _=>.inl (by simp)) fj⟩
section
variable {P:Program}{p:zb}{xc:XC}
def My (P:Program)(w0:World)(C0 C:aH)(nt:Nat)(x:jf)(bV:bf):Exit→Act→World→Prop:=fun e a' w'=>e=Bz x∧dC P w0 C0 C nt bV a' w'
def q8w (P:Program)(xc:XC):Prop:=
 ∀(ρ:Option Nat) (nt:Nat) (c:Code) (ca:au) (st bV:bf) (x:jf),Gm P nt c ca→(ρ≠En→ya ca=Gn)→xc ca st=I (x,bV) →
  ∀(C:aH) (w0:World) (C0:aH) (a:Act) (w:World),dC P w0 C0 C nt st a w→c.wpIn (jF ρ) 0 P (My P w0 C0 C nt x bV) a w
theorem cM.HI (h:q8w P xc):cM P xc:=
 fun ρ nt c ca st bV x hc hn hx C ω w0 C0 a w m he db lb=>wpIn_mono (h ρ nt c ca st bV x hc hn hx C w0 C0 a w ⟨db,C,ω,aH.le_refl C,lb,m,he⟩) fun _ _ _ hq=>hq
def jg8 (P:Program)(xc:XC):Prop:=
 ∀(ρ:Option Nat) (nt:Nat) (c:Code) (ca:au) (st bV:bf) (x:jf),Gm P nt c ca→(ρ≠En→ya ca=Gn)→xc (.loop ca) st=I (x,bV) →
  ∀(C:aH) (w0:World) (C0:aH) (a:Act) (w:World),dC P w0 C0 C nt st a w→fX ρ P c (My P w0 C0 C nt x bV) a w
theorem dC.gc {w0 C0 C nt n st a w}(h:dC P w0 C0 C nt st a w)(hC:∀b r,C.β b=I r→b<n)(Wl:∀b r,C0.β b=I r→b<n):dC P w0 C0 C nt (Abs.gc n st) a w:=by
 unfold Abs.gc
 cases hb:Hc st.heap.length n with
 |true=>exact h
 |false=>
  simp only[cond_false]
  cases lU:(nj n st.env&&zw n (st.heap.take n))with
  |false=>exact h
  |true=>
   simp only[cond_true]
   simp only[Ey]at lU
   obtain⟨h1,C',ω',h3,h2,h4,h5⟩:=h
   have hn:n≤st.heap.length:=by
    rcases Nat.lt_or_ge n st.heap.length with h|h
    ·omega
    ·rw[Hj h]at hb;cases hb
   exact⟨h1,C'.cut n,ω',aH.iR h3 hC,⟨h2.choose,h2.choose_spec.1,h2.choose_spec.2.1,h2.choose_spec.2.2⟩,h4.gc hn lU.2 Wl,h5.cut lU.1⟩
theorem Mz {K w0 C0 C nt x bV Q e a w}(h:My P w0 C0 C nt x bV e a w)(hn:x=.normal→dC P w0 C0 C nt bV a w→K a w)(ho:x≠.normal→dC P w0 C0 C nt bV a w→Q (Bz x) a w):Exit.then K Q e a w:=by
 obtain⟨rfl,h⟩:=h
 cases x with
 |normal=>exact hn rfl h
 |exit id=>exact ho (by simp) h
 |ret=>exact ho (by simp) h
theorem q7g {b:Frame}{a k cs w c}:step P (lone (b.atR a (.code (.scope c)::k)) cs w)=.next (lone (b.atR a (.code c::.inScope c::k)) cs w):=
 step_lone_go (by simp[stepG,stepG.exec,Frame.atR])
theorem q05 {b:Frame}{a k cs w c}:step P (lone (b.atR a (.inScope c::k)) cs w)=.next (lone (b.atR a k) cs w):=
 step_lone_go (by simp[stepG,stepG.exec,Frame.atR])
theorem qpa {F:Fence}{n c Q a w}(h:c.wpIn F n P (Exit.noGoto Q) a w):(Code.scope c).wpIn F n P Q a w:=by
 intro b k cs zJ hb hr
 obtain⟨e,a₁,w₁,hq,fj⟩:=h b (.inScope c::k) cs zJ hb hr
 have h1:StepsIn (Machine.fenced P F) P (lone (b.atR a (.code (.scope c)::k)) cs w) (lone (b.atR a (.code c::.inScope c::k)) cs w):=.one (fenced_calm hb hr rfl) q7g
 cases e with
 |normal=>exact⟨.normal,a₁,w₁,hq,StepsIn.trans h1 (StepsIn.trans fj (.one (fenced_calm hb hr rfl) q05))⟩
 |goto l=>exact hq.elim
 |exit id=>
  refine⟨.exit id,a₁,w₁,hq,.of_steps h1 ?_⟩
  refine⟨fun k' hk=>fj.1 k' (by simp[exitTo,hk]),fun Wm iT=>?_⟩
  exact fj.2 Wm (by simp[exitTo,iT])
 |ret=>exact⟨_,a₁,w₁,hq,.of_steps h1 fj⟩
 |panic ch=>exact⟨_,a₁,w₁,hq,.of_steps h1 fj⟩
 |outgrown=>exact⟨_,a₁,w₁,hq,.of_steps h1 fj⟩
theorem ax.Wn {C C0 ω w0 w hp}(m:ax P C ω w0 C0 hp w):ax P { C with D:=fun r=>C.D r∨r=w.heap.size } ω w0 C0 hp (w.alloc (.deferred (I []))):=by
 have hx:Ext w (w.alloc (.deferred (I []))):=Ext.alloc w _ (fun c t fr h=>by cases h)
 have m':=m.ext hx
 exact { m' with
  fF:=fun r hr=>by
   rcases hr with hr|hr
   ·exact m'.fF r hr
   ·subst hr;rw[wH,if_pos rfl]
  grown:=⟨m.grown.k,m.grown.b,m.grown.w,fun r h=>.inl (m.grown.d r h),m.grown.t⟩
  box:=fun b x r eR hb=>bD.imp (C:=C) (C':={ C with D:=fun r=>C.D r∨r=w.heap.size }) ⟨fun _ _ _ h=>h,fun _ _ h=>h⟩ rfl (fun _ _ _ ho=>ho) (m'.box b x r eR hb) }
theorem jmd (eE:bX P p)(hx:cM P xc){f ps x1 x2 f' a1 a2 h nt st bV x C w0 C0 a w}
  (hf:qu f=I f') (h1:hE P h nt x1=I a1) (h2:hE P h nt x2=I a2) (cJ:∀t∈ps.toList,t<nt) (hs:nu p xc f' ps.toList a1 a2 st=I (x,bV)) (ct:dC P w0 C0 C nt st a w):
  (Code.rangeFunc f ps x1 x2).wpIn (jF En) 0 P (My P w0 C0 C nt x bV) a w:=by
 obtain⟨db,Ca,ω,hle,zH,m,he⟩:=ct
 unfold nu at hs
 cases MA:(ya a1&&ya a2)with
 |false=>simp[MA]at hs
 |true=>
  simp only[MA,cond_true]at hs
  simp only[Ey]at MA
  split at hs
  ·rename_i k first captured hO
   have zC:=qw he.cq hf hO
   generalize Hd:a.eval f=fv at zC
   cases zC with
   |fn g g' _ _ as bs hg ha hb=>
    simp only[fM]at hg
    subst hg
    split at hs
    ·rename_i _r1 _r2 h' G9
     split at hs
     ·rename_i l' hl'
      cases jN:zw st.heap.length (h'.take st.heap.length)with
      |false=>simp[jN]at hs
      |true=>
       simp only[jN,cond_true]at hs
       ·obtain⟨lV,nG⟩:=G8 eE hx G9
        -- the loop's record,and the block before it
        refine wpIn_rangeFunc fun fn _=>?_
        generalize hlp:({ state:=.ready,pending:=En,fn:=fn,tmps:=a.tmps,params:=ps,assign:=x1,body:=x2,defers:=w.heap.size }:Loop)=lp
        have mD:=(m.Wn).holes 1
        have eD:ak { Ca with D:=fun r=>Ca.D r∨r=w.heap.size } ω (w.alloc (.deferred (I []))) w0.heap.size st.env a.tmps:=fun s y hy=>
         let ⟨v,k1,k2,k3⟩:=he.ext (Ext.alloc w _ (fun c t fr h=>by cases h)) s y hy
         ⟨v,k1,bN.rE k2,k3⟩
        have HJ:(st.heap++Ib 1 .hole)[st.heap.length]?=I .hole:=by simp
        have HK:(w.alloc (.deferred (I []))).heap.size=w.heap.size+1:=by rw[World.size_alloc]
        obtain⟨mB,eB,nI⟩:=mD.aJ eD HJ (.loop lp) (fun c t fr h=>by cases h) (.loop ⟨st.env,ps.toList,a1,a2,En⟩) (by
         intro C' ω' w' cX Ml
         subst hlp
         exact⟨_,Ml,{ assign:=⟨h,by rw[db];exact h1⟩,body:=⟨h,by rw[db];exact h2⟩,params:=rfl,fits:=fun t ht=>by rw[db];exact cJ t ht,nr:=MA,env:=fun s y hy=>let ⟨v,k1,k2,_⟩:=eD s y hy; ⟨v,k1,aC.mono cX k2⟩,state:=rfl,pending:=rfl }⟩)
        have bw:(st.heap++Ib 1 bh.hole).set st.heap.length (.loop ⟨st.env,ps.toList,a1,a2,En⟩)=st.heap++[.loop ⟨st.env,ps.toList,a1,a2,En⟩]:=by
         simp
        rw[bw]at mB
        rw[HK]at mB eB nI
        generalize hCB:aH.box { Ca with D:=fun r=>Ca.D r∨r=w.heap.size } st.heap.length (w.heap.size+1)=CB at mB eB nI
        generalize hwB:(w.alloc (.deferred (I []))).alloc (.loop lp)=wB at mB eB
        have HL:CB.β st.heap.length=I (w.heap.size+1):=by rw[←hCB];simp[aH.box]
        have hDB:∀r,Ca.D r∨r=w.heap.size→CB.D r:=fun r hr=>by rw[←hCB];exact hr
        have hKB:∀ {i:ly},aC Ca i→aC CB i:=fun hr=>aC.mono nI (aC.imp (C:=Ca) (C':={ Ca with D:=fun r=>Ca.D r∨r=w.heap.size }) ⟨fun _ _ _ h=>h,fun _ _ h=>h⟩ hr)
        have HM:Ca.le CB:=⟨nI.k,nI.b,nI.w,fun r hr=>hDB r (.inl hr),nI.t⟩
        have eA:aV (CB.shared ω w0) (first++[.fn (.yield st.heap.length) [] []]++captured) (as++[Value.func (.yield (w.heap.size+1)) ⟨[]⟩ ⟨[]⟩]++bs):=by
         refine aC.imp (C:=CB) (C':=CB.shared ω w0) ⟨fun _ _ _ h=>h,fun _ _ h=>h⟩ ?_
         exact aV.append (aV.append (hKB ha) (.cons _ _ _ _ (.fn _ _ _ _ _ _ ⟨_,HL,rfl⟩ .nil .nil) .nil)) (hKB hb)
        refine⟨w.heap.size+1,[{ target:=.collected w.heap.size,args:=#[] }],wB,{ target:=.fn (.func k) ⟨bs⟩,args:=⟨as⟩++#[Value.func (.yield (w.heap.size+1)) #[] #[]] },wB,k,⟨as++[Value.func (.yield (w.heap.size+1)) ⟨[]⟩ ⟨[]⟩]++bs⟩,wB,?_,?_,fun _ _=>trivial,?_,fun hd=>by simp[jF,Fence.wide]at hd,?_⟩
        ·subst hlp
         rw[←hwB]
         simp[Instr.enterLoop,jF,Fence.wide,HK]
        ·have hc:a.eval (.const (Value.func (.yield (w.heap.size+1)) #[] #[]))=Value.func (.yield (w.heap.size+1)) #[] #[]:=rfl
         simp[resolve,Hd,Deferred.ofValue,hc]
        ·have hq:(⟨as⟩:Array Value)++#[Value.func (.yield (w.heap.size+1)) #[] #[]]++(⟨bs⟩:Array Value)=⟨as++[Value.func (.yield (w.heap.size+1)) ⟨[]⟩ ⟨[]⟩]++bs⟩:=by
          apply G0;simp
         simp only[invoke,hq]
         exact qp4 lV _ _
        ·refine qxv.2 (CallsIn.mono (nG _ _ _ _ eA (VN mB)) ?_)
         rintro ee w' ⟨u,C1,ω1,rfl,q1,q2,_,_⟩
         obtain⟨m2,e2⟩:=qst mB eB q2 q1
         have BR:CB.le (C1.back CB):=Mm q1
         have rK:(C1.back CB).β st.heap.length=I (w.heap.size+1):=BR.b _ _ HL
         obtain⟨lW,rL,vC⟩:=Mp m2 hl' rK
         have hlen:st.heap.length<h'.length:=(m2.lt _ _ rK).2
         have Wl:∀b r,C0.β b=I r→b<st.heap.length:=fun b r hb=>(m.lt b r (m.grown.b b r hb)).2
         have m3:=m2.gc (Nat.le_of_lt hlen) jN Wl
         have BH:(Instr.getLoop (w.heap.size+1)).run P w'=.ok lW w':=by simp[Instr.getLoop,pK rL (by simp)]
         have rQ:=(Ha.1 rL).1
         have hu:nE w' (kj w' (w.heap.size+1) (.loop { lW with state:=.exhausted })) (w.heap.size+1):=EH rQ (by simp)
         have lB:∀cs t fr,w'.heap[w.heap.size+1]?≠I (.cells cs t fr):=fun cs t fr hh=>by rw[rL]at hh;cases hh
         have Wo:∀b,((C1.back CB).cut st.heap.length).β b≠I (w.heap.size+1):=fun b hb=>by
          simp only[aH.cut]at hb
          split at hb
          ·rename_i br
           have:=m2.inj b st.heap.length _ hb rK
           omega
          ·cases hb
         have dD:lW.state≠.busy→(Instr.endLoop (w.heap.size+1)).run P w'=.ok lW.pending (kj w' (w.heap.size+1) (.loop { lW with state:=.exhausted })):=fun EL=>by
          have fN:(lW.state == .busy)=Gq:=by
           cases ct:lW.state<;>first|rfl|exact absurd ct EL
          have hs2:=yX (P:=P) (x:=.loop { lW with state:=.exhausted }) rL (by simp)
          simp only[Instr.endLoop,Sem.run_bind,BH,Result.andThen_ok,fN,Bool.false_eq_true,if_false,Sem.run_ite,hs2,Sem.run_pure]
         have m4:=m3.other (D':=((C1.back CB).cut st.heap.length).D) hu Wo (Nat.le_trans m.size (by omega)) lB (fun kk hk=>⟨hk,fun iB=>by
          have:=m3.fF kk hk
          rw[iB,rL]at this;cases this⟩) m3.grown.d
         have BS:Ca.le ((C1.back CB).cut st.heap.length):=aH.iR (aH.le_trans HM BR) (fun b r hb=>(m.lt b r hb).2)
         have e4:ak ((C1.back CB).cut st.heap.length) (nH ω ω1 wB.heap.size) (kj w' (w.heap.size+1) (.loop { lW with state:=.exhausted })) w0.heap.size st.env a.tmps:=by
          intro s y hy
          obtain⟨v,k1,k2,k3⟩:=he s y hy
          obtain⟨v',j1,j2,j3⟩:=e2 s y hy
          rw[k1]at j1
          cases j1
          exact⟨v,k1,aC.mono BS k2,fun hh=>(((j3 hh).cut _).la (D':=((C1.back CB).cut st.heap.length).D) hu lB)⟩
         have l3:∀(xx:jf),dC P w0 C0 C nt { st with heap:=h'.take st.heap.length } { a with defers:=[{ target:=.collected w.heap.size,args:=#[] }]++a.defers } (kj w' (w.heap.size+1) (.loop { lW with state:=.exhausted })):=by
          intro _
          refine⟨db,_,_,aH.le_trans hle BS,?_,m4,e4⟩
          obtain⟨rs,g1,g2,g3⟩:=zH
          refine⟨w.heap.size::rs,by rw[g1];rfl,List.nodup_cons.2 ⟨fun hm=>?_,g2⟩,?_⟩
          ·have:=(Ha.1 (m.fF _ (g3 _ hm).1)).1;omega
          ·intro r hr
           rcases Ie.1 hr with rfl|hr
           ·exact⟨BR.d _ (hDB _ (.inr rfl)),m.size⟩
           ·exact⟨BS.d _ (g3 r hr).1,(g3 r hr).2⟩
         simp only[rangePost]
         split at hs
         ·rename_i wT
          cases hs
          refine⟨En,_,?_,rfl,l3 .normal⟩
          rw[dD (by rw[vC.state,wT];simp),vC.pending,wT]
         ·cases hs
         ·rename_i xx Vk wT
          cases hs
          cases x with
          |normal=>exact absurd rfl Vk
          |ret=>
           refine⟨I .ret,_,?_,wpIn_ret ⟨rfl,l3 .ret⟩⟩
           rw[dD (by rw[vC.state,wT];simp),vC.pending,wT]
          |exit id=>
           refine⟨I (.exit id),_,?_,wpIn_exit ⟨rfl,l3 .ret⟩⟩
           rw[dD (by rw[vC.state,wT];simp),vC.pending,wT]
     ·cases hs
    ·cases hs
  ·cases hs
theorem MB (eE:bX P p):∀n,q8w P (jk p n)∧jg8 P (jk p n)
 |0=>⟨fun ρ nt c ca st bV x _ _ hx=>by simp[jk]at hx,fun ρ nt c ca st bV x _ _ hx=>by simp[jk]at hx⟩
 |n+1=>by
  obtain⟨ih,ihl⟩:=MB eE n
  have loop:jg8 P (jk p (n+1)):=by
   intro ρ nt c ca st bV x hc hn hx C w0 C0 a w ct
   obtain⟨db,C',ω',hle,lb,m,he⟩:=ct
   have hC':∀b r,C'.β b=I r→b<st.heap.length:=fun b r hb=>(m.lt b r hb).2
   refine fX.wR ?_
   simp only[jk]at hx
   split at hx
   ·rename_i iD h1
    refine wpIn_mono (ih ρ nt c ca st iD .normal hc hn h1 C' w0 C0 a w ⟨db,C',ω',aH.le_refl _,lb,m,he⟩) ?_
    intro e a' w' hq
    refine Mz hq (fun _ eO=>?_) (fun h=>absurd rfl h)
    have h2:=eO.gc hC' (fun b r hb=>hC' b r (m.grown.2 b r hb))
    have h3:=ihl ρ nt c ca _ bV x hc hn hx C' w0 C0 a' w' h2
    intro b k cs zJ hb hr
    obtain⟨e,a',w',hq,fj⟩:=h3 b k cs zJ hb hr
    obtain⟨q1,q2,C2,ω2,q4,q5⟩:=hq
    exact⟨e,a',w',⟨q1,q2,C2,ω2,aH.le_trans hle q4,q5⟩,fj⟩
   ·rename_i bB
    refine wpIn_mono (ih ρ nt c ca st bV x hc hn hx C w0 C0 a w ⟨db,C',ω',hle,lb,m,he⟩) ?_
    intro e a' w' hq
    refine Mz hq (fun EV eO=>?_) (fun EV eO=>⟨rfl,eO⟩)
    subst EV
    exact absurd hx (bB bV)
  refine⟨?_,loop⟩
  intro ρ nt c ca st bV x hc hn hx C w0 C0 a w ct
  obtain⟨h,dO⟩:=hc
  cases c with
  |skip=>
   simp only[hE,I.injEq]at dO
   subst dO
   simp only[jk,I.injEq,Hh.injEq]at hx
   obtain⟨rfl,rfl⟩:=hx
   exact wpIn_skip ⟨rfl,ct⟩
  |label l=>
   simp only[hE,I.injEq]at dO
   subst dO
   simp only[jk,I.injEq,Hh.injEq]at hx
   obtain⟨rfl,rfl⟩:=hx
   exact wpIn_label ⟨rfl,ct⟩
  |region id ops draw=>
   simp only[hE]at dO
   have dO:(draw=Gq∧∃sz,LV P nt ops=I sz∧ca=.grow sz)∨Gk P h nt id ops draw=I ca:=by
    split at dO
    ·rename_i sz HN;cases dO;exact .inl ⟨rfl,sz,HN,rfl⟩
    ·exact .inr dO
   rcases dO with⟨rfl,sz,HN,rfl⟩|dO
   ·simp only[jk]at hx
    split at hx
    ·rename_i z xs o1 k o2 e0 e1
     cases iB:(Hy 0 k&&Hc k 1073741824)with
     |false=>simp[iB]at hx
     |true=>
      simp only[iB,cond_true,I.injEq,Hh.injEq]at hx
      obtain⟨rfl,rfl⟩:=hx
      simp only[Ey]at iB
      obtain⟨db,C',ω',hle,lb,m,he⟩:=ct
      refine wpIn_mono (jpj HN m he db lb e0 e1 (Nat.blt_eq.mp iB.1) (Nat.le_of_ble_eq_true iB.2)) ?_
      rintro e a' w' ⟨rfl,q1,C2,ω2,q4,q5⟩
      exact⟨rfl,q1,C2,ω2,aH.le_trans hle q4,q5⟩
    ·cases hx
   have HO:∃na l keep,ca=.region na l keep:=by
    unfold Gk at dO
    split at dO
    ·split at dO
     ·simp only[I.injEq]at dO;exact⟨_,_,_,dO.symm⟩
     ·cases dO
    ·cases dO
   obtain⟨na,l,keep,eu⟩:=HO
   subst eu
   simp only[jk]at hx
   obtain⟨db,C',ω',hle,lb,m,he⟩:=ct
   refine wpIn_mono (je9 eE (cM.HI ih) dO rfl hx m he db lb) ?_
   rintro e a' w' ⟨q1,q2,C2,ω2,q4,q5⟩
   exact⟨q1,q2,C2,ω2,aH.le_trans hle q4,q5⟩
  |seq c1 c2=>
   simp only[hE]at dO
   split at dO
   ·rename_i x1 x2 h1 h2
    cases dO
    have EW:ρ≠En→ya x1=Gn∧ya x2=Gn:=fun hh=>by simpa[ya]using hn hh
    simp only[jk]at hx
    refine wpIn_seq ?_
    split at hx
    ·rename_i iD zB
     refine wpIn_mono (ih ρ nt c1 x1 st iD .normal ⟨h,h1⟩ (fun hh=>(EW hh).1) zB C w0 C0 a w ct) ?_
     intro e a' w' hq
     exact Mz hq (fun _ eO=>ih ρ nt c2 x2 iD bV x ⟨h,h2⟩ (fun hh=>(EW hh).2) hx C w0 C0 a' w' eO) (fun hh=>absurd rfl hh)
    ·rename_i bB
     refine wpIn_mono (ih ρ nt c1 x1 st bV x ⟨h,h1⟩ (fun hh=>(EW hh).1) hx C w0 C0 a w ct) ?_
     intro e a' w' hq
     refine Mz hq (fun EV eO=>?_) (fun EV eO=>⟨rfl,eO⟩)
     subst EV
     exact absurd hx (bB bV)
   ·cases dO
  |cond c c1 c2=>
   simp only[hE]at dO
   split at dO
   ·rename_i c' x1 x2 h0 h1 h2
    cases dO
    have EW:ρ≠En→ya x1=Gn∧ya x2=Gn:=fun hh=>by simpa[ya]using hn hh
    simp only[jk]at hx
    split at hx
    ·rename_i t ht
     have iC:=ct
     obtain⟨db,C',ω',hle,lb,m,he⟩:=ct
     have hO:=(qw he.cq h0 ht).dx
     refine wpIn_cond hO ?_
     cases t with
     |true=>simp only[cond_true]at hx;exact ih ρ nt c1 x1 st bV x ⟨h,h1⟩ (fun hh=>(EW hh).1) hx C w0 C0 a w iC
     |false=>simp only[cond_false]at hx;exact ih ρ nt c2 x2 st bV x ⟨h,h2⟩ (fun hh=>(EW hh).2) hx C w0 C0 a w iC
    ·cases hx
   ·cases dO
  |block id b=>
   simp only[hE]at dO
   obtain⟨b',hb,rfl⟩:=G6.1 dO
   simp only[jk]at hx
   refine wpIn_block ?_
   split at hx
   ·rename_i ga iD zB
    refine wpIn_mono (ih ρ nt b b' st iD (.exit ga) ⟨h,hb⟩ (fun hh=>by simpa[ya]using hn hh) zB C w0 C0 a w ct) ?_
    rintro e a' w' ⟨rfl,eO⟩
    cases hid:G2 ga id with
    |true=>
     simp only[hid,cond_true,I.injEq,Hh.injEq]at hx
     obtain⟨rfl,rfl⟩:=hx
     have:=Gp hid
     subst this
     simp only[Bz,Exit.inBlock,if_true]
     exact⟨rfl,eO⟩
    |false=>
     simp only[hid,cond_false,I.injEq,Hh.injEq]at hx
     obtain⟨rfl,rfl⟩:=hx
     have bB:¬ga=id:=fun hh=>by subst hh;simp at hid
     simp only[Bz,Exit.inBlock,bB,if_false]
     exact⟨rfl,eO⟩
   ·rename_i bB
    refine wpIn_mono (ih ρ nt b b' st bV x ⟨h,hb⟩ (fun hh=>by simpa[ya]using hn hh) hx C w0 C0 a w ct) ?_
    rintro e a' w' ⟨rfl,eO⟩
    cases x with
    |normal=>exact⟨rfl,eO⟩
    |ret=>exact⟨rfl,eO⟩
    |exit ga=>exact absurd hx (bB ga bV)
  |loop b=>
   simp only[hE]at dO
   obtain⟨b',hb,rfl⟩:=G6.1 dO
   exact(loop ρ nt b b' st bV x ⟨h,hb⟩ (fun hh=>by simpa[ya]using hn hh) hx C w0 C0 a w ct).wpIn
  |scope b=>
   simp only[hE]at dO
   obtain⟨b',hb,rfl⟩:=G6.1 dO
   have eR:jk p n b' st=I (x,bV):=by
    simp only[jk]at hx
    split at hx
    ·rename_i iD zB
     cases n with
     |zero=>simp[jk]at zB
     |succ n=>simp only[jk]at hx;rw[zB];exact hx
    ·exact hx
   refine qpa (wpIn_mono (ih ρ nt b b' st bV x ⟨h,hb⟩ (fun hh=>by simpa[ya]using hn hh) eR C w0 C0 a w ct) ?_)
   rintro e a' w' ⟨rfl,eO⟩
   cases x with
   |normal=>exact⟨rfl,eO⟩
   |exit id=>exact⟨rfl,eO⟩
   |ret=>exact⟨rfl,eO⟩
  |rangeFunc f ps x1 x2=>
   simp only[hE]at dO
   split at dO
   ·split at dO
    ·rename_i cJ
     cases dO
     simp only[jk]at hx
     cases ρ with
     |some l=>exact absurd (hn (by simp)) (by simp[ya])
     |none=>exact jmd eE (cM.HI ih) (by assumption) (by assumption) (by assumption) (fun t ht=>by simpa using(Array.all_eq_true'.1 cJ) t (by simpa using ht)) hx ct
    ·cases dO
   ·cases dO
  |exit id=>
   simp only[hE,I.injEq]at dO
   subst dO
   simp only[jk,I.injEq,Hh.injEq]at hx
   obtain⟨rfl,rfl⟩:=hx
   exact wpIn_exit ⟨rfl,ct⟩
  |ret=>
   simp only[hE,I.injEq]at dO
   subst dO
   simp only[jk,I.injEq,Hh.injEq]at hx
   obtain⟨rfl,rfl⟩:=hx
   exact wpIn_ret ⟨rfl,ct⟩
  |_=>
   simp only[hE,I.injEq]at dO
   subst dO
   simp[jk]at hx
theorem q8e (eE:bX P p){n k args v ow}(h:qc p (jk p n) k args=I (v,ow))(hb:qx 0 args=Gn):IsoCall P k args v ow:=
 (Mi eE (cM.HI (MB eE n).1) h hb).2.2
end
def yl {α:Type}(n:Nat)(f:Nat→α):α:=match n with
 |0=>f 0
 |m+1=>f (Nat.succ m)
def Wp {α:Type}(n:Int)(f:Int→α):α:=match n with
 | .ofNat a=>yl a fun a=>f (.ofNat a)
 | .negSucc a=>yl a fun a=>f (.negSucc a)
def HP {α:Type}(b:Bool)(f:Bool→α):α:=match b with
 |true=>f Gn
 |false=>f Gq
def q0w {α:Type}(k:IntKind)(f:IntKind→α):α:=match k with
 | .i8=>f .i8 | .i16=>f .i16 | .i32=>f .i32 | .i64=>f .i64 | .u8=>f .u8 | .u16=>f .u16 | .u32=>f .u32 | .u64=>f .u64
def HQ {α:Type}:List UInt8→(List UInt8→α)→α
 | [],f=>f []
 |c::s,f=>HQ s fun s=>f (c::s)
def Wq {α:Type}(g:Fn)(f:Fn→α):α:=match g with
 | .func k=>yl k fun k=>f (.func k)
 | .yield k=>yl k fun k=>f (.yield k)
 |g=>f g
mutual
def kn {α:Type}:AVal→(AVal→α)→α
 | .bool b,f=>HP b fun b=>f (.bool b)
 | .int k n,f=>q0w k fun k=>Wp n fun n=>f (.int k n)
 | .str s,f=>HQ s fun s=>f (.str s)
 | .list b sz xs,f=>HP b fun b=>yl sz fun sz=>wU xs fun xs=>f (.list b sz xs)
 | .ms b o l,f=>yl b fun b=>yl o fun o=>yl l fun l=>f (.ms b o l)
 | .ptr b o,f=>yl b fun b=>yl o fun o=>f (.ptr b o)
 | .ah v,f=>kn v fun v=>f (.ah v)
 | .dc n,f=>yl n fun n=>f (.dc n)
 | .b4,f=>f .b4
 | .map b,f=>yl b fun b=>f (.map b)
 | .bY,f=>f .bY
 | .fn g a c,f=>Wq g fun g=>wU a fun a=>wU c fun c=>f (.fn g a c)
 | .cz,f=>f .cz
 | .agg cs,f=>wU cs fun cs=>f (.agg cs)
 | .aB cs,f=>wU cs fun cs=>f (.aB cs)
 | .undef,f=>f .undef
 | .any,f=>f .any
 | .aw b bG len,f=>yl b fun b=>yl bG fun bG=>yl len fun len=>f (.aw b bG len)
 | .dQ b bG off,f=>yl b fun b=>yl bG fun bG=>yl off fun off=>f (.dQ b bG off)
def wU {α:Type}:List AVal→(List AVal→α)→α
 | [],f=>f []
 |x::xs,f=>kn x fun x=>wU xs fun xs=>f (x::xs)
end
def HR {α:Type}:Env→(Env→α)→α
 | [],f=>f []
 |(t,v,o)::e,f=>yl t fun t=>kn v fun v=>HP o fun o=>HR e fun e=>f ((t,v,o)::e)
def MC {α:Type}:List (AVal×Bool)→(List (AVal×Bool)→α)→α
 | [],f=>f []
 |(v,o)::e,f=>kn v fun v=>HP o fun o=>MC e fun e=>f ((v,o)::e)
def MD {α:Type}:List (AVal×AVal)→(List (AVal×AVal)→α)→α
 | [],f=>f []
 |(k,v)::e,f=>kn k fun k=>kn v fun v=>MD e fun e=>f ((k,v)::e)
def Wr {α:Type}(x:Option jf)(f:Option jf→α):α:=match x with
 |none=>f En
 |some .normal=>f (I .normal)
 |some (.exit id)=>yl id fun id=>f (I (.exit id))
 |some .ret=>f (I .ret)
def Ws {α:Type}:bh→(bh→α)→α
 | .hole,f=>f .hole
 | .cells cs,f=>MC cs fun cs=>f (.cells cs)
 | .map es,f=>MD es fun es=>f (.map es)
 | .iter s pos,f=>yl pos fun pos=>f (.iter s pos)
 | .gi t e l,f=>HQ l fun l=>f (.gi t e l)
 | .dead,f=>f .dead
 -- (what a vector holds was forced when it was appended)
 | .vec sz bG xs,f=>yl sz fun sz=>yl bG fun bG=>f (.vec sz bG xs)
 | .loop l,f=>HR l.env fun e=>Wr l.pending fun x=>f (.loop ⟨e,l.params,l.assign,l.body,x⟩)
def ME {α:Type}:qh→(qh→α)→α
 | [],f=>f []
 |b::h,f=>Ws b fun b=>ME h fun h=>f (b::h)
def HS {α:Type}(st:bf)(f:bf→α):α:=HR st.env fun e=>ME st.heap fun h=>f ⟨e,h⟩
section
variable {α:Type}
theorem pQ (n:Nat)(f:Nat→α):yl n f=f n:=by cases n<;>rfl
theorem q71 (n:Int)(f:Int→α):Wp n f=f n:=by cases n<;>simp[Wp,pQ]
theorem MF (n:Bool)(f:Bool→α):HP n f=f n:=by cases n<;>rfl
theorem q40 (n:IntKind)(f:IntKind→α):q0w n f=f n:=by cases n<;>rfl
theorem Wt:∀ (s:List UInt8) (f:List UInt8→α),HQ s f=f s
 | [],_=>rfl
 |c::s,f=>by simp only[HQ];rw[Wt s]
theorem jcu (g:Fn)(f:Fn→α):Wq g f=f g:=by cases g<;>simp[Wq,pQ]
mutual
theorem HT:∀ (v:AVal) (f:AVal→α),kn v f=f v
 | .bool b,f=>by simp only[kn,MF]
 | .int k n,f=>by simp only[kn,q40,q71]
 | .str s,f=>by simp only[kn,Wt]
 | .list b sz xs,f=>by simp only[kn,MF,pQ];rw[BT xs]
 | .ms b o l,f=>by simp only[kn,pQ]
 | .ptr b o,f=>by simp only[kn,pQ]
 | .ah v,f=>by simp only[kn];rw[HT v]
 | .dc n,f=>by simp only[kn,pQ]
 | .b4,f=>by simp only[kn]
 | .map b,f=>by simp only[kn,pQ]
 | .bY,f=>by simp only[kn]
 | .fn g a c,f=>by simp only[kn,jcu];rw[BT a,BT c]
 | .cz,f=>by simp only[kn]
 | .agg cs,f=>by simp only[kn];rw[BT cs]
 | .aB cs,f=>by simp only[kn];rw[BT cs]
 | .undef,f=>by simp only[kn]
 | .any,f=>by simp only[kn]
 | .aw b bG len,f=>by simp only[kn,pQ]
 | .dQ b bG off,f=>by simp only[kn,pQ]
theorem BT:∀ (l:List AVal) (f:List AVal→α),wU l f=f l
 | [],f=>by simp only[wU]
 |x::xs,f=>by simp only[wU];rw[HT x,BT xs]
end
theorem Wu:∀ (e:Env) (f:Env→α),HR e f=f e
 | [],_=>rfl
 |(t,v,o)::e,f=>by simp only[HR,pQ,HT,MF];rw[Wu e]
theorem qo6:∀ (e:List (AVal×Bool)) (f:List (AVal×Bool)→α),MC e f=f e
 | [],_=>rfl
 |(v,o)::e,f=>by simp only[MC,HT,MF];rw[qo6 e]
theorem qkt:∀ (e:List (AVal×AVal)) (f:List (AVal×AVal)→α),MD e f=f e
 | [],_=>rfl
 |(v,o)::e,f=>by simp only[MD,HT];rw[qkt e]
theorem q22 (x:Option jf)(f:Option jf→α):Wr x f=f x:=by
 cases x with
 |none=>rfl
 |some x=>cases x<;>simp[Wr,pQ]
theorem q7t (b:bh)(f:bh→α):Ws b f=f b:=by
 cases b<;>simp[Ws,qo6,qkt,pQ,Wt,Wu,q22,BT]
theorem qp2:∀ (h:qh) (f:qh→α),ME h f=f h
 | [],_=>rfl
 |b::h,f=>by simp only[ME,q7t];rw[qp2 h]
theorem Wv (st:bf)(f:bf→α):HS st f=f st:=by simp only[HS,Wu,qp2]
end
def iL (p:zb):Nat→XC
 |0,_,_=>En
 |n+1,c,st=>match c with
  | .skip=>I (.normal,st)
  | .region na ops keep=>match nq p (iL p n) na ops keep st with
   |some (x,bV)=>HS bV fun s=>I (x,s)
   |none=>En
  | .seq a b=>match iL p n a st with
   |some (.normal,bV)=>iL p n b bV
   |r=>r
  | .cond c a b=>match qi st.env c with
   |some (.bool t)=>bif t then iL p n a st else iL p n b st
   |_=>En
  | .block id body=>match iL p n body st with
   |some (.exit ga,bV)=>bif G2 ga id then I (.normal,bV)else I (.exit ga,bV)
   |r=>r
  | .loop body=>match iL p n body st with
   |some (.normal,bV)=>HS (gc st.heap.length bV) fun s=>iL p n (.loop body) s
   |r=>r
  | .rangeFunc f params assign body=>match nu p (iL p n) f params assign body st with
   |some (x,bV)=>HS bV fun s=>I (x,s)
   |none=>En
  | .exit id=>I (.exit id,st)
  | .ret=>I (.ret,st)
  | .grow sz=>match jj 0 st.env,jj 1 st.env with
   |some (.list Gn _ _,_),I (.int .i64 (.ofNat m),_)=>bif Hy 0 m&&Hc m 1073741824 then I (.normal,{ st with env:=[(0,.list Gq sz [],Gn)] })else En
   |_,_=>En
  | .stuck=>En
theorem MG (p:zb):∀n,iL p n=jk p n
 |0=>by funext c st;rfl
 |n+1=>by
  have ih:=MG p n
  funext c st
  cases c with
  |region na ops keep=>
   simp only[iL,jk,ih]
   cases nq p (jk p n) na ops keep st with
   |none=>rfl
   |some r=>simp only[Wv]
  |rangeFunc f ps a b=>
   simp only[iL,jk,ih]
   cases nu p (jk p n) f ps a b st with
   |none=>rfl
   |some r=>simp only[Wv]
  |loop body=>
   simp only[iL,jk,ih,Wv]
   rfl
  |_=>simp only[iL,jk,ih]<;>rfl
inductive dG where
 |leaf (k:Nat) (f:ar)
 |node (m:Nat) (a b:dG)
def dG.find:dG→Nat→Option ar
 | .leaf k f,n=>bif G2 k n then I f else En
 | .node m a b,n=>bif Hy n m then a.find n else b.find n
def dG.All (Q:Nat→ar→Prop):dG→Prop
 | .leaf k f=>Q k f
 | .node _ a b=>a.All Q∧b.All Q
theorem dG.gy {Q}:∀ {t:dG} {k:Nat} {f:ar},t.All Q→t.find k=I f→Q k f
 | .leaf j g,k,f,h,hf=>by
  simp only[dG.find]at hf
  cases hb:G2 j k with
  |false=>simp[hb]at hf
  |true=>
   have:=Gp hb
   subst this
   simp only[hb,cond_true,I.injEq]at hf
   subst hf;exact h
 | .node m a b,k,f,h,hf=>by
  simp only[dG.find]at hf
  cases hb:Hy k m with
  |true=>simp only[hb,cond_true]at hf;exact dG.gy h.1 hf
  |false=>simp only[hb,cond_false]at hf;exact dG.gy h.2 hf
def dG.prog (t:dG)(cO:yI)(maps:UE:=fun _=>En):zb:={ bQ:=t.find,cO:=cO,maps:=maps }
theorem jg9 {p n k args r}(h:qc p (iL p n) k args=r):qc p (jk p n) k args=r:=by
 rw[←MG];exact h
def Kw (w:World):Nat→Nat→Option Value:=fun r o=>(w.cell? ⟨r,o,En⟩).filter (·.oneCell')
theorem j6i {w r o v}(h:w.cell? ⟨r,o,En⟩=I v)(h1:v.oneCell'=Gn):Kw w r o=I v:=by simp[Kw,h,h1]
theorem q9f {w r o v}(h:Kw w r o=I v):w.cell? ⟨r,o,En⟩=I v∧v.oneCell'=Gn:=by
 unfold Kw at h;rw[Option.filter_eq_some_iff]at h;exact h
def qeo (P:Program)(t:TypeId):Bool:=match P.underlying t with
 |some (.struct _)=>Gn
 |some (.array _ _)=>Gn
 |_=>Gq
def MH (P:Program):Nat→List Field→Bool
 |_,[]=>Gn
 |o,f::fs=>f.offset == o&&MH P (o+P.cellsOf f.type) fs
def MI (P:Program)(fs:List Field):Nat:=(fs.map fun f=>P.cellsOf f.type).sum
def rT (P:Program):Nat→TypeId→Bool
 |0,_=>Gq
 |n+1,t=>match P.underlying t with
  |some .bool=>P.cellsOf t == 1
  |some (.int _)=>P.cellsOf t == 1
  |some .string=>P.cellsOf t == 1
  |some (.slice e)=>P.cellsOf t == 1&&rT P n e&&decide (0<P.cellsOf e)
  |some (.struct fs)=>MH P 0 fs.toList&&MI P fs.toList == P.cellsOf t&&fs.toList.all fun f=>rT P n f.type
  |some (.array k e)=>P.cellsOf t == k*P.cellsOf e&&rT P n e
  |_=>Gq
def HU (ty:TypeId→List AVal→Prop):List Field→List AVal→Prop
 | [],cs=>cs=[]
 |f::fs,cs=>∃ys zs,cs=ys++zs∧ty f.type ys∧HU ty fs zs
def HW (ty:List AVal→Prop):Nat→List AVal→Prop
 |0,cs=>cs=[]
 |k+1,cs=>∃ys zs,cs=ys++zs∧ty ys∧HW ty k zs
def z8 (P:Program):Nat→TypeId→List AVal→Prop
 |0,_,_=>False
 |n+1,t,cs=>match P.underlying t with
  |some .bool=>∃b,cs=[.bool b]
  |some (.int k)=>∃m,cs=[.int k m]∧(Lit.int k m).wf=Gn
  |some .string=>∃s,cs=[.str s]∧s.length≤maxLen
  |some (.slice e)=>cs=[.list Gn 0 []]∨∃xs,cs=[.list Gq (P.cellsOf e) xs]∧xs.length≤maxLen∧∀y∈xs,z8 P n e y.flat∧y.isAgg=qeo P e
  |some (.struct fs)=>HU (z8 P n) fs.toList cs
  |some (.array k e)=>HW (z8 P n e) k cs
  |_=>False
section
variable {P:Program}{H:Type}{enc:TypeId×Value→H}{w:World}
theorem q0n:∀ (fs:List Field) (o:Nat) (vs:List Value),MH P o fs=Gn→vs.length=o+MI P fs→vs.drop o=(fs.map fun f=>(vs.drop f.offset).take (P.cellsOf f.type)).flatten
 | [],o,vs,_,hl=>by simp[MI]at hl;simp[hl]
 |f::fs,o,vs,ht,hl=>by
  simp only[MH,Ey,beq_iff_eq]at ht
  obtain⟨rfl,ht⟩:=ht
  have ih:=q0n fs _ vs ht (by simp[MI]at hl ⊢;omega)
  rw[If,Hq,←ih,←Ic,List.take_append_drop]
theorem EX {α β:Type}{f}:∀ {l:List α} {ys:List β},l.mapM f=I ys→ys.length=l.length∧∀(i:Nat) (x:α),l[i]?=I x→∃y,ys[i]?=I y∧f x=I y
 | [],ys,h=>by simp at h;subst h;simp
 |a::l,ys,h=>by
  rw[List.mapM_cons]at h
  cases hf:f a with
  |none=>simp[hf]at h
  |some y=>
   cases hr:l.mapM f with
   |none=>simp[hf,hr]at h
   |some zs=>
    simp[hf,hr]at h
    subst h
    obtain⟨h1,h2⟩:=EX hr
    refine⟨by simp[h1],fun i x hx=>?_⟩
    cases i with
    |zero=>simp at hx;subst hx;exact⟨y,rfl,hf⟩
    |succ i=>simp at hx;obtain⟨z,h3,h4⟩:=h2 i x hx;exact⟨z,by simpa using h3,h4⟩
theorem q2x {base n a vs}(h:w.cells? base a n=I vs):vs.length=n∧∀(i:Nat) (v:Value),vs[i]?=I v→w.cell? (a.add i)=I v:=by
 unfold World.cells? at h
 split at h
 ·obtain⟨h1,h2⟩:=EX h
  rw[Hr]at h1
  refine⟨h1,fun i v hv=>?_⟩
  have hi:i<n:=by rw[←h1];exact(Hb.1 hv).1
  obtain⟨y,h3,h4⟩:=h2 i i (by rw[Gs hi])
  rw[hv]at h3;cases h3;exact h4
 ·cases h
theorem qu7 {ty:TypeId→List AVal→Prop}:∀(fs:List Field) (nJ:List (List Value)),nJ.length=fs.length→(∀(i:Nat) (f:Field) (vs:List Value),fs[i]?=I f→nJ[i]?=I vs→∃cs,aV (.bW (Kw w)) cs vs∧ty f.type cs)→∃cs,aV (.bW (Kw w)) cs nJ.flatten∧HU ty fs cs
 | [],nJ,hl,_=>by
  have:nJ=[]:=G5.1 (by simpa using hl)
  subst this
  exact⟨[],.nil,rfl⟩
 |f::fs,[],hl,_=>by simp at hl
 |f::fs,vs::nJ,hl,h=>by
  obtain⟨ys,h1,h2⟩:=h 0 f vs rfl rfl
  obtain⟨zs,h3,h4⟩:=qu7 fs nJ (by simpa using hl) (fun i f' rz hf hv=>h (i+1) f' rz (by simpa using hf) (by simpa using hv))
  exact⟨ys++zs,aV.append h1 h3,ys,zs,rfl,h2,h4⟩
theorem qs6 {ty}:∀(k:Nat) (nJ:List (List Value)),nJ.length=k→(∀(i:Nat) vs,nJ[i]?=I vs→∃cs,aV (.bW (Kw w)) cs vs∧ty cs)→∃cs,aV (.bW (Kw w)) cs nJ.flatten∧HW ty k cs
 |0,nJ,hl,_=>by
  have:nJ=[]:=G5.1 hl
  subst this
  exact⟨[],.nil,rfl⟩
 |k+1,[],hl,_=>by simp at hl
 |k+1,vs::nJ,hl,h=>by
  obtain⟨ys,h1,h2⟩:=h 0 vs rfl
  obtain⟨zs,h3,h4⟩:=qs6 k nJ (by simpa using hl) (fun i rz hv=>h (i+1) rz (by simpa using hv))
  exact⟨ys++zs,aV.append h1 h3,ys,zs,rfl,h2,h4⟩
theorem q8s (n:Nat):∀(k:Nat) (vs:List Value),vs.length=k*n→vs=((Gy k).map fun i=>(vs.drop (i*n)).take n).flatten
 |0,vs,hl=>by
  have:vs=[]:=G5.1 (by simpa using hl)
  simp[this]
 |k+1,vs,hl=>by
  have ih:=q8s n k (vs.drop n) (by simp[hl,Hp])
  rw[List.range_succ_eq_map,If,Hq,List.map_map]
  have e:(Gy k).map ((fun i=>(vs.drop (i*n)).take n) ∘ Nat.succ)=(Gy k).map fun i=>((vs.drop n).drop (i*n)).take n:=by
   apply List.map_congr_left
   intro i _
   simp only[Function.comp,Ic]
   congr 2
   rw[Hp];omega
  rw[e,←ih]
  simp
theorem Ww:∀ {n:Nat} {t:TypeId} {cs:List AVal},z8 P n t cs→∀x∈cs,qk x=Gn
 |0,_,_,h=>h.elim
 |n+1,t,cs,h=>by
  have fsc:∀(fs:List Field) (cs:List AVal),HU (z8 P n) fs cs→∀x∈cs,qk x=Gn:=by
   intro fs
   induction fs with
   |nil=>intro cs h;simp only[HU]at h;subst h;simp
   |cons f fs ih=>
    rintro cs ⟨ys,zs,rfl,h1,h2⟩ x hx
    rcases Ia.1 hx with hx|hx
    ·exact Ww h1 x hx
    ·exact ih _ h2 x hx
  have rsc:∀(e:TypeId) (k:Nat) (cs:List AVal),HW (z8 P n e) k cs→∀x∈cs,qk x=Gn:=by
   intro e k
   induction k with
   |zero=>intro cs h;simp only[HW]at h;subst h;simp
   |succ k ih=>
    rintro cs ⟨ys,zs,rfl,h1,h2⟩ x hx
    rcases Ia.1 hx with hx|hx
    ·exact Ww h1 x hx
    ·exact ih _ h2 x hx
  simp only[z8]at h
  split at h
  ·obtain⟨b,rfl⟩:=h;simp[qk]
  ·obtain⟨m,rfl,_⟩:=h;simp[qk]
  ·obtain⟨s,rfl,_⟩:=h;simp[qk]
  ·rcases h with rfl|⟨xs,rfl,_⟩<;>simp[qk]
  ·exact fsc _ _ h
  ·exact rsc _ _ _ h
  ·exact h.elim
theorem qwx {n}{t:TypeId}{cs}(h:z8 P n t cs)(ha:qeo P t=Gq):∃x,cs=[x]∧x.isAgg=Gq:=by
 cases n with
 |zero=>exact h.elim
 |succ n=>
  unfold qeo at ha
  simp only[z8]at h
  split at h
  ·obtain⟨b,rfl⟩:=h;exact⟨_,rfl,rfl⟩
  ·obtain⟨m,rfl,_⟩:=h;exact⟨_,rfl,rfl⟩
  ·obtain⟨s,rfl,_⟩:=h;exact⟨_,rfl,rfl⟩
  ·rcases h with rfl|⟨xs,rfl,_⟩<;>exact⟨_,rfl,rfl⟩
  ·rename_i hu;rw[hu]at ha;cases ha
  ·rename_i hu;rw[hu]at ha;cases ha
  ·exact h.elim
theorem read {held}:∀(n fuel:Nat) (t:TypeId) (vs:List Value) (d:DataW H) (ps:List MemPlace),rT P n t=Gn→DataW.trod enc P w 0 (fun _=>Gn) held fuel t vs=I (d,ps) →
  ∃cs,aV (.bW (Kw w)) cs vs∧z8 P n t cs∧cs.length=P.cellsOf t
 |0,_,_,_,_,_,hp,_=>by simp[rT]at hp
 |n+1,0,_,_,_,_,_,h=>by simp[DataW.trod]at h
 |n+1,fuel+1,t,vs,d,ps,hp,h=>by
  simp only[rT]at hp
  simp only[z8]
  simp only[DataW.trod]at h
  cases hu:P.underlying t with
  |none=>simp[hu]at hp
  |some td=>
   rw[hu]at h hp
   cases td with
   |bool=>
    simp only[beq_iff_eq]at hp
    split at h<;>first|cases ‹I _=I _› | skip
    all_goals first|(rename_i heq;cases heq;done)|skip
    ·exact⟨_,.cons _ _ _ _ (.bool _) .nil,⟨_,rfl⟩,by simp[hp]⟩
    ·cases h
   |int k=>
    simp only[beq_iff_eq]at hp
    split at h<;>first|cases ‹I _=I _› | skip
    all_goals first|(rename_i heq;cases heq;done)|skip
    ·split at h
     ·rename_i hk
      obtain⟨rfl,dz⟩:=hk
      exact⟨_,.cons _ _ _ _ (.int _ _) .nil,⟨_,rfl,dz⟩,by simp[hp]⟩
     ·cases h
    ·cases h
   |string=>
    simp only[beq_iff_eq]at hp
    split at h<;>first|cases ‹I _=I _› | skip
    all_goals first|(rename_i heq;cases heq;done)|skip
    ·rename_i s
     split at h
     ·rename_i hk
      refine⟨[.str s.data.toList],.cons _ _ _ _ (aC.str s.data.toList) .nil,⟨_,rfl,?_⟩,by simp[hp]⟩
      simpa using hk
     ·cases h
    ·cases h
   |slice e=>
    simp only[Ey,beq_iff_eq,decide_eq_true_eq]at hp
    obtain⟨⟨kB,MJ⟩,hp3⟩:=hp
    split at h<;>first|cases ‹I _=I _› | skip
    all_goals first|(rename_i heq;cases heq;done)|skip
    ·exact⟨_,.cons _ _ _ _ (.jL 0) .nil,.inl rfl,by simp[kB]⟩
    ·rename_i a len cap
     split at h
     ·rename_i hk
      obtain⟨_,dz,hk3⟩:=hk
      cases he:(Gy len).mapM (fun i=>(w.cells? 0 (a.add (i*P.cellsOf e)) (P.cellsOf e)).bind (DataW.trod enc P w 0 (fun _=>Gn) held fuel e))with
      |none=>simp[he]at h
      |some elems=>
       simp only[he,Hz,if_true]at h
       cases hr:(Gy (cap-len)).mapM (fun j=>(w.cells? 0 (a.add ((len+j)*P.cellsOf e)) (P.cellsOf e)).bind (DataW.trod enc P w 0 (fun _=>Gn) held fuel e))with
       |none=>simp[hr]at h
       |some rest=>
        obtain⟨he1,Mn⟩:=EX he
        obtain⟨wM,rK⟩:=EX hr
        rw[Hr]at he1 wM
        have HX:0<cap→a.spot=En:=fun hc=>by
         have pR:∃z,(w.cells? 0 (a.add (0*P.cellsOf e)) (P.cellsOf e)).bind (DataW.trod enc P w 0 (fun _=>Gn) held fuel e)=I z:=by
          by_cases hl:0<len
          ·obtain⟨y,_,hy⟩:=Mn 0 0 (by rw[Gs hl]);exact⟨y,hy⟩
          ·obtain⟨y,_,hy⟩:=rK 0 0 (by rw[Gs (by omega)])
           have Gt:len=0:=by omega
           subst Gt
           exact⟨y,by simpa using hy⟩
         obtain⟨z0,pR⟩:=pR
         cases MK:w.cells? 0 (a.add (0*P.cellsOf e)) (P.cellsOf e)with
         |none=>rw[MK]at pR;cases pR
         |some us0=>
          obtain⟨d1,d2⟩:=q2x MK
          have dO:=d2 0 _ (List.getElem?_eq_getElem (show 0<us0.length by omega))
          have:=World.cell?_spot dO
          simpa[Addr.add]using this
        by_cases hcap:0<cap
        ·have Mx:=HX hcap
         obtain⟨r,o,sp⟩:=a
         simp only at Mx
         subst Mx
         have elem:∀(i:Nat),i<len→∃y:AVal,cB (.bW (Kw w)) r y.flat (o+i*P.cellsOf e)∧y.flat.length=P.cellsOf e∧z8 P n e y.flat∧y.isAgg=qeo P e:=by
          intro i hi
          obtain⟨z,_,hz⟩:=Mn i i (by rw[Gs hi])
          cases hc:w.cells? 0 ((⟨r,o,En⟩:Addr).add (i*P.cellsOf e)) (P.cellsOf e)with
          |none=>simp[hc]at hz
          |some us=>
           simp only[hc,Hz]at hz
           obtain⟨c1,c2⟩:=q2x hc
           obtain⟨cs,k1,k2,k3⟩:=read n fuel e us z.1 z.2 MJ hz
           have dh:=Bk k1 (Ww k2)
           have hcs:cB (.bW (Kw w)) r cs (o+i*P.cellsOf e):=cB.iI k1 fun j v hj=>by
            have h1:=c2 j v hj
            rw[add_lit,add_lit]at h1
            exact j6i h1 (dh v (G7 hj))
           cases dr:qeo P e with
           |true=>exact⟨.agg cs,hcs,k3,k2,rfl⟩
           |false=>
            obtain⟨x,rfl,hx⟩:=qwx k2 dr
            have hf:x.flat=[x]:=qa4 hx
            exact⟨x,by rw[hf];exact hcs,by rw[hf];exact k3,by rw[hf];exact k2,hx⟩
         have rows:∀(m:Nat) (q:Nat),q+m=len→∃ys:List AVal,ys.length=m∧bu (.bW (Kw w)) r (P.cellsOf e) ys (o+q*P.cellsOf e)∧∀y∈ys,z8 P n e y.flat∧y.isAgg=qeo P e:=by
          intro m
          induction m with
          |zero=>intro q _;exact⟨[],rfl,.fV _ _ _,by simp⟩
          |succ m ih=>
           intro q hq
           obtain⟨ys,y1,y2,y3⟩:=ih (q+1) (by omega)
           obtain⟨y,z1,z2,z3⟩:=elem q (by omega)
           refine⟨y::ys,by simp[y1],.dF _ _ _ _ _ z2 z1 ?_,?_⟩
           ·rw[show o+q*P.cellsOf e+P.cellsOf e=o+(q+1)*P.cellsOf e from by rw[Hp];omega];exact y2
           ·intro x hx
            rcases Ie.1 hx with rfl|hx
            ·exact z3
            ·exact y3 x hx
         obtain⟨ys,y1,y2,y3⟩:=rows len 0 (by omega)
         rw[Nat.zero_mul,Nat.add_zero]at y2
         subst y1
         exact⟨_,.cons _ _ _ _ (.list (P.cellsOf e) ys r o cap dz y2) .nil,.inr ⟨ys,rfl,by omega,y3⟩,by simp[kB]⟩
        ·have MK:cap=0:=by omega
         have Gt:len=0:=by omega
         subst MK;subst Gt
         by_cases mJ:a.spot=En
         ·obtain⟨r,o,sp⟩:=a
          simp only at mJ
          subst mJ
          exact⟨_,.cons _ _ _ _ (.list (P.cellsOf e) [] r o 0 (by simp) (.fV _ _ _)) .nil,.inr ⟨[],rfl,by simp,by simp⟩,by simp[kB]⟩
         ·exact⟨_,.cons _ _ _ _ (.jM (P.cellsOf e) a mJ) .nil,.inr ⟨[],rfl,by simp,by simp⟩,by simp[kB]⟩
     ·cases h
    ·cases h
   |struct fs=>
    simp only[Ey,beq_iff_eq,List.all_eq_true]at hp
    obtain⟨⟨kB,MJ⟩,hp3⟩:=hp
    change (if vs.length=P.cellsOf t then(fs.toList.mapM fun f=>DataW.trod enc P w 0 (fun _=>Gn) held fuel f.type ((vs.drop f.offset).take (P.cellsOf f.type))).map fun xs=>(DataW.agg (xs.map (·.1)),xs.flatMap (·.2))else En)=I (d,ps)at h
    ·split at h
     ·rename_i hl
      cases hm:fs.toList.mapM (fun f=>DataW.trod enc P w 0 (fun _=>Gn) held fuel f.type ((vs.drop f.offset).take (P.cellsOf f.type)))with
      |none=>simp[hm]at h
      |some zs=>
       obtain⟨m1,m2⟩:=EX hm
       have BU:=q0n fs.toList 0 vs kB (by omega)
       obtain⟨cs,k1,k2⟩:=qu7 (w:=w) (ty:=z8 P n) fs.toList (fs.toList.map fun f=>(vs.drop f.offset).take (P.cellsOf f.type)) (by simp) (fun i f us hf hv=>by
        obtain⟨z,_,hz⟩:=m2 i f hf
        have hH:us=(vs.drop f.offset).take (P.cellsOf f.type):=by
         rw[Hv,hf]at hv
         simpa using hv.symm
        subst hH
        obtain⟨cs,q1,q2,_⟩:=read n fuel f.type _ z.1 z.2 (hp3 f (G7 hf)) hz
        exact⟨cs,q1,q2⟩)
       rw[←BU]at k1
       exact⟨cs,by simpa using k1,k2,by have:=k1.length;simp at this;omega⟩
     ·cases h
   |array k e=>
    simp only[Ey,beq_iff_eq]at hp
    obtain⟨kB,MJ⟩:=hp
    change (if vs.length=P.cellsOf t then((Gy k).mapM fun i=>DataW.trod enc P w 0 (fun _=>Gn) held fuel e ((vs.drop (i*P.cellsOf e)).take (P.cellsOf e))).map fun xs=>(DataW.agg (xs.map (·.1)),xs.flatMap (·.2))else En)=I (d,ps)at h
    ·split at h
     ·rename_i hl
      cases hm:(Gy k).mapM (fun i=>DataW.trod enc P w 0 (fun _=>Gn) held fuel e ((vs.drop (i*P.cellsOf e)).take (P.cellsOf e)))with
      |none=>simp[hm]at h
      |some zs=>
       obtain⟨m1,m2⟩:=EX hm
       have BU:=q8s (P.cellsOf e) k vs (by omega)
       obtain⟨cs,k1,k2⟩:=qs6 (w:=w) (ty:=z8 P n e) k ((Gy k).map fun i=>(vs.drop (i*P.cellsOf e)).take (P.cellsOf e)) (by simp) (fun i us hv=>by
        have hi:i<k:=by
         have:=(Hb.1 hv).1
         simpa using this
        obtain⟨z,_,hz⟩:=m2 i i (by rw[Gs hi])
        have hH:us=(vs.drop (i*P.cellsOf e)).take (P.cellsOf e):=by
         rw[Hv,Gs hi]at hv
         simpa using hv.symm
        subst hH
        obtain⟨cs,q1,q2,_⟩:=read n fuel e _ z.1 z.2 MJ hz
        exact⟨cs,q1,q2⟩)
       rw[←BU]at k1
       exact⟨cs,k1,k2,by have:=k1.length;omega⟩
     ·cases h
   |_=>simp at hp
end
open Go.ChangeShapes Go.WideShapes Go.ChangeAt Go.RowKit
section
variable {P:Program}{H:Type}{enc:TypeId×Value→H}{w:World}
def jgk (P:Program)(n:Nat)(t:TypeId)(x:AVal):Prop:=z8 P n t x.flat∧x.isAgg=qeo P t
def qjo (P:Program)(n:Nat):List TypeId→List AVal→Prop
 | [],xs=>xs=[]
 |t::ts,xs=>∃y ys,xs=y::ys∧jgk P n t y∧qjo P n ts ys
theorem jp5 {n}{t:TypeId}{v d ps base}(hp:rT P n t=Gn)(hv:Value.okWide P w .any base t v)(h:DataW.Trod enc P w 0 (fun _=>Gn) Gn t v d ps):∃x,bN (.bW (Kw w)) x v∧jgk P n t x:=by
 obtain⟨fuel,hf⟩:=h
 obtain⟨cs,k1,k2,k3⟩:=read n fuel t _ d ps hp hf
 cases dr:qeo P t with
 |true=>
  have He:∃cells,v=.agg cells:=by
   unfold qeo at dr
   unfold Value.okWide at hv
   split at dr
   ·rename_i fs hu;rw[hu]at hv;obtain⟨c,hc,_⟩:=hv;exact⟨c,hc⟩
   ·rename_i a b hu;rw[hu]at hv;obtain⟨c,hc,_⟩:=hv;exact⟨c,hc⟩
   ·cases dr
  obtain⟨cells,rfl⟩:=He
  exact⟨.agg cs,.agg cs cells.toList k1,k2,dr.symm⟩
 |false=>
  obtain⟨x,rfl,hx⟩:=qwx k2 dr
  have He:v.cells.toList=[v]:=by
   cases v with
   |agg c=>
    exfalso
    unfold Value.okWide at hv
    unfold qeo at dr
    cases n with
    |zero=>simp[rT]at hp
    |succ n=>
     simp only[rT]at hp
     cases hu:P.underlying t with
     |none=>rw[hu]at hp;cases hp
     |some td=>rw[hu]at hp hv dr;cases td<;>first|(simp at hp;done)|(simp at dr;done)|(simp[Cell.okWide,hu,Cell.ok]at hv;done)
   |_=>rfl
  rw[He]at k1
  cases k1 with
  |cons _ _ _ _ h1 _=>exact⟨x,h1,by rw[qa4 hx];exact k2,by rw[hx,dr]⟩
theorem q9d {n}:∀ {ts:List TypeId} {vs:List Value} {ds:List (DataW H)} {ps:List MemPlace},ts.all (rT P n)=Gn→(∀(j:Nat) t v,ts[j]?=I t→vs[j]?=I v→∃base,Value.okWide P w .any base t v)→DataW.TrodAll enc P w 0 (fun _=>Gn) Gn ts vs ds ps →
  ds.length=ts.length∧∃xs,aV (.bW (Kw w)) xs vs∧qjo P n ts xs
 | [],[],[],ps,_,_,_=>⟨rfl,[],.nil,rfl⟩
 | [],[],_::_,ps,_,_,h=>by simp[DataW.TrodAll]at h
 | [],_::_,_,ps,_,_,h=>by simp[DataW.TrodAll]at h
 |_::_,[],_,ps,_,_,h=>by simp[DataW.TrodAll]at h
 |_::_,_::_,[],ps,_,_,h=>by simp[DataW.TrodAll]at h
 |t::ts,v::vs,d::ds,ps,hp,hv,h=>by
  obtain⟨p,q,h1,h2,_⟩:=h
  simp only[Ig,Ey]at hp
  obtain⟨base,hb⟩:=hv 0 t v rfl rfl
  obtain⟨x,k1,k2⟩:=jp5 hp.1 hb h1
  obtain⟨hl,xs,k3,k4⟩:=q9d hp.2 (fun j t' v' ht vE=>hv (j+1) t' v' (by simpa using ht) (by simpa using vE)) h2
  exact⟨by simp[hl],x::xs,.cons _ _ _ _ k1 k3,x,xs,rfl,k2,k4⟩
theorem Ext.frame {w'}(h:Ext w w')(may:MemPlace→Prop):w.keptBut w' may:=by
 refine⟨h.os,h.output,fun i hi=>?_⟩
 rw[h.same i hi]
 split<;>simp_all
theorem Ext.sameAt {w'}(h:Ext w w'){p}(hp:p.block<w.heap.size):w.sameAt w' p:=by
 cases p with
 |cell b o=>exact World.cell?_of_block (w:=w) (h.same b hp)
 |map b=>exact h.same b hp
theorem q4o {w'}(hx:Ext w w')(hl:laidOutB P=Gn):∀ {ts:List TypeId} {vs:List Value} {ds:List (DataW H)} {ps:List MemPlace},ts.all (fun t=>P.readableRec t&&decide (t<P.types.size))=Gn→DataW.TrodAll enc P w 0 (fun _=>Gn) Gn ts vs ds ps →
  DataW.TrodAll enc P w' 0 (fun b=>decide (b<w.heap.size)) Gn ts vs ds ps
 | [],[],[],ps,_,h=>h
 | [],[],_::_,ps,_,h=>by simp[DataW.TrodAll]at h
 | [],_::_,_,ps,_,h=>by simp[DataW.TrodAll]at h
 |_::_,[],_,ps,_,h=>by simp[DataW.TrodAll]at h
 |_::_,_::_,[],ps,_,h=>by simp[DataW.TrodAll]at h
 |t::ts,v::vs,d::ds,ps,hr,h=>by
  obtain⟨p,q,h1,h2,h3⟩:=h
  simp only[Ig,Ey,decide_eq_true_eq]at hr
  have br:∀x∈p,x.block<w.heap.size:=by obtain⟨m,hm⟩:=h1;exact DataW.trod_lt m _ _ _ hm
  exact⟨p,q,WideElems.Trod_stays hl hr.1.1 hr.1.2 h1 (fun x hm=>hx.sameAt (br x hm)) (fun x hm=>by simpa using br x hm),q4o hx hl hr.2 h2,h3⟩
end
def pe (f g:XC):Prop:=∀c st r,f c st=I r→g c st=I r
section
variable {p:zb}{f g:XC}
theorem q1k (h:pe f g){af args hp r}(hr:pI f af args hp=I r):pI g af args hp=I r:=by
 unfold pI at *
 cases hb:Hc args.length af.ntmps with
 |false=>simp[hb]at hr
 |true=>
  simp only[hb,cond_true]at hr ⊢
  split at hr
  ·rename_i st ct;rw[h _ _ _ ct];exact hr
  ·rename_i st ct;rw[h _ _ _ ct];exact hr
  ·cases hr
theorem Wx (h:pe f g){k args hp r}(hr:qm p f k args hp=I r):qm p g k args hp=I r:=by
 unfold qm at *
 split at hr
 ·exact q1k h hr
 ·exact hr
theorem Wy (h:pe f g){k args r}(hr:qc p f k args=I r):qc p g k args=I r:=by
 unfold qc at *
 split at hr
 ·exact hr
 ·split at hr
  ·rename_i v o hh hc;rw[Wx h hc];exact hr
  ·cases hr
theorem q6x (h:pe f g){b args hp r}(hr:kL f b args hp=I r):kL g b args hp=I r:=by
 unfold kL at *
 split at hr
 ·split at hr
  ·split at hr
   ·rename_i st ct
    rw[h _ _ _ ct]
    simp only[]
    split at hr
    ·rename_i l1 iy
     cases kB:l1.pending.isNone with
     |false=>simp[kB]at hr
     |true=>
      simp only[kB,cond_true]at hr ⊢
      split at hr
      ·rename_i x bV iC
       rw[h _ _ _ iC]
       exact hr
      ·cases hr
    ·cases hr
   ·cases hr
  ·cases hr
 ·cases hr
theorem q1l (h:pe f g){h0 e hp md x l r}(hr:yx p f h0 e hp md x l=I r):yx p g h0 e hp md x l=I r:=by
 unfold yx at *
 split at hr
 ·cases md with
  |bW=>
   simp only[]at hr ⊢
   rename_i k first captured vs _ _
   cases hb:qx 0 (first++vs++captured)with
   |false=>rw[hb]at hr;cases hr
   |true=>
    rw[hb]at hr
    simp only[cond_true]at hr ⊢
    split at hr
    ·rename_i v o hc;rw[Wy h hc];exact hr
    ·cases hr
  |red=>
   simp only[]at hr ⊢
   split at hr
   ·rename_i us hf
    cases hb:qx 0 us with
    |false=>rw[hb]at hr;cases hr
    |true=>
     rw[hb]at hr
     simp only[cond_true]at hr ⊢
     split at hr
     ·rename_i v o hc;rw[Wy h hc];exact hr
     ·cases hr
   ·cases hr
  |fT _=>
   simp only[]at hr ⊢
   rename_i k first captured vs _ _ _
   cases he:(first++vs++captured).isEmpty with
   |true=>rw[he]at hr;exact hr
   |false=>
    rw[he]at hr
    simp only[cond_false]at hr ⊢
    cases hb:qx 0 (first++vs++captured)with
    |false=>rw[hb]at hr;cases hr
    |true=>
     rw[hb]at hr
     simp only[cond_true]at hr ⊢
     split at hr
     ·rename_i v o hc;rw[Wy h hc];exact hr
     ·cases hr
  |shr=>
   simp only[]at hr ⊢
   split at hr
   ·rename_i v o hh hc;rw[Wx h hc];exact hr
   ·cases hr
 ·cases md with
  |shr=>
   simp only[]at hr ⊢
   split at hr
   ·rename_i v hh hc;rw[q6x h hc];exact hr
   ·cases hr
  |_=>simp at hr
 ·cases hr
theorem q68 (h:pe f g){h0 al e hp op r}(hr:qf p f h0 al e hp op=I r):qf p g h0 al e hp op=I r:=by
 cases op with
 |call md x l=>exact q1l h hr
 |append rk sz b x y=>cases rk<;>exact hr
 |cx rk sz b z n c=>cases rk<;>exact hr
 |_=>exact hr
theorem qo0 (h:pe f g){h0 o st bV}(hr:yz p f h0 o st=I bV):yz p g h0 o st=I bV:=by
 unfold yz at *
 split at hr
 ·split at hr
  ·rename_i r hs;rw[q68 h hs];exact hr
  ·cases hr
 ·exact hr
 ·cases hr
theorem Wz (h:pe f g){h0}:∀ {l:List b8} {st bV:bf},gm p f h0 l st=I bV→gm p g h0 l st=I bV
 | [],_,_,hr=>hr
 |o::l,st,bV,hr=>by
  simp only[gm]at hr ⊢
  split at hr
  ·rename_i s1 h1;rw[qo0 h h1];exact Wz h hr
  ·cases hr
theorem qpr (h:pe f g){na l k st r}(hr:nq p f na l k st=I r):nq p g na l k st=I r:=by
 unfold nq at *
 split at hr
 ·rename_i s1 h1;rw[Wz h h1];exact hr
 ·cases hr
theorem qsx (h:pe f g){x ps a b st r}(hr:nu p f x ps a b st=I r):nu p g x ps a b st=I r:=by
 unfold nu at *
 cases hn:(ya a&&ya b)with
 |false=>simp[hn]at hr
 |true=>
  simp only[hn,cond_true]at hr ⊢
  split at hr
  ·split at hr
   ·rename_i v o hh hc;rw[Wx h hc];exact hr
   ·cases hr
  ·cases hr
end
theorem qvg (p:zb):∀n,pe (jk p n) (jk p (n+1))
 |0=>fun c st r h=>by simp[jk]at h
 |n+1=>by
  have ih:=qvg p n
  intro c st r h
  cases c with
  |region na l k=>simp only[jk]at h ⊢;exact qpr ih h
  |rangeFunc f ps a b=>simp only[jk]at h ⊢;exact qsx ih h
  |seq a b=>
   rw[jk]at h ⊢
   split at h
   ·rename_i iD h1
    rw[ih _ _ _ h1];exact ih _ _ _ h
   ·rename_i bB
    rw[ih _ _ _ h]
    split
    ·rename_i iD h1;cases h1;exact absurd h (bB _)
    ·rfl
  |cond c a b=>
   rw[jk]at h ⊢
   split at h
   ·rename_i t ht
    cases t
    ·simp only[cond_false]at h ⊢;exact ih _ _ _ h
    ·simp only[cond_true]at h ⊢;exact ih _ _ _ h
   ·cases h
  |block id b=>
   rw[jk]at h ⊢
   split at h
   ·rename_i ga iD h1
    rw[ih _ _ _ h1];exact h
   ·rename_i bB
    rw[ih _ _ _ h]
    split
    ·rename_i ga iD h1;cases h1;exact absurd h (bB _ _)
    ·rfl
  |loop b=>
   rw[jk]at h ⊢
   split at h
   ·rename_i iD h1
    rw[ih _ _ _ h1];exact ih _ _ _ h
   ·rename_i bB
    rw[ih _ _ _ h]
    split
    ·rename_i iD h1;cases h1;exact absurd h (bB _)
    ·rfl
  |_=>exact h
theorem vG (p:zb){n m}(h:n≤m):pe (jk p n) (jk p m):=by
 induction h with
 |refl=>exact fun _ _ _ h=>h
 |step _ ih=>exact fun c st r hr=>qvg p _ c st r (ih c st r hr)
open Classical in
noncomputable def X (p:zb):XC:=fun c st=>if h:∃r n,jk p n c st=I r then I (Classical.choose h)else En
theorem y7 {p c st r}:X p c st=I r↔∃n,jk p n c st=I r:=by
 unfold X
 constructor
 ·intro h
  split at h
  ·rename_i hh
   cases h
   exact Classical.choose_spec hh
  ·cases h
 ·rintro ⟨n,hn⟩
  have hh:∃r n,jk p n c st=I r:=⟨r,n,hn⟩
  rw[dif_pos hh]
  obtain⟨m,hm⟩:=Classical.choose_spec hh
  have h1:=vG p (G1 n m) _ _ _ hn
  have h2:=vG p (Gz n m) _ _ _ hm
  rw[h1]at h2
  exact h2.symm
theorem pS {p}(n:Nat):pe (jk p n) (X p):=fun _ _ _ h=>y7.2 ⟨n,h⟩
section
variable {p:zb}
theorem q4g {af args hp r}(hr:pI (X p) af args hp=I r):∃n,pI (jk p n) af args hp=I r:=by
 have hr0:=hr
 unfold pI at hr
 cases hb:Hc args.length af.ntmps with
 |false=>simp[hb]at hr
 |true=>
  simp only[hb,cond_true]at hr
  have key:∀ {r'},X p af.body ⟨oS 0 args,hp⟩=I r'→∃n,pI (jk p n) af args hp=I r:=by
   intro r' h
   obtain⟨n,hn⟩:=y7.1 h
   refine⟨n,?_⟩
   unfold pI
   rw[hb,hn]
   rw[h]at hr
   exact hr
  split at hr
  ·rename_i st ct;exact key ct
  ·rename_i st ct;exact key ct
  ·cases hr
theorem WA {k args hp r}(hr:qm p (X p) k args hp=I r):∃n,qm p (jk p n) k args hp=I r:=by
 unfold qm at *
 cases h:p.bQ k with
 |none=>rw[h]at hr;exact⟨0,hr⟩
 |some f=>rw[h]at hr;exact q4g hr
theorem ML {k args r}(hr:qc p (X p) k args=I r):∃n,qc p (jk p n) k args=I r:=by
 unfold qc at *
 cases h:p.cO k with
 |some f=>rw[h]at hr;exact⟨0,hr⟩
 |none=>
  rw[h]at hr
  simp only[]at hr ⊢
  split at hr
  ·rename_i v o hh hc
   obtain⟨n,hn⟩:=WA hc
   exact⟨n,by rw[hn];exact hr⟩
  ·cases hr
theorem q7f {b args hp r}(hr:kL (X p) b args hp=I r):∃n,kL (jk p n) b args hp=I r:=by
 unfold kL at hr
 split at hr
 ·rename_i l hl
  split at hr
  ·rename_i e wT hse
   split at hr
   ·rename_i st ct
    split at hr
    ·rename_i l1 iy
     cases kB:l1.pending.isNone with
     |false=>simp[kB]at hr
     |true=>
      simp only[kB,cond_true]at hr
      split at hr
      ·rename_i x bV iC
       obtain⟨n,hn⟩:=y7.1 ct
       obtain⟨m,hm⟩:=y7.1 iC
       refine⟨max n m,?_⟩
       have h1:=vG p (G1 n m) _ _ _ hn
       have h2:=vG p (Gz n m) _ _ _ hm
       simp only[kL,hl,wT,hse,h1,iy,kB,cond_true,h2]
       exact hr
      ·cases hr
    ·cases hr
   ·cases hr
  ·cases hr
 ·cases hr
theorem q3t {h0 e hp md x l r}(hr:yx p (X p) h0 e hp md x l=I r):∃n,yx p (jk p n) h0 e hp md x l=I r:=by
 unfold yx at hr
 split at hr
 ·rename_i k first captured vs e1 e2
  cases md with
  |bW=>
   simp only[]at hr
   cases hb:qx 0 (first++vs++captured)with
   |false=>rw[hb]at hr;cases hr
   |true=>
    rw[hb]at hr
    simp only[cond_true]at hr
    split at hr
    ·rename_i v o hc
     obtain⟨n,hn⟩:=ML hc
     refine⟨n,?_⟩
     simp only[yx,e1,e2,hn]
     rw[hb]
     exact hr
    ·cases hr
  |red=>
   simp only[]at hr
   split at hr
   ·rename_i us hf
    cases hb:qx 0 us with
    |false=>rw[hb]at hr;cases hr
    |true=>
     rw[hb]at hr
     simp only[cond_true]at hr
     split at hr
     ·rename_i v o hc
      obtain⟨n,hn⟩:=ML hc
      refine⟨n,?_⟩
      simp only[yx,e1,e2,hf,hn]
      rw[hb]
      exact hr
     ·cases hr
   ·cases hr
  |fT _=>
   simp only[]at hr
   cases he:(first++vs++captured).isEmpty with
   |true=>exact⟨0,by simp only[yx,e1,e2,he];rw[he]at hr;exact hr⟩
   |false=>
    rw[he]at hr
    simp only[cond_false]at hr
    cases hb:qx 0 (first++vs++captured)with
    |false=>rw[hb]at hr;cases hr
    |true=>
     rw[hb]at hr
     simp only[cond_true]at hr
     split at hr
     ·rename_i v o hc
      obtain⟨n,hn⟩:=ML hc
      refine⟨n,?_⟩
      simp only[yx,e1,e2,hn]
      rw[he,hb]
      exact hr
     ·cases hr
  |shr=>
   simp only[]at hr
   split at hr
   ·rename_i v o hh hc
    obtain⟨n,hn⟩:=WA hc
    refine⟨n,?_⟩
    simp only[yx,e1,e2,hn]
    exact hr
   ·cases hr
 ·rename_i b vs e1 e2
  cases md with
  |shr=>
   simp only[]at hr
   split at hr
   ·rename_i v hh hc
    obtain⟨n,hn⟩:=q7f hc
    refine⟨n,?_⟩
    simp only[yx,e1,e2,hn]
    exact hr
   ·cases hr
  |_=>simp at hr
 ·cases hr
theorem jas {h0 al e hp op r}(hr:qf p (X p) h0 al e hp op=I r):∃n,qf p (jk p n) h0 al e hp op=I r:=by
 cases op with
 |call md x l=>exact q3t hr
 |append rk sz b x y=>cases rk<;>exact⟨0,hr⟩
 |cx rk sz b z n c=>cases rk<;>exact⟨0,hr⟩
 |_=>exact⟨0,hr⟩
theorem q27 {h0 o st bV}(hr:yz p (X p) h0 o st=I bV):∃n,yz p (jk p n) h0 o st=I bV:=by
 unfold yz at *
 cases hg:np st.env o.guard with
 |none=>simp[hg]at hr
 |some b=>
  rw[hg]at hr
  cases b with
  |false=>exact⟨0,hr⟩
  |true=>
   simp only[]at hr ⊢
   split at hr
   ·rename_i r hs
    obtain⟨n,hn⟩:=jas hs
    exact⟨n,by rw[hn];exact hr⟩
   ·cases hr
theorem q6w {h0}:∀ {l:List b8} {st bV:bf},gm p (X p) h0 l st=I bV→∃n,gm p (jk p n) h0 l st=I bV
 | [],_,_,hr=>⟨0,hr⟩
 |o::l,st,bV,hr=>by
  simp only[gm]at hr
  split at hr
  ·rename_i s1 h1
   obtain⟨n,hn⟩:=q27 h1
   obtain⟨m,hm⟩:=q6w hr
   refine⟨max n m,?_⟩
   simp only[gm]
   rw[qo0 (vG p (G1 n m)) hn]
   exact Wz (vG p (Gz n m)) hm
  ·cases hr
theorem q7n {na l k st r}(hr:nq p (X p) na l k st=I r):∃n,nq p (jk p n) na l k st=I r:=by
 unfold nq at hr
 split at hr
 ·rename_i s1 h1
  obtain⟨n,hn⟩:=q6w h1
  exact⟨n,by unfold nq;rw[hn];exact hr⟩
 ·cases hr
theorem jcr {x ps a b st r}(hr:nu p (X p) x ps a b st=I r):∃n,nu p (jk p n) x ps a b st=I r:=by
 unfold nu at hr
 cases hn:(ya a&&ya b)with
 |false=>simp[hn]at hr
 |true=>
  simp only[hn,cond_true]at hr
  split at hr
  ·rename_i k first captured hO
   split at hr
   ·rename_i v o hh hc
    obtain⟨n,jE⟩:=WA hc
    refine⟨n,?_⟩
    unfold nu
    rw[hn,hO]
    simp only[cond_true]
    rw[jE]
    exact hr
   ·cases hr
  ·cases hr
theorem BV {α:Type}{x y:Option α}(h1:∀r,x=I r→y=I r)(h2:∀r,y=I r→x=I r):x=y:=by
 cases x with
 |none=>
  cases y with
  |none=>rfl
  |some r=>exact(h2 r rfl)
 |some r=>exact(h1 r rfl).symm
theorem jw6 {st}:X p .skip st=I (.normal,st):=y7.2 ⟨1,rfl⟩
theorem jx1 {id st}:X p (.exit id) st=I (.exit id,st):=y7.2 ⟨1,rfl⟩
theorem j1w {st}:X p .ret st=I (.ret,st):=y7.2 ⟨1,rfl⟩
theorem jmw {na:Nat}{l:List b8}{k st}:X p (.region na l k) st=nq p (X p) na l k st:=by
 refine BV (fun r h=>?_) (fun r h=>?_)
 ·obtain⟨n,hn⟩:=y7.1 h
  cases n with
  |zero=>simp[jk]at hn
  |succ n=>simp only[jk]at hn;exact qpr (pS n) hn
 ·obtain⟨n,hn⟩:=q7n h
  exact y7.2 ⟨n+1,by simp only[jk];exact hn⟩
theorem WB {x:jx}{ps:List Nat}{a b st}:X p (.rangeFunc x ps a b) st=nu p (X p) x ps a b st:=by
 refine BV (fun r h=>?_) (fun r h=>?_)
 ·obtain⟨n,hn⟩:=y7.1 h
  cases n with
  |zero=>simp[jk]at hn
  |succ n=>simp only[jk]at hn;exact qsx (pS n) hn
 ·obtain⟨n,hn⟩:=jcr h
  exact y7.2 ⟨n+1,by simp only[jk];exact hn⟩
theorem j5d {a b:au}{st:bf}:X p (.seq a b) st=match X p a st with
  |some (.normal,bV)=>X p b bV
  |r=>r:=by
 refine BV (fun r h=>?_) (fun r h=>?_)
 ·obtain⟨n,hn⟩:=y7.1 h
  cases n with
  |zero=>simp[jk]at hn
  |succ n=>
   rw[jk]at hn
   split at hn
   ·rename_i iD h1;rw[pS n _ _ _ h1];exact pS n _ _ _ hn
   ·rename_i bB
    rw[pS n _ _ _ hn]
    split
    ·rename_i iD h1;cases h1;exact absurd hn (bB _)
    ·rfl
 ·split at h
  ·rename_i iD h1
   obtain⟨n,hn⟩:=y7.1 h1
   obtain⟨m,hm⟩:=y7.1 h
   refine y7.2 ⟨max n m+1,?_⟩
   rw[jk,vG p (G1 n m) _ _ _ hn]
   exact vG p (Gz n m) _ _ _ hm
  ·rename_i bB
   obtain⟨n,hn⟩:=y7.1 h
   refine y7.2 ⟨n+1,?_⟩
   rw[jk,hn]
   split
   ·rename_i iD h1;cases h1;exact absurd h (bB _)
   ·rfl
theorem jut {c:jx}{a b:au}{st}:X p (.cond c a b) st=match qi st.env c with
  |some (.bool t)=>bif t then X p a st else X p b st
  |_=>En:=by
 refine BV (fun r h=>?_) (fun r h=>?_)
 ·obtain⟨n,hn⟩:=y7.1 h
  cases n with
  |zero=>simp[jk]at hn
  |succ n=>
   rw[jk]at hn
   split at hn
   ·rename_i t ht
    rw[ht]
    cases t
    ·simp only[cond_false]at hn ⊢;exact pS n _ _ _ hn
    ·simp only[cond_true]at hn ⊢;exact pS n _ _ _ hn
   ·cases hn
 ·split at h
  ·rename_i t ht
   cases t
   ·simp only[cond_false]at h
    obtain⟨n,hn⟩:=y7.1 h
    exact y7.2 ⟨n+1,by rw[jk,ht];exact hn⟩
   ·simp only[cond_true]at h
    obtain⟨n,hn⟩:=y7.1 h
    exact y7.2 ⟨n+1,by rw[jk,ht];exact hn⟩
  ·cases h
theorem jro {id:Nat}{b:au}{st}:X p (.block id b) st=match X p b st with
  |some (.exit ga,bV)=>bif G2 ga id then I (.normal,bV)else I (.exit ga,bV)
  |r=>r:=by
 refine BV (fun r h=>?_) (fun r h=>?_)
 ·obtain⟨n,hn⟩:=y7.1 h
  cases n with
  |zero=>simp[jk]at hn
  |succ n=>
   rw[jk]at hn
   split at hn
   ·rename_i ga iD h1;rw[pS n _ _ _ h1];exact hn
   ·rename_i bB
    rw[pS n _ _ _ hn]
    split
    ·rename_i ga iD h1;cases h1;exact absurd hn (bB _ _)
    ·rfl
 ·split at h
  ·rename_i ga iD h1
   obtain⟨n,hn⟩:=y7.1 h1
   exact y7.2 ⟨n+1,by rw[jk,hn];exact h⟩
  ·rename_i bB
   obtain⟨n,hn⟩:=y7.1 h
   refine y7.2 ⟨n+1,?_⟩
   rw[jk,hn]
   split
   ·rename_i ga iD h1;cases h1;exact absurd h (bB _ _)
   ·rfl
theorem jvh {b:au}{st:bf}:X p (.loop b) st=match X p b st with
  |some (.normal,bV)=>X p (.loop b) (gc st.heap.length bV)
  |r=>r:=by
 refine BV (fun r h=>?_) (fun r h=>?_)
 ·obtain⟨n,hn⟩:=y7.1 h
  cases n with
  |zero=>simp[jk]at hn
  |succ n=>
   rw[jk]at hn
   split at hn
   ·rename_i iD h1;rw[pS n _ _ _ h1];exact pS n _ _ _ hn
   ·rename_i bB
    rw[pS n _ _ _ hn]
    split
    ·rename_i iD h1;cases h1;exact absurd hn (bB _)
    ·rfl
 ·split at h
  ·rename_i iD h1
   obtain⟨n,hn⟩:=y7.1 h1
   obtain⟨m,hm⟩:=y7.1 h
   refine y7.2 ⟨max n m+1,?_⟩
   rw[jk,vG p (G1 n m) _ _ _ hn]
   exact vG p (Gz n m) _ _ _ hm
  ·rename_i bB
   obtain⟨n,hn⟩:=y7.1 h
   refine y7.2 ⟨n+1,?_⟩
   rw[jk,hn]
   split
   ·rename_i iD h1;cases h1;exact absurd h (bB _)
   ·rfl
theorem jt7 {sz:Nat}{st:bf}:X p (.grow sz) st=match jj 0 st.env,jj 1 st.env with
   |some (.list Gn _ _,_),I (.int .i64 (.ofNat m),_)=>bif Hy 0 m&&Hc m 1073741824 then I (.normal,{ st with env:=[(0,.list Gq sz [],Gn)] })else En
   |_,_=>En:=by
 refine BV (fun r h=>?_) (fun r h=>?_)
 ·obtain⟨n,hn⟩:=y7.1 h
  cases n with
  |zero=>simp[jk]at hn
  |succ n=>simp only[jk]at hn;exact hn
 ·exact y7.2 ⟨1,by simp only[jk];exact h⟩
theorem quc {P}(eE:bX P p){k args v ow}(h:qc p (X p) k args=I (v,ow))(hb:qx 0 args=Gn):IsoCall P k args v ow:=by
 obtain⟨n,hn⟩:=ML h
 exact q8e eE hn hb
end
inductive ib where
 |code (c:au)
 |seq (a b:ib)
 |cond (c:jx) (a b:ib)
 |block (id:Nat) (b:ib)
 |loop (b:ib)
 |BE (s:Nat) (c:ib)
 |shut (s sz:Nat) (c:ib)
def ib.erase:ib→au
 | .code c=>c
 | .seq a b=>.seq a.erase b.erase
 | .cond c a b=>.cond c a.erase b.erase
 | .block id b=>.block id b.erase
 | .loop b=>.loop b.erase
 | .BE _ c=>c.erase
 | .shut _ _ c=>c.erase
def WC (P:Program)(w0:World)(K:Nat→Nat→Option Value)(nt:Nat)(st:bf)(a:Act)(w:World):Prop:=
 a.tmps.size=nt∧∃C' ω',Marks C' w0.heap.size a.defers∧ax P C' ω' w0 (.bW K) st.heap w∧ak C' ω' w w0.heap.size st.env a.tmps
theorem WC.gc {P w0 K nt n st a w}(h:WC P w0 K nt st a w):WC P w0 K nt (Abs.gc n st) a w:=by
 obtain⟨h1,C',ω',h2,h3,h4⟩:=h
 unfold Abs.gc
 cases hb:Hc st.heap.length n with
 |true=>exact⟨h1,C',ω',h2,h3,h4⟩
 |false=>
  simp only[cond_false]
  cases lU:(nj n st.env&&zw n (st.heap.take n))with
  |false=>exact⟨h1,C',ω',h2,h3,h4⟩
  |true=>
   simp only[cond_true]
   simp only[Ey]at lU
   have hn:n≤st.heap.length:=by
    rcases Nat.lt_or_ge n st.heap.length with h|h
    ·omega
    ·rw[Hj h]at hb;cases hb
   exact⟨h1,C'.cut n,ω',⟨h2.choose,h2.choose_spec.1,h2.choose_spec.2.1,h2.choose_spec.2.2⟩,h3.gc hn lU.2 (fun b r h=>by cases h),h4.cut lU.1⟩
section
variable {P:Program}
theorem Tabs.table {w}(h:Tabs P w){g}(hg:P.globalNamed ol=I g):Lib.TabIs P w ol .u64 Lib.pow10Tab:=(h g (.inl hg)).2.1 hg
theorem Tabs.length {w}(h:Tabs P w){g}(hg:P.globalNamed yR=I g):∃m,w.cell? ⟨g,0,En⟩=I (.int .i64 m):=(h g (.inr (.inl hg))).2.2.1 hg
theorem HY {k args v}(h:∀(K:Nat→Nat→Option Value) (w:World) (vs:List Value),Tabs P w→(∀r o u,K r o=I u→w.cell? ⟨r,o,En⟩=I u)→aV (.bW K) args vs →
  ∃u,bN (.bW K) v u∧Calls P k ⟨vs⟩ w fun e w'=>e=.returned u∧Ext w w'):IsoCall P k args v Gq:=by
 intro K w vs ht h1 h2 hr
 obtain⟨u,hu,hc⟩:=h K w vs ht h1 hr
 refine callsIn_wide.2 (hc.mono ?_)
 rintro e w' ⟨rfl,hx⟩
 exact⟨u,K,rfl,hx,fun _ _ _ h=>h,fun _ _ _=>rfl,fun r o x hk=>hx.cell (h1 r o x hk),h2,hu,fun h=>by cases h⟩
theorem q8r {C r}:∀ {xs:List AVal} {us:List Value} {o:Nat},aV C xs us→(∀x∈xs,x.flat=[x])→(∀(j:Nat) u,us[j]?=I u→C.K r (o+j)=I u)→bu C r 1 xs o
 | [],_,o,_,_,_=>.fV _ _ _
 |x::xs,us,o,h,hf,hk=>by
  cases h with
  |cons _ _ u us hx hr=>
   have Bg:=hf x (Hm ..)
   refine .dF _ _ _ _ _ (by rw[Bg];rfl) ?_ (q8r hr (fun y hy=>hf y (Hl _ hy)) fun j u hj=>?_)
   ·rw[Bg]
    exact .dL _ _ _ _ u (by have:=hk 0 u rfl;simpa using this) hx (.iw _ _)
   ·have:=hk (j+1) u (by simpa using hj)
    rw[show o+1+j=o+(j+1) by omega]
    exact this
theorem jjn {k args xs us}{t:TypeId}(hf:∀x∈xs,x.flat=[x])(hH:∀K,aV (.bW K) xs us)(h1u:∀u∈us,u.oneCell'=Gn)
  (h:∀(K:Nat→Nat→Option Value) (w:World) (vs:List Value),Tabs P w→(∀r o u,K r o=I u→w.cell? ⟨r,o,En⟩=I u)→aV (.bW K) args vs →
  Calls P k ⟨vs⟩ w fun e w'=>e=.returned (.slice (I ⟨w.heap.size,0,En⟩) xs.length xs.length)∧w'=w.alloc (.cells us.toArray t)):IsoCall P k args (.list Gq 1 xs) Gq:=by
 intro K w vs ht h1 h2 hr
 refine callsIn_wide.2 ((h K w vs ht h1 hr).mono ?_)
 rintro e w' ⟨rfl,rfl⟩
 have hx:Ext w (w.alloc (.cells us.toArray t)):=Ext.alloc w _ (fun c t fr h=>by cases h;rfl)
 have Hu:∀o u,K w.heap.size o=I u→False:=fun o u hk=>by
  have:=h1 _ _ _ hk
  simp only[World.cell?,Array.getElem?_eq_none (Hx _)]at this
  cases this
 refine⟨_,fun r o=>if r=w.heap.size then us[o]? else K r o,rfl,hx,?_,?_,?_,?_,?_,fun h=>by cases h⟩
 ·intro r o x hk
  have bB:r≠w.heap.size:=fun e=>Hu o x (e▸hk)
  simp only[if_neg bB];exact hk
 ·intro r o br
  have bB:r≠w.heap.size:=by omega
  simp only[if_neg bB]
 ·intro r o x hk
  simp only[]at hk
  split at hk
  ·next hr=>
   subst hr
   have hg:(w.alloc (.cells us.toArray t)).heap[w.heap.size]?=I (.cells us.toArray t):=by rw[wH,if_pos rfl]
   simp only[World.cell?]
   rw[hg]
   simpa using hk
  ·exact hx.cell (h1 r o x hk)
 ·intro r o x hk
  simp only[]at hk
  split at hk
  ·exact h1u x (G7 hk)
  ·exact h2 r o x hk
 ·refine .list _ _ _ _ _ (Hx _) (q8r (hH _) hf fun j u hj=>?_)
  show(if w.heap.size=w.heap.size then us[0+j]? else K w.heap.size (0+j))=I u
  rw[if_pos rfl,Nat.zero_add];exact hj
theorem IsoCall.shr {k args v ow}(h:IsoCall P k args v ow)(hb:qx 0 args=Gn)(hp:mG v=Gn)(eE:qh):BA P k args eE v Gq eE:=by
 intro C ω w vs hr m
 have jY:aV (.bW C.K) args vs:=aC.shift (C:=C) (C':=.bW C.K) 0 (fun _ _ _ h=>h) (fun b r br=>by omega) hr hb
 refine CallsIn.mono (h C.K w vs m.tabs m.know m.dv jY) ?_
 rintro e w' ⟨u,K',rfl,q1,q2,q3,q4,q5,q6,_⟩
 refine⟨u,{ C with K:=K' },ω,rfl,⟨q2,fun _ _ h=>h,rfl,fun _ h=>h,fun _ h=>h⟩,m.bW q1 q2 q3 q4 q5,?_,fun h=>by cases h⟩
 exact aC.shift (C:=.bW K') (C':={ C with K:=K' }) 0 (fun _ _ _ h=>h) (fun b r br=>by omega) q6 hp
end
open Go
def EY:List UInt8→List UInt8→Bool
 | [],[]=>Gn
 |a::l,b::m=>bif G2 a.toNat b.toNat then EY l m else Gq
 |_,_=>Gq
theorem qoz:∀ {l m:List UInt8},EY l m=Gn→l=m
 | [],[],_=>rfl
 | [],_::_,h=>by simp[EY]at h
 |_::_,[],h=>by simp[EY]at h
 |a::l,b::m,h=>by
  simp only[EY,Gw]at h
  split at h
  ·next hb=>rw[UInt8.toNat_inj.1 (Gp hb),qoz h]
  ·exact absurd h (by simp)
def MN:Int→Int→Bool
 | .ofNat a,.ofNat b=>G2 a b
 | .negSucc a,.negSucc b=>G2 a b
 |_,_=>Gq
theorem q75:∀ {a b:Int},MN a b=Gn→a=b
 | .ofNat _,.ofNat _,h=>by rw[Gp h]
 | .negSucc _,.negSucc _,h=>by rw[Gp h]
 | .ofNat _,.negSucc _,h=>by simp[MN]at h
 | .negSucc _,.ofNat _,h=>by simp[MN]at h
mutual
def jG:AVal→AVal→Bool
 | .bool a,.bool b=>a == b
 | .int k a,.int k' b=>bif decide (k=k')then MN a b else Gq
 | .str a,.str b=>EY a b
 | .list a n xs,.list b m ys=>bif a == b then bif G2 n m then vH xs ys else Gq else Gq
 | .agg xs,.agg ys=>vH xs ys
 | .aB xs,.aB ys=>vH xs ys
 |_,_=>Gq
def vH:List AVal→List AVal→Bool
 | [],[]=>Gn
 |a::l,b::m=>bif jG a b then vH l m else Gq
 |_,_=>Gq
end
mutual
theorem q0c:∀ {a b:AVal},jG a b=Gn→a=b:=by
 intro a b h
 match a,b with
 | .bool _,.bool _=>simp only[jG,beq_iff_eq]at h;rw[h]
 | .int k a,.int k' b=>
  simp only[jG,Gw,decide_eq_true_eq]at h
  split at h
  ·next hk=>rw[hk,q75 h]
  ·exact absurd h (by simp)
 | .str _,.str _=>simp only[jG]at h;rw[qoz h]
 | .list a n xs,.list b m ys=>
  simp only[jG,Gw,beq_iff_eq]at h
  split at h
  ·next h1=>
   split at h
   ·next h2=>rw[h1,Gp h2,EZ h]
   ·exact absurd h (by simp)
  ·exact absurd h (by simp)
 | .agg _,.agg _=>simp only[jG]at h;rw[EZ h]
 | .aB _,.aB _=>simp only[jG]at h;rw[EZ h]
 | .bool _,.int .. | .bool _,.str _ | .bool _,.list .. | .bool _,.agg _ | .bool _,.aB _=>simp[jG]at h
 | .int ..,.bool _ | .int ..,.str _ | .int ..,.list .. | .int ..,.agg _ | .int ..,.aB _=>simp[jG]at h
 | .str _,.bool _ | .str _,.int .. | .str _,.list .. | .str _,.agg _ | .str _,.aB _=>simp[jG]at h
 | .list ..,.bool _ | .list ..,.int .. | .list ..,.str _ | .list ..,.agg _ | .list ..,.aB _=>simp[jG]at h
 | .agg _,.bool _ | .agg _,.int .. | .agg _,.str _ | .agg _,.list .. | .agg _,.aB _=>simp[jG]at h
 | .aB _,.bool _ | .aB _,.int .. | .aB _,.str _ | .aB _,.list .. | .aB _,.agg _=>simp[jG]at h
 | .ms ..,_ | .ptr ..,_ | .ah _,_ | .dc _,_ | .b4,_ | .map _,_ | .bY,_ | .fn ..,_ | .cz,_ | .undef,_ | .any,_ | .aw ..,_ | .dQ ..,_=>simp[jG]at h
 | .bool _,.ms .. | .bool _,.ptr .. | .bool _,.ah _ | .bool _,.dc _ | .bool _,.b4 | .bool _,.map _ | .bool _,.bY | .bool _,.fn .. | .bool _,.cz | .bool _,.undef | .bool _,.aw .. | .bool _,.dQ ..=>simp[jG]at h
 | .int ..,.ms .. | .int ..,.ptr .. | .int ..,.ah _ | .int ..,.dc _ | .int ..,.b4 | .int ..,.map _ | .int ..,.bY | .int ..,.fn .. | .int ..,.cz | .int ..,.undef | .int ..,.aw .. | .int ..,.dQ ..=>simp[jG]at h
 | .str ..,.ms .. | .str ..,.ptr .. | .str ..,.ah _ | .str ..,.dc _ | .str ..,.b4 | .str ..,.map _ | .str ..,.bY | .str ..,.fn .. | .str ..,.cz | .str ..,.undef | .str ..,.aw .. | .str ..,.dQ ..=>simp[jG]at h
 | .list ..,.ms .. | .list ..,.ptr .. | .list ..,.ah _ | .list ..,.dc _ | .list ..,.b4 | .list ..,.map _ | .list ..,.bY | .list ..,.fn .. | .list ..,.cz | .list ..,.undef | .list ..,.aw .. | .list ..,.dQ ..=>simp[jG]at h
 | .agg ..,.ms .. | .agg ..,.ptr .. | .agg ..,.ah _ | .agg ..,.dc _ | .agg ..,.b4 | .agg ..,.map _ | .agg ..,.bY | .agg ..,.fn .. | .agg ..,.cz | .agg ..,.undef | .agg ..,.aw .. | .agg ..,.dQ ..=>simp[jG]at h
 | .aB ..,.ms .. | .aB ..,.ptr .. | .aB ..,.ah _ | .aB ..,.dc _ | .aB ..,.b4 | .aB ..,.map _ | .aB ..,.bY | .aB ..,.fn .. | .aB ..,.cz | .aB ..,.undef | .aB ..,.aw .. | .aB ..,.dQ ..=>simp[jG]at h
theorem EZ:∀ {l m:List AVal},vH l m=Gn→l=m:=by
 intro l m h
 match l,m with
 | [],[]=>rfl
 | [],_::_=>simp[vH]at h
 |_::_,[]=>simp[vH]at h
 |a::l,b::m=>
  simp only[vH,Gw]at h
  split at h
  ·next h1=>rw[q0c h1,EZ h]
  ·exact absurd h (by simp)
end
abbrev Row:=List AVal×AVal×Bool
def Eo (args:List AVal):List Row→Option (AVal×Bool)
 | []=>En
 |r::l=>bif vH r.1 args then I r.2 else Eo args l
theorem UB {args x}:∀ {l:List Row},Eo args l=I x→(args,x)∈l
 | [],h=>by simp[Eo]at h
 |r::l,h=>by
  simp only[Eo,Gw]at h
  split at h
  ·next hb=>
   simp only[I.injEq]at h
   rw[←EZ hb,←h]
   exact Hm ..
  ·exact Hl _ (UB h)
def Ux (P:Program)(tab:Nat→Option (List Row)):Prop:=
 ∀k l,tab k=I l→∀r∈l,IsoCall P k r.1 r.2.1 r.2.2
def yH:List (Nat×List Row)→Nat→Option (List Row)
 | [],_=>En
 |(k,l)::t,n=>bif G2 k n then I l else yH t n
def WD (P:Program)(k:Nat):List Row→Prop
 | []=>True
 |r::l=>IsoCall P k r.1 r.2.1 r.2.2∧WD P k l
def je0 (P:Program):List (Nat×List Row)→Prop
 | []=>True
 |(k,l)::t=>WD P k l∧je0 P t
theorem q4j {P k}:∀ {l:List Row},WD P k l→∀r∈l,IsoCall P k r.1 r.2.1 r.2.2
 |r::l,h,x,hx=>by
  cases hx with
  |head=>exact h.1
  |tail _ hx=>exact q4j h.2 x hx
theorem Uy {P}:∀ {t:List (Nat×List Row)},je0 P t→Ux P (yH t)
 |(j,m)::t,h,k,l,hk=>by
  simp only[yH,Gw]at hk
  split at hk
  ·next hb=>
   rw[Gp hb]at h
   simp only[I.injEq]at hk
   subst hk
   exact q4j h.1
  ·exact Uy h.2 k l hk
theorem qxl {P p}(h:bX P p){n k b ow h1 es}(hr:qm p (iL p n) k [] []=I (.map b,ow,h1))(hb:h1[b]?=I (.map es))(he:vg 0 es=Gn):Enters P k∧VJ P k es:=
 jag h (cM.HI (MB h n).1) (by rw[←MG];exact hr) hb he
theorem qg {P p}(h:bX P p){n k args v o}(hr:qc p (iL p n) k args=some (v,o))(hb:qx 0 args=true:=by rfl):IsoCall P k args v o:=
 q8e h (jg9 hr) hb
end Go.Abs
