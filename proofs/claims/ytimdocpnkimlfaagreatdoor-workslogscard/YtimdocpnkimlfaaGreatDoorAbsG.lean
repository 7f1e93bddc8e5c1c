/- The growth of an empty slice in slices.Grow. -/
import Derived.Test.YtimdocpnkimlfaaGreatDoorAbsE
import Derived.Lib.AppendZeros
import Derived.ProofKit
import Derived.OpenShut
import Derived.ShutString
set_option linter.unusedVariables false
set_option linter.unusedSimpArgs false
open Option renaming some→I,none→En,map_eq_some_iff→N1,bind_some→Ow
open Bool renaming and_eq_true→E3,true→Ga,false→Ha,cond_eq_ite→Hy
open Nat renaming eq_of_beq_eq_true→Gc,le_max_right→If,le_max_left→Jn,beq→Jp,ble→N9,ble_eq_true_of_le→Od,succ_mul→Oj,le_refl→Ou,blt→Ov
open List renaming getElem?_range→Hb,range→Hz,length_eq_zero_iff→Jq,mem_of_getElem?→N4,getElem?_eq_some_iff→N7,mem_cons_of_mem→Oe,mem_cons_self→Og,flatten_cons→Ok,length_range→Ol,getElem?_map→Om,mem_append→O3,replicate→O4,drop_drop→O6,mem_cons→Qn,map_cons→Qo,all_cons→Qp
open Array renaming getD_eq_getD_getElem?→Hu,ext'→Jg,getElem?_eq_some_iff→N5
open Prod renaming mk→Oc
namespace Go.Abs
section
variable {P:Program}{C C0:az}{ω:Nat→Option Loc}{w w0:World}{hp:ql}{env:Env}{a:Act}{ρ:Option Nat}
theorem yx {a:Act}{d:Nat}{v:Value}(h:d<a.tmps.size):(a.put (I d) v).eval (.tmp d)=v:=by
 simp[Act.eval,Act.put,Hu,h]
theorem ye {a:Act}{d j:Nat}{v:Value}(h:d≠j):(a.put (I d) v).eval (.tmp j)=a.eval (.tmp j):=by
 simp[Act.eval,Act.put,Hu,Array.getElem?_setIfInBounds_ne h]
theorem pe {a:Act}{d:Nat}{v:Value}:(a.put (I d) v).tmps.size=a.tmps.size:=by simp[Act.put]
theorem qT {ops:Array Oper}{Q:Exit→Act→World→Prop}{i d:Nat}{rest:List Nat}{o:Oper}{v:Value}{w':World}(hi:ops[i]?=I o)(hg:o.guard=En)(hd:o.dst=I d)(hn:∀c,o.op≠.defer c)(aY:(execOp a.eval o).run P w=.ok (.value v) w')
  (hk:wpOpsIn (yn ρ) 0 P ops Q rest (a.put (I d) v) w'):wpOpsIn (yn ρ) 0 P ops Q (i::rest) a w:=by
 rw[wpOpsIn_cons]
 unfold wpOpIn
 rw[hi]
 simp only[]
 rw[show Region.wanted o (yielded ops a.tmps)=Ga from by simp[Region.wanted,hg]]
 simp only[if_true]
 refine⟨fun _ _=>trivial,?_⟩
 rw[Oper.semAt_eq _ _ _ hn,aY]
 rw[←hd]at hk
 exact hk
theorem HX {s d:Nat}{o:Oper}(h:A3 s d o=Ga):o.op=.move (.tmp s)∧o.dst=I d∧o.guard=En:=by
 unfold A3 at h
 split at h
 ·rename_i h1 h2 h3
  simp only[E3,beq_iff_eq]at h
  obtain⟨rfl,rfl⟩:=h
  exact⟨h1,h2,h3⟩
 ·cases h
theorem qzb {s d:Nat}{o:Oper}(h:NK s d o=Ga):o.op=.assign (.tmp s)∧o.dst=I d∧o.guard=En:=by
 unfold NK at h
 split at h
 ·rename_i h1 h2 h3
  simp only[E3,beq_iff_eq]at h
  obtain⟨rfl,rfl⟩:=h
  exact⟨h1,h2,h3⟩
 ·cases h
theorem jas {x d:Nat}{o:Oper}{t:TypeId}(h:NL x d o=I t):∃c,o.op=.call c∧c.callee=.builtin .cap∧c.args=#[.tmp x]∧c.argTypes=#[t]∧o.dst=I d∧o.guard=En:=by
 unfold NL at h
 split at h
 ·rename_i c _ h1 h2 h3
  split at h
  ·rename_i h4 h5 h6
   split at h
   ·rename_i hk
    simp only[E3,beq_iff_eq]at hk
    obtain⟨rfl,rfl⟩:=hk
    cases h
    exact⟨c,h1,h4,by apply Jg;simpa using h5,by apply Jg;simpa using h6,h2,h3⟩
   ·cases h
  ·cases h
 ·cases h
theorem jbe {x d:Nat}{o:Oper}{t:TypeId}(h:NM x d o=I t):∃c,o.op=.call c∧c.callee=.builtin .len∧c.args=#[.tmp x]∧c.argTypes=#[t]∧o.dst=I d∧o.guard=En:=by
 unfold NM at h
 split at h
 ·rename_i c _ h1 h2 h3
  split at h
  ·rename_i h4 h5 h6
   split at h
   ·rename_i hk
    simp only[E3,beq_iff_eq]at hk
    obtain⟨rfl,rfl⟩:=hk
    cases h
    exact⟨c,h1,h4,by apply Jg;simpa using h5,by apply Jg;simpa using h6,h2,h3⟩
   ·cases h
  ·cases h
 ·cases h
theorem YM {x h d:Nat}{o:Oper}{t:TypeId}(hh:Hh x h d o=I t):o.op=.slice t (.tmp x) En (I (.tmp h)) En∧o.dst=I d∧o.guard=En:=by
 unfold Hh at hh
 split at hh
 ·rename_i h1 h2 h3
  split at hh
  ·rename_i hk
   simp only[E3,beq_iff_eq]at hk
   obtain⟨⟨rfl,rfl⟩,rfl⟩:=hk
   cases hh
   exact⟨h1,h2,h3⟩
  ·cases hh
 ·cases hh
theorem jbg {x y d:Nat}{o:Oper}{t u:TypeId}(h:NN x y d o=I (t,u)):∃c,o.op=.call c∧c.callee=.builtin .append∧c.args=#[.tmp x,.tmp y]∧c.argTypes=#[t,u]∧o.dst=I d∧o.guard=En:=by
 unfold NN at h
 split at h
 ·rename_i c _ h1 h2 h3
  split at h
  ·rename_i h4 h5 h6
   split at h
   ·rename_i hk
    simp only[E3,beq_iff_eq]at hk
    obtain⟨⟨rfl,rfl⟩,rfl⟩:=hk
    cases h
    exact⟨c,h1,h4,by apply Jg;simpa using h5,by apply Jg;simpa using h6,h2,h3⟩
   ·cases h
  ·cases h
 ·cases h
theorem YN {o:Oper}{t e:TypeId}{x h:Nat}{b:Option Addr}{len cap n:Nat}(ho:o.op=.slice t (.tmp x) En (I (.tmp h)) En)(ht:P.underlying t=I (.slice e)){sz:Nat}(hn:jc P e=I sz)(hx:a.eval (.tmp x)=.slice b len cap)(hh:a.eval (.tmp h)=.int .i64 (n:Int))(hle:n≤cap):
  (execOp a.eval o).run P w=.ok (.value (.slice (if cap=0 then b else b.map (·.add 0)) n cap)) w:=by
 have hb:(0:Int)≤n∧(n:Int)≤cap:=by omega
 simp[execOp,ho,Instr.sliceAt,Instr.slice,run_underlying ht,hx,Instr.sliceBounds,hh,Instr.sliceBound,asIntOf,hle,zk hn]
theorem jds {id nt:Nat}{ops:Array Oper}{sz:Nat}(hg:Hj P nt ops=I sz)(m:aq P C ω w0 C0 hp w)(he:ai C ω w w0.heap.size env a.tmps)(cr:a.tmps.size=nt)(tJ:Marks C w0.heap.size a.defers){z k:Nat}{xs:List AVal}{o1 o2:Bool}
  (h0:ja 0 env=I (.list Ga z xs,o1)) (h1:ja 1 env=I (.int .i64 (.ofNat k),o2)) (hk0:0<k) (fp:k≤1073741824):
  (Code.region id ops Ha).wpIn (yn ρ) 0 P (fun e a' w'=>e=.normal∧cM P w0 C0 C nt ⟨[(0,.list Ha sz [],Ga)],hp⟩ a' w') a w:=by
 unfold Hj at hg
 split at hg
 ·rename_i t u nO
  split at hg
  ·rename_i e kk ht hu
   split at hg
   ·rename_i i hi
    split at hg
    ·rename_i hc
     cases hg
     simp only[E3,decide_eq_true_eq,Option.isSome_iff_exists,beq_iff_eq]at hc
     obtain⟨⟨⟨⟨⟨⟨zv,hz⟩,HY⟩,hby⟩,hnt⟩,⟨zl,gv⟩⟩,ot⟩:=hc
     have tK:jc P e=I i.size:=by simp[jc,hi]
     unfold Xa at nO
     split at nO
     ·rename_i p0 p1 p2 p3 p4 p5 p6 p7 p8 p9 Pl
      split at nO
      ·rename_i t2 t3 tt uu t7 t8 g2 g3 g5 g7 g8
       split at nO
       ·rename_i cY
        cases nO
        simp only[E3,beq_iff_eq]at cY
        obtain⟨⟨⟨⟨⟨⟨⟨⟨c0,c1⟩,c4⟩,c6⟩,c9⟩,x2⟩,x3⟩,x7⟩,x8⟩:=cY
        replace x2:=x2.symm
        replace x3:=x3.symm
        replace x7:=x7.symm
        replace x8:=x8.symm
        subst x2;subst x3;subst x7;subst x8
        have D3:ops=#[p0,p1,p2,p3,p4,p5,p6,p7,p8,p9]:=by apply Jg;simpa using Pl
        subst D3
        obtain⟨v0,q0,r0,_⟩:=he 0 _ h0
        obtain⟨v1,q1,r1,_⟩:=he 1 _ h1
        have rT:v0=.slice En 0 0:=by
         rcases r0.cu with⟨_,_,h⟩|⟨h,_⟩|⟨h,_⟩
         ·exact h
         ·cases h
         ·cases h
        have mb:v1=.int .i64 (k:Int):=by cases r1;rfl
        subst rT;subst mb
        have hl:26≤a.tmps.size:=by omega
        have e0:a.eval (.tmp 0)=.slice En 0 0:=by simp[Act.eval,Hu,q0]
        have e1:a.eval (.tmp 1)=.int .i64 (k:Int):=by simp[Act.eval,Hu,q1]
        obtain⟨a0,a0d,a0g⟩:=HX c0
        obtain⟨a1,a1d,a1g⟩:=HX c1
        obtain⟨cc2,a2,b2,b2a,b2t,a2d,a2g⟩:=jas g2
        obtain⟨a3,a3d,a3g⟩:=YM g3
        obtain⟨a4,a4d,a4g⟩:=HX c4
        obtain⟨cc5,a5,b5,b5a,b5t,a5d,a5g⟩:=jbg g5
        obtain⟨a6,a6d,a6g⟩:=HX c6
        obtain⟨cc7,a7,b7,b7a,b7t,a7d,a7g⟩:=jbe g7
        obtain⟨a8,a8d,a8g⟩:=YM g8
        obtain⟨a9,a9d,a9g⟩:=qzb c9
        refine wpIn_region ?_
        rw[show Hz (#[p0,p1,p2,p3,p4,p5,p6,p7,p8,p9]:Array Oper).size=[0,1,2,3,4,5,6,7,8,9]from rfl]
        refine qT (o:=p0) rfl a0g a0d (by simp[a0]) (v:=.slice En 0 0) (w':=w) (by simp[execOp,a0,e0]) ?_
        refine qT (o:=p1) rfl a1g a1d (by simp[a1]) (v:=.slice En 0 0) (w':=w) (by simp[execOp,a1,ye,e0]) ?_
        refine qT (o:=p2) rfl a2g a2d (by simp[a2]) (v:=.int .i64 0) (w':=w) ?_ ?_
        ·have:(((a.put (I 17) (.slice En 0 0)).put (I 18) (.slice En 0 0))).eval (.tmp 18)=.slice En 0 0:=yx (by rw[pe];omega)
         simp[execOp,a2,resolve,b2,b2a,b2t,invoke,builtin,Builtin.cap_,run_underlying ht,this,goInt]
        refine qT (o:=p3) rfl a3g a3d (by simp[a3]) (v:=.slice En 0 0) (w':=w) ?_ ?_
        ·have fC:((((a.put (I 17) (.slice En 0 0)).put (I 18) (.slice En 0 0))).put (I 19) (.int .i64 0)).eval (.tmp 17)=.slice En 0 0:=by
          rw[ye (by omega),ye (by omega),yx (by omega)]
         have dJ:((((a.put (I 17) (.slice En 0 0)).put (I 18) (.slice En 0 0))).put (I 19) (.int .i64 0)).eval (.tmp 19)=.int .i64 ((0:Nat):Int):=by
          rw[yx (by rw[pe,pe];omega)];rfl
         have:=YN (P:=P) (w:=w) (o:=p3) a3 ht tK fC dJ (Ou 0)
         simpa using this
        refine qT (o:=p4) rfl a4g a4d (by simp[a4]) (v:=.int .i64 (k:Int)) (w':=w) (by simp[execOp,a4,ye,e1]) ?_
        have gy:=Lib.run_append_nil_zeros w t u p5.type e i zv .i64 kk ht hu hi hz k hk0 HY (by omega) (by
         have:k*i.bytes≤1073741824*4096:=Nat.mul_le_mul fp hby
         omega)
        refine qT (o:=p5) rfl a5g a5d (by simp[a5]) (v:=.slice (I ⟨w.heap.size,0,En⟩) k (grownCap w k 0 e)) (w':=w.drew.alloc (.cells (Builtin.zeroCells zv.cells k++Builtin.zeroCells zv.cells (grownCap w k 0 e-k)) e)) ?_ ?_
        ·generalize hA:(((((a.put (I 17) (.slice En 0 0)).put (I 18) (.slice En 0 0)).put (I 19) (.int .i64 0)).put (I 20) (.slice En 0 0)).put (I 21) (.int .i64 (k:Int)))=A
         have jW:A.eval (.tmp 20)=.slice En 0 0:=by
          rw[←hA,ye (by omega),yx (by simp only[pe];omega)]
         have dL:A.eval (.tmp 21)=.int .i64 (k:Int):=by
          rw[←hA,yx (by simp only[pe];omega)]
         simp[execOp,a5,resolve,b5,b5a,b5t,invoke,builtin,jW,dL,gy]
        generalize hW:w.drew.alloc (.cells (Builtin.zeroCells zv.cells k++Builtin.zeroCells zv.cells (grownCap w k 0 e-k)) e)=W
        generalize hA:(((((a.put (I 17) (.slice En 0 0)).put (I 18) (.slice En 0 0)).put (I 19) (.int .i64 0)).put (I 20) (.slice En 0 0)).put (I 21) (.int .i64 (k:Int)))=A
        have YO:A.eval (.tmp 0)=.slice En 0 0:=by rw[←hA];simp only[ye (show(21:Nat)≠0 by omega),ye (show(20:Nat)≠0 by omega),ye (show(19:Nat)≠0 by omega),ye (show(18:Nat)≠0 by omega),ye (show(17:Nat)≠0 by omega),e0]
        have hAs:A.tmps.size=a.tmps.size:=by rw[←hA];simp only[pe]
        have hAd:A.defers=a.defers:=by rw[←hA];rfl
        generalize YP:grownCap w k 0 e=cp
        have hcap:k≤cp:=by rw[←YP];simpa using grownCap_ge w k 0 e
        refine qT (o:=p6) rfl a6g a6d (by simp[a6]) (v:=.slice En 0 0) (w':=W) (by simp[execOp,a6,ye,YO]) ?_
        refine qT (o:=p7) rfl a7g a7d (by simp[a7]) (v:=.int .i64 0) (w':=W) ?_ ?_
        ·generalize hB:((A.put (I 22) (.slice (I ⟨w.heap.size,0,En⟩) k cp)).put (I 23) (.slice En 0 0))=B
         have gX:B.eval (.tmp 23)=.slice En 0 0:=by
          rw[←hB,yx (by rw[pe];omega)]
         simp[execOp,a7,resolve,b7,b7a,b7t,invoke,builtin,Builtin.len_,run_underlying ht,gX,goInt]
        refine qT (o:=p8) rfl a8g a8d (by simp[a8]) (v:=.slice (I ⟨w.heap.size,0,En⟩) 0 cp) (w':=W) ?_ ?_
        ·generalize hB:(((A.put (I 22) (.slice (I ⟨w.heap.size,0,En⟩) k cp)).put (I 23) (.slice En 0 0)).put (I 24) (.int .i64 0))=B
         have gj:B.eval (.tmp 22)=.slice (I ⟨w.heap.size,0,En⟩) k cp:=by
          rw[←hB,ye (by omega),ye (by omega),yx (by omega)]
         have lg:B.eval (.tmp 24)=.int .i64 ((0:Nat):Int):=by
          rw[←hB,yx (by simp only[pe];omega)];rfl
         have:=YN (P:=P) (w:=W) (o:=p8) a8 ht tK gj lg (Nat.zero_le cp)
         rw[if_neg (by omega)]at this
         simp only[Option.map_some,add_lit,Nat.add_zero]at this
         exact this
        refine qT (o:=p9) rfl a9g a9d (by simp[a9]) (v:=.slice (I ⟨w.heap.size,0,En⟩) 0 cp) (w':=W) ?_ ?_
        ·have jI:((((A.put (I 22) (.slice (I ⟨w.heap.size,0,En⟩) k cp)).put (I 23) (.slice En 0 0)).put (I 24) (.int .i64 0)).put (I 25) (.slice (I ⟨w.heap.size,0,En⟩) 0 cp)).eval (.tmp 25)=.slice (I ⟨w.heap.size,0,En⟩) 0 cp:=by
          rw[yx (by simp only[pe];omega)]
         simp[execOp,a9,jI]
        -- the end
        have YQ:=Ext.drew w
        obtain⟨zs,zvr,D4,b8,kH⟩:=yu (C:=C) gv
        have lC:zv.cells.size=i.size:=by
         have h3:zl.length=i.size:=by rw[gv]at ot;simpa using ot
         have h4:=b8.length
         have h5:zvr=zv:=by
          have:=D4 w
          simp[zeroValue,typeInfo,hi,hz]at this
          exact this.symm
         subst h5
         simp only[Array.length_toList]at h4;omega
        have gi:=Hv (d:=.slot 0) (tmps:=a.tmps) (m.ext YQ) (he.ext YQ) (Builtin.zeroCells zv.cells k++Builtin.zeroCells zv.cells (cp-k)) e [] i.size cp [] (by simpa using ay.nil) (by simp) (by simp) (by simp) (by simp) (by
         have hlen:∀n,(Builtin.zeroCells zv.cells n).size=n*i.size:=fun n=>by simp[Builtin.zeroCells,lC]
         rw[Array.size_append,hlen,hlen,←Nat.add_mul]
         exact Nat.mul_le_mul_right _ (by omega)) En
        rw[YP]at hW
        rw[hW]at gi
        have hd0:w.drew.heap.size=w.heap.size:=rfl
        rw[hd0]at gi
        simp only[List.length_nil]at gi
        clear hW YO D4 b8
        generalize hB:(((A.put (I 22) (.slice (I ⟨w.heap.size,0,En⟩) k cp)).put (I 23) (.slice En 0 0)).put (I 24) (.int .i64 0)).put (I 25) (.slice (I ⟨w.heap.size,0,En⟩) 0 cp)=B
        have hBs:B.tmps.size=a.tmps.size:=by rw[←hB];simp only[pe];omega
        have hBd:B.defers=a.defers:=by rw[←hB,←hAd];rfl
        obtain⟨C',ω',k1,k2,k3,k4,k5⟩:=gi
        have pf:cM P w0 C0 C nt ⟨[(0,.list Ha i.size [],Ga)],hp⟩ (B.put (I 0) (.slice (I ⟨w.heap.size,0,En⟩) 0 cp)) W:=by
         refine⟨by rw[pe];omega,C',ω',k1,?_,k2,?_⟩
         ·rw[show(B.put (I 0) (.slice (I ⟨w.heap.size,0,En⟩) 0 cp)).defers=B.defers from rfl,hBd]
          exact tJ.mono k1
         ·intro s x hx
          simp only[ja]at hx
          cases hb:Jp 0 s with
          |false=>simp[hb]at hx
          |true=>
           have:=Gc hb
           subst this
           simp only[hb,cond_true,I.injEq]at hx
           subst hx
           exact⟨_,by simp only[Act.put];rw[Array.getElem?_setIfInBounds_self_of_lt (by omega)],k4,k5⟩
        simp only[wpOpsIn]
        exact⟨trivial,pf⟩
       ·cases nO
      ·cases nO
     ·cases nO
    ·cases hg
   ·cases hg
  ·cases hg
 ·cases hg
end
def fa (ρ:Option Nat)(P:Program)(c:Code)(Q:Exit→Act→World→Prop)(a:Act)(w:World):Prop:=
 ∀(b:Frame) (k:List Item) (cs:List Frame),b.roundOf=(yn ρ).round→(yn ρ).fn b.fn→(yn ρ).room (cs.length+1+0) →
  ∃e a' w',Q e a' w'∧ArrivesIn (Machine.fenced P (yn ρ)) P (lone (b.atR a (.code c::.inLoop c::k)) cs w) b k cs e a' w'
theorem fa.wpIn {ρ P c Q a w}(h:fa ρ P c Q a w):(Code.loop c).wpIn (yn ρ) 0 P Q a w:=by
 intro b k cs tL hb hr
 obtain⟨e,a',w',hq,ek⟩:=h b k cs tL hb hr
 exact⟨e,a',w',hq,.of_steps (.one (fenced_calm hb hr rfl) stepR_loop) ek⟩
theorem fa.sd {ρ P c Q a w}(h:c.wpIn (yn ρ) 0 P (Exit.then (fa ρ P c Q) Q) a w):fa ρ P c Q a w:=by
 intro b k cs tL hb hr
 obtain⟨e,a₁,w₁,hq,ek⟩:=h b (.inLoop c::k) cs tL hb hr
 cases e with
 |normal=>
  obtain⟨e₂,a₂,w₂,D5,sg⟩:=hq b k cs tL hb hr
  exact⟨e₂,a₂,w₂,D5,.of_steps (StepsIn.trans ek (.one (fenced_calm hb hr rfl) stepR_inLoop)) sg⟩
 |exit id=>exact⟨_,a₁,w₁,hq,.pass (x:=.inLoop c) rfl (fun _ _=>.inl (by simp)) ek⟩
 |goto l=>exact⟨_,a₁,w₁,hq,.pass (x:=.inLoop c) rfl (fun _ _=>.inl (by simp)) ek⟩
 |ret=>exact⟨_,a₁,w₁,hq,.pass (x:=.inLoop c) rfl (fun _ _=>.inl (by simp)) ek⟩
 |panic ch=>exact⟨_,a₁,w₁,hq,.pass (x:=.inLoop c) rfl (fun _ _=>.inl (by simp)) ek⟩
 |outgrown=>exact⟨_,a₁,w₁,hq,.pass (x:=.inLoop c) rfl (fun _ _=>.inl (by simp)) ek⟩
section
variable {P:Program}{p:jg}{xc:XC}
def HZ (P:Program)(w0:World)(C0 C:az)(nt:Nat)(x:je)(aN:aV):Exit→Act→World→Prop:=fun e a' w'=>e=vu x∧cM P w0 C0 C nt aN a' w'
def YR (P:Program)(xc:XC):Prop:=
 ∀(ρ:Option Nat) (nt:Nat) (c:Code) (ca:au) (st aN:aV) (x:je),CR P nt c ca→(ρ≠En→za ca=Ga)→xc ca st=I (x,aN) →
  ∀(C:az) (w0:World) (C0:az) (a:Act) (w:World),cM P w0 C0 C nt st a w→c.wpIn (yn ρ) 0 P (HZ P w0 C0 C nt x aN) a w
theorem bV.D6 (h:YR P xc):bV P xc:=
 fun ρ nt c ca st aN x hc hn hx C ω w0 C0 a w m he cr jF=>wpIn_mono (h ρ nt c ca st aN x hc hn hx C w0 C0 a w ⟨cr,C,ω,az.le_refl C,jF,m,he⟩) fun _ _ _ hq=>hq
def YS (P:Program)(xc:XC):Prop:=
 ∀(ρ:Option Nat) (nt:Nat) (c:Code) (ca:au) (st aN:aV) (x:je),CR P nt c ca→(ρ≠En→za ca=Ga)→xc (.loop ca) st=I (x,aN) →
  ∀(C:az) (w0:World) (C0:az) (a:Act) (w:World),cM P w0 C0 C nt st a w→fa ρ P c (HZ P w0 C0 C nt x aN) a w
theorem cM.gc {w0 C0 C nt n st a w}(h:cM P w0 C0 C nt st a w)(hC:∀b r,C.β b=I r→b<n)(Pm:∀b r,C0.β b=I r→b<n):cM P w0 C0 C nt (Abs.gc n st) a w:=by
 unfold Abs.gc
 cases hb:N9 st.heap.length n with
 |true=>exact h
 |false=>
  simp only[cond_false]
  cases iK:(oj n st.env&&yk n (st.heap.take n))with
  |false=>exact h
  |true=>
   simp only[cond_true]
   simp only[E3]at iK
   obtain⟨h1,C',ω',h3,h2,h4,h5⟩:=h
   have hn:n≤st.heap.length:=by
    rcases Nat.lt_or_ge n st.heap.length with h|h
    ·omega
    ·rw[Od h]at hb;cases hb
   exact⟨h1,C'.cut n,ω',az.gU h3 hC,⟨h2.choose,h2.choose_spec.1,h2.choose_spec.2.1,h2.choose_spec.2.2⟩,h4.gc hn iK.2 Pm,h5.cut iK.1⟩
theorem H0 {K w0 C0 C nt x aN Q e a w}(h:HZ P w0 C0 C nt x aN e a w)(hn:x=.normal→cM P w0 C0 C nt aN a w→K a w)(ho:x≠.normal→cM P w0 C0 C nt aN a w→Q (vu x) a w):Exit.then K Q e a w:=by
 obtain⟨rfl,h⟩:=h
 cases x with
 |normal=>exact hn rfl h
 |exit id=>exact ho (by simp) h
 |ret=>exact ho (by simp) h
theorem qzx {b:Frame}{a k cs w c}:step P (lone (b.atR a (.code (.scope c)::k)) cs w)=.next (lone (b.atR a (.code c::.inScope c::k)) cs w):=
 step_lone_go (by simp[stepG,stepG.exec,Frame.atR])
theorem qu1 {b:Frame}{a k cs w c}:step P (lone (b.atR a (.inScope c::k)) cs w)=.next (lone (b.atR a k) cs w):=
 step_lone_go (by simp[stepG,stepG.exec,Frame.atR])
theorem ql0 {F:Fence}{n c Q a w}(h:c.wpIn F n P (Exit.noGoto Q) a w):(Code.scope c).wpIn F n P Q a w:=by
 intro b k cs tL hb hr
 obtain⟨e,a₁,w₁,hq,ek⟩:=h b (.inScope c::k) cs tL hb hr
 have h1:StepsIn (Machine.fenced P F) P (lone (b.atR a (.code (.scope c)::k)) cs w) (lone (b.atR a (.code c::.inScope c::k)) cs w):=.one (fenced_calm hb hr rfl) qzx
 cases e with
 |normal=>exact⟨.normal,a₁,w₁,hq,StepsIn.trans h1 (StepsIn.trans ek (.one (fenced_calm hb hr rfl) qu1))⟩
 |goto l=>exact hq.elim
 |exit id=>
  refine⟨.exit id,a₁,w₁,hq,.of_steps h1 ?_⟩
  refine⟨fun k' hk=>ek.1 k' (by simp[exitTo,hk]),fun Pn gV=>?_⟩
  exact ek.2 Pn (by simp[exitTo,gV])
 |ret=>exact⟨_,a₁,w₁,hq,.of_steps h1 ek⟩
 |panic ch=>exact⟨_,a₁,w₁,hq,.of_steps h1 ek⟩
 |outgrown=>exact⟨_,a₁,w₁,hq,.of_steps h1 ek⟩
theorem aq.Po {C C0 ω w0 w hp}(m:aq P C ω w0 C0 hp w):aq P { C with D:=fun r=>C.D r∨r=w.heap.size } ω w0 C0 hp (w.alloc (.deferred (I []))):=by
 have hx:Ext w (w.alloc (.deferred (I []))):=Ext.alloc w _ (fun c t fr h=>by cases h)
 have m':=m.ext hx
 exact { m' with
  eC:=fun r hr=>by
   rcases hr with hr|hr
   ·exact m'.eC r hr
   ·subst hr;rw[rP,if_pos rfl]
  grown:=⟨m.grown.k,m.grown.b,m.grown.w,fun r h=>.inl (m.grown.d r h),m.grown.t⟩
  box:=fun b x r ew hb=>aX.imp (C:=C) (C':={ C with D:=fun r=>C.D r∨r=w.heap.size }) ⟨fun _ _ _ h=>h,fun _ _ h=>h⟩ rfl (fun _ _ _ ho=>ho) (m'.box b x r ew hb) }
theorem jb2 (dH:bu P p)(hx:bV P xc){f ps x1 x2 f' a1 a2 h nt st aN x C w0 C0 a w}
  (hf:qt f=I f') (h1:yo P h nt x1=I a1) (h2:yo P h nt x2=I a2) (bT:∀t∈ps.toList,t<nt) (hs:kZ p xc f' ps.toList a1 a2 st=I (x,aN)) (bH:cM P w0 C0 C nt st a w):
  (Code.rangeFunc f ps x1 x2).wpIn (yn En) 0 P (HZ P w0 C0 C nt x aN) a w:=by
 obtain⟨cr,Ca,ω,hle,tJ,m,he⟩:=bH
 unfold kZ at hs
 cases H2:(za a1&&za a2)with
 |false=>simp[H2]at hs
 |true=>
  simp only[H2,cond_true]at hs
  simp only[E3]at H2
  split at hs
  ·rename_i k first captured lH
   have tE:=qu he.bJ hf lH
   generalize DE:a.eval f=fv at tE
   cases tE with
   |fn g g' _ _ as bs hg ha hb=>
    simp only[eN]at hg
    subst hg
    split at hs
    ·rename_i _r1 _r2 h' DB
     split at hs
     ·rename_i l' HD
      cases ig:yk st.heap.length (h'.take st.heap.length)with
      |false=>simp[ig]at hs
      |true=>
       simp only[ig,cond_true]at hs
       ·obtain⟨kN,lJ⟩:=DA dH hx DB
        -- the loop's record,and the block before it
        refine wpIn_rangeFunc fun fn _=>?_
        generalize YT:({ state:=.ready,pending:=En,fn:=fn,tmps:=a.tmps,params:=ps,assign:=x1,body:=x2,defers:=w.heap.size }:Loop)=lp
        have mD:=(m.Po).holes 1
        have eD:ai { Ca with D:=fun r=>Ca.D r∨r=w.heap.size } ω (w.alloc (.deferred (I []))) w0.heap.size st.env a.tmps:=fun s y hy=>
         let ⟨v,k1,k2,k3⟩:=he.ext (Ext.alloc w _ (fun c t fr h=>by cases h)) s y hy
         ⟨v,k1,bp.oQ k2,k3⟩
        have D7:(st.heap++O4 1 .hole)[st.heap.length]?=I .hole:=by simp
        have D8:(w.alloc (.deferred (I []))).heap.size=w.heap.size+1:=by rw[World.size_alloc]
        obtain⟨mB,eB,lL⟩:=mD.aG eD D7 (.loop lp) (fun c t fr h=>by cases h) (.loop ⟨st.env,ps.toList,a1,a2,En⟩) (by
         intro C' ω' w' cg HL
         subst YT
         exact⟨_,HL,{ assign:=⟨h,by rw[cr];exact h1⟩,body:=⟨h,by rw[cr];exact h2⟩,params:=rfl,fits:=fun t ht=>by rw[cr];exact bT t ht,nr:=H2,env:=fun s y hy=>let ⟨v,k1,k2,_⟩:=eD s y hy; ⟨v,k1,ay.mono cg k2⟩,state:=rfl,pending:=rfl }⟩)
        have aZ:(st.heap++O4 1 aJ.hole).set st.heap.length (.loop ⟨st.env,ps.toList,a1,a2,En⟩)=st.heap++[.loop ⟨st.env,ps.toList,a1,a2,En⟩]:=by
         simp
        rw[aZ]at mB
        rw[D8]at mB eB lL
        generalize YU:az.box { Ca with D:=fun r=>Ca.D r∨r=w.heap.size } st.heap.length (w.heap.size+1)=CB at mB eB lL
        generalize hwB:(w.alloc (.deferred (I []))).alloc (.loop lp)=wB at mB eB
        have D9:CB.β st.heap.length=I (w.heap.size+1):=by rw[←YU];simp[az.box]
        have YV:∀r,Ca.D r∨r=w.heap.size→CB.D r:=fun r hr=>by rw[←YU];exact hr
        have YW:∀ {i:jR},ay Ca i→ay CB i:=fun hr=>ay.mono lL (ay.imp (C:=Ca) (C':={ Ca with D:=fun r=>Ca.D r∨r=w.heap.size }) ⟨fun _ _ _ h=>h,fun _ _ h=>h⟩ hr)
        have Ea:Ca.le CB:=⟨lL.k,lL.b,lL.w,fun r hr=>YV r (.inl hr),lL.t⟩
        have dF:aF (CB.shared ω w0) (first++[.fn (.yield st.heap.length) [] []]++captured) (as++[Value.func (.yield (w.heap.size+1)) ⟨[]⟩ ⟨[]⟩]++bs):=by
         refine ay.imp (C:=CB) (C':=CB.shared ω w0) ⟨fun _ _ _ h=>h,fun _ _ h=>h⟩ ?_
         exact aF.append (aF.append (YW ha) (.cons _ _ _ _ (.fn _ _ _ _ _ _ ⟨_,D9,rfl⟩ .nil .nil) .nil)) (YW hb)
        refine⟨w.heap.size+1,[{ target:=.collected w.heap.size,args:=#[] }],wB,{ target:=.fn (.func k) ⟨bs⟩,args:=⟨as⟩++#[Value.func (.yield (w.heap.size+1)) #[] #[]] },wB,k,⟨as++[Value.func (.yield (w.heap.size+1)) ⟨[]⟩ ⟨[]⟩]++bs⟩,wB,?_,?_,fun _ _=>trivial,?_,fun hd=>by simp[yn,Fence.wide]at hd,?_⟩
        ·subst YT
         rw[←hwB]
         simp[Instr.enterLoop,yn,Fence.wide,D8]
        ·have hc:a.eval (.const (Value.func (.yield (w.heap.size+1)) #[] #[]))=Value.func (.yield (w.heap.size+1)) #[] #[]:=rfl
         simp[resolve,DE,Deferred.ofValue,hc]
        ·have hq:(⟨as⟩:Array Value)++#[Value.func (.yield (w.heap.size+1)) #[] #[]]++(⟨bs⟩:Array Value)=⟨as++[Value.func (.yield (w.heap.size+1)) ⟨[]⟩ ⟨[]⟩]++bs⟩:=by
          apply Jg;simp
         simp only[invoke,hq]
         exact Ya kN _ _
        ·refine X9.2 (CallsIn.mono (lJ _ _ _ _ dF (OS mB)) ?_)
         rintro ee w' ⟨u,C1,ω1,rfl,q1,q2,_,_⟩
         obtain⟨m2,e2⟩:=Yl mB eB q2 q1
         have vK:CB.le (C1.back CB):=HM q1
         have oU:(C1.back CB).β st.heap.length=I (w.heap.size+1):=vK.b _ _ D9
         obtain⟨kO,oV,qQ⟩:=HO m2 HD oU
         have hlen:st.heap.length<h'.length:=(m2.lt _ _ oU).2
         have Pm:∀b r,C0.β b=I r→b<st.heap.length:=fun b r hb=>(m.lt b r (m.grown.b b r hb)).2
         have m3:=m2.gc (Nat.le_of_lt hlen) ig Pm
         have vD:(Instr.getLoop (w.heap.size+1)).run P w'=.ok kO w':=by simp[Instr.getLoop,yw oV (by simp)]
         have oZ:=(N5.1 oV).1
         have hu:lG w' (zy w' (w.heap.size+1) (.loop { kO with state:=.exhausted })) (w.heap.size+1):=Bb oZ (by simp)
         have jV:∀cs t fr,w'.heap[w.heap.size+1]?≠I (.cells cs t fr):=fun cs t fr hh=>by rw[oV]at hh;cases hh
         have Pp:∀b,((C1.back CB).cut st.heap.length).β b≠I (w.heap.size+1):=fun b hb=>by
          simp only[az.cut]at hb
          split at hb
          ·rename_i aC
           have:=m2.inj b st.heap.length _ hb oU
           omega
          ·cases hb
         have dm:kO.state≠.busy→(Instr.endLoop (w.heap.size+1)).run P w'=.ok kO.pending (zy w' (w.heap.size+1) (.loop { kO with state:=.exhausted })):=fun Bg=>by
          have eO:(kO.state == .busy)=Ha:=by
           cases bH:kO.state<;>first|rfl|exact absurd bH Bg
          have hs2:=tA (P:=P) (x:=.loop { kO with state:=.exhausted }) oV (by simp)
          simp only[Instr.endLoop,Sem.run_bind,vD,Result.andThen_ok,eO,Bool.false_eq_true,if_false,Sem.run_ite,hs2,Sem.run_pure]
         have m4:=m3.other (D':=((C1.back CB).cut st.heap.length).D) hu Pp (Nat.le_trans m.size (by omega)) jV (fun kk hk=>⟨hk,fun mr=>by
          have:=m3.eC kk hk
          rw[mr,oV]at this;cases this⟩) m3.grown.d
         have vL:Ca.le ((C1.back CB).cut st.heap.length):=az.gU (az.le_trans Ea vK) (fun b r hb=>(m.lt b r hb).2)
         have e4:ai ((C1.back CB).cut st.heap.length) (yz ω ω1 wB.heap.size) (zy w' (w.heap.size+1) (.loop { kO with state:=.exhausted })) w0.heap.size st.env a.tmps:=by
          intro s y hy
          obtain⟨v,k1,k2,k3⟩:=he s y hy
          obtain⟨v',j1,j2,j3⟩:=e2 s y hy
          rw[k1]at j1
          cases j1
          exact⟨v,k1,ay.mono vL k2,fun hh=>(((j3 hh).cut _).jE (D':=((C1.back CB).cut st.heap.length).D) hu jV)⟩
         have pf:∀(xx:je),cM P w0 C0 C nt { st with heap:=h'.take st.heap.length } { a with defers:=[{ target:=.collected w.heap.size,args:=#[] }]++a.defers } (zy w' (w.heap.size+1) (.loop { kO with state:=.exhausted })):=by
          intro _
          refine⟨cr,_,_,az.le_trans hle vL,?_,m4,e4⟩
          obtain⟨rs,g1,g2,g3⟩:=tJ
          refine⟨w.heap.size::rs,by rw[g1];rfl,List.nodup_cons.2 ⟨fun hm=>?_,g2⟩,?_⟩
          ·have:=(N5.1 (m.eC _ (g3 _ hm).1)).1;omega
          ·intro r hr
           rcases Qn.1 hr with rfl|hr
           ·exact⟨vK.d _ (YV _ (.inr rfl)),m.size⟩
           ·exact⟨vL.d _ (g3 r hr).1,(g3 r hr).2⟩
         simp only[rangePost]
         split at hs
         ·rename_i si
          cases hs
          refine⟨En,_,?_,rfl,pf .normal⟩
          rw[dm (by rw[qQ.state,si];simp),qQ.pending,si]
         ·cases hs
         ·rename_i xx Oh si
          cases hs
          cases x with
          |normal=>exact absurd rfl Oh
          |ret=>
           refine⟨I .ret,_,?_,wpIn_ret ⟨rfl,pf .ret⟩⟩
           rw[dm (by rw[qQ.state,si];simp),qQ.pending,si]
          |exit id=>
           refine⟨I (.exit id),_,?_,wpIn_exit ⟨rfl,pf .ret⟩⟩
           rw[dm (by rw[qQ.state,si];simp),qQ.pending,si]
     ·cases hs
    ·cases hs
  ·cases hs
theorem H3 (dH:bu P p):∀n,YR P (ar p n)∧YS P (ar p n)
 |0=>⟨fun ρ nt c ca st aN x _ _ hx=>by simp[ar]at hx,fun ρ nt c ca st aN x _ _ hx=>by simp[ar]at hx⟩
 |n+1=>by
  obtain⟨ih,ihl⟩:=H3 dH n
  have loop:YS P (ar p (n+1)):=by
   intro ρ nt c ca st aN x hc hn hx C w0 C0 a w bH
   obtain⟨cr,C',ω',hle,jF,m,he⟩:=bH
   have YX:∀b r,C'.β b=I r→b<st.heap.length:=fun b r hb=>(m.lt b r hb).2
   refine fa.sd ?_
   simp only[ar]at hx
   split at hx
   ·rename_i fb h1
    refine wpIn_mono (ih ρ nt c ca st fb .normal hc hn h1 C' w0 C0 a w ⟨cr,C',ω',az.le_refl _,jF,m,he⟩) ?_
    intro e a' w' hq
    refine H0 hq (fun _ dR=>?_) (fun h=>absurd rfl h)
    have h2:=dR.gc YX (fun b r hb=>YX b r (m.grown.2 b r hb))
    have h3:=ihl ρ nt c ca _ aN x hc hn hx C' w0 C0 a' w' h2
    intro b k cs tL hb hr
    obtain⟨e,a',w',hq,ek⟩:=h3 b k cs tL hb hr
    obtain⟨q1,q2,C2,ω2,q4,q5⟩:=hq
    exact⟨e,a',w',⟨q1,q2,C2,ω2,az.le_trans hle q4,q5⟩,ek⟩
   ·rename_i aS
    refine wpIn_mono (ih ρ nt c ca st aN x hc hn hx C w0 C0 a w ⟨cr,C',ω',hle,jF,m,he⟩) ?_
    intro e a' w' hq
    refine H0 hq (fun Eb dR=>?_) (fun Eb dR=>⟨rfl,dR⟩)
    subst Eb
    exact absurd hx (aS aN)
  refine⟨?_,loop⟩
  intro ρ nt c ca st aN x hc hn hx C w0 C0 a w bH
  obtain⟨h,cY⟩:=hc
  cases c with
  |skip=>
   simp only[yo,I.injEq]at cY
   subst cY
   simp only[ar,I.injEq,Oc.injEq]at hx
   obtain⟨rfl,rfl⟩:=hx
   exact wpIn_skip ⟨rfl,bH⟩
  |label l=>
   simp only[yo,I.injEq]at cY
   subst cY
   simp only[ar,I.injEq,Oc.injEq]at hx
   obtain⟨rfl,rfl⟩:=hx
   exact wpIn_label ⟨rfl,bH⟩
  |region id ops draw=>
   simp only[yo]at cY
   have cY:(draw=Ha∧∃sz,Hj P nt ops=I sz∧ca=.grow sz)∨CP P h nt id ops draw=I ca:=by
    split at cY
    ·rename_i sz Pq;cases cY;exact .inl ⟨rfl,sz,Pq,rfl⟩
    ·exact .inr cY
   rcases cY with⟨rfl,sz,Pq,rfl⟩|cY
   ·simp only[ar]at hx
    split at hx
    ·rename_i z xs o1 k o2 e0 e1
     cases mr:(Ov 0 k&&N9 k 1073741824)with
     |false=>simp[mr]at hx
     |true=>
      simp only[mr,cond_true,I.injEq,Oc.injEq]at hx
      obtain⟨rfl,rfl⟩:=hx
      simp only[E3]at mr
      obtain⟨cr,C',ω',hle,jF,m,he⟩:=bH
      refine wpIn_mono (jds Pq m he cr jF e0 e1 (Nat.blt_eq.mp mr.1) (Nat.le_of_ble_eq_true mr.2)) ?_
      rintro e a' w' ⟨rfl,q1,C2,ω2,q4,q5⟩
      exact⟨rfl,q1,C2,ω2,az.le_trans hle q4,q5⟩
    ·cases hx
   have Ec:∃na l keep,ca=.region na l keep:=by
    unfold CP at cY
    split at cY
    ·split at cY
     ·simp only[I.injEq]at cY;exact⟨_,_,_,cY.symm⟩
     ·cases cY
    ·cases cY
   obtain⟨na,l,keep,dy⟩:=Ec
   subst dy
   simp only[ar]at hx
   obtain⟨cr,C',ω',hle,jF,m,he⟩:=bH
   refine wpIn_mono (q5p dH (bV.D6 ih) cY rfl hx m he cr jF) ?_
   rintro e a' w' ⟨q1,q2,C2,ω2,q4,q5⟩
   exact⟨q1,q2,C2,ω2,az.le_trans hle q4,q5⟩
  |seq c1 c2=>
   simp only[yo]at cY
   split at cY
   ·rename_i x1 x2 h1 h2
    cases cY
    have Br:ρ≠En→za x1=Ga∧za x2=Ga:=fun hh=>by simpa[za]using hn hh
    simp only[ar]at hx
    refine wpIn_seq ?_
    split at hx
    ·rename_i fb tD
     refine wpIn_mono (ih ρ nt c1 x1 st fb .normal ⟨h,h1⟩ (fun hh=>(Br hh).1) tD C w0 C0 a w bH) ?_
     intro e a' w' hq
     exact H0 hq (fun _ dR=>ih ρ nt c2 x2 fb aN x ⟨h,h2⟩ (fun hh=>(Br hh).2) hx C w0 C0 a' w' dR) (fun hh=>absurd rfl hh)
    ·rename_i aS
     refine wpIn_mono (ih ρ nt c1 x1 st aN x ⟨h,h1⟩ (fun hh=>(Br hh).1) hx C w0 C0 a w bH) ?_
     intro e a' w' hq
     refine H0 hq (fun Eb dR=>?_) (fun Eb dR=>⟨rfl,dR⟩)
     subst Eb
     exact absurd hx (aS aN)
   ·cases cY
  |cond c c1 c2=>
   simp only[yo]at cY
   split at cY
   ·rename_i c' x1 x2 h0 h1 h2
    cases cY
    have Br:ρ≠En→za x1=Ga∧za x2=Ga:=fun hh=>by simpa[za]using hn hh
    simp only[ar]at hx
    split at hx
    ·rename_i t ht
     have gx:=bH
     obtain⟨cr,C',ω',hle,jF,m,he⟩:=bH
     have lH:=(qu he.bJ h0 ht).cH
     refine wpIn_cond lH ?_
     cases t with
     |true=>simp only[cond_true]at hx;exact ih ρ nt c1 x1 st aN x ⟨h,h1⟩ (fun hh=>(Br hh).1) hx C w0 C0 a w gx
     |false=>simp only[cond_false]at hx;exact ih ρ nt c2 x2 st aN x ⟨h,h2⟩ (fun hh=>(Br hh).2) hx C w0 C0 a w gx
    ·cases hx
   ·cases cY
  |block id b=>
   simp only[yo]at cY
   obtain⟨b',hb,rfl⟩:=N1.1 cY
   simp only[ar]at hx
   refine wpIn_block ?_
   split at hx
   ·rename_i eM fb tD
    refine wpIn_mono (ih ρ nt b b' st fb (.exit eM) ⟨h,hb⟩ (fun hh=>by simpa[za]using hn hh) tD C w0 C0 a w bH) ?_
    rintro e a' w' ⟨rfl,dR⟩
    cases hid:Jp eM id with
    |true=>
     simp only[hid,cond_true,I.injEq,Oc.injEq]at hx
     obtain⟨rfl,rfl⟩:=hx
     have:=Gc hid
     subst this
     simp only[vu,Exit.inBlock,if_true]
     exact⟨rfl,dR⟩
    |false=>
     simp only[hid,cond_false,I.injEq,Oc.injEq]at hx
     obtain⟨rfl,rfl⟩:=hx
     have aS:¬eM=id:=fun hh=>by subst hh;simp at hid
     simp only[vu,Exit.inBlock,aS,if_false]
     exact⟨rfl,dR⟩
   ·rename_i aS
    refine wpIn_mono (ih ρ nt b b' st aN x ⟨h,hb⟩ (fun hh=>by simpa[za]using hn hh) hx C w0 C0 a w bH) ?_
    rintro e a' w' ⟨rfl,dR⟩
    cases x with
    |normal=>exact⟨rfl,dR⟩
    |ret=>exact⟨rfl,dR⟩
    |exit eM=>exact absurd hx (aS eM aN)
  |loop b=>
   simp only[yo]at cY
   obtain⟨b',hb,rfl⟩:=N1.1 cY
   exact(loop ρ nt b b' st aN x ⟨h,hb⟩ (fun hh=>by simpa[za]using hn hh) hx C w0 C0 a w bH).wpIn
  |scope b=>
   simp only[yo]at cY
   obtain⟨b',hb,rfl⟩:=N1.1 cY
   have ew:ar p n b' st=I (x,aN):=by
    simp only[ar]at hx
    split at hx
    ·rename_i fb tD
     cases n with
     |zero=>simp[ar]at tD
     |succ n=>simp only[ar]at hx;rw[tD];exact hx
    ·exact hx
   refine ql0 (wpIn_mono (ih ρ nt b b' st aN x ⟨h,hb⟩ (fun hh=>by simpa[za]using hn hh) ew C w0 C0 a w bH) ?_)
   rintro e a' w' ⟨rfl,dR⟩
   cases x with
   |normal=>exact⟨rfl,dR⟩
   |exit id=>exact⟨rfl,dR⟩
   |ret=>exact⟨rfl,dR⟩
  |rangeFunc f ps x1 x2=>
   simp only[yo]at cY
   split at cY
   ·split at cY
    ·rename_i bT
     cases cY
     simp only[ar]at hx
     cases ρ with
     |some l=>exact absurd (hn (by simp)) (by simp[za])
     |none=>exact jb2 dH (bV.D6 ih) (by assumption) (by assumption) (by assumption) (fun t ht=>by simpa using(Array.all_eq_true'.1 bT) t (by simpa using ht)) hx bH
    ·cases cY
   ·cases cY
  |exit id=>
   simp only[yo,I.injEq]at cY
   subst cY
   simp only[ar,I.injEq,Oc.injEq]at hx
   obtain⟨rfl,rfl⟩:=hx
   exact wpIn_exit ⟨rfl,bH⟩
  |ret=>
   simp only[yo,I.injEq]at cY
   subst cY
   simp only[ar,I.injEq,Oc.injEq]at hx
   obtain⟨rfl,rfl⟩:=hx
   exact wpIn_ret ⟨rfl,bH⟩
  |_=>
   simp only[yo,I.injEq]at cY
   subst cY
   simp[ar]at hx
theorem YY (dH:bu P p){n k args v ow}(h:ae p (ar p n) k args=I (v,ow))(hb:qr 0 args=Ga):IsoCall P k args v ow:=
 (HJ dH (bV.D6 (H3 dH n).1) h hb).2.2
end
def zj {α:Type}(n:Nat)(f:Nat→α):α:=match n with
 |0=>f 0
 |m+1=>f (Nat.succ m)
def Pr {α:Type}(n:Int)(f:Int→α):α:=match n with
 | .ofNat a=>zj a fun a=>f (.ofNat a)
 | .negSucc a=>zj a fun a=>f (.negSucc a)
def Ed {α:Type}(b:Bool)(f:Bool→α):α:=match b with
 |true=>f Ga
 |false=>f Ha
def YZ {α:Type}(k:IntKind)(f:IntKind→α):α:=match k with
 | .i8=>f .i8 | .i16=>f .i16 | .i32=>f .i32 | .i64=>f .i64 | .u8=>f .u8 | .u16=>f .u16 | .u32=>f .u32 | .u64=>f .u64
def Ee {α:Type}:List UInt8→(List UInt8→α)→α
 | [],f=>f []
 |c::s,f=>Ee s fun s=>f (c::s)
def Ps {α:Type}(g:Fn)(f:Fn→α):α:=match g with
 | .func k=>zj k fun k=>f (.func k)
 | .yield k=>zj k fun k=>f (.yield k)
 |g=>f g
mutual
def yb {α:Type}:AVal→(AVal→α)→α
 | .bool b,f=>Ed b fun b=>f (.bool b)
 | .int k n,f=>YZ k fun k=>Pr n fun n=>f (.int k n)
 | .str s,f=>Ee s fun s=>f (.str s)
 | .list b sz xs,f=>Ed b fun b=>zj sz fun sz=>sj xs fun xs=>f (.list b sz xs)
 | .ms b o l,f=>zj b fun b=>zj o fun o=>zj l fun l=>f (.ms b o l)
 | .ptr b o,f=>zj b fun b=>zj o fun o=>f (.ptr b o)
 | .ax v,f=>yb v fun v=>f (.ax v)
 | .ct n,f=>zj n fun n=>f (.ct n)
 | .bC,f=>f .bC
 | .map b,f=>zj b fun b=>f (.map b)
 | .bB,f=>f .bB
 | .fn g a c,f=>Ps g fun g=>sj a fun a=>sj c fun c=>f (.fn g a c)
 | .bN,f=>f .bN
 | .agg cs,f=>sj cs fun cs=>f (.agg cs)
 | .av cs,f=>sj cs fun cs=>f (.av cs)
 | .undef,f=>f .undef
 | .any,f=>f .any
 | .aA b bm len,f=>zj b fun b=>zj bm fun bm=>zj len fun len=>f (.aA b bm len)
 | .dK b bm off,f=>zj b fun b=>zj bm fun bm=>zj off fun off=>f (.dK b bm off)
def sj {α:Type}:List AVal→(List AVal→α)→α
 | [],f=>f []
 |x::xs,f=>yb x fun x=>sj xs fun xs=>f (x::xs)
end
def Ef {α:Type}:Env→(Env→α)→α
 | [],f=>f []
 |(t,v,o)::e,f=>zj t fun t=>yb v fun v=>Ed o fun o=>Ef e fun e=>f ((t,v,o)::e)
def H4 {α:Type}:List (AVal×Bool)→(List (AVal×Bool)→α)→α
 | [],f=>f []
 |(v,o)::e,f=>yb v fun v=>Ed o fun o=>H4 e fun e=>f ((v,o)::e)
def H5 {α:Type}:List (AVal×AVal)→(List (AVal×AVal)→α)→α
 | [],f=>f []
 |(k,v)::e,f=>yb k fun k=>yb v fun v=>H5 e fun e=>f ((k,v)::e)
def Pt {α:Type}(x:Option je)(f:Option je→α):α:=match x with
 |none=>f En
 |some .normal=>f (I .normal)
 |some (.exit id)=>zj id fun id=>f (I (.exit id))
 |some .ret=>f (I .ret)
def Pu {α:Type}:aJ→(aJ→α)→α
 | .hole,f=>f .hole
 | .cells cs,f=>H4 cs fun cs=>f (.cells cs)
 | .map es,f=>H5 es fun es=>f (.map es)
 | .iter s pos,f=>zj pos fun pos=>f (.iter s pos)
 | .fm t e l,f=>Ee l fun l=>f (.fm t e l)
 | .dead,f=>f .dead
 -- (what a vector holds was forced when it was appended)
 | .vec sz bm xs,f=>zj sz fun sz=>zj bm fun bm=>f (.vec sz bm xs)
 | .loop l,f=>Ef l.env fun e=>Pt l.pending fun x=>f (.loop ⟨e,l.params,l.assign,l.body,x⟩)
def H6 {α:Type}:ql→(ql→α)→α
 | [],f=>f []
 |b::h,f=>Pu b fun b=>H6 h fun h=>f (b::h)
def Eg {α:Type}(st:aV)(f:aV→α):α:=Ef st.env fun e=>H6 st.heap fun h=>f ⟨e,h⟩
section
variable {α:Type}
theorem ym (n:Nat)(f:Nat→α):zj n f=f n:=by cases n<;>rfl
theorem qz0 (n:Int)(f:Int→α):Pr n f=f n:=by cases n<;>simp[Pr,ym]
theorem H7 (n:Bool)(f:Bool→α):Ed n f=f n:=by cases n<;>rfl
theorem qxk (n:IntKind)(f:IntKind→α):YZ n f=f n:=by cases n<;>rfl
theorem Pv:∀ (s:List UInt8) (f:List UInt8→α),Ee s f=f s
 | [],_=>rfl
 |c::s,f=>by simp only[Ee];rw[Pv s]
theorem q3a (g:Fn)(f:Fn→α):Ps g f=f g:=by cases g<;>simp[Ps,ym]
mutual
theorem Eh:∀ (v:AVal) (f:AVal→α),yb v f=f v
 | .bool b,f=>by simp only[yb,H7]
 | .int k n,f=>by simp only[yb,qxk,qz0]
 | .str s,f=>by simp only[yb,Pv]
 | .list b sz xs,f=>by simp only[yb,H7,ym];rw[vM xs]
 | .ms b o l,f=>by simp only[yb,ym]
 | .ptr b o,f=>by simp only[yb,ym]
 | .ax v,f=>by simp only[yb];rw[Eh v]
 | .ct n,f=>by simp only[yb,ym]
 | .bC,f=>by simp only[yb]
 | .map b,f=>by simp only[yb,ym]
 | .bB,f=>by simp only[yb]
 | .fn g a c,f=>by simp only[yb,q3a];rw[vM a,vM c]
 | .bN,f=>by simp only[yb]
 | .agg cs,f=>by simp only[yb];rw[vM cs]
 | .av cs,f=>by simp only[yb];rw[vM cs]
 | .undef,f=>by simp only[yb]
 | .any,f=>by simp only[yb]
 | .aA b bm len,f=>by simp only[yb,ym]
 | .dK b bm off,f=>by simp only[yb,ym]
theorem vM:∀ (l:List AVal) (f:List AVal→α),sj l f=f l
 | [],f=>by simp only[sj]
 |x::xs,f=>by simp only[sj];rw[Eh x,vM xs]
end
theorem Px:∀ (e:Env) (f:Env→α),Ef e f=f e
 | [],_=>rfl
 |(t,v,o)::e,f=>by simp only[Ef,ym,Eh,H7];rw[Px e]
theorem Y0:∀ (e:List (AVal×Bool)) (f:List (AVal×Bool)→α),H4 e f=f e
 | [],_=>rfl
 |(v,o)::e,f=>by simp only[H4,Eh,H7];rw[Y0 e]
theorem Y1:∀ (e:List (AVal×AVal)) (f:List (AVal×AVal)→α),H5 e f=f e
 | [],_=>rfl
 |(v,o)::e,f=>by simp only[H5,Eh];rw[Y1 e]
theorem qxm (x:Option je)(f:Option je→α):Pt x f=f x:=by
 cases x with
 |none=>rfl
 |some x=>cases x<;>simp[Pt,ym]
theorem q0b (b:aJ)(f:aJ→α):Pu b f=f b:=by
 cases b<;>simp[Pu,Y0,Y1,ym,Pv,Px,qxm,vM]
theorem Y2:∀ (h:ql) (f:ql→α),H6 h f=f h
 | [],_=>rfl
 |b::h,f=>by simp only[H6,q0b];rw[Y2 h]
theorem Py (st:aV)(f:aV→α):Eg st f=f st:=by simp only[Eg,Px,Y2]
end
def yj (p:jg):Nat→XC
 |0,_,_=>En
 |n+1,c,st=>match c with
  | .skip=>I (.normal,st)
  | .region na ops keep=>match yq p (yj p n) na ops keep st with
   |some (x,aN)=>Eg aN fun s=>I (x,s)
   |none=>En
  | .seq a b=>match yj p n a st with
   |some (.normal,aN)=>yj p n b aN
   |r=>r
  | .cond c a b=>match qg st.env c with
   |some (.bool t)=>bif t then yj p n a st else yj p n b st
   |_=>En
  | .block id body=>match yj p n body st with
   |some (.exit eM,aN)=>bif Jp eM id then I (.normal,aN)else I (.exit eM,aN)
   |r=>r
  | .loop body=>match yj p n body st with
   |some (.normal,aN)=>Eg (gc st.heap.length aN) fun s=>yj p n (.loop body) s
   |r=>r
  | .rangeFunc f params assign body=>match kZ p (yj p n) f params assign body st with
   |some (x,aN)=>Eg aN fun s=>I (x,s)
   |none=>En
  | .exit id=>I (.exit id,st)
  | .ret=>I (.ret,st)
  | .grow sz=>match ja 0 st.env,ja 1 st.env with
   |some (.list Ga _ _,_),I (.int .i64 (.ofNat m),_)=>bif Ov 0 m&&N9 m 1073741824 then I (.normal,{ st with env:=[(0,.list Ha sz [],Ga)] })else En
   |_,_=>En
  | .stuck=>En
theorem H8 (p:jg):∀n,yj p n=ar p n
 |0=>by funext c st;rfl
 |n+1=>by
  have ih:=H8 p n
  funext c st
  cases c with
  |region na ops keep=>
   simp only[yj,ar,ih]
   cases yq p (ar p n) na ops keep st with
   |none=>rfl
   |some r=>simp only[Py]
  |rangeFunc f ps a b=>
   simp only[yj,ar,ih]
   cases kZ p (ar p n) f ps a b st with
   |none=>rfl
   |some r=>simp only[Py]
  |loop body=>
   simp only[yj,ar,ih,Py]
   rfl
  |_=>simp only[yj,ar,ih]<;>rfl
inductive cP where
 |leaf (k:Nat) (f:aj)
 |node (m:Nat) (a b:cP)
def cP.find:cP→Nat→Option aj
 | .leaf k f,n=>bif Jp k n then I f else En
 | .node m a b,n=>bif Ov n m then a.find n else b.find n
def cP.All (Q:Nat→aj→Prop):cP→Prop
 | .leaf k f=>Q k f
 | .node _ a b=>a.All Q∧b.All Q
theorem cP.fD {Q}:∀ {t:cP} {k:Nat} {f:aj},t.All Q→t.find k=I f→Q k f
 | .leaf j g,k,f,h,hf=>by
  simp only[cP.find]at hf
  cases hb:Jp j k with
  |false=>simp[hb]at hf
  |true=>
   have:=Gc hb
   subst this
   simp only[hb,cond_true,I.injEq]at hf
   subst hf;exact h
 | .node m a b,k,f,h,hf=>by
  simp only[cP.find]at hf
  cases hb:Ov k m with
  |true=>simp only[hb,cond_true]at hf;exact cP.fD h.1 hf
  |false=>simp only[hb,cond_false]at hf;exact cP.fD h.2 hf
def cP.prog (t:cP)(bM:uL)(maps:Nz:=fun _=>En):jg:={ bn:=t.find,bM:=bM,maps:=maps }
theorem q6z {p n k args r}(h:ae p (yj p n) k args=r):ae p (ar p n) k args=r:=by
 rw[←H8];exact h
def Kw (w:World):Nat→Nat→Option Value:=fun r o=>(w.cell? ⟨r,o,En⟩).filter (·.oneCell')
theorem jqa {w r o v}(h:w.cell? ⟨r,o,En⟩=I v)(h1:v.oneCell'=Ga):Kw w r o=I v:=by simp[Kw,h,h1]
theorem Y3 {w r o v}(h:Kw w r o=I v):w.cell? ⟨r,o,En⟩=I v∧v.oneCell'=Ga:=by
 unfold Kw at h;rw[Option.filter_eq_some_iff]at h;exact h
def qe1 (P:Program)(t:TypeId):Bool:=match P.underlying t with
 |some (.struct _)=>Ga
 |some (.array _ _)=>Ga
 |_=>Ha
def H9 (P:Program):Nat→List Field→Bool
 |_,[]=>Ga
 |o,f::fs=>f.offset == o&&H9 P (o+P.cellsOf f.type) fs
def Ia (P:Program)(fs:List Field):Nat:=(fs.map fun f=>P.cellsOf f.type).sum
def pg (P:Program):Nat→TypeId→Bool
 |0,_=>Ha
 |n+1,t=>match P.underlying t with
  |some .bool=>P.cellsOf t == 1
  |some (.int _)=>P.cellsOf t == 1
  |some .string=>P.cellsOf t == 1
  |some (.slice e)=>P.cellsOf t == 1&&pg P n e&&decide (0<P.cellsOf e)
  |some (.struct fs)=>H9 P 0 fs.toList&&Ia P fs.toList == P.cellsOf t&&fs.toList.all fun f=>pg P n f.type
  |some (.array k e)=>P.cellsOf t == k*P.cellsOf e&&pg P n e
  |_=>Ha
def Ei (ty:TypeId→List AVal→Prop):List Field→List AVal→Prop
 | [],cs=>cs=[]
 |f::fs,cs=>∃ys zs,cs=ys++zs∧ty f.type ys∧Ei ty fs zs
def Ej (ty:List AVal→Prop):Nat→List AVal→Prop
 |0,cs=>cs=[]
 |k+1,cs=>∃ys zs,cs=ys++zs∧ty ys∧Ej ty k zs
def yc (P:Program):Nat→TypeId→List AVal→Prop
 |0,_,_=>False
 |n+1,t,cs=>match P.underlying t with
  |some .bool=>∃b,cs=[.bool b]
  |some (.int k)=>∃m,cs=[.int k m]∧(Lit.int k m).wf=Ga
  |some .string=>∃s,cs=[.str s]∧s.length≤maxLen
  |some (.slice e)=>cs=[.list Ga 0 []]∨∃xs,cs=[.list Ha (P.cellsOf e) xs]∧xs.length≤maxLen∧∀y∈xs,yc P n e y.flat∧y.isAgg=qe1 P e
  |some (.struct fs)=>Ei (yc P n) fs.toList cs
  |some (.array k e)=>Ej (yc P n e) k cs
  |_=>False
section
variable {P:Program}{H:Type}{enc:TypeId×Value→H}{w:World}
theorem Y4:∀ (fs:List Field) (o:Nat) (vs:List Value),H9 P o fs=Ga→vs.length=o+Ia P fs→vs.drop o=(fs.map fun f=>(vs.drop f.offset).take (P.cellsOf f.type)).flatten
 | [],o,vs,_,hl=>by simp[Ia]at hl;simp[hl]
 |f::fs,o,vs,ht,hl=>by
  simp only[H9,E3,beq_iff_eq]at ht
  obtain⟨rfl,ht⟩:=ht
  have ih:=Y4 fs _ vs ht (by simp[Ia]at hl ⊢;omega)
  rw[Qo,Ok,←ih,←O6,List.take_append_drop]
theorem Bs {α β:Type}{f}:∀ {l:List α} {ys:List β},l.mapM f=I ys→ys.length=l.length∧∀(i:Nat) (x:α),l[i]?=I x→∃y,ys[i]?=I y∧f x=I y
 | [],ys,h=>by simp at h;subst h;simp
 |a::l,ys,h=>by
  rw[List.mapM_cons]at h
  cases hf:f a with
  |none=>simp[hf]at h
  |some y=>
   cases hr:l.mapM f with
   |none=>simp[hf,hr]at h
   |some zs=>
    simp[hf,hr]at h
    subst h
    obtain⟨h1,h2⟩:=Bs hr
    refine⟨by simp[h1],fun i x hx=>?_⟩
    cases i with
    |zero=>simp at hx;subst hx;exact⟨y,rfl,hf⟩
    |succ i=>simp at hx;obtain⟨z,h3,h4⟩:=h2 i x hx;exact⟨z,by simpa using h3,h4⟩
theorem Y5 {base n a vs}(h:w.cells? base a n=I vs):vs.length=n∧∀(i:Nat) (v:Value),vs[i]?=I v→w.cell? (a.add i)=I v:=by
 unfold World.cells? at h
 split at h
 ·obtain⟨h1,h2⟩:=Bs h
  rw[Ol]at h1
  refine⟨h1,fun i v hv=>?_⟩
  have hi:i<n:=by rw[←h1];exact(N7.1 hv).1
  obtain⟨y,h3,h4⟩:=h2 i i (by rw[Hb hi])
  rw[hv]at h3;cases h3;exact h4
 ·cases h
theorem Y6 {ty:TypeId→List AVal→Prop}:∀(fs:List Field) (lM:List (List Value)),lM.length=fs.length→(∀(i:Nat) (f:Field) (vs:List Value),fs[i]?=I f→lM[i]?=I vs→∃cs,aF (.bw (Kw w)) cs vs∧ty f.type cs)→∃cs,aF (.bw (Kw w)) cs lM.flatten∧Ei ty fs cs
 | [],lM,hl,_=>by
  have:lM=[]:=Jq.1 (by simpa using hl)
  subst this
  exact⟨[],.nil,rfl⟩
 |f::fs,[],hl,_=>by simp at hl
 |f::fs,vs::lM,hl,h=>by
  obtain⟨ys,h1,h2⟩:=h 0 f vs rfl rfl
  obtain⟨zs,h3,h4⟩:=Y6 fs lM (by simpa using hl) (fun i f' oL hf hv=>h (i+1) f' oL (by simpa using hf) (by simpa using hv))
  exact⟨ys++zs,aF.append h1 h3,ys,zs,rfl,h2,h4⟩
theorem Y7 {ty}:∀(k:Nat) (lM:List (List Value)),lM.length=k→(∀(i:Nat) vs,lM[i]?=I vs→∃cs,aF (.bw (Kw w)) cs vs∧ty cs)→∃cs,aF (.bw (Kw w)) cs lM.flatten∧Ej ty k cs
 |0,lM,hl,_=>by
  have:lM=[]:=Jq.1 hl
  subst this
  exact⟨[],.nil,rfl⟩
 |k+1,[],hl,_=>by simp at hl
 |k+1,vs::lM,hl,h=>by
  obtain⟨ys,h1,h2⟩:=h 0 vs rfl
  obtain⟨zs,h3,h4⟩:=Y7 k lM (by simpa using hl) (fun i oL hv=>h (i+1) oL (by simpa using hv))
  exact⟨ys++zs,aF.append h1 h3,ys,zs,rfl,h2,h4⟩
theorem Y8 (n:Nat):∀(k:Nat) (vs:List Value),vs.length=k*n→vs=((Hz k).map fun i=>(vs.drop (i*n)).take n).flatten
 |0,vs,hl=>by
  have:vs=[]:=Jq.1 (by simpa using hl)
  simp[this]
 |k+1,vs,hl=>by
  have ih:=Y8 n k (vs.drop n) (by simp[hl,Oj])
  rw[List.range_succ_eq_map,Qo,Ok,List.map_map]
  have e:(Hz k).map ((fun i=>(vs.drop (i*n)).take n) ∘ Nat.succ)=(Hz k).map fun i=>((vs.drop n).drop (i*n)).take n:=by
   apply List.map_congr_left
   intro i _
   simp only[Function.comp,O6]
   congr 2
   rw[Oj];omega
  rw[e,←ih]
  simp
theorem Pz:∀ {n:Nat} {t:TypeId} {cs:List AVal},yc P n t cs→∀x∈cs,qk x=Ga
 |0,_,_,h=>h.elim
 |n+1,t,cs,h=>by
  have fsc:∀(fs:List Field) (cs:List AVal),Ei (yc P n) fs cs→∀x∈cs,qk x=Ga:=by
   intro fs
   induction fs with
   |nil=>intro cs h;simp only[Ei]at h;subst h;simp
   |cons f fs ih=>
    rintro cs ⟨ys,zs,rfl,h1,h2⟩ x hx
    rcases O3.1 hx with hx|hx
    ·exact Pz h1 x hx
    ·exact ih _ h2 x hx
  have rsc:∀(e:TypeId) (k:Nat) (cs:List AVal),Ej (yc P n e) k cs→∀x∈cs,qk x=Ga:=by
   intro e k
   induction k with
   |zero=>intro cs h;simp only[Ej]at h;subst h;simp
   |succ k ih=>
    rintro cs ⟨ys,zs,rfl,h1,h2⟩ x hx
    rcases O3.1 hx with hx|hx
    ·exact Pz h1 x hx
    ·exact ih _ h2 x hx
  simp only[yc]at h
  split at h
  ·obtain⟨b,rfl⟩:=h;simp[qk]
  ·obtain⟨m,rfl,_⟩:=h;simp[qk]
  ·obtain⟨s,rfl,_⟩:=h;simp[qk]
  ·rcases h with rfl|⟨xs,rfl,_⟩<;>simp[qk]
  ·exact fsc _ _ h
  ·exact rsc _ _ _ h
  ·exact h.elim
theorem Y9 {n}{t:TypeId}{cs}(h:yc P n t cs)(ha:qe1 P t=Ha):∃x,cs=[x]∧x.isAgg=Ha:=by
 cases n with
 |zero=>exact h.elim
 |succ n=>
  unfold qe1 at ha
  simp only[yc]at h
  split at h
  ·obtain⟨b,rfl⟩:=h;exact⟨_,rfl,rfl⟩
  ·obtain⟨m,rfl,_⟩:=h;exact⟨_,rfl,rfl⟩
  ·obtain⟨s,rfl,_⟩:=h;exact⟨_,rfl,rfl⟩
  ·rcases h with rfl|⟨xs,rfl,_⟩<;>exact⟨_,rfl,rfl⟩
  ·rename_i hu;rw[hu]at ha;cases ha
  ·rename_i hu;rw[hu]at ha;cases ha
  ·exact h.elim
theorem read {held}:∀(n fuel:Nat) (t:TypeId) (vs:List Value) (d:DataW H) (ps:List MemPlace),pg P n t=Ga→DataW.trod enc P w 0 (fun _=>Ga) held fuel t vs=I (d,ps) →
  ∃cs,aF (.bw (Kw w)) cs vs∧yc P n t cs∧cs.length=P.cellsOf t
 |0,_,_,_,_,_,hp,_=>by simp[pg]at hp
 |n+1,0,_,_,_,_,_,h=>by simp[DataW.trod]at h
 |n+1,fuel+1,t,vs,d,ps,hp,h=>by
  simp only[pg]at hp
  simp only[yc]
  simp only[DataW.trod]at h
  cases hu:P.underlying t with
  |none=>simp[hu]at hp
  |some td=>
   rw[hu]at h hp
   cases td with
   |bool=>
    simp only[beq_iff_eq]at hp
    split at h<;>first|cases ‹I _=I _› | skip
    all_goals first|(rename_i heq;cases heq;done)|skip
    ·exact⟨_,.cons _ _ _ _ (.bool _) .nil,⟨_,rfl⟩,by simp[hp]⟩
    ·cases h
   |int k=>
    simp only[beq_iff_eq]at hp
    split at h<;>first|cases ‹I _=I _› | skip
    all_goals first|(rename_i heq;cases heq;done)|skip
    ·split at h
     ·rename_i hk
      obtain⟨rfl,cS⟩:=hk
      exact⟨_,.cons _ _ _ _ (.int _ _) .nil,⟨_,rfl,cS⟩,by simp[hp]⟩
     ·cases h
    ·cases h
   |string=>
    simp only[beq_iff_eq]at hp
    split at h<;>first|cases ‹I _=I _› | skip
    all_goals first|(rename_i heq;cases heq;done)|skip
    ·rename_i s
     split at h
     ·rename_i hk
      refine⟨[.str s.data.toList],.cons _ _ _ _ (ay.str s.data.toList) .nil,⟨_,rfl,?_⟩,by simp[hp]⟩
      simpa using hk
     ·cases h
    ·cases h
   |slice e=>
    simp only[E3,beq_iff_eq,decide_eq_true_eq]at hp
    obtain⟨⟨iI,Ib⟩,Za⟩:=hp
    split at h<;>first|cases ‹I _=I _› | skip
    all_goals first|(rename_i heq;cases heq;done)|skip
    ·exact⟨_,.cons _ _ _ _ (.ic 0) .nil,.inl rfl,by simp[iI]⟩
    ·rename_i a len cap
     split at h
     ·rename_i hk
      obtain⟨_,cS,Zb⟩:=hk
      cases he:(Hz len).mapM (fun i=>(w.cells? 0 (a.add (i*P.cellsOf e)) (P.cellsOf e)).bind (DataW.trod enc P w 0 (fun _=>Ga) held fuel e))with
      |none=>simp[he]at h
      |some elems=>
       simp only[he,Ow,if_true]at h
       cases hr:(Hz (cap-len)).mapM (fun j=>(w.cells? 0 (a.add ((len+j)*P.cellsOf e)) (P.cellsOf e)).bind (DataW.trod enc P w 0 (fun _=>Ga) held fuel e))with
       |none=>simp[hr]at h
       |some rest=>
        obtain⟨he1,HN⟩:=Bs he
        obtain⟨rV,oU⟩:=Bs hr
        rw[Ol]at he1 rV
        have Ek:0<cap→a.spot=En:=fun hc=>by
         have sk:∃z,(w.cells? 0 (a.add (0*P.cellsOf e)) (P.cellsOf e)).bind (DataW.trod enc P w 0 (fun _=>Ga) held fuel e)=I z:=by
          by_cases hl:0<len
          ·obtain⟨y,_,hy⟩:=HN 0 0 (by rw[Hb hl]);exact⟨y,hy⟩
          ·obtain⟨y,_,hy⟩:=oU 0 0 (by rw[Hb (by omega)])
           have CY:len=0:=by omega
           subst CY
           exact⟨y,by simpa using hy⟩
         obtain⟨z0,sk⟩:=sk
         cases Bt:w.cells? 0 (a.add (0*P.cellsOf e)) (P.cellsOf e)with
         |none=>rw[Bt]at sk;cases sk
         |some us0=>
          obtain⟨d1,d2⟩:=Y5 Bt
          have cY:=d2 0 _ (List.getElem?_eq_getElem (show 0<us0.length by omega))
          have:=World.cell?_spot cY
          simpa[Addr.add]using this
        by_cases hcap:0<cap
        ·have HY:=Ek hcap
         obtain⟨r,o,sp⟩:=a
         simp only at HY
         subst HY
         have elem:∀(i:Nat),i<len→∃y:AVal,bO (.bw (Kw w)) r y.flat (o+i*P.cellsOf e)∧y.flat.length=P.cellsOf e∧yc P n e y.flat∧y.isAgg=qe1 P e:=by
          intro i hi
          obtain⟨z,_,hz⟩:=HN i i (by rw[Hb hi])
          cases hc:w.cells? 0 ((⟨r,o,En⟩:Addr).add (i*P.cellsOf e)) (P.cellsOf e)with
          |none=>simp[hc]at hz
          |some us=>
           simp only[hc,Ow]at hz
           obtain⟨c1,c2⟩:=Y5 hc
           obtain⟨cs,k1,k2,k3⟩:=read n fuel e us z.1 z.2 Ib hz
           have cy:=vf k1 (Pz k2)
           have hcs:bO (.bw (Kw w)) r cs (o+i*P.cellsOf e):=bO.gL k1 fun j v hj=>by
            have h1:=c2 j v hj
            rw[add_lit,add_lit]at h1
            exact jqa h1 (cy v (N4 hj))
           cases cz:qe1 P e with
           |true=>exact⟨.agg cs,hcs,k3,k2,rfl⟩
           |false=>
            obtain⟨x,rfl,hx⟩:=Y9 k2 cz
            have hf:x.flat=[x]:=qag hx
            exact⟨x,by rw[hf];exact hcs,by rw[hf];exact k3,by rw[hf];exact k2,hx⟩
         have rows:∀(m:Nat) (q:Nat),q+m=len→∃ys:List AVal,ys.length=m∧aO (.bw (Kw w)) r (P.cellsOf e) ys (o+q*P.cellsOf e)∧∀y∈ys,yc P n e y.flat∧y.isAgg=qe1 P e:=by
          intro m
          induction m with
          |zero=>intro q _;exact⟨[],rfl,.eY _ _ _,by simp⟩
          |succ m ih=>
           intro q hq
           obtain⟨ys,y1,y2,y3⟩:=ih (q+1) (by omega)
           obtain⟨y,z1,z2,z3⟩:=elem q (by omega)
           refine⟨y::ys,by simp[y1],.cO _ _ _ _ _ z2 z1 ?_,?_⟩
           ·rw[show o+q*P.cellsOf e+P.cellsOf e=o+(q+1)*P.cellsOf e from by rw[Oj];omega];exact y2
           ·intro x hx
            rcases Qn.1 hx with rfl|hx
            ·exact z3
            ·exact y3 x hx
         obtain⟨ys,y1,y2,y3⟩:=rows len 0 (by omega)
         rw[Nat.zero_mul,Nat.add_zero]at y2
         subst y1
         exact⟨_,.cons _ _ _ _ (.list (P.cellsOf e) ys r o cap cS y2) .nil,.inr ⟨ys,rfl,by omega,y3⟩,by simp[iI]⟩
        ·have Bt:cap=0:=by omega
         have CY:len=0:=by omega
         subst Bt;subst CY
         by_cases jS:a.spot=En
         ·obtain⟨r,o,sp⟩:=a
          simp only at jS
          subst jS
          exact⟨_,.cons _ _ _ _ (.list (P.cellsOf e) [] r o 0 (by simp) (.eY _ _ _)) .nil,.inr ⟨[],rfl,by simp,by simp⟩,by simp[iI]⟩
         ·exact⟨_,.cons _ _ _ _ (.ie (P.cellsOf e) a jS) .nil,.inr ⟨[],rfl,by simp,by simp⟩,by simp[iI]⟩
     ·cases h
    ·cases h
   |struct fs=>
    simp only[E3,beq_iff_eq,List.all_eq_true]at hp
    obtain⟨⟨iI,Ib⟩,Za⟩:=hp
    change (if vs.length=P.cellsOf t then(fs.toList.mapM fun f=>DataW.trod enc P w 0 (fun _=>Ga) held fuel f.type ((vs.drop f.offset).take (P.cellsOf f.type))).map fun xs=>(DataW.agg (xs.map (·.1)),xs.flatMap (·.2))else En)=I (d,ps)at h
    ·split at h
     ·rename_i hl
      cases hm:fs.toList.mapM (fun f=>DataW.trod enc P w 0 (fun _=>Ga) held fuel f.type ((vs.drop f.offset).take (P.cellsOf f.type)))with
      |none=>simp[hm]at h
      |some zs=>
       obtain⟨m1,m2⟩:=Bs hm
       have gA:=Y4 fs.toList 0 vs iI (by omega)
       obtain⟨cs,k1,k2⟩:=Y6 (w:=w) (ty:=yc P n) fs.toList (fs.toList.map fun f=>(vs.drop f.offset).take (P.cellsOf f.type)) (by simp) (fun i f us hf hv=>by
        obtain⟨z,_,hz⟩:=m2 i f hf
        have gg:us=(vs.drop f.offset).take (P.cellsOf f.type):=by
         rw[Om,hf]at hv
         simpa using hv.symm
        subst gg
        obtain⟨cs,q1,q2,_⟩:=read n fuel f.type _ z.1 z.2 (Za f (N4 hf)) hz
        exact⟨cs,q1,q2⟩)
       rw[←gA]at k1
       exact⟨cs,by simpa using k1,k2,by have:=k1.length;simp at this;omega⟩
     ·cases h
   |array k e=>
    simp only[E3,beq_iff_eq]at hp
    obtain⟨iI,Ib⟩:=hp
    change (if vs.length=P.cellsOf t then((Hz k).mapM fun i=>DataW.trod enc P w 0 (fun _=>Ga) held fuel e ((vs.drop (i*P.cellsOf e)).take (P.cellsOf e))).map fun xs=>(DataW.agg (xs.map (·.1)),xs.flatMap (·.2))else En)=I (d,ps)at h
    ·split at h
     ·rename_i hl
      cases hm:(Hz k).mapM (fun i=>DataW.trod enc P w 0 (fun _=>Ga) held fuel e ((vs.drop (i*P.cellsOf e)).take (P.cellsOf e)))with
      |none=>simp[hm]at h
      |some zs=>
       obtain⟨m1,m2⟩:=Bs hm
       have gA:=Y8 (P.cellsOf e) k vs (by omega)
       obtain⟨cs,k1,k2⟩:=Y7 (w:=w) (ty:=yc P n e) k ((Hz k).map fun i=>(vs.drop (i*P.cellsOf e)).take (P.cellsOf e)) (by simp) (fun i us hv=>by
        have hi:i<k:=by
         have:=(N7.1 hv).1
         simpa using this
        obtain⟨z,_,hz⟩:=m2 i i (by rw[Hb hi])
        have gg:us=(vs.drop (i*P.cellsOf e)).take (P.cellsOf e):=by
         rw[Om,Hb hi]at hv
         simpa using hv.symm
        subst gg
        obtain⟨cs,q1,q2,_⟩:=read n fuel e _ z.1 z.2 Ib hz
        exact⟨cs,q1,q2⟩)
       rw[←gA]at k1
       exact⟨cs,k1,k2,by have:=k1.length;omega⟩
     ·cases h
   |_=>simp at hp
end
open Go.ChangeShapes Go.WideShapes Go.ChangeAt Go.RowKit
section
variable {P:Program}{H:Type}{enc:TypeId×Value→H}{w:World}
def Zc (P:Program)(n:Nat)(t:TypeId)(x:AVal):Prop:=yc P n t x.flat∧x.isAgg=qe1 P t
def qkq (P:Program)(n:Nat):List TypeId→List AVal→Prop
 | [],xs=>xs=[]
 |t::ts,xs=>∃y ys,xs=y::ys∧Zc P n t y∧qkq P n ts ys
theorem jd8 {n}{t:TypeId}{v d ps base}(hp:pg P n t=Ga)(hv:Value.okWide P w .any base t v)(h:DataW.Trod enc P w 0 (fun _=>Ga) Ga t v d ps):∃x,bp (.bw (Kw w)) x v∧Zc P n t x:=by
 obtain⟨fuel,hf⟩:=h
 obtain⟨cs,k1,k2,k3⟩:=read n fuel t _ d ps hp hf
 cases cz:qe1 P t with
 |true=>
  have DF:∃cells,v=.agg cells:=by
   unfold qe1 at cz
   unfold Value.okWide at hv
   split at cz
   ·rename_i fs hu;rw[hu]at hv;obtain⟨c,hc,_⟩:=hv;exact⟨c,hc⟩
   ·rename_i a b hu;rw[hu]at hv;obtain⟨c,hc,_⟩:=hv;exact⟨c,hc⟩
   ·cases cz
  obtain⟨cells,rfl⟩:=DF
  exact⟨.agg cs,.agg cs cells.toList k1,k2,cz.symm⟩
 |false=>
  obtain⟨x,rfl,hx⟩:=Y9 k2 cz
  have DF:v.cells.toList=[v]:=by
   cases v with
   |agg c=>
    exfalso
    unfold Value.okWide at hv
    unfold qe1 at cz
    cases n with
    |zero=>simp[pg]at hp
    |succ n=>
     simp only[pg]at hp
     cases hu:P.underlying t with
     |none=>rw[hu]at hp;cases hp
     |some td=>rw[hu]at hp hv cz;cases td<;>first|(simp at hp;done)|(simp at cz;done)|(simp[Cell.okWide,hu,Cell.ok]at hv;done)
   |_=>rfl
  rw[DF]at k1
  cases k1 with
  |cons _ _ _ _ h1 _=>exact⟨x,h1,by rw[qag hx];exact k2,by rw[hx,cz]⟩
theorem Zd {n}:∀ {ts:List TypeId} {vs:List Value} {ds:List (DataW H)} {ps:List MemPlace},ts.all (pg P n)=Ga→(∀(j:Nat) t v,ts[j]?=I t→vs[j]?=I v→∃base,Value.okWide P w .any base t v)→DataW.TrodAll enc P w 0 (fun _=>Ga) Ga ts vs ds ps →
  ds.length=ts.length∧∃xs,aF (.bw (Kw w)) xs vs∧qkq P n ts xs
 | [],[],[],ps,_,_,_=>⟨rfl,[],.nil,rfl⟩
 | [],[],_::_,ps,_,_,h=>by simp[DataW.TrodAll]at h
 | [],_::_,_,ps,_,_,h=>by simp[DataW.TrodAll]at h
 |_::_,[],_,ps,_,_,h=>by simp[DataW.TrodAll]at h
 |_::_,_::_,[],ps,_,_,h=>by simp[DataW.TrodAll]at h
 |t::ts,v::vs,d::ds,ps,hp,hv,h=>by
  obtain⟨p,q,h1,h2,_⟩:=h
  simp only[Qp,E3]at hp
  obtain⟨base,hb⟩:=hv 0 t v rfl rfl
  obtain⟨x,k1,k2⟩:=jd8 hp.1 hb h1
  obtain⟨hl,xs,k3,k4⟩:=Zd hp.2 (fun j t' v' ht qS=>hv (j+1) t' v' (by simpa using ht) (by simpa using qS)) h2
  exact⟨by simp[hl],x::xs,.cons _ _ _ _ k1 k3,x,xs,rfl,k2,k4⟩
theorem Ext.frame {w'}(h:Ext w w')(may:MemPlace→Prop):w.keptBut w' may:=by
 refine⟨h.os,h.output,fun i hi=>?_⟩
 rw[h.same i hi]
 split<;>simp_all
theorem Ext.sameAt {w'}(h:Ext w w'){p}(hp:p.block<w.heap.size):w.sameAt w' p:=by
 cases p with
 |cell b o=>exact World.cell?_of_block (w:=w) (h.same b hp)
 |map b=>exact h.same b hp
theorem Ze {w'}(hx:Ext w w')(hl:laidOutB P=Ga):∀ {ts:List TypeId} {vs:List Value} {ds:List (DataW H)} {ps:List MemPlace},ts.all (fun t=>P.readableRec t&&decide (t<P.types.size))=Ga→DataW.TrodAll enc P w 0 (fun _=>Ga) Ga ts vs ds ps →
  DataW.TrodAll enc P w' 0 (fun b=>decide (b<w.heap.size)) Ga ts vs ds ps
 | [],[],[],ps,_,h=>h
 | [],[],_::_,ps,_,h=>by simp[DataW.TrodAll]at h
 | [],_::_,_,ps,_,h=>by simp[DataW.TrodAll]at h
 |_::_,[],_,ps,_,h=>by simp[DataW.TrodAll]at h
 |_::_,_::_,[],ps,_,h=>by simp[DataW.TrodAll]at h
 |t::ts,v::vs,d::ds,ps,hr,h=>by
  obtain⟨p,q,h1,h2,h3⟩:=h
  simp only[Qp,E3,decide_eq_true_eq]at hr
  have aC:∀x∈p,x.block<w.heap.size:=by obtain⟨m,hm⟩:=h1;exact DataW.trod_lt m _ _ _ hm
  exact⟨p,q,WideElems.Trod_stays hl hr.1.1 hr.1.2 h1 (fun x hm=>hx.sameAt (aC x hm)) (fun x hm=>by simpa using aC x hm),Ze hx hl hr.2 h2,h3⟩
end
def lh (f g:XC):Prop:=∀c st r,f c st=I r→g c st=I r
section
variable {p:jg}{f g:XC}
theorem Zf (h:lh f g){af args hp r}(hr:nF f af args hp=I r):nF g af args hp=I r:=by
 unfold nF at *
 cases hb:N9 args.length af.ntmps with
 |false=>simp[hb]at hr
 |true=>
  simp only[hb,cond_true]at hr ⊢
  split at hr
  ·rename_i st bH;rw[h _ _ _ bH];exact hr
  ·rename_i st bH;rw[h _ _ _ bH];exact hr
  ·cases hr
theorem Ic (h:lh f g){k args hp r}(hr:ah p f k args hp=I r):ah p g k args hp=I r:=by
 unfold ah at *
 split at hr
 ·exact Zf h hr
 ·exact hr
theorem Ie (h:lh f g){k args r}(hr:ae p f k args=I r):ae p g k args=I r:=by
 unfold ae at *
 split at hr
 ·exact hr
 ·split at hr
  ·rename_i v o hh hc;rw[Ic h hc];exact hr
  ·cases hr
theorem Zg (h:lh f g){b args hp r}(hr:nf f b args hp=I r):nf g b args hp=I r:=by
 unfold nf at *
 split at hr
 ·split at hr
  ·split at hr
   ·rename_i st bH
    rw[h _ _ _ bH]
    simp only[]
    split at hr
    ·rename_i l1 lB
     cases iI:l1.pending.isNone with
     |false=>simp[iI]at hr
     |true=>
      simp only[iI,cond_true]at hr ⊢
      split at hr
      ·rename_i x aN gx
       rw[h _ _ _ gx]
       exact hr
      ·cases hr
    ·cases hr
   ·cases hr
  ·cases hr
 ·cases hr
theorem qu6 (h:lh f g){h0 e hp md x l r}(hr:zf p f h0 e hp md x l=I r):zf p g h0 e hp md x l=I r:=by
 unfold zf at *
 split at hr
 ·cases md with
  |bw=>
   simp only[]at hr ⊢
   rename_i k first captured vs _ _
   cases hb:qr 0 (first++vs++captured)with
   |false=>rw[hb]at hr;cases hr
   |true=>
    rw[hb]at hr
    simp only[cond_true]at hr ⊢
    split at hr
    ·rename_i v o hc;rw[Ie h hc];exact hr
    ·cases hr
  |red=>
   simp only[]at hr ⊢
   split at hr
   ·rename_i us hf
    cases hb:qr 0 us with
    |false=>rw[hb]at hr;cases hr
    |true=>
     rw[hb]at hr
     simp only[cond_true]at hr ⊢
     split at hr
     ·rename_i v o hc;rw[Ie h hc];exact hr
     ·cases hr
   ·cases hr
  |eH _=>
   simp only[]at hr ⊢
   rename_i k first captured vs _ _ _
   cases he:(first++vs++captured).isEmpty with
   |true=>rw[he]at hr;exact hr
   |false=>
    rw[he]at hr
    simp only[cond_false]at hr ⊢
    cases hb:qr 0 (first++vs++captured)with
    |false=>rw[hb]at hr;cases hr
    |true=>
     rw[hb]at hr
     simp only[cond_true]at hr ⊢
     split at hr
     ·rename_i v o hc;rw[Ie h hc];exact hr
     ·cases hr
  |shr=>
   simp only[]at hr ⊢
   split at hr
   ·rename_i v o hh hc;rw[Ic h hc];exact hr
   ·cases hr
 ·cases md with
  |shr=>
   simp only[]at hr ⊢
   split at hr
   ·rename_i v hh hc;rw[Zg h hc];exact hr
   ·cases hr
  |_=>simp at hr
 ·cases hr
theorem q0f (h:lh f g){h0 al e hp op r}(hr:qb p f h0 al e hp op=I r):qb p g h0 al e hp op=I r:=by
 cases op with
 |call md x l=>exact qu6 h hr
 |append rk sz b x y=>cases rk<;>exact hr
 |bK rk sz b z n c=>cases rk<;>exact hr
 |_=>exact hr
theorem Zh (h:lh f g){h0 o st aN}(hr:zg p f h0 o st=I aN):zg p g h0 o st=I aN:=by
 unfold zg at *
 split at hr
 ·split at hr
  ·rename_i r hs;rw[q0f h hs];exact hr
  ·cases hr
 ·exact hr
 ·cases hr
theorem PA (h:lh f g){h0}:∀ {l:List bD} {st aN:aV},yv p f h0 l st=I aN→yv p g h0 l st=I aN
 | [],_,_,hr=>hr
 |o::l,st,aN,hr=>by
  simp only[yv]at hr ⊢
  split at hr
  ·rename_i s1 h1;rw[Zh h h1];exact PA h hr
  ·cases hr
theorem Zi (h:lh f g){na l k st r}(hr:yq p f na l k st=I r):yq p g na l k st=I r:=by
 unfold yq at *
 split at hr
 ·rename_i s1 h1;rw[PA h h1];exact hr
 ·cases hr
theorem Zj (h:lh f g){x ps a b st r}(hr:kZ p f x ps a b st=I r):kZ p g x ps a b st=I r:=by
 unfold kZ at *
 cases hn:(za a&&za b)with
 |false=>simp[hn]at hr
 |true=>
  simp only[hn,cond_true]at hr ⊢
  split at hr
  ·split at hr
   ·rename_i v o hh hc;rw[Ic h hc];exact hr
   ·cases hr
  ·cases hr
end
theorem Zk (p:jg):∀n,lh (ar p n) (ar p (n+1))
 |0=>fun c st r h=>by simp[ar]at h
 |n+1=>by
  have ih:=Zk p n
  intro c st r h
  cases c with
  |region na l k=>simp only[ar]at h ⊢;exact Zi ih h
  |rangeFunc f ps a b=>simp only[ar]at h ⊢;exact Zj ih h
  |seq a b=>
   rw[ar]at h ⊢
   split at h
   ·rename_i fb h1
    rw[ih _ _ _ h1];exact ih _ _ _ h
   ·rename_i aS
    rw[ih _ _ _ h]
    split
    ·rename_i fb h1;cases h1;exact absurd h (aS _)
    ·rfl
  |cond c a b=>
   rw[ar]at h ⊢
   split at h
   ·rename_i t ht
    cases t
    ·simp only[cond_false]at h ⊢;exact ih _ _ _ h
    ·simp only[cond_true]at h ⊢;exact ih _ _ _ h
   ·cases h
  |block id b=>
   rw[ar]at h ⊢
   split at h
   ·rename_i eM fb h1
    rw[ih _ _ _ h1];exact h
   ·rename_i aS
    rw[ih _ _ _ h]
    split
    ·rename_i eM fb h1;cases h1;exact absurd h (aS _ _)
    ·rfl
  |loop b=>
   rw[ar]at h ⊢
   split at h
   ·rename_i fb h1
    rw[ih _ _ _ h1];exact ih _ _ _ h
   ·rename_i aS
    rw[ih _ _ _ h]
    split
    ·rename_i fb h1;cases h1;exact absurd h (aS _)
    ·rfl
  |_=>exact h
theorem qU (p:jg){n m}(h:n≤m):lh (ar p n) (ar p m):=by
 induction h with
 |refl=>exact fun _ _ _ h=>h
 |step _ ih=>exact fun c st r hr=>Zk p _ c st r (ih c st r hr)
open Classical in
noncomputable def X (p:jg):XC:=fun c st=>if h:∃r n,ar p n c st=I r then I (Classical.choose h)else En
theorem zr {p c st r}:X p c st=I r↔∃n,ar p n c st=I r:=by
 unfold X
 constructor
 ·intro h
  split at h
  ·rename_i hh
   cases h
   exact Classical.choose_spec hh
  ·cases h
 ·rintro ⟨n,hn⟩
  have hh:∃r n,ar p n c st=I r:=⟨r,n,hn⟩
  rw[dif_pos hh]
  obtain⟨m,hm⟩:=Classical.choose_spec hh
  have h1:=qU p (Jn n m) _ _ _ hn
  have h2:=qU p (If n m) _ _ _ hm
  rw[h1]at h2
  exact h2.symm
theorem mI {p}(n:Nat):lh (ar p n) (X p):=fun _ _ _ h=>zr.2 ⟨n,h⟩
section
variable {p:jg}
theorem qxt {af args hp r}(hr:nF (X p) af args hp=I r):∃n,nF (ar p n) af args hp=I r:=by
 have Yd:=hr
 unfold nF at hr
 cases hb:N9 args.length af.ntmps with
 |false=>simp[hb]at hr
 |true=>
  simp only[hb,cond_true]at hr
  have key:∀ {r'},X p af.body ⟨nc 0 args,hp⟩=I r'→∃n,nF (ar p n) af args hp=I r:=by
   intro r' h
   obtain⟨n,hn⟩:=zr.1 h
   refine⟨n,?_⟩
   unfold nF
   rw[hb,hn]
   rw[h]at hr
   exact hr
  split at hr
  ·rename_i st bH;exact key bH
  ·rename_i st bH;exact key bH
  ·cases hr
theorem Ig {k args hp r}(hr:ah p (X p) k args hp=I r):∃n,ah p (ar p n) k args hp=I r:=by
 unfold ah at *
 cases h:p.bn k with
 |none=>rw[h]at hr;exact⟨0,hr⟩
 |some f=>rw[h]at hr;exact qxt hr
theorem El {k args r}(hr:ae p (X p) k args=I r):∃n,ae p (ar p n) k args=I r:=by
 unfold ae at *
 cases h:p.bM k with
 |some f=>rw[h]at hr;exact⟨0,hr⟩
 |none=>
  rw[h]at hr
  simp only[]at hr ⊢
  split at hr
  ·rename_i v o hh hc
   obtain⟨n,hn⟩:=Ig hc
   exact⟨n,by rw[hn];exact hr⟩
  ·cases hr
theorem q0h {b args hp r}(hr:nf (X p) b args hp=I r):∃n,nf (ar p n) b args hp=I r:=by
 unfold nf at hr
 split at hr
 ·rename_i l hl
  split at hr
  ·rename_i e si hse
   split at hr
   ·rename_i st bH
    split at hr
    ·rename_i l1 lB
     cases iI:l1.pending.isNone with
     |false=>simp[iI]at hr
     |true=>
      simp only[iI,cond_true]at hr
      split at hr
      ·rename_i x aN gx
       obtain⟨n,hn⟩:=zr.1 bH
       obtain⟨m,hm⟩:=zr.1 gx
       refine⟨max n m,?_⟩
       have h1:=qU p (Jn n m) _ _ _ hn
       have h2:=qU p (If n m) _ _ _ hm
       simp only[nf,hl,si,hse,h1,lB,iI,cond_true,h2]
       exact hr
      ·cases hr
    ·cases hr
   ·cases hr
  ·cases hr
 ·cases hr
theorem qvy {h0 e hp md x l r}(hr:zf p (X p) h0 e hp md x l=I r):∃n,zf p (ar p n) h0 e hp md x l=I r:=by
 unfold zf at hr
 split at hr
 ·rename_i k first captured vs e1 e2
  cases md with
  |bw=>
   simp only[]at hr
   cases hb:qr 0 (first++vs++captured)with
   |false=>rw[hb]at hr;cases hr
   |true=>
    rw[hb]at hr
    simp only[cond_true]at hr
    split at hr
    ·rename_i v o hc
     obtain⟨n,hn⟩:=El hc
     refine⟨n,?_⟩
     simp only[zf,e1,e2,hn]
     rw[hb]
     exact hr
    ·cases hr
  |red=>
   simp only[]at hr
   split at hr
   ·rename_i us hf
    cases hb:qr 0 us with
    |false=>rw[hb]at hr;cases hr
    |true=>
     rw[hb]at hr
     simp only[cond_true]at hr
     split at hr
     ·rename_i v o hc
      obtain⟨n,hn⟩:=El hc
      refine⟨n,?_⟩
      simp only[zf,e1,e2,hf,hn]
      rw[hb]
      exact hr
     ·cases hr
   ·cases hr
  |eH _=>
   simp only[]at hr
   cases he:(first++vs++captured).isEmpty with
   |true=>exact⟨0,by simp only[zf,e1,e2,he];rw[he]at hr;exact hr⟩
   |false=>
    rw[he]at hr
    simp only[cond_false]at hr
    cases hb:qr 0 (first++vs++captured)with
    |false=>rw[hb]at hr;cases hr
    |true=>
     rw[hb]at hr
     simp only[cond_true]at hr
     split at hr
     ·rename_i v o hc
      obtain⟨n,hn⟩:=El hc
      refine⟨n,?_⟩
      simp only[zf,e1,e2,hn]
      rw[he,hb]
      exact hr
     ·cases hr
  |shr=>
   simp only[]at hr
   split at hr
   ·rename_i v o hh hc
    obtain⟨n,hn⟩:=Ig hc
    refine⟨n,?_⟩
    simp only[zf,e1,e2,hn]
    exact hr
   ·cases hr
 ·rename_i b vs e1 e2
  cases md with
  |shr=>
   simp only[]at hr
   split at hr
   ·rename_i v hh hc
    obtain⟨n,hn⟩:=q0h hc
    refine⟨n,?_⟩
    simp only[zf,e1,e2,hn]
    exact hr
   ·cases hr
  |_=>simp at hr
 ·cases hr
theorem q32 {h0 al e hp op r}(hr:qb p (X p) h0 al e hp op=I r):∃n,qb p (ar p n) h0 al e hp op=I r:=by
 cases op with
 |call md x l=>exact qvy hr
 |append rk sz b x y=>cases rk<;>exact⟨0,hr⟩
 |bK rk sz b z n c=>cases rk<;>exact⟨0,hr⟩
 |_=>exact⟨0,hr⟩
theorem qv5 {h0 o st aN}(hr:zg p (X p) h0 o st=I aN):∃n,zg p (ar p n) h0 o st=I aN:=by
 unfold zg at *
 cases hg:km st.env o.guard with
 |none=>simp[hg]at hr
 |some b=>
  rw[hg]at hr
  cases b with
  |false=>exact⟨0,hr⟩
  |true=>
   simp only[]at hr ⊢
   split at hr
   ·rename_i r hs
    obtain⟨n,hn⟩:=q32 hs
    exact⟨n,by rw[hn];exact hr⟩
   ·cases hr
theorem Zl {h0}:∀ {l:List bD} {st aN:aV},yv p (X p) h0 l st=I aN→∃n,yv p (ar p n) h0 l st=I aN
 | [],_,_,hr=>⟨0,hr⟩
 |o::l,st,aN,hr=>by
  simp only[yv]at hr
  split at hr
  ·rename_i s1 h1
   obtain⟨n,hn⟩:=qv5 h1
   obtain⟨m,hm⟩:=Zl hr
   refine⟨max n m,?_⟩
   simp only[yv]
   rw[Zh (qU p (Jn n m)) hn]
   exact PA (qU p (If n m)) hm
  ·cases hr
theorem qzv {na l k st r}(hr:yq p (X p) na l k st=I r):∃n,yq p (ar p n) na l k st=I r:=by
 unfold yq at hr
 split at hr
 ·rename_i s1 h1
  obtain⟨n,hn⟩:=Zl h1
  exact⟨n,by unfold yq;rw[hn];exact hr⟩
 ·cases hr
theorem q2x {x ps a b st r}(hr:kZ p (X p) x ps a b st=I r):∃n,kZ p (ar p n) x ps a b st=I r:=by
 unfold kZ at hr
 cases hn:(za a&&za b)with
 |false=>simp[hn]at hr
 |true=>
  simp only[hn,cond_true]at hr
  split at hr
  ·rename_i k first captured lH
   split at hr
   ·rename_i v o hh hc
    obtain⟨n,qO⟩:=Ig hc
    refine⟨n,?_⟩
    unfold kZ
    rw[hn,lH]
    simp only[cond_true]
    rw[qO]
    exact hr
   ·cases hr
  ·cases hr
theorem vN {α:Type}{x y:Option α}(h1:∀r,x=I r→y=I r)(h2:∀r,y=I r→x=I r):x=y:=by
 cases x with
 |none=>
  cases y with
  |none=>rfl
  |some r=>exact(h2 r rfl)
 |some r=>exact(h1 r rfl).symm
theorem Zm {st}:X p .skip st=I (.normal,st):=zr.2 ⟨1,rfl⟩
theorem Zn {id st}:X p (.exit id) st=I (.exit id,st):=zr.2 ⟨1,rfl⟩
theorem Zo {st}:X p .ret st=I (.ret,st):=zr.2 ⟨1,rfl⟩
theorem Zp {na:Nat}{l:List bD}{k st}:X p (.region na l k) st=yq p (X p) na l k st:=by
 refine vN (fun r h=>?_) (fun r h=>?_)
 ·obtain⟨n,hn⟩:=zr.1 h
  cases n with
  |zero=>simp[ar]at hn
  |succ n=>simp only[ar]at hn;exact Zi (mI n) hn
 ·obtain⟨n,hn⟩:=qzv h
  exact zr.2 ⟨n+1,by simp only[ar];exact hn⟩
theorem Zq {x:jd}{ps:List Nat}{a b st}:X p (.rangeFunc x ps a b) st=kZ p (X p) x ps a b st:=by
 refine vN (fun r h=>?_) (fun r h=>?_)
 ·obtain⟨n,hn⟩:=zr.1 h
  cases n with
  |zero=>simp[ar]at hn
  |succ n=>simp only[ar]at hn;exact Zj (mI n) hn
 ·obtain⟨n,hn⟩:=q2x h
  exact zr.2 ⟨n+1,by simp only[ar];exact hn⟩
theorem Zr {a b:au}{st:aV}:X p (.seq a b) st=match X p a st with
  |some (.normal,aN)=>X p b aN
  |r=>r:=by
 refine vN (fun r h=>?_) (fun r h=>?_)
 ·obtain⟨n,hn⟩:=zr.1 h
  cases n with
  |zero=>simp[ar]at hn
  |succ n=>
   rw[ar]at hn
   split at hn
   ·rename_i fb h1;rw[mI n _ _ _ h1];exact mI n _ _ _ hn
   ·rename_i aS
    rw[mI n _ _ _ hn]
    split
    ·rename_i fb h1;cases h1;exact absurd hn (aS _)
    ·rfl
 ·split at h
  ·rename_i fb h1
   obtain⟨n,hn⟩:=zr.1 h1
   obtain⟨m,hm⟩:=zr.1 h
   refine zr.2 ⟨max n m+1,?_⟩
   rw[ar,qU p (Jn n m) _ _ _ hn]
   exact qU p (If n m) _ _ _ hm
  ·rename_i aS
   obtain⟨n,hn⟩:=zr.1 h
   refine zr.2 ⟨n+1,?_⟩
   rw[ar,hn]
   split
   ·rename_i fb h1;cases h1;exact absurd h (aS _)
   ·rfl
theorem Zs {c:jd}{a b:au}{st}:X p (.cond c a b) st=match qg st.env c with
  |some (.bool t)=>bif t then X p a st else X p b st
  |_=>En:=by
 refine vN (fun r h=>?_) (fun r h=>?_)
 ·obtain⟨n,hn⟩:=zr.1 h
  cases n with
  |zero=>simp[ar]at hn
  |succ n=>
   rw[ar]at hn
   split at hn
   ·rename_i t ht
    rw[ht]
    cases t
    ·simp only[cond_false]at hn ⊢;exact mI n _ _ _ hn
    ·simp only[cond_true]at hn ⊢;exact mI n _ _ _ hn
   ·cases hn
 ·split at h
  ·rename_i t ht
   cases t
   ·simp only[cond_false]at h
    obtain⟨n,hn⟩:=zr.1 h
    exact zr.2 ⟨n+1,by rw[ar,ht];exact hn⟩
   ·simp only[cond_true]at h
    obtain⟨n,hn⟩:=zr.1 h
    exact zr.2 ⟨n+1,by rw[ar,ht];exact hn⟩
  ·cases h
theorem Zt {id:Nat}{b:au}{st}:X p (.block id b) st=match X p b st with
  |some (.exit eM,aN)=>bif Jp eM id then I (.normal,aN)else I (.exit eM,aN)
  |r=>r:=by
 refine vN (fun r h=>?_) (fun r h=>?_)
 ·obtain⟨n,hn⟩:=zr.1 h
  cases n with
  |zero=>simp[ar]at hn
  |succ n=>
   rw[ar]at hn
   split at hn
   ·rename_i eM fb h1;rw[mI n _ _ _ h1];exact hn
   ·rename_i aS
    rw[mI n _ _ _ hn]
    split
    ·rename_i eM fb h1;cases h1;exact absurd hn (aS _ _)
    ·rfl
 ·split at h
  ·rename_i eM fb h1
   obtain⟨n,hn⟩:=zr.1 h1
   exact zr.2 ⟨n+1,by rw[ar,hn];exact h⟩
  ·rename_i aS
   obtain⟨n,hn⟩:=zr.1 h
   refine zr.2 ⟨n+1,?_⟩
   rw[ar,hn]
   split
   ·rename_i eM fb h1;cases h1;exact absurd h (aS _ _)
   ·rfl
theorem Zu {b:au}{st:aV}:X p (.loop b) st=match X p b st with
  |some (.normal,aN)=>X p (.loop b) (gc st.heap.length aN)
  |r=>r:=by
 refine vN (fun r h=>?_) (fun r h=>?_)
 ·obtain⟨n,hn⟩:=zr.1 h
  cases n with
  |zero=>simp[ar]at hn
  |succ n=>
   rw[ar]at hn
   split at hn
   ·rename_i fb h1;rw[mI n _ _ _ h1];exact mI n _ _ _ hn
   ·rename_i aS
    rw[mI n _ _ _ hn]
    split
    ·rename_i fb h1;cases h1;exact absurd hn (aS _)
    ·rfl
 ·split at h
  ·rename_i fb h1
   obtain⟨n,hn⟩:=zr.1 h1
   obtain⟨m,hm⟩:=zr.1 h
   refine zr.2 ⟨max n m+1,?_⟩
   rw[ar,qU p (Jn n m) _ _ _ hn]
   exact qU p (If n m) _ _ _ hm
  ·rename_i aS
   obtain⟨n,hn⟩:=zr.1 h
   refine zr.2 ⟨n+1,?_⟩
   rw[ar,hn]
   split
   ·rename_i fb h1;cases h1;exact absurd h (aS _)
   ·rfl
theorem Zv {sz:Nat}{st:aV}:X p (.grow sz) st=match ja 0 st.env,ja 1 st.env with
   |some (.list Ga _ _,_),I (.int .i64 (.ofNat m),_)=>bif Ov 0 m&&N9 m 1073741824 then I (.normal,{ st with env:=[(0,.list Ha sz [],Ga)] })else En
   |_,_=>En:=by
 refine vN (fun r h=>?_) (fun r h=>?_)
 ·obtain⟨n,hn⟩:=zr.1 h
  cases n with
  |zero=>simp[ar]at hn
  |succ n=>simp only[ar]at hn;exact hn
 ·exact zr.2 ⟨1,by simp only[ar];exact h⟩
theorem qyt {P}(dH:bu P p){k args v ow}(h:ae p (X p) k args=I (v,ow))(hb:qr 0 args=Ga):IsoCall P k args v ow:=by
 obtain⟨n,hn⟩:=El h
 exact YY dH hn hb
end
structure vO (p q:jg)(f g:XC):Prop where
 x:lh f g
 fn:∀k args hp r,ah p f k args hp=I r→ah q g k args hp=I r
 bw:∀k args r,ae p f k args=I r→ae q g k args=I r
 maps:∀k es,p.maps k=I es→q.maps k=I es
section
variable {p q:jg}{f g:XC}
theorem qzw (h:vO p q f g){h0 e hp md x l r}(hr:zf p f h0 e hp md x l=I r):zf q g h0 e hp md x l=I r:=by
 unfold zf at *
 split at hr
 ·cases md with
  |bw=>
   simp only[]at hr ⊢
   rename_i k first captured vs _ _
   cases hb:qr 0 (first++vs++captured)with
   |false=>rw[hb]at hr;cases hr
   |true=>
    rw[hb]at hr
    simp only[cond_true]at hr ⊢
    split at hr
    ·rename_i v o hc;rw[h.bw _ _ _ hc];exact hr
    ·cases hr
  |red=>
   simp only[]at hr ⊢
   split at hr
   ·rename_i us hf
    cases hb:qr 0 us with
    |false=>rw[hb]at hr;cases hr
    |true=>
     rw[hb]at hr
     simp only[cond_true]at hr ⊢
     split at hr
     ·rename_i v o hc;rw[h.bw _ _ _ hc];exact hr
     ·cases hr
   ·cases hr
  |eH _=>
   simp only[]at hr ⊢
   rename_i k first captured vs _ _ _
   cases he:(first++vs++captured).isEmpty with
   |true=>
    rw[he]at hr
    simp only[cond_true]at hr ⊢
    split at hr
    ·rename_i es hes;rw[h.maps _ _ hes];exact hr
    ·cases hr
   |false=>
    rw[he]at hr
    simp only[cond_false]at hr ⊢
    cases hb:qr 0 (first++vs++captured)with
    |false=>rw[hb]at hr;cases hr
    |true=>
     rw[hb]at hr
     simp only[cond_true]at hr ⊢
     split at hr
     ·rename_i v o hc;rw[h.bw _ _ _ hc];exact hr
     ·cases hr
  |shr=>
   simp only[]at hr ⊢
   split at hr
   ·rename_i v o hh hc;rw[h.fn _ _ _ _ hc];exact hr
   ·cases hr
 ·cases md with
  |shr=>
   simp only[]at hr ⊢
   split at hr
   ·rename_i v hh hc;rw[Zg h.x hc];exact hr
   ·cases hr
  |_=>simp at hr
 ·cases hr
theorem q7a (h:vO p q f g){h0 al e hp op r}(hr:qb p f h0 al e hp op=I r):qb q g h0 al e hp op=I r:=by
 cases op with
 |call md x l=>exact qzw h hr
 |append rk sz b x y=>cases rk<;>exact hr
 |bK rk sz b z n c=>cases rk<;>exact hr
 |_=>exact hr
theorem q0k (h:vO p q f g){h0 o st aN}(hr:zg p f h0 o st=I aN):zg q g h0 o st=I aN:=by
 unfold zg at *
 split at hr
 ·split at hr
  ·rename_i r hs;rw[q7a h hs];exact hr
  ·cases hr
 ·exact hr
 ·cases hr
theorem Zw (h:vO p q f g){h0}:∀ {l:List bD} {st aN:aV},yv p f h0 l st=I aN→yv q g h0 l st=I aN
 | [],_,_,hr=>hr
 |o::l,st,aN,hr=>by
  simp only[yv]at hr ⊢
  split at hr
  ·rename_i s1 h1;rw[q0k h h1];exact Zw h hr
  ·cases hr
theorem q2i (h:vO p q f g){na l k st r}(hr:yq p f na l k st=I r):yq q g na l k st=I r:=by
 unfold yq at *
 split at hr
 ·rename_i s1 h1;rw[Zw h h1];exact hr
 ·cases hr
theorem q50 (h:vO p q f g){x ps a b st r}(hr:kZ p f x ps a b st=I r):kZ q g x ps a b st=I r:=by
 unfold kZ at *
 cases hn:(za a&&za b)with
 |false=>simp[hn]at hr
 |true=>
  simp only[hn,cond_true]at hr ⊢
  split at hr
  ·split at hr
   ·rename_i v o hh hc;rw[h.fn _ _ _ _ hc];exact hr
   ·cases hr
  ·cases hr
end
structure en (p q:jg):Prop where
 maps:∀k es,p.maps k=I es→q.maps k=I es
 bn:∀k b,p.bn k=I b→q.bn k=I b∨(q.bn k=En∧∃F,q.bR k=I F∧∀args hp r,ah p (X p) k args hp=I r→F args hp=I r)
 bR:∀k F,p.bn k=En→p.bR k=I F→q.bn k=En∧∃G,q.bR k=I G∧∀args hp r,F args hp=I r→G args hp=I r
 bM:∀k,(∃F,q.bM k=I F∧∀args r,ae p (X p) k args=I r→F args=I r)∨(q.bM k=En∧p.bM k=En)
theorem qy6 {p:jg}{xc:XC}{k args r}(h:ae p xc k args=I r):jQ r.1=Ga:=by
 unfold ae at h
 split at h
 ·split at h
  ·rename_i v o _
   cases hv:jQ v with
   |false=>rw[hv]at h;cases h
   |true=>rw[hv]at h;cases h;exact hv
  ·cases h
 ·split at h
  ·split at h
   ·rename_i v' _
    cases hv:jQ v' with
    |false=>rw[hv]at h;cases h
    |true=>rw[hv]at h;cases h;exact hv
   ·cases h
  ·cases h
theorem en.step {p q:jg}(h:en p q){n:Nat}(hx:lh (ar p n) (X q)):vO p q (ar p n) (X q):=by
 have hfn:∀k args hp r,ah p (ar p n) k args hp=I r→ah q (X q) k args hp=I r:=by
  intro k args hp r hr
  cases hb:p.bn k with
  |some b=>
   rcases h.bn k b hb with hq|⟨hq,F,hF,PB⟩
   ·unfold ah at hr ⊢
    rw[hb]at hr
    rw[hq]
    exact Zf hx hr
   ·have:=PB args hp r (Ic (mI n) hr)
    unfold ah
    rw[hq,hF]
    exact this
  |none=>
   unfold ah at hr
   rw[hb]at hr
   cases hs:p.bR k with
   |none=>rw[hs]at hr;cases hr
   |some F=>
    rw[hs]at hr
    obtain⟨hq,G,hG,hGk⟩:=h.bR k F hb hs
    unfold ah
    rw[hq,hG]
    exact hGk args hp r hr
 refine⟨hx,hfn,?_,h.maps⟩
 intro k args r hr
 have iL:=qy6 hr
 rcases h.bM k with⟨F,hF,PB⟩|⟨hq,hp⟩
 ·have:=PB args r (Ie (mI n) hr)
  unfold ae
  rw[hF]
  obtain⟨v,o⟩:=r
  simp only[this]
  rw[iL];rfl
 ·unfold ae at hr ⊢
  rw[hp]at hr
  rw[hq]
  simp only[]at hr ⊢
  split at hr
  ·rename_i v o hh hc
   rw[hfn _ _ _ _ hc]
   exact hr
  ·cases hr
theorem en.ar {p q:jg}(h:en p q):∀n,lh (ar p n) (X q)
 |0=>fun c st r hr=>by simp[Go.Abs.ar]at hr
 |n+1=>by
  have ih:=h.ar n
  have hs:=h.step ih
  intro c st r hr
  cases c with
  |region na l k=>rw[Zp];simp only[Go.Abs.ar]at hr;exact q2i hs hr
  |rangeFunc x ps a b=>rw[Zq];simp only[Go.Abs.ar]at hr;exact q50 hs hr
  |skip=>rw[Zm];simpa[Go.Abs.ar]using hr
  |exit id=>rw[Zn];simpa[Go.Abs.ar]using hr
  |ret=>rw[Zo];simpa[Go.Abs.ar]using hr
  |seq a b=>
   rw[Zr]
   rw[Go.Abs.ar]at hr
   split at hr
   ·rename_i fb h1
    rw[ih _ _ _ h1];exact ih _ _ _ hr
   ·rename_i aS
    rw[ih _ _ _ hr]
    split
    ·rename_i fb h1;cases h1;exact absurd hr (aS _)
    ·rfl
  |cond c a b=>
   rw[Zs]
   rw[Go.Abs.ar]at hr
   split at hr
   ·rename_i t ht
    rw[ht]
    cases t
    ·exact ih _ _ _ hr
    ·exact ih _ _ _ hr
   ·cases hr
  |block id b=>
   rw[Zt]
   rw[Go.Abs.ar]at hr
   split at hr
   ·rename_i eM fb h1
    rw[ih _ _ _ h1];exact hr
   ·rename_i aS
    rw[ih _ _ _ hr]
    split
    ·rename_i eM fb h1;cases h1;exact absurd hr (aS _ _)
    ·rfl
  |loop b=>
   rw[Zu]
   rw[Go.Abs.ar]at hr
   split at hr
   ·rename_i fb h1
    rw[ih _ _ _ h1];exact ih _ _ _ hr
   ·rename_i aS
    rw[ih _ _ _ hr]
    split
    ·rename_i fb h1;cases h1;exact absurd hr (aS _)
    ·rfl
  |grow sz=>rw[Zv];rw[Go.Abs.ar]at hr;exact hr
  |stuck=>simp[Go.Abs.ar]at hr
theorem en.X {p q:jg}(h:en p q){c st r}(hr:X p c st=I r):Go.Abs.X q c st=I r:=by
 obtain⟨n,hn⟩:=zr.1 hr
 exact h.ar n _ _ _ hn
theorem en.ah {p q:jg}(h:en p q){k args hp r}(hr:ah p (Go.Abs.X p) k args hp=I r):Go.Abs.ah q (Go.Abs.X q) k args hp=I r:=by
 obtain⟨n,hn⟩:=Ig hr
 exact(h.step (h.ar n)).fn _ _ _ _ hn
theorem en.ae {p q:jg}(h:en p q){k args r}(hr:ae p (Go.Abs.X p) k args=I r):Go.Abs.ae q (Go.Abs.X q) k args=I r:=by
 obtain⟨n,hn⟩:=El hr
 exact(h.step (h.ar n)).bw _ _ _ hn
inductive gk where
 |code (c:au)
 |seq (a b:gk)
 |cond (c:jd) (a b:gk)
 |block (id:Nat) (b:gk)
 |loop (b:gk)
 |vA (s:Nat) (c:gk)
 |shut (s sz:Nat) (c:gk)
def gk.erase:gk→au
 | .code c=>c
 | .seq a b=>.seq a.erase b.erase
 | .cond c a b=>.cond c a.erase b.erase
 | .block id b=>.block id b.erase
 | .loop b=>.loop b.erase
 | .vA _ c=>c.erase
 | .shut _ _ c=>c.erase
def PD (P:Program)(w0:World)(K:Nat→Nat→Option Value)(nt:Nat)(st:aV)(a:Act)(w:World):Prop:=
 a.tmps.size=nt∧∃C' ω',Marks C' w0.heap.size a.defers∧aq P C' ω' w0 (.bw K) st.heap w∧ai C' ω' w w0.heap.size st.env a.tmps
theorem PD.gc {P w0 K nt n st a w}(h:PD P w0 K nt st a w):PD P w0 K nt (Abs.gc n st) a w:=by
 obtain⟨h1,C',ω',h2,h3,h4⟩:=h
 unfold Abs.gc
 cases hb:N9 st.heap.length n with
 |true=>exact⟨h1,C',ω',h2,h3,h4⟩
 |false=>
  simp only[cond_false]
  cases iK:(oj n st.env&&yk n (st.heap.take n))with
  |false=>exact⟨h1,C',ω',h2,h3,h4⟩
  |true=>
   simp only[cond_true]
   simp only[E3]at iK
   have hn:n≤st.heap.length:=by
    rcases Nat.lt_or_ge n st.heap.length with h|h
    ·omega
    ·rw[Od h]at hb;cases hb
   exact⟨h1,C'.cut n,ω',⟨h2.choose,h2.choose_spec.1,h2.choose_spec.2.1,h2.choose_spec.2.2⟩,h3.gc hn iK.2 (fun b r h=>by cases h),h4.cut iK.1⟩
section
variable {P:Program}
theorem Tabs.table {w}(h:Tabs P w){g}(hg:P.globalNamed l9=I g):Lib.TabIs P w l9 .u64 Lib.pow10Tab:=(h g (.inl hg)).2.1 hg
theorem Tabs.length {w}(h:Tabs P w){g}(hg:P.globalNamed tr=I g):∃m,w.cell? ⟨g,0,En⟩=I (.int .i64 m):=(h g (.inr (.inl hg))).2.2.1 hg
theorem Em {k args v}(h:∀(K:Nat→Nat→Option Value) (w:World) (vs:List Value),Tabs P w→(∀r o u,K r o=I u→w.cell? ⟨r,o,En⟩=I u)→aF (.bw K) args vs →
  ∃u,bp (.bw K) v u∧Calls P k ⟨vs⟩ w fun e w'=>e=.returned u∧Ext w w'):IsoCall P k args v Ha:=by
 intro K w vs ht h1 h2 hr
 obtain⟨u,hu,hc⟩:=h K w vs ht h1 hr
 refine callsIn_wide.2 (hc.mono ?_)
 rintro e w' ⟨rfl,hx⟩
 exact⟨u,K,rfl,hx,fun _ _ _ h=>h,fun _ _ _=>rfl,fun r o x hk=>hx.cell (h1 r o x hk),h2,hu,fun h=>by cases h⟩
theorem Zx {C r}:∀ {xs:List AVal} {us:List Value} {o:Nat},aF C xs us→(∀x∈xs,x.flat=[x])→(∀(j:Nat) u,us[j]?=I u→C.K r (o+j)=I u)→aO C r 1 xs o
 | [],_,o,_,_,_=>.eY _ _ _
 |x::xs,us,o,h,hf,hk=>by
  cases h with
  |cons _ _ u us hx hr=>
   have uY:=hf x (Og ..)
   refine .cO _ _ _ _ _ (by rw[uY];rfl) ?_ (Zx hr (fun y hy=>hf y (Oe _ hy)) fun j u hj=>?_)
   ·rw[uY]
    exact .cV _ _ _ _ u (by have:=hk 0 u rfl;simpa using this) hx (.gu _ _)
   ·have:=hk (j+1) u (by simpa using hj)
    rw[show o+1+j=o+(j+1) by omega]
    exact this
theorem jb0 {k args xs us}{t:TypeId}(hf:∀x∈xs,x.flat=[x])(gg:∀K,aF (.bw K) xs us)(h1u:∀u∈us,u.oneCell'=Ga)
  (h:∀(K:Nat→Nat→Option Value) (w:World) (vs:List Value),Tabs P w→(∀r o u,K r o=I u→w.cell? ⟨r,o,En⟩=I u)→aF (.bw K) args vs →
  Calls P k ⟨vs⟩ w fun e w'=>e=.returned (.slice (I ⟨w.heap.size,0,En⟩) xs.length xs.length)∧w'=w.alloc (.cells us.toArray t)):IsoCall P k args (.list Ha 1 xs) Ha:=by
 intro K w vs ht h1 h2 hr
 refine callsIn_wide.2 ((h K w vs ht h1 hr).mono ?_)
 rintro e w' ⟨rfl,rfl⟩
 have hx:Ext w (w.alloc (.cells us.toArray t)):=Ext.alloc w _ (fun c t fr h=>by cases h;rfl)
 have DV:∀o u,K w.heap.size o=I u→False:=fun o u hk=>by
  have:=h1 _ _ _ hk
  simp only[World.cell?,Array.getElem?_eq_none (Ou _)]at this
  cases this
 refine⟨_,fun r o=>if r=w.heap.size then us[o]? else K r o,rfl,hx,?_,?_,?_,?_,?_,fun h=>by cases h⟩
 ·intro r o x hk
  have aS:r≠w.heap.size:=fun e=>DV o x (e▸hk)
  simp only[if_neg aS];exact hk
 ·intro r o aC
  have aS:r≠w.heap.size:=by omega
  simp only[if_neg aS]
 ·intro r o x hk
  simp only[]at hk
  split at hk
  ·next hr=>
   subst hr
   have hg:(w.alloc (.cells us.toArray t)).heap[w.heap.size]?=I (.cells us.toArray t):=by rw[rP,if_pos rfl]
   simp only[World.cell?]
   rw[hg]
   simpa using hk
  ·exact hx.cell (h1 r o x hk)
 ·intro r o x hk
  simp only[]at hk
  split at hk
  ·exact h1u x (N4 hk)
  ·exact h2 r o x hk
 ·refine .list _ _ _ _ _ (Ou _) (Zx (gg _) hf fun j u hj=>?_)
  show(if w.heap.size=w.heap.size then us[0+j]? else K w.heap.size (0+j))=I u
  rw[if_pos rfl,Nat.zero_add];exact hj
theorem IsoCall.shr {k args v ow}(h:IsoCall P k args v ow)(hb:qr 0 args=Ga)(hp:jQ v=Ga)(dH:ql):vw P k args dH v Ha dH:=by
 intro C ω w vs hr m
 have iF:aF (.bw C.K) args vs:=ay.shift (C:=C) (C':=.bw C.K) 0 (fun _ _ _ h=>h) (fun b r aC=>by omega) hr hb
 refine CallsIn.mono (h C.K w vs m.tabs m.know m.cE iF) ?_
 rintro e w' ⟨u,K',rfl,q1,q2,q3,q4,q5,q6,_⟩
 refine⟨u,{ C with K:=K' },ω,rfl,⟨q2,fun _ _ h=>h,rfl,fun _ h=>h,fun _ h=>h⟩,m.bw q1 q2 q3 q4 q5,?_,fun h=>by cases h⟩
 exact ay.shift (C:=.bw K') (C':={ C with K:=K' }) 0 (fun _ _ _ h=>h) (fun b r aC=>by omega) q6 hp
end
open Go
def Bu:List UInt8→List UInt8→Bool
 | [],[]=>Ga
 |a::l,b::m=>bif Jp a.toNat b.toNat then Bu l m else Ha
 |_,_=>Ha
theorem Zy:∀ {l m:List UInt8},Bu l m=Ga→l=m
 | [],[],_=>rfl
 | [],_::_,h=>by simp[Bu]at h
 |_::_,[],h=>by simp[Bu]at h
 |a::l,b::m,h=>by
  simp only[Bu,Hy]at h
  split at h
  ·next hb=>rw[UInt8.toNat_inj.1 (Gc hb),Zy h]
  ·exact absurd h (by simp)
def Ih:Int→Int→Bool
 | .ofNat a,.ofNat b=>Jp a b
 | .negSucc a,.negSucc b=>Jp a b
 |_,_=>Ha
theorem qz2:∀ {a b:Int},Ih a b=Ga→a=b
 | .ofNat _,.ofNat _,h=>by rw[Gc h]
 | .negSucc _,.negSucc _,h=>by rw[Gc h]
 | .ofNat _,.negSucc _,h=>by simp[Ih]at h
 | .negSucc _,.ofNat _,h=>by simp[Ih]at h
mutual
def ia:AVal→AVal→Bool
 | .bool a,.bool b=>a == b
 | .int k a,.int k' b=>bif decide (k=k')then Ih a b else Ha
 | .str a,.str b=>Bu a b
 | .list a n xs,.list b m ys=>bif a == b then bif Jp n m then qV xs ys else Ha else Ha
 | .agg xs,.agg ys=>qV xs ys
 | .av xs,.av ys=>qV xs ys
 |_,_=>Ha
def qV:List AVal→List AVal→Bool
 | [],[]=>Ga
 |a::l,b::m=>bif ia a b then qV l m else Ha
 |_,_=>Ha
end
mutual
theorem Zz:∀ {a b:AVal},ia a b=Ga→a=b:=by
 intro a b h
 match a,b with
 | .bool _,.bool _=>simp only[ia,beq_iff_eq]at h;rw[h]
 | .int k a,.int k' b=>
  simp only[ia,Hy,decide_eq_true_eq]at h
  split at h
  ·next hk=>rw[hk,qz2 h]
  ·exact absurd h (by simp)
 | .str _,.str _=>simp only[ia]at h;rw[Zy h]
 | .list a n xs,.list b m ys=>
  simp only[ia,Hy,beq_iff_eq]at h
  split at h
  ·next h1=>
   split at h
   ·next h2=>rw[h1,Gc h2,Bv h]
   ·exact absurd h (by simp)
  ·exact absurd h (by simp)
 | .agg _,.agg _=>simp only[ia]at h;rw[Bv h]
 | .av _,.av _=>simp only[ia]at h;rw[Bv h]
 | .bool _,.int .. | .bool _,.str _ | .bool _,.list .. | .bool _,.agg _ | .bool _,.av _=>simp[ia]at h
 | .int ..,.bool _ | .int ..,.str _ | .int ..,.list .. | .int ..,.agg _ | .int ..,.av _=>simp[ia]at h
 | .str _,.bool _ | .str _,.int .. | .str _,.list .. | .str _,.agg _ | .str _,.av _=>simp[ia]at h
 | .list ..,.bool _ | .list ..,.int .. | .list ..,.str _ | .list ..,.agg _ | .list ..,.av _=>simp[ia]at h
 | .agg _,.bool _ | .agg _,.int .. | .agg _,.str _ | .agg _,.list .. | .agg _,.av _=>simp[ia]at h
 | .av _,.bool _ | .av _,.int .. | .av _,.str _ | .av _,.list .. | .av _,.agg _=>simp[ia]at h
 | .ms ..,_ | .ptr ..,_ | .ax _,_ | .ct _,_ | .bC,_ | .map _,_ | .bB,_ | .fn ..,_ | .bN,_ | .undef,_ | .any,_ | .aA ..,_ | .dK ..,_=>simp[ia]at h
 | .bool _,.ms .. | .bool _,.ptr .. | .bool _,.ax _ | .bool _,.ct _ | .bool _,.bC | .bool _,.map _ | .bool _,.bB | .bool _,.fn .. | .bool _,.bN | .bool _,.undef | .bool _,.aA .. | .bool _,.dK ..=>simp[ia]at h
 | .int ..,.ms .. | .int ..,.ptr .. | .int ..,.ax _ | .int ..,.ct _ | .int ..,.bC | .int ..,.map _ | .int ..,.bB | .int ..,.fn .. | .int ..,.bN | .int ..,.undef | .int ..,.aA .. | .int ..,.dK ..=>simp[ia]at h
 | .str ..,.ms .. | .str ..,.ptr .. | .str ..,.ax _ | .str ..,.ct _ | .str ..,.bC | .str ..,.map _ | .str ..,.bB | .str ..,.fn .. | .str ..,.bN | .str ..,.undef | .str ..,.aA .. | .str ..,.dK ..=>simp[ia]at h
 | .list ..,.ms .. | .list ..,.ptr .. | .list ..,.ax _ | .list ..,.ct _ | .list ..,.bC | .list ..,.map _ | .list ..,.bB | .list ..,.fn .. | .list ..,.bN | .list ..,.undef | .list ..,.aA .. | .list ..,.dK ..=>simp[ia]at h
 | .agg ..,.ms .. | .agg ..,.ptr .. | .agg ..,.ax _ | .agg ..,.ct _ | .agg ..,.bC | .agg ..,.map _ | .agg ..,.bB | .agg ..,.fn .. | .agg ..,.bN | .agg ..,.undef | .agg ..,.aA .. | .agg ..,.dK ..=>simp[ia]at h
 | .av ..,.ms .. | .av ..,.ptr .. | .av ..,.ax _ | .av ..,.ct _ | .av ..,.bC | .av ..,.map _ | .av ..,.bB | .av ..,.fn .. | .av ..,.bN | .av ..,.undef | .av ..,.aA .. | .av ..,.dK ..=>simp[ia]at h
theorem Bv:∀ {l m:List AVal},qV l m=Ga→l=m:=by
 intro l m h
 match l,m with
 | [],[]=>rfl
 | [],_::_=>simp[qV]at h
 |_::_,[]=>simp[qV]at h
 |a::l,b::m=>
  simp only[qV,Hy]at h
  split at h
  ·next h1=>rw[Zz h1,Bv h]
  ·exact absurd h (by simp)
end
abbrev Row:=List AVal×AVal×Bool
def AP (args:List AVal):List Row→Option (AVal×Bool)
 | []=>En
 |r::l=>bif qV r.1 args then I r.2 else AP args l
theorem Nv {args x}:∀ {l:List Row},AP args l=I x→(args,x)∈l
 | [],h=>by simp[AP]at h
 |r::l,h=>by
  simp only[AP,Hy]at h
  split at h
  ·next hb=>
   simp only[I.injEq]at h
   rw[←Bv hb,←h]
   exact Og ..
  ·exact Oe _ (Nv h)
def Ns (P:Program)(tab:Nat→Option (List Row)):Prop:=
 ∀k l,tab k=I l→∀r∈l,IsoCall P k r.1 r.2.1 r.2.2
def s6:List (Nat×List Row)→Nat→Option (List Row)
 | [],_=>En
 |(k,l)::t,n=>bif Jp k n then I l else s6 t n
def PE (P:Program)(k:Nat):List Row→Prop
 | []=>True
 |r::l=>IsoCall P k r.1 r.2.1 r.2.2∧PE P k l
def ZA (P:Program):List (Nat×List Row)→Prop
 | []=>True
 |(k,l)::t=>PE P k l∧ZA P t
theorem ZB {P k}:∀ {l:List Row},PE P k l→∀r∈l,IsoCall P k r.1 r.2.1 r.2.2
 |r::l,h,x,hx=>by
  cases hx with
  |head=>exact h.1
  |tail _ hx=>exact ZB h.2 x hx
theorem Nt {P}:∀ {t:List (Nat×List Row)},ZA P t→Ns P (s6 t)
 |(j,m)::t,h,k,l,hk=>by
  simp only[s6,Hy]at hk
  split at hk
  ·next hb=>
   rw[Gc hb]at h
   simp only[I.injEq]at hk
   subst hk
   exact ZB h.1
  ·exact Nt h.2 k l hk
theorem ZC {P p}(h:bu P p){n k b ow h1 es}(hr:ah p (yj p n) k [] []=I (.map b,ow,h1))(hb:h1[b]?=I (.map es))(he:kx 0 es=Ga):Enters P k∧OM P k es:=
 q25 h (bV.D6 (H3 h n).1) (by rw[←H8];exact hr) hb he
theorem qd {P p}(h:bu P p){n k args v o}(hr:ae p (yj p n) k args=some (v,o))(hb:qr 0 args=true:=by rfl):IsoCall P k args v o:=
 YY h (q6z hr) hb
end Go.Abs
