/- The growth of an empty slice in slices.Grow. -/
import Derived.Test.YtfopaakmgogpiaaGreatDoorAbsF
import Derived.Lib.AppendZeros
set_option linter.unusedVariables false
set_option linter.unusedSimpArgs false
open Option renaming some→I,none→Eh,map_eq_some_iff→Ev
open Bool renaming and_eq_true→El,true→E7,false→Ga
open Array renaming getD_eq_getD_getElem?→En,ext'→Eo,getElem?_eq_some_iff→E5
open Prod renaming mk→E6
namespace Go.Abs
section
variable {P:Program}{C C0:ax}{ω:Nat→Option Loc}{w w0:World}{hp:j8}{env:Env}{a:Act}{ρ:Option Nat}
theorem vM {a:Act}{d:Nat}{v:Value}(h:d<a.tmps.size):(a.put (I d) v).eval (.tmp d)=v:=by
 simp[Act.eval,Act.put,En,h]
theorem og {a:Act}{d j:Nat}{v:Value}(h:d≠j):(a.put (I d) v).eval (.tmp j)=a.eval (.tmp j):=by
 simp[Act.eval,Act.put,En,Array.getElem?_setIfInBounds_ne h]
theorem qO {a:Act}{d:Nat}{v:Value}:(a.put (I d) v).tmps.size=a.tmps.size:=by simp[Act.put]
theorem uE {ops:Array Oper}{Q:Exit→Act→World→Prop}{i d:Nat}{rest:List Nat}{o:Oper}{v:Value}{w':World}(hi:ops[i]?=I o)(hg:o.guard=Eh)(hd:o.dst=I d)(hn:∀c,o.op≠.defer c)(bn:(execOp a.eval o).run P w=.ok (.value v) w')
  (hk:wpOpsIn (iL ρ) 0 P ops Q rest (a.put (I d) v) w'):wpOpsIn (iL ρ) 0 P ops Q (i::rest) a w:=by
 rw[wpOpsIn_cons]
 unfold wpOpIn
 rw[hi]
 simp only[]
 rw[show Region.wanted o (yielded ops a.tmps)=E7 from by simp[Region.wanted,hg]]
 simp only[if_true]
 refine⟨fun _ _=>trivial,?_⟩
 rw[Oper.semAt_eq _ _ _ hn,bn]
 rw[←hd]at hk
 exact hk
theorem MO {s d:Nat}{o:Oper}(h:Dp s d o=E7):o.op=.move (.tmp s)∧o.dst=I d∧o.guard=Eh:=by
 unfold Dp at h
 split at h
 ·rename_i h1 h2 h3
  simp only[El,beq_iff_eq]at h
  obtain⟨rfl,rfl⟩:=h
  exact⟨h1,h2,h3⟩
 ·cases h
theorem q3f {s d:Nat}{o:Oper}(h:R7 s d o=E7):o.op=.assign (.tmp s)∧o.dst=I d∧o.guard=Eh:=by
 unfold R7 at h
 split at h
 ·rename_i h1 h2 h3
  simp only[El,beq_iff_eq]at h
  obtain⟨rfl,rfl⟩:=h
  exact⟨h1,h2,h3⟩
 ·cases h
theorem jdh {x d:Nat}{o:Oper}{t:TypeId}(h:R8 x d o=I t):∃c,o.op=.call c∧c.callee=.builtin .cap∧c.args=#[.tmp x]∧c.argTypes=#[t]∧o.dst=I d∧o.guard=Eh:=by
 unfold R8 at h
 split at h
 ·rename_i c _ h1 h2 h3
  split at h
  ·rename_i h4 h5 h6
   split at h
   ·rename_i hk
    simp only[El,beq_iff_eq]at hk
    obtain⟨rfl,rfl⟩:=hk
    cases h
    exact⟨c,h1,h4,by apply Eo;simpa using h5,by apply Eo;simpa using h6,h2,h3⟩
   ·cases h
  ·cases h
 ·cases h
theorem jgm {x d:Nat}{o:Oper}{t:TypeId}(h:R9 x d o=I t):∃c,o.op=.call c∧c.callee=.builtin .len∧c.args=#[.tmp x]∧c.argTypes=#[t]∧o.dst=I d∧o.guard=Eh:=by
 unfold R9 at h
 split at h
 ·rename_i c _ h1 h2 h3
  split at h
  ·rename_i h4 h5 h6
   split at h
   ·rename_i hk
    simp only[El,beq_iff_eq]at hk
    obtain⟨rfl,rfl⟩:=hk
    cases h
    exact⟨c,h1,h4,by apply Eo;simpa using h5,by apply Eo;simpa using h6,h2,h3⟩
   ·cases h
  ·cases h
 ·cases h
theorem q1u {x h d:Nat}{o:Oper}{t:TypeId}(hh:Mc x h d o=I t):o.op=.slice t (.tmp x) Eh (I (.tmp h)) Eh∧o.dst=I d∧o.guard=Eh:=by
 unfold Mc at hh
 split at hh
 ·rename_i h1 h2 h3
  split at hh
  ·rename_i hk
   simp only[El,beq_iff_eq]at hk
   obtain⟨⟨rfl,rfl⟩,rfl⟩:=hk
   cases hh
   exact⟨h1,h2,h3⟩
  ·cases hh
 ·cases hh
theorem jgu {x y d:Nat}{o:Oper}{t u:TypeId}(h:Sb x y d o=I (t,u)):∃c,o.op=.call c∧c.callee=.builtin .append∧c.args=#[.tmp x,.tmp y]∧c.argTypes=#[t,u]∧o.dst=I d∧o.guard=Eh:=by
 unfold Sb at h
 split at h
 ·rename_i c _ h1 h2 h3
  split at h
  ·rename_i h4 h5 h6
   split at h
   ·rename_i hk
    simp only[El,beq_iff_eq]at hk
    obtain⟨⟨rfl,rfl⟩,rfl⟩:=hk
    cases h
    exact⟨c,h1,h4,by apply Eo;simpa using h5,by apply Eo;simpa using h6,h2,h3⟩
   ·cases h
  ·cases h
 ·cases h
theorem q6a {o:Oper}{t e:TypeId}{x h:Nat}{b:Option Addr}{len cap n:Nat}(ho:o.op=.slice t (.tmp x) Eh (I (.tmp h)) Eh)(ht:P.underlying t=I (.slice e)){sz:Nat}(hn:yh P e=I sz)(hx:a.eval (.tmp x)=.slice b len cap)(hh:a.eval (.tmp h)=.int .i64 (n:Int))(hle:n≤cap):
  (execOp a.eval o).run P w=.ok (.value (.slice (if cap=0 then b else b.map (·.add 0)) n cap)) w:=by
 have hb:(0:Int)≤n∧(n:Int)≤cap:=by omega
 simp[execOp,ho,Instr.sliceAt,Instr.slice,run_underlying ht,hx,Instr.sliceBounds,hh,Instr.sliceBound,asIntOf,hle,iT hn]
theorem jkv {id nt:Nat}{ops:Array Oper}{sz:Nat}(hg:Md P nt ops=I sz)(m:av P C ω w0 C0 hp w)(he:ai C ω w w0.heap.size env a.tmps)(cD:a.tmps.size=nt)(xy:Marks C w0.heap.size a.defers){z k:Nat}{xs:List qa}{o1 o2:Bool}
  (h0:ye 0 env=I (.list E7 z xs,o1)) (h1:ye 1 env=I (.int .i64 (.ofNat k),o2)) (hk0:0<k) (fG:k≤1073741824):
  (Code.region id ops Ga).wpIn (iL ρ) 0 P (fun e a' w'=>e=.normal∧cX P w0 C0 C nt ⟨[(0,.list Ga sz [],E7)],hp⟩ a' w') a w:=by
 unfold Md at hg
 split at hg
 ·rename_i t u oZ
  split at hg
  ·rename_i e kk ht hu
   split at hg
   ·rename_i i hi
    split at hg
    ·rename_i hc
     cases hg
     simp only[El,decide_eq_true_eq,Option.isSome_iff_exists,beq_iff_eq]at hc
     obtain⟨⟨⟨⟨⟨⟨zv,hz⟩,MP⟩,TJ⟩,hnt⟩,⟨zl,gP⟩⟩,pJ⟩:=hc
     have xB:yh P e=I i.size:=by simp[yh,hi]
     unfold ji6 at oZ
     split at oZ
     ·rename_i p0 p1 p2 p3 p4 p5 p6 p7 p8 p9 TK
      split at oZ
      ·rename_i t2 t3 tt uu t7 t8 g2 g3 g5 g7 g8
       split at oZ
       ·rename_i di
        cases oZ
        simp only[El,beq_iff_eq]at di
        obtain⟨⟨⟨⟨⟨⟨⟨⟨c0,c1⟩,c4⟩,c6⟩,c9⟩,x2⟩,x3⟩,x7⟩,x8⟩:=di
        replace x2:=x2.symm
        replace x3:=x3.symm
        replace x7:=x7.symm
        replace x8:=x8.symm
        subst x2;subst x3;subst x7;subst x8
        have Gc:ops=#[p0,p1,p2,p3,p4,p5,p6,p7,p8,p9]:=by apply Eo;simpa using TK
        subst Gc
        obtain⟨v0,q0,r0,_⟩:=he 0 _ h0
        obtain⟨v1,q1,r1,_⟩:=he 1 _ h1
        have iJ:v0=.slice Eh 0 0:=by
         rcases r0.cG with⟨_,_,h⟩|⟨h,_⟩|⟨h,_⟩
         ·exact h
         ·cases h
         ·cases h
        have nx:v1=.int .i64 (k:Int):=by cases r1;rfl
        subst iJ;subst nx
        have hl:26≤a.tmps.size:=by omega
        have e0:a.eval (.tmp 0)=.slice Eh 0 0:=by simp[Act.eval,En,q0]
        have e1:a.eval (.tmp 1)=.int .i64 (k:Int):=by simp[Act.eval,En,q1]
        obtain⟨a0,a0d,a0g⟩:=MO c0
        obtain⟨a1,a1d,a1g⟩:=MO c1
        obtain⟨cc2,a2,b2,b2a,b2t,a2d,a2g⟩:=jdh g2
        obtain⟨a3,a3d,a3g⟩:=q1u g3
        obtain⟨a4,a4d,a4g⟩:=MO c4
        obtain⟨cc5,a5,b5,b5a,b5t,a5d,a5g⟩:=jgu g5
        obtain⟨a6,a6d,a6g⟩:=MO c6
        obtain⟨cc7,a7,b7,b7a,b7t,a7d,a7g⟩:=jgm g7
        obtain⟨a8,a8d,a8g⟩:=q1u g8
        obtain⟨a9,a9d,a9g⟩:=q3f c9
        refine wpIn_region ?_
        rw[show List.range (#[p0,p1,p2,p3,p4,p5,p6,p7,p8,p9]:Array Oper).size=[0,1,2,3,4,5,6,7,8,9]from rfl]
        refine uE (o:=p0) rfl a0g a0d (by simp[a0]) (v:=.slice Eh 0 0) (w':=w) (by simp[execOp,a0,e0]) ?_
        refine uE (o:=p1) rfl a1g a1d (by simp[a1]) (v:=.slice Eh 0 0) (w':=w) (by simp[execOp,a1,og,e0]) ?_
        refine uE (o:=p2) rfl a2g a2d (by simp[a2]) (v:=.int .i64 0) (w':=w) ?_ ?_
        ·have:(((a.put (I 17) (.slice Eh 0 0)).put (I 18) (.slice Eh 0 0))).eval (.tmp 18)=.slice Eh 0 0:=vM (by rw[qO];omega)
         simp[execOp,a2,resolve,b2,b2a,b2t,invoke,builtin,Builtin.cap_,run_underlying ht,this,goInt]
        refine uE (o:=p3) rfl a3g a3d (by simp[a3]) (v:=.slice Eh 0 0) (w':=w) ?_ ?_
        ·have TL:((((a.put (I 17) (.slice Eh 0 0)).put (I 18) (.slice Eh 0 0))).put (I 19) (.int .i64 0)).eval (.tmp 17)=.slice Eh 0 0:=by
          rw[og (by omega),og (by omega),vM (by omega)]
         have Gd:((((a.put (I 17) (.slice Eh 0 0)).put (I 18) (.slice Eh 0 0))).put (I 19) (.int .i64 0)).eval (.tmp 19)=.int .i64 ((0:Nat):Int):=by
          rw[vM (by rw[qO,qO];omega)];rfl
         have:=q6a (P:=P) (w:=w) (o:=p3) a3 ht xB TL Gd (Nat.le_refl 0)
         simpa using this
        refine uE (o:=p4) rfl a4g a4d (by simp[a4]) (v:=.int .i64 (k:Int)) (w':=w) (by simp[execOp,a4,og,e1]) ?_
        have qK:=Lib.run_append_nil_zeros w t u p5.type e i zv .i64 kk ht hu hi hz k hk0 MP (by omega) (by
         have:k*i.bytes≤1073741824*4096:=Nat.mul_le_mul fG TJ
         omega)
        refine uE (o:=p5) rfl a5g a5d (by simp[a5]) (v:=.slice (I ⟨w.heap.size,0,Eh⟩) k (grownCap w k 0 e)) (w':=w.drew.alloc (.cells (Builtin.zeroCells zv.cells k++Builtin.zeroCells zv.cells (grownCap w k 0 e-k)) e)) ?_ ?_
        ·generalize hA:(((((a.put (I 17) (.slice Eh 0 0)).put (I 18) (.slice Eh 0 0)).put (I 19) (.int .i64 0)).put (I 20) (.slice Eh 0 0)).put (I 21) (.int .i64 (k:Int)))=A
         have Aq:A.eval (.tmp 20)=.slice Eh 0 0:=by
          rw[←hA,og (by omega),vM (by simp only[qO];omega)]
         have Ge:A.eval (.tmp 21)=.int .i64 (k:Int):=by
          rw[←hA,vM (by simp only[qO];omega)]
         simp[execOp,a5,resolve,b5,b5a,b5t,invoke,builtin,Aq,Ge,qK]
        generalize hW:w.drew.alloc (.cells (Builtin.zeroCells zv.cells k++Builtin.zeroCells zv.cells (grownCap w k 0 e-k)) e)=W
        generalize hA:(((((a.put (I 17) (.slice Eh 0 0)).put (I 18) (.slice Eh 0 0)).put (I 19) (.int .i64 0)).put (I 20) (.slice Eh 0 0)).put (I 21) (.int .i64 (k:Int)))=A
        have hA0:A.eval (.tmp 0)=.slice Eh 0 0:=by rw[←hA];simp only[og (show(21:Nat)≠0 by omega),og (show(20:Nat)≠0 by omega),og (show(19:Nat)≠0 by omega),og (show(18:Nat)≠0 by omega),og (show(17:Nat)≠0 by omega),e0]
        have hAs:A.tmps.size=a.tmps.size:=by rw[←hA];simp only[qO]
        have hAd:A.defers=a.defers:=by rw[←hA];rfl
        generalize hcp:grownCap w k 0 e=cp
        have hcap:k≤cp:=by rw[←hcp];simpa using grownCap_ge w k 0 e
        refine uE (o:=p6) rfl a6g a6d (by simp[a6]) (v:=.slice Eh 0 0) (w':=W) (by simp[execOp,a6,og,hA0]) ?_
        refine uE (o:=p7) rfl a7g a7d (by simp[a7]) (v:=.int .i64 0) (w':=W) ?_ ?_
        ·generalize hB:((A.put (I 22) (.slice (I ⟨w.heap.size,0,Eh⟩) k cp)).put (I 23) (.slice Eh 0 0))=B
         have Gf:B.eval (.tmp 23)=.slice Eh 0 0:=by
          rw[←hB,vM (by rw[qO];omega)]
         simp[execOp,a7,resolve,b7,b7a,b7t,invoke,builtin,Builtin.len_,run_underlying ht,Gf,goInt]
        refine uE (o:=p8) rfl a8g a8d (by simp[a8]) (v:=.slice (I ⟨w.heap.size,0,Eh⟩) 0 cp) (w':=W) ?_ ?_
        ·generalize hB:(((A.put (I 22) (.slice (I ⟨w.heap.size,0,Eh⟩) k cp)).put (I 23) (.slice Eh 0 0)).put (I 24) (.int .i64 0))=B
         have Ar:B.eval (.tmp 22)=.slice (I ⟨w.heap.size,0,Eh⟩) k cp:=by
          rw[←hB,og (by omega),og (by omega),vM (by omega)]
         have As:B.eval (.tmp 24)=.int .i64 ((0:Nat):Int):=by
          rw[←hB,vM (by simp only[qO];omega)];rfl
         have:=q6a (P:=P) (w:=W) (o:=p8) a8 ht xB Ar As (Nat.zero_le cp)
         rw[if_neg (by omega)]at this
         simp only[Option.map_some,add_lit,Nat.add_zero]at this
         exact this
        refine uE (o:=p9) rfl a9g a9d (by simp[a9]) (v:=.slice (I ⟨w.heap.size,0,Eh⟩) 0 cp) (w':=W) ?_ ?_
        ·have Gg:((((A.put (I 22) (.slice (I ⟨w.heap.size,0,Eh⟩) k cp)).put (I 23) (.slice Eh 0 0)).put (I 24) (.int .i64 0)).put (I 25) (.slice (I ⟨w.heap.size,0,Eh⟩) 0 cp)).eval (.tmp 25)=.slice (I ⟨w.heap.size,0,Eh⟩) 0 cp:=by
          rw[vM (by simp only[qO];omega)]
         simp[execOp,a9,Gg]
        -- the end
        have hxd:=Ext.drew w
        obtain⟨zs,zvr,Gh,cw,lj⟩:=uo (C:=C) gP
        have mH:zv.cells.size=i.size:=by
         have h3:zl.length=i.size:=by rw[gP]at pJ;simpa using pJ
         have h4:=cw.length
         have h5:zvr=zv:=by
          have:=Gh w
          simp[zeroValue,typeInfo,hi,hz]at this
          exact this.symm
         subst h5
         simp only[Array.length_toList]at h4;omega
        have gE:=Mr (d:=.slot 0) (tmps:=a.tmps) (m.ext hxd) (he.ext hxd) (Builtin.zeroCells zv.cells k++Builtin.zeroCells zv.cells (cp-k)) e [] i.size cp [] (by simpa using qp.nil) (by simp) (by simp) (by simp) (by simp) (by
         have hlen:∀n,(Builtin.zeroCells zv.cells n).size=n*i.size:=fun n=>by simp[Builtin.zeroCells,mH]
         rw[Array.size_append,hlen,hlen,←Nat.add_mul]
         exact Nat.mul_le_mul_right _ (by omega)) Eh
        rw[hcp]at hW
        rw[hW]at gE
        have hd0:w.drew.heap.size=w.heap.size:=rfl
        rw[hd0]at gE
        simp only[List.length_nil]at gE
        clear hW hA0 Gh cw
        generalize hB:(((A.put (I 22) (.slice (I ⟨w.heap.size,0,Eh⟩) k cp)).put (I 23) (.slice Eh 0 0)).put (I 24) (.int .i64 0)).put (I 25) (.slice (I ⟨w.heap.size,0,Eh⟩) 0 cp)=B
        have hBs:B.tmps.size=a.tmps.size:=by rw[←hB];simp only[qO];omega
        have hBd:B.defers=a.defers:=by rw[←hB,←hAd];rfl
        obtain⟨C',ω',k1,k2,k3,k4,k5⟩:=gE
        have lD:cX P w0 C0 C nt ⟨[(0,.list Ga i.size [],E7)],hp⟩ (B.put (I 0) (.slice (I ⟨w.heap.size,0,Eh⟩) 0 cp)) W:=by
         refine⟨by rw[qO];omega,C',ω',k1,?_,k2,?_⟩
         ·rw[show(B.put (I 0) (.slice (I ⟨w.heap.size,0,Eh⟩) 0 cp)).defers=B.defers from rfl,hBd]
          exact xy.mono k1
         ·intro s x hx
          simp only[ye]at hx
          cases hb:Nat.beq 0 s with
          |false=>simp[hb]at hx
          |true=>
           have:=Nat.eq_of_beq_eq_true hb
           subst this
           simp only[hb,cT,I.injEq]at hx
           subst hx
           exact⟨_,by simp only[Act.put];rw[Array.getElem?_setIfInBounds_self_of_lt (by omega)],k4,k5⟩
        simp only[wpOpsIn]
        exact⟨trivial,lD⟩
       ·cases oZ
      ·cases oZ
     ·cases oZ
    ·cases hg
   ·cases hg
  ·cases hg
 ·cases hg
end
def fk (ρ:Option Nat)(P:Program)(c:Code)(Q:Exit→Act→World→Prop)(a:Act)(w:World):Prop:=
 ∀(b:Frame) (k:List Item) (cs:List Frame),b.roundOf=(iL ρ).round→(iL ρ).fn b.fn→(iL ρ).room (cs.length+1+0) →
  ∃e a' w',Q e a' w'∧ArrivesIn (Machine.fenced P (iL ρ)) P (lone (b.atR a (.code c::.inLoop c::k)) cs w) b k cs e a' w'
theorem fk.wpIn {ρ:Option Nat}{P:Program}{c:Code}{Q:Exit→Act→World→Prop}{a:Act}{w:World}(h:fk ρ P c Q a w):(Code.loop c).wpIn (iL ρ) 0 P Q a w:=by
 intro b k cs xC hb hr
 obtain⟨e,a',w',hq,eF⟩:=h b k cs xC hb hr
 exact⟨e,a',w',hq,.of_steps (.one (fenced_calm hb hr rfl) stepR_loop) eF⟩
theorem fk.vN {ρ:Option Nat}{P:Program}{c:Code}{Q:Exit→Act→World→Prop}{a:Act}{w:World}(h:c.wpIn (iL ρ) 0 P (Exit.then (fk ρ P c Q) Q) a w):fk ρ P c Q a w:=by
 intro b k cs xC hb hr
 obtain⟨e,a₁,w₁,hq,eF⟩:=h b (.inLoop c::k) cs xC hb hr
 cases e with
 |normal=>
  obtain⟨e₂,a₂,w₂,Gi,vO⟩:=hq b k cs xC hb hr
  exact⟨e₂,a₂,w₂,Gi,.of_steps (StepsIn.trans eF (.one (fenced_calm hb hr rfl) stepR_inLoop)) vO⟩
 |exit id=>exact⟨_,a₁,w₁,hq,.pass (x:=.inLoop c) rfl (fun _ _=>.inl (by simp)) eF⟩
 |goto l=>exact⟨_,a₁,w₁,hq,.pass (x:=.inLoop c) rfl (fun _ _=>.inl (by simp)) eF⟩
 |ret=>exact⟨_,a₁,w₁,hq,.pass (x:=.inLoop c) rfl (fun _ _=>.inl (by simp)) eF⟩
 |panic ch=>exact⟨_,a₁,w₁,hq,.pass (x:=.inLoop c) rfl (fun _ _=>.inl (by simp)) eF⟩
 |outgrown=>exact⟨_,a₁,w₁,hq,.pass (x:=.inLoop c) rfl (fun _ _=>.inl (by simp)) eF⟩
section
variable {P:Program}{p:qr}{xc:XC}
def MQ (P:Program)(w0:World)(C0 C:ax)(nt:Nat)(x:qo)(bK:qh):Exit→Act→World→Prop:=fun e a' w'=>e=Aa x∧cX P w0 C0 C nt bK a' w'
def q6i (P:Program)(xc:XC):Prop:=
 ∀(ρ:Option Nat) (nt:Nat) (c:Code) (ca:qg) (st bK:qh) (x:qo),E4 P nt c ca→(ρ≠Eh→kw ca=E7)→xc ca st=I (x,bK) →
  ∀(C:ax) (w0:World) (C0:ax) (a:Act) (w:World),cX P w0 C0 C nt st a w→c.wpIn (iL ρ) 0 P (MQ P w0 C0 C nt x bK) a w
theorem cg.Gj (h:q6i P xc):cg P xc:=
 fun ρ nt c ca st bK x hc hn hx C ω w0 C0 a w m he cD kC=>wpIn_mono (h ρ nt c ca st bK x hc hn hx C w0 C0 a w ⟨cD,C,ω,ax.le_refl C,kC,m,he⟩) fun _ _ _ hq=>hq
def jcm (P:Program)(xc:XC):Prop:=
 ∀(ρ:Option Nat) (nt:Nat) (c:Code) (ca:qg) (st bK:qh) (x:qo),E4 P nt c ca→(ρ≠Eh→kw ca=E7)→xc (.loop ca) st=I (x,bK) →
  ∀(C:ax) (w0:World) (C0:ax) (a:Act) (w:World),cX P w0 C0 C nt st a w→fk ρ P c (MQ P w0 C0 C nt x bK) a w
theorem cX.gc {w0:World}{C0 C:ax}{nt n:Nat}{st:qh}{a:Act}{w:World}(h:cX P w0 C0 C nt st a w)(hC:∀b r,C.β b=I r→b<n)(TM:∀b r,C0.β b=I r→b<n):cX P w0 C0 C nt (Abs.gc n st) a w:=by
 unfold Abs.gc
 cases hb:Nat.ble st.heap.length n with
 |true=>exact h
 |false=>
  simp only[cond_false]
  cases ly:(mf n st.env&&ko n (st.heap.take n))with
  |false=>exact h
  |true=>
   simp only[cT]
   simp only[El]at ly
   obtain⟨h1,C',ω',h3,h2,h4,h5⟩:=h
   have hn:n≤st.heap.length:=by
    rcases Nat.lt_or_ge n st.heap.length with h|h
    ·omega
    ·rw[Nat.ble_eq_true_of_le h]at hb;cases hb
   exact⟨h1,C'.cut n,ω',ax.ik h3 hC,⟨h2.choose,h2.choose_spec.1,h2.choose_spec.2.1,h2.choose_spec.2.2⟩,h4.gc hn ly.2 TM,h5.cut ly.1⟩
theorem MR {K:Act→World→Prop}{w0:World}{C0 C:ax}{nt:Nat}{x:qo}{bK:qh}{Q:Exit→Act→World→Prop}{e:Exit}{a:Act}{w:World}(h:MQ P w0 C0 C nt x bK e a w)(hn:x=.normal→cX P w0 C0 C nt bK a w→K a w)(ho:x≠.normal→cX P w0 C0 C nt bK a w→Q (Aa x) a w):Exit.then K Q e a w:=by
 obtain⟨rfl,h⟩:=h
 cases x with
 |normal=>exact hn rfl h
 |exit id=>exact ho (by simp) h
 |ret=>exact ho (by simp) h
theorem q5d {b:Frame}{a:Act}{k:List Item}{cs:List Frame}{w:World}{c:Code}:step P (lone (b.atR a (.code (.scope c)::k)) cs w)=.next (lone (b.atR a (.code c::.inScope c::k)) cs w):=
 step_lone_go (by simp[stepG,stepG.exec,Frame.atR])
theorem q0h {b:Frame}{a:Act}{k:List Item}{cs:List Frame}{w:World}{c:Code}:step P (lone (b.atR a (.inScope c::k)) cs w)=.next (lone (b.atR a k) cs w):=
 step_lone_go (by simp[stepG,stepG.exec,Frame.atR])
theorem qp6 {F:Fence}{n:Nat}{c:Code}{Q:Exit→Act→World→Prop}{a:Act}{w:World}(h:c.wpIn F n P (Exit.noGoto Q) a w):(Code.scope c).wpIn F n P Q a w:=by
 intro b k cs xC hb hr
 obtain⟨e,a₁,w₁,hq,eF⟩:=h b (.inScope c::k) cs xC hb hr
 have h1:StepsIn (Machine.fenced P F) P (lone (b.atR a (.code (.scope c)::k)) cs w) (lone (b.atR a (.code c::.inScope c::k)) cs w):=.one (fenced_calm hb hr rfl) q5d
 cases e with
 |normal=>exact⟨.normal,a₁,w₁,hq,StepsIn.trans h1 (StepsIn.trans eF (.one (fenced_calm hb hr rfl) q0h))⟩
 |goto l=>exact hq.elim
 |exit id=>
  refine⟨.exit id,a₁,w₁,hq,.of_steps h1 ?_⟩
  refine⟨fun k' hk=>eF.1 k' (by simp[exitTo,hk]),fun TN il=>?_⟩
  exact eF.2 TN (by simp[exitTo,il])
 |ret=>exact⟨_,a₁,w₁,hq,.of_steps h1 eF⟩
 |panic ch=>exact⟨_,a₁,w₁,hq,.of_steps h1 eF⟩
 |outgrown=>exact⟨_,a₁,w₁,hq,.of_steps h1 eF⟩
theorem av.TP {C C0:ax}{ω:Nat→Option Loc}{w0 w:World}{hp:j8}(m:av P C ω w0 C0 hp w):av P { C with D:=fun r=>C.D r∨r=w.heap.size } ω w0 C0 hp (w.alloc (.deferred (I []))):=by
 have hx:Ext w (w.alloc (.deferred (I []))):=Ext.alloc w _ (fun c t fr h=>by cases h)
 have m':=m.ext hx
 exact { m' with
  eQ:=fun r hr=>by
   rcases hr with hr|hr
   ·exact m'.eQ r hr
   ·subst hr;rw[vD,if_pos rfl]
  grown:=⟨m.grown.k,m.grown.b,m.grown.w,fun r h=>.inl (m.grown.d r h),m.grown.t⟩
  box:=fun b x r eM hb=>bm.imp (C:=C) (C':={ C with D:=fun r=>C.D r∨r=w.heap.size }) ⟨fun _ _ _ h=>h,fun _ _ h=>h⟩ rfl (fun _ _ _ ho=>ho) (m'.box b x r eM hb) }
theorem ji0 (dV:qx P p)(hx:cg P xc){f:Operand}{ps:Array Tmp}{x1 x2:Code}{f':qf}{a1 a2:qg}{h:qb}{nt:Nat}{st bK:qh}{x:qo}{C:ax}{w0:World}{C0:ax}{a:Act}{w:World}
  (hf:zr f=I f') (h1:gA P h nt x1=I a1) (h2:gA P h nt x2=I a2) (cf:∀t∈ps.toList,t<nt) (hs:mA p xc f' ps.toList a1 a2 st=I (x,bK)) (bO:cX P w0 C0 C nt st a w):
  (Code.rangeFunc f ps x1 x2).wpIn (iL Eh) 0 P (MQ P w0 C0 C nt x bK) a w:=by
 obtain⟨cD,Ca,ω,hle,xy,m,he⟩:=bO
 unfold mA at hs
 cases MS:(kw a1&&kw a2)with
 |false=>simp[MS]at hs
 |true=>
  simp only[MS,cT]at hs
  simp only[El]at MS
  split at hs
  ·rename_i k first captured gC
   have xq:=zt he.bU hf gC
   generalize FQ:a.eval f=fv at xq
   cases xq with
   |fn g g' _ _ as bs hg ha hb=>
    simp only[eY]at hg
    subst hg
    split at hs
    ·rename_i _r1 _r2 h' FO
     split at hs
     ·rename_i l' hl'
      cases iU:ko st.heap.length (h'.take st.heap.length)with
      |false=>simp[iU]at hs
      |true=>
       simp only[iU,cT]at hs
       ·obtain⟨lz,mM⟩:=FN dV hx FO
        -- the loop's record,and the block before it
        refine wpIn_rangeFunc fun fn _=>?_
        generalize hlp:({ state:=.ready,pending:=Eh,fn:=fn,tmps:=a.tmps,params:=ps,assign:=x1,body:=x2,defers:=w.heap.size }:Loop)=lp
        have mD:=(m.TP).holes 1
        have eD:ai { Ca with D:=fun r=>Ca.D r∨r=w.heap.size } ω (w.alloc (.deferred (I []))) w0.heap.size st.env a.tmps:=fun s y hy=>
         let ⟨v,k1,k2,k3⟩:=he.ext (Ext.alloc w _ (fun c t fr h=>by cases h)) s y hy
         ⟨v,k1,bC.qB k2,k3⟩
        have Gk:(st.heap++List.replicate 1 .hole)[st.heap.length]?=I .hole:=by simp
        have Gl:(w.alloc (.deferred (I []))).heap.size=w.heap.size+1:=by rw[World.size_alloc]
        obtain⟨mB,eB,mO⟩:=mD.aI eD Gk (.loop lp) (fun c t fr h=>by cases h) (.loop ⟨st.env,ps.toList,a1,a2,Eh⟩) (by
         intro C' ω' w' cz ME
         subst hlp
         exact⟨_,ME,{ assign:=⟨h,by rw[cD];exact h1⟩,body:=⟨h,by rw[cD];exact h2⟩,params:=rfl,fits:=fun t ht=>by rw[cD];exact cf t ht,nr:=MS,env:=fun s y hy=>let ⟨v,k1,k2,_⟩:=eD s y hy; ⟨v,k1,qp.mono cz k2⟩,state:=rfl,pending:=rfl }⟩)
        have bh:(st.heap++List.replicate 1 qm.hole).set st.heap.length (.loop ⟨st.env,ps.toList,a1,a2,Eh⟩)=st.heap++[.loop ⟨st.env,ps.toList,a1,a2,Eh⟩]:=by
         simp
        rw[bh]at mB
        rw[Gl]at mB eB mO
        generalize hCB:ax.box { Ca with D:=fun r=>Ca.D r∨r=w.heap.size } st.heap.length (w.heap.size+1)=CB at mB eB mO
        generalize hwB:(w.alloc (.deferred (I []))).alloc (.loop lp)=wB at mB eB
        have Gm:CB.β st.heap.length=I (w.heap.size+1):=by rw[←hCB];simp[ax.box]
        have hDB:∀r,Ca.D r∨r=w.heap.size→CB.D r:=fun r hr=>by rw[←hCB];exact hr
        have hKB:∀ {i:jg},qp Ca i→qp CB i:=fun hr=>qp.mono mO (qp.imp (C:=Ca) (C':={ Ca with D:=fun r=>Ca.D r∨r=w.heap.size }) ⟨fun _ _ _ h=>h,fun _ _ h=>h⟩ hr)
        have Gn:Ca.le CB:=⟨mO.k,mO.b,mO.w,fun r hr=>hDB r (.inl hr),mO.t⟩
        have dS:aK (CB.shared ω w0) (first++[.fn (.yield st.heap.length) [] []]++captured) (as++[Value.func (.yield (w.heap.size+1)) ⟨[]⟩ ⟨[]⟩]++bs):=by
         refine qp.imp (C:=CB) (C':=CB.shared ω w0) ⟨fun _ _ _ h=>h,fun _ _ h=>h⟩ ?_
         exact aK.append (aK.append (hKB ha) (.cons _ _ _ _ (.fn _ _ _ _ _ _ ⟨_,Gm,rfl⟩ .nil .nil) .nil)) (hKB hb)
        refine⟨w.heap.size+1,[{ target:=.collected w.heap.size,args:=#[] }],wB,{ target:=.fn (.func k) ⟨bs⟩,args:=⟨as⟩++#[Value.func (.yield (w.heap.size+1)) #[] #[]] },wB,k,⟨as++[Value.func (.yield (w.heap.size+1)) ⟨[]⟩ ⟨[]⟩]++bs⟩,wB,?_,?_,fun _ _=>trivial,?_,fun hd=>by simp[iL,Fence.wide]at hd,?_⟩
        ·subst hlp
         rw[←hwB]
         simp[Instr.enterLoop,iL,Fence.wide,Gl]
        ·have hc:a.eval (.const (Value.func (.yield (w.heap.size+1)) #[] #[]))=Value.func (.yield (w.heap.size+1)) #[] #[]:=rfl
         simp[resolve,FQ,Deferred.ofValue,hc]
        ·have hq:(⟨as⟩:Array Value)++#[Value.func (.yield (w.heap.size+1)) #[] #[]]++(⟨bs⟩:Array Value)=⟨as++[Value.func (.yield (w.heap.size+1)) ⟨[]⟩ ⟨[]⟩]++bs⟩:=by
          apply Eo;simp
         simp only[invoke,hq]
         exact qqx lz _ _
        ·refine qvv.2 (CallsIn.mono (mM _ _ _ _ dS (Td mB)) ?_)
         rintro ee w' ⟨u,C1,ω1,rfl,q1,q2,_,_⟩
         obtain⟨m2,e2⟩:=qt0 mB eB q2 q1
         have Au:CB.le (C1.back CB):=MF q1
         have qG:(C1.back CB).β st.heap.length=I (w.heap.size+1):=Au.b _ _ Gm
         obtain⟨lA,qH,uC⟩:=MH m2 hl' qG
         have hlen:st.heap.length<h'.length:=(m2.lt _ _ qG).2
         have TM:∀b r,C0.β b=I r→b<st.heap.length:=fun b r hb=>(m.lt b r (m.grown.b b r hb)).2
         have m3:=m2.gc (Nat.le_of_lt hlen) iU TM
         have Ag:(Instr.getLoop (w.heap.size+1)).run P w'=.ok lA w':=by simp[Instr.getLoop,oT qH (by simp)]
         have qN:=(E5.1 qH).1
         have hu:jl w' (jJ w' (w.heap.size+1) (.loop { lA with state:=.exhausted })) (w.heap.size+1):=Dv qN (by simp)
         have kW:∀cs t fr,w'.heap[w.heap.size+1]?≠I (.cells cs t fr):=fun cs t fr hh=>by rw[qH]at hh;cases hh
         have TQ:∀b,((C1.back CB).cut st.heap.length).β b≠I (w.heap.size+1):=fun b hb=>by
          simp only[ax.cut]at hb
          split at hb
          ·rename_i aY
           have:=m2.inj b st.heap.length _ hb qG
           omega
          ·cases hb
         have cN:lA.state≠.busy→(Instr.endLoop (w.heap.size+1)).run P w'=.ok lA.pending (jJ w' (w.heap.size+1) (.loop { lA with state:=.exhausted })):=fun Dz=>by
          have eZ:(lA.state == .busy)=Ga:=by
           cases bO:lA.state<;>first|rfl|exact absurd bO Dz
          have hs2:=xk (P:=P) (x:=.loop { lA with state:=.exhausted }) qH (by simp)
          simp only[Instr.endLoop,Sem.run_bind,Ag,Result.andThen_ok,eZ,Bool.false_eq_true,if_false,Sem.run_ite,hs2,Sem.run_pure]
         have m4:=m3.other (D':=((C1.back CB).cut st.heap.length).D) hu TQ (Nat.le_trans m.size (by omega)) kW (fun kk hk=>⟨hk,fun gS=>by
          have:=m3.eQ kk hk
          rw[gS,qH]at this;cases this⟩) m3.grown.d
         have Av:Ca.le ((C1.back CB).cut st.heap.length):=ax.ik (ax.le_trans Gn Au) (fun b r hb=>(m.lt b r hb).2)
         have e4:ai ((C1.back CB).cut st.heap.length) (mN ω ω1 wB.heap.size) (jJ w' (w.heap.size+1) (.loop { lA with state:=.exhausted })) w0.heap.size st.env a.tmps:=by
          intro s y hy
          obtain⟨v,k1,k2,k3⟩:=he s y hy
          obtain⟨v',j1,j2,j3⟩:=e2 s y hy
          rw[k1]at j1
          cases j1
          exact⟨v,k1,qp.mono Av k2,fun hh=>(((j3 hh).cut _).kB (D':=((C1.back CB).cut st.heap.length).D) hu kW)⟩
         have lD:∀(xx:qo),cX P w0 C0 C nt { st with heap:=h'.take st.heap.length } { a with defers:=[{ target:=.collected w.heap.size,args:=#[] }]++a.defers } (jJ w' (w.heap.size+1) (.loop { lA with state:=.exhausted })):=by
          intro _
          refine⟨cD,_,_,ax.le_trans hle Av,?_,m4,e4⟩
          obtain⟨rs,g1,g2,g3⟩:=xy
          refine⟨w.heap.size::rs,by rw[g1];rfl,List.nodup_cons.2 ⟨fun hm=>?_,g2⟩,?_⟩
          ·have:=(E5.1 (m.eQ _ (g3 _ hm).1)).1;omega
          ·intro r hr
           rcases List.mem_cons.1 hr with rfl|hr
           ·exact⟨Au.d _ (hDB _ (.inr rfl)),m.size⟩
           ·exact⟨Av.d _ (g3 r hr).1,(g3 r hr).2⟩
         simp only[rangePost]
         split at hs
         ·rename_i vP
          cases hs
          refine⟨Eh,_,?_,rfl,lD .normal⟩
          rw[cN (by rw[uC.state,vP];simp),uC.pending,vP]
         ·cases hs
         ·rename_i xx SH vP
          cases hs
          cases x with
          |normal=>exact absurd rfl SH
          |ret=>
           refine⟨I .ret,_,?_,wpIn_ret ⟨rfl,lD .ret⟩⟩
           rw[cN (by rw[uC.state,vP];simp),uC.pending,vP]
          |exit id=>
           refine⟨I (.exit id),_,?_,wpIn_exit ⟨rfl,lD .ret⟩⟩
           rw[cN (by rw[uC.state,vP];simp),uC.pending,vP]
     ·cases hs
    ·cases hs
  ·cases hs
theorem MT (dV:qx P p):∀n,q6i P (yf p n)∧jcm P (yf p n)
 |0=>⟨fun ρ nt c ca st bK x _ _ hx=>by simp[yf]at hx,fun ρ nt c ca st bK x _ _ hx=>by simp[yf]at hx⟩
 |n+1=>by
  obtain⟨ih,ihl⟩:=MT dV n
  have loop:jcm P (yf p (n+1)):=by
   intro ρ nt c ca st bK x hc hn hx C w0 C0 a w bO
   obtain⟨cD,C',ω',hle,kC,m,he⟩:=bO
   have hC':∀b r,C'.β b=I r→b<st.heap.length:=fun b r hb=>(m.lt b r hb).2
   refine fk.vN ?_
   simp only[yf]at hx
   split at hx
   ·rename_i gU h1
    refine wpIn_mono (ih ρ nt c ca st gU .normal hc hn h1 C' w0 C0 a w ⟨cD,C',ω',ax.le_refl _,kC,m,he⟩) ?_
    intro e a' w' hq
    refine MR hq (fun _ ef=>?_) (fun h=>absurd rfl h)
    have h2:=ef.gc hC' (fun b r hb=>hC' b r (m.grown.2 b r hb))
    have h3:=ihl ρ nt c ca _ bK x hc hn hx C' w0 C0 a' w' h2
    intro b k cs xC hb hr
    obtain⟨e,a',w',hq,eF⟩:=h3 b k cs xC hb hr
    obtain⟨q1,q2,C2,ω2,q4,q5⟩:=hq
    exact⟨e,a',w',⟨q1,q2,C2,ω2,ax.le_trans hle q4,q5⟩,eF⟩
   ·rename_i br
    refine wpIn_mono (ih ρ nt c ca st bK x hc hn hx C w0 C0 a w ⟨cD,C',ω',hle,kC,m,he⟩) ?_
    intro e a' w' hq
    refine MR hq (fun DK ef=>?_) (fun DK ef=>⟨rfl,ef⟩)
    subst DK
    exact absurd hx (br bK)
  refine⟨?_,loop⟩
  intro ρ nt c ca st bK x hc hn hx C w0 C0 a w bO
  obtain⟨h,di⟩:=hc
  cases c with
  |skip=>
   simp only[gA,I.injEq]at di
   subst di
   simp only[yf,I.injEq,E6.injEq]at hx
   obtain⟨rfl,rfl⟩:=hx
   exact wpIn_skip ⟨rfl,bO⟩
  |label l=>
   simp only[gA,I.injEq]at di
   subst di
   simp only[yf,I.injEq,E6.injEq]at hx
   obtain⟨rfl,rfl⟩:=hx
   exact wpIn_label ⟨rfl,bO⟩
  |region id ops draw=>
   simp only[gA]at di
   have di:(draw=Ga∧∃sz,Md P nt ops=I sz∧ca=.grow sz)∨E2 P h nt id ops draw=I ca:=by
    split at di
    ·rename_i sz TR;cases di;exact .inl ⟨rfl,sz,TR,rfl⟩
    ·exact .inr di
   rcases di with⟨rfl,sz,TR,rfl⟩|di
   ·simp only[yf]at hx
    split at hx
    ·rename_i z xs o1 k o2 e0 e1
     cases gS:(Nat.blt 0 k&&Nat.ble k 1073741824)with
     |false=>simp[gS]at hx
     |true=>
      simp only[gS,cT,I.injEq,E6.injEq]at hx
      obtain⟨rfl,rfl⟩:=hx
      simp only[El]at gS
      obtain⟨cD,C',ω',hle,kC,m,he⟩:=bO
      refine wpIn_mono (jkv TR m he cD kC e0 e1 (Nat.blt_eq.mp gS.1) (Nat.le_of_ble_eq_true gS.2)) ?_
      rintro e a' w' ⟨rfl,q1,C2,ω2,q4,q5⟩
      exact⟨rfl,q1,C2,ω2,ax.le_trans hle q4,q5⟩
    ·cases hx
   have Gp:∃na l keep,ca=.region na l keep:=by
    unfold E2 at di
    split at di
    ·split at di
     ·simp only[I.injEq]at di;exact⟨_,_,_,di.symm⟩
     ·cases di
    ·cases di
   obtain⟨na,l,keep,dL⟩:=Gp
   subst dL
   simp only[yf]at hx
   obtain⟨cD,C',ω',hle,kC,m,he⟩:=bO
   refine wpIn_mono (jaq dV (cg.Gj ih) di rfl hx m he cD kC) ?_
   rintro e a' w' ⟨q1,q2,C2,ω2,q4,q5⟩
   exact⟨q1,q2,C2,ω2,ax.le_trans hle q4,q5⟩
  |seq c1 c2=>
   simp only[gA]at di
   split at di
   ·rename_i x1 x2 h1 h2
    cases di
    have DL:ρ≠Eh→kw x1=E7∧kw x2=E7:=fun hh=>by simpa[kw]using hn hh
    simp only[yf]at hx
    refine wpIn_seq ?_
    split at hx
    ·rename_i gU xp
     refine wpIn_mono (ih ρ nt c1 x1 st gU .normal ⟨h,h1⟩ (fun hh=>(DL hh).1) xp C w0 C0 a w bO) ?_
     intro e a' w' hq
     exact MR hq (fun _ ef=>ih ρ nt c2 x2 gU bK x ⟨h,h2⟩ (fun hh=>(DL hh).2) hx C w0 C0 a' w' ef) (fun hh=>absurd rfl hh)
    ·rename_i br
     refine wpIn_mono (ih ρ nt c1 x1 st bK x ⟨h,h1⟩ (fun hh=>(DL hh).1) hx C w0 C0 a w bO) ?_
     intro e a' w' hq
     refine MR hq (fun DK ef=>?_) (fun DK ef=>⟨rfl,ef⟩)
     subst DK
     exact absurd hx (br bK)
   ·cases di
  |cond c c1 c2=>
   simp only[gA]at di
   split at di
   ·rename_i c' x1 x2 h0 h1 h2
    cases di
    have DL:ρ≠Eh→kw x1=E7∧kw x2=E7:=fun hh=>by simpa[kw]using hn hh
    simp only[yf]at hx
    split at hx
    ·rename_i t ht
     have gT:=bO
     obtain⟨cD,C',ω',hle,kC,m,he⟩:=bO
     have gC:=(zt he.bU h0 ht).cS
     refine wpIn_cond gC ?_
     cases t with
     |true=>simp only[cT]at hx;exact ih ρ nt c1 x1 st bK x ⟨h,h1⟩ (fun hh=>(DL hh).1) hx C w0 C0 a w gT
     |false=>simp only[cond_false]at hx;exact ih ρ nt c2 x2 st bK x ⟨h,h2⟩ (fun hh=>(DL hh).2) hx C w0 C0 a w gT
    ·cases hx
   ·cases di
  |block id b=>
   simp only[gA]at di
   obtain⟨b',hb,rfl⟩:=Ev.1 di
   simp only[yf]at hx
   refine wpIn_block ?_
   split at hx
   ·rename_i fp gU xp
    refine wpIn_mono (ih ρ nt b b' st gU (.exit fp) ⟨h,hb⟩ (fun hh=>by simpa[kw]using hn hh) xp C w0 C0 a w bO) ?_
    rintro e a' w' ⟨rfl,ef⟩
    cases hid:Nat.beq fp id with
    |true=>
     simp only[hid,cT,I.injEq,E6.injEq]at hx
     obtain⟨rfl,rfl⟩:=hx
     have:=Nat.eq_of_beq_eq_true hid
     subst this
     simp only[Aa,Exit.inBlock,if_true]
     exact⟨rfl,ef⟩
    |false=>
     simp only[hid,cond_false,I.injEq,E6.injEq]at hx
     obtain⟨rfl,rfl⟩:=hx
     have br:¬fp=id:=fun hh=>by subst hh;simp at hid
     simp only[Aa,Exit.inBlock,br,if_false]
     exact⟨rfl,ef⟩
   ·rename_i br
    refine wpIn_mono (ih ρ nt b b' st bK x ⟨h,hb⟩ (fun hh=>by simpa[kw]using hn hh) hx C w0 C0 a w bO) ?_
    rintro e a' w' ⟨rfl,ef⟩
    cases x with
    |normal=>exact⟨rfl,ef⟩
    |ret=>exact⟨rfl,ef⟩
    |exit fp=>exact absurd hx (br fp bK)
  |loop b=>
   simp only[gA]at di
   obtain⟨b',hb,rfl⟩:=Ev.1 di
   exact(loop ρ nt b b' st bK x ⟨h,hb⟩ (fun hh=>by simpa[kw]using hn hh) hx C w0 C0 a w bO).wpIn
  |scope b=>
   simp only[gA]at di
   obtain⟨b',hb,rfl⟩:=Ev.1 di
   have eM:yf p n b' st=I (x,bK):=by
    simp only[yf]at hx
    split at hx
    ·rename_i gU xp
     cases n with
     |zero=>simp[yf]at xp
     |succ n=>simp only[yf]at hx;rw[xp];exact hx
    ·exact hx
   refine qp6 (wpIn_mono (ih ρ nt b b' st bK x ⟨h,hb⟩ (fun hh=>by simpa[kw]using hn hh) eM C w0 C0 a w bO) ?_)
   rintro e a' w' ⟨rfl,ef⟩
   cases x with
   |normal=>exact⟨rfl,ef⟩
   |exit id=>exact⟨rfl,ef⟩
   |ret=>exact⟨rfl,ef⟩
  |rangeFunc f ps x1 x2=>
   simp only[gA]at di
   split at di
   ·split at di
    ·rename_i cf
     cases di
     simp only[yf]at hx
     cases ρ with
     |some l=>exact absurd (hn (by simp)) (by simp[kw])
     |none=>exact ji0 dV (cg.Gj ih) (by assumption) (by assumption) (by assumption) (fun t ht=>by simpa using(Array.all_eq_true'.1 cf) t (by simpa using ht)) hx bO
    ·cases di
   ·cases di
  |exit id=>
   simp only[gA,I.injEq]at di
   subst di
   simp only[yf,I.injEq,E6.injEq]at hx
   obtain⟨rfl,rfl⟩:=hx
   exact wpIn_exit ⟨rfl,bO⟩
  |ret=>
   simp only[gA,I.injEq]at di
   subst di
   simp only[yf,I.injEq,E6.injEq]at hx
   obtain⟨rfl,rfl⟩:=hx
   exact wpIn_ret ⟨rfl,bO⟩
  |_=>
   simp only[gA,I.injEq]at di
   subst di
   simp[yf]at hx
theorem q56 (dV:qx P p){n k:Nat}{args:List qa}{v:qa}{ow:Bool}(h:jz p (yf p n) k args=I (v,ow))(hb:zw 0 args=E7):IsoCall P k args v ow:=
 (MC dV (cg.Gj (MT dV n).1) h hb).2.2
end
end Go.Abs
