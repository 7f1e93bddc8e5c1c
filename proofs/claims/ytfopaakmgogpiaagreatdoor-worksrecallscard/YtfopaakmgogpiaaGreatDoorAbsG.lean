/- The growth of an empty slice in slices.Grow. -/
import Derived.Test.YtfopaakmgogpiaaGreatDoorAbsF
import Derived.Lib.AppendZeros
set_option linter.unusedVariables false
set_option linter.unusedSimpArgs false
open Option renaming some→I,none→Eh,map_eq_some_iff→Ep
open Bool renaming and_eq_true→Ek,true→Gb,false→Gc
open Array renaming getD_eq_getD_getElem?→En,ext'→Eo,getElem?_eq_some_iff→Eu
open Prod renaming mk→Ga
namespace Go.Abs
section
variable {P:Program}{C C0:aA}{ω:Nat→Option Loc}{w w0:World}{hp:za}{env:Env}{a:Act}{ρ:Option Nat}
theorem wc {a:Act}{d:Nat}{v:Value}(h:d<a.tmps.size):(a.put (I d) v).eval (.tmp d)=v:=by
 simp[Act.eval,Act.put,En,h]
theorem oC {a:Act}{d j:Nat}{v:Value}(h:d≠j):(a.put (I d) v).eval (.tmp j)=a.eval (.tmp j):=by
 simp[Act.eval,Act.put,En,Array.getElem?_setIfInBounds_ne h]
theorem rA {a:Act}{d:Nat}{v:Value}:(a.put (I d) v).tmps.size=a.tmps.size:=by simp[Act.put]
theorem uW {ops:Array Oper}{Q:Exit→Act→World→Prop}{i d:Nat}{rest:List Nat}{o:Oper}{v:Value}{w':World}(hi:ops[i]?=I o)(hg:o.guard=Eh)(hd:o.dst=I d)(hn:∀c,o.op≠.defer c)(bq:(execOp a.eval o).run P w=.ok (.value v) w')
  (hk:wpOpsIn (iM ρ) 0 P ops Q rest (a.put (I d) v) w'):wpOpsIn (iM ρ) 0 P ops Q (i::rest) a w:=by
 rw[wpOpsIn_cons]
 unfold wpOpIn
 rw[hi]
 simp only[]
 rw[show Region.wanted o (yielded ops a.tmps)=Gb from by simp[Region.wanted,hg]]
 simp only[if_true]
 refine⟨fun _ _=>trivial,?_⟩
 rw[Oper.semAt_eq _ _ _ hn,bq]
 rw[←hd]at hk
 exact hk
theorem Oc {s d:Nat}{o:Oper}(h:Ej s d o=Gb):o.op=.move (.tmp s)∧o.dst=I d∧o.guard=Eh:=by
 unfold Ej at h
 split at h
 ·rename_i h1 h2 h3
  simp only[Ek,beq_iff_eq]at h
  obtain⟨rfl,rfl⟩:=h
  exact⟨h1,h2,h3⟩
 ·cases h
theorem q48 {s d:Nat}{o:Oper}(h:TQ s d o=Gb):o.op=.assign (.tmp s)∧o.dst=I d∧o.guard=Eh:=by
 unfold TQ at h
 split at h
 ·rename_i h1 h2 h3
  simp only[Ek,beq_iff_eq]at h
  obtain⟨rfl,rfl⟩:=h
  exact⟨h1,h2,h3⟩
 ·cases h
theorem jis {x d:Nat}{o:Oper}{t:TypeId}(h:TR x d o=I t):∃c,o.op=.call c∧c.callee=.builtin .cap∧c.args=#[.tmp x]∧c.argTypes=#[t]∧o.dst=I d∧o.guard=Eh:=by
 unfold TR at h
 split at h
 ·rename_i c _ h1 h2 h3
  split at h
  ·rename_i h4 h5 h6
   split at h
   ·rename_i hk
    simp only[Ek,beq_iff_eq]at hk
    obtain⟨rfl,rfl⟩:=hk
    cases h
    exact⟨c,h1,h4,by apply Eo;simpa using h5,by apply Eo;simpa using h6,h2,h3⟩
   ·cases h
  ·cases h
 ·cases h
theorem jjc {x d:Nat}{o:Oper}{t:TypeId}(h:TS x d o=I t):∃c,o.op=.call c∧c.callee=.builtin .len∧c.args=#[.tmp x]∧c.argTypes=#[t]∧o.dst=I d∧o.guard=Eh:=by
 unfold TS at h
 split at h
 ·rename_i c _ h1 h2 h3
  split at h
  ·rename_i h4 h5 h6
   split at h
   ·rename_i hk
    simp only[Ek,beq_iff_eq]at hk
    obtain⟨rfl,rfl⟩:=hk
    cases h
    exact⟨c,h1,h4,by apply Eo;simpa using h5,by apply Eo;simpa using h6,h2,h3⟩
   ·cases h
  ·cases h
 ·cases h
theorem q5e {x h d:Nat}{o:Oper}{t:TypeId}(hh:NB x h d o=I t):o.op=.slice t (.tmp x) Eh (I (.tmp h)) Eh∧o.dst=I d∧o.guard=Eh:=by
 unfold NB at hh
 split at hh
 ·rename_i h1 h2 h3
  split at hh
  ·rename_i hk
   simp only[Ek,beq_iff_eq]at hk
   obtain⟨⟨rfl,rfl⟩,rfl⟩:=hk
   cases hh
   exact⟨h1,h2,h3⟩
  ·cases hh
 ·cases hh
theorem jie {x y d:Nat}{o:Oper}{t u:TypeId}(h:TT x y d o=I (t,u)):∃c,o.op=.call c∧c.callee=.builtin .append∧c.args=#[.tmp x,.tmp y]∧c.argTypes=#[t,u]∧o.dst=I d∧o.guard=Eh:=by
 unfold TT at h
 split at h
 ·rename_i c _ h1 h2 h3
  split at h
  ·rename_i h4 h5 h6
   split at h
   ·rename_i hk
    simp only[Ek,beq_iff_eq]at hk
    obtain⟨⟨rfl,rfl⟩,rfl⟩:=hk
    cases h
    exact⟨c,h1,h4,by apply Eo;simpa using h5,by apply Eo;simpa using h6,h2,h3⟩
   ·cases h
  ·cases h
 ·cases h
theorem q7q {o:Oper}{t e:TypeId}{x h:Nat}{b:Option Addr}{len cap n:Nat}(ho:o.op=.slice t (.tmp x) Eh (I (.tmp h)) Eh)(ht:P.underlying t=I (.slice e)){sz:Nat}(hn:yf P e=I sz)(hx:a.eval (.tmp x)=.slice b len cap)(hh:a.eval (.tmp h)=.int .i64 (n:Int))(hle:n≤cap):
  (execOp a.eval o).run P w=.ok (.value (.slice (if cap=0 then b else b.map (·.add 0)) n cap)) w:=by
 have hb:(0:Int)≤n∧(n:Int)≤cap:=by omega
 simp[execOp,ho,Instr.sliceAt,Instr.slice,run_underlying ht,hx,Instr.sliceBounds,hh,Instr.sliceBound,asIntOf,hle,iX hn]
theorem jmt {id nt:Nat}{ops:Array Oper}{sz:Nat}(hg:NC P nt ops=I sz)(m:av P C ω w0 C0 hp w)(he:ak C ω w w0.heap.size env a.tmps)(cB:a.tmps.size=nt)(xR:Marks C w0.heap.size a.defers){z k:Nat}{xs:List qa}{o1 o2:Bool}
  (h0:yd 0 env=I (.list Gb z xs,o1)) (h1:yd 1 env=I (.int .i64 (.ofNat k),o2)) (hk0:0<k) (fH:k≤1073741824):
  (Code.region id ops Gc).wpIn (iM ρ) 0 P (fun e a' w'=>e=.normal∧cX P w0 C0 C nt ⟨[(0,.list Gc sz [],Gb)],hp⟩ a' w') a w:=by
 unfold NC at hg
 split at hg
 ·rename_i t u pA
  split at hg
  ·rename_i e kk ht hu
   split at hg
   ·rename_i i hi
    split at hg
    ·rename_i hc
     cases hg
     simp only[Ek,decide_eq_true_eq,Option.isSome_iff_exists,beq_iff_eq]at hc
     obtain⟨⟨⟨⟨⟨⟨zv,hz⟩,Od⟩,Vj⟩,hnt⟩,⟨zl,gL⟩⟩,qB⟩:=hc
     have xS:yf P e=I i.size:=by simp[yf,hi]
     unfold jll at pA
     split at pA
     ·rename_i p0 p1 p2 p3 p4 p5 p6 p7 p8 p9 Vk
      split at pA
      ·rename_i t2 t3 tt uu t7 t8 g2 g3 g5 g7 g8
       split at pA
       ·rename_i dj
        cases pA
        simp only[Ek,beq_iff_eq]at dj
        obtain⟨⟨⟨⟨⟨⟨⟨⟨c0,c1⟩,c4⟩,c6⟩,c9⟩,x2⟩,x3⟩,x7⟩,x8⟩:=dj
        replace x2:=x2.symm
        replace x3:=x3.symm
        replace x7:=x7.symm
        replace x8:=x8.symm
        subst x2;subst x3;subst x7;subst x8
        have Hm:ops=#[p0,p1,p2,p3,p4,p5,p6,p7,p8,p9]:=by apply Eo;simpa using Vk
        subst Hm
        obtain⟨v0,q0,r0,_⟩:=he 0 _ h0
        obtain⟨v1,q1,r1,_⟩:=he 1 _ h1
        have iK:v0=.slice Eh 0 0:=by
         rcases r0.cG with⟨_,_,h⟩|⟨h,_⟩|⟨h,_⟩
         ·exact h
         ·cases h
         ·cases h
        have nO:v1=.int .i64 (k:Int):=by cases r1;rfl
        subst iK;subst nO
        have hl:26≤a.tmps.size:=by omega
        have e0:a.eval (.tmp 0)=.slice Eh 0 0:=by simp[Act.eval,En,q0]
        have e1:a.eval (.tmp 1)=.int .i64 (k:Int):=by simp[Act.eval,En,q1]
        obtain⟨a0,a0d,a0g⟩:=Oc c0
        obtain⟨a1,a1d,a1g⟩:=Oc c1
        obtain⟨cc2,a2,b2,b2a,b2t,a2d,a2g⟩:=jis g2
        obtain⟨a3,a3d,a3g⟩:=q5e g3
        obtain⟨a4,a4d,a4g⟩:=Oc c4
        obtain⟨cc5,a5,b5,b5a,b5t,a5d,a5g⟩:=jie g5
        obtain⟨a6,a6d,a6g⟩:=Oc c6
        obtain⟨cc7,a7,b7,b7a,b7t,a7d,a7g⟩:=jjc g7
        obtain⟨a8,a8d,a8g⟩:=q5e g8
        obtain⟨a9,a9d,a9g⟩:=q48 c9
        refine wpIn_region ?_
        rw[show List.range (#[p0,p1,p2,p3,p4,p5,p6,p7,p8,p9]:Array Oper).size=[0,1,2,3,4,5,6,7,8,9]from rfl]
        refine uW (o:=p0) rfl a0g a0d (by simp[a0]) (v:=.slice Eh 0 0) (w':=w) (by simp[execOp,a0,e0]) ?_
        refine uW (o:=p1) rfl a1g a1d (by simp[a1]) (v:=.slice Eh 0 0) (w':=w) (by simp[execOp,a1,oC,e0]) ?_
        refine uW (o:=p2) rfl a2g a2d (by simp[a2]) (v:=.int .i64 0) (w':=w) ?_ ?_
        ·have:(((a.put (I 17) (.slice Eh 0 0)).put (I 18) (.slice Eh 0 0))).eval (.tmp 18)=.slice Eh 0 0:=wc (by rw[rA];omega)
         simp[execOp,a2,resolve,b2,b2a,b2t,invoke,builtin,Builtin.cap_,run_underlying ht,this,goInt]
        refine uW (o:=p3) rfl a3g a3d (by simp[a3]) (v:=.slice Eh 0 0) (w':=w) ?_ ?_
        ·have Vl:((((a.put (I 17) (.slice Eh 0 0)).put (I 18) (.slice Eh 0 0))).put (I 19) (.int .i64 0)).eval (.tmp 17)=.slice Eh 0 0:=by
          rw[oC (by omega),oC (by omega),wc (by omega)]
         have Vm:((((a.put (I 17) (.slice Eh 0 0)).put (I 18) (.slice Eh 0 0))).put (I 19) (.int .i64 0)).eval (.tmp 19)=.int .i64 ((0:Nat):Int):=by
          rw[wc (by rw[rA,rA];omega)];rfl
         have:=q7q (P:=P) (w:=w) (o:=p3) a3 ht xS Vl Vm (Nat.le_refl 0)
         simpa using this
        refine uW (o:=p4) rfl a4g a4d (by simp[a4]) (v:=.int .i64 (k:Int)) (w':=w) (by simp[execOp,a4,oC,e1]) ?_
        have rj:=Lib.run_append_nil_zeros w t u p5.type e i zv .i64 kk ht hu hi hz k hk0 Od (by omega) (by
         have:k*i.bytes≤1073741824*4096:=Nat.mul_le_mul fH Vj
         omega)
        refine uW (o:=p5) rfl a5g a5d (by simp[a5]) (v:=.slice (I ⟨w.heap.size,0,Eh⟩) k (grownCap w k 0 e)) (w':=w.drew.alloc (.cells (Builtin.zeroCells zv.cells k++Builtin.zeroCells zv.cells (grownCap w k 0 e-k)) e)) ?_ ?_
        ·generalize hA:(((((a.put (I 17) (.slice Eh 0 0)).put (I 18) (.slice Eh 0 0)).put (I 19) (.int .i64 0)).put (I 20) (.slice Eh 0 0)).put (I 21) (.int .i64 (k:Int)))=A
         have Hn:A.eval (.tmp 20)=.slice Eh 0 0:=by
          rw[←hA,oC (by omega),wc (by simp only[rA];omega)]
         have Vn:A.eval (.tmp 21)=.int .i64 (k:Int):=by
          rw[←hA,wc (by simp only[rA];omega)]
         simp[execOp,a5,resolve,b5,b5a,b5t,invoke,builtin,Hn,Vn,rj]
        generalize hW:w.drew.alloc (.cells (Builtin.zeroCells zv.cells k++Builtin.zeroCells zv.cells (grownCap w k 0 e-k)) e)=W
        generalize hA:(((((a.put (I 17) (.slice Eh 0 0)).put (I 18) (.slice Eh 0 0)).put (I 19) (.int .i64 0)).put (I 20) (.slice Eh 0 0)).put (I 21) (.int .i64 (k:Int)))=A
        have hA0:A.eval (.tmp 0)=.slice Eh 0 0:=by rw[←hA];simp only[oC (show(21:Nat)≠0 by omega),oC (show(20:Nat)≠0 by omega),oC (show(19:Nat)≠0 by omega),oC (show(18:Nat)≠0 by omega),oC (show(17:Nat)≠0 by omega),e0]
        have hAs:A.tmps.size=a.tmps.size:=by rw[←hA];simp only[rA]
        have hAd:A.defers=a.defers:=by rw[←hA];rfl
        generalize hcp:grownCap w k 0 e=cp
        have hcap:k≤cp:=by rw[←hcp];simpa using grownCap_ge w k 0 e
        refine uW (o:=p6) rfl a6g a6d (by simp[a6]) (v:=.slice Eh 0 0) (w':=W) (by simp[execOp,a6,oC,hA0]) ?_
        refine uW (o:=p7) rfl a7g a7d (by simp[a7]) (v:=.int .i64 0) (w':=W) ?_ ?_
        ·generalize hB:((A.put (I 22) (.slice (I ⟨w.heap.size,0,Eh⟩) k cp)).put (I 23) (.slice Eh 0 0))=B
         have Vo:B.eval (.tmp 23)=.slice Eh 0 0:=by
          rw[←hB,wc (by rw[rA];omega)]
         simp[execOp,a7,resolve,b7,b7a,b7t,invoke,builtin,Builtin.len_,run_underlying ht,Vo,goInt]
        refine uW (o:=p8) rfl a8g a8d (by simp[a8]) (v:=.slice (I ⟨w.heap.size,0,Eh⟩) 0 cp) (w':=W) ?_ ?_
        ·generalize hB:(((A.put (I 22) (.slice (I ⟨w.heap.size,0,Eh⟩) k cp)).put (I 23) (.slice Eh 0 0)).put (I 24) (.int .i64 0))=B
         have Ho:B.eval (.tmp 22)=.slice (I ⟨w.heap.size,0,Eh⟩) k cp:=by
          rw[←hB,oC (by omega),oC (by omega),wc (by omega)]
         have AV:B.eval (.tmp 24)=.int .i64 ((0:Nat):Int):=by
          rw[←hB,wc (by simp only[rA];omega)];rfl
         have:=q7q (P:=P) (w:=W) (o:=p8) a8 ht xS Ho AV (Nat.zero_le cp)
         rw[if_neg (by omega)]at this
         simp only[Option.map_some,add_lit,Nat.add_zero]at this
         exact this
        refine uW (o:=p9) rfl a9g a9d (by simp[a9]) (v:=.slice (I ⟨w.heap.size,0,Eh⟩) 0 cp) (w':=W) ?_ ?_
        ·have Hp:((((A.put (I 22) (.slice (I ⟨w.heap.size,0,Eh⟩) k cp)).put (I 23) (.slice Eh 0 0)).put (I 24) (.int .i64 0)).put (I 25) (.slice (I ⟨w.heap.size,0,Eh⟩) 0 cp)).eval (.tmp 25)=.slice (I ⟨w.heap.size,0,Eh⟩) 0 cp:=by
          rw[wc (by simp only[rA];omega)]
         simp[execOp,a9,Hp]
        -- the end
        have hxd:=Ext.drew w
        obtain⟨zs,zvr,Hq,cu,lz⟩:=uL (C:=C) gL
        have mS:zv.cells.size=i.size:=by
         have h3:zl.length=i.size:=by rw[gL]at qB;simpa using qB
         have h4:=cu.length
         have h5:zvr=zv:=by
          have:=Hq w
          simp[zeroValue,typeInfo,hi,hz]at this
          exact this.symm
         subst h5
         simp only[Array.length_toList]at h4;omega
        have gC:=NP (d:=.slot 0) (tmps:=a.tmps) (m.ext hxd) (he.ext hxd) (Builtin.zeroCells zv.cells k++Builtin.zeroCells zv.cells (cp-k)) e [] i.size cp [] (by simpa using qh.nil) (by simp) (by simp) (by simp) (by simp) (by
         have hlen:∀n,(Builtin.zeroCells zv.cells n).size=n*i.size:=fun n=>by simp[Builtin.zeroCells,mS]
         rw[Array.size_append,hlen,hlen,←Nat.add_mul]
         exact Nat.mul_le_mul_right _ (by omega)) Eh
        rw[hcp]at hW
        rw[hW]at gC
        have hd0:w.drew.heap.size=w.heap.size:=rfl
        rw[hd0]at gC
        simp only[List.length_nil]at gC
        clear hW hA0 Hq cu
        generalize hB:(((A.put (I 22) (.slice (I ⟨w.heap.size,0,Eh⟩) k cp)).put (I 23) (.slice Eh 0 0)).put (I 24) (.int .i64 0)).put (I 25) (.slice (I ⟨w.heap.size,0,Eh⟩) 0 cp)=B
        have hBs:B.tmps.size=a.tmps.size:=by rw[←hB];simp only[rA];omega
        have hBd:B.defers=a.defers:=by rw[←hB,←hAd];rfl
        obtain⟨C',ω',k1,k2,k3,k4,k5⟩:=gC
        have lM:cX P w0 C0 C nt ⟨[(0,.list Gc i.size [],Gb)],hp⟩ (B.put (I 0) (.slice (I ⟨w.heap.size,0,Eh⟩) 0 cp)) W:=by
         refine⟨by rw[rA];omega,C',ω',k1,?_,k2,?_⟩
         ·rw[show(B.put (I 0) (.slice (I ⟨w.heap.size,0,Eh⟩) 0 cp)).defers=B.defers from rfl,hBd]
          exact xR.mono k1
         ·intro s x hx
          simp only[yd]at hx
          cases hb:Nat.beq 0 s with
          |false=>simp[hb]at hx
          |true=>
           have:=Nat.eq_of_beq_eq_true hb
           subst this
           simp only[hb,cT,I.injEq]at hx
           subst hx
           exact⟨_,by simp only[Act.put];rw[Array.getElem?_setIfInBounds_self_of_lt (by omega)],k4,k5⟩
        simp only[wpOpsIn]
        exact⟨trivial,lM⟩
       ·cases pA
      ·cases pA
     ·cases pA
    ·cases hg
   ·cases hg
  ·cases hg
 ·cases hg
end
def fm (ρ:Option Nat)(P:Program)(c:Code)(Q:Exit→Act→World→Prop)(a:Act)(w:World):Prop:=
 ∀(b:Frame) (k:List Item) (cs:List Frame),b.roundOf=(iM ρ).round→(iM ρ).fn b.fn→(iM ρ).room (cs.length+1+0) →
  ∃e a' w',Q e a' w'∧ArrivesIn (Machine.fenced P (iM ρ)) P (lone (b.atR a (.code c::.inLoop c::k)) cs w) b k cs e a' w'
theorem fm.wpIn {ρ P c Q a w}(h:fm ρ P c Q a w):(Code.loop c).wpIn (iM ρ) 0 P Q a w:=by
 intro b k cs xT hb hr
 obtain⟨e,a',w',hq,eC⟩:=h b k cs xT hb hr
 exact⟨e,a',w',hq,.of_steps (.one (fenced_calm hb hr rfl) stepR_loop) eC⟩
theorem fm.wh {ρ P c Q a w}(h:c.wpIn (iM ρ) 0 P (Exit.then (fm ρ P c Q) Q) a w):fm ρ P c Q a w:=by
 intro b k cs xT hb hr
 obtain⟨e,a₁,w₁,hq,eC⟩:=h b (.inLoop c::k) cs xT hb hr
 cases e with
 |normal=>
  obtain⟨e₂,a₂,w₂,Hr,wi⟩:=hq b k cs xT hb hr
  exact⟨e₂,a₂,w₂,Hr,.of_steps (StepsIn.trans eC (.one (fenced_calm hb hr rfl) stepR_inLoop)) wi⟩
 |exit id=>exact⟨_,a₁,w₁,hq,.pass (x:=.inLoop c) rfl (fun _ _=>.inl (by simp)) eC⟩
 |goto l=>exact⟨_,a₁,w₁,hq,.pass (x:=.inLoop c) rfl (fun _ _=>.inl (by simp)) eC⟩
 |ret=>exact⟨_,a₁,w₁,hq,.pass (x:=.inLoop c) rfl (fun _ _=>.inl (by simp)) eC⟩
 |panic ch=>exact⟨_,a₁,w₁,hq,.pass (x:=.inLoop c) rfl (fun _ _=>.inl (by simp)) eC⟩
 |outgrown=>exact⟨_,a₁,w₁,hq,.pass (x:=.inLoop c) rfl (fun _ _=>.inl (by simp)) eC⟩
section
variable {P:Program}{p:qr}{xc:XC}
def Oe (P:Program)(w0:World)(C0 C:aA)(nt:Nat)(x:qi)(bF:qg):Exit→Act→World→Prop:=fun e a' w'=>e=Az x∧cX P w0 C0 C nt bF a' w'
def q7z (P:Program)(xc:XC):Prop:=
 ∀(ρ:Option Nat) (nt:Nat) (c:Code) (ca:qe) (st bF:qg) (x:qi),F9 P nt c ca→(ρ≠Eh→kx ca=Gb)→xc ca st=I (x,bF) →
  ∀(C:aA) (w0:World) (C0:aA) (a:Act) (w:World),cX P w0 C0 C nt st a w→c.wpIn (iM ρ) 0 P (Oe P w0 C0 C nt x bF) a w
theorem cg.Hs (h:q7z P xc):cg P xc:=
 fun ρ nt c ca st bF x hc hn hx C ω w0 C0 a w m he cB kI=>wpIn_mono (h ρ nt c ca st bF x hc hn hx C w0 C0 a w ⟨cB,C,ω,aA.le_refl C,kI,m,he⟩) fun _ _ _ hq=>hq
def jei (P:Program)(xc:XC):Prop:=
 ∀(ρ:Option Nat) (nt:Nat) (c:Code) (ca:qe) (st bF:qg) (x:qi),F9 P nt c ca→(ρ≠Eh→kx ca=Gb)→xc (.loop ca) st=I (x,bF) →
  ∀(C:aA) (w0:World) (C0:aA) (a:Act) (w:World),cX P w0 C0 C nt st a w→fm ρ P c (Oe P w0 C0 C nt x bF) a w
theorem cX.gc {w0 C0 C nt n st a w}(h:cX P w0 C0 C nt st a w)(hC:∀b r,C.β b=I r→b<n)(Vp:∀b r,C0.β b=I r→b<n):cX P w0 C0 C nt (Abs.gc n st) a w:=by
 unfold Abs.gc
 cases hb:Nat.ble st.heap.length n with
 |true=>exact h
 |false=>
  simp only[cond_false]
  cases lH:(mK n st.env&&ko n (st.heap.take n))with
  |false=>exact h
  |true=>
   simp only[cT]
   simp only[Ek]at lH
   obtain⟨h1,C',ω',h3,h2,h4,h5⟩:=h
   have hn:n≤st.heap.length:=by
    rcases Nat.lt_or_ge n st.heap.length with h|h
    ·omega
    ·rw[Nat.ble_eq_true_of_le h]at hb;cases hb
   exact⟨h1,C'.cut n,ω',aA.ig h3 hC,⟨h2.choose,h2.choose_spec.1,h2.choose_spec.2.1,h2.choose_spec.2.2⟩,h4.gc hn lH.2 Vp,h5.cut lH.1⟩
theorem Og {K w0 C0 C nt x bF Q e a w}(h:Oe P w0 C0 C nt x bF e a w)(hn:x=.normal→cX P w0 C0 C nt bF a w→K a w)(ho:x≠.normal→cX P w0 C0 C nt bF a w→Q (Az x) a w):Exit.then K Q e a w:=by
 obtain⟨rfl,h⟩:=h
 cases x with
 |normal=>exact hn rfl h
 |exit id=>exact ho (by simp) h
 |ret=>exact ho (by simp) h
theorem q66 {b:Frame}{a k cs w c}:step P (lone (b.atR a (.code (.scope c)::k)) cs w)=.next (lone (b.atR a (.code c::.inScope c::k)) cs w):=
 step_lone_go (by simp[stepG,stepG.exec,Frame.atR])
theorem q1n {b:Frame}{a k cs w c}:step P (lone (b.atR a (.inScope c::k)) cs w)=.next (lone (b.atR a k) cs w):=
 step_lone_go (by simp[stepG,stepG.exec,Frame.atR])
theorem qrb {F:Fence}{n c Q a w}(h:c.wpIn F n P (Exit.noGoto Q) a w):(Code.scope c).wpIn F n P Q a w:=by
 intro b k cs xT hb hr
 obtain⟨e,a₁,w₁,hq,eC⟩:=h b (.inScope c::k) cs xT hb hr
 have h1:StepsIn (Machine.fenced P F) P (lone (b.atR a (.code (.scope c)::k)) cs w) (lone (b.atR a (.code c::.inScope c::k)) cs w):=.one (fenced_calm hb hr rfl) q66
 cases e with
 |normal=>exact⟨.normal,a₁,w₁,hq,StepsIn.trans h1 (StepsIn.trans eC (.one (fenced_calm hb hr rfl) q1n))⟩
 |goto l=>exact hq.elim
 |exit id=>
  refine⟨.exit id,a₁,w₁,hq,.of_steps h1 ?_⟩
  refine⟨fun k' hk=>eC.1 k' (by simp[exitTo,hk]),fun Vq ij=>?_⟩
  exact eC.2 Vq (by simp[exitTo,ij])
 |ret=>exact⟨_,a₁,w₁,hq,.of_steps h1 eC⟩
 |panic ch=>exact⟨_,a₁,w₁,hq,.of_steps h1 eC⟩
 |outgrown=>exact⟨_,a₁,w₁,hq,.of_steps h1 eC⟩
theorem av.Vr {C C0 ω w0 w hp}(m:av P C ω w0 C0 hp w):av P { C with D:=fun r=>C.D r∨r=w.heap.size } ω w0 C0 hp (w.alloc (.deferred (I []))):=by
 have hx:Ext w (w.alloc (.deferred (I []))):=Ext.alloc w _ (fun c t fr h=>by cases h)
 have m':=m.ext hx
 exact { m' with
  eQ:=fun r hr=>by
   rcases hr with hr|hr
   ·exact m'.eQ r hr
   ·subst hr;rw[vQ,if_pos rfl]
  grown:=⟨m.grown.k,m.grown.b,m.grown.w,fun r h=>.inl (m.grown.d r h),m.grown.t⟩
  box:=fun b x r eK hb=>bp.imp (C:=C) (C':={ C with D:=fun r=>C.D r∨r=w.heap.size }) ⟨fun _ _ _ h=>h,fun _ _ h=>h⟩ rfl (fun _ _ _ ho=>ho) (m'.box b x r eK hb) }
theorem ji9 (dS:qw P p)(hx:cg P xc){f ps x1 x2 f' a1 a2 h nt st bF x C w0 C0 a w}
  (hf:zp f=I f') (h1:gu P h nt x1=I a1) (h2:gu P h nt x2=I a2) (cf:∀t∈ps.toList,t<nt) (hs:mN p xc f' ps.toList a1 a2 st=I (x,bF)) (bO:cX P w0 C0 C nt st a w):
  (Code.rangeFunc f ps x1 x2).wpIn (iM Eh) 0 P (Oe P w0 C0 C nt x bF) a w:=by
 obtain⟨cB,Ca,ω,hle,xR,m,he⟩:=bO
 unfold mN at hs
 cases Oh:(kx a1&&kx a2)with
 |false=>simp[Oh]at hs
 |true=>
  simp only[Oh,cT]at hs
  simp only[Ek]at Oh
  split at hs
  ·rename_i k first captured gA
   have xM:=zq he.bU hf gA
   generalize GY:a.eval f=fv at xM
   cases xM with
   |fn g g' _ _ as bs hg ha hb=>
    simp only[eZ]at hg
    subst hg
    split at hs
    ·rename_i _r1 _r2 h' GV
     split at hs
     ·rename_i l' hl'
      cases iY:ko st.heap.length (h'.take st.heap.length)with
      |false=>simp[iY]at hs
      |true=>
       simp only[iY,cT]at hs
       ·obtain⟨lI,mX⟩:=GU dS hx GV
        -- the loop's record,and the block before it
        refine wpIn_rangeFunc fun fn _=>?_
        generalize hlp:({ state:=.ready,pending:=Eh,fn:=fn,tmps:=a.tmps,params:=ps,assign:=x1,body:=x2,defers:=w.heap.size }:Loop)=lp
        have mD:=(m.Vr).holes 1
        have eD:ak { Ca with D:=fun r=>Ca.D r∨r=w.heap.size } ω (w.alloc (.deferred (I []))) w0.heap.size st.env a.tmps:=fun s y hy=>
         let ⟨v,k1,k2,k3⟩:=he.ext (Ext.alloc w _ (fun c t fr h=>by cases h)) s y hy
         ⟨v,k1,bG.qT k2,k3⟩
        have Ht:(st.heap++List.replicate 1 .hole)[st.heap.length]?=I .hole:=by simp
        have Hu:(w.alloc (.deferred (I []))).heap.size=w.heap.size+1:=by rw[World.size_alloc]
        obtain⟨mB,eB,mZ⟩:=mD.aF eD Ht (.loop lp) (fun c t fr h=>by cases h) (.loop ⟨st.env,ps.toList,a1,a2,Eh⟩) (by
         intro C' ω' w' cy N3
         subst hlp
         exact⟨_,N3,{ assign:=⟨h,by rw[cB];exact h1⟩,body:=⟨h,by rw[cB];exact h2⟩,params:=rfl,fits:=fun t ht=>by rw[cB];exact cf t ht,nr:=Oh,env:=fun s y hy=>let ⟨v,k1,k2,_⟩:=eD s y hy; ⟨v,k1,qh.mono cy k2⟩,state:=rfl,pending:=rfl }⟩)
        have bn:(st.heap++List.replicate 1 qn.hole).set st.heap.length (.loop ⟨st.env,ps.toList,a1,a2,Eh⟩)=st.heap++[.loop ⟨st.env,ps.toList,a1,a2,Eh⟩]:=by
         simp
        rw[bn]at mB
        rw[Hu]at mB eB mZ
        generalize hCB:aA.box { Ca with D:=fun r=>Ca.D r∨r=w.heap.size } st.heap.length (w.heap.size+1)=CB at mB eB mZ
        generalize hwB:(w.alloc (.deferred (I []))).alloc (.loop lp)=wB at mB eB
        have Hv:CB.β st.heap.length=I (w.heap.size+1):=by rw[←hCB];simp[aA.box]
        have hDB:∀r,Ca.D r∨r=w.heap.size→CB.D r:=fun r hr=>by rw[←hCB];exact hr
        have hKB:∀ {i:jh},qh Ca i→qh CB i:=fun hr=>qh.mono mZ (qh.imp (C:=Ca) (C':={ Ca with D:=fun r=>Ca.D r∨r=w.heap.size }) ⟨fun _ _ _ h=>h,fun _ _ h=>h⟩ hr)
        have Hw:Ca.le CB:=⟨mZ.k,mZ.b,mZ.w,fun r hr=>hDB r (.inl hr),mZ.t⟩
        have dQ:aK (CB.shared ω w0) (first++[.fn (.yield st.heap.length) [] []]++captured) (as++[Value.func (.yield (w.heap.size+1)) ⟨[]⟩ ⟨[]⟩]++bs):=by
         refine qh.imp (C:=CB) (C':=CB.shared ω w0) ⟨fun _ _ _ h=>h,fun _ _ h=>h⟩ ?_
         exact aK.append (aK.append (hKB ha) (.cons _ _ _ _ (.fn _ _ _ _ _ _ ⟨_,Hv,rfl⟩ .nil .nil) .nil)) (hKB hb)
        refine⟨w.heap.size+1,[{ target:=.collected w.heap.size,args:=#[] }],wB,{ target:=.fn (.func k) ⟨bs⟩,args:=⟨as⟩++#[Value.func (.yield (w.heap.size+1)) #[] #[]] },wB,k,⟨as++[Value.func (.yield (w.heap.size+1)) ⟨[]⟩ ⟨[]⟩]++bs⟩,wB,?_,?_,fun _ _=>trivial,?_,fun hd=>by simp[iM,Fence.wide]at hd,?_⟩
        ·subst hlp
         rw[←hwB]
         simp[Instr.enterLoop,iM,Fence.wide,Hu]
        ·have hc:a.eval (.const (Value.func (.yield (w.heap.size+1)) #[] #[]))=Value.func (.yield (w.heap.size+1)) #[] #[]:=rfl
         simp[resolve,GY,Deferred.ofValue,hc]
        ·have hq:(⟨as⟩:Array Value)++#[Value.func (.yield (w.heap.size+1)) #[] #[]]++(⟨bs⟩:Array Value)=⟨as++[Value.func (.yield (w.heap.size+1)) ⟨[]⟩ ⟨[]⟩]++bs⟩:=by
          apply Eo;simp
         simp only[invoke,hq]
         exact qr6 lI _ _
        ·refine qw1.2 (CallsIn.mono (mX _ _ _ _ dQ (UQ mB)) ?_)
         rintro ee w' ⟨u,C1,ω1,rfl,q1,q2,_,_⟩
         obtain⟨m2,e2⟩:=qu1 mB eB q2 q1
         have AW:CB.le (C1.back CB):=N4 q1
         have qY:(C1.back CB).β st.heap.length=I (w.heap.size+1):=AW.b _ _ Hv
         obtain⟨lJ,qZ,uU⟩:=N6 m2 hl' qY
         have hlen:st.heap.length<h'.length:=(m2.lt _ _ qY).2
         have Vp:∀b r,C0.β b=I r→b<st.heap.length:=fun b r hb=>(m.lt b r (m.grown.b b r hb)).2
         have m3:=m2.gc (Nat.le_of_lt hlen) iY Vp
         have AH:(Instr.getLoop (w.heap.size+1)).run P w'=.ok lJ w':=by simp[Instr.getLoop,pq qZ (by simp)]
         have rz:=(Eu.1 qZ).1
         have hu:jk w' (jQ w' (w.heap.size+1) (.loop { lJ with state:=.exhausted })) (w.heap.size+1):=Er rz (by simp)
         have lh:∀cs t fr,w'.heap[w.heap.size+1]?≠I (.cells cs t fr):=fun cs t fr hh=>by rw[qZ]at hh;cases hh
         have Vs:∀b,((C1.back CB).cut st.heap.length).β b≠I (w.heap.size+1):=fun b hb=>by
          simp only[aA.cut]at hb
          split at hb
          ·rename_i bh
           have:=m2.inj b st.heap.length _ hb qY
           omega
          ·cases hb
         have cM:lJ.state≠.busy→(Instr.endLoop (w.heap.size+1)).run P w'=.ok lJ.pending (jQ w' (w.heap.size+1) (.loop { lJ with state:=.exhausted })):=fun Ev=>by
          have eL:(lJ.state == .busy)=Gc:=by
           cases bO:lJ.state<;>first|rfl|exact absurd bO Ev
          have hs2:=xG (P:=P) (x:=.loop { lJ with state:=.exhausted }) qZ (by simp)
          simp only[Instr.endLoop,Sem.run_bind,AH,Result.andThen_ok,eL,Bool.false_eq_true,if_false,Sem.run_ite,hs2,Sem.run_pure]
         have m4:=m3.other (D':=((C1.back CB).cut st.heap.length).D) hu Vs (Nat.le_trans m.size (by omega)) lh (fun kk hk=>⟨hk,fun gO=>by
          have:=m3.eQ kk hk
          rw[gO,qZ]at this;cases this⟩) m3.grown.d
         have AX:Ca.le ((C1.back CB).cut st.heap.length):=aA.ig (aA.le_trans Hw AW) (fun b r hb=>(m.lt b r hb).2)
         have e4:ak ((C1.back CB).cut st.heap.length) (mY ω ω1 wB.heap.size) (jQ w' (w.heap.size+1) (.loop { lJ with state:=.exhausted })) w0.heap.size st.env a.tmps:=by
          intro s y hy
          obtain⟨v,k1,k2,k3⟩:=he s y hy
          obtain⟨v',j1,j2,j3⟩:=e2 s y hy
          rw[k1]at j1
          cases j1
          exact⟨v,k1,qh.mono AX k2,fun hh=>(((j3 hh).cut _).kH (D':=((C1.back CB).cut st.heap.length).D) hu lh)⟩
         have lM:∀(xx:qi),cX P w0 C0 C nt { st with heap:=h'.take st.heap.length } { a with defers:=[{ target:=.collected w.heap.size,args:=#[] }]++a.defers } (jQ w' (w.heap.size+1) (.loop { lJ with state:=.exhausted })):=by
          intro _
          refine⟨cB,_,_,aA.le_trans hle AX,?_,m4,e4⟩
          obtain⟨rs,g1,g2,g3⟩:=xR
          refine⟨w.heap.size::rs,by rw[g1];rfl,List.nodup_cons.2 ⟨fun hm=>?_,g2⟩,?_⟩
          ·have:=(Eu.1 (m.eQ _ (g3 _ hm).1)).1;omega
          ·intro r hr
           rcases List.mem_cons.1 hr with rfl|hr
           ·exact⟨AW.d _ (hDB _ (.inr rfl)),m.size⟩
           ·exact⟨AX.d _ (g3 r hr).1,(g3 r hr).2⟩
         simp only[rangePost]
         split at hs
         ·rename_i wj
          cases hs
          refine⟨Eh,_,?_,rfl,lM .normal⟩
          rw[cM (by rw[uU.state,wj];simp),uU.pending,wj]
         ·cases hs
         ·rename_i xx Um wj
          cases hs
          cases x with
          |normal=>exact absurd rfl Um
          |ret=>
           refine⟨I .ret,_,?_,wpIn_ret ⟨rfl,lM .ret⟩⟩
           rw[cM (by rw[uU.state,wj];simp),uU.pending,wj]
          |exit id=>
           refine⟨I (.exit id),_,?_,wpIn_exit ⟨rfl,lM .ret⟩⟩
           rw[cM (by rw[uU.state,wj];simp),uU.pending,wj]
     ·cases hs
    ·cases hs
  ·cases hs
theorem Oi (dS:qw P p):∀n,q7z P (ye p n)∧jei P (ye p n)
 |0=>⟨fun ρ nt c ca st bF x _ _ hx=>by simp[ye]at hx,fun ρ nt c ca st bF x _ _ hx=>by simp[ye]at hx⟩
 |n+1=>by
  obtain⟨ih,ihl⟩:=Oi dS n
  have loop:jei P (ye p (n+1)):=by
   intro ρ nt c ca st bF x hc hn hx C w0 C0 a w bO
   obtain⟨cB,C',ω',hle,kI,m,he⟩:=bO
   have hC':∀b r,C'.β b=I r→b<st.heap.length:=fun b r hb=>(m.lt b r hb).2
   refine fm.wh ?_
   simp only[ye]at hx
   split at hx
   ·rename_i gQ h1
    refine wpIn_mono (ih ρ nt c ca st gQ .normal hc hn h1 C' w0 C0 a w ⟨cB,C',ω',aA.le_refl _,kI,m,he⟩) ?_
    intro e a' w' hq
    refine Og hq (fun _ eb=>?_) (fun h=>absurd rfl h)
    have h2:=eb.gc hC' (fun b r hb=>hC' b r (m.grown.2 b r hb))
    have h3:=ihl ρ nt c ca _ bF x hc hn hx C' w0 C0 a' w' h2
    intro b k cs xT hb hr
    obtain⟨e,a',w',hq,eC⟩:=h3 b k cs xT hb hr
    obtain⟨q1,q2,C2,ω2,q4,q5⟩:=hq
    exact⟨e,a',w',⟨q1,q2,C2,ω2,aA.le_trans hle q4,q5⟩,eC⟩
   ·rename_i bu
    refine wpIn_mono (ih ρ nt c ca st bF x hc hn hx C w0 C0 a w ⟨cB,C',ω',hle,kI,m,he⟩) ?_
    intro e a' w' hq
    refine Og hq (fun EG eb=>?_) (fun EG eb=>⟨rfl,eb⟩)
    subst EG
    exact absurd hx (bu bF)
  refine⟨?_,loop⟩
  intro ρ nt c ca st bF x hc hn hx C w0 C0 a w bO
  obtain⟨h,dj⟩:=hc
  cases c with
  |skip=>
   simp only[gu,I.injEq]at dj
   subst dj
   simp only[ye,I.injEq,Ga.injEq]at hx
   obtain⟨rfl,rfl⟩:=hx
   exact wpIn_skip ⟨rfl,bO⟩
  |label l=>
   simp only[gu,I.injEq]at dj
   subst dj
   simp only[ye,I.injEq,Ga.injEq]at hx
   obtain⟨rfl,rfl⟩:=hx
   exact wpIn_label ⟨rfl,bO⟩
  |region id ops draw=>
   simp only[gu]at dj
   have dj:(draw=Gc∧∃sz,NC P nt ops=I sz∧ca=.grow sz)∨F7 P h nt id ops draw=I ca:=by
    split at dj
    ·rename_i sz Vt;cases dj;exact .inl ⟨rfl,sz,Vt,rfl⟩
    ·exact .inr dj
   rcases dj with⟨rfl,sz,Vt,rfl⟩|dj
   ·simp only[ye]at hx
    split at hx
    ·rename_i z xs o1 k o2 e0 e1
     cases gO:(Nat.blt 0 k&&Nat.ble k 1073741824)with
     |false=>simp[gO]at hx
     |true=>
      simp only[gO,cT,I.injEq,Ga.injEq]at hx
      obtain⟨rfl,rfl⟩:=hx
      simp only[Ek]at gO
      obtain⟨cB,C',ω',hle,kI,m,he⟩:=bO
      refine wpIn_mono (jmt Vt m he cB kI e0 e1 (Nat.blt_eq.mp gO.1) (Nat.le_of_ble_eq_true gO.2)) ?_
      rintro e a' w' ⟨rfl,q1,C2,ω2,q4,q5⟩
      exact⟨rfl,q1,C2,ω2,aA.le_trans hle q4,q5⟩
    ·cases hx
   have Hx:∃na l keep,ca=.region na l keep:=by
    unfold F7 at dj
    split at dj
    ·split at dj
     ·simp only[I.injEq]at dj;exact⟨_,_,_,dj.symm⟩
     ·cases dj
    ·cases dj
   obtain⟨na,l,keep,dL⟩:=Hx
   subst dL
   simp only[ye]at hx
   obtain⟨cB,C',ω',hle,kI,m,he⟩:=bO
   refine wpIn_mono (jdw dS (cg.Hs ih) dj rfl hx m he cB kI) ?_
   rintro e a' w' ⟨q1,q2,C2,ω2,q4,q5⟩
   exact⟨q1,q2,C2,ω2,aA.le_trans hle q4,q5⟩
  |seq c1 c2=>
   simp only[gu]at dj
   split at dj
   ·rename_i x1 x2 h1 h2
    cases dj
    have EH:ρ≠Eh→kx x1=Gb∧kx x2=Gb:=fun hh=>by simpa[kx]using hn hh
    simp only[ye]at hx
    refine wpIn_seq ?_
    split at hx
    ·rename_i gQ xK
     refine wpIn_mono (ih ρ nt c1 x1 st gQ .normal ⟨h,h1⟩ (fun hh=>(EH hh).1) xK C w0 C0 a w bO) ?_
     intro e a' w' hq
     exact Og hq (fun _ eb=>ih ρ nt c2 x2 gQ bF x ⟨h,h2⟩ (fun hh=>(EH hh).2) hx C w0 C0 a' w' eb) (fun hh=>absurd rfl hh)
    ·rename_i bu
     refine wpIn_mono (ih ρ nt c1 x1 st bF x ⟨h,h1⟩ (fun hh=>(EH hh).1) hx C w0 C0 a w bO) ?_
     intro e a' w' hq
     refine Og hq (fun EG eb=>?_) (fun EG eb=>⟨rfl,eb⟩)
     subst EG
     exact absurd hx (bu bF)
   ·cases dj
  |cond c c1 c2=>
   simp only[gu]at dj
   split at dj
   ·rename_i c' x1 x2 h0 h1 h2
    cases dj
    have EH:ρ≠Eh→kx x1=Gb∧kx x2=Gb:=fun hh=>by simpa[kx]using hn hh
    simp only[ye]at hx
    split at hx
    ·rename_i t ht
     have gP:=bO
     obtain⟨cB,C',ω',hle,kI,m,he⟩:=bO
     have gA:=(zq he.bU h0 ht).cS
     refine wpIn_cond gA ?_
     cases t with
     |true=>simp only[cT]at hx;exact ih ρ nt c1 x1 st bF x ⟨h,h1⟩ (fun hh=>(EH hh).1) hx C w0 C0 a w gP
     |false=>simp only[cond_false]at hx;exact ih ρ nt c2 x2 st bF x ⟨h,h2⟩ (fun hh=>(EH hh).2) hx C w0 C0 a w gP
    ·cases hx
   ·cases dj
  |block id b=>
   simp only[gu]at dj
   obtain⟨b',hb,rfl⟩:=Ep.1 dj
   simp only[ye]at hx
   refine wpIn_block ?_
   split at hx
   ·rename_i ft gQ xK
    refine wpIn_mono (ih ρ nt b b' st gQ (.exit ft) ⟨h,hb⟩ (fun hh=>by simpa[kx]using hn hh) xK C w0 C0 a w bO) ?_
    rintro e a' w' ⟨rfl,eb⟩
    cases hid:Nat.beq ft id with
    |true=>
     simp only[hid,cT,I.injEq,Ga.injEq]at hx
     obtain⟨rfl,rfl⟩:=hx
     have:=Nat.eq_of_beq_eq_true hid
     subst this
     simp only[Az,Exit.inBlock,if_true]
     exact⟨rfl,eb⟩
    |false=>
     simp only[hid,cond_false,I.injEq,Ga.injEq]at hx
     obtain⟨rfl,rfl⟩:=hx
     have bu:¬ft=id:=fun hh=>by subst hh;simp at hid
     simp only[Az,Exit.inBlock,bu,if_false]
     exact⟨rfl,eb⟩
   ·rename_i bu
    refine wpIn_mono (ih ρ nt b b' st bF x ⟨h,hb⟩ (fun hh=>by simpa[kx]using hn hh) hx C w0 C0 a w bO) ?_
    rintro e a' w' ⟨rfl,eb⟩
    cases x with
    |normal=>exact⟨rfl,eb⟩
    |ret=>exact⟨rfl,eb⟩
    |exit ft=>exact absurd hx (bu ft bF)
  |loop b=>
   simp only[gu]at dj
   obtain⟨b',hb,rfl⟩:=Ep.1 dj
   exact(loop ρ nt b b' st bF x ⟨h,hb⟩ (fun hh=>by simpa[kx]using hn hh) hx C w0 C0 a w bO).wpIn
  |scope b=>
   simp only[gu]at dj
   obtain⟨b',hb,rfl⟩:=Ep.1 dj
   have eK:ye p n b' st=I (x,bF):=by
    simp only[ye]at hx
    split at hx
    ·rename_i gQ xK
     cases n with
     |zero=>simp[ye]at xK
     |succ n=>simp only[ye]at hx;rw[xK];exact hx
    ·exact hx
   refine qrb (wpIn_mono (ih ρ nt b b' st bF x ⟨h,hb⟩ (fun hh=>by simpa[kx]using hn hh) eK C w0 C0 a w bO) ?_)
   rintro e a' w' ⟨rfl,eb⟩
   cases x with
   |normal=>exact⟨rfl,eb⟩
   |exit id=>exact⟨rfl,eb⟩
   |ret=>exact⟨rfl,eb⟩
  |rangeFunc f ps x1 x2=>
   simp only[gu]at dj
   split at dj
   ·split at dj
    ·rename_i cf
     cases dj
     simp only[ye]at hx
     cases ρ with
     |some l=>exact absurd (hn (by simp)) (by simp[kx])
     |none=>exact ji9 dS (cg.Hs ih) (by assumption) (by assumption) (by assumption) (fun t ht=>by simpa using(Array.all_eq_true'.1 cf) t (by simpa using ht)) hx bO
    ·cases dj
   ·cases dj
  |exit id=>
   simp only[gu,I.injEq]at dj
   subst dj
   simp only[ye,I.injEq,Ga.injEq]at hx
   obtain⟨rfl,rfl⟩:=hx
   exact wpIn_exit ⟨rfl,bO⟩
  |ret=>
   simp only[gu,I.injEq]at dj
   subst dj
   simp only[ye,I.injEq,Ga.injEq]at hx
   obtain⟨rfl,rfl⟩:=hx
   exact wpIn_ret ⟨rfl,bO⟩
  |_=>
   simp only[gu,I.injEq]at dj
   subst dj
   simp[ye]at hx
theorem q7s (dS:qw P p){n k args v ow}(h:jy p (ye p n) k args=I (v,ow))(hb:zr 0 args=Gb):IsoCall P k args v ow:=
 (N1 dS (cg.Hs (Oi dS n).1) h hb).2.2
end
end Go.Abs
