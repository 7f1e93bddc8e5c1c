/- The growth of an empty slice in slices.Grow. -/
import Derived.Test.YtfopaakmgogpiaaGreatDoorAbsF
import Derived.Lib.AppendZeros
open Option renaming some→I,none→En,map_eq_some_iff→E4
open Bool renaming and_eq_true→E1,true→Gl,false→Gm
open Array renaming getD_eq_getD_getElem?→E2,ext'→E3,getElem?_eq_some_iff→E6
open Prod renaming mk→Gk
namespace Go.Abs
section
variable {P:Program}{C C0:ay}{ω:Nat→Option Loc}{w w0:World}{hp:j8}{env:Env}{a:Act}{ρ:Option Nat}
theorem vk {a:Act}{d:Nat}{v:Value}(h:d<a.tmps.size):(a.put (I d) v).eval (.tmp d)=v:=by
 simp[Act.eval,Act.put,E2,h]
theorem n5 {a:Act}{d j:Nat}{v:Value}(h:d≠j):(a.put (I d) v).eval (.tmp j)=a.eval (.tmp j):=by
 simp[Act.eval,Act.put,E2,Array.getElem?_setIfInBounds_ne h]
theorem qE {a:Act}{d:Nat}{v:Value}:(a.put (I d) v).tmps.size=a.tmps.size:=by simp[Act.put]
theorem ul {ops:Array Oper}{Q:Exit→Act→World→Prop}{i d:Nat}{rest:List Nat}{o:Oper}{v:Value}{w':World}(hi:ops[i]?=I o)(hg:o.guard=En)(hd:o.dst=I d)(hn:∀c,o.op≠.defer c)(bp:(execOp a.eval o).run P w=.ok (.value v) w')
  (hk:wpOpsIn (iD ρ) 0 P ops Q rest (a.put (I d) v) w'):wpOpsIn (iD ρ) 0 P ops Q (i::rest) a w:=by
 rw[wpOpsIn_cons]
 unfold wpOpIn
 rw[hi]
 simp only[]
 rw[show Region.wanted o (yielded ops a.tmps)=Gl from by simp[Region.wanted,hg]]
 simp only[if_true]
 refine⟨fun _ _=>trivial,?_⟩
 rw[Oper.semAt_eq _ _ _ hn,bp]
 rw[←hd]at hk
 exact hk
theorem MG {s d:Nat}{o:Oper}(h:C6 s d o=Gl):o.op=.move (.tmp s)∧o.dst=I d∧o.guard=En:=by
 unfold C6 at h
 split at h
 ·rename_i h1 h2 h3
  simp only[E1,beq_iff_eq]at h
  obtain⟨rfl,rfl⟩:=h
  exact⟨h1,h2,h3⟩
 ·cases h
theorem q3c {s d:Nat}{o:Oper}(h:R2 s d o=Gl):o.op=.assign (.tmp s)∧o.dst=I d∧o.guard=En:=by
 unfold R2 at h
 split at h
 ·rename_i h1 h2 h3
  simp only[E1,beq_iff_eq]at h
  obtain⟨rfl,rfl⟩:=h
  exact⟨h1,h2,h3⟩
 ·cases h
theorem jjo {x d:Nat}{o:Oper}{t:TypeId}(h:R3 x d o=I t):∃c,o.op=.call c∧c.callee=.builtin .cap∧c.args=#[.tmp x]∧c.argTypes=#[t]∧o.dst=I d∧o.guard=En:=by
 unfold R3 at h
 split at h
 ·rename_i c _ h1 h2 h3
  split at h
  ·rename_i h4 h5 h6
   split at h
   ·rename_i hk
    simp only[E1,beq_iff_eq]at hk
    obtain⟨rfl,rfl⟩:=hk
    cases h
    exact⟨c,h1,h4,by apply E3;simpa using h5,by apply E3;simpa using h6,h2,h3⟩
   ·cases h
  ·cases h
 ·cases h
theorem jht {x d:Nat}{o:Oper}{t:TypeId}(h:R4 x d o=I t):∃c,o.op=.call c∧c.callee=.builtin .len∧c.args=#[.tmp x]∧c.argTypes=#[t]∧o.dst=I d∧o.guard=En:=by
 unfold R4 at h
 split at h
 ·rename_i c _ h1 h2 h3
  split at h
  ·rename_i h4 h5 h6
   split at h
   ·rename_i hk
    simp only[E1,beq_iff_eq]at hk
    obtain⟨rfl,rfl⟩:=hk
    cases h
    exact⟨c,h1,h4,by apply E3;simpa using h5,by apply E3;simpa using h6,h2,h3⟩
   ·cases h
  ·cases h
 ·cases h
theorem q33 {x h d:Nat}{o:Oper}{t:TypeId}(hh:L5 x h d o=I t):o.op=.slice t (.tmp x) En (I (.tmp h)) En∧o.dst=I d∧o.guard=En:=by
 unfold L5 at hh
 split at hh
 ·rename_i h1 h2 h3
  split at hh
  ·rename_i hk
   simp only[E1,beq_iff_eq]at hk
   obtain⟨⟨rfl,rfl⟩,rfl⟩:=hk
   cases hh
   exact⟨h1,h2,h3⟩
  ·cases hh
 ·cases hh
theorem jgq {x y d:Nat}{o:Oper}{t u:TypeId}(h:R5 x y d o=I (t,u)):∃c,o.op=.call c∧c.callee=.builtin .append∧c.args=#[.tmp x,.tmp y]∧c.argTypes=#[t,u]∧o.dst=I d∧o.guard=En:=by
 unfold R5 at h
 split at h
 ·rename_i c _ h1 h2 h3
  split at h
  ·rename_i h4 h5 h6
   split at h
   ·rename_i hk
    simp only[E1,beq_iff_eq]at hk
    obtain⟨⟨rfl,rfl⟩,rfl⟩:=hk
    cases h
    exact⟨c,h1,h4,by apply E3;simpa using h5,by apply E3;simpa using h6,h2,h3⟩
   ·cases h
  ·cases h
 ·cases h
theorem q6y {o:Oper}{t e:TypeId}{x h:Nat}{b:Option Addr}{len cap n:Nat}(ho:o.op=.slice t (.tmp x) En (I (.tmp h)) En)(ht:P.underlying t=I (.slice e)){sz:Nat}(hn:yg P e=I sz)(hx:a.eval (.tmp x)=.slice b len cap)(hh:a.eval (.tmp h)=.int .i64 (n:Int))(hle:n≤cap):
  (execOp a.eval o).run P w=.ok (.value (.slice (if cap=0 then b else b.map (·.add 0)) n cap)) w:=by
 have hb:(0:Int)≤n∧(n:Int)≤cap:=by omega
 simp[execOp,ho,Instr.sliceAt,Instr.slice,run_underlying ht,hx,Instr.sliceBounds,hh,Instr.sliceBound,asIntOf,hle,iJ hn]
theorem jmg {id nt:Nat}{ops:Array Oper}{sz:Nat}(hg:L6 P nt ops=I sz)(m:av P C ω w0 C0 hp w)(he:aj C ω w w0.heap.size env a.tmps)(cD:a.tmps.size=nt)(wW:Marks C w0.heap.size a.defers){z k:Nat}{xs:List qa}{o1 o2:Bool}
  (h0:yd 0 env=I (.list Gl z xs,o1)) (h1:yd 1 env=I (.int .i64 (.ofNat k),o2)) (hk0:0<k) (fW:k≤1073741824):
  (Code.region id ops Gm).wpIn (iD ρ) 0 P (fun e a' w'=>e=.normal∧cX P w0 C0 C nt ⟨[(0,.list Gm sz [],Gl)],hp⟩ a' w') a w:=by
 unfold L6 at hg
 split at hg
 ·rename_i t u oS
  split at hg
  ·rename_i e kk ht hu
   split at hg
   ·rename_i i hi
    split at hg
    ·rename_i hc
     cases hg
     simp only[E1,decide_eq_true_eq,Option.isSome_iff_exists,beq_iff_eq]at hc
     obtain⟨⟨⟨⟨⟨⟨zv,hz⟩,MH⟩,TG⟩,hnt⟩,⟨zl,gJ⟩⟩,pA⟩:=hc
     have wX:yg P e=I i.size:=by simp[yg,hi]
     unfold jj8 at oS
     split at oS
     ·rename_i p0 p1 p2 p3 p4 p5 p6 p7 p8 p9 TH
      split at oS
      ·rename_i t2 t3 tt uu t7 t8 g2 g3 g5 g7 g8
       split at oS
       ·rename_i dh
        cases oS
        simp only[E1,beq_iff_eq]at dh
        obtain⟨⟨⟨⟨⟨⟨⟨⟨c0,c1⟩,c4⟩,c6⟩,c9⟩,x2⟩,x3⟩,x7⟩,x8⟩:=dh
        replace x2:=x2.symm
        replace x3:=x3.symm
        replace x7:=x7.symm
        replace x8:=x8.symm
        subst x2;subst x3;subst x7;subst x8
        have FN:ops=#[p0,p1,p2,p3,p4,p5,p6,p7,p8,p9]:=by apply E3;simpa using TH
        subst FN
        obtain⟨v0,q0,r0,_⟩:=he 0 _ h0
        obtain⟨v1,q1,r1,_⟩:=he 1 _ h1
        have fF:v0=.slice En 0 0:=by
         rcases r0.cG with⟨_,_,h⟩|⟨h,_⟩|⟨h,_⟩
         ·exact h
         ·cases h
         ·cases h
        have pB:v1=.int .i64 (k:Int):=by cases r1;rfl
        subst fF;subst pB
        have hl:26≤a.tmps.size:=by omega
        have e0:a.eval (.tmp 0)=.slice En 0 0:=by simp[Act.eval,E2,q0]
        have e1:a.eval (.tmp 1)=.int .i64 (k:Int):=by simp[Act.eval,E2,q1]
        obtain⟨a0,a0d,a0g⟩:=MG c0
        obtain⟨a1,a1d,a1g⟩:=MG c1
        obtain⟨cc2,a2,b2,b2a,b2t,a2d,a2g⟩:=jjo g2
        obtain⟨a3,a3d,a3g⟩:=q33 g3
        obtain⟨a4,a4d,a4g⟩:=MG c4
        obtain⟨cc5,a5,b5,b5a,b5t,a5d,a5g⟩:=jgq g5
        obtain⟨a6,a6d,a6g⟩:=MG c6
        obtain⟨cc7,a7,b7,b7a,b7t,a7d,a7g⟩:=jht g7
        obtain⟨a8,a8d,a8g⟩:=q33 g8
        obtain⟨a9,a9d,a9g⟩:=q3c c9
        refine wpIn_region ?_
        rw[show List.range (#[p0,p1,p2,p3,p4,p5,p6,p7,p8,p9]:Array Oper).size=[0,1,2,3,4,5,6,7,8,9]from rfl]
        refine ul (o:=p0) rfl a0g a0d (by simp[a0]) (v:=.slice En 0 0) (w':=w) (by simp[execOp,a0,e0]) ?_
        refine ul (o:=p1) rfl a1g a1d (by simp[a1]) (v:=.slice En 0 0) (w':=w) (by simp[execOp,a1,n5,e0]) ?_
        refine ul (o:=p2) rfl a2g a2d (by simp[a2]) (v:=.int .i64 0) (w':=w) ?_ ?_
        ·have:(((a.put (I 17) (.slice En 0 0)).put (I 18) (.slice En 0 0))).eval (.tmp 18)=.slice En 0 0:=vk (by rw[qE];omega)
         simp[execOp,a2,resolve,b2,b2a,b2t,invoke,builtin,Builtin.cap_,run_underlying ht,this,goInt]
        refine ul (o:=p3) rfl a3g a3d (by simp[a3]) (v:=.slice En 0 0) (w':=w) ?_ ?_
        ·have FO:((((a.put (I 17) (.slice En 0 0)).put (I 18) (.slice En 0 0))).put (I 19) (.int .i64 0)).eval (.tmp 17)=.slice En 0 0:=by
          rw[n5 (by omega),n5 (by omega),vk (by omega)]
         have TI:((((a.put (I 17) (.slice En 0 0)).put (I 18) (.slice En 0 0))).put (I 19) (.int .i64 0)).eval (.tmp 19)=.int .i64 ((0:Nat):Int):=by
          rw[vk (by rw[qE,qE];omega)];rfl
         have:=q6y (P:=P) (w:=w) (o:=p3) a3 ht wX FO TI (Nat.le_refl 0)
         simpa using this
        refine ul (o:=p4) rfl a4g a4d (by simp[a4]) (v:=.int .i64 (k:Int)) (w':=w) (by simp[execOp,a4,n5,e1]) ?_
        have qA:=Lib.run_append_nil_zeros w t u p5.type e i zv .i64 kk ht hu hi hz k hk0 MH (by omega) (by
         have:k*i.bytes≤1073741824*4096:=Nat.mul_le_mul fW TG
         omega)
        refine ul (o:=p5) rfl a5g a5d (by simp[a5]) (v:=.slice (I ⟨w.heap.size,0,En⟩) k (grownCap w k 0 e)) (w':=w.drew.alloc (.cells (Builtin.zeroCells zv.cells k++Builtin.zeroCells zv.cells (grownCap w k 0 e-k)) e)) ?_ ?_
        ·generalize hA:(((((a.put (I 17) (.slice En 0 0)).put (I 18) (.slice En 0 0)).put (I 19) (.int .i64 0)).put (I 20) (.slice En 0 0)).put (I 21) (.int .i64 (k:Int)))=A
         have FP:A.eval (.tmp 20)=.slice En 0 0:=by
          rw[←hA,n5 (by omega),vk (by simp only[qE];omega)]
         have TJ:A.eval (.tmp 21)=.int .i64 (k:Int):=by
          rw[←hA,vk (by simp only[qE];omega)]
         simp[execOp,a5,resolve,b5,b5a,b5t,invoke,builtin,FP,TJ,qA]
        generalize hW:w.drew.alloc (.cells (Builtin.zeroCells zv.cells k++Builtin.zeroCells zv.cells (grownCap w k 0 e-k)) e)=W
        generalize hA:(((((a.put (I 17) (.slice En 0 0)).put (I 18) (.slice En 0 0)).put (I 19) (.int .i64 0)).put (I 20) (.slice En 0 0)).put (I 21) (.int .i64 (k:Int)))=A
        have hA0:A.eval (.tmp 0)=.slice En 0 0:=by rw[←hA];simp only[n5 (show(21:Nat)≠0 by omega),n5 (show(20:Nat)≠0 by omega),n5 (show(19:Nat)≠0 by omega),n5 (show(18:Nat)≠0 by omega),n5 (show(17:Nat)≠0 by omega),e0]
        have hAs:A.tmps.size=a.tmps.size:=by rw[←hA];simp only[qE]
        have hAd:A.defers=a.defers:=by rw[←hA];rfl
        generalize hcp:grownCap w k 0 e=cp
        have hcap:k≤cp:=by rw[←hcp];simpa using grownCap_ge w k 0 e
        refine ul (o:=p6) rfl a6g a6d (by simp[a6]) (v:=.slice En 0 0) (w':=W) (by simp[execOp,a6,n5,hA0]) ?_
        refine ul (o:=p7) rfl a7g a7d (by simp[a7]) (v:=.int .i64 0) (w':=W) ?_ ?_
        ·generalize hB:((A.put (I 22) (.slice (I ⟨w.heap.size,0,En⟩) k cp)).put (I 23) (.slice En 0 0))=B
         have TK:B.eval (.tmp 23)=.slice En 0 0:=by
          rw[←hB,vk (by rw[qE];omega)]
         simp[execOp,a7,resolve,b7,b7a,b7t,invoke,builtin,Builtin.len_,run_underlying ht,TK,goInt]
        refine ul (o:=p8) rfl a8g a8d (by simp[a8]) (v:=.slice (I ⟨w.heap.size,0,En⟩) 0 cp) (w':=W) ?_ ?_
        ·generalize hB:(((A.put (I 22) (.slice (I ⟨w.heap.size,0,En⟩) k cp)).put (I 23) (.slice En 0 0)).put (I 24) (.int .i64 0))=B
         have FQ:B.eval (.tmp 22)=.slice (I ⟨w.heap.size,0,En⟩) k cp:=by
          rw[←hB,n5 (by omega),n5 (by omega),vk (by omega)]
         have FR:B.eval (.tmp 24)=.int .i64 ((0:Nat):Int):=by
          rw[←hB,vk (by simp only[qE];omega)];rfl
         have:=q6y (P:=P) (w:=W) (o:=p8) a8 ht wX FQ FR (Nat.zero_le cp)
         rw[if_neg (by omega)]at this
         simp only[Option.map_some,add_lit,Nat.add_zero]at this
         exact this
        refine ul (o:=p9) rfl a9g a9d (by simp[a9]) (v:=.slice (I ⟨w.heap.size,0,En⟩) 0 cp) (w':=W) ?_ ?_
        ·have TL:((((A.put (I 22) (.slice (I ⟨w.heap.size,0,En⟩) k cp)).put (I 23) (.slice En 0 0)).put (I 24) (.int .i64 0)).put (I 25) (.slice (I ⟨w.heap.size,0,En⟩) 0 cp)).eval (.tmp 25)=.slice (I ⟨w.heap.size,0,En⟩) 0 cp:=by
          rw[vk (by simp only[qE];omega)]
         simp[execOp,a9,TL]
        -- the end
        have hxd:=Ext.drew w
        obtain⟨zs,zvr,FT,cw,kY⟩:=tZ (C:=C) gJ
        have mr:zv.cells.size=i.size:=by
         have h3:zl.length=i.size:=by rw[gJ]at pA;simpa using pA
         have h4:=cw.length
         have h5:zvr=zv:=by
          have:=FT w
          simp[zeroValue,typeInfo,hi,hz]at this
          exact this.symm
         subst h5
         simp only[Array.length_toList]at h4;omega
        have gD:=Mi (d:=.slot 0) (tmps:=a.tmps) (m.ext hxd) (he.ext hxd) (Builtin.zeroCells zv.cells k++Builtin.zeroCells zv.cells (cp-k)) e [] i.size cp [] (by simpa using qp.nil) (by simp) (by simp) (by simp) (by simp) (by
         have hlen:∀n,(Builtin.zeroCells zv.cells n).size=n*i.size:=fun n=>by simp[Builtin.zeroCells,mr]
         rw[Array.size_append,hlen,hlen,←Nat.add_mul]
         exact Nat.mul_le_mul_right _ (by omega)) En
        rw[hcp]at hW
        rw[hW]at gD
        have hd0:w.drew.heap.size=w.heap.size:=rfl
        rw[hd0]at gD
        simp only[List.length_nil]at gD
        clear hW hA0 FT cw
        generalize hB:(((A.put (I 22) (.slice (I ⟨w.heap.size,0,En⟩) k cp)).put (I 23) (.slice En 0 0)).put (I 24) (.int .i64 0)).put (I 25) (.slice (I ⟨w.heap.size,0,En⟩) 0 cp)=B
        have hBs:B.tmps.size=a.tmps.size:=by rw[←hB];simp only[qE];omega
        have hBd:B.defers=a.defers:=by rw[←hB,←hAd];rfl
        obtain⟨C',ω',k1,k2,k3,k4,k5⟩:=gD
        have lx:cX P w0 C0 C nt ⟨[(0,.list Gm i.size [],Gl)],hp⟩ (B.put (I 0) (.slice (I ⟨w.heap.size,0,En⟩) 0 cp)) W:=by
         refine⟨by rw[qE];omega,C',ω',k1,?_,k2,?_⟩
         ·rw[show(B.put (I 0) (.slice (I ⟨w.heap.size,0,En⟩) 0 cp)).defers=B.defers from rfl,hBd]
          exact wW.mono k1
         ·intro s x hx
          simp only[yd]at hx
          cases hb:Nat.beq 0 s with
          |false=>simp[hb]at hx
          |true=>
           have:=Nat.eq_of_beq_eq_true hb
           subst this
           simp only[hb,cT,I.injEq]at hx
           subst hx
           exact⟨_,by simp only[Act.put];rw[Array.getElem?_setIfInBounds_self_of_lt (by omega)],k4,k5⟩
        simp only[wpOpsIn]
        exact⟨trivial,lx⟩
       ·cases oS
      ·cases oS
     ·cases oS
    ·cases hg
   ·cases hg
  ·cases hg
 ·cases hg
end
def fj (ρ:Option Nat)(P:Program)(c:Code)(Q:Exit→Act→World→Prop)(a:Act)(w:World):Prop:=
 ∀(b:Frame) (k:List Item) (cs:List Frame),b.roundOf=(iD ρ).round→(iD ρ).fn b.fn→(iD ρ).room (cs.length+1+0) →
  ∃e a' w',Q e a' w'∧ArrivesIn (Machine.fenced P (iD ρ)) P (lone (b.atR a (.code c::.inLoop c::k)) cs w) b k cs e a' w'
theorem fj.wpIn {ρ:Option Nat}{P:Program}{c:Code}{Q:Exit→Act→World→Prop}{a:Act}{w:World}(h:fj ρ P c Q a w):(Code.loop c).wpIn (iD ρ) 0 P Q a w:=by
 intro b k cs wY hb hr
 obtain⟨e,a',w',hq,ey⟩:=h b k cs wY hb hr
 exact⟨e,a',w',hq,.of_steps (.one (fenced_calm hb hr rfl) stepR_loop) ey⟩
theorem fj.vm {ρ:Option Nat}{P:Program}{c:Code}{Q:Exit→Act→World→Prop}{a:Act}{w:World}(h:c.wpIn (iD ρ) 0 P (Exit.then (fj ρ P c Q) Q) a w):fj ρ P c Q a w:=by
 intro b k cs wY hb hr
 obtain⟨e,a₁,w₁,hq,ey⟩:=h b (.inLoop c::k) cs wY hb hr
 cases e with
 |normal=>
  obtain⟨e₂,a₂,w₂,FU,vn⟩:=hq b k cs wY hb hr
  exact⟨e₂,a₂,w₂,FU,.of_steps (StepsIn.trans ey (.one (fenced_calm hb hr rfl) stepR_inLoop)) vn⟩
 |exit id=>exact⟨_,a₁,w₁,hq,.pass (x:=.inLoop c) rfl (fun _ _=>.inl (by simp)) ey⟩
 |goto l=>exact⟨_,a₁,w₁,hq,.pass (x:=.inLoop c) rfl (fun _ _=>.inl (by simp)) ey⟩
 |ret=>exact⟨_,a₁,w₁,hq,.pass (x:=.inLoop c) rfl (fun _ _=>.inl (by simp)) ey⟩
 |panic ch=>exact⟨_,a₁,w₁,hq,.pass (x:=.inLoop c) rfl (fun _ _=>.inl (by simp)) ey⟩
 |outgrown=>exact⟨_,a₁,w₁,hq,.pass (x:=.inLoop c) rfl (fun _ _=>.inl (by simp)) ey⟩
section
variable {P:Program}{p:qt}{xc:XC}
def MI (P:Program)(w0:World)(C0 C:ay)(nt:Nat)(x:qo)(bJ:qg):Exit→Act→World→Prop:=fun e a' w'=>e=zH x∧cX P w0 C0 C nt bJ a' w'
def q6l (P:Program)(xc:XC):Prop:=
 ∀(ρ:Option Nat) (nt:Nat) (c:Code) (ca:qf) (st bJ:qg) (x:qo),EG P nt c ca→(ρ≠En→kn ca=Gl)→xc ca st=I (x,bJ) →
  ∀(C:ay) (w0:World) (C0:ay) (a:Act) (w:World),cX P w0 C0 C nt st a w→c.wpIn (iD ρ) 0 P (MI P w0 C0 C nt x bJ) a w
theorem b9.FV (h:q6l P xc):b9 P xc:=
 fun ρ nt c ca st bJ x hc hn hx C ω w0 C0 a w m he cD jR=>wpIn_mono (h ρ nt c ca st bJ x hc hn hx C w0 C0 a w ⟨cD,C,ω,ay.le_refl C,jR,m,he⟩) fun _ _ _ hq=>hq
def jbn (P:Program)(xc:XC):Prop:=
 ∀(ρ:Option Nat) (nt:Nat) (c:Code) (ca:qf) (st bJ:qg) (x:qo),EG P nt c ca→(ρ≠En→kn ca=Gl)→xc (.loop ca) st=I (x,bJ) →
  ∀(C:ay) (w0:World) (C0:ay) (a:Act) (w:World),cX P w0 C0 C nt st a w→fj ρ P c (MI P w0 C0 C nt x bJ) a w
theorem cX.gc {w0:World}{C0 C:ay}{nt n:Nat}{st:qg}{a:Act}{w:World}(h:cX P w0 C0 C nt st a w)(hC:∀b r,C.β b=I r→b<n)(TM:∀b r,C0.β b=I r→b<n):cX P w0 C0 C nt (Abs.gc n st) a w:=by
 unfold Abs.gc
 cases hb:Nat.ble st.heap.length n with
 |true=>exact h
 |false=>
  simp only[cond_false]
  cases lm:(l6 n st.env&&kh n (st.heap.take n))with
  |false=>exact h
  |true=>
   simp only[cT]
   simp only[E1]at lm
   obtain⟨h1,C',ω',h3,h2,h4,h5⟩:=h
   have hn:n≤st.heap.length:=by
    rcases Nat.lt_or_ge n st.heap.length with h|h
    ·omega
    ·rw[Nat.ble_eq_true_of_le h]at hb;cases hb
   exact⟨h1,C'.cut n,ω',ay.ie h3 hC,⟨h2.choose,h2.choose_spec.1,h2.choose_spec.2.1,h2.choose_spec.2.2⟩,h4.gc hn lm.2 TM,h5.cut lm.1⟩
theorem MJ {K:Act→World→Prop}{w0:World}{C0 C:ay}{nt:Nat}{x:qo}{bJ:qg}{Q:Exit→Act→World→Prop}{e:Exit}{a:Act}{w:World}(h:MI P w0 C0 C nt x bJ e a w)(hn:x=.normal→cX P w0 C0 C nt bJ a w→K a w)(ho:x≠.normal→cX P w0 C0 C nt bJ a w→Q (zH x) a w):Exit.then K Q e a w:=by
 obtain⟨rfl,h⟩:=h
 cases x with
 |normal=>exact hn rfl h
 |exit id=>exact ho (by simp) h
 |ret=>exact ho (by simp) h
theorem q5d {b:Frame}{a:Act}{k:List Item}{cs:List Frame}{w:World}{c:Code}:step P (lone (b.atR a (.code (.scope c)::k)) cs w)=.next (lone (b.atR a (.code c::.inScope c::k)) cs w):=
 step_lone_go (by simp[stepG,stepG.exec,Frame.atR])
theorem q01 {b:Frame}{a:Act}{k:List Item}{cs:List Frame}{w:World}{c:Code}:step P (lone (b.atR a (.inScope c::k)) cs w)=.next (lone (b.atR a k) cs w):=
 step_lone_go (by simp[stepG,stepG.exec,Frame.atR])
theorem qp2 {F:Fence}{n:Nat}{c:Code}{Q:Exit→Act→World→Prop}{a:Act}{w:World}(h:c.wpIn F n P (Exit.noGoto Q) a w):(Code.scope c).wpIn F n P Q a w:=by
 intro b k cs wY hb hr
 obtain⟨e,a₁,w₁,hq,ey⟩:=h b (.inScope c::k) cs wY hb hr
 have h1:StepsIn (Machine.fenced P F) P (lone (b.atR a (.code (.scope c)::k)) cs w) (lone (b.atR a (.code c::.inScope c::k)) cs w):=.one (fenced_calm hb hr rfl) q5d
 cases e with
 |normal=>exact⟨.normal,a₁,w₁,hq,StepsIn.trans h1 (StepsIn.trans ey (.one (fenced_calm hb hr rfl) q01))⟩
 |goto l=>exact hq.elim
 |exit id=>
  refine⟨.exit id,a₁,w₁,hq,.of_steps h1 ?_⟩
  refine⟨fun k' hk=>ey.1 k' (by simp[exitTo,hk]),fun TN ig=>?_⟩
  exact ey.2 TN (by simp[exitTo,ig])
 |ret=>exact⟨_,a₁,w₁,hq,.of_steps h1 ey⟩
 |panic ch=>exact⟨_,a₁,w₁,hq,.of_steps h1 ey⟩
 |outgrown=>exact⟨_,a₁,w₁,hq,.of_steps h1 ey⟩
theorem av.TP {C C0:ay}{ω:Nat→Option Loc}{w0 w:World}{hp:j8}(m:av P C ω w0 C0 hp w):av P { C with D:=fun r=>C.D r∨r=w.heap.size } ω w0 C0 hp (w.alloc (.deferred (I []))):=by
 have hx:Ext w (w.alloc (.deferred (I []))):=Ext.alloc w _ (fun c t fr h=>by cases h)
 have m':=m.ext hx
 exact { m' with
  eK:=fun r hr=>by
   rcases hr with hr|hr
   ·exact m'.eK r hr
   ·subst hr;rw[u0,if_pos rfl]
  grown:=⟨m.grown.k,m.grown.b,m.grown.w,fun r h=>.inl (m.grown.d r h),m.grown.t⟩
  box:=fun b x r fg hb=>bn.imp (C:=C) (C':={ C with D:=fun r=>C.D r∨r=w.heap.size }) ⟨fun _ _ _ h=>h,fun _ _ h=>h⟩ rfl (fun _ _ _ ho=>ho) (m'.box b x r fg hb) }
theorem jil (ec:qx P p)(hx:b9 P xc){f:Operand}{ps:Array Tmp}{x1 x2:Code}{f':qh}{a1 a2:qf}{h:qb}{nt:Nat}{st bJ:qg}{x:qo}{C:ay}{w0:World}{C0:ay}{a:Act}{w:World}
  (hf:zr f=I f') (h1:gw P h nt x1=I a1) (h2:gw P h nt x2=I a2) (b8:∀t∈ps.toList,t<nt) (hs:l9 p xc f' ps.toList a1 a2 st=I (x,bJ)) (bS:cX P w0 C0 C nt st a w):
  (Code.rangeFunc f ps x1 x2).wpIn (iD En) 0 P (MI P w0 C0 C nt x bJ) a w:=by
 obtain⟨cD,Ca,ω,hle,wW,m,he⟩:=bS
 unfold l9 at hs
 cases MK:(kn a1&&kn a2)with
 |false=>simp[MK]at hs
 |true=>
  simp only[MK,cT]at hs
  simp only[E1]at MK
  split at hs
  ·rename_i k first captured gB
   have wR:=zu he.bT hf gB
   generalize Fs:a.eval f=fv at wR
   cases wR with
   |fn g g' _ _ as bs hg ha hb=>
    simp only[eS]at hg
    subst hg
    split at hs
    ·rename_i _r1 _r2 h' Fp
     split at hs
     ·rename_i l' hl'
      cases iK:kh st.heap.length (h'.take st.heap.length)with
      |false=>simp[iK]at hs
      |true=>
       simp only[iK,cT]at hs
       ·obtain⟨ln,mG⟩:=Fo ec hx Fp
        -- the loop's record,and the block before it
        refine wpIn_rangeFunc fun fn _=>?_
        generalize hlp:({ state:=.ready,pending:=En,fn:=fn,tmps:=a.tmps,params:=ps,assign:=x1,body:=x2,defers:=w.heap.size }:Loop)=lp
        have mD:=(m.TP).holes 1
        have eD:aj { Ca with D:=fun r=>Ca.D r∨r=w.heap.size } ω (w.alloc (.deferred (I []))) w0.heap.size st.env a.tmps:=fun s y hy=>
         let ⟨v,k1,k2,k3⟩:=he.ext (Ext.alloc w _ (fun c t fr h=>by cases h)) s y hy
         ⟨v,k1,bD.pR k2,k3⟩
        have FW:(st.heap++List.replicate 1 .hole)[st.heap.length]?=I .hole:=by simp
        have FX:(w.alloc (.deferred (I []))).heap.size=w.heap.size+1:=by rw[World.size_alloc]
        obtain⟨mB,eB,mI⟩:=mD.aJ eD FW (.loop lp) (fun c t fr h=>by cases h) (.loop ⟨st.env,ps.toList,a1,a2,En⟩) (by
         intro C' ω' w' cz Mx
         subst hlp
         exact⟨_,Mx,{ assign:=⟨h,by rw[cD];exact h1⟩,body:=⟨h,by rw[cD];exact h2⟩,params:=rfl,fits:=fun t ht=>by rw[cD];exact b8 t ht,nr:=MK,env:=fun s y hy=>let ⟨v,k1,k2,_⟩:=eD s y hy; ⟨v,k1,qp.mono cz k2⟩,state:=rfl,pending:=rfl }⟩)
        have bm:(st.heap++List.replicate 1 qn.hole).set st.heap.length (.loop ⟨st.env,ps.toList,a1,a2,En⟩)=st.heap++[.loop ⟨st.env,ps.toList,a1,a2,En⟩]:=by
         simp
        rw[bm]at mB
        rw[FX]at mB eB mI
        generalize hCB:ay.box { Ca with D:=fun r=>Ca.D r∨r=w.heap.size } st.heap.length (w.heap.size+1)=CB at mB eB mI
        generalize hwB:(w.alloc (.deferred (I []))).alloc (.loop lp)=wB at mB eB
        have FY:CB.β st.heap.length=I (w.heap.size+1):=by rw[←hCB];simp[ay.box]
        have hDB:∀r,Ca.D r∨r=w.heap.size→CB.D r:=fun r hr=>by rw[←hCB];exact hr
        have hKB:∀ {i:jh},qp Ca i→qp CB i:=fun hr=>qp.mono mI (qp.imp (C:=Ca) (C':={ Ca with D:=fun r=>Ca.D r∨r=w.heap.size }) ⟨fun _ _ _ h=>h,fun _ _ h=>h⟩ hr)
        have FZ:Ca.le CB:=⟨mI.k,mI.b,mI.w,fun r hr=>hDB r (.inl hr),mI.t⟩
        have dM:aM (CB.shared ω w0) (first++[.fn (.yield st.heap.length) [] []]++captured) (as++[Value.func (.yield (w.heap.size+1)) ⟨[]⟩ ⟨[]⟩]++bs):=by
         refine qp.imp (C:=CB) (C':=CB.shared ω w0) ⟨fun _ _ _ h=>h,fun _ _ h=>h⟩ ?_
         exact aM.append (aM.append (hKB ha) (.cons _ _ _ _ (.fn _ _ _ _ _ _ ⟨_,FY,rfl⟩ .nil .nil) .nil)) (hKB hb)
        refine⟨w.heap.size+1,[{ target:=.collected w.heap.size,args:=#[] }],wB,{ target:=.fn (.func k) ⟨bs⟩,args:=⟨as⟩++#[Value.func (.yield (w.heap.size+1)) #[] #[]] },wB,k,⟨as++[Value.func (.yield (w.heap.size+1)) ⟨[]⟩ ⟨[]⟩]++bs⟩,wB,?_,?_,fun _ _=>trivial,?_,fun hd=>by simp[iD,Fence.wide]at hd,?_⟩
        ·subst hlp
         rw[←hwB]
         simp[Instr.enterLoop,iD,Fence.wide,FX]
        ·have hc:a.eval (.const (Value.func (.yield (w.heap.size+1)) #[] #[]))=Value.func (.yield (w.heap.size+1)) #[] #[]:=rfl
         simp[resolve,Fs,Deferred.ofValue,hc]
        ·have hq:(⟨as⟩:Array Value)++#[Value.func (.yield (w.heap.size+1)) #[] #[]]++(⟨bs⟩:Array Value)=⟨as++[Value.func (.yield (w.heap.size+1)) ⟨[]⟩ ⟨[]⟩]++bs⟩:=by
          apply E3;simp
         simp only[invoke,hq]
         exact qsk ln _ _
        ·refine qvs.2 (CallsIn.mono (mG _ _ _ _ dM (S9 mB)) ?_)
         rintro ee w' ⟨u,C1,ω1,rfl,q1,q2,_,_⟩
         obtain⟨m2,e2⟩:=quc mB eB q2 q1
         have zV:CB.le (C1.back CB):=My q1
         have pW:(C1.back CB).β st.heap.length=I (w.heap.size+1):=zV.b _ _ FY
         obtain⟨lq,pX,uj⟩:=MA m2 hl' pW
         have hlen:st.heap.length<h'.length:=(m2.lt _ _ pW).2
         have TM:∀b r,C0.β b=I r→b<st.heap.length:=fun b r hb=>(m.lt b r (m.grown.b b r hb)).2
         have m3:=m2.gc (Nat.le_of_lt hlen) iK TM
         have zN:(Instr.getLoop (w.heap.size+1)).run P w'=.ok lq w':=by simp[Instr.getLoop,oN pX (by simp)]
         have qD:=(E6.1 pX).1
         have hu:jk w' (jB w' (w.heap.size+1) (.loop { lq with state:=.exhausted })) (w.heap.size+1):=Dc qD (by simp)
         have kJ:∀cs t fr,w'.heap[w.heap.size+1]?≠I (.cells cs t fr):=fun cs t fr hh=>by rw[pX]at hh;cases hh
         have TQ:∀b,((C1.back CB).cut st.heap.length).β b≠I (w.heap.size+1):=fun b hb=>by
          simp only[ay.cut]at hb
          split at hb
          ·rename_i aX
           have:=m2.inj b st.heap.length _ hb pW
           omega
          ·cases hb
         have cM:lq.state≠.busy→(Instr.endLoop (w.heap.size+1)).run P w'=.ok lq.pending (jB w' (w.heap.size+1) (.loop { lq with state:=.exhausted })):=fun Dg=>by
          have eT:(lq.state == .busy)=Gm:=by
           cases bS:lq.state<;>first|rfl|exact absurd bS Dg
          have hs2:=wL (P:=P) (x:=.loop { lq with state:=.exhausted }) pX (by simp)
          simp only[Instr.endLoop,Sem.run_bind,zN,Result.andThen_ok,eT,Bool.false_eq_true,if_false,Sem.run_ite,hs2,Sem.run_pure]
         have m4:=m3.other (D':=((C1.back CB).cut st.heap.length).D) hu TQ (Nat.le_trans m.size (by omega)) kJ (fun kk hk=>⟨hk,fun gM=>by
          have:=m3.eK kk hk
          rw[gM,pX]at this;cases this⟩) m3.grown.d
         have zW:Ca.le ((C1.back CB).cut st.heap.length):=ay.ie (ay.le_trans FZ zV) (fun b r hb=>(m.lt b r hb).2)
         have e4:aj ((C1.back CB).cut st.heap.length) (mH ω ω1 wB.heap.size) (jB w' (w.heap.size+1) (.loop { lq with state:=.exhausted })) w0.heap.size st.env a.tmps:=by
          intro s y hy
          obtain⟨v,k1,k2,k3⟩:=he s y hy
          obtain⟨v',j1,j2,j3⟩:=e2 s y hy
          rw[k1]at j1
          cases j1
          exact⟨v,k1,qp.mono zW k2,fun hh=>(((j3 hh).cut _).jQ (D':=((C1.back CB).cut st.heap.length).D) hu kJ)⟩
         have lx:∀(xx:qo),cX P w0 C0 C nt { st with heap:=h'.take st.heap.length } { a with defers:=[{ target:=.collected w.heap.size,args:=#[] }]++a.defers } (jB w' (w.heap.size+1) (.loop { lq with state:=.exhausted })):=by
          intro _
          refine⟨cD,_,_,ay.le_trans hle zW,?_,m4,e4⟩
          obtain⟨rs,g1,g2,g3⟩:=wW
          refine⟨w.heap.size::rs,by rw[g1];rfl,List.nodup_cons.2 ⟨fun hm=>?_,g2⟩,?_⟩
          ·have:=(E6.1 (m.eK _ (g3 _ hm).1)).1;omega
          ·intro r hr
           rcases List.mem_cons.1 hr with rfl|hr
           ·exact⟨zV.d _ (hDB _ (.inr rfl)),m.size⟩
           ·exact⟨zW.d _ (g3 r hr).1,(g3 r hr).2⟩
         simp only[rangePost]
         split at hs
         ·rename_i vo
          cases hs
          refine⟨En,_,?_,rfl,lx .normal⟩
          rw[cM (by rw[uj.state,vo];simp),uj.pending,vo]
         ·cases hs
         ·rename_i xx SC vo
          cases hs
          cases x with
          |normal=>exact absurd rfl SC
          |ret=>
           refine⟨I .ret,_,?_,wpIn_ret ⟨rfl,lx .ret⟩⟩
           rw[cM (by rw[uj.state,vo];simp),uj.pending,vo]
          |exit id=>
           refine⟨I (.exit id),_,?_,wpIn_exit ⟨rfl,lx .ret⟩⟩
           rw[cM (by rw[uj.state,vo];simp),uj.pending,vo]
     ·cases hs
    ·cases hs
  ·cases hs
theorem ML (ec:qx P p):∀n,q6l P (ye p n)∧jbn P (ye p n)
 |0=>⟨fun ρ nt c ca st bJ x _ _ hx=>by simp[ye]at hx,fun ρ nt c ca st bJ x _ _ hx=>by simp[ye]at hx⟩
 |n+1=>by
  obtain⟨ih,ihl⟩:=ML ec n
  have loop:jbn P (ye p (n+1)):=by
   intro ρ nt c ca st bJ x hc hn hx C w0 C0 a w bS
   obtain⟨cD,C',ω',hle,jR,m,he⟩:=bS
   have hC':∀b r,C'.β b=I r→b<st.heap.length:=fun b r hb=>(m.lt b r hb).2
   refine fj.vm ?_
   simp only[ye]at hx
   split at hx
   ·rename_i gO h1
    refine wpIn_mono (ih ρ nt c ca st gO .normal hc hn h1 C' w0 C0 a w ⟨cD,C',ω',ay.le_refl _,jR,m,he⟩) ?_
    intro e a' w' hq
    refine MJ hq (fun _ dX=>?_) (fun h=>absurd rfl h)
    have h2:=dX.gc hC' (fun b r hb=>hC' b r (m.grown.2 b r hb))
    have h3:=ihl ρ nt c ca _ bJ x hc hn hx C' w0 C0 a' w' h2
    intro b k cs wY hb hr
    obtain⟨e,a',w',hq,ey⟩:=h3 b k cs wY hb hr
    obtain⟨q1,q2,C2,ω2,q4,q5⟩:=hq
    exact⟨e,a',w',⟨q1,q2,C2,ω2,ay.le_trans hle q4,q5⟩,ey⟩
   ·rename_i bw
    refine wpIn_mono (ih ρ nt c ca st bJ x hc hn hx C w0 C0 a w ⟨cD,C',ω',hle,jR,m,he⟩) ?_
    intro e a' w' hq
    refine MJ hq (fun Dr dX=>?_) (fun Dr dX=>⟨rfl,dX⟩)
    subst Dr
    exact absurd hx (bw bJ)
  refine⟨?_,loop⟩
  intro ρ nt c ca st bJ x hc hn hx C w0 C0 a w bS
  obtain⟨h,dh⟩:=hc
  cases c with
  |skip=>
   simp only[gw,I.injEq]at dh
   subst dh
   simp only[ye,I.injEq,Gk.injEq]at hx
   obtain⟨rfl,rfl⟩:=hx
   exact wpIn_skip ⟨rfl,bS⟩
  |label l=>
   simp only[gw,I.injEq]at dh
   subst dh
   simp only[ye,I.injEq,Gk.injEq]at hx
   obtain⟨rfl,rfl⟩:=hx
   exact wpIn_label ⟨rfl,bS⟩
  |region id ops draw=>
   simp only[gw]at dh
   have dh:(draw=Gm∧∃sz,L6 P nt ops=I sz∧ca=.grow sz)∨EE P h nt id ops draw=I ca:=by
    split at dh
    ·rename_i sz TR;cases dh;exact .inl ⟨rfl,sz,TR,rfl⟩
    ·exact .inr dh
   rcases dh with⟨rfl,sz,TR,rfl⟩|dh
   ·simp only[ye]at hx
    split at hx
    ·rename_i z xs o1 k o2 e0 e1
     cases gM:(Nat.blt 0 k&&Nat.ble k 1073741824)with
     |false=>simp[gM]at hx
     |true=>
      simp only[gM,cT,I.injEq,Gk.injEq]at hx
      obtain⟨rfl,rfl⟩:=hx
      simp only[E1]at gM
      obtain⟨cD,C',ω',hle,jR,m,he⟩:=bS
      refine wpIn_mono (jmg TR m he cD jR e0 e1 (Nat.blt_eq.mp gM.1) (Nat.le_of_ble_eq_true gM.2)) ?_
      rintro e a' w' ⟨rfl,q1,C2,ω2,q4,q5⟩
      exact⟨rfl,q1,C2,ω2,ay.le_trans hle q4,q5⟩
    ·cases hx
   have F0:∃na l keep,ca=.region na l keep:=by
    unfold EE at dh
    split at dh
    ·split at dh
     ·simp only[I.injEq]at dh;exact⟨_,_,_,dh.symm⟩
     ·cases dh
    ·cases dh
   obtain⟨na,l,keep,dG⟩:=F0
   subst dG
   simp only[ye]at hx
   obtain⟨cD,C',ω',hle,jR,m,he⟩:=bS
   refine wpIn_mono (jc5 ec (b9.FV ih) dh rfl hx m he cD jR) ?_
   rintro e a' w' ⟨q1,q2,C2,ω2,q4,q5⟩
   exact⟨q1,q2,C2,ω2,ay.le_trans hle q4,q5⟩
  |seq c1 c2=>
   simp only[gw]at dh
   split at dh
   ·rename_i x1 x2 h1 h2
    cases dh
    have Ds:ρ≠En→kn x1=Gl∧kn x2=Gl:=fun hh=>by simpa[kn]using hn hh
    simp only[ye]at hx
    refine wpIn_seq ?_
    split at hx
    ·rename_i gO wQ
     refine wpIn_mono (ih ρ nt c1 x1 st gO .normal ⟨h,h1⟩ (fun hh=>(Ds hh).1) wQ C w0 C0 a w bS) ?_
     intro e a' w' hq
     exact MJ hq (fun _ dX=>ih ρ nt c2 x2 gO bJ x ⟨h,h2⟩ (fun hh=>(Ds hh).2) hx C w0 C0 a' w' dX) (fun hh=>absurd rfl hh)
    ·rename_i bw
     refine wpIn_mono (ih ρ nt c1 x1 st bJ x ⟨h,h1⟩ (fun hh=>(Ds hh).1) hx C w0 C0 a w bS) ?_
     intro e a' w' hq
     refine MJ hq (fun Dr dX=>?_) (fun Dr dX=>⟨rfl,dX⟩)
     subst Dr
     exact absurd hx (bw bJ)
   ·cases dh
  |cond c c1 c2=>
   simp only[gw]at dh
   split at dh
   ·rename_i c' x1 x2 h0 h1 h2
    cases dh
    have Ds:ρ≠En→kn x1=Gl∧kn x2=Gl:=fun hh=>by simpa[kn]using hn hh
    simp only[ye]at hx
    split at hx
    ·rename_i t ht
     have gN:=bS
     obtain⟨cD,C',ω',hle,jR,m,he⟩:=bS
     have gB:=(zu he.bT h0 ht).cS
     refine wpIn_cond gB ?_
     cases t with
     |true=>simp only[cT]at hx;exact ih ρ nt c1 x1 st bJ x ⟨h,h1⟩ (fun hh=>(Ds hh).1) hx C w0 C0 a w gN
     |false=>simp only[cond_false]at hx;exact ih ρ nt c2 x2 st bJ x ⟨h,h2⟩ (fun hh=>(Ds hh).2) hx C w0 C0 a w gN
    ·cases hx
   ·cases dh
  |block id b=>
   simp only[gw]at dh
   obtain⟨b',hb,rfl⟩:=E4.1 dh
   simp only[ye]at hx
   refine wpIn_block ?_
   split at hx
   ·rename_i fp gO wQ
    refine wpIn_mono (ih ρ nt b b' st gO (.exit fp) ⟨h,hb⟩ (fun hh=>by simpa[kn]using hn hh) wQ C w0 C0 a w bS) ?_
    rintro e a' w' ⟨rfl,dX⟩
    cases hid:Nat.beq fp id with
    |true=>
     simp only[hid,cT,I.injEq,Gk.injEq]at hx
     obtain⟨rfl,rfl⟩:=hx
     have:=Nat.eq_of_beq_eq_true hid
     subst this
     simp only[zH,Exit.inBlock,if_true]
     exact⟨rfl,dX⟩
    |false=>
     simp only[hid,cond_false,I.injEq,Gk.injEq]at hx
     obtain⟨rfl,rfl⟩:=hx
     have bw:¬fp=id:=fun hh=>by subst hh;simp at hid
     simp only[zH,Exit.inBlock,bw,if_false]
     exact⟨rfl,dX⟩
   ·rename_i bw
    refine wpIn_mono (ih ρ nt b b' st bJ x ⟨h,hb⟩ (fun hh=>by simpa[kn]using hn hh) hx C w0 C0 a w bS) ?_
    rintro e a' w' ⟨rfl,dX⟩
    cases x with
    |normal=>exact⟨rfl,dX⟩
    |ret=>exact⟨rfl,dX⟩
    |exit fp=>exact absurd hx (bw fp bJ)
  |loop b=>
   simp only[gw]at dh
   obtain⟨b',hb,rfl⟩:=E4.1 dh
   exact(loop ρ nt b b' st bJ x ⟨h,hb⟩ (fun hh=>by simpa[kn]using hn hh) hx C w0 C0 a w bS).wpIn
  |scope b=>
   simp only[gw]at dh
   obtain⟨b',hb,rfl⟩:=E4.1 dh
   have fg:ye p n b' st=I (x,bJ):=by
    simp only[ye]at hx
    split at hx
    ·rename_i gO wQ
     cases n with
     |zero=>simp[ye]at wQ
     |succ n=>simp only[ye]at hx;rw[wQ];exact hx
    ·exact hx
   refine qp2 (wpIn_mono (ih ρ nt b b' st bJ x ⟨h,hb⟩ (fun hh=>by simpa[kn]using hn hh) fg C w0 C0 a w bS) ?_)
   rintro e a' w' ⟨rfl,dX⟩
   cases x with
   |normal=>exact⟨rfl,dX⟩
   |exit id=>exact⟨rfl,dX⟩
   |ret=>exact⟨rfl,dX⟩
  |rangeFunc f ps x1 x2=>
   simp only[gw]at dh
   split at dh
   ·split at dh
    ·rename_i b8
     cases dh
     simp only[ye]at hx
     cases ρ with
     |some l=>exact absurd (hn (by simp)) (by simp[kn])
     |none=>exact jil ec (b9.FV ih) (by assumption) (by assumption) (by assumption) (fun t ht=>by simpa using(Array.all_eq_true'.1 b8) t (by simpa using ht)) hx bS
    ·cases dh
   ·cases dh
  |exit id=>
   simp only[gw,I.injEq]at dh
   subst dh
   simp only[ye,I.injEq,Gk.injEq]at hx
   obtain⟨rfl,rfl⟩:=hx
   exact wpIn_exit ⟨rfl,bS⟩
  |ret=>
   simp only[gw,I.injEq]at dh
   subst dh
   simp only[ye,I.injEq,Gk.injEq]at hx
   obtain⟨rfl,rfl⟩:=hx
   exact wpIn_ret ⟨rfl,bS⟩
  |_=>
   simp only[gw,I.injEq]at dh
   subst dh
   simp[ye]at hx
theorem q6s (ec:qx P p){n k:Nat}{args:List qa}{v:qa}{ow:Bool}(h:jz p (ye p n) k args=I (v,ow))(hb:zw 0 args=Gl):IsoCall P k args v ow:=
 (Mv ec (b9.FV (ML ec n).1) h hb).2.2
end
end Go.Abs
