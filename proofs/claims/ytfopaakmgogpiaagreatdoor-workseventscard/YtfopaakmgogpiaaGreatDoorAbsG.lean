/- The growth of an empty slice in slices.Grow. -/
import Derived.Test.YtfopaakmgogpiaaGreatDoorAbsF
import Derived.Lib.AppendZeros
set_option linter.unusedVariables false
set_option linter.unusedSimpArgs false
open Option renaming some→I,none→Ef,map_eq_some_iff→E3
open Bool renaming and_eq_true→En,true→E7,false→E9
open Array renaming getD_eq_getD_getElem?→E0,ext'→E1,getElem?_eq_some_iff→E4
open Prod renaming mk→E6
namespace Go.Abs
section
variable {P:Program}{C C0:ay}{ω:Nat→Option Loc}{w w0:World}{hp:j8}{env:Env}{a:Act}{ρ:Option Nat}
theorem vw {a:Act}{d:Nat}{v:Value}(h:d<a.tmps.size):(a.put (I d) v).eval (.tmp d)=v:=by
 simp[Act.eval,Act.put,E0,h]
theorem oj {a:Act}{d j:Nat}{v:Value}(h:d≠j):(a.put (I d) v).eval (.tmp j)=a.eval (.tmp j):=by
 simp[Act.eval,Act.put,E0,Array.getElem?_setIfInBounds_ne h]
theorem qL {a:Act}{d:Nat}{v:Value}:(a.put (I d) v).tmps.size=a.tmps.size:=by simp[Act.put]
theorem uw {ops:Array Oper}{Q:Exit→Act→World→Prop}{i d:Nat}{rest:List Nat}{o:Oper}{v:Value}{w':World}(hi:ops[i]?=I o)(hg:o.guard=Ef)(hd:o.dst=I d)(hn:∀c,o.op≠.defer c)(bm:(execOp a.eval o).run P w=.ok (.value v) w')
  (hk:wpOpsIn (iE ρ) 0 P ops Q rest (a.put (I d) v) w'):wpOpsIn (iE ρ) 0 P ops Q (i::rest) a w:=by
 rw[wpOpsIn_cons]
 unfold wpOpIn
 rw[hi]
 simp only[]
 rw[show Region.wanted o (yielded ops a.tmps)=E7 from by simp[Region.wanted,hg]]
 simp only[if_true]
 refine⟨fun _ _=>trivial,?_⟩
 rw[Oper.semAt_eq _ _ _ hn,bm]
 rw[←hd]at hk
 exact hk
theorem MD {s d:Nat}{o:Oper}(h:Dk s d o=E7):o.op=.move (.tmp s)∧o.dst=I d∧o.guard=Ef:=by
 unfold Dk at h
 split at h
 ·rename_i h1 h2 h3
  simp only[En,beq_iff_eq]at h
  obtain⟨rfl,rfl⟩:=h
  exact⟨h1,h2,h3⟩
 ·cases h
theorem q3j {s d:Nat}{o:Oper}(h:R1 s d o=E7):o.op=.assign (.tmp s)∧o.dst=I d∧o.guard=Ef:=by
 unfold R1 at h
 split at h
 ·rename_i h1 h2 h3
  simp only[En,beq_iff_eq]at h
  obtain⟨rfl,rfl⟩:=h
  exact⟨h1,h2,h3⟩
 ·cases h
theorem jg3 {x d:Nat}{o:Oper}{t:TypeId}(h:R2 x d o=I t):∃c,o.op=.call c∧c.callee=.builtin .cap∧c.args=#[.tmp x]∧c.argTypes=#[t]∧o.dst=I d∧o.guard=Ef:=by
 unfold R2 at h
 split at h
 ·rename_i c _ h1 h2 h3
  split at h
  ·rename_i h4 h5 h6
   split at h
   ·rename_i hk
    simp only[En,beq_iff_eq]at hk
    obtain⟨rfl,rfl⟩:=hk
    cases h
    exact⟨c,h1,h4,by apply E1;simpa using h5,by apply E1;simpa using h6,h2,h3⟩
   ·cases h
  ·cases h
 ·cases h
theorem jhz {x d:Nat}{o:Oper}{t:TypeId}(h:R3 x d o=I t):∃c,o.op=.call c∧c.callee=.builtin .len∧c.args=#[.tmp x]∧c.argTypes=#[t]∧o.dst=I d∧o.guard=Ef:=by
 unfold R3 at h
 split at h
 ·rename_i c _ h1 h2 h3
  split at h
  ·rename_i h4 h5 h6
   split at h
   ·rename_i hk
    simp only[En,beq_iff_eq]at hk
    obtain⟨rfl,rfl⟩:=hk
    cases h
    exact⟨c,h1,h4,by apply E1;simpa using h5,by apply E1;simpa using h6,h2,h3⟩
   ·cases h
  ·cases h
 ·cases h
theorem q3k {x h d:Nat}{o:Oper}{t:TypeId}(hh:L2 x h d o=I t):o.op=.slice t (.tmp x) Ef (I (.tmp h)) Ef∧o.dst=I d∧o.guard=Ef:=by
 unfold L2 at hh
 split at hh
 ·rename_i h1 h2 h3
  split at hh
  ·rename_i hk
   simp only[En,beq_iff_eq]at hk
   obtain⟨⟨rfl,rfl⟩,rfl⟩:=hk
   cases hh
   exact⟨h1,h2,h3⟩
  ·cases hh
 ·cases hh
theorem jhe {x y d:Nat}{o:Oper}{t u:TypeId}(h:R4 x y d o=I (t,u)):∃c,o.op=.call c∧c.callee=.builtin .append∧c.args=#[.tmp x,.tmp y]∧c.argTypes=#[t,u]∧o.dst=I d∧o.guard=Ef:=by
 unfold R4 at h
 split at h
 ·rename_i c _ h1 h2 h3
  split at h
  ·rename_i h4 h5 h6
   split at h
   ·rename_i hk
    simp only[En,beq_iff_eq]at hk
    obtain⟨⟨rfl,rfl⟩,rfl⟩:=hk
    cases h
    exact⟨c,h1,h4,by apply E1;simpa using h5,by apply E1;simpa using h6,h2,h3⟩
   ·cases h
  ·cases h
 ·cases h
theorem q6o {o:Oper}{t e:TypeId}{x h:Nat}{b:Option Addr}{len cap n:Nat}(ho:o.op=.slice t (.tmp x) Ef (I (.tmp h)) Ef)(ht:P.underlying t=I (.slice e)){sz:Nat}(hn:yg P e=I sz)(hx:a.eval (.tmp x)=.slice b len cap)(hh:a.eval (.tmp h)=.int .i64 (n:Int))(hle:n≤cap):
  (execOp a.eval o).run P w=.ok (.value (.slice (if cap=0 then b else b.map (·.add 0)) n cap)) w:=by
 have hb:(0:Int)≤n∧(n:Int)≤cap:=by omega
 simp[execOp,ho,Instr.sliceAt,Instr.slice,run_underlying ht,hx,Instr.sliceBounds,hh,Instr.sliceBound,asIntOf,hle,iL hn]
theorem jlr {id nt:Nat}{ops:Array Oper}{sz:Nat}(hg:L3 P nt ops=I sz)(m:av P C ω w0 C0 hp w)(he:aj C ω w w0.heap.size env a.tmps)(cD:a.tmps.size=nt)(xj:Marks C w0.heap.size a.defers){z k:Nat}{xs:List qa}{o1 o2:Bool}
  (h0:yd 0 env=I (.list E7 z xs,o1)) (h1:yd 1 env=I (.int .i64 (.ofNat k),o2)) (hk0:0<k) (fY:k≤1073741824):
  (Code.region id ops E9).wpIn (iE ρ) 0 P (fun e a' w'=>e=.normal∧da P w0 C0 C nt ⟨[(0,.list E9 sz [],E7)],hp⟩ a' w') a w:=by
 unfold L3 at hg
 split at hg
 ·rename_i t u pi
  split at hg
  ·rename_i e kk ht hu
   split at hg
   ·rename_i i hi
    split at hg
    ·rename_i hc
     cases hg
     simp only[En,decide_eq_true_eq,Option.isSome_iff_exists,beq_iff_eq]at hc
     obtain⟨⟨⟨⟨⟨⟨zv,hz⟩,ME⟩,TF⟩,hnt⟩,⟨zl,gM⟩⟩,pJ⟩:=hc
     have xk:yg P e=I i.size:=by simp[yg,hi]
     unfold jkm at pi
     split at pi
     ·rename_i p0 p1 p2 p3 p4 p5 p6 p7 p8 p9 TG
      split at pi
      ·rename_i t2 t3 tt uu t7 t8 g2 g3 g5 g7 g8
       split at pi
       ·rename_i dk
        cases pi
        simp only[En,beq_iff_eq]at dk
        obtain⟨⟨⟨⟨⟨⟨⟨⟨c0,c1⟩,c4⟩,c6⟩,c9⟩,x2⟩,x3⟩,x7⟩,x8⟩:=dk
        replace x2:=x2.symm
        replace x3:=x3.symm
        replace x7:=x7.symm
        replace x8:=x8.symm
        subst x2;subst x3;subst x7;subst x8
        have F3:ops=#[p0,p1,p2,p3,p4,p5,p6,p7,p8,p9]:=by apply E1;simpa using TG
        subst F3
        obtain⟨v0,q0,r0,_⟩:=he 0 _ h0
        obtain⟨v1,q1,r1,_⟩:=he 1 _ h1
        have iO:v0=.slice Ef 0 0:=by
         rcases r0.cG with⟨_,_,h⟩|⟨h,_⟩|⟨h,_⟩
         ·exact h
         ·cases h
         ·cases h
        have iK:v1=.int .i64 (k:Int):=by cases r1;rfl
        subst iO;subst iK
        have hl:26≤a.tmps.size:=by omega
        have e0:a.eval (.tmp 0)=.slice Ef 0 0:=by simp[Act.eval,E0,q0]
        have e1:a.eval (.tmp 1)=.int .i64 (k:Int):=by simp[Act.eval,E0,q1]
        obtain⟨a0,a0d,a0g⟩:=MD c0
        obtain⟨a1,a1d,a1g⟩:=MD c1
        obtain⟨cc2,a2,b2,b2a,b2t,a2d,a2g⟩:=jg3 g2
        obtain⟨a3,a3d,a3g⟩:=q3k g3
        obtain⟨a4,a4d,a4g⟩:=MD c4
        obtain⟨cc5,a5,b5,b5a,b5t,a5d,a5g⟩:=jhe g5
        obtain⟨a6,a6d,a6g⟩:=MD c6
        obtain⟨cc7,a7,b7,b7a,b7t,a7d,a7g⟩:=jhz g7
        obtain⟨a8,a8d,a8g⟩:=q3k g8
        obtain⟨a9,a9d,a9g⟩:=q3j c9
        refine wpIn_region ?_
        rw[show List.range (#[p0,p1,p2,p3,p4,p5,p6,p7,p8,p9]:Array Oper).size=[0,1,2,3,4,5,6,7,8,9]from rfl]
        refine uw (o:=p0) rfl a0g a0d (by simp[a0]) (v:=.slice Ef 0 0) (w':=w) (by simp[execOp,a0,e0]) ?_
        refine uw (o:=p1) rfl a1g a1d (by simp[a1]) (v:=.slice Ef 0 0) (w':=w) (by simp[execOp,a1,oj,e0]) ?_
        refine uw (o:=p2) rfl a2g a2d (by simp[a2]) (v:=.int .i64 0) (w':=w) ?_ ?_
        ·have:(((a.put (I 17) (.slice Ef 0 0)).put (I 18) (.slice Ef 0 0))).eval (.tmp 18)=.slice Ef 0 0:=vw (by rw[qL];omega)
         simp[execOp,a2,resolve,b2,b2a,b2t,invoke,builtin,Builtin.cap_,run_underlying ht,this,goInt]
        refine uw (o:=p3) rfl a3g a3d (by simp[a3]) (v:=.slice Ef 0 0) (w':=w) ?_ ?_
        ·have TH:((((a.put (I 17) (.slice Ef 0 0)).put (I 18) (.slice Ef 0 0))).put (I 19) (.int .i64 0)).eval (.tmp 17)=.slice Ef 0 0:=by
          rw[oj (by omega),oj (by omega),vw (by omega)]
         have TI:((((a.put (I 17) (.slice Ef 0 0)).put (I 18) (.slice Ef 0 0))).put (I 19) (.int .i64 0)).eval (.tmp 19)=.int .i64 ((0:Nat):Int):=by
          rw[vw (by rw[qL,qL];omega)];rfl
         have:=q6o (P:=P) (w:=w) (o:=p3) a3 ht xk TH TI (Nat.le_refl 0)
         simpa using this
        refine uw (o:=p4) rfl a4g a4d (by simp[a4]) (v:=.int .i64 (k:Int)) (w':=w) (by simp[execOp,a4,oj,e1]) ?_
        have qH:=Lib.run_append_nil_zeros w t u p5.type e i zv .i64 kk ht hu hi hz k hk0 ME (by omega) (by
         have:k*i.bytes≤1073741824*4096:=Nat.mul_le_mul fY TF
         omega)
        refine uw (o:=p5) rfl a5g a5d (by simp[a5]) (v:=.slice (I ⟨w.heap.size,0,Ef⟩) k (grownCap w k 0 e)) (w':=w.drew.alloc (.cells (Builtin.zeroCells zv.cells k++Builtin.zeroCells zv.cells (grownCap w k 0 e-k)) e)) ?_ ?_
        ·generalize hA:(((((a.put (I 17) (.slice Ef 0 0)).put (I 18) (.slice Ef 0 0)).put (I 19) (.int .i64 0)).put (I 20) (.slice Ef 0 0)).put (I 21) (.int .i64 (k:Int)))=A
         have F4:A.eval (.tmp 20)=.slice Ef 0 0:=by
          rw[←hA,oj (by omega),vw (by simp only[qL];omega)]
         have TJ:A.eval (.tmp 21)=.int .i64 (k:Int):=by
          rw[←hA,vw (by simp only[qL];omega)]
         simp[execOp,a5,resolve,b5,b5a,b5t,invoke,builtin,F4,TJ,qH]
        generalize hW:w.drew.alloc (.cells (Builtin.zeroCells zv.cells k++Builtin.zeroCells zv.cells (grownCap w k 0 e-k)) e)=W
        generalize hA:(((((a.put (I 17) (.slice Ef 0 0)).put (I 18) (.slice Ef 0 0)).put (I 19) (.int .i64 0)).put (I 20) (.slice Ef 0 0)).put (I 21) (.int .i64 (k:Int)))=A
        have hA0:A.eval (.tmp 0)=.slice Ef 0 0:=by rw[←hA];simp only[oj (show(21:Nat)≠0 by omega),oj (show(20:Nat)≠0 by omega),oj (show(19:Nat)≠0 by omega),oj (show(18:Nat)≠0 by omega),oj (show(17:Nat)≠0 by omega),e0]
        have hAs:A.tmps.size=a.tmps.size:=by rw[←hA];simp only[qL]
        have hAd:A.defers=a.defers:=by rw[←hA];rfl
        generalize hcp:grownCap w k 0 e=cp
        have hcap:k≤cp:=by rw[←hcp];simpa using grownCap_ge w k 0 e
        refine uw (o:=p6) rfl a6g a6d (by simp[a6]) (v:=.slice Ef 0 0) (w':=W) (by simp[execOp,a6,oj,hA0]) ?_
        refine uw (o:=p7) rfl a7g a7d (by simp[a7]) (v:=.int .i64 0) (w':=W) ?_ ?_
        ·generalize hB:((A.put (I 22) (.slice (I ⟨w.heap.size,0,Ef⟩) k cp)).put (I 23) (.slice Ef 0 0))=B
         have TK:B.eval (.tmp 23)=.slice Ef 0 0:=by
          rw[←hB,vw (by rw[qL];omega)]
         simp[execOp,a7,resolve,b7,b7a,b7t,invoke,builtin,Builtin.len_,run_underlying ht,TK,goInt]
        refine uw (o:=p8) rfl a8g a8d (by simp[a8]) (v:=.slice (I ⟨w.heap.size,0,Ef⟩) 0 cp) (w':=W) ?_ ?_
        ·generalize hB:(((A.put (I 22) (.slice (I ⟨w.heap.size,0,Ef⟩) k cp)).put (I 23) (.slice Ef 0 0)).put (I 24) (.int .i64 0))=B
         have F5:B.eval (.tmp 22)=.slice (I ⟨w.heap.size,0,Ef⟩) k cp:=by
          rw[←hB,oj (by omega),oj (by omega),vw (by omega)]
         have F6:B.eval (.tmp 24)=.int .i64 ((0:Nat):Int):=by
          rw[←hB,vw (by simp only[qL];omega)];rfl
         have:=q6o (P:=P) (w:=W) (o:=p8) a8 ht xk F5 F6 (Nat.zero_le cp)
         rw[if_neg (by omega)]at this
         simp only[Option.map_some,add_lit,Nat.add_zero]at this
         exact this
        refine uw (o:=p9) rfl a9g a9d (by simp[a9]) (v:=.slice (I ⟨w.heap.size,0,Ef⟩) 0 cp) (w':=W) ?_ ?_
        ·have TL:((((A.put (I 22) (.slice (I ⟨w.heap.size,0,Ef⟩) k cp)).put (I 23) (.slice Ef 0 0)).put (I 24) (.int .i64 0)).put (I 25) (.slice (I ⟨w.heap.size,0,Ef⟩) 0 cp)).eval (.tmp 25)=.slice (I ⟨w.heap.size,0,Ef⟩) 0 cp:=by
          rw[vw (by simp only[qL];omega)]
         simp[execOp,a9,TL]
        -- the end
        have hxd:=Ext.drew w
        obtain⟨zs,zvr,F7,cw,lj⟩:=uf (C:=C) gM
        have mG:zv.cells.size=i.size:=by
         have h3:zl.length=i.size:=by rw[gM]at pJ;simpa using pJ
         have h4:=cw.length
         have h5:zvr=zv:=by
          have:=F7 w
          simp[zeroValue,typeInfo,hi,hz]at this
          exact this.symm
         subst h5
         simp only[Array.length_toList]at h4;omega
        have gC:=Mf (d:=.slot 0) (tmps:=a.tmps) (m.ext hxd) (he.ext hxd) (Builtin.zeroCells zv.cells k++Builtin.zeroCells zv.cells (cp-k)) e [] i.size cp [] (by simpa using qp.nil) (by simp) (by simp) (by simp) (by simp) (by
         have hlen:∀n,(Builtin.zeroCells zv.cells n).size=n*i.size:=fun n=>by simp[Builtin.zeroCells,mG]
         rw[Array.size_append,hlen,hlen,←Nat.add_mul]
         exact Nat.mul_le_mul_right _ (by omega)) Ef
        rw[hcp]at hW
        rw[hW]at gC
        have hd0:w.drew.heap.size=w.heap.size:=rfl
        rw[hd0]at gC
        simp only[List.length_nil]at gC
        clear hW hA0 F7 cw
        generalize hB:(((A.put (I 22) (.slice (I ⟨w.heap.size,0,Ef⟩) k cp)).put (I 23) (.slice Ef 0 0)).put (I 24) (.int .i64 0)).put (I 25) (.slice (I ⟨w.heap.size,0,Ef⟩) 0 cp)=B
        have hBs:B.tmps.size=a.tmps.size:=by rw[←hB];simp only[qL];omega
        have hBd:B.defers=a.defers:=by rw[←hB,←hAd];rfl
        obtain⟨C',ω',k1,k2,k3,k4,k5⟩:=gC
        have lE:da P w0 C0 C nt ⟨[(0,.list E9 i.size [],E7)],hp⟩ (B.put (I 0) (.slice (I ⟨w.heap.size,0,Ef⟩) 0 cp)) W:=by
         refine⟨by rw[qL];omega,C',ω',k1,?_,k2,?_⟩
         ·rw[show(B.put (I 0) (.slice (I ⟨w.heap.size,0,Ef⟩) 0 cp)).defers=B.defers from rfl,hBd]
          exact xj.mono k1
         ·intro s x hx
          simp only[yd]at hx
          cases hb:Nat.beq 0 s with
          |false=>simp[hb]at hx
          |true=>
           have:=Nat.eq_of_beq_eq_true hb
           subst this
           simp only[hb,cT,I.injEq]at hx
           subst hx
           exact⟨_,by simp only[Act.put];rw[Array.getElem?_setIfInBounds_self_of_lt (by omega)],k4,k5⟩
        simp only[wpOpsIn]
        exact⟨trivial,lE⟩
       ·cases pi
      ·cases pi
     ·cases pi
    ·cases hg
   ·cases hg
  ·cases hg
 ·cases hg
end
def fj (ρ:Option Nat)(P:Program)(c:Code)(Q:Exit→Act→World→Prop)(a:Act)(w:World):Prop:=
 ∀(b:Frame) (k:List Item) (cs:List Frame),b.roundOf=(iE ρ).round→(iE ρ).fn b.fn→(iE ρ).room (cs.length+1+0) →
  ∃e a' w',Q e a' w'∧ArrivesIn (Machine.fenced P (iE ρ)) P (lone (b.atR a (.code c::.inLoop c::k)) cs w) b k cs e a' w'
theorem fj.wpIn {ρ:Option Nat}{P:Program}{c:Code}{Q:Exit→Act→World→Prop}{a:Act}{w:World}(h:fj ρ P c Q a w):(Code.loop c).wpIn (iE ρ) 0 P Q a w:=by
 intro b k cs xl hb hr
 obtain⟨e,a',w',hq,eF⟩:=h b k cs xl hb hr
 exact⟨e,a',w',hq,.of_steps (.one (fenced_calm hb hr rfl) stepR_loop) eF⟩
theorem fj.vz {ρ:Option Nat}{P:Program}{c:Code}{Q:Exit→Act→World→Prop}{a:Act}{w:World}(h:c.wpIn (iE ρ) 0 P (Exit.then (fj ρ P c Q) Q) a w):fj ρ P c Q a w:=by
 intro b k cs xl hb hr
 obtain⟨e,a₁,w₁,hq,eF⟩:=h b (.inLoop c::k) cs xl hb hr
 cases e with
 |normal=>
  obtain⟨e₂,a₂,w₂,F8,vA⟩:=hq b k cs xl hb hr
  exact⟨e₂,a₂,w₂,F8,.of_steps (StepsIn.trans eF (.one (fenced_calm hb hr rfl) stepR_inLoop)) vA⟩
 |exit id=>exact⟨_,a₁,w₁,hq,.pass (x:=.inLoop c) rfl (fun _ _=>.inl (by simp)) eF⟩
 |goto l=>exact⟨_,a₁,w₁,hq,.pass (x:=.inLoop c) rfl (fun _ _=>.inl (by simp)) eF⟩
 |ret=>exact⟨_,a₁,w₁,hq,.pass (x:=.inLoop c) rfl (fun _ _=>.inl (by simp)) eF⟩
 |panic ch=>exact⟨_,a₁,w₁,hq,.pass (x:=.inLoop c) rfl (fun _ _=>.inl (by simp)) eF⟩
 |outgrown=>exact⟨_,a₁,w₁,hq,.pass (x:=.inLoop c) rfl (fun _ _=>.inl (by simp)) eF⟩
section
variable {P:Program}{p:qt}{xc:XC}
def MF (P:Program)(w0:World)(C0 C:ay)(nt:Nat)(x:qo)(bL:qg):Exit→Act→World→Prop:=fun e a' w'=>e=zV x∧da P w0 C0 C nt bL a' w'
def q6p (P:Program)(xc:XC):Prop:=
 ∀(ρ:Option Nat) (nt:Nat) (c:Code) (ca:qe) (st bL:qg) (x:qo),EV P nt c ca→(ρ≠Ef→km ca=E7)→xc ca st=I (x,bL) →
  ∀(C:ay) (w0:World) (C0:ay) (a:Act) (w:World),da P w0 C0 C nt st a w→c.wpIn (iE ρ) 0 P (MF P w0 C0 C nt x bL) a w
theorem cg.F9 (h:q6p P xc):cg P xc:=
 fun ρ nt c ca st bL x hc hn hx C ω w0 C0 a w m he cD jZ=>wpIn_mono (h ρ nt c ca st bL x hc hn hx C w0 C0 a w ⟨cD,C,ω,ay.le_refl C,jZ,m,he⟩) fun _ _ _ hq=>hq
def jci (P:Program)(xc:XC):Prop:=
 ∀(ρ:Option Nat) (nt:Nat) (c:Code) (ca:qe) (st bL:qg) (x:qo),EV P nt c ca→(ρ≠Ef→km ca=E7)→xc (.loop ca) st=I (x,bL) →
  ∀(C:ay) (w0:World) (C0:ay) (a:Act) (w:World),da P w0 C0 C nt st a w→fj ρ P c (MF P w0 C0 C nt x bL) a w
theorem da.gc {w0:World}{C0 C:ay}{nt n:Nat}{st:qg}{a:Act}{w:World}(h:da P w0 C0 C nt st a w)(hC:∀b r,C.β b=I r→b<n)(TM:∀b r,C0.β b=I r→b<n):da P w0 C0 C nt (Abs.gc n st) a w:=by
 unfold Abs.gc
 cases hb:Nat.ble st.heap.length n with
 |true=>exact h
 |false=>
  simp only[cond_false]
  cases lz:(mc n st.env&&kh n (st.heap.take n))with
  |false=>exact h
  |true=>
   simp only[cT]
   simp only[En]at lz
   obtain⟨h1,C',ω',h3,h2,h4,h5⟩:=h
   have hn:n≤st.heap.length:=by
    rcases Nat.lt_or_ge n st.heap.length with h|h
    ·omega
    ·rw[Nat.ble_eq_true_of_le h]at hb;cases hb
   exact⟨h1,C'.cut n,ω',ay.ie h3 hC,⟨h2.choose,h2.choose_spec.1,h2.choose_spec.2.1,h2.choose_spec.2.2⟩,h4.gc hn lz.2 TM,h5.cut lz.1⟩
theorem MG {K:Act→World→Prop}{w0:World}{C0 C:ay}{nt:Nat}{x:qo}{bL:qg}{Q:Exit→Act→World→Prop}{e:Exit}{a:Act}{w:World}(h:MF P w0 C0 C nt x bL e a w)(hn:x=.normal→da P w0 C0 C nt bL a w→K a w)(ho:x≠.normal→da P w0 C0 C nt bL a w→Q (zV x) a w):Exit.then K Q e a w:=by
 obtain⟨rfl,h⟩:=h
 cases x with
 |normal=>exact hn rfl h
 |exit id=>exact ho (by simp) h
 |ret=>exact ho (by simp) h
theorem q59 {b:Frame}{a:Act}{k:List Item}{cs:List Frame}{w:World}{c:Code}:step P (lone (b.atR a (.code (.scope c)::k)) cs w)=.next (lone (b.atR a (.code c::.inScope c::k)) cs w):=
 step_lone_go (by simp[stepG,stepG.exec,Frame.atR])
theorem q03 {b:Frame}{a:Act}{k:List Item}{cs:List Frame}{w:World}{c:Code}:step P (lone (b.atR a (.inScope c::k)) cs w)=.next (lone (b.atR a k) cs w):=
 step_lone_go (by simp[stepG,stepG.exec,Frame.atR])
theorem qp7 {F:Fence}{n:Nat}{c:Code}{Q:Exit→Act→World→Prop}{a:Act}{w:World}(h:c.wpIn F n P (Exit.noGoto Q) a w):(Code.scope c).wpIn F n P Q a w:=by
 intro b k cs xl hb hr
 obtain⟨e,a₁,w₁,hq,eF⟩:=h b (.inScope c::k) cs xl hb hr
 have h1:StepsIn (Machine.fenced P F) P (lone (b.atR a (.code (.scope c)::k)) cs w) (lone (b.atR a (.code c::.inScope c::k)) cs w):=.one (fenced_calm hb hr rfl) q59
 cases e with
 |normal=>exact⟨.normal,a₁,w₁,hq,StepsIn.trans h1 (StepsIn.trans eF (.one (fenced_calm hb hr rfl) q03))⟩
 |goto l=>exact hq.elim
 |exit id=>
  refine⟨.exit id,a₁,w₁,hq,.of_steps h1 ?_⟩
  refine⟨fun k' hk=>eF.1 k' (by simp[exitTo,hk]),fun TN ig=>?_⟩
  exact eF.2 TN (by simp[exitTo,ig])
 |ret=>exact⟨_,a₁,w₁,hq,.of_steps h1 eF⟩
 |panic ch=>exact⟨_,a₁,w₁,hq,.of_steps h1 eF⟩
 |outgrown=>exact⟨_,a₁,w₁,hq,.of_steps h1 eF⟩
theorem av.TP {C C0:ay}{ω:Nat→Option Loc}{w0 w:World}{hp:j8}(m:av P C ω w0 C0 hp w):av P { C with D:=fun r=>C.D r∨r=w.heap.size } ω w0 C0 hp (w.alloc (.deferred (I []))):=by
 have hx:Ext w (w.alloc (.deferred (I []))):=Ext.alloc w _ (fun c t fr h=>by cases h)
 have m':=m.ext hx
 exact { m' with
  eN:=fun r hr=>by
   rcases hr with hr|hr
   ·exact m'.eN r hr
   ·subst hr;rw[vk,if_pos rfl]
  grown:=⟨m.grown.k,m.grown.b,m.grown.w,fun r h=>.inl (m.grown.d r h),m.grown.t⟩
  box:=fun b x r fh hb=>br.imp (C:=C) (C':={ C with D:=fun r=>C.D r∨r=w.heap.size }) ⟨fun _ _ _ h=>h,fun _ _ h=>h⟩ rfl (fun _ _ _ ho=>ho) (m'.box b x r fh hb) }
theorem jix (eh:qx P p)(hx:cg P xc){f:Operand}{ps:Array Tmp}{x1 x2:Code}{f':qh}{a1 a2:qe}{h:qb}{nt:Nat}{st bL:qg}{x:qo}{C:ay}{w0:World}{C0:ay}{a:Act}{w:World}
  (hf:zq f=I f') (h1:gw P h nt x1=I a1) (h2:gw P h nt x2=I a2) (cf:∀t∈ps.toList,t<nt) (hs:mr p xc f' ps.toList a1 a2 st=I (x,bL)) (bU:da P w0 C0 C nt st a w):
  (Code.rangeFunc f ps x1 x2).wpIn (iE Ef) 0 P (MF P w0 C0 C nt x bL) a w:=by
 obtain⟨cD,Ca,ω,hle,xj,m,he⟩:=bU
 unfold mr at hs
 cases MH:(km a1&&km a2)with
 |false=>simp[MH]at hs
 |true=>
  simp only[MH,cT]at hs
  simp only[En]at MH
  split at hs
  ·rename_i k first captured eg
   have uv:=zt he.bV hf eg
   generalize FH:a.eval f=fv at uv
   cases uv with
   |fn g g' _ _ as bs hg ha hb=>
    simp only[eU]at hg
    subst hg
    split at hs
    ·rename_i _r1 _r2 h' FF
     split at hs
     ·rename_i l' hl'
      cases iM:kh st.heap.length (h'.take st.heap.length)with
      |false=>simp[iM]at hs
      |true=>
       simp only[iM,cT]at hs
       ·obtain⟨lA,mL⟩:=FE eh hx FF
        -- the loop's record,and the block before it
        refine wpIn_rangeFunc fun fn _=>?_
        generalize hlp:({ state:=.ready,pending:=Ef,fn:=fn,tmps:=a.tmps,params:=ps,assign:=x1,body:=x2,defers:=w.heap.size }:Loop)=lp
        have mD:=(m.TP).holes 1
        have eD:aj { Ca with D:=fun r=>Ca.D r∨r=w.heap.size } ω (w.alloc (.deferred (I []))) w0.heap.size st.env a.tmps:=fun s y hy=>
         let ⟨v,k1,k2,k3⟩:=he.ext (Ext.alloc w _ (fun c t fr h=>by cases h)) s y hy
         ⟨v,k1,bF.pY k2,k3⟩
        have Ga:(st.heap++List.replicate 1 .hole)[st.heap.length]?=I .hole:=by simp
        have Gb:(w.alloc (.deferred (I []))).heap.size=w.heap.size+1:=by rw[World.size_alloc]
        obtain⟨mB,eB,mN⟩:=mD.aJ eD Ga (.loop lp) (fun c t fr h=>by cases h) (.loop ⟨st.env,ps.toList,a1,a2,Ef⟩) (by
         intro C' ω' w' cz Mu
         subst hlp
         exact⟨_,Mu,{ assign:=⟨h,by rw[cD];exact h1⟩,body:=⟨h,by rw[cD];exact h2⟩,params:=rfl,fits:=fun t ht=>by rw[cD];exact cf t ht,nr:=MH,env:=fun s y hy=>let ⟨v,k1,k2,_⟩:=eD s y hy; ⟨v,k1,qp.mono cz k2⟩,state:=rfl,pending:=rfl }⟩)
        have bq:(st.heap++List.replicate 1 qn.hole).set st.heap.length (.loop ⟨st.env,ps.toList,a1,a2,Ef⟩)=st.heap++[.loop ⟨st.env,ps.toList,a1,a2,Ef⟩]:=by
         simp
        rw[bq]at mB
        rw[Gb]at mB eB mN
        generalize hCB:ay.box { Ca with D:=fun r=>Ca.D r∨r=w.heap.size } st.heap.length (w.heap.size+1)=CB at mB eB mN
        generalize hwB:(w.alloc (.deferred (I []))).alloc (.loop lp)=wB at mB eB
        have Gc:CB.β st.heap.length=I (w.heap.size+1):=by rw[←hCB];simp[ay.box]
        have hDB:∀r,Ca.D r∨r=w.heap.size→CB.D r:=fun r hr=>by rw[←hCB];exact hr
        have hKB:∀ {i:jh},qp Ca i→qp CB i:=fun hr=>qp.mono mN (qp.imp (C:=Ca) (C':={ Ca with D:=fun r=>Ca.D r∨r=w.heap.size }) ⟨fun _ _ _ h=>h,fun _ _ h=>h⟩ hr)
        have Gd:Ca.le CB:=⟨mN.k,mN.b,mN.w,fun r hr=>hDB r (.inl hr),mN.t⟩
        have dQ:aM (CB.shared ω w0) (first++[.fn (.yield st.heap.length) [] []]++captured) (as++[Value.func (.yield (w.heap.size+1)) ⟨[]⟩ ⟨[]⟩]++bs):=by
         refine qp.imp (C:=CB) (C':=CB.shared ω w0) ⟨fun _ _ _ h=>h,fun _ _ h=>h⟩ ?_
         exact aM.append (aM.append (hKB ha) (.cons _ _ _ _ (.fn _ _ _ _ _ _ ⟨_,Gc,rfl⟩ .nil .nil) .nil)) (hKB hb)
        refine⟨w.heap.size+1,[{ target:=.collected w.heap.size,args:=#[] }],wB,{ target:=.fn (.func k) ⟨bs⟩,args:=⟨as⟩++#[Value.func (.yield (w.heap.size+1)) #[] #[]] },wB,k,⟨as++[Value.func (.yield (w.heap.size+1)) ⟨[]⟩ ⟨[]⟩]++bs⟩,wB,?_,?_,fun _ _=>trivial,?_,fun hd=>by simp[iE,Fence.wide]at hd,?_⟩
        ·subst hlp
         rw[←hwB]
         simp[Instr.enterLoop,iE,Fence.wide,Gb]
        ·have hc:a.eval (.const (Value.func (.yield (w.heap.size+1)) #[] #[]))=Value.func (.yield (w.heap.size+1)) #[] #[]:=rfl
         simp[resolve,FH,Deferred.ofValue,hc]
        ·have hq:(⟨as⟩:Array Value)++#[Value.func (.yield (w.heap.size+1)) #[] #[]]++(⟨bs⟩:Array Value)=⟨as++[Value.func (.yield (w.heap.size+1)) ⟨[]⟩ ⟨[]⟩]++bs⟩:=by
          apply E1;simp
         simp only[invoke,hq]
         exact qrz lA _ _
        ·refine qxq.2 (CallsIn.mono (mL _ _ _ _ dQ (S8 mB)) ?_)
         rintro ee w' ⟨u,C1,ω1,rfl,q1,q2,_,_⟩
         obtain⟨m2,e2⟩:=qt1 mB eB q2 q1
         have Aj:CB.le (C1.back CB):=Mv q1
         have qD:(C1.back CB).β st.heap.length=I (w.heap.size+1):=Aj.b _ _ Gc
         obtain⟨lB,qE,uq⟩:=Mx m2 hl' qD
         have hlen:st.heap.length<h'.length:=(m2.lt _ _ qD).2
         have TM:∀b r,C0.β b=I r→b<st.heap.length:=fun b r hb=>(m.lt b r (m.grown.b b r hb)).2
         have m3:=m2.gc (Nat.le_of_lt hlen) iM TM
         have Ab:(Instr.getLoop (w.heap.size+1)).run P w'=.ok lB w':=by simp[Instr.getLoop,oY qE (by simp)]
         have qK:=(E4.1 qE).1
         have hu:jk w' (jI w' (w.heap.size+1) (.loop { lB with state:=.exhausted })) (w.heap.size+1):=Dr qK (by simp)
         have kQ:∀cs t fr,w'.heap[w.heap.size+1]?≠I (.cells cs t fr):=fun cs t fr hh=>by rw[qE]at hh;cases hh
         have TQ:∀b,((C1.back CB).cut st.heap.length).β b≠I (w.heap.size+1):=fun b hb=>by
          simp only[ay.cut]at hb
          split at hb
          ·rename_i aY
           have:=m2.inj b st.heap.length _ hb qD
           omega
          ·cases hb
         have cN:lB.state≠.busy→(Instr.endLoop (w.heap.size+1)).run P w'=.ok lB.pending (jI w' (w.heap.size+1) (.loop { lB with state:=.exhausted })):=fun Dv=>by
          have eV:(lB.state == .busy)=E9:=by
           cases bU:lB.state<;>first|rfl|exact absurd bU Dv
          have hs2:=wZ (P:=P) (x:=.loop { lB with state:=.exhausted }) qE (by simp)
          simp only[Instr.endLoop,Sem.run_bind,Ab,Result.andThen_ok,eV,Bool.false_eq_true,if_false,Sem.run_ite,hs2,Sem.run_pure]
         have m4:=m3.other (D':=((C1.back CB).cut st.heap.length).D) hu TQ (Nat.le_trans m.size (by omega)) kQ (fun kk hk=>⟨hk,fun gP=>by
          have:=m3.eN kk hk
          rw[gP,qE]at this;cases this⟩) m3.grown.d
         have Ak:Ca.le ((C1.back CB).cut st.heap.length):=ay.ie (ay.le_trans Gd Aj) (fun b r hb=>(m.lt b r hb).2)
         have e4:aj ((C1.back CB).cut st.heap.length) (mM ω ω1 wB.heap.size) (jI w' (w.heap.size+1) (.loop { lB with state:=.exhausted })) w0.heap.size st.env a.tmps:=by
          intro s y hy
          obtain⟨v,k1,k2,k3⟩:=he s y hy
          obtain⟨v',j1,j2,j3⟩:=e2 s y hy
          rw[k1]at j1
          cases j1
          exact⟨v,k1,qp.mono Ak k2,fun hh=>(((j3 hh).cut _).jY (D':=((C1.back CB).cut st.heap.length).D) hu kQ)⟩
         have lE:∀(xx:qo),da P w0 C0 C nt { st with heap:=h'.take st.heap.length } { a with defers:=[{ target:=.collected w.heap.size,args:=#[] }]++a.defers } (jI w' (w.heap.size+1) (.loop { lB with state:=.exhausted })):=by
          intro _
          refine⟨cD,_,_,ay.le_trans hle Ak,?_,m4,e4⟩
          obtain⟨rs,g1,g2,g3⟩:=xj
          refine⟨w.heap.size::rs,by rw[g1];rfl,List.nodup_cons.2 ⟨fun hm=>?_,g2⟩,?_⟩
          ·have:=(E4.1 (m.eN _ (g3 _ hm).1)).1;omega
          ·intro r hr
           rcases List.mem_cons.1 hr with rfl|hr
           ·exact⟨Aj.d _ (hDB _ (.inr rfl)),m.size⟩
           ·exact⟨Ak.d _ (g3 r hr).1,(g3 r hr).2⟩
         simp only[rangePost]
         split at hs
         ·rename_i vB
          cases hs
          refine⟨Ef,_,?_,rfl,lE .normal⟩
          rw[cN (by rw[uq.state,vB];simp),uq.pending,vB]
         ·cases hs
         ·rename_i xx SA vB
          cases hs
          cases x with
          |normal=>exact absurd rfl SA
          |ret=>
           refine⟨I .ret,_,?_,wpIn_ret ⟨rfl,lE .ret⟩⟩
           rw[cN (by rw[uq.state,vB];simp),uq.pending,vB]
          |exit id=>
           refine⟨I (.exit id),_,?_,wpIn_exit ⟨rfl,lE .ret⟩⟩
           rw[cN (by rw[uq.state,vB];simp),uq.pending,vB]
     ·cases hs
    ·cases hs
  ·cases hs
theorem MI (eh:qx P p):∀n,q6p P (ye p n)∧jci P (ye p n)
 |0=>⟨fun ρ nt c ca st bL x _ _ hx=>by simp[ye]at hx,fun ρ nt c ca st bL x _ _ hx=>by simp[ye]at hx⟩
 |n+1=>by
  obtain⟨ih,ihl⟩:=MI eh n
  have loop:jci P (ye p (n+1)):=by
   intro ρ nt c ca st bL x hc hn hx C w0 C0 a w bU
   obtain⟨cD,C',ω',hle,jZ,m,he⟩:=bU
   have hC':∀b r,C'.β b=I r→b<st.heap.length:=fun b r hb=>(m.lt b r hb).2
   refine fj.vz ?_
   simp only[ye]at hx
   split at hx
   ·rename_i gR h1
    refine wpIn_mono (ih ρ nt c ca st gR .normal hc hn h1 C' w0 C0 a w ⟨cD,C',ω',ay.le_refl _,jZ,m,he⟩) ?_
    intro e a' w' hq
    refine MG hq (fun _ eb=>?_) (fun h=>absurd rfl h)
    have h2:=eb.gc hC' (fun b r hb=>hC' b r (m.grown.2 b r hb))
    have h3:=ihl ρ nt c ca _ bL x hc hn hx C' w0 C0 a' w' h2
    intro b k cs xl hb hr
    obtain⟨e,a',w',hq,eF⟩:=h3 b k cs xl hb hr
    obtain⟨q1,q2,C2,ω2,q4,q5⟩:=hq
    exact⟨e,a',w',⟨q1,q2,C2,ω2,ay.le_trans hle q4,q5⟩,eF⟩
   ·rename_i bA
    refine wpIn_mono (ih ρ nt c ca st bL x hc hn hx C w0 C0 a w ⟨cD,C',ω',hle,jZ,m,he⟩) ?_
    intro e a' w' hq
    refine MG hq (fun DG eb=>?_) (fun DG eb=>⟨rfl,eb⟩)
    subst DG
    exact absurd hx (bA bL)
  refine⟨?_,loop⟩
  intro ρ nt c ca st bL x hc hn hx C w0 C0 a w bU
  obtain⟨h,dk⟩:=hc
  cases c with
  |skip=>
   simp only[gw,I.injEq]at dk
   subst dk
   simp only[ye,I.injEq,E6.injEq]at hx
   obtain⟨rfl,rfl⟩:=hx
   exact wpIn_skip ⟨rfl,bU⟩
  |label l=>
   simp only[gw,I.injEq]at dk
   subst dk
   simp only[ye,I.injEq,E6.injEq]at hx
   obtain⟨rfl,rfl⟩:=hx
   exact wpIn_label ⟨rfl,bU⟩
  |region id ops draw=>
   simp only[gw]at dk
   have dk:(draw=E9∧∃sz,L3 P nt ops=I sz∧ca=.grow sz)∨ET P h nt id ops draw=I ca:=by
    split at dk
    ·rename_i sz TR;cases dk;exact .inl ⟨rfl,sz,TR,rfl⟩
    ·exact .inr dk
   rcases dk with⟨rfl,sz,TR,rfl⟩|dk
   ·simp only[ye]at hx
    split at hx
    ·rename_i z xs o1 k o2 e0 e1
     cases gP:(Nat.blt 0 k&&Nat.ble k 1073741824)with
     |false=>simp[gP]at hx
     |true=>
      simp only[gP,cT,I.injEq,E6.injEq]at hx
      obtain⟨rfl,rfl⟩:=hx
      simp only[En]at gP
      obtain⟨cD,C',ω',hle,jZ,m,he⟩:=bU
      refine wpIn_mono (jlr TR m he cD jZ e0 e1 (Nat.blt_eq.mp gP.1) (Nat.le_of_ble_eq_true gP.2)) ?_
      rintro e a' w' ⟨rfl,q1,C2,ω2,q4,q5⟩
      exact⟨rfl,q1,C2,ω2,ay.le_trans hle q4,q5⟩
    ·cases hx
   have Ge:∃na l keep,ca=.region na l keep:=by
    unfold ET at dk
    split at dk
    ·split at dk
     ·simp only[I.injEq]at dk;exact⟨_,_,_,dk.symm⟩
     ·cases dk
    ·cases dk
   obtain⟨na,l,keep,dK⟩:=Ge
   subst dK
   simp only[ye]at hx
   obtain⟨cD,C',ω',hle,jZ,m,he⟩:=bU
   refine wpIn_mono (ja1 eh (cg.F9 ih) dk rfl hx m he cD jZ) ?_
   rintro e a' w' ⟨q1,q2,C2,ω2,q4,q5⟩
   exact⟨q1,q2,C2,ω2,ay.le_trans hle q4,q5⟩
  |seq c1 c2=>
   simp only[gw]at dk
   split at dk
   ·rename_i x1 x2 h1 h2
    cases dk
    have DH:ρ≠Ef→km x1=E7∧km x2=E7:=fun hh=>by simpa[km]using hn hh
    simp only[ye]at hx
    refine wpIn_seq ?_
    split at hx
    ·rename_i gR xe
     refine wpIn_mono (ih ρ nt c1 x1 st gR .normal ⟨h,h1⟩ (fun hh=>(DH hh).1) xe C w0 C0 a w bU) ?_
     intro e a' w' hq
     exact MG hq (fun _ eb=>ih ρ nt c2 x2 gR bL x ⟨h,h2⟩ (fun hh=>(DH hh).2) hx C w0 C0 a' w' eb) (fun hh=>absurd rfl hh)
    ·rename_i bA
     refine wpIn_mono (ih ρ nt c1 x1 st bL x ⟨h,h1⟩ (fun hh=>(DH hh).1) hx C w0 C0 a w bU) ?_
     intro e a' w' hq
     refine MG hq (fun DG eb=>?_) (fun DG eb=>⟨rfl,eb⟩)
     subst DG
     exact absurd hx (bA bL)
   ·cases dk
  |cond c c1 c2=>
   simp only[gw]at dk
   split at dk
   ·rename_i c' x1 x2 h0 h1 h2
    cases dk
    have DH:ρ≠Ef→km x1=E7∧km x2=E7:=fun hh=>by simpa[km]using hn hh
    simp only[ye]at hx
    split at hx
    ·rename_i t ht
     have gQ:=bU
     obtain⟨cD,C',ω',hle,jZ,m,he⟩:=bU
     have eg:=(zt he.bV h0 ht).cV
     refine wpIn_cond eg ?_
     cases t with
     |true=>simp only[cT]at hx;exact ih ρ nt c1 x1 st bL x ⟨h,h1⟩ (fun hh=>(DH hh).1) hx C w0 C0 a w gQ
     |false=>simp only[cond_false]at hx;exact ih ρ nt c2 x2 st bL x ⟨h,h2⟩ (fun hh=>(DH hh).2) hx C w0 C0 a w gQ
    ·cases hx
   ·cases dk
  |block id b=>
   simp only[gw]at dk
   obtain⟨b',hb,rfl⟩:=E3.1 dk
   simp only[ye]at hx
   refine wpIn_block ?_
   split at hx
   ·rename_i fp gR xe
    refine wpIn_mono (ih ρ nt b b' st gR (.exit fp) ⟨h,hb⟩ (fun hh=>by simpa[km]using hn hh) xe C w0 C0 a w bU) ?_
    rintro e a' w' ⟨rfl,eb⟩
    cases hid:Nat.beq fp id with
    |true=>
     simp only[hid,cT,I.injEq,E6.injEq]at hx
     obtain⟨rfl,rfl⟩:=hx
     have:=Nat.eq_of_beq_eq_true hid
     subst this
     simp only[zV,Exit.inBlock,if_true]
     exact⟨rfl,eb⟩
    |false=>
     simp only[hid,cond_false,I.injEq,E6.injEq]at hx
     obtain⟨rfl,rfl⟩:=hx
     have bA:¬fp=id:=fun hh=>by subst hh;simp at hid
     simp only[zV,Exit.inBlock,bA,if_false]
     exact⟨rfl,eb⟩
   ·rename_i bA
    refine wpIn_mono (ih ρ nt b b' st bL x ⟨h,hb⟩ (fun hh=>by simpa[km]using hn hh) hx C w0 C0 a w bU) ?_
    rintro e a' w' ⟨rfl,eb⟩
    cases x with
    |normal=>exact⟨rfl,eb⟩
    |ret=>exact⟨rfl,eb⟩
    |exit fp=>exact absurd hx (bA fp bL)
  |loop b=>
   simp only[gw]at dk
   obtain⟨b',hb,rfl⟩:=E3.1 dk
   exact(loop ρ nt b b' st bL x ⟨h,hb⟩ (fun hh=>by simpa[km]using hn hh) hx C w0 C0 a w bU).wpIn
  |scope b=>
   simp only[gw]at dk
   obtain⟨b',hb,rfl⟩:=E3.1 dk
   have fh:ye p n b' st=I (x,bL):=by
    simp only[ye]at hx
    split at hx
    ·rename_i gR xe
     cases n with
     |zero=>simp[ye]at xe
     |succ n=>simp only[ye]at hx;rw[xe];exact hx
    ·exact hx
   refine qp7 (wpIn_mono (ih ρ nt b b' st bL x ⟨h,hb⟩ (fun hh=>by simpa[km]using hn hh) fh C w0 C0 a w bU) ?_)
   rintro e a' w' ⟨rfl,eb⟩
   cases x with
   |normal=>exact⟨rfl,eb⟩
   |exit id=>exact⟨rfl,eb⟩
   |ret=>exact⟨rfl,eb⟩
  |rangeFunc f ps x1 x2=>
   simp only[gw]at dk
   split at dk
   ·split at dk
    ·rename_i cf
     cases dk
     simp only[ye]at hx
     cases ρ with
     |some l=>exact absurd (hn (by simp)) (by simp[km])
     |none=>exact jix eh (cg.F9 ih) (by assumption) (by assumption) (by assumption) (fun t ht=>by simpa using(Array.all_eq_true'.1 cf) t (by simpa using ht)) hx bU
    ·cases dk
   ·cases dk
  |exit id=>
   simp only[gw,I.injEq]at dk
   subst dk
   simp only[ye,I.injEq,E6.injEq]at hx
   obtain⟨rfl,rfl⟩:=hx
   exact wpIn_exit ⟨rfl,bU⟩
  |ret=>
   simp only[gw,I.injEq]at dk
   subst dk
   simp only[ye,I.injEq,E6.injEq]at hx
   obtain⟨rfl,rfl⟩:=hx
   exact wpIn_ret ⟨rfl,bU⟩
  |_=>
   simp only[gw,I.injEq]at dk
   subst dk
   simp[ye]at hx
theorem q65 (eh:qx P p){n k:Nat}{args:List qa}{v:qa}{ow:Bool}(h:jy p (ye p n) k args=I (v,ow))(hb:zu 0 args=E7):IsoCall P k args v ow:=
 (Ms eh (cg.F9 (MI eh n).1) h hb).2.2
end
end Go.Abs
