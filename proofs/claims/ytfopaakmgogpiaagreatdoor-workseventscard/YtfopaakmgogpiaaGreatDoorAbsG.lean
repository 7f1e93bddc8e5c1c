/- The growth of an empty slice in slices.Grow. -/
import Derived.Test.YtfopaakmgogpiaaGreatDoorAbsF
import Derived.Lib.AppendZeros
set_option linter.unusedVariables false
set_option linter.unusedSimpArgs false
namespace Go.Abs
section
variable {P:Program}{C C0:Ctx}{ω:Nat→Option Loc}{w w0:World}{hp:j8}{env:Env}{a:Act}{ρ:Option Nat}
theorem qbv {a:Act}{d:Nat}{v:Value}(h:d<a.tmps.size):(a.put (some d) v).eval (.tmp d)=v:=by
 simp[Act.eval,Act.put,Array.getD_eq_getD_getElem?,h]
theorem qa7 {a:Act}{d j:Nat}{v:Value}(h:d≠j):(a.put (some d) v).eval (.tmp j)=a.eval (.tmp j):=by
 simp[Act.eval,Act.put,Array.getD_eq_getD_getElem?,Array.getElem?_setIfInBounds_ne h]
theorem qdc {a:Act}{d:Nat}{v:Value}:(a.put (some d) v).tmps.size=a.tmps.size:=by simp[Act.put]
theorem qd3 {ops:Array Oper}{Q:Exit→Act→World→Prop}{i d:Nat}{rest:List Nat}{o:Oper}{v:Value}{w':World}(hi:ops[i]?=some o)(hg:o.guard=none)(hd:o.dst=some d)(hn:∀c,o.op≠.defer c)(hrun:(execOp a.eval o).run P w=.ok (.value v) w')
  (hk:wpOpsIn (qbi ρ) 0 P ops Q rest (a.put (some d) v) w'):wpOpsIn (qbi ρ) 0 P ops Q (i::rest) a w:=by
 rw[wpOpsIn_cons]
 unfold wpOpIn
 rw[hi]
 simp only[]
 rw[show Region.wanted o (yielded ops a.tmps)=true from by simp[Region.wanted,hg]]
 simp only[if_true]
 refine⟨fun _ _=>trivial,?_⟩
 rw[Oper.semAt_eq _ _ _ hn,hrun]
 rw[←hd]at hk
 exact hk
theorem qj0 {s d:Nat}{o:Oper}(h:qmq s d o=true):o.op=.move (.tmp s)∧o.dst=some d∧o.guard=none:=by
 unfold qmq at h
 split at h
 ·rename_i h1 h2 h3
  simp only[Bool.and_eq_true,beq_iff_eq]at h
  obtain⟨rfl,rfl⟩:=h
  exact⟨h1,h2,h3⟩
 ·cases h
theorem q3d {s d:Nat}{o:Oper}(h:quw s d o=true):o.op=.assign (.tmp s)∧o.dst=some d∧o.guard=none:=by
 unfold quw at h
 split at h
 ·rename_i h1 h2 h3
  simp only[Bool.and_eq_true,beq_iff_eq]at h
  obtain⟨rfl,rfl⟩:=h
  exact⟨h1,h2,h3⟩
 ·cases h
theorem jid {x d:Nat}{o:Oper}{t:TypeId}(h:jfc x d o=some t):∃c,o.op=.call c∧c.callee=.builtin .cap∧c.args=#[.tmp x]∧c.argTypes=#[t]∧o.dst=some d∧o.guard=none:=by
 unfold jfc at h
 split at h
 ·rename_i c _ h1 h2 h3
  split at h
  ·rename_i h4 h5 h6
   split at h
   ·rename_i hk
    simp only[Bool.and_eq_true,beq_iff_eq]at hk
    obtain⟨rfl,rfl⟩:=hk
    cases h
    exact⟨c,h1,h4,by z8 Array.ext';simpa using h5,by z8 Array.ext';simpa using h6,h2,h3⟩
   ·cases h
  ·cases h
 ·cases h
theorem jgv {x d:Nat}{o:Oper}{t:TypeId}(h:jd1 x d o=some t):∃c,o.op=.call c∧c.callee=.builtin .len∧c.args=#[.tmp x]∧c.argTypes=#[t]∧o.dst=some d∧o.guard=none:=by
 unfold jd1 at h
 split at h
 ·rename_i c _ h1 h2 h3
  split at h
  ·rename_i h4 h5 h6
   split at h
   ·rename_i hk
    simp only[Bool.and_eq_true,beq_iff_eq]at hk
    obtain⟨rfl,rfl⟩:=hk
    cases h
    exact⟨c,h1,h4,by z8 Array.ext';simpa using h5,by z8 Array.ext';simpa using h6,h2,h3⟩
   ·cases h
  ·cases h
 ·cases h
theorem q3k {x h d:Nat}{o:Oper}{t:TypeId}(hh:q9x x h d o=some t):o.op=.slice t (.tmp x) none (some (.tmp h)) none∧o.dst=some d∧o.guard=none:=by
 unfold q9x at hh
 split at hh
 ·rename_i h1 h2 h3
  split at hh
  ·rename_i hk
   simp only[Bool.and_eq_true,beq_iff_eq]at hk
   obtain⟨⟨rfl,rfl⟩,rfl⟩:=hk
   cases hh
   exact⟨h1,h2,h3⟩
  ·cases hh
 ·cases hh
theorem jdb {x y d:Nat}{o:Oper}{t u:TypeId}(h:ji5 x y d o=some (t,u)):∃c,o.op=.call c∧c.callee=.builtin .append∧c.args=#[.tmp x,.tmp y]∧c.argTypes=#[t,u]∧o.dst=some d∧o.guard=none:=by
 unfold ji5 at h
 split at h
 ·rename_i c _ h1 h2 h3
  split at h
  ·rename_i h4 h5 h6
   split at h
   ·rename_i hk
    simp only[Bool.and_eq_true,beq_iff_eq]at hk
    obtain⟨⟨rfl,rfl⟩,rfl⟩:=hk
    cases h
    exact⟨c,h1,h4,by z8 Array.ext';simpa using h5,by z8 Array.ext';simpa using h6,h2,h3⟩
   ·cases h
  ·cases h
 ·cases h
theorem q6p {o:Oper}{t e:TypeId}{x h:Nat}{b:Option Addr}{len cap n:Nat}(ho:o.op=.slice t (.tmp x) none (some (.tmp h)) none)(ht:P.underlying t=some (.slice e)){sz:Nat}(hn:yh P e=some sz)(hx:a.eval (.tmp x)=.slice b len cap)(hh:a.eval (.tmp h)=.int .i64 (n:Int))(hle:n≤cap):
  (execOp a.eval o).run P w=.ok (.value (.slice (if cap=0 then b else b.map (·.add 0)) n cap)) w:=by
 have hb:(0:Int)≤n∧(n:Int)≤cap:=by omega
 simp[execOp,ho,Instr.sliceAt,Instr.slice,run_underlying ht,hx,Instr.sliceBounds,hh,Instr.sliceBound,asIntOf,hle,qah hn]
theorem jm1 {id nt:Nat}{ops:Array Oper}{sz:Nat}(hg:qwa P nt ops=some sz)(m:MInv P C ω w0 C0 hp w)(he:EnvRel C ω w w0.heap.size env a.tmps)(hsz:a.tmps.size=nt)(hmk:Marks C w0.heap.size a.defers){z k:Nat}{xs:List qa}{o1 o2:Bool}
  (h0:ye 0 env=some (.list true z xs,o1)) (h1:ye 1 env=some (.int .i64 (.ofNat k),o2)) (hk0:0<k) (hk1:k≤1073741824):
  (Code.region id ops false).wpIn (qbi ρ) 0 P (fun e a' w'=>e=.normal∧StOk P w0 C0 C nt ⟨[(0,.list false sz [],true)],hp⟩ a' w') a w:=by
 unfold qwa at hg
 split at hg
 ·rename_i t u hgt
  split at hg
  ·rename_i e kk ht hu
   split at hg
   ·rename_i i hi
    split at hg
    ·rename_i hc
     cases hg
     simp only[Bool.and_eq_true,decide_eq_true_eq,Option.isSome_iff_exists,beq_iff_eq]at hc
     obtain⟨⟨⟨⟨⟨⟨zv,hz⟩,hs0⟩,hby⟩,hnt⟩,⟨zl,hzl⟩⟩,hzs⟩:=hc
     have hsize:yh P e=some i.size:=by simp[yh,hi]
     unfold jjo at hgt
     split at hgt
     ·rename_i p0 p1 p2 p3 p4 p5 p6 p7 p8 p9 hops
      split at hgt
      ·rename_i t2 t3 tt uu t7 t8 g2 g3 g5 g7 g8
       split at hgt
       ·rename_i hcc
        cases hgt
        simp only[Bool.and_eq_true,beq_iff_eq]at hcc
        obtain⟨⟨⟨⟨⟨⟨⟨⟨c0,c1⟩,c4⟩,c6⟩,c9⟩,x2⟩,x3⟩,x7⟩,x8⟩:=hcc
        replace x2:=x2.symm
        replace x3:=x3.symm
        replace x7:=x7.symm
        replace x8:=x8.symm
        subst x2;subst x3;subst x7;subst x8
        have hopsA:ops=#[p0,p1,p2,p3,p4,p5,p6,p7,p8,p9]:=by z8 Array.ext';simpa using hops
        subst hopsA
        obtain⟨v0,q0,r0,_⟩:=he 0 _ h0
        obtain⟨v1,q1,r1,_⟩:=he 1 _ h1
        have hv0:v0=.slice none 0 0:=by
         rcases r0.list_inv with⟨_,_,h⟩|⟨h,_⟩|⟨h,_⟩
         ·exact h
         ·cases h
         ·cases h
        have hv1:v1=.int .i64 (k:Int):=by cases r1;rfl
        subst hv0;subst hv1
        have hl:26≤a.tmps.size:=by omega
        have e0:a.eval (.tmp 0)=.slice none 0 0:=by simp[Act.eval,Array.getD_eq_getD_getElem?,q0]
        have e1:a.eval (.tmp 1)=.int .i64 (k:Int):=by simp[Act.eval,Array.getD_eq_getD_getElem?,q1]
        obtain⟨a0,a0d,a0g⟩:=qj0 c0
        obtain⟨a1,a1d,a1g⟩:=qj0 c1
        obtain⟨cc2,a2,b2,b2a,b2t,a2d,a2g⟩:=jid g2
        obtain⟨a3,a3d,a3g⟩:=q3k g3
        obtain⟨a4,a4d,a4g⟩:=qj0 c4
        obtain⟨cc5,a5,b5,b5a,b5t,a5d,a5g⟩:=jdb g5
        obtain⟨a6,a6d,a6g⟩:=qj0 c6
        obtain⟨cc7,a7,b7,b7a,b7t,a7d,a7g⟩:=jgv g7
        obtain⟨a8,a8d,a8g⟩:=q3k g8
        obtain⟨a9,a9d,a9g⟩:=q3d c9
        refine wpIn_region ?_
        rw[show List.range (#[p0,p1,p2,p3,p4,p5,p6,p7,p8,p9]:Array Oper).size=[0,1,2,3,4,5,6,7,8,9]from rfl]
        refine qd3 (o:=p0) rfl a0g a0d (by simp[a0]) (v:=.slice none 0 0) (w':=w) (by simp[execOp,a0,e0]) ?_
        refine qd3 (o:=p1) rfl a1g a1d (by simp[a1]) (v:=.slice none 0 0) (w':=w) (by simp[execOp,a1,qa7,e0]) ?_
        refine qd3 (o:=p2) rfl a2g a2d (by simp[a2]) (v:=.int .i64 0) (w':=w) ?_ ?_
        ·have:(((a.put (some 17) (.slice none 0 0)).put (some 18) (.slice none 0 0))).eval (.tmp 18)=.slice none 0 0:=qbv (by rw[qdc];omega)
         simp[execOp,a2,resolve,b2,b2a,b2t,invoke,builtin,Builtin.cap_,run_underlying ht,this,goInt]
        refine qd3 (o:=p3) rfl a3g a3d (by simp[a3]) (v:=.slice none 0 0) (w':=w) ?_ ?_
        ·have h17:((((a.put (some 17) (.slice none 0 0)).put (some 18) (.slice none 0 0))).put (some 19) (.int .i64 0)).eval (.tmp 17)=.slice none 0 0:=by
          rw[qa7 (by omega),qa7 (by omega),qbv (by omega)]
         have h19:((((a.put (some 17) (.slice none 0 0)).put (some 18) (.slice none 0 0))).put (some 19) (.int .i64 0)).eval (.tmp 19)=.int .i64 ((0:Nat):Int):=by
          rw[qbv (by rw[qdc,qdc];omega)];rfl
         have:=q6p (P:=P) (w:=w) (o:=p3) a3 ht hsize h17 h19 (Nat.le_refl 0)
         simpa using this
        refine qd3 (o:=p4) rfl a4g a4d (by simp[a4]) (v:=.int .i64 (k:Int)) (w':=w) (by simp[execOp,a4,qa7,e1]) ?_
        have hap:=Lib.run_append_nil_zeros w t u p5.type e i zv .i64 kk ht hu hi hz k hk0 hs0 (by omega) (by
         have:k*i.bytes≤1073741824*4096:=Nat.mul_le_mul hk1 hby
         omega)
        refine qd3 (o:=p5) rfl a5g a5d (by simp[a5]) (v:=.slice (some ⟨w.heap.size,0,none⟩) k (grownCap w k 0 e)) (w':=w.drew.alloc (.cells (Builtin.zeroCells zv.cells k++Builtin.zeroCells zv.cells (grownCap w k 0 e-k)) e)) ?_ ?_
        ·generalize hA:(((((a.put (some 17) (.slice none 0 0)).put (some 18) (.slice none 0 0)).put (some 19) (.int .i64 0)).put (some 20) (.slice none 0 0)).put (some 21) (.int .i64 (k:Int)))=A
         have h20:A.eval (.tmp 20)=.slice none 0 0:=by
          rw[←hA,qa7 (by omega),qbv (by simp only[qdc];omega)]
         have h21:A.eval (.tmp 21)=.int .i64 (k:Int):=by
          rw[←hA,qbv (by simp only[qdc];omega)]
         simp[execOp,a5,resolve,b5,b5a,b5t,invoke,builtin,h20,h21,hap]
        generalize hW:w.drew.alloc (.cells (Builtin.zeroCells zv.cells k++Builtin.zeroCells zv.cells (grownCap w k 0 e-k)) e)=W
        generalize hA:(((((a.put (some 17) (.slice none 0 0)).put (some 18) (.slice none 0 0)).put (some 19) (.int .i64 0)).put (some 20) (.slice none 0 0)).put (some 21) (.int .i64 (k:Int)))=A
        have hA0:A.eval (.tmp 0)=.slice none 0 0:=by rw[←hA];simp only[qa7 (show(21:Nat)≠0 by omega),qa7 (show(20:Nat)≠0 by omega),qa7 (show(19:Nat)≠0 by omega),qa7 (show(18:Nat)≠0 by omega),qa7 (show(17:Nat)≠0 by omega),e0]
        have hAs:A.tmps.size=a.tmps.size:=by rw[←hA];simp only[qdc]
        have hAd:A.defers=a.defers:=by rw[←hA];rfl
        generalize hcp:grownCap w k 0 e=cp
        have hcap:k≤cp:=by rw[←hcp];simpa using grownCap_ge w k 0 e
        refine qd3 (o:=p6) rfl a6g a6d (by simp[a6]) (v:=.slice none 0 0) (w':=W) (by simp[execOp,a6,qa7,hA0]) ?_
        refine qd3 (o:=p7) rfl a7g a7d (by simp[a7]) (v:=.int .i64 0) (w':=W) ?_ ?_
        ·generalize hB:((A.put (some 22) (.slice (some ⟨w.heap.size,0,none⟩) k cp)).put (some 23) (.slice none 0 0))=B
         have h23:B.eval (.tmp 23)=.slice none 0 0:=by
          rw[←hB,qbv (by rw[qdc];omega)]
         simp[execOp,a7,resolve,b7,b7a,b7t,invoke,builtin,Builtin.len_,run_underlying ht,h23,goInt]
        refine qd3 (o:=p8) rfl a8g a8d (by simp[a8]) (v:=.slice (some ⟨w.heap.size,0,none⟩) 0 cp) (w':=W) ?_ ?_
        ·generalize hB:(((A.put (some 22) (.slice (some ⟨w.heap.size,0,none⟩) k cp)).put (some 23) (.slice none 0 0)).put (some 24) (.int .i64 0))=B
         have h22:B.eval (.tmp 22)=.slice (some ⟨w.heap.size,0,none⟩) k cp:=by
          rw[←hB,qa7 (by omega),qa7 (by omega),qbv (by omega)]
         have h24:B.eval (.tmp 24)=.int .i64 ((0:Nat):Int):=by
          rw[←hB,qbv (by simp only[qdc];omega)];rfl
         have:=q6p (P:=P) (w:=W) (o:=p8) a8 ht hsize h22 h24 (Nat.zero_le cp)
         rw[if_neg (by omega)]at this
         simp only[Option.map_some,add_lit,Nat.add_zero]at this
         exact this
        refine qd3 (o:=p9) rfl a9g a9d (by simp[a9]) (v:=.slice (some ⟨w.heap.size,0,none⟩) 0 cp) (w':=W) ?_ ?_
        ·have h25:((((A.put (some 22) (.slice (some ⟨w.heap.size,0,none⟩) k cp)).put (some 23) (.slice none 0 0)).put (some 24) (.int .i64 0)).put (some 25) (.slice (some ⟨w.heap.size,0,none⟩) 0 cp)).eval (.tmp 25)=.slice (some ⟨w.heap.size,0,none⟩) 0 cp:=by
          rw[qbv (by simp only[qdc];omega)]
         simp[execOp,a9,h25]
        -- the end
        have hxd:=Ext.drew w
        obtain⟨zs,zvr,hzr2,hzrep,hz1⟩:=qbq (C:=C) hzl
        have hzsz:zv.cells.size=i.size:=by
         have h3:zl.length=i.size:=by rw[hzl]at hzs;simpa using hzs
         have h4:=hzrep.length
         have h5:zvr=zv:=by
          have:=hzr2 w
          simp[zeroValue,typeInfo,hi,hz]at this
          exact this.symm
         subst h5
         simp only[Array.length_toList]at h4;omega
        have hpost:=qtj (d:=.slot 0) (tmps:=a.tmps) (m.ext hxd) (he.ext hxd) (Builtin.zeroCells zv.cells k++Builtin.zeroCells zv.cells (cp-k)) e [] i.size cp [] (by simpa using qp.nil) (by simp) (by simp) (by simp) (by simp) (by
         have hlen:∀n,(Builtin.zeroCells zv.cells n).size=n*i.size:=fun n=>by simp[Builtin.zeroCells,hzsz]
         rw[Array.size_append,hlen,hlen,←Nat.add_mul]
         exact Nat.mul_le_mul_right _ (by omega)) none
        rw[hcp]at hW
        rw[hW]at hpost
        have hd0:w.drew.heap.size=w.heap.size:=rfl
        rw[hd0]at hpost
        simp only[List.length_nil]at hpost
        clear hW hA0 hzr2 hzrep
        generalize hB:(((A.put (some 22) (.slice (some ⟨w.heap.size,0,none⟩) k cp)).put (some 23) (.slice none 0 0)).put (some 24) (.int .i64 0)).put (some 25) (.slice (some ⟨w.heap.size,0,none⟩) 0 cp)=B
        have hBs:B.tmps.size=a.tmps.size:=by rw[←hB];simp only[qdc];omega
        have hBd:B.defers=a.defers:=by rw[←hB,←hAd];rfl
        obtain⟨C',ω',k1,k2,k3,k4,k5⟩:=hpost
        have hfin:StOk P w0 C0 C nt ⟨[(0,.list false i.size [],true)],hp⟩ (B.put (some 0) (.slice (some ⟨w.heap.size,0,none⟩) 0 cp)) W:=by
         refine⟨by rw[qdc];omega,C',ω',k1,?_,k2,?_⟩
         ·rw[show(B.put (some 0) (.slice (some ⟨w.heap.size,0,none⟩) 0 cp)).defers=B.defers from rfl,hBd]
          exact hmk.mono k1
         ·intro s x hx
          simp only[ye]at hx
          cases hb:Nat.beq 0 s with
          |false=>simp[hb]at hx
          |true=>
           have:=Nat.eq_of_beq_eq_true hb
           subst this
           simp only[hb,cT,Option.some.injEq]at hx
           subst hx
           exact⟨_,by simp only[Act.put];rw[Array.getElem?_setIfInBounds_self_of_lt (by omega)],k4,k5⟩
        simp only[wpOpsIn]
        exact⟨trivial,hfin⟩
       ·cases hgt
      ·cases hgt
     ·cases hgt
    ·cases hg
   ·cases hg
  ·cases hg
 ·cases hg
end
def LoopWp (ρ:Option Nat)(P:Program)(c:Code)(Q:Exit→Act→World→Prop)(a:Act)(w:World):Prop:=
 ∀(b:Frame) (k:List Item) (cs:List Frame),b.roundOf=(qbi ρ).round→(qbi ρ).fn b.fn→(qbi ρ).room (cs.length+1+0) →
  ∃e a' w',Q e a' w'∧ArrivesIn (Machine.fenced P (qbi ρ)) P (lone (b.atR a (.code c::.inLoop c::k)) cs w) b k cs e a' w'
theorem LoopWp.wpIn {ρ:Option Nat}{P:Program}{c:Code}{Q:Exit→Act→World→Prop}{a:Act}{w:World}(h:LoopWp ρ P c Q a w):(Code.loop c).wpIn (qbi ρ) 0 P Q a w:=by
 intro b k cs hro hb hr
 obtain⟨e,a',w',hq,harr⟩:=h b k cs hro hb hr
 exact⟨e,a',w',hq,.of_steps (.one (fenced_calm hb hr rfl) stepR_loop) harr⟩
theorem LoopWp.of_body {ρ:Option Nat}{P:Program}{c:Code}{Q:Exit→Act→World→Prop}{a:Act}{w:World}(h:c.wpIn (qbi ρ) 0 P (Exit.then (LoopWp ρ P c Q) Q) a w):LoopWp ρ P c Q a w:=by
 intro b k cs hro hb hr
 obtain⟨e,a₁,w₁,hq,harr⟩:=h b (.inLoop c::k) cs hro hb hr
 cases e with
 |normal=>
  obtain⟨e₂,a₂,w₂,hq₂,harr₂⟩:=hq b k cs hro hb hr
  exact⟨e₂,a₂,w₂,hq₂,.of_steps (StepsIn.trans harr (.one (fenced_calm hb hr rfl) stepR_inLoop)) harr₂⟩
 |exit id=>exact⟨_,a₁,w₁,hq,.pass (x:=.inLoop c) rfl (fun _ _=>.inl (by simp)) harr⟩
 |goto l=>exact⟨_,a₁,w₁,hq,.pass (x:=.inLoop c) rfl (fun _ _=>.inl (by simp)) harr⟩
 |ret=>exact⟨_,a₁,w₁,hq,.pass (x:=.inLoop c) rfl (fun _ _=>.inl (by simp)) harr⟩
 |panic ch=>exact⟨_,a₁,w₁,hq,.pass (x:=.inLoop c) rfl (fun _ _=>.inl (by simp)) harr⟩
 |outgrown=>exact⟨_,a₁,w₁,hq,.pass (x:=.inLoop c) rfl (fun _ _=>.inl (by simp)) harr⟩
section
variable {P:Program}{p:qt}{xc:XC}
def q7e (P:Program)(w0:World)(C0 C:Ctx)(nt:Nat)(x:qo)(st':qg):Exit→Act→World→Prop:=fun e a' w'=>e=qut x∧StOk P w0 C0 C nt st' a' w'
def q6m (P:Program)(xc:XC):Prop:=
 ∀(ρ:Option Nat) (nt:Nat) (c:Code) (ca:qe) (st st':qg) (x:qo),q36 P nt c ca→(ρ≠none→kn ca=true)→xc ca st=some (x,st') →
  ∀(C:Ctx) (w0:World) (C0:Ctx) (a:Act) (w:World),StOk P w0 C0 C nt st a w→c.wpIn (qbi ρ) 0 P (q7e P w0 C0 C nt x st') a w
theorem CodeOk.of' (h:q6m P xc):CodeOk P xc:=
 fun ρ nt c ca st st' x hc hn hx C ω w0 C0 a w m he hsz hdf=>wpIn_mono (h ρ nt c ca st st' x hc hn hx C w0 C0 a w ⟨hsz,C,ω,Ctx.le_refl C,hdf,m,he⟩) fun _ _ _ hq=>hq
def jb2 (P:Program)(xc:XC):Prop:=
 ∀(ρ:Option Nat) (nt:Nat) (c:Code) (ca:qe) (st st':qg) (x:qo),q36 P nt c ca→(ρ≠none→kn ca=true)→xc (.loop ca) st=some (x,st') →
  ∀(C:Ctx) (w0:World) (C0:Ctx) (a:Act) (w:World),StOk P w0 C0 C nt st a w→LoopWp ρ P c (q7e P w0 C0 C nt x st') a w
theorem StOk.gc {w0:World}{C0 C:Ctx}{nt n:Nat}{st:qg}{a:Act}{w:World}(h:StOk P w0 C0 C nt st a w)(hC:∀b r,C.β b=some r→b<n)(hC0:∀b r,C0.β b=some r→b<n):StOk P w0 C0 C nt (Abs.gc n st) a w:=by
 unfold Abs.gc
 cases hb:Nat.ble st.heap.length n with
 |true=>exact h
 |false=>
  simp only[cond_false]
  cases hb2:(qbw n st.env&&ki n (st.heap.take n))with
  |false=>exact h
  |true=>
   simp only[cT]
   simp only[Bool.and_eq_true]at hb2
   obtain⟨h1,C',ω',h3,h2,h4,h5⟩:=h
   have hn:n≤st.heap.length:=by
    rcases Nat.lt_or_ge n st.heap.length with h|h
    ·omega
    ·rw[Nat.ble_eq_true_of_le h]at hb;cases hb
   exact⟨h1,C'.cut n,ω',Ctx.le_cut h3 hC,⟨h2.choose,h2.choose_spec.1,h2.choose_spec.2.1,h2.choose_spec.2.2⟩,h4.gc hn hb2.2 hC0,h5.cut hb2.1⟩
theorem qok {K:Act→World→Prop}{w0:World}{C0 C:Ctx}{nt:Nat}{x:qo}{st':qg}{Q:Exit→Act→World→Prop}{e:Exit}{a:Act}{w:World}(h:q7e P w0 C0 C nt x st' e a w)(hn:x=.normal→StOk P w0 C0 C nt st' a w→K a w)(ho:x≠.normal→StOk P w0 C0 C nt st' a w→Q (qut x) a w):Exit.then K Q e a w:=by
 obtain⟨rfl,h⟩:=h
 cases x with
 |normal=>exact hn rfl h
 |exit id=>exact ho (by simp) h
 |ret=>exact ho (by simp) h
theorem q5m {b:Frame}{a:Act}{k:List Item}{cs:List Frame}{w:World}{c:Code}:step P (lone (b.atR a (.code (.scope c)::k)) cs w)=.next (lone (b.atR a (.code c::.inScope c::k)) cs w):=
 step_lone_go (by simp[stepG,stepG.exec,Frame.atR])
theorem q07 {b:Frame}{a:Act}{k:List Item}{cs:List Frame}{w:World}{c:Code}:step P (lone (b.atR a (.inScope c::k)) cs w)=.next (lone (b.atR a k) cs w):=
 step_lone_go (by simp[stepG,stepG.exec,Frame.atR])
theorem qp2 {F:Fence}{n:Nat}{c:Code}{Q:Exit→Act→World→Prop}{a:Act}{w:World}(h:c.wpIn F n P (Exit.noGoto Q) a w):(Code.scope c).wpIn F n P Q a w:=by
 intro b k cs hro hb hr
 obtain⟨e,a₁,w₁,hq,harr⟩:=h b (.inScope c::k) cs hro hb hr
 have h1:StepsIn (Machine.fenced P F) P (lone (b.atR a (.code (.scope c)::k)) cs w) (lone (b.atR a (.code c::.inScope c::k)) cs w):=.one (fenced_calm hb hr rfl) q5m
 cases e with
 |normal=>exact⟨.normal,a₁,w₁,hq,StepsIn.trans h1 (StepsIn.trans harr (.one (fenced_calm hb hr rfl) q07))⟩
 |goto l=>exact hq.elim
 |exit id=>
  refine⟨.exit id,a₁,w₁,hq,.of_steps h1 ?_⟩
  refine⟨fun k' hk=>harr.1 k' (by simp[exitTo,hk]),fun hro' hnone=>?_⟩
  exact harr.2 hro' (by simp[exitTo,hnone])
 |ret=>exact⟨_,a₁,w₁,hq,.of_steps h1 harr⟩
 |panic ch=>exact⟨_,a₁,w₁,hq,.of_steps h1 harr⟩
 |outgrown=>exact⟨_,a₁,w₁,hq,.of_steps h1 harr⟩
theorem MInv.addD {C C0:Ctx}{ω:Nat→Option Loc}{w0 w:World}{hp:j8}(m:MInv P C ω w0 C0 hp w):MInv P { C with D:=fun r=>C.D r∨r=w.heap.size } ω w0 C0 hp (w.alloc (.deferred (some []))):=by
 have hx:Ext w (w.alloc (.deferred (some []))):=Ext.alloc w _ (fun c t fr h=>by cases h)
 have m':=m.ext hx
 exact { m' with
  dfr:=fun r hr=>by
   rcases hr with hr|hr
   ·exact m'.dfr r hr
   ·subst hr;rw[qdn,if_pos rfl]
  grown:=⟨m.grown.k,m.grown.b,m.grown.w,fun r h=>.inl (m.grown.d r h),m.grown.t⟩
  box:=fun b x r hx' hb=>BoxRel.imp (C:=C) (C':={ C with D:=fun r=>C.D r∨r=w.heap.size }) ⟨fun _ _ _ h=>h,fun _ _ h=>h⟩ rfl (fun _ _ _ ho=>ho) (m'.box b x r hx' hb) }
theorem jh2 (hp':qx P p)(hx:CodeOk P xc){f:Operand}{ps:Array Tmp}{x1 x2:Code}{f':qh}{a1 a2:qe}{h:qb}{nt:Nat}{st st':qg}{x:qo}{C:Ctx}{w0:World}{C0:Ctx}{a:Act}{w:World}
  (hf:zq f=some f') (h1:qbl P h nt x1=some a1) (h2:qbl P h nt x2=some a2) (hfit:∀t∈ps.toList,t<nt) (hs:qdd p xc f' ps.toList a1 a2 st=some (x,st')) (hst:StOk P w0 C0 C nt st a w):
  (Code.rangeFunc f ps x1 x2).wpIn (qbi none) 0 P (q7e P w0 C0 C nt x st') a w:=by
 obtain⟨hsz,Ca,ω,hle,hmk,m,he⟩:=hst
 unfold qdd at hs
 cases hnr:(kn a1&&kn a2)with
 |false=>simp[hnr]at hs
 |true=>
  simp only[hnr,cT]at hs
  simp only[Bool.and_eq_true]at hnr
  split at hs
  ·rename_i k first captured hev
   have hrf:=zt he.rep hf hev
   generalize hfv:a.eval f=fv at hrf
   cases hrf with
   |fn g g' _ _ as bs hg ha hb=>
    simp only[RepFn]at hg
    subst hg
    split at hs
    ·rename_i _r1 _r2 h' hcf
     split at hs
     ·rename_i l' hl'
      cases hbl:ki st.heap.length (h'.take st.heap.length)with
      |false=>simp[hbl]at hs
      |true=>
       simp only[hbl,cT]at hs
       ·obtain⟨hen,hshr⟩:=qi1 hp' hx hcf
        -- the loop's record,and the block before it
        refine wpIn_rangeFunc fun fn _=>?_
        generalize hlp:({ state:=.ready,pending:=none,fn:=fn,tmps:=a.tmps,params:=ps,assign:=x1,body:=x2,defers:=w.heap.size }:Loop)=lp
        have mD:=(m.addD).holes 1
        have eD:EnvRel { Ca with D:=fun r=>Ca.D r∨r=w.heap.size } ω (w.alloc (.deferred (some []))) w0.heap.size st.env a.tmps:=fun s y hy=>
         let ⟨v,k1,k2,k3⟩:=he.ext (Ext.alloc w _ (fun c t fr h=>by cases h)) s y hy
         ⟨v,k1,Rep.sameD k2,k3⟩
        have hhole:(st.heap++List.replicate 1 .hole)[st.heap.length]?=some .hole:=by simp
        have hsz1:(w.alloc (.deferred (some []))).heap.size=w.heap.size+1:=by rw[World.size_alloc]
        obtain⟨mB,eB,hleB⟩:=mD.newBox eD hhole (.loop lp) (fun c t fr h=>by cases h) (.loop ⟨st.env,ps.toList,a1,a2,none⟩) (by
         intro C' ω' w' hle' hg'
         subst hlp
         exact⟨_,hg',{ assign:=⟨h,by rw[hsz];exact h1⟩,body:=⟨h,by rw[hsz];exact h2⟩,params:=rfl,fits:=fun t ht=>by rw[hsz];exact hfit t ht,nr:=hnr,env:=fun s y hy=>let ⟨v,k1,k2,_⟩:=eD s y hy; ⟨v,k1,qp.mono hle' k2⟩,state:=rfl,pending:=rfl }⟩)
        have hset:(st.heap++List.replicate 1 qn.hole).set st.heap.length (.loop ⟨st.env,ps.toList,a1,a2,none⟩)=st.heap++[.loop ⟨st.env,ps.toList,a1,a2,none⟩]:=by
         simp
        rw[hset]at mB
        rw[hsz1]at mB eB hleB
        generalize hCB:Ctx.box { Ca with D:=fun r=>Ca.D r∨r=w.heap.size } st.heap.length (w.heap.size+1)=CB at mB eB hleB
        generalize hwB:(w.alloc (.deferred (some []))).alloc (.loop lp)=wB at mB eB
        have hβn:CB.β st.heap.length=some (w.heap.size+1):=by rw[←hCB];simp[Ctx.box]
        have hDB:∀r,Ca.D r∨r=w.heap.size→CB.D r:=fun r hr=>by rw[←hCB];exact hr
        have hKB:∀ {i:jh},qp Ca i→qp CB i:=fun hr=>qp.mono hleB (qp.imp (C:=Ca) (C':={ Ca with D:=fun r=>Ca.D r∨r=w.heap.size }) ⟨fun _ _ _ h=>h,fun _ _ h=>h⟩ hr)
        have hleCB:Ca.le CB:=⟨hleB.k,hleB.b,hleB.w,fun r hr=>hDB r (.inl hr),hleB.t⟩
        have hargs:RepL (CB.shared ω w0) (first++[.fn (.yield st.heap.length) [] []]++captured) (as++[Value.func (.yield (w.heap.size+1)) ⟨[]⟩ ⟨[]⟩]++bs):=by
         refine qp.imp (C:=CB) (C':=CB.shared ω w0) ⟨fun _ _ _ h=>h,fun _ _ h=>h⟩ ?_
         exact RepL.append (RepL.append (hKB ha) (.cons _ _ _ _ (.fn _ _ _ _ _ _ ⟨_,hβn,rfl⟩ .nil .nil) .nil)) (hKB hb)
        refine⟨w.heap.size+1,[{ target:=.collected w.heap.size,args:=#[] }],wB,{ target:=.fn (.func k) ⟨bs⟩,args:=⟨as⟩++#[Value.func (.yield (w.heap.size+1)) #[] #[]] },wB,k,⟨as++[Value.func (.yield (w.heap.size+1)) ⟨[]⟩ ⟨[]⟩]++bs⟩,wB,?_,?_,fun _ _=>trivial,?_,fun hd=>by simp[qbi,Fence.wide]at hd,?_⟩
        ·subst hlp
         rw[←hwB]
         simp[Instr.enterLoop,qbi,Fence.wide,hsz1]
        ·have hc:a.eval (.const (Value.func (.yield (w.heap.size+1)) #[] #[]))=Value.func (.yield (w.heap.size+1)) #[] #[]:=rfl
         simp[resolve,hfv,Deferred.ofValue,hc]
        ·have hq:(⟨as⟩:Array Value)++#[Value.func (.yield (w.heap.size+1)) #[] #[]]++(⟨bs⟩:Array Value)=⟨as++[Value.func (.yield (w.heap.size+1)) ⟨[]⟩ ⟨[]⟩]++bs⟩:=by
          z8 Array.ext';simp
         simp only[invoke,hq]
         exact qrc hen _ _
        ·refine qxh.2 (CallsIn.mono (hshr _ _ _ _ hargs (qmg mB)) ?_)
         rintro ee w' ⟨u,C1,ω1,rfl,q1,q2,_,_⟩
         obtain⟨m2,e2⟩:=qtw mB eB q2 q1
         have hleb:CB.le (C1.back CB):=qs9 q1
         have hr2:(C1.back CB).β st.heap.length=some (w.heap.size+1):=hleb.b _ _ hβn
         obtain⟨lp2,hg2,lr2⟩:=qip m2 hl' hr2
         have hlen:st.heap.length<h'.length:=(m2.lt _ _ hr2).2
         have hC0:∀b r,C0.β b=some r→b<st.heap.length:=fun b r hb=>(m.lt b r (m.grown.b b r hb)).2
         have m3:=m2.gc (Nat.le_of_lt hlen) hbl hC0
         have hgl:(Instr.getLoop (w.heap.size+1)).run P w'=.ok lp2 w':=by simp[Instr.getLoop,qbu hg2 (by simp)]
         have hlt2:=(Array.getElem?_eq_some_iff.1 hg2).1
         have hu:jk w' (qay w' (w.heap.size+1) (.loop { lp2 with state:=.exhausted })) (w.heap.size+1):=qg0 hlt2 (by simp)
         have hnc:∀cs t fr,w'.heap[w.heap.size+1]?≠some (.cells cs t fr):=fun cs t fr hh=>by rw[hg2]at hh;cases hh
         have hnβ:∀b,((C1.back CB).cut st.heap.length).β b≠some (w.heap.size+1):=fun b hb=>by
          simp only[Ctx.cut]at hb
          split at hb
          ·rename_i hlt
           have:=m2.inj b st.heap.length _ hb hr2
           omega
          ·cases hb
         have hend:lp2.state≠.busy→(Instr.endLoop (w.heap.size+1)).run P w'=.ok lp2.pending (qay w' (w.heap.size+1) (.loop { lp2 with state:=.exhausted })):=fun hnb=>by
          have hb':(lp2.state == .busy)=false:=by
           cases hst:lp2.state<;>first|rfl|exact absurd hst hnb
          have hs2:=qdv (P:=P) (x:=.loop { lp2 with state:=.exhausted }) hg2 (by simp)
          simp only[Instr.endLoop,Sem.run_bind,hgl,Result.andThen_ok,hb',Bool.false_eq_true,if_false,Sem.run_ite,hs2,Sem.run_pure]
         have m4:=m3.other (D':=((C1.back CB).cut st.heap.length).D) hu hnβ (Nat.le_trans m.size (by omega)) hnc (fun kk hk=>⟨hk,fun hkk=>by
          have:=m3.dfr kk hk
          rw[hkk,hg2]at this;cases this⟩) m3.grown.d
         have hleC:Ca.le ((C1.back CB).cut st.heap.length):=Ctx.le_cut (Ctx.le_trans hleCB hleb) (fun b r hb=>(m.lt b r hb).2)
         have e4:EnvRel ((C1.back CB).cut st.heap.length) (qbx ω ω1 wB.heap.size) (qay w' (w.heap.size+1) (.loop { lp2 with state:=.exhausted })) w0.heap.size st.env a.tmps:=by
          intro s y hy
          obtain⟨v,k1,k2,k3⟩:=he s y hy
          obtain⟨v',j1,j2,j3⟩:=e2 s y hy
          rw[k1]at j1
          cases j1
          exact⟨v,k1,qp.mono hleC k2,fun hh=>(((j3 hh).cut _).other' (D':=((C1.back CB).cut st.heap.length).D) hu hnc)⟩
         have hfin:∀(xx:qo),StOk P w0 C0 C nt { st with heap:=h'.take st.heap.length } { a with defers:=[{ target:=.collected w.heap.size,args:=#[] }]++a.defers } (qay w' (w.heap.size+1) (.loop { lp2 with state:=.exhausted })):=by
          intro _
          refine⟨hsz,_,_,Ctx.le_trans hle hleC,?_,m4,e4⟩
          obtain⟨rs,g1,g2,g3⟩:=hmk
          refine⟨w.heap.size::rs,by rw[g1];rfl,List.nodup_cons.2 ⟨fun hm=>?_,g2⟩,?_⟩
          ·have:=(Array.getElem?_eq_some_iff.1 (m.dfr _ (g3 _ hm).1)).1;omega
          ·intro r hr
           rcases List.mem_cons.1 hr with rfl|hr
           ·exact⟨hleb.d _ (hDB _ (.inr rfl)),m.size⟩
           ·exact⟨hleC.d _ (g3 r hr).1,(g3 r hr).2⟩
         simp only[rangePost]
         split at hs
         ·rename_i hpn
          cases hs
          refine⟨none,_,?_,rfl,hfin .normal⟩
          rw[hend (by rw[lr2.state,hpn];simp),lr2.pending,hpn]
         ·cases hs
         ·rename_i xx hnn hpn
          cases hs
          cases x with
          |normal=>exact absurd rfl hnn
          |ret=>
           refine⟨some .ret,_,?_,wpIn_ret ⟨rfl,hfin .ret⟩⟩
           rw[hend (by rw[lr2.state,hpn];simp),lr2.pending,hpn]
          |exit id=>
           refine⟨some (.exit id),_,?_,wpIn_exit ⟨rfl,hfin .ret⟩⟩
           rw[hend (by rw[lr2.state,hpn];simp),lr2.pending,hpn]
     ·cases hs
    ·cases hs
  ·cases hs
theorem qts (hp':qx P p):∀n,q6m P (yf p n)∧jb2 P (yf p n)
 |0=>⟨fun ρ nt c ca st st' x _ _ hx=>by simp[yf]at hx,fun ρ nt c ca st st' x _ _ hx=>by simp[yf]at hx⟩
 |n+1=>by
  obtain⟨ih,ihl⟩:=qts hp' n
  have loop:jb2 P (yf p (n+1)):=by
   intro ρ nt c ca st st' x hc hn hx C w0 C0 a w hst
   obtain⟨hsz,C',ω',hle,hdf,m,he⟩:=hst
   have hC':∀b r,C'.β b=some r→b<st.heap.length:=fun b r hb=>(m.lt b r hb).2
   refine LoopWp.of_body ?_
   simp only[yf]at hx
   split at hx
   ·rename_i st1 h1
    refine wpIn_mono (ih ρ nt c ca st st1 .normal hc hn h1 C' w0 C0 a w ⟨hsz,C',ω',Ctx.le_refl _,hdf,m,he⟩) ?_
    intro e a' w' hq
    refine qok hq (fun _ hst1=>?_) (fun h=>absurd rfl h)
    have h2:=hst1.gc hC' (fun b r hb=>hC' b r (m.grown.2 b r hb))
    have h3:=ihl ρ nt c ca _ st' x hc hn hx C' w0 C0 a' w' h2
    intro b k cs hro hb hr
    obtain⟨e,a',w',hq,harr⟩:=h3 b k cs hro hb hr
    obtain⟨q1,q2,C2,ω2,q4,q5⟩:=hq
    exact⟨e,a',w',⟨q1,q2,C2,ω2,Ctx.le_trans hle q4,q5⟩,harr⟩
   ·rename_i hne
    refine wpIn_mono (ih ρ nt c ca st st' x hc hn hx C w0 C0 a w ⟨hsz,C',ω',hle,hdf,m,he⟩) ?_
    intro e a' w' hq
    refine qok hq (fun hxn hst1=>?_) (fun hxn hst1=>⟨rfl,hst1⟩)
    subst hxn
    exact absurd hx (hne st')
  refine⟨?_,loop⟩
  intro ρ nt c ca st st' x hc hn hx C w0 C0 a w hst
  obtain⟨h,hcc⟩:=hc
  cases c with
  |skip=>
   simp only[qbl,Option.some.injEq]at hcc
   subst hcc
   simp only[yf,Option.some.injEq,Prod.mk.injEq]at hx
   obtain⟨rfl,rfl⟩:=hx
   exact wpIn_skip ⟨rfl,hst⟩
  |label l=>
   simp only[qbl,Option.some.injEq]at hcc
   subst hcc
   simp only[yf,Option.some.injEq,Prod.mk.injEq]at hx
   obtain⟨rfl,rfl⟩:=hx
   exact wpIn_label ⟨rfl,hst⟩
  |region id ops draw=>
   simp only[qbl]at hcc
   have hcc:(draw=false∧∃sz,qwa P nt ops=some sz∧ca=.grow sz)∨qnw P h nt id ops draw=some ca:=by
    split at hcc
    ·rename_i sz hgs;cases hcc;exact .inl ⟨rfl,sz,hgs,rfl⟩
    ·exact .inr hcc
   rcases hcc with⟨rfl,sz,hgs,rfl⟩|hcc
   ·simp only[yf]at hx
    split at hx
    ·rename_i z xs o1 k o2 e0 e1
     cases hkk:(Nat.blt 0 k&&Nat.ble k 1073741824)with
     |false=>simp[hkk]at hx
     |true=>
      simp only[hkk,cT,Option.some.injEq,Prod.mk.injEq]at hx
      obtain⟨rfl,rfl⟩:=hx
      simp only[Bool.and_eq_true]at hkk
      obtain⟨hsz,C',ω',hle,hdf,m,he⟩:=hst
      refine wpIn_mono (jm1 hgs m he hsz hdf e0 e1 (Nat.blt_eq.mp hkk.1) (Nat.le_of_ble_eq_true hkk.2)) ?_
      rintro e a' w' ⟨rfl,q1,C2,ω2,q4,q5⟩
      exact⟨rfl,q1,C2,ω2,Ctx.le_trans hle q4,q5⟩
    ·cases hx
   have hform:∃na l keep,ca=.region na l keep:=by
    unfold qnw at hcc
    split at hcc
    ·split at hcc
     ·simp only[Option.some.injEq]at hcc;exact⟨_,_,_,hcc.symm⟩
     ·cases hcc
    ·cases hcc
   obtain⟨na,l,keep,hca⟩:=hform
   subst hca
   simp only[yf]at hx
   obtain⟨hsz,C',ω',hle,hdf,m,he⟩:=hst
   refine wpIn_mono (jb4 hp' (CodeOk.of' ih) hcc rfl hx m he hsz hdf) ?_
   rintro e a' w' ⟨q1,q2,C2,ω2,q4,q5⟩
   exact⟨q1,q2,C2,ω2,Ctx.le_trans hle q4,q5⟩
  |seq c1 c2=>
   simp only[qbl]at hcc
   split at hcc
   ·rename_i x1 x2 h1 h2
    cases hcc
    have nr2:ρ≠none→kn x1=true∧kn x2=true:=fun hh=>by simpa[kn]using hn hh
    simp only[yf]at hx
    refine wpIn_seq ?_
    split at hx
    ·rename_i st1 hs1
     refine wpIn_mono (ih ρ nt c1 x1 st st1 .normal ⟨h,h1⟩ (fun hh=>(nr2 hh).1) hs1 C w0 C0 a w hst) ?_
     intro e a' w' hq
     exact qok hq (fun _ hst1=>ih ρ nt c2 x2 st1 st' x ⟨h,h2⟩ (fun hh=>(nr2 hh).2) hx C w0 C0 a' w' hst1) (fun hh=>absurd rfl hh)
    ·rename_i hne
     refine wpIn_mono (ih ρ nt c1 x1 st st' x ⟨h,h1⟩ (fun hh=>(nr2 hh).1) hx C w0 C0 a w hst) ?_
     intro e a' w' hq
     refine qok hq (fun hxn hst1=>?_) (fun hxn hst1=>⟨rfl,hst1⟩)
     subst hxn
     exact absurd hx (hne st')
   ·cases hcc
  |cond c c1 c2=>
   simp only[qbl]at hcc
   split at hcc
   ·rename_i c' x1 x2 h0 h1 h2
    cases hcc
    have nr2:ρ≠none→kn x1=true∧kn x2=true:=fun hh=>by simpa[kn]using hn hh
    simp only[yf]at hx
    split at hx
    ·rename_i t ht
     have hst':=hst
     obtain⟨hsz,C',ω',hle,hdf,m,he⟩:=hst
     have hev:=(zt he.rep h0 ht).bool_inv
     refine wpIn_cond hev ?_
     cases t with
     |true=>simp only[cT]at hx;exact ih ρ nt c1 x1 st st' x ⟨h,h1⟩ (fun hh=>(nr2 hh).1) hx C w0 C0 a w hst'
     |false=>simp only[cond_false]at hx;exact ih ρ nt c2 x2 st st' x ⟨h,h2⟩ (fun hh=>(nr2 hh).2) hx C w0 C0 a w hst'
    ·cases hx
   ·cases hcc
  |block id b=>
   simp only[qbl]at hcc
   obtain⟨b',hb,rfl⟩:=Option.map_eq_some_iff.1 hcc
   simp only[yf]at hx
   refine wpIn_block ?_
   split at hx
   ·rename_i id' st1 hs1
    refine wpIn_mono (ih ρ nt b b' st st1 (.exit id') ⟨h,hb⟩ (fun hh=>by simpa[kn]using hn hh) hs1 C w0 C0 a w hst) ?_
    rintro e a' w' ⟨rfl,hst1⟩
    cases hid:Nat.beq id' id with
    |true=>
     simp only[hid,cT,Option.some.injEq,Prod.mk.injEq]at hx
     obtain⟨rfl,rfl⟩:=hx
     have:=Nat.eq_of_beq_eq_true hid
     subst this
     simp only[qut,Exit.inBlock,if_true]
     exact⟨rfl,hst1⟩
    |false=>
     simp only[hid,cond_false,Option.some.injEq,Prod.mk.injEq]at hx
     obtain⟨rfl,rfl⟩:=hx
     have hne:¬id'=id:=fun hh=>by subst hh;simp at hid
     simp only[qut,Exit.inBlock,hne,if_false]
     exact⟨rfl,hst1⟩
   ·rename_i hne
    refine wpIn_mono (ih ρ nt b b' st st' x ⟨h,hb⟩ (fun hh=>by simpa[kn]using hn hh) hx C w0 C0 a w hst) ?_
    rintro e a' w' ⟨rfl,hst1⟩
    cases x with
    |normal=>exact⟨rfl,hst1⟩
    |ret=>exact⟨rfl,hst1⟩
    |exit id'=>exact absurd hx (hne id' st')
  |loop b=>
   simp only[qbl]at hcc
   obtain⟨b',hb,rfl⟩:=Option.map_eq_some_iff.1 hcc
   exact(loop ρ nt b b' st st' x ⟨h,hb⟩ (fun hh=>by simpa[kn]using hn hh) hx C w0 C0 a w hst).wpIn
  |scope b=>
   simp only[qbl]at hcc
   obtain⟨b',hb,rfl⟩:=Option.map_eq_some_iff.1 hcc
   have hx':yf p n b' st=some (x,st'):=by
    simp only[yf]at hx
    split at hx
    ·rename_i st1 hs1
     cases n with
     |zero=>simp[yf]at hs1
     |succ n=>simp only[yf]at hx;rw[hs1];exact hx
    ·exact hx
   refine qp2 (wpIn_mono (ih ρ nt b b' st st' x ⟨h,hb⟩ (fun hh=>by simpa[kn]using hn hh) hx' C w0 C0 a w hst) ?_)
   rintro e a' w' ⟨rfl,hst1⟩
   cases x with
   |normal=>exact⟨rfl,hst1⟩
   |exit id=>exact⟨rfl,hst1⟩
   |ret=>exact⟨rfl,hst1⟩
  |rangeFunc f ps x1 x2=>
   simp only[qbl]at hcc
   split at hcc
   ·split at hcc
    ·rename_i hfit
     cases hcc
     simp only[yf]at hx
     cases ρ with
     |some l=>exact absurd (hn (by simp)) (by simp[kn])
     |none=>exact jh2 hp' (CodeOk.of' ih) (by assumption) (by assumption) (by assumption) (fun t ht=>by simpa using(Array.all_eq_true'.1 hfit) t (by simpa using ht)) hx hst
    ·cases hcc
   ·cases hcc
  |exit id=>
   simp only[qbl,Option.some.injEq]at hcc
   subst hcc
   simp only[yf,Option.some.injEq,Prod.mk.injEq]at hx
   obtain⟨rfl,rfl⟩:=hx
   exact wpIn_exit ⟨rfl,hst⟩
  |ret=>
   simp only[qbl,Option.some.injEq]at hcc
   subst hcc
   simp only[yf,Option.some.injEq,Prod.mk.injEq]at hx
   obtain⟨rfl,rfl⟩:=hx
   exact wpIn_ret ⟨rfl,hst⟩
  |_=>
   simp only[qbl,Option.some.injEq]at hcc
   subst hcc
   simp[yf]at hx
theorem q6n (hp':qx P p){n k:Nat}{args:List qa}{v:qa}{ow:Bool}(h:jy p (yf p n) k args=some (v,ow))(hb:zu 0 args=true):IsoCall P k args v ow:=
 (qjw hp' (CodeOk.of' (qts hp' n).1) h hb).2.2
end
end Go.Abs
