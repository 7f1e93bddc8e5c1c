/- The growth of an empty slice in slices.Grow. -/
import Derived.Test.YthpnjcfibpfbfaaGreatDoorAbsE
import Derived.Lib.AppendZeros
import Derived.ProofKit
import Derived.OpenShut
import Derived.ShutString
set_option linter.unusedVariables false
set_option linter.unusedSimpArgs false
namespace Go.Abs
section
variable {P:Program}{C C0:Ctx}{ω:Nat→Option Loc}{w w0:World}{hp:qi}{env:Env}{a:Act}{ρ:Option Nat}
theorem yi {a:Act}{d:Nat}{v:Value}(h:d<a.tmps.size):(a.put (some d) v).eval (.tmp d)=v:=by
 simp[Act.eval,Act.put,Array.getD_eq_getD_getElem?,h]
theorem zr {a:Act}{d j:Nat}{v:Value}(h:d≠j):(a.put (some d) v).eval (.tmp j)=a.eval (.tmp j):=by
 simp[Act.eval,Act.put,Array.getD_eq_getD_getElem?,Array.getElem?_setIfInBounds_ne h]
theorem kq {a:Act}{d:Nat}{v:Value}:(a.put (some d) v).tmps.size=a.tmps.size:=by simp[Act.put]
theorem qae {ops:Array Oper}{Q:Exit→Act→World→Prop}{i d:Nat}{rest:List Nat}{o:Oper}{v:Value}{w':World}(hi:ops[i]?=some o)(hg:o.guard=none)(hd:o.dst=some d)(hn:∀c,o.op≠.defer c)(hrun:(execOp a.eval o).run P w=.ok (.value v) w')
  (hk:wpOpsIn (yc ρ) 0 P ops Q rest (a.put (some d) v) w'):wpOpsIn (yc ρ) 0 P ops Q (i::rest) a w:=by
 rw[wpOpsIn_cons]
 unfold wpOpIn
 rw[hi]
 simp only[]
 rw[show Region.wanted o (yielded ops a.tmps)=true from by simp[Region.wanted,hg]]
 simp only[if_true]
 refine⟨fun _ _=>trivial,?_⟩
 rw[Oper.semAt_eq _ _ _ hn,hrun]
 rw[←hd]at hk
 exact hk
theorem qd7 {s d:Nat}{o:Oper}(h:qgf s d o=true):o.op=.move (.tmp s)∧o.dst=some d∧o.guard=none:=by
 unfold qgf at h
 split at h
 ·rename_i h1 h2 h3
  simp only[Bool.and_eq_true,beq_iff_eq]at h
  obtain⟨rfl,rfl⟩:=h
  exact⟨h1,h2,h3⟩
 ·cases h
theorem qof {s d:Nat}{o:Oper}(h:qjh s d o=true):o.op=.assign (.tmp s)∧o.dst=some d∧o.guard=none:=by
 unfold qjh at h
 split at h
 ·rename_i h1 h2 h3
  simp only[Bool.and_eq_true,beq_iff_eq]at h
  obtain⟨rfl,rfl⟩:=h
  exact⟨h1,h2,h3⟩
 ·cases h
theorem qvz {x d:Nat}{o:Oper}{t:TypeId}(h:qwd x d o=some t):∃c,o.op=.call c∧c.callee=.builtin .cap∧c.args=#[.tmp x]∧c.argTypes=#[t]∧o.dst=some d∧o.guard=none:=by
 unfold qwd at h
 split at h
 ·rename_i c _ h1 h2 h3
  split at h
  ·rename_i h4 h5 h6
   split at h
   ·rename_i hk
    simp only[Bool.and_eq_true,beq_iff_eq]at hk
    obtain⟨rfl,rfl⟩:=hk
    cases h
    exact⟨c,h1,h4,by apply Array.ext';simpa using h5,by apply Array.ext';simpa using h6,h2,h3⟩
   ·cases h
  ·cases h
 ·cases h
theorem qvl {x d:Nat}{o:Oper}{t:TypeId}(h:qu6 x d o=some t):∃c,o.op=.call c∧c.callee=.builtin .len∧c.args=#[.tmp x]∧c.argTypes=#[t]∧o.dst=some d∧o.guard=none:=by
 unfold qu6 at h
 split at h
 ·rename_i c _ h1 h2 h3
  split at h
  ·rename_i h4 h5 h6
   split at h
   ·rename_i hk
    simp only[Bool.and_eq_true,beq_iff_eq]at hk
    obtain⟨rfl,rfl⟩:=hk
    cases h
    exact⟨c,h1,h4,by apply Array.ext';simpa using h5,by apply Array.ext';simpa using h6,h2,h3⟩
   ·cases h
  ·cases h
 ·cases h
theorem qpg {x h d:Nat}{o:Oper}{t:TypeId}(hh:qsq x h d o=some t):o.op=.slice t (.tmp x) none (some (.tmp h)) none∧o.dst=some d∧o.guard=none:=by
 unfold qsq at hh
 split at hh
 ·rename_i h1 h2 h3
  split at hh
  ·rename_i hk
   simp only[Bool.and_eq_true,beq_iff_eq]at hk
   obtain⟨⟨rfl,rfl⟩,rfl⟩:=hk
   cases hh
   exact⟨h1,h2,h3⟩
  ·cases hh
 ·cases hh
theorem qwq {x y d:Nat}{o:Oper}{t u:TypeId}(h:qu0 x y d o=some (t,u)):∃c,o.op=.call c∧c.callee=.builtin .append∧c.args=#[.tmp x,.tmp y]∧c.argTypes=#[t,u]∧o.dst=some d∧o.guard=none:=by
 unfold qu0 at h
 split at h
 ·rename_i c _ h1 h2 h3
  split at h
  ·rename_i h4 h5 h6
   split at h
   ·rename_i hk
    simp only[Bool.and_eq_true,beq_iff_eq]at hk
    obtain⟨⟨rfl,rfl⟩,rfl⟩:=hk
    cases h
    exact⟨c,h1,h4,by apply Array.ext';simpa using h5,by apply Array.ext';simpa using h6,h2,h3⟩
   ·cases h
  ·cases h
 ·cases h
theorem qqm {o:Oper}{t e:TypeId}{x h:Nat}{b:Option Addr}{len cap n:Nat}(ho:o.op=.slice t (.tmp x) none (some (.tmp h)) none)(ht:P.underlying t=some (.slice e)){sz:Nat}(hn:qy P e=some sz)(hx:a.eval (.tmp x)=.slice b len cap)(hh:a.eval (.tmp h)=.int .i64 (n:Int))(hle:n≤cap):
  (execOp a.eval o).run P w=.ok (.value (.slice (if cap=0 then b else b.map (·.add 0)) n cap)) w:=by
 have hb:(0:Int)≤n∧(n:Int)≤cap:=by omega
 simp[execOp,ho,Instr.sliceAt,Instr.slice,run_underlying ht,hx,Instr.sliceBounds,hh,Instr.sliceBound,asIntOf,hle,j9 hn]
theorem qx9 {id nt:Nat}{ops:Array Oper}{sz:Nat}(hg:qkm P nt ops=some sz)(m:MInv P C ω w0 C0 hp w)(he:EnvRel C ω w w0.heap.size env a.tmps)(hsz:a.tmps.size=nt)(hmk:Marks C w0.heap.size a.defers){z k:Nat}{xs:List AVal}{o1 o2:Bool}
  (h0:qv 0 env=some (.list true z xs,o1)) (h1:qv 1 env=some (.int .i64 (.ofNat k),o2)) (hk0:0<k) (hk1:k≤1073741824):
  (Code.region id ops false).wpIn (yc ρ) 0 P (fun e a' w'=>e=.normal∧StOk P w0 C0 C nt ⟨[(0,.list false sz [],true)],hp⟩ a' w') a w:=by
 unfold qkm at hg
 split at hg
 ·rename_i t u hgt
  split at hg
  ·rename_i e kk ht hu
   split at hg
   ·rename_i i hi
    split at hg
    ·rename_i hc
     cases hg
     simp only[Bool.and_eq_true,decide_eq_true_eq,Option.isSome_iff_exists,beq_iff_eq]at hc
     obtain⟨⟨⟨⟨⟨⟨zv,hz⟩,hs0⟩,hby⟩,hnt⟩,⟨zl,hzl⟩⟩,hzs⟩:=hc
     have hsize:qy P e=some i.size:=by simp[qy,hi]
     unfold qw4 at hgt
     split at hgt
     ·rename_i p0 p1 p2 p3 p4 p5 p6 p7 p8 p9 hops
      split at hgt
      ·rename_i t2 t3 tt uu t7 t8 g2 g3 g5 g7 g8
       split at hgt
       ·rename_i hcc
        cases hgt
        simp only[Bool.and_eq_true,beq_iff_eq]at hcc
        obtain⟨⟨⟨⟨⟨⟨⟨⟨c0,c1⟩,c4⟩,c6⟩,c9⟩,x2⟩,x3⟩,x7⟩,x8⟩:=hcc
        replace x2:=x2.symm
        replace x3:=x3.symm
        replace x7:=x7.symm
        replace x8:=x8.symm
        subst x2;subst x3;subst x7;subst x8
        have hopsA:ops=#[p0,p1,p2,p3,p4,p5,p6,p7,p8,p9]:=by apply Array.ext';simpa using hops
        subst hopsA
        obtain⟨v0,q0,r0,_⟩:=he 0 _ h0
        obtain⟨v1,q1,r1,_⟩:=he 1 _ h1
        have hv0:v0=.slice none 0 0:=by
         rcases r0.list_inv with⟨_,_,h⟩|⟨h,_⟩|⟨h,_⟩
         ·exact h
         ·cases h
         ·cases h
        have hv1:v1=.int .i64 (k:Int):=by cases r1;rfl
        subst hv0;subst hv1
        have hl:26≤a.tmps.size:=by omega
        have e0:a.eval (.tmp 0)=.slice none 0 0:=by simp[Act.eval,Array.getD_eq_getD_getElem?,q0]
        have e1:a.eval (.tmp 1)=.int .i64 (k:Int):=by simp[Act.eval,Array.getD_eq_getD_getElem?,q1]
        obtain⟨a0,a0d,a0g⟩:=qd7 c0
        obtain⟨a1,a1d,a1g⟩:=qd7 c1
        obtain⟨cc2,a2,b2,b2a,b2t,a2d,a2g⟩:=qvz g2
        obtain⟨a3,a3d,a3g⟩:=qpg g3
        obtain⟨a4,a4d,a4g⟩:=qd7 c4
        obtain⟨cc5,a5,b5,b5a,b5t,a5d,a5g⟩:=qwq g5
        obtain⟨a6,a6d,a6g⟩:=qd7 c6
        obtain⟨cc7,a7,b7,b7a,b7t,a7d,a7g⟩:=qvl g7
        obtain⟨a8,a8d,a8g⟩:=qpg g8
        obtain⟨a9,a9d,a9g⟩:=qof c9
        refine wpIn_region ?_
        rw[show List.range (#[p0,p1,p2,p3,p4,p5,p6,p7,p8,p9]:Array Oper).size=[0,1,2,3,4,5,6,7,8,9]from rfl]
        refine qae (o:=p0) rfl a0g a0d (by simp[a0]) (v:=.slice none 0 0) (w':=w) (by simp[execOp,a0,e0]) ?_
        refine qae (o:=p1) rfl a1g a1d (by simp[a1]) (v:=.slice none 0 0) (w':=w) (by simp[execOp,a1,zr,e0]) ?_
        refine qae (o:=p2) rfl a2g a2d (by simp[a2]) (v:=.int .i64 0) (w':=w) ?_ ?_
        ·have:(((a.put (some 17) (.slice none 0 0)).put (some 18) (.slice none 0 0))).eval (.tmp 18)=.slice none 0 0:=yi (by rw[kq];omega)
         simp[execOp,a2,resolve,b2,b2a,b2t,invoke,builtin,Builtin.cap_,run_underlying ht,this,goInt]
        refine qae (o:=p3) rfl a3g a3d (by simp[a3]) (v:=.slice none 0 0) (w':=w) ?_ ?_
        ·have h17:((((a.put (some 17) (.slice none 0 0)).put (some 18) (.slice none 0 0))).put (some 19) (.int .i64 0)).eval (.tmp 17)=.slice none 0 0:=by
          rw[zr (by omega),zr (by omega),yi (by omega)]
         have h19:((((a.put (some 17) (.slice none 0 0)).put (some 18) (.slice none 0 0))).put (some 19) (.int .i64 0)).eval (.tmp 19)=.int .i64 ((0:Nat):Int):=by
          rw[yi (by rw[kq,kq];omega)];rfl
         have:=qqm (P:=P) (w:=w) (o:=p3) a3 ht hsize h17 h19 (Nat.le_refl 0)
         simpa using this
        refine qae (o:=p4) rfl a4g a4d (by simp[a4]) (v:=.int .i64 (k:Int)) (w':=w) (by simp[execOp,a4,zr,e1]) ?_
        have hap:=Lib.run_append_nil_zeros w t u p5.type e i zv .i64 kk ht hu hi hz k hk0 hs0 (by omega) (by
         have:k*i.bytes≤1073741824*4096:=Nat.mul_le_mul hk1 hby
         omega)
        refine qae (o:=p5) rfl a5g a5d (by simp[a5]) (v:=.slice (some ⟨w.heap.size,0,none⟩) k (grownCap w k 0 e)) (w':=w.drew.alloc (.cells (Builtin.zeroCells zv.cells k++Builtin.zeroCells zv.cells (grownCap w k 0 e-k)) e)) ?_ ?_
        ·generalize hA:(((((a.put (some 17) (.slice none 0 0)).put (some 18) (.slice none 0 0)).put (some 19) (.int .i64 0)).put (some 20) (.slice none 0 0)).put (some 21) (.int .i64 (k:Int)))=A
         have h20:A.eval (.tmp 20)=.slice none 0 0:=by
          rw[←hA,zr (by omega),yi (by simp only[kq];omega)]
         have h21:A.eval (.tmp 21)=.int .i64 (k:Int):=by
          rw[←hA,yi (by simp only[kq];omega)]
         simp[execOp,a5,resolve,b5,b5a,b5t,invoke,builtin,h20,h21,hap]
        generalize hW:w.drew.alloc (.cells (Builtin.zeroCells zv.cells k++Builtin.zeroCells zv.cells (grownCap w k 0 e-k)) e)=W
        generalize hA:(((((a.put (some 17) (.slice none 0 0)).put (some 18) (.slice none 0 0)).put (some 19) (.int .i64 0)).put (some 20) (.slice none 0 0)).put (some 21) (.int .i64 (k:Int)))=A
        have hA0:A.eval (.tmp 0)=.slice none 0 0:=by rw[←hA];simp only[zr (show(21:Nat)≠0 by omega),zr (show(20:Nat)≠0 by omega),zr (show(19:Nat)≠0 by omega),zr (show(18:Nat)≠0 by omega),zr (show(17:Nat)≠0 by omega),e0]
        have hAs:A.tmps.size=a.tmps.size:=by rw[←hA];simp only[kq]
        have hAd:A.defers=a.defers:=by rw[←hA];rfl
        generalize hcp:grownCap w k 0 e=cp
        have hcap:k≤cp:=by rw[←hcp];simpa using grownCap_ge w k 0 e
        refine qae (o:=p6) rfl a6g a6d (by simp[a6]) (v:=.slice none 0 0) (w':=W) (by simp[execOp,a6,zr,hA0]) ?_
        refine qae (o:=p7) rfl a7g a7d (by simp[a7]) (v:=.int .i64 0) (w':=W) ?_ ?_
        ·generalize hB:((A.put (some 22) (.slice (some ⟨w.heap.size,0,none⟩) k cp)).put (some 23) (.slice none 0 0))=B
         have h23:B.eval (.tmp 23)=.slice none 0 0:=by
          rw[←hB,yi (by rw[kq];omega)]
         simp[execOp,a7,resolve,b7,b7a,b7t,invoke,builtin,Builtin.len_,run_underlying ht,h23,goInt]
        refine qae (o:=p8) rfl a8g a8d (by simp[a8]) (v:=.slice (some ⟨w.heap.size,0,none⟩) 0 cp) (w':=W) ?_ ?_
        ·generalize hB:(((A.put (some 22) (.slice (some ⟨w.heap.size,0,none⟩) k cp)).put (some 23) (.slice none 0 0)).put (some 24) (.int .i64 0))=B
         have h22:B.eval (.tmp 22)=.slice (some ⟨w.heap.size,0,none⟩) k cp:=by
          rw[←hB,zr (by omega),zr (by omega),yi (by omega)]
         have h24:B.eval (.tmp 24)=.int .i64 ((0:Nat):Int):=by
          rw[←hB,yi (by simp only[kq];omega)];rfl
         have:=qqm (P:=P) (w:=W) (o:=p8) a8 ht hsize h22 h24 (Nat.zero_le cp)
         rw[if_neg (by omega)]at this
         simp only[Option.map_some,add_lit,Nat.add_zero]at this
         exact this
        refine qae (o:=p9) rfl a9g a9d (by simp[a9]) (v:=.slice (some ⟨w.heap.size,0,none⟩) 0 cp) (w':=W) ?_ ?_
        ·have h25:((((A.put (some 22) (.slice (some ⟨w.heap.size,0,none⟩) k cp)).put (some 23) (.slice none 0 0)).put (some 24) (.int .i64 0)).put (some 25) (.slice (some ⟨w.heap.size,0,none⟩) 0 cp)).eval (.tmp 25)=.slice (some ⟨w.heap.size,0,none⟩) 0 cp:=by
          rw[yi (by simp only[kq];omega)]
         simp[execOp,a9,h25]
        -- the end
        have hxd:=Ext.drew w
        obtain⟨zs,zvr,hzr2,hzrep,hz1⟩:=yh (C:=C) hzl
        have hzsz:zv.cells.size=i.size:=by
         have h3:zl.length=i.size:=by rw[hzl]at hzs;simpa using hzs
         have h4:=hzrep.length
         have h5:zvr=zv:=by
          have:=hzr2 w
          simp[zeroValue,typeInfo,hi,hz]at this
          exact this.symm
         subst h5
         simp only[Array.length_toList]at h4;omega
        have hpost:=qip (d:=.slot 0) (tmps:=a.tmps) (m.ext hxd) (he.ext hxd) (Builtin.zeroCells zv.cells k++Builtin.zeroCells zv.cells (cp-k)) e [] i.size cp [] (by simpa using RepI.nil) (by simp) (by simp) (by simp) (by simp) (by
         have hlen:∀n,(Builtin.zeroCells zv.cells n).size=n*i.size:=fun n=>by simp[Builtin.zeroCells,hzsz]
         rw[Array.size_append,hlen,hlen,←Nat.add_mul]
         exact Nat.mul_le_mul_right _ (by omega)) none
        rw[hcp]at hW
        rw[hW]at hpost
        have hd0:w.drew.heap.size=w.heap.size:=rfl
        rw[hd0]at hpost
        simp only[List.length_nil]at hpost
        clear hW hA0 hzr2 hzrep
        generalize hB:(((A.put (some 22) (.slice (some ⟨w.heap.size,0,none⟩) k cp)).put (some 23) (.slice none 0 0)).put (some 24) (.int .i64 0)).put (some 25) (.slice (some ⟨w.heap.size,0,none⟩) 0 cp)=B
        have hBs:B.tmps.size=a.tmps.size:=by rw[←hB];simp only[kq];omega
        have hBd:B.defers=a.defers:=by rw[←hB,←hAd];rfl
        obtain⟨C',ω',k1,k2,k3,k4,k5⟩:=hpost
        have hfin:StOk P w0 C0 C nt ⟨[(0,.list false i.size [],true)],hp⟩ (B.put (some 0) (.slice (some ⟨w.heap.size,0,none⟩) 0 cp)) W:=by
         refine⟨by rw[kq];omega,C',ω',k1,?_,k2,?_⟩
         ·rw[show(B.put (some 0) (.slice (some ⟨w.heap.size,0,none⟩) 0 cp)).defers=B.defers from rfl,hBd]
          exact hmk.mono k1
         ·intro s x hx
          simp only[qv]at hx
          cases hb:Nat.beq 0 s with
          |false=>simp[hb]at hx
          |true=>
           have:=Nat.eq_of_beq_eq_true hb
           subst this
           simp only[hb,cond_true,Option.some.injEq]at hx
           subst hx
           exact⟨_,by simp only[Act.put];rw[Array.getElem?_setIfInBounds_self_of_lt (by omega)],k4,k5⟩
        simp only[wpOpsIn]
        exact⟨trivial,hfin⟩
       ·cases hgt
      ·cases hgt
     ·cases hgt
    ·cases hg
   ·cases hg
  ·cases hg
 ·cases hg
end
def LoopWp (ρ:Option Nat)(P:Program)(c:Code)(Q:Exit→Act→World→Prop)(a:Act)(w:World):Prop:=
 ∀(b:Frame) (k:List Item) (cs:List Frame),b.roundOf=(yc ρ).round→(yc ρ).fn b.fn→(yc ρ).room (cs.length+1+0) →
  ∃e a' w',Q e a' w'∧ArrivesIn (Machine.fenced P (yc ρ)) P (lone (b.atR a (.code c::.inLoop c::k)) cs w) b k cs e a' w'
theorem LoopWp.wpIn {ρ P c Q a w}(h:LoopWp ρ P c Q a w):(Code.loop c).wpIn (yc ρ) 0 P Q a w:=by
 intro b k cs hro hb hr
 obtain⟨e,a',w',hq,harr⟩:=h b k cs hro hb hr
 exact⟨e,a',w',hq,.of_steps (.one (fenced_calm hb hr rfl) stepR_loop) harr⟩
theorem LoopWp.of_body {ρ P c Q a w}(h:c.wpIn (yc ρ) 0 P (Exit.then (LoopWp ρ P c Q) Q) a w):LoopWp ρ P c Q a w:=by
 intro b k cs hro hb hr
 obtain⟨e,a₁,w₁,hq,harr⟩:=h b (.inLoop c::k) cs hro hb hr
 cases e with
 |normal=>
  obtain⟨e₂,a₂,w₂,hq₂,harr₂⟩:=hq b k cs hro hb hr
  exact⟨e₂,a₂,w₂,hq₂,.of_steps (StepsIn.trans harr (.one (fenced_calm hb hr rfl) stepR_inLoop)) harr₂⟩
 |exit id=>exact⟨_,a₁,w₁,hq,.pass (x:=.inLoop c) rfl (fun _ _=>.inl (by simp)) harr⟩
 |goto l=>exact⟨_,a₁,w₁,hq,.pass (x:=.inLoop c) rfl (fun _ _=>.inl (by simp)) harr⟩
 |ret=>exact⟨_,a₁,w₁,hq,.pass (x:=.inLoop c) rfl (fun _ _=>.inl (by simp)) harr⟩
 |panic ch=>exact⟨_,a₁,w₁,hq,.pass (x:=.inLoop c) rfl (fun _ _=>.inl (by simp)) harr⟩
 |outgrown=>exact⟨_,a₁,w₁,hq,.pass (x:=.inLoop c) rfl (fun _ _=>.inl (by simp)) harr⟩
section
variable {P:Program}{p:je}{xc:XC}
def qr4 (P:Program)(w0:World)(C0 C:Ctx)(nt:Nat)(x:jo)(st':ASt):Exit→Act→World→Prop:=fun e a' w'=>e=qjg x∧StOk P w0 C0 C nt st' a' w'
def qqz (P:Program)(xc:XC):Prop:=
 ∀(ρ:Option Nat) (nt:Nat) (c:Code) (ca:ACode) (st st':ASt) (x:jo),qou P nt c ca→(ρ≠none→jr ca=true)→xc ca st=some (x,st') →
  ∀(C:Ctx) (w0:World) (C0:Ctx) (a:Act) (w:World),StOk P w0 C0 C nt st a w→c.wpIn (yc ρ) 0 P (qr4 P w0 C0 C nt x st') a w
theorem CodeOk.of' (h:qqz P xc):CodeOk P xc:=
 fun ρ nt c ca st st' x hc hn hx C ω w0 C0 a w m he hsz hdf=>wpIn_mono (h ρ nt c ca st st' x hc hn hx C w0 C0 a w ⟨hsz,C,ω,Ctx.le_refl C,hdf,m,he⟩) fun _ _ _ hq=>hq
def qto (P:Program)(xc:XC):Prop:=
 ∀(ρ:Option Nat) (nt:Nat) (c:Code) (ca:ACode) (st st':ASt) (x:jo),qou P nt c ca→(ρ≠none→jr ca=true)→xc (.loop ca) st=some (x,st') →
  ∀(C:Ctx) (w0:World) (C0:Ctx) (a:Act) (w:World),StOk P w0 C0 C nt st a w→LoopWp ρ P c (qr4 P w0 C0 C nt x st') a w
theorem StOk.gc {w0 C0 C nt n st a w}(h:StOk P w0 C0 C nt st a w)(hC:∀b r,C.β b=some r→b<n)(hC0:∀b r,C0.β b=some r→b<n):StOk P w0 C0 C nt (Abs.gc n st) a w:=by
 unfold Abs.gc
 cases hb:Nat.ble st.heap.length n with
 |true=>exact h
 |false=>
  simp only[cond_false]
  cases hb2:(yd n st.env&&js n (st.heap.take n))with
  |false=>exact h
  |true=>
   simp only[cond_true]
   simp only[Bool.and_eq_true]at hb2
   obtain⟨h1,C',ω',h3,h2,h4,h5⟩:=h
   have hn:n≤st.heap.length:=by
    rcases Nat.lt_or_ge n st.heap.length with h|h
    ·omega
    ·rw[Nat.ble_eq_true_of_le h]at hb;cases hb
   exact⟨h1,C'.cut n,ω',Ctx.le_cut h3 hC,⟨h2.choose,h2.choose_spec.1,h2.choose_spec.2.1,h2.choose_spec.2.2⟩,h4.gc hn hb2.2 hC0,h5.cut hb2.1⟩
theorem qgn {K w0 C0 C nt x st' Q e a w}(h:qr4 P w0 C0 C nt x st' e a w)(hn:x=.normal→StOk P w0 C0 C nt st' a w→K a w)(ho:x≠.normal→StOk P w0 C0 C nt st' a w→Q (qjg x) a w):Exit.then K Q e a w:=by
 obtain⟨rfl,h⟩:=h
 cases x with
 |normal=>exact hn rfl h
 |exit id=>exact ho (by simp) h
 |ret=>exact ho (by simp) h
theorem qps {b:Frame}{a k cs w c}:step P (lone (b.atR a (.code (.scope c)::k)) cs w)=.next (lone (b.atR a (.code c::.inScope c::k)) cs w):=
 step_lone_go (by simp[stepG,stepG.exec,Frame.atR])
theorem qmg {b:Frame}{a k cs w c}:step P (lone (b.atR a (.inScope c::k)) cs w)=.next (lone (b.atR a k) cs w):=
 step_lone_go (by simp[stepG,stepG.exec,Frame.atR])
theorem qhc {F:Fence}{n c Q a w}(h:c.wpIn F n P (Exit.noGoto Q) a w):(Code.scope c).wpIn F n P Q a w:=by
 intro b k cs hro hb hr
 obtain⟨e,a₁,w₁,hq,harr⟩:=h b (.inScope c::k) cs hro hb hr
 have h1:StepsIn (Machine.fenced P F) P (lone (b.atR a (.code (.scope c)::k)) cs w) (lone (b.atR a (.code c::.inScope c::k)) cs w):=.one (fenced_calm hb hr rfl) qps
 cases e with
 |normal=>exact⟨.normal,a₁,w₁,hq,StepsIn.trans h1 (StepsIn.trans harr (.one (fenced_calm hb hr rfl) qmg))⟩
 |goto l=>exact hq.elim
 |exit id=>
  refine⟨.exit id,a₁,w₁,hq,.of_steps h1 ?_⟩
  refine⟨fun k' hk=>harr.1 k' (by simp[exitTo,hk]),fun hro' hnone=>?_⟩
  exact harr.2 hro' (by simp[exitTo,hnone])
 |ret=>exact⟨_,a₁,w₁,hq,.of_steps h1 harr⟩
 |panic ch=>exact⟨_,a₁,w₁,hq,.of_steps h1 harr⟩
 |outgrown=>exact⟨_,a₁,w₁,hq,.of_steps h1 harr⟩
theorem MInv.addD {C C0 ω w0 w hp}(m:MInv P C ω w0 C0 hp w):MInv P { C with D:=fun r=>C.D r∨r=w.heap.size } ω w0 C0 hp (w.alloc (.deferred (some []))):=by
 have hx:Ext w (w.alloc (.deferred (some []))):=Ext.alloc w _ (fun c t fr h=>by cases h)
 have m':=m.ext hx
 exact { m' with
  dfr:=fun r hr=>by
   rcases hr with hr|hr
   ·exact m'.dfr r hr
   ·subst hr;rw[qat,if_pos rfl]
  grown:=⟨m.grown.k,m.grown.b,m.grown.w,fun r h=>.inl (m.grown.d r h),m.grown.t⟩
  box:=fun b x r hx' hb=>BoxRel.imp (C:=C) (C':={ C with D:=fun r=>C.D r∨r=w.heap.size }) ⟨fun _ _ _ h=>h,fun _ _ h=>h⟩ rfl (fun _ _ _ ho=>ho) (m'.box b x r hx' hb) }
theorem qw3 (hp':ProgOk P p)(hx:CodeOk P xc){f ps x1 x2 f' a1 a2 h nt st st' x C w0 C0 a w}
  (hf:ql f=some f') (h1:ye P h nt x1=some a1) (h2:ye P h nt x2=some a2) (hfit:∀t∈ps.toList,t<nt) (hs:ky p xc f' ps.toList a1 a2 st=some (x,st')) (hst:StOk P w0 C0 C nt st a w):
  (Code.rangeFunc f ps x1 x2).wpIn (yc none) 0 P (qr4 P w0 C0 C nt x st') a w:=by
 obtain⟨hsz,Ca,ω,hle,hmk,m,he⟩:=hst
 unfold ky at hs
 cases hnr:(jr a1&&jr a2)with
 |false=>simp[hnr]at hs
 |true=>
  simp only[hnr,cond_true]at hs
  simp only[Bool.and_eq_true]at hnr
  split at hs
  ·rename_i k first captured hev
   have hrf:=qn he.rep hf hev
   generalize hfv:a.eval f=fv at hrf
   cases hrf with
   |fn g g' _ _ as bs hg ha hb=>
    simp only[RepFn]at hg
    subst hg
    split at hs
    ·rename_i _r1 _r2 h' hcf
     split at hs
     ·rename_i l' hl'
      cases hbl:js st.heap.length (h'.take st.heap.length)with
      |false=>simp[hbl]at hs
      |true=>
       simp only[hbl,cond_true]at hs
       ·obtain⟨hen,hshr⟩:=qfh hp' hx hcf
        -- the loop's record,and the block before it
        refine wpIn_rangeFunc fun fn _=>?_
        generalize hlp:({ state:=.ready,pending:=none,fn:=fn,tmps:=a.tmps,params:=ps,assign:=x1,body:=x2,defers:=w.heap.size }:Loop)=lp
        have mD:=(m.addD).holes 1
        have eD:EnvRel { Ca with D:=fun r=>Ca.D r∨r=w.heap.size } ω (w.alloc (.deferred (some []))) w0.heap.size st.env a.tmps:=fun s y hy=>
         let ⟨v,k1,k2,k3⟩:=he.ext (Ext.alloc w _ (fun c t fr h=>by cases h)) s y hy
         ⟨v,k1,Rep.sameD k2,k3⟩
        have hhole:(st.heap++List.replicate 1 .hole)[st.heap.length]?=some .hole:=by simp
        have hsz1:(w.alloc (.deferred (some []))).heap.size=w.heap.size+1:=by rw[World.size_alloc]
        obtain⟨mB,eB,hleB⟩:=mD.newBox eD hhole (.loop lp) (fun c t fr h=>by cases h) (.loop ⟨st.env,ps.toList,a1,a2,none⟩) (by
         intro C' ω' w' hle' hg'
         subst hlp
         exact⟨_,hg',{ assign:=⟨h,by rw[hsz];exact h1⟩,body:=⟨h,by rw[hsz];exact h2⟩,params:=rfl,fits:=fun t ht=>by rw[hsz];exact hfit t ht,nr:=hnr,env:=fun s y hy=>let ⟨v,k1,k2,_⟩:=eD s y hy; ⟨v,k1,RepI.mono hle' k2⟩,state:=rfl,pending:=rfl }⟩)
        have hset:(st.heap++List.replicate 1 ABox.hole).set st.heap.length (.loop ⟨st.env,ps.toList,a1,a2,none⟩)=st.heap++[.loop ⟨st.env,ps.toList,a1,a2,none⟩]:=by
         simp
        rw[hset]at mB
        rw[hsz1]at mB eB hleB
        generalize hCB:Ctx.box { Ca with D:=fun r=>Ca.D r∨r=w.heap.size } st.heap.length (w.heap.size+1)=CB at mB eB hleB
        generalize hwB:(w.alloc (.deferred (some []))).alloc (.loop lp)=wB at mB eB
        have hβn:CB.β st.heap.length=some (w.heap.size+1):=by rw[←hCB];simp[Ctx.box]
        have hDB:∀r,Ca.D r∨r=w.heap.size→CB.D r:=fun r hr=>by rw[←hCB];exact hr
        have hKB:∀ {i:RIx},RepI Ca i→RepI CB i:=fun hr=>RepI.mono hleB (RepI.imp (C:=Ca) (C':={ Ca with D:=fun r=>Ca.D r∨r=w.heap.size }) ⟨fun _ _ _ h=>h,fun _ _ h=>h⟩ hr)
        have hleCB:Ca.le CB:=⟨hleB.k,hleB.b,hleB.w,fun r hr=>hDB r (.inl hr),hleB.t⟩
        have hargs:RepL (CB.shared ω w0) (first++[.fn (.yield st.heap.length) [] []]++captured) (as++[Value.func (.yield (w.heap.size+1)) ⟨[]⟩ ⟨[]⟩]++bs):=by
         refine RepI.imp (C:=CB) (C':=CB.shared ω w0) ⟨fun _ _ _ h=>h,fun _ _ h=>h⟩ ?_
         exact RepL.append (RepL.append (hKB ha) (.cons _ _ _ _ (.fn _ _ _ _ _ _ ⟨_,hβn,rfl⟩ .nil .nil) .nil)) (hKB hb)
        refine⟨w.heap.size+1,[{ target:=.collected w.heap.size,args:=#[] }],wB,{ target:=.fn (.func k) ⟨bs⟩,args:=⟨as⟩++#[Value.func (.yield (w.heap.size+1)) #[] #[]] },wB,k,⟨as++[Value.func (.yield (w.heap.size+1)) ⟨[]⟩ ⟨[]⟩]++bs⟩,wB,?_,?_,fun _ _=>trivial,?_,fun hd=>by simp[yc,Fence.wide]at hd,?_⟩
        ·subst hlp
         rw[←hwB]
         simp[Instr.enterLoop,yc,Fence.wide,hsz1]
        ·have hc:a.eval (.const (Value.func (.yield (w.heap.size+1)) #[] #[]))=Value.func (.yield (w.heap.size+1)) #[] #[]:=rfl
         simp[resolve,hfv,Deferred.ofValue,hc]
        ·have hq:(⟨as⟩:Array Value)++#[Value.func (.yield (w.heap.size+1)) #[] #[]]++(⟨bs⟩:Array Value)=⟨as++[Value.func (.yield (w.heap.size+1)) ⟨[]⟩ ⟨[]⟩]++bs⟩:=by
          apply Array.ext';simp
         simp only[invoke,hq]
         exact qh3 hen _ _
        ·refine qj3.2 (CallsIn.mono (hshr _ _ _ _ hargs (qfj mB)) ?_)
         rintro ee w' ⟨u,C1,ω1,rfl,q1,q2,_,_⟩
         obtain⟨m2,e2⟩:=qi8 mB eB q2 q1
         have hleb:CB.le (C1.back CB):=qio q1
         have hr2:(C1.back CB).β st.heap.length=some (w.heap.size+1):=hleb.b _ _ hβn
         obtain⟨lp2,hg2,lr2⟩:=qdh m2 hl' hr2
         have hlen:st.heap.length<h'.length:=(m2.lt _ _ hr2).2
         have hC0:∀b r,C0.β b=some r→b<st.heap.length:=fun b r hb=>(m.lt b r (m.grown.b b r hb)).2
         have m3:=m2.gc (Nat.le_of_lt hlen) hbl hC0
         have hgl:(Instr.getLoop (w.heap.size+1)).run P w'=.ok lp2 w':=by simp[Instr.getLoop,yj hg2 (by simp)]
         have hlt2:=(Array.getElem?_eq_some_iff.1 hg2).1
         have hu:Upd w' (zm w' (w.heap.size+1) (.loop { lp2 with state:=.exhausted })) (w.heap.size+1):=qcb hlt2 (by simp)
         have hnc:∀cs t fr,w'.heap[w.heap.size+1]?≠some (.cells cs t fr):=fun cs t fr hh=>by rw[hg2]at hh;cases hh
         have hnβ:∀b,((C1.back CB).cut st.heap.length).β b≠some (w.heap.size+1):=fun b hb=>by
          simp only[Ctx.cut]at hb
          split at hb
          ·rename_i hlt
           have:=m2.inj b st.heap.length _ hb hr2
           omega
          ·cases hb
         have hend:lp2.state≠.busy→(Instr.endLoop (w.heap.size+1)).run P w'=.ok lp2.pending (zm w' (w.heap.size+1) (.loop { lp2 with state:=.exhausted })):=fun hnb=>by
          have hb':(lp2.state == .busy)=false:=by
           cases hst:lp2.state<;>first|rfl|exact absurd hst hnb
          have hs2:=kw (P:=P) (x:=.loop { lp2 with state:=.exhausted }) hg2 (by simp)
          simp only[Instr.endLoop,Sem.run_bind,hgl,Result.andThen_ok,hb',Bool.false_eq_true,if_false,Sem.run_ite,hs2,Sem.run_pure]
         have m4:=m3.other (D':=((C1.back CB).cut st.heap.length).D) hu hnβ (Nat.le_trans m.size (by omega)) hnc (fun kk hk=>⟨hk,fun hkk=>by
          have:=m3.dfr kk hk
          rw[hkk,hg2]at this;cases this⟩) m3.grown.d
         have hleC:Ca.le ((C1.back CB).cut st.heap.length):=Ctx.le_cut (Ctx.le_trans hleCB hleb) (fun b r hb=>(m.lt b r hb).2)
         have e4:EnvRel ((C1.back CB).cut st.heap.length) (yk ω ω1 wB.heap.size) (zm w' (w.heap.size+1) (.loop { lp2 with state:=.exhausted })) w0.heap.size st.env a.tmps:=by
          intro s y hy
          obtain⟨v,k1,k2,k3⟩:=he s y hy
          obtain⟨v',j1,j2,j3⟩:=e2 s y hy
          rw[k1]at j1
          cases j1
          exact⟨v,k1,RepI.mono hleC k2,fun hh=>(((j3 hh).cut _).other' (D':=((C1.back CB).cut st.heap.length).D) hu hnc)⟩
         have hfin:∀(xx:jo),StOk P w0 C0 C nt { st with heap:=h'.take st.heap.length } { a with defers:=[{ target:=.collected w.heap.size,args:=#[] }]++a.defers } (zm w' (w.heap.size+1) (.loop { lp2 with state:=.exhausted })):=by
          intro _
          refine⟨hsz,_,_,Ctx.le_trans hle hleC,?_,m4,e4⟩
          obtain⟨rs,g1,g2,g3⟩:=hmk
          refine⟨w.heap.size::rs,by rw[g1];rfl,List.nodup_cons.2 ⟨fun hm=>?_,g2⟩,?_⟩
          ·have:=(Array.getElem?_eq_some_iff.1 (m.dfr _ (g3 _ hm).1)).1;omega
          ·intro r hr
           rcases List.mem_cons.1 hr with rfl|hr
           ·exact⟨hleb.d _ (hDB _ (.inr rfl)),m.size⟩
           ·exact⟨hleC.d _ (g3 r hr).1,(g3 r hr).2⟩
         simp only[rangePost]
         split at hs
         ·rename_i hpn
          cases hs
          refine⟨none,_,?_,rfl,hfin .normal⟩
          rw[hend (by rw[lr2.state,hpn];simp),lr2.pending,hpn]
         ·cases hs
         ·rename_i xx hnn hpn
          cases hs
          cases x with
          |normal=>exact absurd rfl hnn
          |ret=>
           refine⟨some .ret,_,?_,wpIn_ret ⟨rfl,hfin .ret⟩⟩
           rw[hend (by rw[lr2.state,hpn];simp),lr2.pending,hpn]
          |exit id=>
           refine⟨some (.exit id),_,?_,wpIn_exit ⟨rfl,hfin .ret⟩⟩
           rw[hend (by rw[lr2.state,hpn];simp),lr2.pending,hpn]
     ·cases hs
    ·cases hs
  ·cases hs
theorem qlr (hp':ProgOk P p):∀n,qqz P (qw p n)∧qto P (qw p n)
 |0=>⟨fun ρ nt c ca st st' x _ _ hx=>by simp[qw]at hx,fun ρ nt c ca st st' x _ _ hx=>by simp[qw]at hx⟩
 |n+1=>by
  obtain⟨ih,ihl⟩:=qlr hp' n
  have loop:qto P (qw p (n+1)):=by
   intro ρ nt c ca st st' x hc hn hx C w0 C0 a w hst
   obtain⟨hsz,C',ω',hle,hdf,m,he⟩:=hst
   have hC':∀b r,C'.β b=some r→b<st.heap.length:=fun b r hb=>(m.lt b r hb).2
   refine LoopWp.of_body ?_
   simp only[qw]at hx
   split at hx
   ·rename_i st1 h1
    refine wpIn_mono (ih ρ nt c ca st st1 .normal hc hn h1 C' w0 C0 a w ⟨hsz,C',ω',Ctx.le_refl _,hdf,m,he⟩) ?_
    intro e a' w' hq
    refine qgn hq (fun _ hst1=>?_) (fun h=>absurd rfl h)
    have h2:=hst1.gc hC' (fun b r hb=>hC' b r (m.grown.2 b r hb))
    have h3:=ihl ρ nt c ca _ st' x hc hn hx C' w0 C0 a' w' h2
    intro b k cs hro hb hr
    obtain⟨e,a',w',hq,harr⟩:=h3 b k cs hro hb hr
    obtain⟨q1,q2,C2,ω2,q4,q5⟩:=hq
    exact⟨e,a',w',⟨q1,q2,C2,ω2,Ctx.le_trans hle q4,q5⟩,harr⟩
   ·rename_i hne
    refine wpIn_mono (ih ρ nt c ca st st' x hc hn hx C w0 C0 a w ⟨hsz,C',ω',hle,hdf,m,he⟩) ?_
    intro e a' w' hq
    refine qgn hq (fun hxn hst1=>?_) (fun hxn hst1=>⟨rfl,hst1⟩)
    subst hxn
    exact absurd hx (hne st')
  refine⟨?_,loop⟩
  intro ρ nt c ca st st' x hc hn hx C w0 C0 a w hst
  obtain⟨h,hcc⟩:=hc
  cases c with
  |skip=>
   simp only[ye,Option.some.injEq]at hcc
   subst hcc
   simp only[qw,Option.some.injEq,Prod.mk.injEq]at hx
   obtain⟨rfl,rfl⟩:=hx
   exact wpIn_skip ⟨rfl,hst⟩
  |label l=>
   simp only[ye,Option.some.injEq]at hcc
   subst hcc
   simp only[qw,Option.some.injEq,Prod.mk.injEq]at hx
   obtain⟨rfl,rfl⟩:=hx
   exact wpIn_label ⟨rfl,hst⟩
  |region id ops draw=>
   simp only[ye]at hcc
   have hcc:(draw=false∧∃sz,qkm P nt ops=some sz∧ca=.grow sz)∨qgb P h nt id ops draw=some ca:=by
    split at hcc
    ·rename_i sz hgs;cases hcc;exact .inl ⟨rfl,sz,hgs,rfl⟩
    ·exact .inr hcc
   rcases hcc with⟨rfl,sz,hgs,rfl⟩|hcc
   ·simp only[qw]at hx
    split at hx
    ·rename_i z xs o1 k o2 e0 e1
     cases hkk:(Nat.blt 0 k&&Nat.ble k 1073741824)with
     |false=>simp[hkk]at hx
     |true=>
      simp only[hkk,cond_true,Option.some.injEq,Prod.mk.injEq]at hx
      obtain⟨rfl,rfl⟩:=hx
      simp only[Bool.and_eq_true]at hkk
      obtain⟨hsz,C',ω',hle,hdf,m,he⟩:=hst
      refine wpIn_mono (qx9 hgs m he hsz hdf e0 e1 (Nat.blt_eq.mp hkk.1) (Nat.le_of_ble_eq_true hkk.2)) ?_
      rintro e a' w' ⟨rfl,q1,C2,ω2,q4,q5⟩
      exact⟨rfl,q1,C2,ω2,Ctx.le_trans hle q4,q5⟩
    ·cases hx
   have hform:∃na l keep,ca=.region na l keep:=by
    unfold qgb at hcc
    split at hcc
    ·split at hcc
     ·simp only[Option.some.injEq]at hcc;exact⟨_,_,_,hcc.symm⟩
     ·cases hcc
    ·cases hcc
   obtain⟨na,l,keep,hca⟩:=hform
   subst hca
   simp only[qw]at hx
   obtain⟨hsz,C',ω',hle,hdf,m,he⟩:=hst
   refine wpIn_mono (qur hp' (CodeOk.of' ih) hcc rfl hx m he hsz hdf) ?_
   rintro e a' w' ⟨q1,q2,C2,ω2,q4,q5⟩
   exact⟨q1,q2,C2,ω2,Ctx.le_trans hle q4,q5⟩
  |seq c1 c2=>
   simp only[ye]at hcc
   split at hcc
   ·rename_i x1 x2 h1 h2
    cases hcc
    have nr2:ρ≠none→jr x1=true∧jr x2=true:=fun hh=>by simpa[jr]using hn hh
    simp only[qw]at hx
    refine wpIn_seq ?_
    split at hx
    ·rename_i st1 hs1
     refine wpIn_mono (ih ρ nt c1 x1 st st1 .normal ⟨h,h1⟩ (fun hh=>(nr2 hh).1) hs1 C w0 C0 a w hst) ?_
     intro e a' w' hq
     exact qgn hq (fun _ hst1=>ih ρ nt c2 x2 st1 st' x ⟨h,h2⟩ (fun hh=>(nr2 hh).2) hx C w0 C0 a' w' hst1) (fun hh=>absurd rfl hh)
    ·rename_i hne
     refine wpIn_mono (ih ρ nt c1 x1 st st' x ⟨h,h1⟩ (fun hh=>(nr2 hh).1) hx C w0 C0 a w hst) ?_
     intro e a' w' hq
     refine qgn hq (fun hxn hst1=>?_) (fun hxn hst1=>⟨rfl,hst1⟩)
     subst hxn
     exact absurd hx (hne st')
   ·cases hcc
  |cond c c1 c2=>
   simp only[ye]at hcc
   split at hcc
   ·rename_i c' x1 x2 h0 h1 h2
    cases hcc
    have nr2:ρ≠none→jr x1=true∧jr x2=true:=fun hh=>by simpa[jr]using hn hh
    simp only[qw]at hx
    split at hx
    ·rename_i t ht
     have hst':=hst
     obtain⟨hsz,C',ω',hle,hdf,m,he⟩:=hst
     have hev:=(qn he.rep h0 ht).bool_inv
     refine wpIn_cond hev ?_
     cases t with
     |true=>simp only[cond_true]at hx;exact ih ρ nt c1 x1 st st' x ⟨h,h1⟩ (fun hh=>(nr2 hh).1) hx C w0 C0 a w hst'
     |false=>simp only[cond_false]at hx;exact ih ρ nt c2 x2 st st' x ⟨h,h2⟩ (fun hh=>(nr2 hh).2) hx C w0 C0 a w hst'
    ·cases hx
   ·cases hcc
  |block id b=>
   simp only[ye]at hcc
   obtain⟨b',hb,rfl⟩:=Option.map_eq_some_iff.1 hcc
   simp only[qw]at hx
   refine wpIn_block ?_
   split at hx
   ·rename_i id' st1 hs1
    refine wpIn_mono (ih ρ nt b b' st st1 (.exit id') ⟨h,hb⟩ (fun hh=>by simpa[jr]using hn hh) hs1 C w0 C0 a w hst) ?_
    rintro e a' w' ⟨rfl,hst1⟩
    cases hid:Nat.beq id' id with
    |true=>
     simp only[hid,cond_true,Option.some.injEq,Prod.mk.injEq]at hx
     obtain⟨rfl,rfl⟩:=hx
     have:=Nat.eq_of_beq_eq_true hid
     subst this
     simp only[qjg,Exit.inBlock,if_true]
     exact⟨rfl,hst1⟩
    |false=>
     simp only[hid,cond_false,Option.some.injEq,Prod.mk.injEq]at hx
     obtain⟨rfl,rfl⟩:=hx
     have hne:¬id'=id:=fun hh=>by subst hh;simp at hid
     simp only[qjg,Exit.inBlock,hne,if_false]
     exact⟨rfl,hst1⟩
   ·rename_i hne
    refine wpIn_mono (ih ρ nt b b' st st' x ⟨h,hb⟩ (fun hh=>by simpa[jr]using hn hh) hx C w0 C0 a w hst) ?_
    rintro e a' w' ⟨rfl,hst1⟩
    cases x with
    |normal=>exact⟨rfl,hst1⟩
    |ret=>exact⟨rfl,hst1⟩
    |exit id'=>exact absurd hx (hne id' st')
  |loop b=>
   simp only[ye]at hcc
   obtain⟨b',hb,rfl⟩:=Option.map_eq_some_iff.1 hcc
   exact(loop ρ nt b b' st st' x ⟨h,hb⟩ (fun hh=>by simpa[jr]using hn hh) hx C w0 C0 a w hst).wpIn
  |scope b=>
   simp only[ye]at hcc
   obtain⟨b',hb,rfl⟩:=Option.map_eq_some_iff.1 hcc
   have hx':qw p n b' st=some (x,st'):=by
    simp only[qw]at hx
    split at hx
    ·rename_i st1 hs1
     cases n with
     |zero=>simp[qw]at hs1
     |succ n=>simp only[qw]at hx;rw[hs1];exact hx
    ·exact hx
   refine qhc (wpIn_mono (ih ρ nt b b' st st' x ⟨h,hb⟩ (fun hh=>by simpa[jr]using hn hh) hx' C w0 C0 a w hst) ?_)
   rintro e a' w' ⟨rfl,hst1⟩
   cases x with
   |normal=>exact⟨rfl,hst1⟩
   |exit id=>exact⟨rfl,hst1⟩
   |ret=>exact⟨rfl,hst1⟩
  |rangeFunc f ps x1 x2=>
   simp only[ye]at hcc
   split at hcc
   ·split at hcc
    ·rename_i hfit
     cases hcc
     simp only[qw]at hx
     cases ρ with
     |some l=>exact absurd (hn (by simp)) (by simp[jr])
     |none=>exact qw3 hp' (CodeOk.of' ih) (by assumption) (by assumption) (by assumption) (fun t ht=>by simpa using(Array.all_eq_true'.1 hfit) t (by simpa using ht)) hx hst
    ·cases hcc
   ·cases hcc
  |exit id=>
   simp only[ye,Option.some.injEq]at hcc
   subst hcc
   simp only[qw,Option.some.injEq,Prod.mk.injEq]at hx
   obtain⟨rfl,rfl⟩:=hx
   exact wpIn_exit ⟨rfl,hst⟩
  |ret=>
   simp only[ye,Option.some.injEq]at hcc
   subst hcc
   simp only[qw,Option.some.injEq,Prod.mk.injEq]at hx
   obtain⟨rfl,rfl⟩:=hx
   exact wpIn_ret ⟨rfl,hst⟩
  |_=>
   simp only[ye,Option.some.injEq]at hcc
   subst hcc
   simp[qw]at hx
theorem qql (hp':ProgOk P p){n k args v ow}(h:qd p (qw p n) k args=some (v,ow))(hb:qo 0 args=true):IsoCall P k args v ow:=
 (qd4 hp' (CodeOk.of' (qlr hp' n).1) h hb).2.2
end
def j6 {α:Type}(n:Nat)(f:Nat→α):α:=match n with
 |0=>f 0
 |m+1=>f (Nat.succ m)
def qjc {α:Type}(n:Int)(f:Int→α):α:=match n with
 | .ofNat a=>j6 a fun a=>f (.ofNat a)
 | .negSucc a=>j6 a fun a=>f (.negSucc a)
def qds {α:Type}(b:Bool)(f:Bool→α):α:=match b with
 |true=>f true
 |false=>f false
def ql0 {α:Type}(k:IntKind)(f:IntKind→α):α:=match k with
 | .i8=>f .i8 | .i16=>f .i16 | .i32=>f .i32 | .i64=>f .i64 | .u8=>f .u8 | .u16=>f .u16 | .u32=>f .u32 | .u64=>f .u64
def qci {α:Type}:List UInt8→(List UInt8→α)→α
 | [],f=>f []
 |c::s,f=>qci s fun s=>f (c::s)
def qls {α:Type}(g:Fn)(f:Fn→α):α:=match g with
 | .func k=>j6 k fun k=>f (.func k)
 | .yield k=>j6 k fun k=>f (.yield k)
 |g=>f g
mutual
def zq {α:Type}:AVal→(AVal→α)→α
 | .bool b,f=>qds b fun b=>f (.bool b)
 | .int k n,f=>ql0 k fun k=>qjc n fun n=>f (.int k n)
 | .str s,f=>qci s fun s=>f (.str s)
 | .list b sz xs,f=>qds b fun b=>j6 sz fun sz=>qcn xs fun xs=>f (.list b sz xs)
 | .ms b o l,f=>j6 b fun b=>j6 o fun o=>j6 l fun l=>f (.ms b o l)
 | .ptr b o,f=>j6 b fun b=>j6 o fun o=>f (.ptr b o)
 | .vptr v,f=>zq v fun v=>f (.vptr v)
 | .pend n,f=>j6 n fun n=>f (.pend n)
 | .nilptr,f=>f .nilptr
 | .map b,f=>j6 b fun b=>f (.map b)
 | .nilmap,f=>f .nilmap
 | .fn g a c,f=>qls g fun g=>qcn a fun a=>qcn c fun c=>f (.fn g a c)
 | .nilfn,f=>f .nilfn
 | .agg cs,f=>qcn cs fun cs=>f (.agg cs)
 | .tup cs,f=>qcn cs fun cs=>f (.tup cs)
 | .undef,f=>f .undef
 | .any,f=>f .any
 | .vref b ver len,f=>j6 b fun b=>j6 ver fun ver=>j6 len fun len=>f (.vref b ver len)
 | .vel b ver off,f=>j6 b fun b=>j6 ver fun ver=>j6 off fun off=>f (.vel b ver off)
def qcn {α:Type}:List AVal→(List AVal→α)→α
 | [],f=>f []
 |x::xs,f=>zq x fun x=>qcn xs fun xs=>f (x::xs)
end
def qey {α:Type}:Env→(Env→α)→α
 | [],f=>f []
 |(t,v,o)::e,f=>j6 t fun t=>zq v fun v=>qds o fun o=>qey e fun e=>f ((t,v,o)::e)
def qd8 {α:Type}:List (AVal×Bool)→(List (AVal×Bool)→α)→α
 | [],f=>f []
 |(v,o)::e,f=>zq v fun v=>qds o fun o=>qd8 e fun e=>f ((v,o)::e)
def qcm {α:Type}:List (AVal×AVal)→(List (AVal×AVal)→α)→α
 | [],f=>f []
 |(k,v)::e,f=>zq k fun k=>zq v fun v=>qcm e fun e=>f ((k,v)::e)
def qh7 {α:Type}(x:Option jo)(f:Option jo→α):α:=match x with
 |none=>f none
 |some .normal=>f (some .normal)
 |some (.exit id)=>j6 id fun id=>f (some (.exit id))
 |some .ret=>f (some .ret)
def qjf {α:Type}:ABox→(ABox→α)→α
 | .hole,f=>f .hole
 | .cells cs,f=>qd8 cs fun cs=>f (.cells cs)
 | .map es,f=>qcm es fun es=>f (.map es)
 | .iter s pos,f=>j6 pos fun pos=>f (.iter s pos)
 | .bld t e l,f=>qci l fun l=>f (.bld t e l)
 | .dead,f=>f .dead
 -- (what a vector holds was forced when it was appended)
 | .vec sz ver xs,f=>j6 sz fun sz=>j6 ver fun ver=>f (.vec sz ver xs)
 | .loop l,f=>qey l.env fun e=>qh7 l.pending fun x=>f (.loop ⟨e,l.params,l.assign,l.body,x⟩)
def qe5 {α:Type}:qi→(qi→α)→α
 | [],f=>f []
 |b::h,f=>qjf b fun b=>qe5 h fun h=>f (b::h)
def qf2 {α:Type}(st:ASt)(f:ASt→α):α:=qey st.env fun e=>qe5 st.heap fun h=>f ⟨e,h⟩
section
variable {α:Type}
theorem z7 (n:Nat)(f:Nat→α):j6 n f=f n:=by cases n<;>rfl
theorem qpw (n:Int)(f:Int→α):qjc n f=f n:=by cases n<;>simp[qjc,z7]
theorem qch (n:Bool)(f:Bool→α):qds n f=f n:=by cases n<;>rfl
theorem qnl (n:IntKind)(f:IntKind→α):ql0 n f=f n:=by cases n<;>rfl
theorem qdx:∀ (s:List UInt8) (f:List UInt8→α),qci s f=f s
 | [],_=>rfl
 |c::s,f=>by simp only[qci];rw[qdx s]
theorem qse (g:Fn)(f:Fn→α):qls g f=f g:=by cases g<;>simp[qls,z7]
mutual
theorem qdj:∀ (v:AVal) (f:AVal→α),zq v f=f v
 | .bool b,f=>by simp only[zq,qch]
 | .int k n,f=>by simp only[zq,qnl,qpw]
 | .str s,f=>by simp only[zq,qdx]
 | .list b sz xs,f=>by simp only[zq,qch,z7];rw[qbf xs]
 | .ms b o l,f=>by simp only[zq,z7]
 | .ptr b o,f=>by simp only[zq,z7]
 | .vptr v,f=>by simp only[zq];rw[qdj v]
 | .pend n,f=>by simp only[zq,z7]
 | .nilptr,f=>by simp only[zq]
 | .map b,f=>by simp only[zq,z7]
 | .nilmap,f=>by simp only[zq]
 | .fn g a c,f=>by simp only[zq,qse];rw[qbf a,qbf c]
 | .nilfn,f=>by simp only[zq]
 | .agg cs,f=>by simp only[zq];rw[qbf cs]
 | .tup cs,f=>by simp only[zq];rw[qbf cs]
 | .undef,f=>by simp only[zq]
 | .any,f=>by simp only[zq]
 | .vref b ver len,f=>by simp only[zq,z7]
 | .vel b ver off,f=>by simp only[zq,z7]
theorem qbf:∀ (l:List AVal) (f:List AVal→α),qcn l f=f l
 | [],f=>by simp only[qcn]
 |x::xs,f=>by simp only[qcn];rw[qdj x,qbf xs]
end
theorem qfq:∀ (e:Env) (f:Env→α),qey e f=f e
 | [],_=>rfl
 |(t,v,o)::e,f=>by simp only[qey,z7,qdj,qch];rw[qfq e]
theorem qg5:∀ (e:List (AVal×Bool)) (f:List (AVal×Bool)→α),qd8 e f=f e
 | [],_=>rfl
 |(v,o)::e,f=>by simp only[qd8,qdj,qch];rw[qg5 e]
theorem qfg:∀ (e:List (AVal×AVal)) (f:List (AVal×AVal)→α),qcm e f=f e
 | [],_=>rfl
 |(v,o)::e,f=>by simp only[qcm,qdj];rw[qfg e]
theorem qns (x:Option jo)(f:Option jo→α):qh7 x f=f x:=by
 cases x with
 |none=>rfl
 |some x=>cases x<;>simp[qh7,z7]
theorem qp3 (b:ABox)(f:ABox→α):qjf b f=f b:=by
 cases b<;>simp[qjf,qg5,qfg,z7,qdx,qfq,qns,qbf]
theorem qhm:∀ (h:qi) (f:qi→α),qe5 h f=f h
 | [],_=>rfl
 |b::h,f=>by simp only[qe5,qp3];rw[qhm h]
theorem qgw (st:ASt)(f:ASt→α):qf2 st f=f st:=by simp only[qf2,qfq,qhm]
end
def zy (p:je):Nat→XC
 |0,_,_=>none
 |n+1,c,st=>match c with
  | .skip=>some (.normal,st)
  | .region na ops keep=>match yx p (zy p n) na ops keep st with
   |some (x,st')=>qf2 st' fun s=>some (x,s)
   |none=>none
  | .seq a b=>match zy p n a st with
   |some (.normal,st')=>zy p n b st'
   |r=>r
  | .cond c a b=>match qe st.env c with
   |some (.bool t)=>bif t then zy p n a st else zy p n b st
   |_=>none
  | .block id body=>match zy p n body st with
   |some (.exit id',st')=>bif Nat.beq id' id then some (.normal,st')else some (.exit id',st')
   |r=>r
  | .loop body=>match zy p n body st with
   |some (.normal,st')=>qf2 (gc st.heap.length st') fun s=>zy p n (.loop body) s
   |r=>r
  | .rangeFunc f params assign body=>match ky p (zy p n) f params assign body st with
   |some (x,st')=>qf2 st' fun s=>some (x,s)
   |none=>none
  | .exit id=>some (.exit id,st)
  | .ret=>some (.ret,st)
  | .grow sz=>match qv 0 st.env,qv 1 st.env with
   |some (.list true _ _,_),some (.int .i64 (.ofNat m),_)=>bif Nat.blt 0 m&&Nat.ble m 1073741824 then some (.normal,{ st with env:=[(0,.list false sz [],true)] })else none
   |_,_=>none
  | .stuck=>none
theorem qho (p:je):∀n,zy p n=qw p n
 |0=>by funext c st;rfl
 |n+1=>by
  have ih:=qho p n
  funext c st
  cases c with
  |region na ops keep=>
   simp only[zy,qw,ih]
   cases yx p (qw p n) na ops keep st with
   |none=>rfl
   |some r=>simp only[qgw]
  |rangeFunc f ps a b=>
   simp only[zy,qw,ih]
   cases ky p (qw p n) f ps a b st with
   |none=>rfl
   |some r=>simp only[qgw]
  |loop body=>
   simp only[zy,qw,ih,qgw]
   rfl
  |_=>simp only[zy,qw,ih]<;>rfl
inductive FTree where
 |leaf (k:Nat) (f:qx)
 |node (m:Nat) (a b:FTree)
def FTree.find:FTree→Nat→Option qx
 | .leaf k f,n=>bif Nat.beq k n then some f else none
 | .node m a b,n=>bif Nat.blt n m then a.find n else b.find n
def FTree.All (Q:Nat→qx→Prop):FTree→Prop
 | .leaf k f=>Q k f
 | .node _ a b=>a.All Q∧b.All Q
theorem FTree.find_all {Q}:∀ {t:FTree} {k:Nat} {f:qx},t.All Q→t.find k=some f→Q k f
 | .leaf j g,k,f,h,hf=>by
  simp only[FTree.find]at hf
  cases hb:Nat.beq j k with
  |false=>simp[hb]at hf
  |true=>
   have:=Nat.eq_of_beq_eq_true hb
   subst this
   simp only[hb,cond_true,Option.some.injEq]at hf
   subst hf;exact h
 | .node m a b,k,f,h,hf=>by
  simp only[FTree.find]at hf
  cases hb:Nat.blt k m with
  |true=>simp only[hb,cond_true]at hf;exact FTree.find_all h.1 hf
  |false=>simp only[hb,cond_false]at hf;exact FTree.find_all h.2 hf
def FTree.prog (t:FTree)(prims:qff)(maps:qvc:=fun _=>none):je:={ fns:=t.find,prims:=prims,maps:=maps }
theorem qs8 {p n k args r}(h:qd p (zy p n) k args=r):qd p (qw p n) k args=r:=by
 rw[←qho];exact h
def Kw (w:World):Nat→Nat→Option Value:=fun r o=>(w.cell? ⟨r,o,none⟩).filter (·.oneCell')
theorem q5k {w r o v}(h:w.cell? ⟨r,o,none⟩=some v)(h1:v.oneCell'=true):Kw w r o=some v:=by simp[Kw,h,h1]
theorem qqu {w r o v}(h:Kw w r o=some v):w.cell? ⟨r,o,none⟩=some v∧v.oneCell'=true:=by
 unfold Kw at h;rw[Option.filter_eq_some_iff]at h;exact h
def qer (P:Program)(t:TypeId):Bool:=match P.underlying t with
 |some (.struct _)=>true
 |some (.array _ _)=>true
 |_=>false
def qnc (P:Program):Nat→List Field→Bool
 |_,[]=>true
 |o,f::fs=>f.offset == o&&qnc P (o+P.cellsOf f.type) fs
def qe9 (P:Program)(fs:List Field):Nat:=(fs.map fun f=>P.cellsOf f.type).sum
def qbe (P:Program):Nat→TypeId→Bool
 |0,_=>false
 |n+1,t=>match P.underlying t with
  |some .bool=>P.cellsOf t == 1
  |some (.int _)=>P.cellsOf t == 1
  |some .string=>P.cellsOf t == 1
  |some (.slice e)=>P.cellsOf t == 1&&qbe P n e&&decide (0<P.cellsOf e)
  |some (.struct fs)=>qnc P 0 fs.toList&&qe9 P fs.toList == P.cellsOf t&&fs.toList.all fun f=>qbe P n f.type
  |some (.array k e)=>P.cellsOf t == k*P.cellsOf e&&qbe P n e
  |_=>false
def qf9 (ty:TypeId→List AVal→Prop):List Field→List AVal→Prop
 | [],cs=>cs=[]
 |f::fs,cs=>∃ys zs,cs=ys++zs∧ty f.type ys∧qf9 ty fs zs
def qe0 (ty:List AVal→Prop):Nat→List AVal→Prop
 |0,cs=>cs=[]
 |k+1,cs=>∃ys zs,cs=ys++zs∧ty ys∧qe0 ty k zs
def yt (P:Program):Nat→TypeId→List AVal→Prop
 |0,_,_=>False
 |n+1,t,cs=>match P.underlying t with
  |some .bool=>∃b,cs=[.bool b]
  |some (.int k)=>∃m,cs=[.int k m]∧(Lit.int k m).wf=true
  |some .string=>∃s,cs=[.str s]∧s.length≤maxLen
  |some (.slice e)=>cs=[.list true 0 []]∨∃xs,cs=[.list false (P.cellsOf e) xs]∧xs.length≤maxLen∧∀y∈xs,yt P n e y.flat∧y.isAgg=qer P e
  |some (.struct fs)=>qf9 (yt P n) fs.toList cs
  |some (.array k e)=>qe0 (yt P n e) k cs
  |_=>False
section
variable {P:Program}{H:Type}{enc:TypeId×Value→H}{w:World}
theorem qma:∀ (fs:List Field) (o:Nat) (vs:List Value),qnc P o fs=true→vs.length=o+qe9 P fs→vs.drop o=(fs.map fun f=>(vs.drop f.offset).take (P.cellsOf f.type)).flatten
 | [],o,vs,_,hl=>by simp[qe9]at hl;simp[hl]
 |f::fs,o,vs,ht,hl=>by
  simp only[qnc,Bool.and_eq_true,beq_iff_eq]at ht
  obtain⟨rfl,ht⟩:=ht
  have ih:=qma fs _ vs ht (by simp[qe9]at hl ⊢;omega)
  rw[List.map_cons,List.flatten_cons,←ih,←List.drop_drop,List.take_append_drop]
theorem qeh {α β:Type}{f}:∀ {l:List α} {ys:List β},l.mapM f=some ys→ys.length=l.length∧∀(i:Nat) (x:α),l[i]?=some x→∃y,ys[i]?=some y∧f x=some y
 | [],ys,h=>by simp at h;subst h;simp
 |a::l,ys,h=>by
  rw[List.mapM_cons]at h
  cases hf:f a with
  |none=>simp[hf]at h
  |some y=>
   cases hr:l.mapM f with
   |none=>simp[hf,hr]at h
   |some zs=>
    simp[hf,hr]at h
    subst h
    obtain⟨h1,h2⟩:=qeh hr
    refine⟨by simp[h1],fun i x hx=>?_⟩
    cases i with
    |zero=>simp at hx;subst hx;exact⟨y,rfl,hf⟩
    |succ i=>simp at hx;obtain⟨z,h3,h4⟩:=h2 i x hx;exact⟨z,by simpa using h3,h4⟩
theorem qpf {base n a vs}(h:w.cells? base a n=some vs):vs.length=n∧∀(i:Nat) (v:Value),vs[i]?=some v→w.cell? (a.add i)=some v:=by
 unfold World.cells? at h
 split at h
 ·obtain⟨h1,h2⟩:=qeh h
  rw[List.length_range]at h1
  refine⟨h1,fun i v hv=>?_⟩
  have hi:i<n:=by rw[←h1];exact(List.getElem?_eq_some_iff.1 hv).1
  obtain⟨y,h3,h4⟩:=h2 i i (by rw[List.getElem?_range hi])
  rw[hv]at h3;cases h3;exact h4
 ·cases h
theorem qj7 {ty:TypeId→List AVal→Prop}:∀(fs:List Field) (vss:List (List Value)),vss.length=fs.length→(∀(i:Nat) (f:Field) (vs:List Value),fs[i]?=some f→vss[i]?=some vs→∃cs,RepL (.iso (Kw w)) cs vs∧ty f.type cs)→∃cs,RepL (.iso (Kw w)) cs vss.flatten∧qf9 ty fs cs
 | [],vss,hl,_=>by
  have:vss=[]:=List.length_eq_zero_iff.1 (by simpa using hl)
  subst this
  exact⟨[],.nil,rfl⟩
 |f::fs,[],hl,_=>by simp at hl
 |f::fs,vs::vss,hl,h=>by
  obtain⟨ys,h1,h2⟩:=h 0 f vs rfl rfl
  obtain⟨zs,h3,h4⟩:=qj7 fs vss (by simpa using hl) (fun i f' vs' hf hv=>h (i+1) f' vs' (by simpa using hf) (by simpa using hv))
  exact⟨ys++zs,RepL.append h1 h3,ys,zs,rfl,h2,h4⟩
theorem qi9 {ty}:∀(k:Nat) (vss:List (List Value)),vss.length=k→(∀(i:Nat) vs,vss[i]?=some vs→∃cs,RepL (.iso (Kw w)) cs vs∧ty cs)→∃cs,RepL (.iso (Kw w)) cs vss.flatten∧qe0 ty k cs
 |0,vss,hl,_=>by
  have:vss=[]:=List.length_eq_zero_iff.1 hl
  subst this
  exact⟨[],.nil,rfl⟩
 |k+1,[],hl,_=>by simp at hl
 |k+1,vs::vss,hl,h=>by
  obtain⟨ys,h1,h2⟩:=h 0 vs rfl
  obtain⟨zs,h3,h4⟩:=qi9 k vss (by simpa using hl) (fun i vs' hv=>h (i+1) vs' (by simpa using hv))
  exact⟨ys++zs,RepL.append h1 h3,ys,zs,rfl,h2,h4⟩
theorem qqq (n:Nat):∀(k:Nat) (vs:List Value),vs.length=k*n→vs=((List.range k).map fun i=>(vs.drop (i*n)).take n).flatten
 |0,vs,hl=>by
  have:vs=[]:=List.length_eq_zero_iff.1 (by simpa using hl)
  simp[this]
 |k+1,vs,hl=>by
  have ih:=qqq n k (vs.drop n) (by simp[hl,Nat.succ_mul])
  rw[List.range_succ_eq_map,List.map_cons,List.flatten_cons,List.map_map]
  have e:(List.range k).map ((fun i=>(vs.drop (i*n)).take n) ∘ Nat.succ)=(List.range k).map fun i=>((vs.drop n).drop (i*n)).take n:=by
   apply List.map_congr_left
   intro i _
   simp only[Function.comp,List.drop_drop]
   congr 2
   rw[Nat.succ_mul];omega
  rw[e,←ih]
  simp
theorem qdz:∀ {n:Nat} {t:TypeId} {cs:List AVal},yt P n t cs→∀x∈cs,qf x=true
 |0,_,_,h=>h.elim
 |n+1,t,cs,h=>by
  have fsc:∀(fs:List Field) (cs:List AVal),qf9 (yt P n) fs cs→∀x∈cs,qf x=true:=by
   intro fs
   induction fs with
   |nil=>intro cs h;simp only[qf9]at h;subst h;simp
   |cons f fs ih=>
    rintro cs ⟨ys,zs,rfl,h1,h2⟩ x hx
    rcases List.mem_append.1 hx with hx|hx
    ·exact qdz h1 x hx
    ·exact ih _ h2 x hx
  have rsc:∀(e:TypeId) (k:Nat) (cs:List AVal),qe0 (yt P n e) k cs→∀x∈cs,qf x=true:=by
   intro e k
   induction k with
   |zero=>intro cs h;simp only[qe0]at h;subst h;simp
   |succ k ih=>
    rintro cs ⟨ys,zs,rfl,h1,h2⟩ x hx
    rcases List.mem_append.1 hx with hx|hx
    ·exact qdz h1 x hx
    ·exact ih _ h2 x hx
  simp only[yt]at h
  split at h
  ·obtain⟨b,rfl⟩:=h;simp[qf]
  ·obtain⟨m,rfl,_⟩:=h;simp[qf]
  ·obtain⟨s,rfl,_⟩:=h;simp[qf]
  ·rcases h with rfl|⟨xs,rfl,_⟩<;>simp[qf]
  ·exact fsc _ _ h
  ·exact rsc _ _ _ h
  ·exact h.elim
theorem qj1 {n}{t:TypeId}{cs}(h:yt P n t cs)(ha:qer P t=false):∃x,cs=[x]∧x.isAgg=false:=by
 cases n with
 |zero=>exact h.elim
 |succ n=>
  unfold qer at ha
  simp only[yt]at h
  split at h
  ·obtain⟨b,rfl⟩:=h;exact⟨_,rfl,rfl⟩
  ·obtain⟨m,rfl,_⟩:=h;exact⟨_,rfl,rfl⟩
  ·obtain⟨s,rfl,_⟩:=h;exact⟨_,rfl,rfl⟩
  ·rcases h with rfl|⟨xs,rfl,_⟩<;>exact⟨_,rfl,rfl⟩
  ·rename_i hu;rw[hu]at ha;cases ha
  ·rename_i hu;rw[hu]at ha;cases ha
  ·exact h.elim
theorem read {held}:∀(n fuel:Nat) (t:TypeId) (vs:List Value) (d:DataW H) (ps:List MemPlace),qbe P n t=true→DataW.trod enc P w 0 (fun _=>true) held fuel t vs=some (d,ps) →
  ∃cs,RepL (.iso (Kw w)) cs vs∧yt P n t cs∧cs.length=P.cellsOf t
 |0,_,_,_,_,_,hp,_=>by simp[qbe]at hp
 |n+1,0,_,_,_,_,_,h=>by simp[DataW.trod]at h
 |n+1,fuel+1,t,vs,d,ps,hp,h=>by
  simp only[qbe]at hp
  simp only[yt]
  simp only[DataW.trod]at h
  cases hu:P.underlying t with
  |none=>simp[hu]at hp
  |some td=>
   rw[hu]at h hp
   cases td with
   |bool=>
    simp only[beq_iff_eq]at hp
    split at h<;>first|cases ‹some _=some _› | skip
    all_goals first|(rename_i heq;cases heq;done)|skip
    ·exact⟨_,.cons _ _ _ _ (.bool _) .nil,⟨_,rfl⟩,by simp[hp]⟩
    ·cases h
   |int k=>
    simp only[beq_iff_eq]at hp
    split at h<;>first|cases ‹some _=some _› | skip
    all_goals first|(rename_i heq;cases heq;done)|skip
    ·split at h
     ·rename_i hk
      obtain⟨rfl,hk2⟩:=hk
      exact⟨_,.cons _ _ _ _ (.int _ _) .nil,⟨_,rfl,hk2⟩,by simp[hp]⟩
     ·cases h
    ·cases h
   |string=>
    simp only[beq_iff_eq]at hp
    split at h<;>first|cases ‹some _=some _› | skip
    all_goals first|(rename_i heq;cases heq;done)|skip
    ·rename_i s
     split at h
     ·rename_i hk
      refine⟨[.str s.data.toList],.cons _ _ _ _ (RepI.str s.data.toList) .nil,⟨_,rfl,?_⟩,by simp[hp]⟩
      simpa using hk
     ·cases h
    ·cases h
   |slice e=>
    simp only[Bool.and_eq_true,beq_iff_eq,decide_eq_true_eq]at hp
    obtain⟨⟨hp1,hp2⟩,hp3⟩:=hp
    split at h<;>first|cases ‹some _=some _› | skip
    all_goals first|(rename_i heq;cases heq;done)|skip
    ·exact⟨_,.cons _ _ _ _ (.lnil 0) .nil,.inl rfl,by simp[hp1]⟩
    ·rename_i a len cap
     split at h
     ·rename_i hk
      obtain⟨_,hk2,hk3⟩:=hk
      cases he:(List.range len).mapM (fun i=>(w.cells? 0 (a.add (i*P.cellsOf e)) (P.cellsOf e)).bind (DataW.trod enc P w 0 (fun _=>true) held fuel e))with
      |none=>simp[he]at h
      |some elems=>
       simp only[he,Option.bind_some,if_true]at h
       cases hr:(List.range (cap-len)).mapM (fun j=>(w.cells? 0 (a.add ((len+j)*P.cellsOf e)) (P.cellsOf e)).bind (DataW.trod enc P w 0 (fun _=>true) held fuel e))with
       |none=>simp[hr]at h
       |some rest=>
        obtain⟨he1,he2⟩:=qeh he
        obtain⟨hr1,hr2⟩:=qeh hr
        rw[List.length_range]at he1 hr1
        have hspot:0<cap→a.spot=none:=fun hc=>by
         have hz0:∃z,(w.cells? 0 (a.add (0*P.cellsOf e)) (P.cellsOf e)).bind (DataW.trod enc P w 0 (fun _=>true) held fuel e)=some z:=by
          by_cases hl:0<len
          ·obtain⟨y,_,hy⟩:=he2 0 0 (by rw[List.getElem?_range hl]);exact⟨y,hy⟩
          ·obtain⟨y,_,hy⟩:=hr2 0 0 (by rw[List.getElem?_range (by omega)])
           have hl0:len=0:=by omega
           subst hl0
           exact⟨y,by simpa using hy⟩
         obtain⟨z0,hz0⟩:=hz0
         cases hc0:w.cells? 0 (a.add (0*P.cellsOf e)) (P.cellsOf e)with
         |none=>rw[hc0]at hz0;cases hz0
         |some us0=>
          obtain⟨d1,d2⟩:=qpf hc0
          have hcc:=d2 0 _ (List.getElem?_eq_getElem (show 0<us0.length by omega))
          have:=World.cell?_spot hcc
          simpa[Addr.add]using this
        by_cases hcap:0<cap
        ·have hs0:=hspot hcap
         obtain⟨r,o,sp⟩:=a
         simp only at hs0
         subst hs0
         have elem:∀(i:Nat),i<len→∃y:AVal,RepC (.iso (Kw w)) r y.flat (o+i*P.cellsOf e)∧y.flat.length=P.cellsOf e∧yt P n e y.flat∧y.isAgg=qer P e:=by
          intro i hi
          obtain⟨z,_,hz⟩:=he2 i i (by rw[List.getElem?_range hi])
          cases hc:w.cells? 0 ((⟨r,o,none⟩:Addr).add (i*P.cellsOf e)) (P.cellsOf e)with
          |none=>simp[hc]at hz
          |some us=>
           simp only[hc,Option.bind_some]at hz
           obtain⟨c1,c2⟩:=qpf hc
           obtain⟨cs,k1,k2,k3⟩:=read n fuel e us z.1 z.2 hp2 hz
           have hone:=ko k1 (qdz k2)
           have hcs:RepC (.iso (Kw w)) r cs (o+i*P.cellsOf e):=RepC.of_vals k1 fun j v hj=>by
            have h1:=c2 j v hj
            rw[add_lit,add_lit]at h1
            exact q5k h1 (hone v (List.mem_of_getElem? hj))
           cases hag:qer P e with
           |true=>exact⟨.agg cs,hcs,k3,k2,rfl⟩
           |false=>
            obtain⟨x,rfl,hx⟩:=qj1 k2 hag
            have hf:x.flat=[x]:=kj hx
            exact⟨x,by rw[hf];exact hcs,by rw[hf];exact k3,by rw[hf];exact k2,hx⟩
         have rows:∀(m:Nat) (q:Nat),q+m=len→∃ys:List AVal,ys.length=m∧RepRow (.iso (Kw w)) r (P.cellsOf e) ys (o+q*P.cellsOf e)∧∀y∈ys,yt P n e y.flat∧y.isAgg=qer P e:=by
          intro m
          induction m with
          |zero=>intro q _;exact⟨[],rfl,.rnil _ _ _,by simp⟩
          |succ m ih=>
           intro q hq
           obtain⟨ys,y1,y2,y3⟩:=ih (q+1) (by omega)
           obtain⟨y,z1,z2,z3⟩:=elem q (by omega)
           refine⟨y::ys,by simp[y1],.rcons _ _ _ _ _ z2 z1 ?_,?_⟩
           ·rw[show o+q*P.cellsOf e+P.cellsOf e=o+(q+1)*P.cellsOf e from by rw[Nat.succ_mul];omega];exact y2
           ·intro x hx
            rcases List.mem_cons.1 hx with rfl|hx
            ·exact z3
            ·exact y3 x hx
         obtain⟨ys,y1,y2,y3⟩:=rows len 0 (by omega)
         rw[Nat.zero_mul,Nat.add_zero]at y2
         subst y1
         exact⟨_,.cons _ _ _ _ (.list (P.cellsOf e) ys r o cap hk2 y2) .nil,.inr ⟨ys,rfl,by omega,y3⟩,by simp[hp1]⟩
        ·have hc0:cap=0:=by omega
         have hl0:len=0:=by omega
         subst hc0;subst hl0
         by_cases hsp:a.spot=none
         ·obtain⟨r,o,sp⟩:=a
          simp only at hsp
          subst hsp
          exact⟨_,.cons _ _ _ _ (.list (P.cellsOf e) [] r o 0 (by simp) (.rnil _ _ _)) .nil,.inr ⟨[],rfl,by simp,by simp⟩,by simp[hp1]⟩
         ·exact⟨_,.cons _ _ _ _ (.lemp (P.cellsOf e) a hsp) .nil,.inr ⟨[],rfl,by simp,by simp⟩,by simp[hp1]⟩
     ·cases h
    ·cases h
   |struct fs=>
    simp only[Bool.and_eq_true,beq_iff_eq,List.all_eq_true]at hp
    obtain⟨⟨hp1,hp2⟩,hp3⟩:=hp
    change (if vs.length=P.cellsOf t then(fs.toList.mapM fun f=>DataW.trod enc P w 0 (fun _=>true) held fuel f.type ((vs.drop f.offset).take (P.cellsOf f.type))).map fun xs=>(DataW.agg (xs.map (·.1)),xs.flatMap (·.2))else none)=some (d,ps)at h
    ·split at h
     ·rename_i hl
      cases hm:fs.toList.mapM (fun f=>DataW.trod enc P w 0 (fun _=>true) held fuel f.type ((vs.drop f.offset).take (P.cellsOf f.type)))with
      |none=>simp[hm]at h
      |some zs=>
       obtain⟨m1,m2⟩:=qeh hm
       have hcut:=qma fs.toList 0 vs hp1 (by omega)
       obtain⟨cs,k1,k2⟩:=qj7 (w:=w) (ty:=yt P n) fs.toList (fs.toList.map fun f=>(vs.drop f.offset).take (P.cellsOf f.type)) (by simp) (fun i f us hf hv=>by
        obtain⟨z,_,hz⟩:=m2 i f hf
        have hus:us=(vs.drop f.offset).take (P.cellsOf f.type):=by
         rw[List.getElem?_map,hf]at hv
         simpa using hv.symm
        subst hus
        obtain⟨cs,q1,q2,_⟩:=read n fuel f.type _ z.1 z.2 (hp3 f (List.mem_of_getElem? hf)) hz
        exact⟨cs,q1,q2⟩)
       rw[←hcut]at k1
       exact⟨cs,by simpa using k1,k2,by have:=k1.length;simp at this;omega⟩
     ·cases h
   |array k e=>
    simp only[Bool.and_eq_true,beq_iff_eq]at hp
    obtain⟨hp1,hp2⟩:=hp
    change (if vs.length=P.cellsOf t then((List.range k).mapM fun i=>DataW.trod enc P w 0 (fun _=>true) held fuel e ((vs.drop (i*P.cellsOf e)).take (P.cellsOf e))).map fun xs=>(DataW.agg (xs.map (·.1)),xs.flatMap (·.2))else none)=some (d,ps)at h
    ·split at h
     ·rename_i hl
      cases hm:(List.range k).mapM (fun i=>DataW.trod enc P w 0 (fun _=>true) held fuel e ((vs.drop (i*P.cellsOf e)).take (P.cellsOf e)))with
      |none=>simp[hm]at h
      |some zs=>
       obtain⟨m1,m2⟩:=qeh hm
       have hcut:=qqq (P.cellsOf e) k vs (by omega)
       obtain⟨cs,k1,k2⟩:=qi9 (w:=w) (ty:=yt P n e) k ((List.range k).map fun i=>(vs.drop (i*P.cellsOf e)).take (P.cellsOf e)) (by simp) (fun i us hv=>by
        have hi:i<k:=by
         have:=(List.getElem?_eq_some_iff.1 hv).1
         simpa using this
        obtain⟨z,_,hz⟩:=m2 i i (by rw[List.getElem?_range hi])
        have hus:us=(vs.drop (i*P.cellsOf e)).take (P.cellsOf e):=by
         rw[List.getElem?_map,List.getElem?_range hi]at hv
         simpa using hv.symm
        subst hus
        obtain⟨cs,q1,q2,_⟩:=read n fuel e _ z.1 z.2 hp2 hz
        exact⟨cs,q1,q2⟩)
       rw[←hcut]at k1
       exact⟨cs,k1,k2,by have:=k1.length;omega⟩
     ·cases h
   |_=>simp at hp
end
open Go.ChangeShapes Go.WideShapes Go.ChangeAt Go.RowKit
section
variable {P:Program}{H:Type}{enc:TypeId×Value→H}{w:World}
def qtm (P:Program)(n:Nat)(t:TypeId)(x:AVal):Prop:=yt P n t x.flat∧x.isAgg=qer P t
def qg1 (P:Program)(n:Nat):List TypeId→List AVal→Prop
 | [],xs=>xs=[]
 |t::ts,xs=>∃y ys,xs=y::ys∧qtm P n t y∧qg1 P n ts ys
theorem qyu {n}{t:TypeId}{v d ps base}(hp:qbe P n t=true)(hv:Value.okWide P w .any base t v)(h:DataW.Trod enc P w 0 (fun _=>true) true t v d ps):∃x,Rep (.iso (Kw w)) x v∧qtm P n t x:=by
 obtain⟨fuel,hf⟩:=h
 obtain⟨cs,k1,k2,k3⟩:=read n fuel t _ d ps hp hf
 cases hag:qer P t with
 |true=>
  have hvv:∃cells,v=.agg cells:=by
   unfold qer at hag
   unfold Value.okWide at hv
   split at hag
   ·rename_i fs hu;rw[hu]at hv;obtain⟨c,hc,_⟩:=hv;exact⟨c,hc⟩
   ·rename_i a b hu;rw[hu]at hv;obtain⟨c,hc,_⟩:=hv;exact⟨c,hc⟩
   ·cases hag
  obtain⟨cells,rfl⟩:=hvv
  exact⟨.agg cs,.agg cs cells.toList k1,k2,hag.symm⟩
 |false=>
  obtain⟨x,rfl,hx⟩:=qj1 k2 hag
  have hvv:v.cells.toList=[v]:=by
   cases v with
   |agg c=>
    exfalso
    unfold Value.okWide at hv
    unfold qer at hag
    cases n with
    |zero=>simp[qbe]at hp
    |succ n=>
     simp only[qbe]at hp
     cases hu:P.underlying t with
     |none=>rw[hu]at hp;cases hp
     |some td=>rw[hu]at hp hv hag;cases td<;>first|(simp at hp;done)|(simp at hag;done)|(simp[Cell.okWide,hu,Cell.ok]at hv;done)
   |_=>rfl
  rw[hvv]at k1
  cases k1 with
  |cons _ _ _ _ h1 _=>exact⟨x,h1,by rw[kj hx];exact k2,by rw[hx,hag]⟩
theorem qq3 {n}:∀ {ts:List TypeId} {vs:List Value} {ds:List (DataW H)} {ps:List MemPlace},ts.all (qbe P n)=true→(∀(j:Nat) t v,ts[j]?=some t→vs[j]?=some v→∃base,Value.okWide P w .any base t v)→DataW.TrodAll enc P w 0 (fun _=>true) true ts vs ds ps →
  ds.length=ts.length∧∃xs,RepL (.iso (Kw w)) xs vs∧qg1 P n ts xs
 | [],[],[],ps,_,_,_=>⟨rfl,[],.nil,rfl⟩
 | [],[],_::_,ps,_,_,h=>by simp[DataW.TrodAll]at h
 | [],_::_,_,ps,_,_,h=>by simp[DataW.TrodAll]at h
 |_::_,[],_,ps,_,_,h=>by simp[DataW.TrodAll]at h
 |_::_,_::_,[],ps,_,_,h=>by simp[DataW.TrodAll]at h
 |t::ts,v::vs,d::ds,ps,hp,hv,h=>by
  obtain⟨p,q,h1,h2,_⟩:=h
  simp only[List.all_cons,Bool.and_eq_true]at hp
  obtain⟨base,hb⟩:=hv 0 t v rfl rfl
  obtain⟨x,k1,k2⟩:=qyu hp.1 hb h1
  obtain⟨hl,xs,k3,k4⟩:=qq3 hp.2 (fun j t' v' ht hv'=>hv (j+1) t' v' (by simpa using ht) (by simpa using hv')) h2
  exact⟨by simp[hl],x::xs,.cons _ _ _ _ k1 k3,x,xs,rfl,k2,k4⟩
theorem Ext.frame {w'}(h:Ext w w')(may:MemPlace→Prop):w.keptBut w' may:=by
 refine⟨h.os,h.output,fun i hi=>?_⟩
 rw[h.same i hi]
 split<;>simp_all
theorem Ext.sameAt {w'}(h:Ext w w'){p}(hp:p.block<w.heap.size):w.sameAt w' p:=by
 cases p with
 |cell b o=>exact World.cell?_of_block (w:=w) (h.same b hp)
 |map b=>exact h.same b hp
theorem qnt {w'}(hx:Ext w w')(hl:laidOutB P=true):∀ {ts:List TypeId} {vs:List Value} {ds:List (DataW H)} {ps:List MemPlace},ts.all (fun t=>P.readableRec t&&decide (t<P.types.size))=true→DataW.TrodAll enc P w 0 (fun _=>true) true ts vs ds ps →
  DataW.TrodAll enc P w' 0 (fun b=>decide (b<w.heap.size)) true ts vs ds ps
 | [],[],[],ps,_,h=>h
 | [],[],_::_,ps,_,h=>by simp[DataW.TrodAll]at h
 | [],_::_,_,ps,_,h=>by simp[DataW.TrodAll]at h
 |_::_,[],_,ps,_,h=>by simp[DataW.TrodAll]at h
 |_::_,_::_,[],ps,_,h=>by simp[DataW.TrodAll]at h
 |t::ts,v::vs,d::ds,ps,hr,h=>by
  obtain⟨p,q,h1,h2,h3⟩:=h
  simp only[List.all_cons,Bool.and_eq_true,decide_eq_true_eq]at hr
  have hlt:∀x∈p,x.block<w.heap.size:=by obtain⟨m,hm⟩:=h1;exact DataW.trod_lt m _ _ _ hm
  exact⟨p,q,WideElems.Trod_stays hl hr.1.1 hr.1.2 h1 (fun x hm=>hx.sameAt (hlt x hm)) (fun x hm=>by simpa using hlt x hm),qnt hx hl hr.2 h2,h3⟩
end
def XLe (f g:XC):Prop:=∀c st r,f c st=some r→g c st=some r
section
variable {p:je}{f g:XC}
theorem qmu (h:XLe f g){af args hp r}(hr:ki f af args hp=some r):ki g af args hp=some r:=by
 unfold ki at *
 cases hb:Nat.ble args.length af.ntmps with
 |false=>simp[hb]at hr
 |true=>
  simp only[hb,cond_true]at hr ⊢
  split at hr
  ·rename_i st hst;rw[h _ _ _ hst];exact hr
  ·rename_i st hst;rw[h _ _ _ hst];exact hr
  ·cases hr
theorem qft (h:XLe f g){k args hp r}(hr:jq p f k args hp=some r):jq p g k args hp=some r:=by
 unfold jq at *
 split at hr
 ·exact qmu h hr
 ·exact hr
theorem qeu (h:XLe f g){k args r}(hr:qd p f k args=some r):qd p g k args=some r:=by
 unfold qd at *
 split at hr
 ·exact hr
 ·split at hr
  ·rename_i v o hh hc;rw[qft h hc];exact hr
  ·cases hr
theorem qnm (h:XLe f g){b args hp r}(hr:y5 f b args hp=some r):y5 g b args hp=some r:=by
 unfold y5 at *
 split at hr
 ·split at hr
  ·split at hr
   ·rename_i st hst
    rw[h _ _ _ hst]
    simp only[]
    split at hr
    ·rename_i l1 hl1
     cases hp1:l1.pending.isNone with
     |false=>simp[hp1]at hr
     |true=>
      simp only[hp1,cond_true]at hr ⊢
      split at hr
      ·rename_i x st' hst'
       rw[h _ _ _ hst']
       exact hr
      ·cases hr
    ·cases hr
   ·cases hr
  ·cases hr
 ·cases hr
theorem qmj (h:XLe f g){h0 e hp md x l r}(hr:ze p f h0 e hp md x l=some r):ze p g h0 e hp md x l=some r:=by
 unfold ze at *
 split at hr
 ·cases md with
  |iso=>
   simp only[]at hr ⊢
   rename_i k first captured vs _ _
   cases hb:qo 0 (first++vs++captured)with
   |false=>rw[hb]at hr;cases hr
   |true=>
    rw[hb]at hr
    simp only[cond_true]at hr ⊢
    split at hr
    ·rename_i v o hc;rw[qeu h hc];exact hr
    ·cases hr
  |red=>
   simp only[]at hr ⊢
   split at hr
   ·rename_i us hf
    cases hb:qo 0 us with
    |false=>rw[hb]at hr;cases hr
    |true=>
     rw[hb]at hr
     simp only[cond_true]at hr ⊢
     split at hr
     ·rename_i v o hc;rw[qeu h hc];exact hr
     ·cases hr
   ·cases hr
  |frz _=>
   simp only[]at hr ⊢
   rename_i k first captured vs _ _ _
   cases he:(first++vs++captured).isEmpty with
   |true=>rw[he]at hr;exact hr
   |false=>
    rw[he]at hr
    simp only[cond_false]at hr ⊢
    cases hb:qo 0 (first++vs++captured)with
    |false=>rw[hb]at hr;cases hr
    |true=>
     rw[hb]at hr
     simp only[cond_true]at hr ⊢
     split at hr
     ·rename_i v o hc;rw[qeu h hc];exact hr
     ·cases hr
  |shr=>
   simp only[]at hr ⊢
   split at hr
   ·rename_i v o hh hc;rw[qft h hc];exact hr
   ·cases hr
 ·cases md with
  |shr=>
   simp only[]at hr ⊢
   split at hr
   ·rename_i v hh hc;rw[qnm h hc];exact hr
   ·cases hr
  |_=>simp at hr
 ·cases hr
theorem qpu (h:XLe f g){h0 al e hp op r}(hr:qb p f h0 al e hp op=some r):qb p g h0 al e hp op=some r:=by
 cases op with
 |call md x l=>exact qmj h hr
 |append rk sz b x y=>cases rk<;>exact hr
 |mkslice rk sz b z n c=>cases rk<;>exact hr
 |_=>exact hr
theorem qha (h:XLe f g){h0 o st st'}(hr:zf p f h0 o st=some st'):zf p g h0 o st=some st':=by
 unfold zf at *
 split at hr
 ·split at hr
  ·rename_i r hs;rw[qpu h hs];exact hr
  ·cases hr
 ·exact hr
 ·cases hr
theorem qhe (h:XLe f g){h0}:∀ {l:List AOper} {st st':ASt},yo p f h0 l st=some st'→yo p g h0 l st=some st'
 | [],_,_,hr=>hr
 |o::l,st,st',hr=>by
  simp only[yo]at hr ⊢
  split at hr
  ·rename_i s1 h1;rw[qha h h1];exact qhe h hr
  ·cases hr
theorem qh2 (h:XLe f g){na l k st r}(hr:yx p f na l k st=some r):yx p g na l k st=some r:=by
 unfold yx at *
 split at hr
 ·rename_i s1 h1;rw[qhe h h1];exact hr
 ·cases hr
theorem qi7 (h:XLe f g){x ps a b st r}(hr:ky p f x ps a b st=some r):ky p g x ps a b st=some r:=by
 unfold ky at *
 cases hn:(jr a&&jr b)with
 |false=>simp[hn]at hr
 |true=>
  simp only[hn,cond_true]at hr ⊢
  split at hr
  ·split at hr
   ·rename_i v o hh hc;rw[qft h hc];exact hr
   ·cases hr
  ·cases hr
end
theorem qj5 (p:je):∀n,XLe (qw p n) (qw p (n+1))
 |0=>fun c st r h=>by simp[qw]at h
 |n+1=>by
  have ih:=qj5 p n
  intro c st r h
  cases c with
  |region na l k=>simp only[qw]at h ⊢;exact qh2 ih h
  |rangeFunc f ps a b=>simp only[qw]at h ⊢;exact qi7 ih h
  |seq a b=>
   rw[qw]at h ⊢
   split at h
   ·rename_i st1 h1
    rw[ih _ _ _ h1];exact ih _ _ _ h
   ·rename_i hne
    rw[ih _ _ _ h]
    split
    ·rename_i st1 h1;cases h1;exact absurd h (hne _)
    ·rfl
  |cond c a b=>
   rw[qw]at h ⊢
   split at h
   ·rename_i t ht
    cases t
    ·simp only[cond_false]at h ⊢;exact ih _ _ _ h
    ·simp only[cond_true]at h ⊢;exact ih _ _ _ h
   ·cases h
  |block id b=>
   rw[qw]at h ⊢
   split at h
   ·rename_i id' st1 h1
    rw[ih _ _ _ h1];exact h
   ·rename_i hne
    rw[ih _ _ _ h]
    split
    ·rename_i id' st1 h1;cases h1;exact absurd h (hne _ _)
    ·rfl
  |loop b=>
   rw[qw]at h ⊢
   split at h
   ·rename_i st1 h1
    rw[ih _ _ _ h1];exact ih _ _ _ h
   ·rename_i hne
    rw[ih _ _ _ h]
    split
    ·rename_i st1 h1;cases h1;exact absurd h (hne _)
    ·rfl
  |_=>exact h
theorem qab (p:je){n m}(h:n≤m):XLe (qw p n) (qw p m):=by
 induction h with
 |refl=>exact fun _ _ _ h=>h
 |step _ ih=>exact fun c st r hr=>qj5 p _ c st r (ih c st r hr)
open Classical in
noncomputable def X (p:je):XC:=fun c st=>if h:∃r n,qw p n c st=some r then some (Classical.choose h)else none
theorem zh {p c st r}:X p c st=some r↔∃n,qw p n c st=some r:=by
 unfold X
 constructor
 ·intro h
  split at h
  ·rename_i hh
   cases h
   exact Classical.choose_spec hh
  ·cases h
 ·rintro ⟨n,hn⟩
  have hh:∃r n,qw p n c st=some r:=⟨r,n,hn⟩
  rw[dif_pos hh]
  obtain⟨m,hm⟩:=Classical.choose_spec hh
  have h1:=qab p (Nat.le_max_left n m) _ _ _ hn
  have h2:=qab p (Nat.le_max_right n m) _ _ _ hm
  rw[h1]at h2
  exact h2.symm
theorem qd2 {p}(n:Nat):XLe (qw p n) (X p):=fun _ _ _ h=>zh.2 ⟨n,h⟩
section
variable {p:je}
theorem qng {af args hp r}(hr:ki (X p) af args hp=some r):∃n,ki (qw p n) af args hp=some r:=by
 have hr0:=hr
 unfold ki at hr
 cases hb:Nat.ble args.length af.ntmps with
 |false=>simp[hb]at hr
 |true=>
  simp only[hb,cond_true]at hr
  have key:∀ {r'},X p af.body ⟨qbk 0 args,hp⟩=some r'→∃n,ki (qw p n) af args hp=some r:=by
   intro r' h
   obtain⟨n,hn⟩:=zh.1 h
   refine⟨n,?_⟩
   unfold ki
   rw[hb,hn]
   rw[h]at hr
   exact hr
  split at hr
  ·rename_i st hst;exact key hst
  ·rename_i st hst;exact key hst
  ·cases hr
theorem qgx {k args hp r}(hr:jq p (X p) k args hp=some r):∃n,jq p (qw p n) k args hp=some r:=by
 unfold jq at *
 cases h:p.fns k with
 |none=>rw[h]at hr;exact⟨0,hr⟩
 |some f=>rw[h]at hr;exact qng hr
theorem qdc {k args r}(hr:qd p (X p) k args=some r):∃n,qd p (qw p n) k args=some r:=by
 unfold qd at *
 cases h:p.prims k with
 |some f=>rw[h]at hr;exact⟨0,hr⟩
 |none=>
  rw[h]at hr
  simp only[]at hr ⊢
  split at hr
  ·rename_i v o hh hc
   obtain⟨n,hn⟩:=qgx hc
   exact⟨n,by rw[hn];exact hr⟩
  ·cases hr
theorem qp1 {b args hp r}(hr:y5 (X p) b args hp=some r):∃n,y5 (qw p n) b args hp=some r:=by
 unfold y5 at hr
 split at hr
 ·rename_i l hl
  split at hr
  ·rename_i e hpn hse
   split at hr
   ·rename_i st hst
    split at hr
    ·rename_i l1 hl1
     cases hp1:l1.pending.isNone with
     |false=>simp[hp1]at hr
     |true=>
      simp only[hp1,cond_true]at hr
      split at hr
      ·rename_i x st' hst'
       obtain⟨n,hn⟩:=zh.1 hst
       obtain⟨m,hm⟩:=zh.1 hst'
       refine⟨max n m,?_⟩
       have h1:=qab p (Nat.le_max_left n m) _ _ _ hn
       have h2:=qab p (Nat.le_max_right n m) _ _ _ hm
       simp only[y5,hl,hpn,hse,h1,hl1,hp1,cond_true,h2]
       exact hr
      ·cases hr
    ·cases hr
   ·cases hr
  ·cases hr
 ·cases hr
theorem qoq {h0 e hp md x l r}(hr:ze p (X p) h0 e hp md x l=some r):∃n,ze p (qw p n) h0 e hp md x l=some r:=by
 unfold ze at hr
 split at hr
 ·rename_i k first captured vs e1 e2
  cases md with
  |iso=>
   simp only[]at hr
   cases hb:qo 0 (first++vs++captured)with
   |false=>rw[hb]at hr;cases hr
   |true=>
    rw[hb]at hr
    simp only[cond_true]at hr
    split at hr
    ·rename_i v o hc
     obtain⟨n,hn⟩:=qdc hc
     refine⟨n,?_⟩
     simp only[ze,e1,e2,hn]
     rw[hb]
     exact hr
    ·cases hr
  |red=>
   simp only[]at hr
   split at hr
   ·rename_i us hf
    cases hb:qo 0 us with
    |false=>rw[hb]at hr;cases hr
    |true=>
     rw[hb]at hr
     simp only[cond_true]at hr
     split at hr
     ·rename_i v o hc
      obtain⟨n,hn⟩:=qdc hc
      refine⟨n,?_⟩
      simp only[ze,e1,e2,hf,hn]
      rw[hb]
      exact hr
     ·cases hr
   ·cases hr
  |frz _=>
   simp only[]at hr
   cases he:(first++vs++captured).isEmpty with
   |true=>exact⟨0,by simp only[ze,e1,e2,he];rw[he]at hr;exact hr⟩
   |false=>
    rw[he]at hr
    simp only[cond_false]at hr
    cases hb:qo 0 (first++vs++captured)with
    |false=>rw[hb]at hr;cases hr
    |true=>
     rw[hb]at hr
     simp only[cond_true]at hr
     split at hr
     ·rename_i v o hc
      obtain⟨n,hn⟩:=qdc hc
      refine⟨n,?_⟩
      simp only[ze,e1,e2,hn]
      rw[he,hb]
      exact hr
     ·cases hr
  |shr=>
   simp only[]at hr
   split at hr
   ·rename_i v o hh hc
    obtain⟨n,hn⟩:=qgx hc
    refine⟨n,?_⟩
    simp only[ze,e1,e2,hn]
    exact hr
   ·cases hr
 ·rename_i b vs e1 e2
  cases md with
  |shr=>
   simp only[]at hr
   split at hr
   ·rename_i v hh hc
    obtain⟨n,hn⟩:=qp1 hc
    refine⟨n,?_⟩
    simp only[ze,e1,e2,hn]
    exact hr
   ·cases hr
  |_=>simp at hr
 ·cases hr
theorem qr2 {h0 al e hp op r}(hr:qb p (X p) h0 al e hp op=some r):∃n,qb p (qw p n) h0 al e hp op=some r:=by
 cases op with
 |call md x l=>exact qoq hr
 |append rk sz b x y=>cases rk<;>exact⟨0,hr⟩
 |mkslice rk sz b z n c=>cases rk<;>exact⟨0,hr⟩
 |_=>exact⟨0,hr⟩
theorem qnj {h0 o st st'}(hr:zf p (X p) h0 o st=some st'):∃n,zf p (qw p n) h0 o st=some st':=by
 unfold zf at *
 cases hg:yw st.env o.guard with
 |none=>simp[hg]at hr
 |some b=>
  rw[hg]at hr
  cases b with
  |false=>exact⟨0,hr⟩
  |true=>
   simp only[]at hr ⊢
   split at hr
   ·rename_i r hs
    obtain⟨n,hn⟩:=qr2 hs
    exact⟨n,by rw[hn];exact hr⟩
   ·cases hr
theorem qn4 {h0}:∀ {l:List AOper} {st st':ASt},yo p (X p) h0 l st=some st'→∃n,yo p (qw p n) h0 l st=some st'
 | [],_,_,hr=>⟨0,hr⟩
 |o::l,st,st',hr=>by
  simp only[yo]at hr
  split at hr
  ·rename_i s1 h1
   obtain⟨n,hn⟩:=qnj h1
   obtain⟨m,hm⟩:=qn4 hr
   refine⟨max n m,?_⟩
   simp only[yo]
   rw[qha (qab p (Nat.le_max_left n m)) hn]
   exact qhe (qab p (Nat.le_max_right n m)) hm
  ·cases hr
theorem qpq {na l k st r}(hr:yx p (X p) na l k st=some r):∃n,yx p (qw p n) na l k st=some r:=by
 unfold yx at hr
 split at hr
 ·rename_i s1 h1
  obtain⟨n,hn⟩:=qn4 h1
  exact⟨n,by unfold yx;rw[hn];exact hr⟩
 ·cases hr
theorem qr9 {x ps a b st r}(hr:ky p (X p) x ps a b st=some r):∃n,ky p (qw p n) x ps a b st=some r:=by
 unfold ky at hr
 cases hn:(jr a&&jr b)with
 |false=>simp[hn]at hr
 |true=>
  simp only[hn,cond_true]at hr
  split at hr
  ·rename_i k first captured hev
   split at hr
   ·rename_i v o hh hc
    obtain⟨n,hn'⟩:=qgx hc
    refine⟨n,?_⟩
    unfold ky
    rw[hn,hev]
    simp only[cond_true]
    rw[hn']
    exact hr
   ·cases hr
  ·cases hr
theorem qc0 {α:Type}{x y:Option α}(h1:∀r,x=some r→y=some r)(h2:∀r,y=some r→x=some r):x=y:=by
 cases x with
 |none=>
  cases y with
  |none=>rfl
  |some r=>exact(h2 r rfl)
 |some r=>exact(h1 r rfl).symm
theorem q0f {st}:X p .skip st=some (.normal,st):=zh.2 ⟨1,rfl⟩
theorem qz9 {id st}:X p (.exit id) st=some (.exit id,st):=zh.2 ⟨1,rfl⟩
theorem q4x {st}:X p .ret st=some (.ret,st):=zh.2 ⟨1,rfl⟩
theorem qwk {na:Nat}{l:List AOper}{k st}:X p (.region na l k) st=yx p (X p) na l k st:=by
 refine qc0 (fun r h=>?_) (fun r h=>?_)
 ·obtain⟨n,hn⟩:=zh.1 h
  cases n with
  |zero=>simp[qw]at hn
  |succ n=>simp only[qw]at hn;exact qh2 (qd2 n) hn
 ·obtain⟨n,hn⟩:=qpq h
  exact zh.2 ⟨n+1,by simp only[qw];exact hn⟩
theorem qqs {x:qz}{ps:List Nat}{a b st}:X p (.rangeFunc x ps a b) st=ky p (X p) x ps a b st:=by
 refine qc0 (fun r h=>?_) (fun r h=>?_)
 ·obtain⟨n,hn⟩:=zh.1 h
  cases n with
  |zero=>simp[qw]at hn
  |succ n=>simp only[qw]at hn;exact qi7 (qd2 n) hn
 ·obtain⟨n,hn⟩:=qr9 h
  exact zh.2 ⟨n+1,by simp only[qw];exact hn⟩
theorem q7q {a b:ACode}{st:ASt}:X p (.seq a b) st=match X p a st with
  |some (.normal,st')=>X p b st'
  |r=>r:=by
 refine qc0 (fun r h=>?_) (fun r h=>?_)
 ·obtain⟨n,hn⟩:=zh.1 h
  cases n with
  |zero=>simp[qw]at hn
  |succ n=>
   rw[qw]at hn
   split at hn
   ·rename_i st1 h1;rw[qd2 n _ _ _ h1];exact qd2 n _ _ _ hn
   ·rename_i hne
    rw[qd2 n _ _ _ hn]
    split
    ·rename_i st1 h1;cases h1;exact absurd hn (hne _)
    ·rfl
 ·split at h
  ·rename_i st1 h1
   obtain⟨n,hn⟩:=zh.1 h1
   obtain⟨m,hm⟩:=zh.1 h
   refine zh.2 ⟨max n m+1,?_⟩
   rw[qw,qab p (Nat.le_max_left n m) _ _ _ hn]
   exact qab p (Nat.le_max_right n m) _ _ _ hm
  ·rename_i hne
   obtain⟨n,hn⟩:=zh.1 h
   refine zh.2 ⟨n+1,?_⟩
   rw[qw,hn]
   split
   ·rename_i st1 h1;cases h1;exact absurd h (hne _)
   ·rfl
theorem q0w {c:qz}{a b:ACode}{st}:X p (.cond c a b) st=match qe st.env c with
  |some (.bool t)=>bif t then X p a st else X p b st
  |_=>none:=by
 refine qc0 (fun r h=>?_) (fun r h=>?_)
 ·obtain⟨n,hn⟩:=zh.1 h
  cases n with
  |zero=>simp[qw]at hn
  |succ n=>
   rw[qw]at hn
   split at hn
   ·rename_i t ht
    rw[ht]
    cases t
    ·simp only[cond_false]at hn ⊢;exact qd2 n _ _ _ hn
    ·simp only[cond_true]at hn ⊢;exact qd2 n _ _ _ hn
   ·cases hn
 ·split at h
  ·rename_i t ht
   cases t
   ·simp only[cond_false]at h
    obtain⟨n,hn⟩:=zh.1 h
    exact zh.2 ⟨n+1,by rw[qw,ht];exact hn⟩
   ·simp only[cond_true]at h
    obtain⟨n,hn⟩:=zh.1 h
    exact zh.2 ⟨n+1,by rw[qw,ht];exact hn⟩
  ·cases h
theorem qyn {id:Nat}{b:ACode}{st}:X p (.block id b) st=match X p b st with
  |some (.exit id',st')=>bif Nat.beq id' id then some (.normal,st')else some (.exit id',st')
  |r=>r:=by
 refine qc0 (fun r h=>?_) (fun r h=>?_)
 ·obtain⟨n,hn⟩:=zh.1 h
  cases n with
  |zero=>simp[qw]at hn
  |succ n=>
   rw[qw]at hn
   split at hn
   ·rename_i id' st1 h1;rw[qd2 n _ _ _ h1];exact hn
   ·rename_i hne
    rw[qd2 n _ _ _ hn]
    split
    ·rename_i id' st1 h1;cases h1;exact absurd hn (hne _ _)
    ·rfl
 ·split at h
  ·rename_i id' st1 h1
   obtain⟨n,hn⟩:=zh.1 h1
   exact zh.2 ⟨n+1,by rw[qw,hn];exact h⟩
  ·rename_i hne
   obtain⟨n,hn⟩:=zh.1 h
   refine zh.2 ⟨n+1,?_⟩
   rw[qw,hn]
   split
   ·rename_i id' st1 h1;cases h1;exact absurd h (hne _ _)
   ·rfl
theorem q1t {b:ACode}{st:ASt}:X p (.loop b) st=match X p b st with
  |some (.normal,st')=>X p (.loop b) (gc st.heap.length st')
  |r=>r:=by
 refine qc0 (fun r h=>?_) (fun r h=>?_)
 ·obtain⟨n,hn⟩:=zh.1 h
  cases n with
  |zero=>simp[qw]at hn
  |succ n=>
   rw[qw]at hn
   split at hn
   ·rename_i st1 h1;rw[qd2 n _ _ _ h1];exact qd2 n _ _ _ hn
   ·rename_i hne
    rw[qd2 n _ _ _ hn]
    split
    ·rename_i st1 h1;cases h1;exact absurd hn (hne _)
    ·rfl
 ·split at h
  ·rename_i st1 h1
   obtain⟨n,hn⟩:=zh.1 h1
   obtain⟨m,hm⟩:=zh.1 h
   refine zh.2 ⟨max n m+1,?_⟩
   rw[qw,qab p (Nat.le_max_left n m) _ _ _ hn]
   exact qab p (Nat.le_max_right n m) _ _ _ hm
  ·rename_i hne
   obtain⟨n,hn⟩:=zh.1 h
   refine zh.2 ⟨n+1,?_⟩
   rw[qw,hn]
   split
   ·rename_i st1 h1;cases h1;exact absurd h (hne _)
   ·rfl
theorem q05 {sz:Nat}{st:ASt}:X p (.grow sz) st=match qv 0 st.env,qv 1 st.env with
   |some (.list true _ _,_),some (.int .i64 (.ofNat m),_)=>bif Nat.blt 0 m&&Nat.ble m 1073741824 then some (.normal,{ st with env:=[(0,.list false sz [],true)] })else none
   |_,_=>none:=by
 refine qc0 (fun r h=>?_) (fun r h=>?_)
 ·obtain⟨n,hn⟩:=zh.1 h
  cases n with
  |zero=>simp[qw]at hn
  |succ n=>simp only[qw]at hn;exact hn
 ·exact zh.2 ⟨1,by simp only[qw];exact h⟩
theorem qnp {P}(hp':ProgOk P p){k args v ow}(h:qd p (X p) k args=some (v,ow))(hb:qo 0 args=true):IsoCall P k args v ow:=by
 obtain⟨n,hn⟩:=qdc h
 exact qql hp' hn hb
end
inductive GCode where
 |code (c:ACode)
 |seq (a b:GCode)
 |cond (c:qz) (a b:GCode)
 |block (id:Nat) (b:GCode)
 |loop (b:GCode)
 |thaw (s:Nat) (c:GCode)
 |shut (s sz:Nat) (c:GCode)
def GCode.erase:GCode→ACode
 | .code c=>c
 | .seq a b=>.seq a.erase b.erase
 | .cond c a b=>.cond c a.erase b.erase
 | .block id b=>.block id b.erase
 | .loop b=>.loop b.erase
 | .thaw _ c=>c.erase
 | .shut _ _ c=>c.erase
def StI (P:Program)(w0:World)(K:Nat→Nat→Option Value)(nt:Nat)(st:ASt)(a:Act)(w:World):Prop:=
 a.tmps.size=nt∧∃C' ω',Marks C' w0.heap.size a.defers∧MInv P C' ω' w0 (.iso K) st.heap w∧EnvRel C' ω' w w0.heap.size st.env a.tmps
theorem StI.gc {P w0 K nt n st a w}(h:StI P w0 K nt st a w):StI P w0 K nt (Abs.gc n st) a w:=by
 obtain⟨h1,C',ω',h2,h3,h4⟩:=h
 unfold Abs.gc
 cases hb:Nat.ble st.heap.length n with
 |true=>exact⟨h1,C',ω',h2,h3,h4⟩
 |false=>
  simp only[cond_false]
  cases hb2:(yd n st.env&&js n (st.heap.take n))with
  |false=>exact⟨h1,C',ω',h2,h3,h4⟩
  |true=>
   simp only[cond_true]
   simp only[Bool.and_eq_true]at hb2
   have hn:n≤st.heap.length:=by
    rcases Nat.lt_or_ge n st.heap.length with h|h
    ·omega
    ·rw[Nat.ble_eq_true_of_le h]at hb;cases hb
   exact⟨h1,C'.cut n,ω',⟨h2.choose,h2.choose_spec.1,h2.choose_spec.2.1,h2.choose_spec.2.2⟩,h3.gc hn hb2.2 (fun b r h=>by cases h),h4.cut hb2.1⟩
section
variable {P:Program}
theorem Tabs.table {w}(h:Tabs P w){g}(hg:P.globalNamed kh=some g):Lib.TabIs P w kh .u64 Lib.pow10Tab:=(h g (.inl hg)).2.1 hg
theorem Tabs.length {w}(h:Tabs P w){g}(hg:P.globalNamed qc3=some g):∃m,w.cell? ⟨g,0,Option.none⟩=some (.int .i64 m):=(h g (.inr (.inl hg))).2.2.1 hg
theorem qmd {k args v}(h:∀(K:Nat→Nat→Option Value) (w:World) (vs:List Value),Tabs P w→(∀r o u,K r o=some u→w.cell? ⟨r,o,none⟩=some u)→RepL (.iso K) args vs →
  ∃u,Rep (.iso K) v u∧Calls P k ⟨vs⟩ w fun e w'=>e=.returned u∧Ext w w'):IsoCall P k args v false:=by
 intro K w vs ht h1 h2 hr
 obtain⟨u,hu,hc⟩:=h K w vs ht h1 hr
 refine callsIn_wide.2 (hc.mono ?_)
 rintro e w' ⟨rfl,hx⟩
 exact⟨u,K,rfl,hx,fun _ _ _ h=>h,fun _ _ _=>rfl,fun r o x hk=>hx.cell (h1 r o x hk),h2,hu,fun h=>by cases h⟩
theorem IsoCall.shr {k args v ow}(h:IsoCall P k args v ow)(hb:qo 0 args=true)(hp:qa0 v=true)(hp':qi):qri P k args hp' v false hp':=by
 intro C ω w vs hr m
 have hr':RepL (.iso C.K) args vs:=RepI.shift (C:=C) (C':=.iso C.K) 0 (fun _ _ _ h=>h) (fun b r hlt=>by omega) hr hb
 refine CallsIn.mono (h C.K w vs m.tabs m.know m.kone hr') ?_
 rintro e w' ⟨u,K',rfl,q1,q2,q3,q4,q5,q6,_⟩
 refine⟨u,{ C with K:=K' },ω,rfl,⟨q2,fun _ _ h=>h,rfl,fun _ h=>h,fun _ h=>h⟩,m.iso q1 q2 q3 q4 q5,?_,fun h=>by cases h⟩
 exact RepI.shift (C:=.iso K') (C':={ C with K:=K' }) 0 (fun _ _ _ h=>h) (fun b r hlt=>by omega) q6 hp
end
open Go
def qel:List UInt8→List UInt8→Bool
 | [],[]=>true
 |a::l,b::m=>bif Nat.beq a.toNat b.toNat then qel l m else false
 |_,_=>false
theorem qg7:∀ {l m:List UInt8},qel l m=true→l=m
 | [],[],_=>rfl
 | [],_::_,h=>by simp[qel]at h
 |_::_,[],h=>by simp[qel]at h
 |a::l,b::m,h=>by
  simp only[qel,Bool.cond_eq_ite]at h
  split at h
  ·next hb=>rw[UInt8.toNat_inj.1 (Nat.eq_of_beq_eq_true hb),qg7 h]
  ·exact absurd h (by simp)
def qne:Int→Int→Bool
 | .ofNat a,.ofNat b=>Nat.beq a b
 | .negSucc a,.negSucc b=>Nat.beq a b
 |_,_=>false
theorem qp8:∀ {a b:Int},qne a b=true→a=b
 | .ofNat _,.ofNat _,h=>by rw[Nat.eq_of_beq_eq_true h]
 | .negSucc _,.negSucc _,h=>by rw[Nat.eq_of_beq_eq_true h]
 | .ofNat _,.negSucc _,h=>by simp[qne]at h
 | .negSucc _,.ofNat _,h=>by simp[qne]at h
mutual
def eqV:AVal→AVal→Bool
 | .bool a,.bool b=>a == b
 | .int k a,.int k' b=>bif decide (k=k')then qne a b else false
 | .str a,.str b=>qel a b
 | .list a n xs,.list b m ys=>bif a == b then bif Nat.beq n m then eqL xs ys else false else false
 | .agg xs,.agg ys=>eqL xs ys
 | .tup xs,.tup ys=>eqL xs ys
 |_,_=>false
def eqL:List AVal→List AVal→Bool
 | [],[]=>true
 |a::l,b::m=>bif eqV a b then eqL l m else false
 |_,_=>false
end
mutual
theorem quy:∀ {a b:AVal},eqV a b=true→a=b:=by
 intro a b h
 match a,b with
 | .bool _,.bool _=>simp only[eqV,beq_iff_eq]at h;rw[h]
 | .int k a,.int k' b=>
  simp only[eqV,Bool.cond_eq_ite,decide_eq_true_eq]at h
  split at h
  ·next hk=>rw[hk,qp8 h]
  ·exact absurd h (by simp)
 | .str _,.str _=>simp only[eqV]at h;rw[qg7 h]
 | .list a n xs,.list b m ys=>
  simp only[eqV,Bool.cond_eq_ite,beq_iff_eq]at h
  split at h
  ·next h1=>
   split at h
   ·next h2=>rw[h1,Nat.eq_of_beq_eq_true h2,qdk h]
   ·exact absurd h (by simp)
  ·exact absurd h (by simp)
 | .agg _,.agg _=>simp only[eqV]at h;rw[qdk h]
 | .tup _,.tup _=>simp only[eqV]at h;rw[qdk h]
 | .bool _,.int .. | .bool _,.str _ | .bool _,.list .. | .bool _,.agg _ | .bool _,.tup _=>simp[eqV]at h
 | .int ..,.bool _ | .int ..,.str _ | .int ..,.list .. | .int ..,.agg _ | .int ..,.tup _=>simp[eqV]at h
 | .str _,.bool _ | .str _,.int .. | .str _,.list .. | .str _,.agg _ | .str _,.tup _=>simp[eqV]at h
 | .list ..,.bool _ | .list ..,.int .. | .list ..,.str _ | .list ..,.agg _ | .list ..,.tup _=>simp[eqV]at h
 | .agg _,.bool _ | .agg _,.int .. | .agg _,.str _ | .agg _,.list .. | .agg _,.tup _=>simp[eqV]at h
 | .tup _,.bool _ | .tup _,.int .. | .tup _,.str _ | .tup _,.list .. | .tup _,.agg _=>simp[eqV]at h
 | .ms ..,_ | .ptr ..,_ | .vptr _,_ | .pend _,_ | .nilptr,_ | .map _,_ | .nilmap,_ | .fn ..,_ | .nilfn,_ | .undef,_ | .any,_ | .vref ..,_ | .vel ..,_=>simp[eqV]at h
 | .bool _,.ms .. | .bool _,.ptr .. | .bool _,.vptr _ | .bool _,.pend _ | .bool _,.nilptr | .bool _,.map _ | .bool _,.nilmap | .bool _,.fn .. | .bool _,.nilfn | .bool _,.undef | .bool _,.vref .. | .bool _,.vel ..=>simp[eqV]at h
 | .int ..,.ms .. | .int ..,.ptr .. | .int ..,.vptr _ | .int ..,.pend _ | .int ..,.nilptr | .int ..,.map _ | .int ..,.nilmap | .int ..,.fn .. | .int ..,.nilfn | .int ..,.undef | .int ..,.vref .. | .int ..,.vel ..=>simp[eqV]at h
 | .str ..,.ms .. | .str ..,.ptr .. | .str ..,.vptr _ | .str ..,.pend _ | .str ..,.nilptr | .str ..,.map _ | .str ..,.nilmap | .str ..,.fn .. | .str ..,.nilfn | .str ..,.undef | .str ..,.vref .. | .str ..,.vel ..=>simp[eqV]at h
 | .list ..,.ms .. | .list ..,.ptr .. | .list ..,.vptr _ | .list ..,.pend _ | .list ..,.nilptr | .list ..,.map _ | .list ..,.nilmap | .list ..,.fn .. | .list ..,.nilfn | .list ..,.undef | .list ..,.vref .. | .list ..,.vel ..=>simp[eqV]at h
 | .agg ..,.ms .. | .agg ..,.ptr .. | .agg ..,.vptr _ | .agg ..,.pend _ | .agg ..,.nilptr | .agg ..,.map _ | .agg ..,.nilmap | .agg ..,.fn .. | .agg ..,.nilfn | .agg ..,.undef | .agg ..,.vref .. | .agg ..,.vel ..=>simp[eqV]at h
 | .tup ..,.ms .. | .tup ..,.ptr .. | .tup ..,.vptr _ | .tup ..,.pend _ | .tup ..,.nilptr | .tup ..,.map _ | .tup ..,.nilmap | .tup ..,.fn .. | .tup ..,.nilfn | .tup ..,.undef | .tup ..,.vref .. | .tup ..,.vel ..=>simp[eqV]at h
theorem qdk:∀ {l m:List AVal},eqL l m=true→l=m:=by
 intro l m h
 match l,m with
 | [],[]=>rfl
 | [],_::_=>simp[eqL]at h
 |_::_,[]=>simp[eqL]at h
 |a::l,b::m=>
  simp only[eqL,Bool.cond_eq_ite]at h
  split at h
  ·next h1=>rw[quy h1,qdk h]
  ·exact absurd h (by simp)
end
abbrev Row:=List AVal×AVal×Bool
def qf7 (args:List AVal):List Row→Option (AVal×Bool)
 | []=>none
 |r::l=>bif eqL r.1 args then some r.2 else qf7 args l
theorem qi5 {args x}:∀ {l:List Row},qf7 args l=some x→(args,x)∈l
 | [],h=>by simp[qf7]at h
 |r::l,h=>by
  simp only[qf7,Bool.cond_eq_ite]at h
  split at h
  ·next hb=>
   simp only[Option.some.injEq]at h
   rw[←qdk hb,←h]
   exact List.mem_cons_self ..
  ·exact List.mem_cons_of_mem _ (qi5 h)
def qw5 (P:Program)(tab:Nat→Option (List Row)):Prop:=
 ∀k l,tab k=some l→∀r∈l,IsoCall P k r.1 r.2.1 r.2.2
def qej:List (Nat×List Row)→Nat→Option (List Row)
 | [],_=>none
 |(k,l)::t,n=>bif Nat.beq k n then some l else qej t n
def qlx (P:Program)(k:Nat):List Row→Prop
 | []=>True
 |r::l=>IsoCall P k r.1 r.2.1 r.2.2∧qlx P k l
def qtz (P:Program):List (Nat×List Row)→Prop
 | []=>True
 |(k,l)::t=>qlx P k l∧qtz P t
theorem qpc {P k}:∀ {l:List Row},qlx P k l→∀r∈l,IsoCall P k r.1 r.2.1 r.2.2
 |r::l,h,x,hx=>by
  cases hx with
  |head=>exact h.1
  |tail _ hx=>exact qpc h.2 x hx
theorem qtk {P}:∀ {t:List (Nat×List Row)},qtz P t→qw5 P (qej t)
 |(j,m)::t,h,k,l,hk=>by
  simp only[qej,Bool.cond_eq_ite]at hk
  split at hk
  ·next hb=>
   rw[Nat.eq_of_beq_eq_true hb]at h
   simp only[Option.some.injEq]at hk
   subst hk
   exact qpc h.1
  ·exact qtk h.2 k l hk
theorem qru {P p}(h:ProgOk P p){n k b ow h1 es}(hr:jq p (zy p n) k [] []=some (.map b,ow,h1))(hb:h1[b]?=some (.map es))(he:y8 0 es=true):Enters P k∧qk9 P k es:=
 qsj h (CodeOk.of' (qlr h n).1) (by rw[←qho];exact hr) hb he
theorem qcq {P p}(h:ProgOk P p){n k args v o}(hr:qd p (zy p n) k args=some (v,o))(hb:qo 0 args=true:=by rfl):IsoCall P k args v o:=
 qql h (qs8 hr) hb
end Go.Abs
