/- The growth of an empty slice in slices.Grow. -/
import Derived.Test.YtimdocpnkimlfaaGreatDoorAbsE
import Derived.Lib.AppendZeros
import Derived.ProofKit
import Derived.OpenShut
import Derived.ShutString
set_option linter.unusedVariables false
set_option linter.unusedSimpArgs false
open Option renaming some→I,none→En,map_eq_some_iff→G8,bind_some→Jt
open Bool renaming and_eq_true→E3,true→Ga,false→Gd,cond_eq_ite→Gi
open Nat renaming eq_of_beq_eq_true→Gc,le_max_right→Gp,le_max_left→Gr,beq→G6,ble→Hc,ble_eq_true_of_le→If,succ_mul→Jn,le_refl→Jr,blt→Js
open List renaming getElem?_range→Gg,range→Gm,length_eq_zero_iff→G7,mem_of_getElem?→G9,getElem?_eq_some_iff→Hb,mem_cons_of_mem→Ih,mem_cons_self→Iy,flatten_cons→Jo,length_range→Jp,getElem?_map→Jq,mem_append→Jy,replicate→J9,drop_drop→La,mem_cons→Lf,map_cons→Lk,all_cons→Ln
open Array renaming getD_eq_getD_getElem?→Gh,ext'→Gq,getElem?_eq_some_iff→Ha
open Prod renaming mk→Hd
namespace Go.Abs
section
variable {P:Program}{C C0:aI}{ω:Nat→Option Loc}{w w0:World}{hp:qh}{env:Env}{a:Act}{ρ:Option Nat}
theorem wH {a:Act}{d:Nat}{v:Value}(h:d<a.tmps.size):(a.put (I d) v).eval (.tmp d)=v:=by
 simp[Act.eval,Act.put,Gh,h]
theorem kr {a:Act}{d j:Nat}{v:Value}(h:d≠j):(a.put (I d) v).eval (.tmp j)=a.eval (.tmp j):=by
 simp[Act.eval,Act.put,Gh,Array.getElem?_setIfInBounds_ne h]
theorem rO {a:Act}{d:Nat}{v:Value}:(a.put (I d) v).tmps.size=a.tmps.size:=by simp[Act.put]
theorem vw {ops:Array Oper}{Q:Exit→Act→World→Prop}{i d:Nat}{rest:List Nat}{o:Oper}{v:Value}{w':World}(hi:ops[i]?=I o)(hg:o.guard=En)(hd:o.dst=I d)(hn:∀c,o.op≠.defer c)(bF:(execOp a.eval o).run P w=.ok (.value v) w')
  (hk:wpOpsIn (iZ ρ) 0 P ops Q rest (a.put (I d) v) w'):wpOpsIn (iZ ρ) 0 P ops Q (i::rest) a w:=by
 rw[wpOpsIn_cons]
 unfold wpOpIn
 rw[hi]
 simp only[]
 rw[show Region.wanted o (yielded ops a.tmps)=Ga from by simp[Region.wanted,hg]]
 simp only[if_true]
 refine⟨fun _ _=>trivial,?_⟩
 rw[Oper.semAt_eq _ _ _ hn,bF]
 rw[←hd]at hk
 exact hk
theorem Lq {s d:Nat}{o:Oper}(h:Dy s d o=Ga):o.op=.move (.tmp s)∧o.dst=I d∧o.guard=En:=by
 unfold Dy at h
 split at h
 ·rename_i h1 h2 h3
  simp only[E3,beq_iff_eq]at h
  obtain⟨rfl,rfl⟩:=h
  exact⟨h1,h2,h3⟩
 ·cases h
theorem q2h {s d:Nat}{o:Oper}(h:QF s d o=Ga):o.op=.assign (.tmp s)∧o.dst=I d∧o.guard=En:=by
 unfold QF at h
 split at h
 ·rename_i h1 h2 h3
  simp only[E3,beq_iff_eq]at h
  obtain⟨rfl,rfl⟩:=h
  exact⟨h1,h2,h3⟩
 ·cases h
theorem jka {x d:Nat}{o:Oper}{t:TypeId}(h:QG x d o=I t):∃c,o.op=.call c∧c.callee=.builtin .cap∧c.args=#[.tmp x]∧c.argTypes=#[t]∧o.dst=I d∧o.guard=En:=by
 unfold QG at h
 split at h
 ·rename_i c _ h1 h2 h3
  split at h
  ·rename_i h4 h5 h6
   split at h
   ·rename_i hk
    simp only[E3,beq_iff_eq]at hk
    obtain⟨rfl,rfl⟩:=hk
    cases h
    exact⟨c,h1,h4,by apply Gq;simpa using h5,by apply Gq;simpa using h6,h2,h3⟩
   ·cases h
  ·cases h
 ·cases h
theorem jl9 {x d:Nat}{o:Oper}{t:TypeId}(h:QH x d o=I t):∃c,o.op=.call c∧c.callee=.builtin .len∧c.args=#[.tmp x]∧c.argTypes=#[t]∧o.dst=I d∧o.guard=En:=by
 unfold QH at h
 split at h
 ·rename_i c _ h1 h2 h3
  split at h
  ·rename_i h4 h5 h6
   split at h
   ·rename_i hk
    simp only[E3,beq_iff_eq]at hk
    obtain⟨rfl,rfl⟩:=hk
    cases h
    exact⟨c,h1,h4,by apply Gq;simpa using h5,by apply Gq;simpa using h6,h2,h3⟩
   ·cases h
  ·cases h
 ·cases h
theorem q57 {x h d:Nat}{o:Oper}{t:TypeId}(hh:KP x h d o=I t):o.op=.slice t (.tmp x) En (I (.tmp h)) En∧o.dst=I d∧o.guard=En:=by
 unfold KP at hh
 split at hh
 ·rename_i h1 h2 h3
  split at hh
  ·rename_i hk
   simp only[E3,beq_iff_eq]at hk
   obtain⟨⟨rfl,rfl⟩,rfl⟩:=hk
   cases hh
   exact⟨h1,h2,h3⟩
  ·cases hh
 ·cases hh
theorem jlt {x y d:Nat}{o:Oper}{t u:TypeId}(h:QI x y d o=I (t,u)):∃c,o.op=.call c∧c.callee=.builtin .append∧c.args=#[.tmp x,.tmp y]∧c.argTypes=#[t,u]∧o.dst=I d∧o.guard=En:=by
 unfold QI at h
 split at h
 ·rename_i c _ h1 h2 h3
  split at h
  ·rename_i h4 h5 h6
   split at h
   ·rename_i hk
    simp only[E3,beq_iff_eq]at hk
    obtain⟨⟨rfl,rfl⟩,rfl⟩:=hk
    cases h
    exact⟨c,h1,h4,by apply Gq;simpa using h5,by apply Gq;simpa using h6,h2,h3⟩
   ·cases h
  ·cases h
 ·cases h
theorem q8c {o:Oper}{t e:TypeId}{x h:Nat}{b:Option Addr}{len cap n:Nat}(ho:o.op=.slice t (.tmp x) En (I (.tmp h)) En)(ht:P.underlying t=I (.slice e)){sz:Nat}(hn:jp P e=I sz)(hx:a.eval (.tmp x)=.slice b len cap)(hh:a.eval (.tmp h)=.int .i64 (n:Int))(hle:n≤cap):
  (execOp a.eval o).run P w=.ok (.value (.slice (if cap=0 then b else b.map (·.add 0)) n cap)) w:=by
 have hb:(0:Int)≤n∧(n:Int)≤cap:=by omega
 simp[execOp,ho,Instr.sliceAt,Instr.slice,run_underlying ht,hx,Instr.sliceBounds,hh,Instr.sliceBound,asIntOf,hle,yl hn]
theorem jra {id nt:Nat}{ops:Array Oper}{sz:Nat}(hg:KQ P nt ops=I sz)(m:az P C ω w0 C0 hp w)(he:aq C ω w w0.heap.size env a.tmps)(cS:a.tmps.size=nt)(yI:Marks C w0.heap.size a.defers){z k:Nat}{xs:List AVal}{o1 o2:Bool}
  (h0:jj 0 env=I (.list Ga z xs,o1)) (h1:jj 1 env=I (.int .i64 (.ofNat k),o2)) (hk0:0<k) (fZ:k≤1073741824):
  (Code.region id ops Gd).wpIn (iZ ρ) 0 P (fun e a' w'=>e=.normal∧dq P w0 C0 C nt ⟨[(0,.list Gd sz [],Ga)],hp⟩ a' w') a w:=by
 unfold KQ at hg
 split at hg
 ·rename_i t u pG
  split at hg
  ·rename_i e kk ht hu
   split at hg
   ·rename_i i hi
    split at hg
    ·rename_i hc
     cases hg
     simp only[E3,decide_eq_true_eq,Option.isSome_iff_exists,beq_iff_eq]at hc
     obtain⟨⟨⟨⟨⟨⟨zv,hz⟩,Lr⟩,Se⟩,hnt⟩,⟨zl,ig⟩⟩,qM⟩:=hc
     have yJ:jp P e=I i.size:=by simp[jp,hi]
     unfold jm4 at pG
     split at pG
     ·rename_i p0 p1 p2 p3 p4 p5 p6 p7 p8 p9 Sf
      split at pG
      ·rename_i t2 t3 tt uu t7 t8 g2 g3 g5 g7 g8
       split at pG
       ·rename_i dF
        cases pG
        simp only[E3,beq_iff_eq]at dF
        obtain⟨⟨⟨⟨⟨⟨⟨⟨c0,c1⟩,c4⟩,c6⟩,c9⟩,x2⟩,x3⟩,x7⟩,x8⟩:=dF
        replace x2:=x2.symm
        replace x3:=x3.symm
        replace x7:=x7.symm
        replace x8:=x8.symm
        subst x2;subst x3;subst x7;subst x8
        have Gs:ops=#[p0,p1,p2,p3,p4,p5,p6,p7,p8,p9]:=by apply Gq;simpa using Sf
        subst Gs
        obtain⟨v0,q0,r0,_⟩:=he 0 _ h0
        obtain⟨v1,q1,r1,_⟩:=he 1 _ h1
        have iX:v0=.slice En 0 0:=by
         rcases r0.cU with⟨_,_,h⟩|⟨h,_⟩|⟨h,_⟩
         ·exact h
         ·cases h
         ·cases h
        have od:v1=.int .i64 (k:Int):=by cases r1;rfl
        subst iX;subst od
        have hl:26≤a.tmps.size:=by omega
        have e0:a.eval (.tmp 0)=.slice En 0 0:=by simp[Act.eval,Gh,q0]
        have e1:a.eval (.tmp 1)=.int .i64 (k:Int):=by simp[Act.eval,Gh,q1]
        obtain⟨a0,a0d,a0g⟩:=Lq c0
        obtain⟨a1,a1d,a1g⟩:=Lq c1
        obtain⟨cc2,a2,b2,b2a,b2t,a2d,a2g⟩:=jka g2
        obtain⟨a3,a3d,a3g⟩:=q57 g3
        obtain⟨a4,a4d,a4g⟩:=Lq c4
        obtain⟨cc5,a5,b5,b5a,b5t,a5d,a5g⟩:=jlt g5
        obtain⟨a6,a6d,a6g⟩:=Lq c6
        obtain⟨cc7,a7,b7,b7a,b7t,a7d,a7g⟩:=jl9 g7
        obtain⟨a8,a8d,a8g⟩:=q57 g8
        obtain⟨a9,a9d,a9g⟩:=q2h c9
        refine wpIn_region ?_
        rw[show Gm (#[p0,p1,p2,p3,p4,p5,p6,p7,p8,p9]:Array Oper).size=[0,1,2,3,4,5,6,7,8,9]from rfl]
        refine vw (o:=p0) rfl a0g a0d (by simp[a0]) (v:=.slice En 0 0) (w':=w) (by simp[execOp,a0,e0]) ?_
        refine vw (o:=p1) rfl a1g a1d (by simp[a1]) (v:=.slice En 0 0) (w':=w) (by simp[execOp,a1,kr,e0]) ?_
        refine vw (o:=p2) rfl a2g a2d (by simp[a2]) (v:=.int .i64 0) (w':=w) ?_ ?_
        ·have:(((a.put (I 17) (.slice En 0 0)).put (I 18) (.slice En 0 0))).eval (.tmp 18)=.slice En 0 0:=wH (by rw[rO];omega)
         simp[execOp,a2,resolve,b2,b2a,b2t,invoke,builtin,Builtin.cap_,run_underlying ht,this,goInt]
        refine vw (o:=p3) rfl a3g a3d (by simp[a3]) (v:=.slice En 0 0) (w':=w) ?_ ?_
        ·have Sg:((((a.put (I 17) (.slice En 0 0)).put (I 18) (.slice En 0 0))).put (I 19) (.int .i64 0)).eval (.tmp 17)=.slice En 0 0:=by
          rw[kr (by omega),kr (by omega),wH (by omega)]
         have Sh:((((a.put (I 17) (.slice En 0 0)).put (I 18) (.slice En 0 0))).put (I 19) (.int .i64 0)).eval (.tmp 19)=.int .i64 ((0:Nat):Int):=by
          rw[wH (by rw[rO,rO];omega)];rfl
         have:=q8c (P:=P) (w:=w) (o:=p3) a3 ht yJ Sg Sh (Jr 0)
         simpa using this
        refine vw (o:=p4) rfl a4g a4d (by simp[a4]) (v:=.int .i64 (k:Int)) (w':=w) (by simp[execOp,a4,kr,e1]) ?_
        have rJ:=Lib.run_append_nil_zeros w t u p5.type e i zv .i64 kk ht hu hi hz k hk0 Lr (by omega) (by
         have:k*i.bytes≤1073741824*4096:=Nat.mul_le_mul fZ Se
         omega)
        refine vw (o:=p5) rfl a5g a5d (by simp[a5]) (v:=.slice (I ⟨w.heap.size,0,En⟩) k (grownCap w k 0 e)) (w':=w.drew.alloc (.cells (Builtin.zeroCells zv.cells k++Builtin.zeroCells zv.cells (grownCap w k 0 e-k)) e)) ?_ ?_
        ·generalize hA:(((((a.put (I 17) (.slice En 0 0)).put (I 18) (.slice En 0 0)).put (I 19) (.int .i64 0)).put (I 20) (.slice En 0 0)).put (I 21) (.int .i64 (k:Int)))=A
         have A2:A.eval (.tmp 20)=.slice En 0 0:=by
          rw[←hA,kr (by omega),wH (by simp only[rO];omega)]
         have Gt:A.eval (.tmp 21)=.int .i64 (k:Int):=by
          rw[←hA,wH (by simp only[rO];omega)]
         simp[execOp,a5,resolve,b5,b5a,b5t,invoke,builtin,A2,Gt,rJ]
        generalize hW:w.drew.alloc (.cells (Builtin.zeroCells zv.cells k++Builtin.zeroCells zv.cells (grownCap w k 0 e-k)) e)=W
        generalize hA:(((((a.put (I 17) (.slice En 0 0)).put (I 18) (.slice En 0 0)).put (I 19) (.int .i64 0)).put (I 20) (.slice En 0 0)).put (I 21) (.int .i64 (k:Int)))=A
        have hA0:A.eval (.tmp 0)=.slice En 0 0:=by rw[←hA];simp only[kr (show(21:Nat)≠0 by omega),kr (show(20:Nat)≠0 by omega),kr (show(19:Nat)≠0 by omega),kr (show(18:Nat)≠0 by omega),kr (show(17:Nat)≠0 by omega),e0]
        have hAs:A.tmps.size=a.tmps.size:=by rw[←hA];simp only[rO]
        have hAd:A.defers=a.defers:=by rw[←hA];rfl
        generalize hcp:grownCap w k 0 e=cp
        have hcap:k≤cp:=by rw[←hcp];simpa using grownCap_ge w k 0 e
        refine vw (o:=p6) rfl a6g a6d (by simp[a6]) (v:=.slice En 0 0) (w':=W) (by simp[execOp,a6,kr,hA0]) ?_
        refine vw (o:=p7) rfl a7g a7d (by simp[a7]) (v:=.int .i64 0) (w':=W) ?_ ?_
        ·generalize hB:((A.put (I 22) (.slice (I ⟨w.heap.size,0,En⟩) k cp)).put (I 23) (.slice En 0 0))=B
         have Gu:B.eval (.tmp 23)=.slice En 0 0:=by
          rw[←hB,wH (by rw[rO];omega)]
         simp[execOp,a7,resolve,b7,b7a,b7t,invoke,builtin,Builtin.len_,run_underlying ht,Gu,goInt]
        refine vw (o:=p8) rfl a8g a8d (by simp[a8]) (v:=.slice (I ⟨w.heap.size,0,En⟩) 0 cp) (w':=W) ?_ ?_
        ·generalize hB:(((A.put (I 22) (.slice (I ⟨w.heap.size,0,En⟩) k cp)).put (I 23) (.slice En 0 0)).put (I 24) (.int .i64 0))=B
         have A3:B.eval (.tmp 22)=.slice (I ⟨w.heap.size,0,En⟩) k cp:=by
          rw[←hB,kr (by omega),kr (by omega),wH (by omega)]
         have Gv:B.eval (.tmp 24)=.int .i64 ((0:Nat):Int):=by
          rw[←hB,wH (by simp only[rO];omega)];rfl
         have:=q8c (P:=P) (w:=W) (o:=p8) a8 ht yJ A3 Gv (Nat.zero_le cp)
         rw[if_neg (by omega)]at this
         simp only[Option.map_some,add_lit,Nat.add_zero]at this
         exact this
        refine vw (o:=p9) rfl a9g a9d (by simp[a9]) (v:=.slice (I ⟨w.heap.size,0,En⟩) 0 cp) (w':=W) ?_ ?_
        ·have Si:((((A.put (I 22) (.slice (I ⟨w.heap.size,0,En⟩) k cp)).put (I 23) (.slice En 0 0)).put (I 24) (.int .i64 0)).put (I 25) (.slice (I ⟨w.heap.size,0,En⟩) 0 cp)).eval (.tmp 25)=.slice (I ⟨w.heap.size,0,En⟩) 0 cp:=by
          rw[wH (by simp only[rO];omega)]
         simp[execOp,a9,Si]
        -- the end
        have hxd:=Ext.drew w
        obtain⟨zs,zvr,Gw,cK,lJ⟩:=vh (C:=C) ig
        have ni:zv.cells.size=i.size:=by
         have h3:zl.length=i.size:=by rw[ig]at qM;simpa using qM
         have h4:=cK.length
         have h5:zvr=zv:=by
          have:=Gw w
          simp[zeroValue,typeInfo,hi,hz]at this
          exact this.symm
         subst h5
         simp only[Array.length_toList]at h4;omega
        have gY:=K3 (d:=.slot 0) (tmps:=a.tmps) (m.ext hxd) (he.ext hxd) (Builtin.zeroCells zv.cells k++Builtin.zeroCells zv.cells (cp-k)) e [] i.size cp [] (by simpa using aB.nil) (by simp) (by simp) (by simp) (by simp) (by
         have hlen:∀n,(Builtin.zeroCells zv.cells n).size=n*i.size:=fun n=>by simp[Builtin.zeroCells,ni]
         rw[Array.size_append,hlen,hlen,←Nat.add_mul]
         exact Nat.mul_le_mul_right _ (by omega)) En
        rw[hcp]at hW
        rw[hW]at gY
        have hd0:w.drew.heap.size=w.heap.size:=rfl
        rw[hd0]at gY
        simp only[List.length_nil]at gY
        clear hW hA0 Gw cK
        generalize hB:(((A.put (I 22) (.slice (I ⟨w.heap.size,0,En⟩) k cp)).put (I 23) (.slice En 0 0)).put (I 24) (.int .i64 0)).put (I 25) (.slice (I ⟨w.heap.size,0,En⟩) 0 cp)=B
        have hBs:B.tmps.size=a.tmps.size:=by rw[←hB];simp only[rO];omega
        have hBd:B.defers=a.defers:=by rw[←hB,←hAd];rfl
        obtain⟨C',ω',k1,k2,k3,k4,k5⟩:=gY
        have lV:dq P w0 C0 C nt ⟨[(0,.list Gd i.size [],Ga)],hp⟩ (B.put (I 0) (.slice (I ⟨w.heap.size,0,En⟩) 0 cp)) W:=by
         refine⟨by rw[rO];omega,C',ω',k1,?_,k2,?_⟩
         ·rw[show(B.put (I 0) (.slice (I ⟨w.heap.size,0,En⟩) 0 cp)).defers=B.defers from rfl,hBd]
          exact yI.mono k1
         ·intro s x hx
          simp only[jj]at hx
          cases hb:G6 0 s with
          |false=>simp[hb]at hx
          |true=>
           have:=Gc hb
           subst this
           simp only[hb,cond_true,I.injEq]at hx
           subst hx
           exact⟨_,by simp only[Act.put];rw[Array.getElem?_setIfInBounds_self_of_lt (by omega)],k4,k5⟩
        simp only[wpOpsIn]
        exact⟨trivial,lV⟩
       ·cases pG
      ·cases pG
     ·cases pG
    ·cases hg
   ·cases hg
  ·cases hg
 ·cases hg
end
def fN (ρ:Option Nat)(P:Program)(c:Code)(Q:Exit→Act→World→Prop)(a:Act)(w:World):Prop:=
 ∀(b:Frame) (k:List Item) (cs:List Frame),b.roundOf=(iZ ρ).round→(iZ ρ).fn b.fn→(iZ ρ).room (cs.length+1+0) →
  ∃e a' w',Q e a' w'∧ArrivesIn (Machine.fenced P (iZ ρ)) P (lone (b.atR a (.code c::.inLoop c::k)) cs w) b k cs e a' w'
theorem fN.wpIn {ρ P c Q a w}(h:fN ρ P c Q a w):(Code.loop c).wpIn (iZ ρ) 0 P Q a w:=by
 intro b k cs yK hb hr
 obtain⟨e,a',w',hq,eV⟩:=h b k cs yK hb hr
 exact⟨e,a',w',hq,.of_steps (.one (fenced_calm hb hr rfl) stepR_loop) eV⟩
theorem fN.wI {ρ P c Q a w}(h:c.wpIn (iZ ρ) 0 P (Exit.then (fN ρ P c Q) Q) a w):fN ρ P c Q a w:=by
 intro b k cs yK hb hr
 obtain⟨e,a₁,w₁,hq,eV⟩:=h b (.inLoop c::k) cs yK hb hr
 cases e with
 |normal=>
  obtain⟨e₂,a₂,w₂,Gx,wJ⟩:=hq b k cs yK hb hr
  exact⟨e₂,a₂,w₂,Gx,.of_steps (StepsIn.trans eV (.one (fenced_calm hb hr rfl) stepR_inLoop)) wJ⟩
 |exit id=>exact⟨_,a₁,w₁,hq,.pass (x:=.inLoop c) rfl (fun _ _=>.inl (by simp)) eV⟩
 |goto l=>exact⟨_,a₁,w₁,hq,.pass (x:=.inLoop c) rfl (fun _ _=>.inl (by simp)) eV⟩
 |ret=>exact⟨_,a₁,w₁,hq,.pass (x:=.inLoop c) rfl (fun _ _=>.inl (by simp)) eV⟩
 |panic ch=>exact⟨_,a₁,w₁,hq,.pass (x:=.inLoop c) rfl (fun _ _=>.inl (by simp)) eV⟩
 |outgrown=>exact⟨_,a₁,w₁,hq,.pass (x:=.inLoop c) rfl (fun _ _=>.inl (by simp)) eV⟩
section
variable {P:Program}{p:j8}{xc:XC}
def Ls (P:Program)(w0:World)(C0 C:aI)(nt:Nat)(x:jg)(bT:bf):Exit→Act→World→Prop:=fun e a' w'=>e=AL x∧dq P w0 C0 C nt bT a' w'
def q72 (P:Program)(xc:XC):Prop:=
 ∀(ρ:Option Nat) (nt:Nat) (c:Code) (ca:aw) (st bT:bf) (x:jg),Fo P nt c ca→(ρ≠En→z6 ca=Ga)→xc ca st=I (x,bT) →
  ∀(C:aI) (w0:World) (C0:aI) (a:Act) (w:World),dq P w0 C0 C nt st a w→c.wpIn (iZ ρ) 0 P (Ls P w0 C0 C nt x bT) a w
theorem cD.Gy (h:q72 P xc):cD P xc:=
 fun ρ nt c ca st bT x hc hn hx C ω w0 C0 a w m he cS kQ=>wpIn_mono (h ρ nt c ca st bT x hc hn hx C w0 C0 a w ⟨cS,C,ω,aI.le_refl C,kQ,m,he⟩) fun _ _ _ hq=>hq
def jd9 (P:Program)(xc:XC):Prop:=
 ∀(ρ:Option Nat) (nt:Nat) (c:Code) (ca:aw) (st bT:bf) (x:jg),Fo P nt c ca→(ρ≠En→z6 ca=Ga)→xc (.loop ca) st=I (x,bT) →
  ∀(C:aI) (w0:World) (C0:aI) (a:Act) (w:World),dq P w0 C0 C nt st a w→fN ρ P c (Ls P w0 C0 C nt x bT) a w
theorem dq.gc {w0 C0 C nt n st a w}(h:dq P w0 C0 C nt st a w)(hC:∀b r,C.β b=I r→b<n)(Sj:∀b r,C0.β b=I r→b<n):dq P w0 C0 C nt (Abs.gc n st) a w:=by
 unfold Abs.gc
 cases hb:Hc st.heap.length n with
 |true=>exact h
 |false=>
  simp only[cond_false]
  cases lP:(mV n st.env&&zr n (st.heap.take n))with
  |false=>exact h
  |true=>
   simp only[cond_true]
   simp only[E3]at lP
   obtain⟨h1,C',ω',h3,h2,h4,h5⟩:=h
   have hn:n≤st.heap.length:=by
    rcases Nat.lt_or_ge n st.heap.length with h|h
    ·omega
    ·rw[If h]at hb;cases hb
   exact⟨h1,C'.cut n,ω',aI.iK h3 hC,⟨h2.choose,h2.choose_spec.1,h2.choose_spec.2.1,h2.choose_spec.2.2⟩,h4.gc hn lP.2 Sj,h5.cut lP.1⟩
theorem Lt {K w0 C0 C nt x bT Q e a w}(h:Ls P w0 C0 C nt x bT e a w)(hn:x=.normal→dq P w0 C0 C nt bT a w→K a w)(ho:x≠.normal→dq P w0 C0 C nt bT a w→Q (AL x) a w):Exit.then K Q e a w:=by
 obtain⟨rfl,h⟩:=h
 cases x with
 |normal=>exact hn rfl h
 |exit id=>exact ho (by simp) h
 |ret=>exact ho (by simp) h
theorem q63 {b:Frame}{a k cs w c}:step P (lone (b.atR a (.code (.scope c)::k)) cs w)=.next (lone (b.atR a (.code c::.inScope c::k)) cs w):=
 step_lone_go (by simp[stepG,stepG.exec,Frame.atR])
theorem q0k {b:Frame}{a k cs w c}:step P (lone (b.atR a (.inScope c::k)) cs w)=.next (lone (b.atR a k) cs w):=
 step_lone_go (by simp[stepG,stepG.exec,Frame.atR])
theorem qo9 {F:Fence}{n c Q a w}(h:c.wpIn F n P (Exit.noGoto Q) a w):(Code.scope c).wpIn F n P Q a w:=by
 intro b k cs yK hb hr
 obtain⟨e,a₁,w₁,hq,eV⟩:=h b (.inScope c::k) cs yK hb hr
 have h1:StepsIn (Machine.fenced P F) P (lone (b.atR a (.code (.scope c)::k)) cs w) (lone (b.atR a (.code c::.inScope c::k)) cs w):=.one (fenced_calm hb hr rfl) q63
 cases e with
 |normal=>exact⟨.normal,a₁,w₁,hq,StepsIn.trans h1 (StepsIn.trans eV (.one (fenced_calm hb hr rfl) q0k))⟩
 |goto l=>exact hq.elim
 |exit id=>
  refine⟨.exit id,a₁,w₁,hq,.of_steps h1 ?_⟩
  refine⟨fun k' hk=>eV.1 k' (by simp[exitTo,hk]),fun Sk iL=>?_⟩
  exact eV.2 Sk (by simp[exitTo,iL])
 |ret=>exact⟨_,a₁,w₁,hq,.of_steps h1 eV⟩
 |panic ch=>exact⟨_,a₁,w₁,hq,.of_steps h1 eV⟩
 |outgrown=>exact⟨_,a₁,w₁,hq,.of_steps h1 eV⟩
theorem az.Sl {C C0 ω w0 w hp}(m:az P C ω w0 C0 hp w):az P { C with D:=fun r=>C.D r∨r=w.heap.size } ω w0 C0 hp (w.alloc (.deferred (I []))):=by
 have hx:Ext w (w.alloc (.deferred (I []))):=Ext.alloc w _ (fun c t fr h=>by cases h)
 have m':=m.ext hx
 exact { m' with
  fo:=fun r hr=>by
   rcases hr with hr|hr
   ·exact m'.fo r hr
   ·subst hr;rw[wx,if_pos rfl]
  grown:=⟨m.grown.k,m.grown.b,m.grown.w,fun r h=>.inl (m.grown.d r h),m.grown.t⟩
  box:=fun b x r fh hb=>bE.imp (C:=C) (C':={ C with D:=fun r=>C.D r∨r=w.heap.size }) ⟨fun _ _ _ h=>h,fun _ _ h=>h⟩ rfl (fun _ _ _ ho=>ho) (m'.box b x r fh hb) }
theorem jim (et:bW P p)(hx:cD P xc){f ps x1 x2 f' a1 a2 h nt st bT x C w0 C0 a w}
  (hf:qt f=I f') (h1:gT P h nt x1=I a1) (h2:gT P h nt x2=I a2) (cA:∀t∈ps.toList,t<nt) (hs:mZ p xc f' ps.toList a1 a2 st=I (x,bT)) (b6:dq P w0 C0 C nt st a w):
  (Code.rangeFunc f ps x1 x2).wpIn (iZ En) 0 P (Ls P w0 C0 C nt x bT) a w:=by
 obtain⟨cS,Ca,ω,hle,yI,m,he⟩:=b6
 unfold mZ at hs
 cases Lu:(z6 a1&&z6 a2)with
 |false=>simp[Lu]at hs
 |true=>
  simp only[Lu,cond_true]at hs
  simp only[E3]at Lu
  split at hs
  ·rename_i k first captured gW
   have yD:=qv he.cm hf gW
   generalize F5:a.eval f=fv at yD
   cases yD with
   |fn g g' _ _ as bs hg ha hb=>
    simp only[fE]at hg
    subst hg
    split at hs
    ·rename_i _r1 _r2 h' F3
     split at hs
     ·rename_i l' hl'
      cases jH:zr st.heap.length (h'.take st.heap.length)with
      |false=>simp[jH]at hs
      |true=>
       simp only[jH,cond_true]at hs
       ·obtain⟨lQ,nx⟩:=F2 et hx F3
        -- the loop's record,and the block before it
        refine wpIn_rangeFunc fun fn _=>?_
        generalize hlp:({ state:=.ready,pending:=En,fn:=fn,tmps:=a.tmps,params:=ps,assign:=x1,body:=x2,defers:=w.heap.size }:Loop)=lp
        have mD:=(m.Sl).holes 1
        have eD:aq { Ca with D:=fun r=>Ca.D r∨r=w.heap.size } ω (w.alloc (.deferred (I []))) w0.heap.size st.env a.tmps:=fun s y hy=>
         let ⟨v,k1,k2,k3⟩:=he.ext (Ext.alloc w _ (fun c t fr h=>by cases h)) s y hy
         ⟨v,k1,bP.rz k2,k3⟩
        have Gz:(st.heap++J9 1 .hole)[st.heap.length]?=I .hole:=by simp
        have GD:(w.alloc (.deferred (I []))).heap.size=w.heap.size+1:=by rw[World.size_alloc]
        obtain⟨mB,eB,nz⟩:=mD.aK eD Gz (.loop lp) (fun c t fr h=>by cases h) (.loop ⟨st.env,ps.toList,a1,a2,En⟩) (by
         intro C' ω' w' cO Lg
         subst hlp
         exact⟨_,Lg,{ assign:=⟨h,by rw[cS];exact h1⟩,body:=⟨h,by rw[cS];exact h2⟩,params:=rfl,fits:=fun t ht=>by rw[cS];exact cA t ht,nr:=Lu,env:=fun s y hy=>let ⟨v,k1,k2,_⟩:=eD s y hy; ⟨v,k1,aB.mono cO k2⟩,state:=rfl,pending:=rfl }⟩)
        have bD:(st.heap++J9 1 bg.hole).set st.heap.length (.loop ⟨st.env,ps.toList,a1,a2,En⟩)=st.heap++[.loop ⟨st.env,ps.toList,a1,a2,En⟩]:=by
         simp
        rw[bD]at mB
        rw[GD]at mB eB nz
        generalize hCB:aI.box { Ca with D:=fun r=>Ca.D r∨r=w.heap.size } st.heap.length (w.heap.size+1)=CB at mB eB nz
        generalize hwB:(w.alloc (.deferred (I []))).alloc (.loop lp)=wB at mB eB
        have GF:CB.β st.heap.length=I (w.heap.size+1):=by rw[←hCB];simp[aI.box]
        have hDB:∀r,Ca.D r∨r=w.heap.size→CB.D r:=fun r hr=>by rw[←hCB];exact hr
        have hKB:∀ {i:ln},aB Ca i→aB CB i:=fun hr=>aB.mono nz (aB.imp (C:=Ca) (C':={ Ca with D:=fun r=>Ca.D r∨r=w.heap.size }) ⟨fun _ _ _ h=>h,fun _ _ h=>h⟩ hr)
        have GG:Ca.le CB:=⟨nz.k,nz.b,nz.w,fun r hr=>hDB r (.inl hr),nz.t⟩
        have eo:aS (CB.shared ω w0) (first++[.fn (.yield st.heap.length) [] []]++captured) (as++[Value.func (.yield (w.heap.size+1)) ⟨[]⟩ ⟨[]⟩]++bs):=by
         refine aB.imp (C:=CB) (C':=CB.shared ω w0) ⟨fun _ _ _ h=>h,fun _ _ h=>h⟩ ?_
         exact aS.append (aS.append (hKB ha) (.cons _ _ _ _ (.fn _ _ _ _ _ _ ⟨_,GF,rfl⟩ .nil .nil) .nil)) (hKB hb)
        refine⟨w.heap.size+1,[{ target:=.collected w.heap.size,args:=#[] }],wB,{ target:=.fn (.func k) ⟨bs⟩,args:=⟨as⟩++#[Value.func (.yield (w.heap.size+1)) #[] #[]] },wB,k,⟨as++[Value.func (.yield (w.heap.size+1)) ⟨[]⟩ ⟨[]⟩]++bs⟩,wB,?_,?_,fun _ _=>trivial,?_,fun hd=>by simp[iZ,Fence.wide]at hd,?_⟩
        ·subst hlp
         rw[←hwB]
         simp[Instr.enterLoop,iZ,Fence.wide,GD]
        ·have hc:a.eval (.const (Value.func (.yield (w.heap.size+1)) #[] #[]))=Value.func (.yield (w.heap.size+1)) #[] #[]:=rfl
         simp[resolve,F5,Deferred.ofValue,hc]
        ·have hq:(⟨as⟩:Array Value)++#[Value.func (.yield (w.heap.size+1)) #[] #[]]++(⟨bs⟩:Array Value)=⟨as++[Value.func (.yield (w.heap.size+1)) ⟨[]⟩ ⟨[]⟩]++bs⟩:=by
          apply Gq;simp
         simp only[invoke,hq]
         exact qpa lQ _ _
        ·refine qxf.2 (CallsIn.mono (nx _ _ _ _ eo (RL mB)) ?_)
         rintro ee w' ⟨u,C1,ω1,rfl,q1,q2,_,_⟩
         obtain⟨m2,e2⟩:=qs7 mB eB q2 q1
         have A4:CB.le (C1.back CB):=Lh q1
         have rF:(C1.back CB).β st.heap.length=I (w.heap.size+1):=A4.b _ _ GF
         obtain⟨lR,rG,vr⟩:=Lj m2 hl' rF
         have hlen:st.heap.length<h'.length:=(m2.lt _ _ rF).2
         have Sj:∀b r,C0.β b=I r→b<st.heap.length:=fun b r hb=>(m.lt b r (m.grown.b b r hb)).2
         have m3:=m2.gc (Nat.le_of_lt hlen) jH Sj
         have AV:(Instr.getLoop (w.heap.size+1)).run P w'=.ok lR w':=by simp[Instr.getLoop,pA rG (by simp)]
         have rM:=(Ha.1 rG).1
         have hu:nv w' (kg w' (w.heap.size+1) (.loop { lR with state:=.exhausted })) (w.heap.size+1):=DG rM (by simp)
         have lA:∀cs t fr,w'.heap[w.heap.size+1]?≠I (.cells cs t fr):=fun cs t fr hh=>by rw[rG]at hh;cases hh
         have Sm:∀b,((C1.back CB).cut st.heap.length).β b≠I (w.heap.size+1):=fun b hb=>by
          simp only[aI.cut]at hb
          split at hb
          ·rename_i bw
           have:=m2.inj b st.heap.length _ hb rF
           omega
          ·cases hb
         have cR:lR.state≠.busy→(Instr.endLoop (w.heap.size+1)).run P w'=.ok lR.pending (kg w' (w.heap.size+1) (.loop { lR with state:=.exhausted })):=fun DK=>by
          have fi:(lR.state == .busy)=Gd:=by
           cases b6:lR.state<;>first|rfl|exact absurd b6 DK
          have hs2:=x6 (P:=P) (x:=.loop { lR with state:=.exhausted }) rG (by simp)
          simp only[Instr.endLoop,Sem.run_bind,AV,Result.andThen_ok,fi,Bool.false_eq_true,if_false,Sem.run_ite,hs2,Sem.run_pure]
         have m4:=m3.other (D':=((C1.back CB).cut st.heap.length).D) hu Sm (Nat.le_trans m.size (by omega)) lA (fun kk hk=>⟨hk,fun ik=>by
          have:=m3.fo kk hk
          rw[ik,rG]at this;cases this⟩) m3.grown.d
         have A5:Ca.le ((C1.back CB).cut st.heap.length):=aI.iK (aI.le_trans GG A4) (fun b r hb=>(m.lt b r hb).2)
         have e4:aq ((C1.back CB).cut st.heap.length) (ny ω ω1 wB.heap.size) (kg w' (w.heap.size+1) (.loop { lR with state:=.exhausted })) w0.heap.size st.env a.tmps:=by
          intro s y hy
          obtain⟨v,k1,k2,k3⟩:=he s y hy
          obtain⟨v',j1,j2,j3⟩:=e2 s y hy
          rw[k1]at j1
          cases j1
          exact⟨v,k1,aB.mono A5 k2,fun hh=>(((j3 hh).cut _).kP (D':=((C1.back CB).cut st.heap.length).D) hu lA)⟩
         have lV:∀(xx:jg),dq P w0 C0 C nt { st with heap:=h'.take st.heap.length } { a with defers:=[{ target:=.collected w.heap.size,args:=#[] }]++a.defers } (kg w' (w.heap.size+1) (.loop { lR with state:=.exhausted })):=by
          intro _
          refine⟨cS,_,_,aI.le_trans hle A5,?_,m4,e4⟩
          obtain⟨rs,g1,g2,g3⟩:=yI
          refine⟨w.heap.size::rs,by rw[g1];rfl,List.nodup_cons.2 ⟨fun hm=>?_,g2⟩,?_⟩
          ·have:=(Ha.1 (m.fo _ (g3 _ hm).1)).1;omega
          ·intro r hr
           rcases Lf.1 hr with rfl|hr
           ·exact⟨A4.d _ (hDB _ (.inr rfl)),m.size⟩
           ·exact⟨A5.d _ (g3 r hr).1,(g3 r hr).2⟩
         simp only[rangePost]
         split at hs
         ·rename_i wK
          cases hs
          refine⟨En,_,?_,rfl,lV .normal⟩
          rw[cR (by rw[vr.state,wK];simp),vr.pending,wK]
         ·cases hs
         ·rename_i xx Rh wK
          cases hs
          cases x with
          |normal=>exact absurd rfl Rh
          |ret=>
           refine⟨I .ret,_,?_,wpIn_ret ⟨rfl,lV .ret⟩⟩
           rw[cR (by rw[vr.state,wK];simp),vr.pending,wK]
          |exit id=>
           refine⟨I (.exit id),_,?_,wpIn_exit ⟨rfl,lV .ret⟩⟩
           rw[cR (by rw[vr.state,wK];simp),vr.pending,wK]
     ·cases hs
    ·cases hs
  ·cases hs
theorem Lw (et:bW P p):∀n,q72 P (jk p n)∧jd9 P (jk p n)
 |0=>⟨fun ρ nt c ca st bT x _ _ hx=>by simp[jk]at hx,fun ρ nt c ca st bT x _ _ hx=>by simp[jk]at hx⟩
 |n+1=>by
  obtain⟨ih,ihl⟩:=Lw et n
  have loop:jd9 P (jk p (n+1)):=by
   intro ρ nt c ca st bT x hc hn hx C w0 C0 a w b6
   obtain⟨cS,C',ω',hle,kQ,m,he⟩:=b6
   have hC':∀b r,C'.β b=I r→b<st.heap.length:=fun b r hb=>(m.lt b r hb).2
   refine fN.wI ?_
   simp only[jk]at hx
   split at hx
   ·rename_i iq h1
    refine wpIn_mono (ih ρ nt c ca st iq .normal hc hn h1 C' w0 C0 a w ⟨cS,C',ω',aI.le_refl _,kQ,m,he⟩) ?_
    intro e a' w' hq
    refine Lt hq (fun _ eF=>?_) (fun h=>absurd rfl h)
    have h2:=eF.gc hC' (fun b r hb=>hC' b r (m.grown.2 b r hb))
    have h3:=ihl ρ nt c ca _ bT x hc hn hx C' w0 C0 a' w' h2
    intro b k cs yK hb hr
    obtain⟨e,a',w',hq,eV⟩:=h3 b k cs yK hb hr
    obtain⟨q1,q2,C2,ω2,q4,q5⟩:=hq
    exact⟨e,a',w',⟨q1,q2,C2,ω2,aI.le_trans hle q4,q5⟩,eV⟩
   ·rename_i bG
    refine wpIn_mono (ih ρ nt c ca st bT x hc hn hx C w0 C0 a w ⟨cS,C',ω',hle,kQ,m,he⟩) ?_
    intro e a' w' hq
    refine Lt hq (fun DV eF=>?_) (fun DV eF=>⟨rfl,eF⟩)
    subst DV
    exact absurd hx (bG bT)
  refine⟨?_,loop⟩
  intro ρ nt c ca st bT x hc hn hx C w0 C0 a w b6
  obtain⟨h,dF⟩:=hc
  cases c with
  |skip=>
   simp only[gT,I.injEq]at dF
   subst dF
   simp only[jk,I.injEq,Hd.injEq]at hx
   obtain⟨rfl,rfl⟩:=hx
   exact wpIn_skip ⟨rfl,b6⟩
  |label l=>
   simp only[gT,I.injEq]at dF
   subst dF
   simp only[jk,I.injEq,Hd.injEq]at hx
   obtain⟨rfl,rfl⟩:=hx
   exact wpIn_label ⟨rfl,b6⟩
  |region id ops draw=>
   simp only[gT]at dF
   have dF:(draw=Gd∧∃sz,KQ P nt ops=I sz∧ca=.grow sz)∨Fl P h nt id ops draw=I ca:=by
    split at dF
    ·rename_i sz Sn;cases dF;exact .inl ⟨rfl,sz,Sn,rfl⟩
    ·exact .inr dF
   rcases dF with⟨rfl,sz,Sn,rfl⟩|dF
   ·simp only[jk]at hx
    split at hx
    ·rename_i z xs o1 k o2 e0 e1
     cases ik:(Js 0 k&&Hc k 1073741824)with
     |false=>simp[ik]at hx
     |true=>
      simp only[ik,cond_true,I.injEq,Hd.injEq]at hx
      obtain⟨rfl,rfl⟩:=hx
      simp only[E3]at ik
      obtain⟨cS,C',ω',hle,kQ,m,he⟩:=b6
      refine wpIn_mono (jra Sn m he cS kQ e0 e1 (Nat.blt_eq.mp ik.1) (Nat.le_of_ble_eq_true ik.2)) ?_
      rintro e a' w' ⟨rfl,q1,C2,ω2,q4,q5⟩
      exact⟨rfl,q1,C2,ω2,aI.le_trans hle q4,q5⟩
    ·cases hx
   have GH:∃na l keep,ca=.region na l keep:=by
    unfold Fl at dF
    split at dF
    ·split at dF
     ·simp only[I.injEq]at dF;exact⟨_,_,_,dF.symm⟩
     ·cases dF
    ·cases dF
   obtain⟨na,l,keep,eg⟩:=GH
   subst eg
   simp only[jk]at hx
   obtain⟨cS,C',ω',hle,kQ,m,he⟩:=b6
   refine wpIn_mono (jem et (cD.Gy ih) dF rfl hx m he cS kQ) ?_
   rintro e a' w' ⟨q1,q2,C2,ω2,q4,q5⟩
   exact⟨q1,q2,C2,ω2,aI.le_trans hle q4,q5⟩
  |seq c1 c2=>
   simp only[gT]at dF
   split at dF
   ·rename_i x1 x2 h1 h2
    cases dF
    have DW:ρ≠En→z6 x1=Ga∧z6 x2=Ga:=fun hh=>by simpa[z6]using hn hh
    simp only[jk]at hx
    refine wpIn_seq ?_
    split at hx
    ·rename_i iq yC
     refine wpIn_mono (ih ρ nt c1 x1 st iq .normal ⟨h,h1⟩ (fun hh=>(DW hh).1) yC C w0 C0 a w b6) ?_
     intro e a' w' hq
     exact Lt hq (fun _ eF=>ih ρ nt c2 x2 iq bT x ⟨h,h2⟩ (fun hh=>(DW hh).2) hx C w0 C0 a' w' eF) (fun hh=>absurd rfl hh)
    ·rename_i bG
     refine wpIn_mono (ih ρ nt c1 x1 st bT x ⟨h,h1⟩ (fun hh=>(DW hh).1) hx C w0 C0 a w b6) ?_
     intro e a' w' hq
     refine Lt hq (fun DV eF=>?_) (fun DV eF=>⟨rfl,eF⟩)
     subst DV
     exact absurd hx (bG bT)
   ·cases dF
  |cond c c1 c2=>
   simp only[gT]at dF
   split at dF
   ·rename_i c' x1 x2 h0 h1 h2
    cases dF
    have DW:ρ≠En→z6 x1=Ga∧z6 x2=Ga:=fun hh=>by simpa[z6]using hn hh
    simp only[jk]at hx
    split at hx
    ·rename_i t ht
     have il:=b6
     obtain⟨cS,C',ω',hle,kQ,m,he⟩:=b6
     have gW:=(qv he.cm h0 ht).di
     refine wpIn_cond gW ?_
     cases t with
     |true=>simp only[cond_true]at hx;exact ih ρ nt c1 x1 st bT x ⟨h,h1⟩ (fun hh=>(DW hh).1) hx C w0 C0 a w il
     |false=>simp only[cond_false]at hx;exact ih ρ nt c2 x2 st bT x ⟨h,h2⟩ (fun hh=>(DW hh).2) hx C w0 C0 a w il
    ·cases hx
   ·cases dF
  |block id b=>
   simp only[gT]at dF
   obtain⟨b',hb,rfl⟩:=G8.1 dF
   simp only[jk]at hx
   refine wpIn_block ?_
   split at hx
   ·rename_i fQ iq yC
    refine wpIn_mono (ih ρ nt b b' st iq (.exit fQ) ⟨h,hb⟩ (fun hh=>by simpa[z6]using hn hh) yC C w0 C0 a w b6) ?_
    rintro e a' w' ⟨rfl,eF⟩
    cases hid:G6 fQ id with
    |true=>
     simp only[hid,cond_true,I.injEq,Hd.injEq]at hx
     obtain⟨rfl,rfl⟩:=hx
     have:=Gc hid
     subst this
     simp only[AL,Exit.inBlock,if_true]
     exact⟨rfl,eF⟩
    |false=>
     simp only[hid,cond_false,I.injEq,Hd.injEq]at hx
     obtain⟨rfl,rfl⟩:=hx
     have bG:¬fQ=id:=fun hh=>by subst hh;simp at hid
     simp only[AL,Exit.inBlock,bG,if_false]
     exact⟨rfl,eF⟩
   ·rename_i bG
    refine wpIn_mono (ih ρ nt b b' st bT x ⟨h,hb⟩ (fun hh=>by simpa[z6]using hn hh) hx C w0 C0 a w b6) ?_
    rintro e a' w' ⟨rfl,eF⟩
    cases x with
    |normal=>exact⟨rfl,eF⟩
    |ret=>exact⟨rfl,eF⟩
    |exit fQ=>exact absurd hx (bG fQ bT)
  |loop b=>
   simp only[gT]at dF
   obtain⟨b',hb,rfl⟩:=G8.1 dF
   exact(loop ρ nt b b' st bT x ⟨h,hb⟩ (fun hh=>by simpa[z6]using hn hh) hx C w0 C0 a w b6).wpIn
  |scope b=>
   simp only[gT]at dF
   obtain⟨b',hb,rfl⟩:=G8.1 dF
   have fh:jk p n b' st=I (x,bT):=by
    simp only[jk]at hx
    split at hx
    ·rename_i iq yC
     cases n with
     |zero=>simp[jk]at yC
     |succ n=>simp only[jk]at hx;rw[yC];exact hx
    ·exact hx
   refine qo9 (wpIn_mono (ih ρ nt b b' st bT x ⟨h,hb⟩ (fun hh=>by simpa[z6]using hn hh) fh C w0 C0 a w b6) ?_)
   rintro e a' w' ⟨rfl,eF⟩
   cases x with
   |normal=>exact⟨rfl,eF⟩
   |exit id=>exact⟨rfl,eF⟩
   |ret=>exact⟨rfl,eF⟩
  |rangeFunc f ps x1 x2=>
   simp only[gT]at dF
   split at dF
   ·split at dF
    ·rename_i cA
     cases dF
     simp only[jk]at hx
     cases ρ with
     |some l=>exact absurd (hn (by simp)) (by simp[z6])
     |none=>exact jim et (cD.Gy ih) (by assumption) (by assumption) (by assumption) (fun t ht=>by simpa using(Array.all_eq_true'.1 cA) t (by simpa using ht)) hx b6
    ·cases dF
   ·cases dF
  |exit id=>
   simp only[gT,I.injEq]at dF
   subst dF
   simp only[jk,I.injEq,Hd.injEq]at hx
   obtain⟨rfl,rfl⟩:=hx
   exact wpIn_exit ⟨rfl,b6⟩
  |ret=>
   simp only[gT,I.injEq]at dF
   subst dF
   simp only[jk,I.injEq,Hd.injEq]at hx
   obtain⟨rfl,rfl⟩:=hx
   exact wpIn_ret ⟨rfl,b6⟩
  |_=>
   simp only[gT,I.injEq]at dF
   subst dF
   simp[jk]at hx
theorem q8d (et:bW P p){n k args v ow}(h:qc p (jk p n) k args=I (v,ow))(hb:qw 0 args=Ga):IsoCall P k args v ow:=
 (Le et (cD.Gy (Lw et n).1) h hb).2.2
end
def yh {α:Type}(n:Nat)(f:Nat→α):α:=match n with
 |0=>f 0
 |m+1=>f (Nat.succ m)
def So {α:Type}(n:Int)(f:Int→α):α:=match n with
 | .ofNat a=>yh a fun a=>f (.ofNat a)
 | .negSucc a=>yh a fun a=>f (.negSucc a)
def GI {α:Type}(b:Bool)(f:Bool→α):α:=match b with
 |true=>f Ga
 |false=>f Gd
def q0c {α:Type}(k:IntKind)(f:IntKind→α):α:=match k with
 | .i8=>f .i8 | .i16=>f .i16 | .i32=>f .i32 | .i64=>f .i64 | .u8=>f .u8 | .u16=>f .u16 | .u32=>f .u32 | .u64=>f .u64
def GJ {α:Type}:List UInt8→(List UInt8→α)→α
 | [],f=>f []
 |c::s,f=>GJ s fun s=>f (c::s)
def Sp {α:Type}(g:Fn)(f:Fn→α):α:=match g with
 | .func k=>yh k fun k=>f (.func k)
 | .yield k=>yh k fun k=>f (.yield k)
 |g=>f g
mutual
def kl {α:Type}:AVal→(AVal→α)→α
 | .bool b,f=>GI b fun b=>f (.bool b)
 | .int k n,f=>q0c k fun k=>So n fun n=>f (.int k n)
 | .str s,f=>GJ s fun s=>f (.str s)
 | .list b sz xs,f=>GI b fun b=>yh sz fun sz=>wL xs fun xs=>f (.list b sz xs)
 | .ms b o l,f=>yh b fun b=>yh o fun o=>yh l fun l=>f (.ms b o l)
 | .ptr b o,f=>yh b fun b=>yh o fun o=>f (.ptr b o)
 | .ah v,f=>kl v fun v=>f (.ah v)
 | .cT n,f=>yh n fun n=>f (.cT n)
 | .bZ,f=>f .bZ
 | .map b,f=>yh b fun b=>f (.map b)
 | .bX,f=>f .bX
 | .fn g a c,f=>Sp g fun g=>wL a fun a=>wL c fun c=>f (.fn g a c)
 | .cr,f=>f .cr
 | .agg cs,f=>wL cs fun cs=>f (.agg cs)
 | .aC cs,f=>wL cs fun cs=>f (.aC cs)
 | .undef,f=>f .undef
 | .any,f=>f .any
 | .ay b bJ len,f=>yh b fun b=>yh bJ fun bJ=>yh len fun len=>f (.ay b bJ len)
 | .dH b bJ off,f=>yh b fun b=>yh bJ fun bJ=>yh off fun off=>f (.dH b bJ off)
def wL {α:Type}:List AVal→(List AVal→α)→α
 | [],f=>f []
 |x::xs,f=>kl x fun x=>wL xs fun xs=>f (x::xs)
end
def GK {α:Type}:Env→(Env→α)→α
 | [],f=>f []
 |(t,v,o)::e,f=>yh t fun t=>kl v fun v=>GI o fun o=>GK e fun e=>f ((t,v,o)::e)
def Lx {α:Type}:List (AVal×Bool)→(List (AVal×Bool)→α)→α
 | [],f=>f []
 |(v,o)::e,f=>kl v fun v=>GI o fun o=>Lx e fun e=>f ((v,o)::e)
def Ly {α:Type}:List (AVal×AVal)→(List (AVal×AVal)→α)→α
 | [],f=>f []
 |(k,v)::e,f=>kl k fun k=>kl v fun v=>Ly e fun e=>f ((k,v)::e)
def Sr {α:Type}(x:Option jg)(f:Option jg→α):α:=match x with
 |none=>f En
 |some .normal=>f (I .normal)
 |some (.exit id)=>yh id fun id=>f (I (.exit id))
 |some .ret=>f (I .ret)
def Ss {α:Type}:bg→(bg→α)→α
 | .hole,f=>f .hole
 | .cells cs,f=>Lx cs fun cs=>f (.cells cs)
 | .map es,f=>Ly es fun es=>f (.map es)
 | .iter s pos,f=>yh pos fun pos=>f (.iter s pos)
 | .fV t e l,f=>GJ l fun l=>f (.fV t e l)
 | .dead,f=>f .dead
 -- (what a vector holds was forced when it was appended)
 | .vec sz bJ xs,f=>yh sz fun sz=>yh bJ fun bJ=>f (.vec sz bJ xs)
 | .loop l,f=>GK l.env fun e=>Sr l.pending fun x=>f (.loop ⟨e,l.params,l.assign,l.body,x⟩)
def Lz {α:Type}:qh→(qh→α)→α
 | [],f=>f []
 |b::h,f=>Ss b fun b=>Lz h fun h=>f (b::h)
def GL {α:Type}(st:bf)(f:bf→α):α:=GK st.env fun e=>Lz st.heap fun h=>f ⟨e,h⟩
section
variable {α:Type}
theorem pH (n:Nat)(f:Nat→α):yh n f=f n:=by cases n<;>rfl
theorem q6l (n:Int)(f:Int→α):So n f=f n:=by cases n<;>simp[So,pH]
theorem LA (n:Bool)(f:Bool→α):GI n f=f n:=by cases n<;>rfl
theorem q49 (n:IntKind)(f:IntKind→α):q0c n f=f n:=by cases n<;>rfl
theorem Sv:∀ (s:List UInt8) (f:List UInt8→α),GJ s f=f s
 | [],_=>rfl
 |c::s,f=>by simp only[GJ];rw[Sv s]
theorem jci (g:Fn)(f:Fn→α):Sp g f=f g:=by cases g<;>simp[Sp,pH]
mutual
theorem GM:∀ (v:AVal) (f:AVal→α),kl v f=f v
 | .bool b,f=>by simp only[kl,LA]
 | .int k n,f=>by simp only[kl,q49,q6l]
 | .str s,f=>by simp only[kl,Sv]
 | .list b sz xs,f=>by simp only[kl,LA,pH];rw[A6 xs]
 | .ms b o l,f=>by simp only[kl,pH]
 | .ptr b o,f=>by simp only[kl,pH]
 | .ah v,f=>by simp only[kl];rw[GM v]
 | .cT n,f=>by simp only[kl,pH]
 | .bZ,f=>by simp only[kl]
 | .map b,f=>by simp only[kl,pH]
 | .bX,f=>by simp only[kl]
 | .fn g a c,f=>by simp only[kl,jci];rw[A6 a,A6 c]
 | .cr,f=>by simp only[kl]
 | .agg cs,f=>by simp only[kl];rw[A6 cs]
 | .aC cs,f=>by simp only[kl];rw[A6 cs]
 | .undef,f=>by simp only[kl]
 | .any,f=>by simp only[kl]
 | .ay b bJ len,f=>by simp only[kl,pH]
 | .dH b bJ off,f=>by simp only[kl,pH]
theorem A6:∀ (l:List AVal) (f:List AVal→α),wL l f=f l
 | [],f=>by simp only[wL]
 |x::xs,f=>by simp only[wL];rw[GM x,A6 xs]
end
theorem Sw:∀ (e:Env) (f:Env→α),GK e f=f e
 | [],_=>rfl
 |(t,v,o)::e,f=>by simp only[GK,pH,GM,LA];rw[Sw e]
theorem qoy:∀ (e:List (AVal×Bool)) (f:List (AVal×Bool)→α),Lx e f=f e
 | [],_=>rfl
 |(v,o)::e,f=>by simp only[Lx,GM,LA];rw[qoy e]
theorem qky:∀ (e:List (AVal×AVal)) (f:List (AVal×AVal)→α),Ly e f=f e
 | [],_=>rfl
 |(v,o)::e,f=>by simp only[Ly,GM];rw[qky e]
theorem q4c (x:Option jg)(f:Option jg→α):Sr x f=f x:=by
 cases x with
 |none=>rfl
 |some x=>cases x<;>simp[Sr,pH]
theorem q7h (b:bg)(f:bg→α):Ss b f=f b:=by
 cases b<;>simp[Ss,qoy,qky,pH,Sv,Sw,q4c,A6]
theorem qp8:∀ (h:qh) (f:qh→α),Lz h f=f h
 | [],_=>rfl
 |b::h,f=>by simp only[Lz,q7h];rw[qp8 h]
theorem Sx (st:bf)(f:bf→α):GL st f=f st:=by simp only[GL,Sw,qp8]
end
def iF (p:j8):Nat→XC
 |0,_,_=>En
 |n+1,c,st=>match c with
  | .skip=>I (.normal,st)
  | .region na ops keep=>match mY p (iF p n) na ops keep st with
   |some (x,bT)=>GL bT fun s=>I (x,s)
   |none=>En
  | .seq a b=>match iF p n a st with
   |some (.normal,bT)=>iF p n b bT
   |r=>r
  | .cond c a b=>match qi st.env c with
   |some (.bool t)=>bif t then iF p n a st else iF p n b st
   |_=>En
  | .block id body=>match iF p n body st with
   |some (.exit fQ,bT)=>bif G6 fQ id then I (.normal,bT)else I (.exit fQ,bT)
   |r=>r
  | .loop body=>match iF p n body st with
   |some (.normal,bT)=>GL (gc st.heap.length bT) fun s=>iF p n (.loop body) s
   |r=>r
  | .rangeFunc f params assign body=>match mZ p (iF p n) f params assign body st with
   |some (x,bT)=>GL bT fun s=>I (x,s)
   |none=>En
  | .exit id=>I (.exit id,st)
  | .ret=>I (.ret,st)
  | .grow sz=>match jj 0 st.env,jj 1 st.env with
   |some (.list Ga _ _,_),I (.int .i64 (.ofNat m),_)=>bif Js 0 m&&Hc m 1073741824 then I (.normal,{ st with env:=[(0,.list Gd sz [],Ga)] })else En
   |_,_=>En
  | .stuck=>En
theorem LB (p:j8):∀n,iF p n=jk p n
 |0=>by funext c st;rfl
 |n+1=>by
  have ih:=LB p n
  funext c st
  cases c with
  |region na ops keep=>
   simp only[iF,jk,ih]
   cases mY p (jk p n) na ops keep st with
   |none=>rfl
   |some r=>simp only[Sx]
  |rangeFunc f ps a b=>
   simp only[iF,jk,ih]
   cases mZ p (jk p n) f ps a b st with
   |none=>rfl
   |some r=>simp only[Sx]
  |loop body=>
   simp only[iF,jk,ih,Sx]
   rfl
  |_=>simp only[iF,jk,ih]<;>rfl
inductive du where
 |leaf (k:Nat) (f:av)
 |node (m:Nat) (a b:du)
def du.find:du→Nat→Option av
 | .leaf k f,n=>bif G6 k n then I f else En
 | .node m a b,n=>bif Js n m then a.find n else b.find n
def du.All (Q:Nat→av→Prop):du→Prop
 | .leaf k f=>Q k f
 | .node _ a b=>a.All Q∧b.All Q
theorem du.gh {Q}:∀ {t:du} {k:Nat} {f:av},t.All Q→t.find k=I f→Q k f
 | .leaf j g,k,f,h,hf=>by
  simp only[du.find]at hf
  cases hb:G6 j k with
  |false=>simp[hb]at hf
  |true=>
   have:=Gc hb
   subst this
   simp only[hb,cond_true,I.injEq]at hf
   subst hf;exact h
 | .node m a b,k,f,h,hf=>by
  simp only[du.find]at hf
  cases hb:Js k m with
  |true=>simp only[hb,cond_true]at hf;exact du.gh h.1 hf
  |false=>simp only[hb,cond_false]at hf;exact du.gh h.2 hf
def du.prog (t:du)(cG:xK)(maps:Qv:=fun _=>En):j8:={ bM:=t.find,cG:=cG,maps:=maps }
theorem jd8 {p n k args r}(h:qc p (iF p n) k args=r):qc p (jk p n) k args=r:=by
 rw[←LB];exact h
def Kw (w:World):Nat→Nat→Option Value:=fun r o=>(w.cell? ⟨r,o,En⟩).filter (·.oneCell')
theorem j00 {w r o v}(h:w.cell? ⟨r,o,En⟩=I v)(h1:v.oneCell'=Ga):Kw w r o=I v:=by simp[Kw,h,h1]
theorem q7t {w r o v}(h:Kw w r o=I v):w.cell? ⟨r,o,En⟩=I v∧v.oneCell'=Ga:=by
 unfold Kw at h;rw[Option.filter_eq_some_iff]at h;exact h
def qf1 (P:Program)(t:TypeId):Bool:=match P.underlying t with
 |some (.struct _)=>Ga
 |some (.array _ _)=>Ga
 |_=>Gd
def LC (P:Program):Nat→List Field→Bool
 |_,[]=>Ga
 |o,f::fs=>f.offset == o&&LC P (o+P.cellsOf f.type) fs
def LD (P:Program)(fs:List Field):Nat:=(fs.map fun f=>P.cellsOf f.type).sum
def rP (P:Program):Nat→TypeId→Bool
 |0,_=>Gd
 |n+1,t=>match P.underlying t with
  |some .bool=>P.cellsOf t == 1
  |some (.int _)=>P.cellsOf t == 1
  |some .string=>P.cellsOf t == 1
  |some (.slice e)=>P.cellsOf t == 1&&rP P n e&&decide (0<P.cellsOf e)
  |some (.struct fs)=>LC P 0 fs.toList&&LD P fs.toList == P.cellsOf t&&fs.toList.all fun f=>rP P n f.type
  |some (.array k e)=>P.cellsOf t == k*P.cellsOf e&&rP P n e
  |_=>Gd
def GN (ty:TypeId→List AVal→Prop):List Field→List AVal→Prop
 | [],cs=>cs=[]
 |f::fs,cs=>∃ys zs,cs=ys++zs∧ty f.type ys∧GN ty fs zs
def GO (ty:List AVal→Prop):Nat→List AVal→Prop
 |0,cs=>cs=[]
 |k+1,cs=>∃ys zs,cs=ys++zs∧ty ys∧GO ty k zs
def yj (P:Program):Nat→TypeId→List AVal→Prop
 |0,_,_=>False
 |n+1,t,cs=>match P.underlying t with
  |some .bool=>∃b,cs=[.bool b]
  |some (.int k)=>∃m,cs=[.int k m]∧(Lit.int k m).wf=Ga
  |some .string=>∃s,cs=[.str s]∧s.length≤maxLen
  |some (.slice e)=>cs=[.list Ga 0 []]∨∃xs,cs=[.list Gd (P.cellsOf e) xs]∧xs.length≤maxLen∧∀y∈xs,yj P n e y.flat∧y.isAgg=qf1 P e
  |some (.struct fs)=>GN (yj P n) fs.toList cs
  |some (.array k e)=>GO (yj P n e) k cs
  |_=>False
section
variable {P:Program}{H:Type}{enc:TypeId×Value→H}{w:World}
theorem qz6:∀ (fs:List Field) (o:Nat) (vs:List Value),LC P o fs=Ga→vs.length=o+LD P fs→vs.drop o=(fs.map fun f=>(vs.drop f.offset).take (P.cellsOf f.type)).flatten
 | [],o,vs,_,hl=>by simp[LD]at hl;simp[hl]
 |f::fs,o,vs,ht,hl=>by
  simp only[LC,E3,beq_iff_eq]at ht
  obtain⟨rfl,ht⟩:=ht
  have ih:=qz6 fs _ vs ht (by simp[LD]at hl ⊢;omega)
  rw[Lk,Jo,←ih,←La,List.take_append_drop]
theorem DX {α β:Type}{f}:∀ {l:List α} {ys:List β},l.mapM f=I ys→ys.length=l.length∧∀(i:Nat) (x:α),l[i]?=I x→∃y,ys[i]?=I y∧f x=I y
 | [],ys,h=>by simp at h;subst h;simp
 |a::l,ys,h=>by
  rw[List.mapM_cons]at h
  cases hf:f a with
  |none=>simp[hf]at h
  |some y=>
   cases hr:l.mapM f with
   |none=>simp[hf,hr]at h
   |some zs=>
    simp[hf,hr]at h
    subst h
    obtain⟨h1,h2⟩:=DX hr
    refine⟨by simp[h1],fun i x hx=>?_⟩
    cases i with
    |zero=>simp at hx;subst hx;exact⟨y,rfl,hf⟩
    |succ i=>simp at hx;obtain⟨z,h3,h4⟩:=h2 i x hx;exact⟨z,by simpa using h3,h4⟩
theorem q2x {base n a vs}(h:w.cells? base a n=I vs):vs.length=n∧∀(i:Nat) (v:Value),vs[i]?=I v→w.cell? (a.add i)=I v:=by
 unfold World.cells? at h
 split at h
 ·obtain⟨h1,h2⟩:=DX h
  rw[Jp]at h1
  refine⟨h1,fun i v hv=>?_⟩
  have hi:i<n:=by rw[←h1];exact(Hb.1 hv).1
  obtain⟨y,h3,h4⟩:=h2 i i (by rw[Gg hi])
  rw[hv]at h3;cases h3;exact h4
 ·cases h
theorem qw3 {ty:TypeId→List AVal→Prop}:∀(fs:List Field) (nA:List (List Value)),nA.length=fs.length→(∀(i:Nat) (f:Field) (vs:List Value),fs[i]?=I f→nA[i]?=I vs→∃cs,aS (.bV (Kw w)) cs vs∧ty f.type cs)→∃cs,aS (.bV (Kw w)) cs nA.flatten∧GN ty fs cs
 | [],nA,hl,_=>by
  have:nA=[]:=G7.1 (by simpa using hl)
  subst this
  exact⟨[],.nil,rfl⟩
 |f::fs,[],hl,_=>by simp at hl
 |f::fs,vs::nA,hl,h=>by
  obtain⟨ys,h1,h2⟩:=h 0 f vs rfl rfl
  obtain⟨zs,h3,h4⟩:=qw3 fs nA (by simpa using hl) (fun i f' ri hf hv=>h (i+1) f' ri (by simpa using hf) (by simpa using hv))
  exact⟨ys++zs,aS.append h1 h3,ys,zs,rfl,h2,h4⟩
theorem qs8 {ty}:∀(k:Nat) (nA:List (List Value)),nA.length=k→(∀(i:Nat) vs,nA[i]?=I vs→∃cs,aS (.bV (Kw w)) cs vs∧ty cs)→∃cs,aS (.bV (Kw w)) cs nA.flatten∧GO ty k cs
 |0,nA,hl,_=>by
  have:nA=[]:=G7.1 hl
  subst this
  exact⟨[],.nil,rfl⟩
 |k+1,[],hl,_=>by simp at hl
 |k+1,vs::nA,hl,h=>by
  obtain⟨ys,h1,h2⟩:=h 0 vs rfl
  obtain⟨zs,h3,h4⟩:=qs8 k nA (by simpa using hl) (fun i ri hv=>h (i+1) ri (by simpa using hv))
  exact⟨ys++zs,aS.append h1 h3,ys,zs,rfl,h2,h4⟩
theorem q7x (n:Nat):∀(k:Nat) (vs:List Value),vs.length=k*n→vs=((Gm k).map fun i=>(vs.drop (i*n)).take n).flatten
 |0,vs,hl=>by
  have:vs=[]:=G7.1 (by simpa using hl)
  simp[this]
 |k+1,vs,hl=>by
  have ih:=q7x n k (vs.drop n) (by simp[hl,Jn])
  rw[List.range_succ_eq_map,Lk,Jo,List.map_map]
  have e:(Gm k).map ((fun i=>(vs.drop (i*n)).take n) ∘ Nat.succ)=(Gm k).map fun i=>((vs.drop n).drop (i*n)).take n:=by
   apply List.map_congr_left
   intro i _
   simp only[Function.comp,La]
   congr 2
   rw[Jn];omega
  rw[e,←ih]
  simp
theorem Sy:∀ {n:Nat} {t:TypeId} {cs:List AVal},yj P n t cs→∀x∈cs,qk x=Ga
 |0,_,_,h=>h.elim
 |n+1,t,cs,h=>by
  have fsc:∀(fs:List Field) (cs:List AVal),GN (yj P n) fs cs→∀x∈cs,qk x=Ga:=by
   intro fs
   induction fs with
   |nil=>intro cs h;simp only[GN]at h;subst h;simp
   |cons f fs ih=>
    rintro cs ⟨ys,zs,rfl,h1,h2⟩ x hx
    rcases Jy.1 hx with hx|hx
    ·exact Sy h1 x hx
    ·exact ih _ h2 x hx
  have rsc:∀(e:TypeId) (k:Nat) (cs:List AVal),GO (yj P n e) k cs→∀x∈cs,qk x=Ga:=by
   intro e k
   induction k with
   |zero=>intro cs h;simp only[GO]at h;subst h;simp
   |succ k ih=>
    rintro cs ⟨ys,zs,rfl,h1,h2⟩ x hx
    rcases Jy.1 hx with hx|hx
    ·exact Sy h1 x hx
    ·exact ih _ h2 x hx
  simp only[yj]at h
  split at h
  ·obtain⟨b,rfl⟩:=h;simp[qk]
  ·obtain⟨m,rfl,_⟩:=h;simp[qk]
  ·obtain⟨s,rfl,_⟩:=h;simp[qk]
  ·rcases h with rfl|⟨xs,rfl,_⟩<;>simp[qk]
  ·exact fsc _ _ h
  ·exact rsc _ _ _ h
  ·exact h.elim
theorem qwi {n}{t:TypeId}{cs}(h:yj P n t cs)(ha:qf1 P t=Gd):∃x,cs=[x]∧x.isAgg=Gd:=by
 cases n with
 |zero=>exact h.elim
 |succ n=>
  unfold qf1 at ha
  simp only[yj]at h
  split at h
  ·obtain⟨b,rfl⟩:=h;exact⟨_,rfl,rfl⟩
  ·obtain⟨m,rfl,_⟩:=h;exact⟨_,rfl,rfl⟩
  ·obtain⟨s,rfl,_⟩:=h;exact⟨_,rfl,rfl⟩
  ·rcases h with rfl|⟨xs,rfl,_⟩<;>exact⟨_,rfl,rfl⟩
  ·rename_i hu;rw[hu]at ha;cases ha
  ·rename_i hu;rw[hu]at ha;cases ha
  ·exact h.elim
theorem read {held}:∀(n fuel:Nat) (t:TypeId) (vs:List Value) (d:DataW H) (ps:List MemPlace),rP P n t=Ga→DataW.trod enc P w 0 (fun _=>Ga) held fuel t vs=I (d,ps) →
  ∃cs,aS (.bV (Kw w)) cs vs∧yj P n t cs∧cs.length=P.cellsOf t
 |0,_,_,_,_,_,hp,_=>by simp[rP]at hp
 |n+1,0,_,_,_,_,_,h=>by simp[DataW.trod]at h
 |n+1,fuel+1,t,vs,d,ps,hp,h=>by
  simp only[rP]at hp
  simp only[yj]
  simp only[DataW.trod]at h
  cases hu:P.underlying t with
  |none=>simp[hu]at hp
  |some td=>
   rw[hu]at h hp
   cases td with
   |bool=>
    simp only[beq_iff_eq]at hp
    split at h<;>first|cases ‹I _=I _› | skip
    all_goals first|(rename_i heq;cases heq;done)|skip
    ·exact⟨_,.cons _ _ _ _ (.bool _) .nil,⟨_,rfl⟩,by simp[hp]⟩
    ·cases h
   |int k=>
    simp only[beq_iff_eq]at hp
    split at h<;>first|cases ‹I _=I _› | skip
    all_goals first|(rename_i heq;cases heq;done)|skip
    ·split at h
     ·rename_i hk
      obtain⟨rfl,dk⟩:=hk
      exact⟨_,.cons _ _ _ _ (.int _ _) .nil,⟨_,rfl,dk⟩,by simp[hp]⟩
     ·cases h
    ·cases h
   |string=>
    simp only[beq_iff_eq]at hp
    split at h<;>first|cases ‹I _=I _› | skip
    all_goals first|(rename_i heq;cases heq;done)|skip
    ·rename_i s
     split at h
     ·rename_i hk
      refine⟨[.str s.data.toList],.cons _ _ _ _ (aB.str s.data.toList) .nil,⟨_,rfl,?_⟩,by simp[hp]⟩
      simpa using hk
     ·cases h
    ·cases h
   |slice e=>
    simp only[E3,beq_iff_eq,decide_eq_true_eq]at hp
    obtain⟨⟨jV,LG⟩,hp3⟩:=hp
    split at h<;>first|cases ‹I _=I _› | skip
    all_goals first|(rename_i heq;cases heq;done)|skip
    ·exact⟨_,.cons _ _ _ _ (.jF 0) .nil,.inl rfl,by simp[jV]⟩
    ·rename_i a len cap
     split at h
     ·rename_i hk
      obtain⟨_,dk,hk3⟩:=hk
      cases he:(Gm len).mapM (fun i=>(w.cells? 0 (a.add (i*P.cellsOf e)) (P.cellsOf e)).bind (DataW.trod enc P w 0 (fun _=>Ga) held fuel e))with
      |none=>simp[he]at h
      |some elems=>
       simp only[he,Jt,if_true]at h
       cases hr:(Gm (cap-len)).mapM (fun j=>(w.cells? 0 (a.add ((len+j)*P.cellsOf e)) (P.cellsOf e)).bind (DataW.trod enc P w 0 (fun _=>Ga) held fuel e))with
       |none=>simp[hr]at h
       |some rest=>
        obtain⟨he1,Li⟩:=DX he
        obtain⟨wD,rF⟩:=DX hr
        rw[Jp]at he1 wD
        have GQ:0<cap→a.spot=En:=fun hc=>by
         have pI:∃z,(w.cells? 0 (a.add (0*P.cellsOf e)) (P.cellsOf e)).bind (DataW.trod enc P w 0 (fun _=>Ga) held fuel e)=I z:=by
          by_cases hl:0<len
          ·obtain⟨y,_,hy⟩:=Li 0 0 (by rw[Gg hl]);exact⟨y,hy⟩
          ·obtain⟨y,_,hy⟩:=rF 0 0 (by rw[Gg (by omega)])
           have xW:len=0:=by omega
           subst xW
           exact⟨y,by simpa using hy⟩
         obtain⟨z0,pI⟩:=pI
         cases LH:w.cells? 0 (a.add (0*P.cellsOf e)) (P.cellsOf e)with
         |none=>rw[LH]at pI;cases pI
         |some us0=>
          obtain⟨d1,d2⟩:=q2x LH
          have dF:=d2 0 _ (List.getElem?_eq_getElem (show 0<us0.length by omega))
          have:=World.cell?_spot dF
          simpa[Addr.add]using this
        by_cases hcap:0<cap
        ·have Lr:=GQ hcap
         obtain⟨r,o,sp⟩:=a
         simp only at Lr
         subst Lr
         have elem:∀(i:Nat),i<len→∃y:AVal,cu (.bV (Kw w)) r y.flat (o+i*P.cellsOf e)∧y.flat.length=P.cellsOf e∧yj P n e y.flat∧y.isAgg=qf1 P e:=by
          intro i hi
          obtain⟨z,_,hz⟩:=Li i i (by rw[Gg hi])
          cases hc:w.cells? 0 ((⟨r,o,En⟩:Addr).add (i*P.cellsOf e)) (P.cellsOf e)with
          |none=>simp[hc]at hz
          |some us=>
           simp only[hc,Jt]at hz
           obtain⟨c1,c2⟩:=q2x hc
           obtain⟨cs,k1,k2,k3⟩:=read n fuel e us z.1 z.2 LG hz
           have cW:=Av k1 (Sy k2)
           have hcs:cu (.bV (Kw w)) r cs (o+i*P.cellsOf e):=cu.iB k1 fun j v hj=>by
            have h1:=c2 j v hj
            rw[add_lit,add_lit]at h1
            exact j00 h1 (cW v (G9 hj))
           cases da:qf1 P e with
           |true=>exact⟨.agg cs,hcs,k3,k2,rfl⟩
           |false=>
            obtain⟨x,rfl,hx⟩:=qwi k2 da
            have hf:x.flat=[x]:=qby hx
            exact⟨x,by rw[hf];exact hcs,by rw[hf];exact k3,by rw[hf];exact k2,hx⟩
         have rows:∀(m:Nat) (q:Nat),q+m=len→∃ys:List AVal,ys.length=m∧bu (.bV (Kw w)) r (P.cellsOf e) ys (o+q*P.cellsOf e)∧∀y∈ys,yj P n e y.flat∧y.isAgg=qf1 P e:=by
          intro m
          induction m with
          |zero=>intro q _;exact⟨[],rfl,.fK _ _ _,by simp⟩
          |succ m ih=>
           intro q hq
           obtain⟨ys,y1,y2,y3⟩:=ih (q+1) (by omega)
           obtain⟨y,z1,z2,z3⟩:=elem q (by omega)
           refine⟨y::ys,by simp[y1],.dr _ _ _ _ _ z2 z1 ?_,?_⟩
           ·rw[show o+q*P.cellsOf e+P.cellsOf e=o+(q+1)*P.cellsOf e from by rw[Jn];omega];exact y2
           ·intro x hx
            rcases Lf.1 hx with rfl|hx
            ·exact z3
            ·exact y3 x hx
         obtain⟨ys,y1,y2,y3⟩:=rows len 0 (by omega)
         rw[Nat.zero_mul,Nat.add_zero]at y2
         subst y1
         exact⟨_,.cons _ _ _ _ (.list (P.cellsOf e) ys r o cap dk y2) .nil,.inr ⟨ys,rfl,by omega,y3⟩,by simp[jV]⟩
        ·have LH:cap=0:=by omega
         have xW:len=0:=by omega
         subst LH;subst xW
         by_cases mC:a.spot=En
         ·obtain⟨r,o,sp⟩:=a
          simp only at mC
          subst mC
          exact⟨_,.cons _ _ _ _ (.list (P.cellsOf e) [] r o 0 (by simp) (.fK _ _ _)) .nil,.inr ⟨[],rfl,by simp,by simp⟩,by simp[jV]⟩
         ·exact⟨_,.cons _ _ _ _ (.jG (P.cellsOf e) a mC) .nil,.inr ⟨[],rfl,by simp,by simp⟩,by simp[jV]⟩
     ·cases h
    ·cases h
   |struct fs=>
    simp only[E3,beq_iff_eq,List.all_eq_true]at hp
    obtain⟨⟨jV,LG⟩,hp3⟩:=hp
    change (if vs.length=P.cellsOf t then(fs.toList.mapM fun f=>DataW.trod enc P w 0 (fun _=>Ga) held fuel f.type ((vs.drop f.offset).take (P.cellsOf f.type))).map fun xs=>(DataW.agg (xs.map (·.1)),xs.flatMap (·.2))else En)=I (d,ps)at h
    ·split at h
     ·rename_i hl
      cases hm:fs.toList.mapM (fun f=>DataW.trod enc P w 0 (fun _=>Ga) held fuel f.type ((vs.drop f.offset).take (P.cellsOf f.type)))with
      |none=>simp[hm]at h
      |some zs=>
       obtain⟨m1,m2⟩:=DX hm
       have A7:=qz6 fs.toList 0 vs jV (by omega)
       obtain⟨cs,k1,k2⟩:=qw3 (w:=w) (ty:=yj P n) fs.toList (fs.toList.map fun f=>(vs.drop f.offset).take (P.cellsOf f.type)) (by simp) (fun i f us hf hv=>by
        obtain⟨z,_,hz⟩:=m2 i f hf
        have gU:us=(vs.drop f.offset).take (P.cellsOf f.type):=by
         rw[Jq,hf]at hv
         simpa using hv.symm
        subst gU
        obtain⟨cs,q1,q2,_⟩:=read n fuel f.type _ z.1 z.2 (hp3 f (G9 hf)) hz
        exact⟨cs,q1,q2⟩)
       rw[←A7]at k1
       exact⟨cs,by simpa using k1,k2,by have:=k1.length;simp at this;omega⟩
     ·cases h
   |array k e=>
    simp only[E3,beq_iff_eq]at hp
    obtain⟨jV,LG⟩:=hp
    change (if vs.length=P.cellsOf t then((Gm k).mapM fun i=>DataW.trod enc P w 0 (fun _=>Ga) held fuel e ((vs.drop (i*P.cellsOf e)).take (P.cellsOf e))).map fun xs=>(DataW.agg (xs.map (·.1)),xs.flatMap (·.2))else En)=I (d,ps)at h
    ·split at h
     ·rename_i hl
      cases hm:(Gm k).mapM (fun i=>DataW.trod enc P w 0 (fun _=>Ga) held fuel e ((vs.drop (i*P.cellsOf e)).take (P.cellsOf e)))with
      |none=>simp[hm]at h
      |some zs=>
       obtain⟨m1,m2⟩:=DX hm
       have A7:=q7x (P.cellsOf e) k vs (by omega)
       obtain⟨cs,k1,k2⟩:=qs8 (w:=w) (ty:=yj P n e) k ((Gm k).map fun i=>(vs.drop (i*P.cellsOf e)).take (P.cellsOf e)) (by simp) (fun i us hv=>by
        have hi:i<k:=by
         have:=(Hb.1 hv).1
         simpa using this
        obtain⟨z,_,hz⟩:=m2 i i (by rw[Gg hi])
        have gU:us=(vs.drop (i*P.cellsOf e)).take (P.cellsOf e):=by
         rw[Jq,Gg hi]at hv
         simpa using hv.symm
        subst gU
        obtain⟨cs,q1,q2,_⟩:=read n fuel e _ z.1 z.2 LG hz
        exact⟨cs,q1,q2⟩)
       rw[←A7]at k1
       exact⟨cs,k1,k2,by have:=k1.length;omega⟩
     ·cases h
   |_=>simp at hp
end
open Go.ChangeShapes Go.WideShapes Go.ChangeAt Go.RowKit
section
variable {P:Program}{H:Type}{enc:TypeId×Value→H}{w:World}
def jfk (P:Program)(n:Nat)(t:TypeId)(x:AVal):Prop:=yj P n t x.flat∧x.isAgg=qf1 P t
def qoj (P:Program)(n:Nat):List TypeId→List AVal→Prop
 | [],xs=>xs=[]
 |t::ts,xs=>∃y ys,xs=y::ys∧jfk P n t y∧qoj P n ts ys
theorem jn7 {n}{t:TypeId}{v d ps base}(hp:rP P n t=Ga)(hv:Value.okWide P w .any base t v)(h:DataW.Trod enc P w 0 (fun _=>Ga) Ga t v d ps):∃x,bP (.bV (Kw w)) x v∧jfk P n t x:=by
 obtain⟨fuel,hf⟩:=h
 obtain⟨cs,k1,k2,k3⟩:=read n fuel t _ d ps hp hf
 cases da:qf1 P t with
 |true=>
  have F6:∃cells,v=.agg cells:=by
   unfold qf1 at da
   unfold Value.okWide at hv
   split at da
   ·rename_i fs hu;rw[hu]at hv;obtain⟨c,hc,_⟩:=hv;exact⟨c,hc⟩
   ·rename_i a b hu;rw[hu]at hv;obtain⟨c,hc,_⟩:=hv;exact⟨c,hc⟩
   ·cases da
  obtain⟨cells,rfl⟩:=F6
  exact⟨.agg cs,.agg cs cells.toList k1,k2,da.symm⟩
 |false=>
  obtain⟨x,rfl,hx⟩:=qwi k2 da
  have F6:v.cells.toList=[v]:=by
   cases v with
   |agg c=>
    exfalso
    unfold Value.okWide at hv
    unfold qf1 at da
    cases n with
    |zero=>simp[rP]at hp
    |succ n=>
     simp only[rP]at hp
     cases hu:P.underlying t with
     |none=>rw[hu]at hp;cases hp
     |some td=>rw[hu]at hp hv da;cases td<;>first|(simp at hp;done)|(simp at da;done)|(simp[Cell.okWide,hu,Cell.ok]at hv;done)
   |_=>rfl
  rw[F6]at k1
  cases k1 with
  |cons _ _ _ _ h1 _=>exact⟨x,h1,by rw[qby hx];exact k2,by rw[hx,da]⟩
theorem q7u {n}:∀ {ts:List TypeId} {vs:List Value} {ds:List (DataW H)} {ps:List MemPlace},ts.all (rP P n)=Ga→(∀(j:Nat) t v,ts[j]?=I t→vs[j]?=I v→∃base,Value.okWide P w .any base t v)→DataW.TrodAll enc P w 0 (fun _=>Ga) Ga ts vs ds ps →
  ds.length=ts.length∧∃xs,aS (.bV (Kw w)) xs vs∧qoj P n ts xs
 | [],[],[],ps,_,_,_=>⟨rfl,[],.nil,rfl⟩
 | [],[],_::_,ps,_,_,h=>by simp[DataW.TrodAll]at h
 | [],_::_,_,ps,_,_,h=>by simp[DataW.TrodAll]at h
 |_::_,[],_,ps,_,_,h=>by simp[DataW.TrodAll]at h
 |_::_,_::_,[],ps,_,_,h=>by simp[DataW.TrodAll]at h
 |t::ts,v::vs,d::ds,ps,hp,hv,h=>by
  obtain⟨p,q,h1,h2,_⟩:=h
  simp only[Ln,E3]at hp
  obtain⟨base,hb⟩:=hv 0 t v rfl rfl
  obtain⟨x,k1,k2⟩:=jn7 hp.1 hb h1
  obtain⟨hl,xs,k3,k4⟩:=q7u hp.2 (fun j t' v' ht vu=>hv (j+1) t' v' (by simpa using ht) (by simpa using vu)) h2
  exact⟨by simp[hl],x::xs,.cons _ _ _ _ k1 k3,x,xs,rfl,k2,k4⟩
theorem Ext.frame {w'}(h:Ext w w')(may:MemPlace→Prop):w.keptBut w' may:=by
 refine⟨h.os,h.output,fun i hi=>?_⟩
 rw[h.same i hi]
 split<;>simp_all
theorem Ext.sameAt {w'}(h:Ext w w'){p}(hp:p.block<w.heap.size):w.sameAt w' p:=by
 cases p with
 |cell b o=>exact World.cell?_of_block (w:=w) (h.same b hp)
 |map b=>exact h.same b hp
theorem q2n {w'}(hx:Ext w w')(hl:laidOutB P=Ga):∀ {ts:List TypeId} {vs:List Value} {ds:List (DataW H)} {ps:List MemPlace},ts.all (fun t=>P.readableRec t&&decide (t<P.types.size))=Ga→DataW.TrodAll enc P w 0 (fun _=>Ga) Ga ts vs ds ps →
  DataW.TrodAll enc P w' 0 (fun b=>decide (b<w.heap.size)) Ga ts vs ds ps
 | [],[],[],ps,_,h=>h
 | [],[],_::_,ps,_,h=>by simp[DataW.TrodAll]at h
 | [],_::_,_,ps,_,h=>by simp[DataW.TrodAll]at h
 |_::_,[],_,ps,_,h=>by simp[DataW.TrodAll]at h
 |_::_,_::_,[],ps,_,h=>by simp[DataW.TrodAll]at h
 |t::ts,v::vs,d::ds,ps,hr,h=>by
  obtain⟨p,q,h1,h2,h3⟩:=h
  simp only[Ln,E3,decide_eq_true_eq]at hr
  have bw:∀x∈p,x.block<w.heap.size:=by obtain⟨m,hm⟩:=h1;exact DataW.trod_lt m _ _ _ hm
  exact⟨p,q,WideElems.Trod_stays hl hr.1.1 hr.1.2 h1 (fun x hm=>hx.sameAt (bw x hm)) (fun x hm=>by simpa using bw x hm),q2n hx hl hr.2 h2,h3⟩
end
def oR (f g:XC):Prop:=∀c st r,f c st=I r→g c st=I r
section
variable {p:j8}{f g:XC}
theorem q0x (h:oR f g){af args hp r}(hr:py f af args hp=I r):py g af args hp=I r:=by
 unfold py at *
 cases hb:Hc args.length af.ntmps with
 |false=>simp[hb]at hr
 |true=>
  simp only[hb,cond_true]at hr ⊢
  split at hr
  ·rename_i st b6;rw[h _ _ _ b6];exact hr
  ·rename_i st b6;rw[h _ _ _ b6];exact hr
  ·cases hr
theorem Sz (h:oR f g){k args hp r}(hr:ql p f k args hp=I r):ql p g k args hp=I r:=by
 unfold ql at *
 split at hr
 ·exact q0x h hr
 ·exact hr
theorem SA (h:oR f g){k args r}(hr:qc p f k args=I r):qc p g k args=I r:=by
 unfold qc at *
 split at hr
 ·exact hr
 ·split at hr
  ·rename_i v o hh hc;rw[Sz h hc];exact hr
  ·cases hr
theorem q4g (h:oR f g){b args hp r}(hr:kE f b args hp=I r):kE g b args hp=I r:=by
 unfold kE at *
 split at hr
 ·split at hr
  ·split at hr
   ·rename_i st b6
    rw[h _ _ _ b6]
    simp only[]
    split at hr
    ·rename_i l1 ie
     cases jV:l1.pending.isNone with
     |false=>simp[jV]at hr
     |true=>
      simp only[jV,cond_true]at hr ⊢
      split at hr
      ·rename_i x bT il
       rw[h _ _ _ il]
       exact hr
      ·cases hr
    ·cases hr
   ·cases hr
  ·cases hr
 ·cases hr
theorem q0n (h:oR f g){h0 e hp md x l r}(hr:yt p f h0 e hp md x l=I r):yt p g h0 e hp md x l=I r:=by
 unfold yt at *
 split at hr
 ·cases md with
  |bV=>
   simp only[]at hr ⊢
   rename_i k first captured vs _ _
   cases hb:qw 0 (first++vs++captured)with
   |false=>rw[hb]at hr;cases hr
   |true=>
    rw[hb]at hr
    simp only[cond_true]at hr ⊢
    split at hr
    ·rename_i v o hc;rw[SA h hc];exact hr
    ·cases hr
  |red=>
   simp only[]at hr ⊢
   split at hr
   ·rename_i us hf
    cases hb:qw 0 us with
    |false=>rw[hb]at hr;cases hr
    |true=>
     rw[hb]at hr
     simp only[cond_true]at hr ⊢
     split at hr
     ·rename_i v o hc;rw[SA h hc];exact hr
     ·cases hr
   ·cases hr
  |fI _=>
   simp only[]at hr ⊢
   rename_i k first captured vs _ _ _
   cases he:(first++vs++captured).isEmpty with
   |true=>rw[he]at hr;exact hr
   |false=>
    rw[he]at hr
    simp only[cond_false]at hr ⊢
    cases hb:qw 0 (first++vs++captured)with
    |false=>rw[hb]at hr;cases hr
    |true=>
     rw[hb]at hr
     simp only[cond_true]at hr ⊢
     split at hr
     ·rename_i v o hc;rw[SA h hc];exact hr
     ·cases hr
  |shr=>
   simp only[]at hr ⊢
   split at hr
   ·rename_i v o hh hc;rw[Sz h hc];exact hr
   ·cases hr
 ·cases md with
  |shr=>
   simp only[]at hr ⊢
   split at hr
   ·rename_i v hh hc;rw[q4g h hc];exact hr
   ·cases hr
  |_=>simp at hr
 ·cases hr
theorem q6y (h:oR f g){h0 al e hp op r}(hr:qf p f h0 al e hp op=I r):qf p g h0 al e hp op=I r:=by
 cases op with
 |call md x l=>exact q0n h hr
 |append rk sz b x y=>cases rk<;>exact hr
 |cn rk sz b z n c=>cases rk<;>exact hr
 |_=>exact hr
theorem qo5 (h:oR f g){h0 o st bT}(hr:yu p f h0 o st=I bT):yu p g h0 o st=I bT:=by
 unfold yu at *
 split at hr
 ·split at hr
  ·rename_i r hs;rw[q6y h hs];exact hr
  ·cases hr
 ·exact hr
 ·cases hr
theorem SC (h:oR f g){h0}:∀ {l:List b4} {st bT:bf},fY p f h0 l st=I bT→fY p g h0 l st=I bT
 | [],_,_,hr=>hr
 |o::l,st,bT,hr=>by
  simp only[fY]at hr ⊢
  split at hr
  ·rename_i s1 h1;rw[qo5 h h1];exact SC h hr
  ·cases hr
theorem qp0 (h:oR f g){na l k st r}(hr:mY p f na l k st=I r):mY p g na l k st=I r:=by
 unfold mY at *
 split at hr
 ·rename_i s1 h1;rw[SC h h1];exact hr
 ·cases hr
theorem qtb (h:oR f g){x ps a b st r}(hr:mZ p f x ps a b st=I r):mZ p g x ps a b st=I r:=by
 unfold mZ at *
 cases hn:(z6 a&&z6 b)with
 |false=>simp[hn]at hr
 |true=>
  simp only[hn,cond_true]at hr ⊢
  split at hr
  ·split at hr
   ·rename_i v o hh hc;rw[Sz h hc];exact hr
   ·cases hr
  ·cases hr
end
theorem qvy (p:j8):∀n,oR (jk p n) (jk p (n+1))
 |0=>fun c st r h=>by simp[jk]at h
 |n+1=>by
  have ih:=qvy p n
  intro c st r h
  cases c with
  |region na l k=>simp only[jk]at h ⊢;exact qp0 ih h
  |rangeFunc f ps a b=>simp only[jk]at h ⊢;exact qtb ih h
  |seq a b=>
   rw[jk]at h ⊢
   split at h
   ·rename_i iq h1
    rw[ih _ _ _ h1];exact ih _ _ _ h
   ·rename_i bG
    rw[ih _ _ _ h]
    split
    ·rename_i iq h1;cases h1;exact absurd h (bG _)
    ·rfl
  |cond c a b=>
   rw[jk]at h ⊢
   split at h
   ·rename_i t ht
    cases t
    ·simp only[cond_false]at h ⊢;exact ih _ _ _ h
    ·simp only[cond_true]at h ⊢;exact ih _ _ _ h
   ·cases h
  |block id b=>
   rw[jk]at h ⊢
   split at h
   ·rename_i fQ iq h1
    rw[ih _ _ _ h1];exact h
   ·rename_i bG
    rw[ih _ _ _ h]
    split
    ·rename_i fQ iq h1;cases h1;exact absurd h (bG _ _)
    ·rfl
  |loop b=>
   rw[jk]at h ⊢
   split at h
   ·rename_i iq h1
    rw[ih _ _ _ h1];exact ih _ _ _ h
   ·rename_i bG
    rw[ih _ _ _ h]
    split
    ·rename_i iq h1;cases h1;exact absurd h (bG _)
    ·rfl
  |_=>exact h
theorem vz (p:j8){n m}(h:n≤m):oR (jk p n) (jk p m):=by
 induction h with
 |refl=>exact fun _ _ _ h=>h
 |step _ ih=>exact fun c st r hr=>qvy p _ c st r (ih c st r hr)
open Classical in
noncomputable def X (p:j8):XC:=fun c st=>if h:∃r n,jk p n c st=I r then I (Classical.choose h)else En
theorem yx {p c st r}:X p c st=I r↔∃n,jk p n c st=I r:=by
 unfold X
 constructor
 ·intro h
  split at h
  ·rename_i hh
   cases h
   exact Classical.choose_spec hh
  ·cases h
 ·rintro ⟨n,hn⟩
  have hh:∃r n,jk p n c st=I r:=⟨r,n,hn⟩
  rw[dif_pos hh]
  obtain⟨m,hm⟩:=Classical.choose_spec hh
  have h1:=vz p (Gr n m) _ _ _ hn
  have h2:=vz p (Gp n m) _ _ _ hm
  rw[h1]at h2
  exact h2.symm
theorem pJ {p}(n:Nat):oR (jk p n) (X p):=fun _ _ _ h=>yx.2 ⟨n,h⟩
section
variable {p:j8}
theorem q4u {af args hp r}(hr:py (X p) af args hp=I r):∃n,py (jk p n) af args hp=I r:=by
 have hr0:=hr
 unfold py at hr
 cases hb:Hc args.length af.ntmps with
 |false=>simp[hb]at hr
 |true=>
  simp only[hb,cond_true]at hr
  have key:∀ {r'},X p af.body ⟨oJ 0 args,hp⟩=I r'→∃n,py (jk p n) af args hp=I r:=by
   intro r' h
   obtain⟨n,hn⟩:=yx.1 h
   refine⟨n,?_⟩
   unfold py
   rw[hb,hn]
   rw[h]at hr
   exact hr
  split at hr
  ·rename_i st b6;exact key b6
  ·rename_i st b6;exact key b6
  ·cases hr
theorem SD {k args hp r}(hr:ql p (X p) k args hp=I r):∃n,ql p (jk p n) k args hp=I r:=by
 unfold ql at *
 cases h:p.bM k with
 |none=>rw[h]at hr;exact⟨0,hr⟩
 |some f=>rw[h]at hr;exact q4u hr
theorem LI {k args r}(hr:qc p (X p) k args=I r):∃n,qc p (jk p n) k args=I r:=by
 unfold qc at *
 cases h:p.cG k with
 |some f=>rw[h]at hr;exact⟨0,hr⟩
 |none=>
  rw[h]at hr
  simp only[]at hr ⊢
  split at hr
  ·rename_i v o hh hc
   obtain⟨n,hn⟩:=SD hc
   exact⟨n,by rw[hn];exact hr⟩
  ·cases hr
theorem q6r {b args hp r}(hr:kE (X p) b args hp=I r):∃n,kE (jk p n) b args hp=I r:=by
 unfold kE at hr
 split at hr
 ·rename_i l hl
  split at hr
  ·rename_i e wK hse
   split at hr
   ·rename_i st b6
    split at hr
    ·rename_i l1 ie
     cases jV:l1.pending.isNone with
     |false=>simp[jV]at hr
     |true=>
      simp only[jV,cond_true]at hr
      split at hr
      ·rename_i x bT il
       obtain⟨n,hn⟩:=yx.1 b6
       obtain⟨m,hm⟩:=yx.1 il
       refine⟨max n m,?_⟩
       have h1:=vz p (Gr n m) _ _ _ hn
       have h2:=vz p (Gp n m) _ _ _ hm
       simp only[kE,hl,wK,hse,h1,ie,jV,cond_true,h2]
       exact hr
      ·cases hr
    ·cases hr
   ·cases hr
  ·cases hr
 ·cases hr
theorem q2z {h0 e hp md x l r}(hr:yt p (X p) h0 e hp md x l=I r):∃n,yt p (jk p n) h0 e hp md x l=I r:=by
 unfold yt at hr
 split at hr
 ·rename_i k first captured vs e1 e2
  cases md with
  |bV=>
   simp only[]at hr
   cases hb:qw 0 (first++vs++captured)with
   |false=>rw[hb]at hr;cases hr
   |true=>
    rw[hb]at hr
    simp only[cond_true]at hr
    split at hr
    ·rename_i v o hc
     obtain⟨n,hn⟩:=LI hc
     refine⟨n,?_⟩
     simp only[yt,e1,e2,hn]
     rw[hb]
     exact hr
    ·cases hr
  |red=>
   simp only[]at hr
   split at hr
   ·rename_i us hf
    cases hb:qw 0 us with
    |false=>rw[hb]at hr;cases hr
    |true=>
     rw[hb]at hr
     simp only[cond_true]at hr
     split at hr
     ·rename_i v o hc
      obtain⟨n,hn⟩:=LI hc
      refine⟨n,?_⟩
      simp only[yt,e1,e2,hf,hn]
      rw[hb]
      exact hr
     ·cases hr
   ·cases hr
  |fI _=>
   simp only[]at hr
   cases he:(first++vs++captured).isEmpty with
   |true=>exact⟨0,by simp only[yt,e1,e2,he];rw[he]at hr;exact hr⟩
   |false=>
    rw[he]at hr
    simp only[cond_false]at hr
    cases hb:qw 0 (first++vs++captured)with
    |false=>rw[hb]at hr;cases hr
    |true=>
     rw[hb]at hr
     simp only[cond_true]at hr
     split at hr
     ·rename_i v o hc
      obtain⟨n,hn⟩:=LI hc
      refine⟨n,?_⟩
      simp only[yt,e1,e2,hn]
      rw[he,hb]
      exact hr
     ·cases hr
  |shr=>
   simp only[]at hr
   split at hr
   ·rename_i v o hh hc
    obtain⟨n,hn⟩:=SD hc
    refine⟨n,?_⟩
    simp only[yt,e1,e2,hn]
    exact hr
   ·cases hr
 ·rename_i b vs e1 e2
  cases md with
  |shr=>
   simp only[]at hr
   split at hr
   ·rename_i v hh hc
    obtain⟨n,hn⟩:=q6r hc
    refine⟨n,?_⟩
    simp only[yt,e1,e2,hn]
    exact hr
   ·cases hr
  |_=>simp at hr
 ·cases hr
theorem jbf {h0 al e hp op r}(hr:qf p (X p) h0 al e hp op=I r):∃n,qf p (jk p n) h0 al e hp op=I r:=by
 cases op with
 |call md x l=>exact q2z hr
 |append rk sz b x y=>cases rk<;>exact⟨0,hr⟩
 |cn rk sz b z n c=>cases rk<;>exact⟨0,hr⟩
 |_=>exact⟨0,hr⟩
theorem q3s {h0 o st bT}(hr:yu p (X p) h0 o st=I bT):∃n,yu p (jk p n) h0 o st=I bT:=by
 unfold yu at *
 cases hg:mX st.env o.guard with
 |none=>simp[hg]at hr
 |some b=>
  rw[hg]at hr
  cases b with
  |false=>exact⟨0,hr⟩
  |true=>
   simp only[]at hr ⊢
   split at hr
   ·rename_i r hs
    obtain⟨n,hn⟩:=jbf hs
    exact⟨n,by rw[hn];exact hr⟩
   ·cases hr
theorem q2r {h0}:∀ {l:List b4} {st bT:bf},fY p (X p) h0 l st=I bT→∃n,fY p (jk p n) h0 l st=I bT
 | [],_,_,hr=>⟨0,hr⟩
 |o::l,st,bT,hr=>by
  simp only[fY]at hr
  split at hr
  ·rename_i s1 h1
   obtain⟨n,hn⟩:=q3s h1
   obtain⟨m,hm⟩:=q2r hr
   refine⟨max n m,?_⟩
   simp only[fY]
   rw[qo5 (vz p (Gr n m)) hn]
   exact SC (vz p (Gp n m)) hm
  ·cases hr
theorem q6z {na l k st r}(hr:mY p (X p) na l k st=I r):∃n,mY p (jk p n) na l k st=I r:=by
 unfold mY at hr
 split at hr
 ·rename_i s1 h1
  obtain⟨n,hn⟩:=q2r h1
  exact⟨n,by unfold mY;rw[hn];exact hr⟩
 ·cases hr
theorem jab {x ps a b st r}(hr:mZ p (X p) x ps a b st=I r):∃n,mZ p (jk p n) x ps a b st=I r:=by
 unfold mZ at hr
 cases hn:(z6 a&&z6 b)with
 |false=>simp[hn]at hr
 |true=>
  simp only[hn,cond_true]at hr
  split at hr
  ·rename_i k first captured gW
   split at hr
   ·rename_i v o hh hc
    obtain⟨n,iY⟩:=SD hc
    refine⟨n,?_⟩
    unfold mZ
    rw[hn,gW]
    simp only[cond_true]
    rw[iY]
    exact hr
   ·cases hr
  ·cases hr
theorem A8 {α:Type}{x y:Option α}(h1:∀r,x=I r→y=I r)(h2:∀r,y=I r→x=I r):x=y:=by
 cases x with
 |none=>
  cases y with
  |none=>rfl
  |some r=>exact(h2 r rfl)
 |some r=>exact(h1 r rfl).symm
theorem jxx {st}:X p .skip st=I (.normal,st):=yx.2 ⟨1,rfl⟩
theorem jti {id st}:X p (.exit id) st=I (.exit id,st):=yx.2 ⟨1,rfl⟩
theorem j8d {st}:X p .ret st=I (.ret,st):=yx.2 ⟨1,rfl⟩
theorem jgz {na:Nat}{l:List b4}{k st}:X p (.region na l k) st=mY p (X p) na l k st:=by
 refine A8 (fun r h=>?_) (fun r h=>?_)
 ·obtain⟨n,hn⟩:=yx.1 h
  cases n with
  |zero=>simp[jk]at hn
  |succ n=>simp only[jk]at hn;exact qp0 (pJ n) hn
 ·obtain⟨n,hn⟩:=q6z h
  exact yx.2 ⟨n+1,by simp only[jk];exact hn⟩
theorem SE {x:jt}{ps:List Nat}{a b st}:X p (.rangeFunc x ps a b) st=mZ p (X p) x ps a b st:=by
 refine A8 (fun r h=>?_) (fun r h=>?_)
 ·obtain⟨n,hn⟩:=yx.1 h
  cases n with
  |zero=>simp[jk]at hn
  |succ n=>simp only[jk]at hn;exact qtb (pJ n) hn
 ·obtain⟨n,hn⟩:=jab h
  exact yx.2 ⟨n+1,by simp only[jk];exact hn⟩
theorem j28 {a b:aw}{st:bf}:X p (.seq a b) st=match X p a st with
  |some (.normal,bT)=>X p b bT
  |r=>r:=by
 refine A8 (fun r h=>?_) (fun r h=>?_)
 ·obtain⟨n,hn⟩:=yx.1 h
  cases n with
  |zero=>simp[jk]at hn
  |succ n=>
   rw[jk]at hn
   split at hn
   ·rename_i iq h1;rw[pJ n _ _ _ h1];exact pJ n _ _ _ hn
   ·rename_i bG
    rw[pJ n _ _ _ hn]
    split
    ·rename_i iq h1;cases h1;exact absurd hn (bG _)
    ·rfl
 ·split at h
  ·rename_i iq h1
   obtain⟨n,hn⟩:=yx.1 h1
   obtain⟨m,hm⟩:=yx.1 h
   refine yx.2 ⟨max n m+1,?_⟩
   rw[jk,vz p (Gr n m) _ _ _ hn]
   exact vz p (Gp n m) _ _ _ hm
  ·rename_i bG
   obtain⟨n,hn⟩:=yx.1 h
   refine yx.2 ⟨n+1,?_⟩
   rw[jk,hn]
   split
   ·rename_i iq h1;cases h1;exact absurd h (bG _)
   ·rfl
theorem jws {c:jt}{a b:aw}{st}:X p (.cond c a b) st=match qi st.env c with
  |some (.bool t)=>bif t then X p a st else X p b st
  |_=>En:=by
 refine A8 (fun r h=>?_) (fun r h=>?_)
 ·obtain⟨n,hn⟩:=yx.1 h
  cases n with
  |zero=>simp[jk]at hn
  |succ n=>
   rw[jk]at hn
   split at hn
   ·rename_i t ht
    rw[ht]
    cases t
    ·simp only[cond_false]at hn ⊢;exact pJ n _ _ _ hn
    ·simp only[cond_true]at hn ⊢;exact pJ n _ _ _ hn
   ·cases hn
 ·split at h
  ·rename_i t ht
   cases t
   ·simp only[cond_false]at h
    obtain⟨n,hn⟩:=yx.1 h
    exact yx.2 ⟨n+1,by rw[jk,ht];exact hn⟩
   ·simp only[cond_true]at h
    obtain⟨n,hn⟩:=yx.1 h
    exact yx.2 ⟨n+1,by rw[jk,ht];exact hn⟩
  ·cases h
theorem jpk {id:Nat}{b:aw}{st}:X p (.block id b) st=match X p b st with
  |some (.exit fQ,bT)=>bif G6 fQ id then I (.normal,bT)else I (.exit fQ,bT)
  |r=>r:=by
 refine A8 (fun r h=>?_) (fun r h=>?_)
 ·obtain⟨n,hn⟩:=yx.1 h
  cases n with
  |zero=>simp[jk]at hn
  |succ n=>
   rw[jk]at hn
   split at hn
   ·rename_i fQ iq h1;rw[pJ n _ _ _ h1];exact hn
   ·rename_i bG
    rw[pJ n _ _ _ hn]
    split
    ·rename_i fQ iq h1;cases h1;exact absurd hn (bG _ _)
    ·rfl
 ·split at h
  ·rename_i fQ iq h1
   obtain⟨n,hn⟩:=yx.1 h1
   exact yx.2 ⟨n+1,by rw[jk,hn];exact h⟩
  ·rename_i bG
   obtain⟨n,hn⟩:=yx.1 h
   refine yx.2 ⟨n+1,?_⟩
   rw[jk,hn]
   split
   ·rename_i fQ iq h1;cases h1;exact absurd h (bG _ _)
   ·rfl
theorem jsq {b:aw}{st:bf}:X p (.loop b) st=match X p b st with
  |some (.normal,bT)=>X p (.loop b) (gc st.heap.length bT)
  |r=>r:=by
 refine A8 (fun r h=>?_) (fun r h=>?_)
 ·obtain⟨n,hn⟩:=yx.1 h
  cases n with
  |zero=>simp[jk]at hn
  |succ n=>
   rw[jk]at hn
   split at hn
   ·rename_i iq h1;rw[pJ n _ _ _ h1];exact pJ n _ _ _ hn
   ·rename_i bG
    rw[pJ n _ _ _ hn]
    split
    ·rename_i iq h1;cases h1;exact absurd hn (bG _)
    ·rfl
 ·split at h
  ·rename_i iq h1
   obtain⟨n,hn⟩:=yx.1 h1
   obtain⟨m,hm⟩:=yx.1 h
   refine yx.2 ⟨max n m+1,?_⟩
   rw[jk,vz p (Gr n m) _ _ _ hn]
   exact vz p (Gp n m) _ _ _ hm
  ·rename_i bG
   obtain⟨n,hn⟩:=yx.1 h
   refine yx.2 ⟨n+1,?_⟩
   rw[jk,hn]
   split
   ·rename_i iq h1;cases h1;exact absurd h (bG _)
   ·rfl
theorem juw {sz:Nat}{st:bf}:X p (.grow sz) st=match jj 0 st.env,jj 1 st.env with
   |some (.list Ga _ _,_),I (.int .i64 (.ofNat m),_)=>bif Js 0 m&&Hc m 1073741824 then I (.normal,{ st with env:=[(0,.list Gd sz [],Ga)] })else En
   |_,_=>En:=by
 refine A8 (fun r h=>?_) (fun r h=>?_)
 ·obtain⟨n,hn⟩:=yx.1 h
  cases n with
  |zero=>simp[jk]at hn
  |succ n=>simp only[jk]at hn;exact hn
 ·exact yx.2 ⟨1,by simp only[jk];exact h⟩
theorem q1y {P}(et:bW P p){k args v ow}(h:qc p (X p) k args=I (v,ow))(hb:qw 0 args=Ga):IsoCall P k args v ow:=by
 obtain⟨n,hn⟩:=LI h
 exact q8d et hn hb
end
inductive gZ where
 |code (c:aw)
 |seq (a b:gZ)
 |cond (c:jt) (a b:gZ)
 |block (id:Nat) (b:gZ)
 |loop (b:gZ)
 |AQ (s:Nat) (c:gZ)
 |shut (s sz:Nat) (c:gZ)
def gZ.erase:gZ→aw
 | .code c=>c
 | .seq a b=>.seq a.erase b.erase
 | .cond c a b=>.cond c a.erase b.erase
 | .block id b=>.block id b.erase
 | .loop b=>.loop b.erase
 | .AQ _ c=>c.erase
 | .shut _ _ c=>c.erase
def SF (P:Program)(w0:World)(K:Nat→Nat→Option Value)(nt:Nat)(st:bf)(a:Act)(w:World):Prop:=
 a.tmps.size=nt∧∃C' ω',Marks C' w0.heap.size a.defers∧az P C' ω' w0 (.bV K) st.heap w∧aq C' ω' w w0.heap.size st.env a.tmps
theorem SF.gc {P w0 K nt n st a w}(h:SF P w0 K nt st a w):SF P w0 K nt (Abs.gc n st) a w:=by
 obtain⟨h1,C',ω',h2,h3,h4⟩:=h
 unfold Abs.gc
 cases hb:Hc st.heap.length n with
 |true=>exact⟨h1,C',ω',h2,h3,h4⟩
 |false=>
  simp only[cond_false]
  cases lP:(mV n st.env&&zr n (st.heap.take n))with
  |false=>exact⟨h1,C',ω',h2,h3,h4⟩
  |true=>
   simp only[cond_true]
   simp only[E3]at lP
   have hn:n≤st.heap.length:=by
    rcases Nat.lt_or_ge n st.heap.length with h|h
    ·omega
    ·rw[If h]at hb;cases hb
   exact⟨h1,C'.cut n,ω',⟨h2.choose,h2.choose_spec.1,h2.choose_spec.2.1,h2.choose_spec.2.2⟩,h3.gc hn lP.2 (fun b r h=>by cases h),h4.cut lP.1⟩
section
variable {P:Program}
theorem Tabs.table {w}(h:Tabs P w){g}(hg:P.globalNamed oc=I g):Lib.TabIs P w oc .u64 Lib.pow10Tab:=(h g (.inl hg)).2.1 hg
theorem Tabs.length {w}(h:Tabs P w){g}(hg:P.globalNamed xU=I g):∃m,w.cell? ⟨g,0,En⟩=I (.int .i64 m):=(h g (.inr (.inl hg))).2.2.1 hg
theorem GR {k args v}(h:∀(K:Nat→Nat→Option Value) (w:World) (vs:List Value),Tabs P w→(∀r o u,K r o=I u→w.cell? ⟨r,o,En⟩=I u)→aS (.bV K) args vs →
  ∃u,bP (.bV K) v u∧Calls P k ⟨vs⟩ w fun e w'=>e=.returned u∧Ext w w'):IsoCall P k args v Gd:=by
 intro K w vs ht h1 h2 hr
 obtain⟨u,hu,hc⟩:=h K w vs ht h1 hr
 refine callsIn_wide.2 (hc.mono ?_)
 rintro e w' ⟨rfl,hx⟩
 exact⟨u,K,rfl,hx,fun _ _ _ h=>h,fun _ _ _=>rfl,fun r o x hk=>hx.cell (h1 r o x hk),h2,hu,fun h=>by cases h⟩
theorem q7q {C r}:∀ {xs:List AVal} {us:List Value} {o:Nat},aS C xs us→(∀x∈xs,x.flat=[x])→(∀(j:Nat) u,us[j]?=I u→C.K r (o+j)=I u)→bu C r 1 xs o
 | [],_,o,_,_,_=>.fK _ _ _
 |x::xs,us,o,h,hf,hk=>by
  cases h with
  |cons _ _ u us hx hr=>
   have Aq:=hf x (Iy ..)
   refine .dr _ _ _ _ _ (by rw[Aq];rfl) ?_ (q7q hr (fun y hy=>hf y (Ih _ hy)) fun j u hj=>?_)
   ·rw[Aq]
    exact .dB _ _ _ _ u (by have:=hk 0 u rfl;simpa using this) hx (.ic _ _)
   ·have:=hk (j+1) u (by simpa using hj)
    rw[show o+1+j=o+(j+1) by omega]
    exact this
theorem jhq {k args xs us}{t:TypeId}(hf:∀x∈xs,x.flat=[x])(gU:∀K,aS (.bV K) xs us)(h1u:∀u∈us,u.oneCell'=Ga)
  (h:∀(K:Nat→Nat→Option Value) (w:World) (vs:List Value),Tabs P w→(∀r o u,K r o=I u→w.cell? ⟨r,o,En⟩=I u)→aS (.bV K) args vs →
  Calls P k ⟨vs⟩ w fun e w'=>e=.returned (.slice (I ⟨w.heap.size,0,En⟩) xs.length xs.length)∧w'=w.alloc (.cells us.toArray t)):IsoCall P k args (.list Gd 1 xs) Gd:=by
 intro K w vs ht h1 h2 hr
 refine callsIn_wide.2 ((h K w vs ht h1 hr).mono ?_)
 rintro e w' ⟨rfl,rfl⟩
 have hx:Ext w (w.alloc (.cells us.toArray t)):=Ext.alloc w _ (fun c t fr h=>by cases h;rfl)
 have Gl:∀o u,K w.heap.size o=I u→False:=fun o u hk=>by
  have:=h1 _ _ _ hk
  simp only[World.cell?,Array.getElem?_eq_none (Jr _)]at this
  cases this
 refine⟨_,fun r o=>if r=w.heap.size then us[o]? else K r o,rfl,hx,?_,?_,?_,?_,?_,fun h=>by cases h⟩
 ·intro r o x hk
  have bG:r≠w.heap.size:=fun e=>Gl o x (e▸hk)
  simp only[if_neg bG];exact hk
 ·intro r o bw
  have bG:r≠w.heap.size:=by omega
  simp only[if_neg bG]
 ·intro r o x hk
  simp only[]at hk
  split at hk
  ·next hr=>
   subst hr
   have hg:(w.alloc (.cells us.toArray t)).heap[w.heap.size]?=I (.cells us.toArray t):=by rw[wx,if_pos rfl]
   simp only[World.cell?]
   rw[hg]
   simpa using hk
  ·exact hx.cell (h1 r o x hk)
 ·intro r o x hk
  simp only[]at hk
  split at hk
  ·exact h1u x (G9 hk)
  ·exact h2 r o x hk
 ·refine .list _ _ _ _ _ (Jr _) (q7q (gU _) hf fun j u hj=>?_)
  show(if w.heap.size=w.heap.size then us[0+j]? else K w.heap.size (0+j))=I u
  rw[if_pos rfl,Nat.zero_add];exact hj
theorem IsoCall.shr {k args v ow}(h:IsoCall P k args v ow)(hb:qw 0 args=Ga)(hp:mr v=Ga)(et:qh):AO P k args et v Gd et:=by
 intro C ω w vs hr m
 have jS:aS (.bV C.K) args vs:=aB.shift (C:=C) (C':=.bV C.K) 0 (fun _ _ _ h=>h) (fun b r bw=>by omega) hr hb
 refine CallsIn.mono (h C.K w vs m.tabs m.know m.de jS) ?_
 rintro e w' ⟨u,K',rfl,q1,q2,q3,q4,q5,q6,_⟩
 refine⟨u,{ C with K:=K' },ω,rfl,⟨q2,fun _ _ h=>h,rfl,fun _ h=>h,fun _ h=>h⟩,m.bV q1 q2 q3 q4 q5,?_,fun h=>by cases h⟩
 exact aB.shift (C:=.bV K') (C':={ C with K:=K' }) 0 (fun _ _ _ h=>h) (fun b r bw=>by omega) q6 hp
end
open Go
def DY:List UInt8→List UInt8→Bool
 | [],[]=>Ga
 |a::l,b::m=>bif G6 a.toNat b.toNat then DY l m else Gd
 |_,_=>Gd
theorem qo7:∀ {l m:List UInt8},DY l m=Ga→l=m
 | [],[],_=>rfl
 | [],_::_,h=>by simp[DY]at h
 |_::_,[],h=>by simp[DY]at h
 |a::l,b::m,h=>by
  simp only[DY,Gi]at h
  split at h
  ·next hb=>rw[UInt8.toNat_inj.1 (Gc hb),qo7 h]
  ·exact absurd h (by simp)
def LJ:Int→Int→Bool
 | .ofNat a,.ofNat b=>G6 a b
 | .negSucc a,.negSucc b=>G6 a b
 |_,_=>Gd
theorem q6s:∀ {a b:Int},LJ a b=Ga→a=b
 | .ofNat _,.ofNat _,h=>by rw[Gc h]
 | .negSucc _,.negSucc _,h=>by rw[Gc h]
 | .ofNat _,.negSucc _,h=>by simp[LJ]at h
 | .negSucc _,.ofNat _,h=>by simp[LJ]at h
mutual
def jA:AVal→AVal→Bool
 | .bool a,.bool b=>a == b
 | .int k a,.int k' b=>bif decide (k=k')then LJ a b else Gd
 | .str a,.str b=>DY a b
 | .list a n xs,.list b m ys=>bif a == b then bif G6 n m then vA xs ys else Gd else Gd
 | .agg xs,.agg ys=>vA xs ys
 | .aC xs,.aC ys=>vA xs ys
 |_,_=>Gd
def vA:List AVal→List AVal→Bool
 | [],[]=>Ga
 |a::l,b::m=>bif jA a b then vA l m else Gd
 |_,_=>Gd
end
mutual
theorem qzo:∀ {a b:AVal},jA a b=Ga→a=b:=by
 intro a b h
 match a,b with
 | .bool _,.bool _=>simp only[jA,beq_iff_eq]at h;rw[h]
 | .int k a,.int k' b=>
  simp only[jA,Gi,decide_eq_true_eq]at h
  split at h
  ·next hk=>rw[hk,q6s h]
  ·exact absurd h (by simp)
 | .str _,.str _=>simp only[jA]at h;rw[qo7 h]
 | .list a n xs,.list b m ys=>
  simp only[jA,Gi,beq_iff_eq]at h
  split at h
  ·next h1=>
   split at h
   ·next h2=>rw[h1,Gc h2,DZ h]
   ·exact absurd h (by simp)
  ·exact absurd h (by simp)
 | .agg _,.agg _=>simp only[jA]at h;rw[DZ h]
 | .aC _,.aC _=>simp only[jA]at h;rw[DZ h]
 | .bool _,.int .. | .bool _,.str _ | .bool _,.list .. | .bool _,.agg _ | .bool _,.aC _=>simp[jA]at h
 | .int ..,.bool _ | .int ..,.str _ | .int ..,.list .. | .int ..,.agg _ | .int ..,.aC _=>simp[jA]at h
 | .str _,.bool _ | .str _,.int .. | .str _,.list .. | .str _,.agg _ | .str _,.aC _=>simp[jA]at h
 | .list ..,.bool _ | .list ..,.int .. | .list ..,.str _ | .list ..,.agg _ | .list ..,.aC _=>simp[jA]at h
 | .agg _,.bool _ | .agg _,.int .. | .agg _,.str _ | .agg _,.list .. | .agg _,.aC _=>simp[jA]at h
 | .aC _,.bool _ | .aC _,.int .. | .aC _,.str _ | .aC _,.list .. | .aC _,.agg _=>simp[jA]at h
 | .ms ..,_ | .ptr ..,_ | .ah _,_ | .cT _,_ | .bZ,_ | .map _,_ | .bX,_ | .fn ..,_ | .cr,_ | .undef,_ | .any,_ | .ay ..,_ | .dH ..,_=>simp[jA]at h
 | .bool _,.ms .. | .bool _,.ptr .. | .bool _,.ah _ | .bool _,.cT _ | .bool _,.bZ | .bool _,.map _ | .bool _,.bX | .bool _,.fn .. | .bool _,.cr | .bool _,.undef | .bool _,.ay .. | .bool _,.dH ..=>simp[jA]at h
 | .int ..,.ms .. | .int ..,.ptr .. | .int ..,.ah _ | .int ..,.cT _ | .int ..,.bZ | .int ..,.map _ | .int ..,.bX | .int ..,.fn .. | .int ..,.cr | .int ..,.undef | .int ..,.ay .. | .int ..,.dH ..=>simp[jA]at h
 | .str ..,.ms .. | .str ..,.ptr .. | .str ..,.ah _ | .str ..,.cT _ | .str ..,.bZ | .str ..,.map _ | .str ..,.bX | .str ..,.fn .. | .str ..,.cr | .str ..,.undef | .str ..,.ay .. | .str ..,.dH ..=>simp[jA]at h
 | .list ..,.ms .. | .list ..,.ptr .. | .list ..,.ah _ | .list ..,.cT _ | .list ..,.bZ | .list ..,.map _ | .list ..,.bX | .list ..,.fn .. | .list ..,.cr | .list ..,.undef | .list ..,.ay .. | .list ..,.dH ..=>simp[jA]at h
 | .agg ..,.ms .. | .agg ..,.ptr .. | .agg ..,.ah _ | .agg ..,.cT _ | .agg ..,.bZ | .agg ..,.map _ | .agg ..,.bX | .agg ..,.fn .. | .agg ..,.cr | .agg ..,.undef | .agg ..,.ay .. | .agg ..,.dH ..=>simp[jA]at h
 | .aC ..,.ms .. | .aC ..,.ptr .. | .aC ..,.ah _ | .aC ..,.cT _ | .aC ..,.bZ | .aC ..,.map _ | .aC ..,.bX | .aC ..,.fn .. | .aC ..,.cr | .aC ..,.undef | .aC ..,.ay .. | .aC ..,.dH ..=>simp[jA]at h
theorem DZ:∀ {l m:List AVal},vA l m=Ga→l=m:=by
 intro l m h
 match l,m with
 | [],[]=>rfl
 | [],_::_=>simp[vA]at h
 |_::_,[]=>simp[vA]at h
 |a::l,b::m=>
  simp only[vA,Gi]at h
  split at h
  ·next h1=>rw[qzo h1,DZ h]
  ·exact absurd h (by simp)
end
abbrev Row:=List AVal×AVal×Bool
def Dn (args:List AVal):List Row→Option (AVal×Bool)
 | []=>En
 |r::l=>bif vA r.1 args then I r.2 else Dn args l
theorem Qt {args x}:∀ {l:List Row},Dn args l=I x→(args,x)∈l
 | [],h=>by simp[Dn]at h
 |r::l,h=>by
  simp only[Dn,Gi]at h
  split at h
  ·next hb=>
   simp only[I.injEq]at h
   rw[←DZ hb,←h]
   exact Iy ..
  ·exact Ih _ (Qt h)
def Qq (P:Program)(tab:Nat→Option (List Row)):Prop:=
 ∀k l,tab k=I l→∀r∈l,IsoCall P k r.1 r.2.1 r.2.2
def xJ:List (Nat×List Row)→Nat→Option (List Row)
 | [],_=>En
 |(k,l)::t,n=>bif G6 k n then I l else xJ t n
def SG (P:Program)(k:Nat):List Row→Prop
 | []=>True
 |r::l=>IsoCall P k r.1 r.2.1 r.2.2∧SG P k l
def jdw (P:Program):List (Nat×List Row)→Prop
 | []=>True
 |(k,l)::t=>SG P k l∧jdw P t
theorem q55 {P k}:∀ {l:List Row},SG P k l→∀r∈l,IsoCall P k r.1 r.2.1 r.2.2
 |r::l,h,x,hx=>by
  cases hx with
  |head=>exact h.1
  |tail _ hx=>exact q55 h.2 x hx
theorem Qr {P}:∀ {t:List (Nat×List Row)},jdw P t→Qq P (xJ t)
 |(j,m)::t,h,k,l,hk=>by
  simp only[xJ,Gi]at hk
  split at hk
  ·next hb=>
   rw[Gc hb]at h
   simp only[I.injEq]at hk
   subst hk
   exact q55 h.1
  ·exact Qr h.2 k l hk
theorem qxw {P p}(h:bW P p){n k b ow h1 es}(hr:ql p (iF p n) k [] []=I (.map b,ow,h1))(hb:h1[b]?=I (.map es))(he:qI 0 es=Ga):Enters P k∧RG P k es:=
 q9h h (cD.Gy (Lw h n).1) (by rw[←LB];exact hr) hb he
theorem qg {P p}(h:bW P p){n k args v o}(hr:qc p (iF p n) k args=some (v,o))(hb:qw 0 args=true:=by rfl):IsoCall P k args v o:=
 q8d h (jd8 hr) hb
end Go.Abs
