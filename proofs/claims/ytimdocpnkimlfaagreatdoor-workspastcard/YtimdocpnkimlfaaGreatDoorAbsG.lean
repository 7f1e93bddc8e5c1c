/- The growth of an empty slice in slices.Grow. -/
import Derived.Test.YtimdocpnkimlfaaGreatDoorAbsE
import Derived.Lib.AppendZeros
import Derived.ProofKit
import Derived.OpenShut
import Derived.ShutString
set_option linter.unusedVariables false
set_option linter.unusedSimpArgs false
open Option renaming some→I,none→En,map_eq_some_iff→G9,bind_some→Ny
open Bool renaming and_eq_true→Ga,true→Gb,false→Ge,cond_eq_ite→Gj
open Nat renaming eq_of_beq_eq_true→Gd,le_max_right→Gq,le_max_left→Gs,beq→G7,ble→Hd,ble_eq_true_of_le→If,succ_mul→Ix,le_refl→Jr,blt→Me
open List renaming getElem?_range→Gh,range→Gn,length_eq_zero_iff→G8,mem_of_getElem?→Ha,getElem?_eq_some_iff→Hc,mem_cons_of_mem→Ig,mem_cons_self→Ik,flatten_cons→Jk,length_range→Jp,getElem?_map→Jq,mem_append→Nz,replicate→Qw,drop_drop→Q6,mem_cons→Q7,map_cons→Q9,all_cons→Ra
open Array renaming getD_eq_getD_getElem?→Gi,ext'→Gr,getElem?_eq_some_iff→Hb
open Prod renaming mk→He
namespace Go.Abs
section
variable {P:Program}{C C0:aM}{ω:Nat→Option Loc}{w w0:World}{hp:qi}{env:Env}{a:Act}{ρ:Option Nat}
theorem wA {a:Act}{d:Nat}{v:Value}(h:d<a.tmps.size):(a.put (I d) v).eval (.tmp d)=v:=by
 simp[Act.eval,Act.put,Gi,h]
theorem ku {a:Act}{d j:Nat}{v:Value}(h:d≠j):(a.put (I d) v).eval (.tmp j)=a.eval (.tmp j):=by
 simp[Act.eval,Act.put,Gi,Array.getElem?_setIfInBounds_ne h]
theorem rH {a:Act}{d:Nat}{v:Value}:(a.put (I d) v).tmps.size=a.tmps.size:=by simp[Act.put]
theorem vn {ops:Array Oper}{Q:Exit→Act→World→Prop}{i d:Nat}{rest:List Nat}{o:Oper}{v:Value}{w':World}(hi:ops[i]?=I o)(hg:o.guard=En)(hd:o.dst=I d)(hn:∀c,o.op≠.defer c)(bH:(execOp a.eval o).run P w=.ok (.value v) w')
  (hk:wpOpsIn (jF ρ) 0 P ops Q rest (a.put (I d) v) w'):wpOpsIn (jF ρ) 0 P ops Q (i::rest) a w:=by
 rw[wpOpsIn_cons]
 unfold wpOpIn
 rw[hi]
 simp only[]
 rw[show Region.wanted o (yielded ops a.tmps)=Gb from by simp[Region.wanted,hg]]
 simp only[if_true]
 refine⟨fun _ _=>trivial,?_⟩
 rw[Oper.semAt_eq _ _ _ hn,bH]
 rw[←hd]at hk
 exact hk
theorem K3 {s d:Nat}{o:Oper}(h:Dy s d o=Gb):o.op=.move (.tmp s)∧o.dst=I d∧o.guard=En:=by
 unfold Dy at h
 split at h
 ·rename_i h1 h2 h3
  simp only[Ga,beq_iff_eq]at h
  obtain⟨rfl,rfl⟩:=h
  exact⟨h1,h2,h3⟩
 ·cases h
theorem q5i {s d:Nat}{o:Oper}(h:QB s d o=Gb):o.op=.assign (.tmp s)∧o.dst=I d∧o.guard=En:=by
 unfold QB at h
 split at h
 ·rename_i h1 h2 h3
  simp only[Ga,beq_iff_eq]at h
  obtain⟨rfl,rfl⟩:=h
  exact⟨h1,h2,h3⟩
 ·cases h
theorem jko {x d:Nat}{o:Oper}{t:TypeId}(h:QC x d o=I t):∃c,o.op=.call c∧c.callee=.builtin .cap∧c.args=#[.tmp x]∧c.argTypes=#[t]∧o.dst=I d∧o.guard=En:=by
 unfold QC at h
 split at h
 ·rename_i c _ h1 h2 h3
  split at h
  ·rename_i h4 h5 h6
   split at h
   ·rename_i hk
    simp only[Ga,beq_iff_eq]at hk
    obtain⟨rfl,rfl⟩:=hk
    cases h
    exact⟨c,h1,h4,by apply Gr;simpa using h5,by apply Gr;simpa using h6,h2,h3⟩
   ·cases h
  ·cases h
 ·cases h
theorem jkc {x d:Nat}{o:Oper}{t:TypeId}(h:QD x d o=I t):∃c,o.op=.call c∧c.callee=.builtin .len∧c.args=#[.tmp x]∧c.argTypes=#[t]∧o.dst=I d∧o.guard=En:=by
 unfold QD at h
 split at h
 ·rename_i c _ h1 h2 h3
  split at h
  ·rename_i h4 h5 h6
   split at h
   ·rename_i hk
    simp only[Ga,beq_iff_eq]at hk
    obtain⟨rfl,rfl⟩:=hk
    cases h
    exact⟨c,h1,h4,by apply Gr;simpa using h5,by apply Gr;simpa using h6,h2,h3⟩
   ·cases h
  ·cases h
 ·cases h
theorem q49 {x h d:Nat}{o:Oper}{t:TypeId}(hh:Kq x h d o=I t):o.op=.slice t (.tmp x) En (I (.tmp h)) En∧o.dst=I d∧o.guard=En:=by
 unfold Kq at hh
 split at hh
 ·rename_i h1 h2 h3
  split at hh
  ·rename_i hk
   simp only[Ga,beq_iff_eq]at hk
   obtain⟨⟨rfl,rfl⟩,rfl⟩:=hk
   cases hh
   exact⟨h1,h2,h3⟩
  ·cases hh
 ·cases hh
theorem jgp {x y d:Nat}{o:Oper}{t u:TypeId}(h:QE x y d o=I (t,u)):∃c,o.op=.call c∧c.callee=.builtin .append∧c.args=#[.tmp x,.tmp y]∧c.argTypes=#[t,u]∧o.dst=I d∧o.guard=En:=by
 unfold QE at h
 split at h
 ·rename_i c _ h1 h2 h3
  split at h
  ·rename_i h4 h5 h6
   split at h
   ·rename_i hk
    simp only[Ga,beq_iff_eq]at hk
    obtain⟨⟨rfl,rfl⟩,rfl⟩:=hk
    cases h
    exact⟨c,h1,h4,by apply Gr;simpa using h5,by apply Gr;simpa using h6,h2,h3⟩
   ·cases h
  ·cases h
 ·cases h
theorem q7y {o:Oper}{t e:TypeId}{x h:Nat}{b:Option Addr}{len cap n:Nat}(ho:o.op=.slice t (.tmp x) En (I (.tmp h)) En)(ht:P.underlying t=I (.slice e)){sz:Nat}(hn:jp P e=I sz)(hx:a.eval (.tmp x)=.slice b len cap)(hh:a.eval (.tmp h)=.int .i64 (n:Int))(hle:n≤cap):
  (execOp a.eval o).run P w=.ok (.value (.slice (if cap=0 then b else b.map (·.add 0)) n cap)) w:=by
 have hb:(0:Int)≤n∧(n:Int)≤cap:=by omega
 simp[execOp,ho,Instr.sliceAt,Instr.slice,run_underlying ht,hx,Instr.sliceBounds,hh,Instr.sliceBound,asIntOf,hle,ym hn]
theorem jqh {id nt:Nat}{ops:Array Oper}{sz:Nat}(hg:Kr P nt ops=I sz)(m:az P C ω w0 C0 hp w)(he:aq C ω w w0.heap.size env a.tmps)(da:a.tmps.size=nt)(yL:Marks C w0.heap.size a.defers){z k:Nat}{xs:List AVal}{o1 o2:Bool}
  (h0:ji 0 env=I (.list Gb z xs,o1)) (h1:ji 1 env=I (.int .i64 (.ofNat k),o2)) (hk0:0<k) (gf:k≤1073741824):
  (Code.region id ops Ge).wpIn (jF ρ) 0 P (fun e a' w'=>e=.normal∧dF P w0 C0 C nt ⟨[(0,.list Ge sz [],Gb)],hp⟩ a' w') a w:=by
 unfold Kr at hg
 split at hg
 ·rename_i t u pI
  split at hg
  ·rename_i e kk ht hu
   split at hg
   ·rename_i i hi
    split at hg
    ·rename_i hc
     cases hg
     simp only[Ga,decide_eq_true_eq,Option.isSome_iff_exists,beq_iff_eq]at hc
     obtain⟨⟨⟨⟨⟨⟨zv,hz⟩,K4⟩,R9⟩,hnt⟩,⟨zl,iq⟩⟩,qI⟩:=hc
     have yM:jp P e=I i.size:=by simp[jp,hi]
     unfold jmg at pI
     split at pI
     ·rename_i p0 p1 p2 p3 p4 p5 p6 p7 p8 p9 Sb
      split at pI
      ·rename_i t2 t3 tt uu t7 t8 g2 g3 g5 g7 g8
       split at pI
       ·rename_i dR
        cases pI
        simp only[Ga,beq_iff_eq]at dR
        obtain⟨⟨⟨⟨⟨⟨⟨⟨c0,c1⟩,c4⟩,c6⟩,c9⟩,x2⟩,x3⟩,x7⟩,x8⟩:=dR
        replace x2:=x2.symm
        replace x3:=x3.symm
        replace x7:=x7.symm
        replace x8:=x8.symm
        subst x2;subst x3;subst x7;subst x8
        have Gt:ops=#[p0,p1,p2,p3,p4,p5,p6,p7,p8,p9]:=by apply Gr;simpa using Sb
        subst Gt
        obtain⟨v0,q0,r0,_⟩:=he 0 _ h0
        obtain⟨v1,q1,r1,_⟩:=he 1 _ h1
        have gi:v0=.slice En 0 0:=by
         rcases r0.dc with⟨_,_,h⟩|⟨h,_⟩|⟨h,_⟩
         ·exact h
         ·cases h
         ·cases h
        have nY:v1=.int .i64 (k:Int):=by cases r1;rfl
        subst gi;subst nY
        have hl:26≤a.tmps.size:=by omega
        have e0:a.eval (.tmp 0)=.slice En 0 0:=by simp[Act.eval,Gi,q0]
        have e1:a.eval (.tmp 1)=.int .i64 (k:Int):=by simp[Act.eval,Gi,q1]
        obtain⟨a0,a0d,a0g⟩:=K3 c0
        obtain⟨a1,a1d,a1g⟩:=K3 c1
        obtain⟨cc2,a2,b2,b2a,b2t,a2d,a2g⟩:=jko g2
        obtain⟨a3,a3d,a3g⟩:=q49 g3
        obtain⟨a4,a4d,a4g⟩:=K3 c4
        obtain⟨cc5,a5,b5,b5a,b5t,a5d,a5g⟩:=jgp g5
        obtain⟨a6,a6d,a6g⟩:=K3 c6
        obtain⟨cc7,a7,b7,b7a,b7t,a7d,a7g⟩:=jkc g7
        obtain⟨a8,a8d,a8g⟩:=q49 g8
        obtain⟨a9,a9d,a9g⟩:=q5i c9
        refine wpIn_region ?_
        rw[show Gn (#[p0,p1,p2,p3,p4,p5,p6,p7,p8,p9]:Array Oper).size=[0,1,2,3,4,5,6,7,8,9]from rfl]
        refine vn (o:=p0) rfl a0g a0d (by simp[a0]) (v:=.slice En 0 0) (w':=w) (by simp[execOp,a0,e0]) ?_
        refine vn (o:=p1) rfl a1g a1d (by simp[a1]) (v:=.slice En 0 0) (w':=w) (by simp[execOp,a1,ku,e0]) ?_
        refine vn (o:=p2) rfl a2g a2d (by simp[a2]) (v:=.int .i64 0) (w':=w) ?_ ?_
        ·have:(((a.put (I 17) (.slice En 0 0)).put (I 18) (.slice En 0 0))).eval (.tmp 18)=.slice En 0 0:=wA (by rw[rH];omega)
         simp[execOp,a2,resolve,b2,b2a,b2t,invoke,builtin,Builtin.cap_,run_underlying ht,this,goInt]
        refine vn (o:=p3) rfl a3g a3d (by simp[a3]) (v:=.slice En 0 0) (w':=w) ?_ ?_
        ·have Gu:((((a.put (I 17) (.slice En 0 0)).put (I 18) (.slice En 0 0))).put (I 19) (.int .i64 0)).eval (.tmp 17)=.slice En 0 0:=by
          rw[ku (by omega),ku (by omega),wA (by omega)]
         have Gv:((((a.put (I 17) (.slice En 0 0)).put (I 18) (.slice En 0 0))).put (I 19) (.int .i64 0)).eval (.tmp 19)=.int .i64 ((0:Nat):Int):=by
          rw[wA (by rw[rH,rH];omega)];rfl
         have:=q7y (P:=P) (w:=w) (o:=p3) a3 ht yM Gu Gv (Jr 0)
         simpa using this
        refine vn (o:=p4) rfl a4g a4d (by simp[a4]) (v:=.int .i64 (k:Int)) (w':=w) (by simp[execOp,a4,ku,e1]) ?_
        have rD:=Lib.run_append_nil_zeros w t u p5.type e i zv .i64 kk ht hu hi hz k hk0 K4 (by omega) (by
         have:k*i.bytes≤1073741824*4096:=Nat.mul_le_mul gf R9
         omega)
        refine vn (o:=p5) rfl a5g a5d (by simp[a5]) (v:=.slice (I ⟨w.heap.size,0,En⟩) k (grownCap w k 0 e)) (w':=w.drew.alloc (.cells (Builtin.zeroCells zv.cells k++Builtin.zeroCells zv.cells (grownCap w k 0 e-k)) e)) ?_ ?_
        ·generalize hA:(((((a.put (I 17) (.slice En 0 0)).put (I 18) (.slice En 0 0)).put (I 19) (.int .i64 0)).put (I 20) (.slice En 0 0)).put (I 21) (.int .i64 (k:Int)))=A
         have A4:A.eval (.tmp 20)=.slice En 0 0:=by
          rw[←hA,ku (by omega),wA (by simp only[rH];omega)]
         have Sc:A.eval (.tmp 21)=.int .i64 (k:Int):=by
          rw[←hA,wA (by simp only[rH];omega)]
         simp[execOp,a5,resolve,b5,b5a,b5t,invoke,builtin,A4,Sc,rD]
        generalize hW:w.drew.alloc (.cells (Builtin.zeroCells zv.cells k++Builtin.zeroCells zv.cells (grownCap w k 0 e-k)) e)=W
        generalize hA:(((((a.put (I 17) (.slice En 0 0)).put (I 18) (.slice En 0 0)).put (I 19) (.int .i64 0)).put (I 20) (.slice En 0 0)).put (I 21) (.int .i64 (k:Int)))=A
        have hA0:A.eval (.tmp 0)=.slice En 0 0:=by rw[←hA];simp only[ku (show(21:Nat)≠0 by omega),ku (show(20:Nat)≠0 by omega),ku (show(19:Nat)≠0 by omega),ku (show(18:Nat)≠0 by omega),ku (show(17:Nat)≠0 by omega),e0]
        have hAs:A.tmps.size=a.tmps.size:=by rw[←hA];simp only[rH]
        have hAd:A.defers=a.defers:=by rw[←hA];rfl
        generalize hcp:grownCap w k 0 e=cp
        have hcap:k≤cp:=by rw[←hcp];simpa using grownCap_ge w k 0 e
        refine vn (o:=p6) rfl a6g a6d (by simp[a6]) (v:=.slice En 0 0) (w':=W) (by simp[execOp,a6,ku,hA0]) ?_
        refine vn (o:=p7) rfl a7g a7d (by simp[a7]) (v:=.int .i64 0) (w':=W) ?_ ?_
        ·generalize hB:((A.put (I 22) (.slice (I ⟨w.heap.size,0,En⟩) k cp)).put (I 23) (.slice En 0 0))=B
         have Gw:B.eval (.tmp 23)=.slice En 0 0:=by
          rw[←hB,wA (by rw[rH];omega)]
         simp[execOp,a7,resolve,b7,b7a,b7t,invoke,builtin,Builtin.len_,run_underlying ht,Gw,goInt]
        refine vn (o:=p8) rfl a8g a8d (by simp[a8]) (v:=.slice (I ⟨w.heap.size,0,En⟩) 0 cp) (w':=W) ?_ ?_
        ·generalize hB:(((A.put (I 22) (.slice (I ⟨w.heap.size,0,En⟩) k cp)).put (I 23) (.slice En 0 0)).put (I 24) (.int .i64 0))=B
         have Gx:B.eval (.tmp 22)=.slice (I ⟨w.heap.size,0,En⟩) k cp:=by
          rw[←hB,ku (by omega),ku (by omega),wA (by omega)]
         have Gy:B.eval (.tmp 24)=.int .i64 ((0:Nat):Int):=by
          rw[←hB,wA (by simp only[rH];omega)];rfl
         have:=q7y (P:=P) (w:=W) (o:=p8) a8 ht yM Gx Gy (Nat.zero_le cp)
         rw[if_neg (by omega)]at this
         simp only[Option.map_some,add_lit,Nat.add_zero]at this
         exact this
        refine vn (o:=p9) rfl a9g a9d (by simp[a9]) (v:=.slice (I ⟨w.heap.size,0,En⟩) 0 cp) (w':=W) ?_ ?_
        ·have Sd:((((A.put (I 22) (.slice (I ⟨w.heap.size,0,En⟩) k cp)).put (I 23) (.slice En 0 0)).put (I 24) (.int .i64 0)).put (I 25) (.slice (I ⟨w.heap.size,0,En⟩) 0 cp)).eval (.tmp 25)=.slice (I ⟨w.heap.size,0,En⟩) 0 cp:=by
          rw[wA (by simp only[rH];omega)]
         simp[execOp,a9,Sd]
        -- the end
        have hxd:=Ext.drew w
        obtain⟨zs,zvr,Gz,cS,lC⟩:=uX (C:=C) iq
        have mX:zv.cells.size=i.size:=by
         have h3:zl.length=i.size:=by rw[iq]at qI;simpa using qI
         have h4:=cS.length
         have h5:zvr=zv:=by
          have:=Gz w
          simp[zeroValue,typeInfo,hi,hz]at this
          exact this.symm
         subst h5
         simp only[Array.length_toList]at h4;omega
        have hZ:=KD (d:=.slot 0) (tmps:=a.tmps) (m.ext hxd) (he.ext hxd) (Builtin.zeroCells zv.cells k++Builtin.zeroCells zv.cells (cp-k)) e [] i.size cp [] (by simpa using aI.nil) (by simp) (by simp) (by simp) (by simp) (by
         have hlen:∀n,(Builtin.zeroCells zv.cells n).size=n*i.size:=fun n=>by simp[Builtin.zeroCells,mX]
         rw[Array.size_append,hlen,hlen,←Nat.add_mul]
         exact Nat.mul_le_mul_right _ (by omega)) En
        rw[hcp]at hW
        rw[hW]at hZ
        have hd0:w.drew.heap.size=w.heap.size:=rfl
        rw[hd0]at hZ
        simp only[List.length_nil]at hZ
        clear hW hA0 Gz cS
        generalize hB:(((A.put (I 22) (.slice (I ⟨w.heap.size,0,En⟩) k cp)).put (I 23) (.slice En 0 0)).put (I 24) (.int .i64 0)).put (I 25) (.slice (I ⟨w.heap.size,0,En⟩) 0 cp)=B
        have hBs:B.tmps.size=a.tmps.size:=by rw[←hB];simp only[rH];omega
        have hBd:B.defers=a.defers:=by rw[←hB,←hAd];rfl
        obtain⟨C',ω',k1,k2,k3,k4,k5⟩:=hZ
        have lQ:dF P w0 C0 C nt ⟨[(0,.list Ge i.size [],Gb)],hp⟩ (B.put (I 0) (.slice (I ⟨w.heap.size,0,En⟩) 0 cp)) W:=by
         refine⟨by rw[rH];omega,C',ω',k1,?_,k2,?_⟩
         ·rw[show(B.put (I 0) (.slice (I ⟨w.heap.size,0,En⟩) 0 cp)).defers=B.defers from rfl,hBd]
          exact yL.mono k1
         ·intro s x hx
          simp only[ji]at hx
          cases hb:G7 0 s with
          |false=>simp[hb]at hx
          |true=>
           have:=Gd hb
           subst this
           simp only[hb,cond_true,I.injEq]at hx
           subst hx
           exact⟨_,by simp only[Act.put];rw[Array.getElem?_setIfInBounds_self_of_lt (by omega)],k4,k5⟩
        simp only[wpOpsIn]
        exact⟨trivial,lQ⟩
       ·cases pI
      ·cases pI
     ·cases pI
    ·cases hg
   ·cases hg
  ·cases hg
 ·cases hg
end
def fP (ρ:Option Nat)(P:Program)(c:Code)(Q:Exit→Act→World→Prop)(a:Act)(w:World):Prop:=
 ∀(b:Frame) (k:List Item) (cs:List Frame),b.roundOf=(jF ρ).round→(jF ρ).fn b.fn→(jF ρ).room (cs.length+1+0) →
  ∃e a' w',Q e a' w'∧ArrivesIn (Machine.fenced P (jF ρ)) P (lone (b.atR a (.code c::.inLoop c::k)) cs w) b k cs e a' w'
theorem fP.wpIn {ρ P c Q a w}(h:fP ρ P c Q a w):(Code.loop c).wpIn (jF ρ) 0 P Q a w:=by
 intro b k cs yN hb hr
 obtain⟨e,a',w',hq,fi⟩:=h b k cs yN hb hr
 exact⟨e,a',w',hq,.of_steps (.one (fenced_calm hb hr rfl) stepR_loop) fi⟩
theorem fP.wC {ρ P c Q a w}(h:c.wpIn (jF ρ) 0 P (Exit.then (fP ρ P c Q) Q) a w):fP ρ P c Q a w:=by
 intro b k cs yN hb hr
 obtain⟨e,a₁,w₁,hq,fi⟩:=h b (.inLoop c::k) cs yN hb hr
 cases e with
 |normal=>
  obtain⟨e₂,a₂,w₂,GD,wD⟩:=hq b k cs yN hb hr
  exact⟨e₂,a₂,w₂,GD,.of_steps (StepsIn.trans fi (.one (fenced_calm hb hr rfl) stepR_inLoop)) wD⟩
 |exit id=>exact⟨_,a₁,w₁,hq,.pass (x:=.inLoop c) rfl (fun _ _=>.inl (by simp)) fi⟩
 |goto l=>exact⟨_,a₁,w₁,hq,.pass (x:=.inLoop c) rfl (fun _ _=>.inl (by simp)) fi⟩
 |ret=>exact⟨_,a₁,w₁,hq,.pass (x:=.inLoop c) rfl (fun _ _=>.inl (by simp)) fi⟩
 |panic ch=>exact⟨_,a₁,w₁,hq,.pass (x:=.inLoop c) rfl (fun _ _=>.inl (by simp)) fi⟩
 |outgrown=>exact⟨_,a₁,w₁,hq,.pass (x:=.inLoop c) rfl (fun _ _=>.inl (by simp)) fi⟩
section
variable {P:Program}{p:jz}{xc:XC}
def K5 (P:Program)(w0:World)(C0 C:aM)(nt:Nat)(x:jf)(bX:aY):Exit→Act→World→Prop:=fun e a' w'=>e=AP x∧dF P w0 C0 C nt bX a' w'
def q8n (P:Program)(xc:XC):Prop:=
 ∀(ρ:Option Nat) (nt:Nat) (c:Code) (ca:aw) (st bX:aY) (x:jf),Fo P nt c ca→(ρ≠En→zz ca=Gb)→xc ca st=I (x,bX) →
  ∀(C:aM) (w0:World) (C0:aM) (a:Act) (w:World),dF P w0 C0 C nt st a w→c.wpIn (jF ρ) 0 P (K5 P w0 C0 C nt x bX) a w
theorem cJ.GF (h:q8n P xc):cJ P xc:=
 fun ρ nt c ca st bX x hc hn hx C ω w0 C0 a w m he da kP=>wpIn_mono (h ρ nt c ca st bX x hc hn hx C w0 C0 a w ⟨da,C,ω,aM.le_refl C,kP,m,he⟩) fun _ _ _ hq=>hq
def jd3 (P:Program)(xc:XC):Prop:=
 ∀(ρ:Option Nat) (nt:Nat) (c:Code) (ca:aw) (st bX:aY) (x:jf),Fo P nt c ca→(ρ≠En→zz ca=Gb)→xc (.loop ca) st=I (x,bX) →
  ∀(C:aM) (w0:World) (C0:aM) (a:Act) (w:World),dF P w0 C0 C nt st a w→fP ρ P c (K5 P w0 C0 C nt x bX) a w
theorem dF.gc {w0 C0 C nt n st a w}(h:dF P w0 C0 C nt st a w)(hC:∀b r,C.β b=I r→b<n)(Se:∀b r,C0.β b=I r→b<n):dF P w0 C0 C nt (Abs.gc n st) a w:=by
 unfold Abs.gc
 cases hb:Hd st.heap.length n with
 |true=>exact h
 |false=>
  simp only[cond_false]
  cases lI:(mP n st.env&&zn n (st.heap.take n))with
  |false=>exact h
  |true=>
   simp only[cond_true]
   simp only[Ga]at lI
   obtain⟨h1,C',ω',h3,h2,h4,h5⟩:=h
   have hn:n≤st.heap.length:=by
    rcases Nat.lt_or_ge n st.heap.length with h|h
    ·omega
    ·rw[If h]at hb;cases hb
   exact⟨h1,C'.cut n,ω',aM.iQ h3 hC,⟨h2.choose,h2.choose_spec.1,h2.choose_spec.2.1,h2.choose_spec.2.2⟩,h4.gc hn lI.2 Se,h5.cut lI.1⟩
theorem K6 {K w0 C0 C nt x bX Q e a w}(h:K5 P w0 C0 C nt x bX e a w)(hn:x=.normal→dF P w0 C0 C nt bX a w→K a w)(ho:x≠.normal→dF P w0 C0 C nt bX a w→Q (AP x) a w):Exit.then K Q e a w:=by
 obtain⟨rfl,h⟩:=h
 cases x with
 |normal=>exact hn rfl h
 |exit id=>exact ho (by simp) h
 |ret=>exact ho (by simp) h
theorem q7b {b:Frame}{a k cs w c}:step P (lone (b.atR a (.code (.scope c)::k)) cs w)=.next (lone (b.atR a (.code c::.inScope c::k)) cs w):=
 step_lone_go (by simp[stepG,stepG.exec,Frame.atR])
theorem q0u {b:Frame}{a k cs w c}:step P (lone (b.atR a (.inScope c::k)) cs w)=.next (lone (b.atR a k) cs w):=
 step_lone_go (by simp[stepG,stepG.exec,Frame.atR])
theorem qoq {F:Fence}{n c Q a w}(h:c.wpIn F n P (Exit.noGoto Q) a w):(Code.scope c).wpIn F n P Q a w:=by
 intro b k cs yN hb hr
 obtain⟨e,a₁,w₁,hq,fi⟩:=h b (.inScope c::k) cs yN hb hr
 have h1:StepsIn (Machine.fenced P F) P (lone (b.atR a (.code (.scope c)::k)) cs w) (lone (b.atR a (.code c::.inScope c::k)) cs w):=.one (fenced_calm hb hr rfl) q7b
 cases e with
 |normal=>exact⟨.normal,a₁,w₁,hq,StepsIn.trans h1 (StepsIn.trans fi (.one (fenced_calm hb hr rfl) q0u))⟩
 |goto l=>exact hq.elim
 |exit id=>
  refine⟨.exit id,a₁,w₁,hq,.of_steps h1 ?_⟩
  refine⟨fun k' hk=>fi.1 k' (by simp[exitTo,hk]),fun Sf iR=>?_⟩
  exact fi.2 Sf (by simp[exitTo,iR])
 |ret=>exact⟨_,a₁,w₁,hq,.of_steps h1 fi⟩
 |panic ch=>exact⟨_,a₁,w₁,hq,.of_steps h1 fi⟩
 |outgrown=>exact⟨_,a₁,w₁,hq,.of_steps h1 fi⟩
theorem az.Sg {C C0 ω w0 w hp}(m:az P C ω w0 C0 hp w):az P { C with D:=fun r=>C.D r∨r=w.heap.size } ω w0 C0 hp (w.alloc (.deferred (I []))):=by
 have hx:Ext w (w.alloc (.deferred (I []))):=Ext.alloc w _ (fun c t fr h=>by cases h)
 have m':=m.ext hx
 exact { m' with
  ft:=fun r hr=>by
   rcases hr with hr|hr
   ·exact m'.ft r hr
   ·subst hr;rw[wi,if_pos rfl]
  grown:=⟨m.grown.k,m.grown.b,m.grown.w,fun r h=>.inl (m.grown.d r h),m.grown.t⟩
  box:=fun b x r fp hb=>bG.imp (C:=C) (C':={ C with D:=fun r=>C.D r∨r=w.heap.size }) ⟨fun _ _ _ h=>h,fun _ _ h=>h⟩ rfl (fun _ _ _ ho=>ho) (m'.box b x r fp hb) }
theorem jfv (eK:bZ P p)(hx:cJ P xc){f ps x1 x2 f' a1 a2 h nt st bX x C w0 C0 a w}
  (hf:qv f=I f') (h1:gY P h nt x1=I a1) (h2:gY P h nt x2=I a2) (cG:∀t∈ps.toList,t<nt) (hs:mS p xc f' ps.toList a1 a2 st=I (x,bX)) (cq:dF P w0 C0 C nt st a w):
  (Code.rangeFunc f ps x1 x2).wpIn (jF En) 0 P (K5 P w0 C0 C nt x bX) a w:=by
 obtain⟨da,Ca,ω,hle,yL,m,he⟩:=cq
 unfold mS at hs
 cases K7:(zz a1&&zz a2)with
 |false=>simp[K7]at hs
 |true=>
  simp only[K7,cond_true]at hs
  simp only[Ga]at K7
  split at hs
  ·rename_i k first captured fI
   have yG:=qx he.cr hf fI
   generalize F6:a.eval f=fv at yG
   cases yG with
   |fn g g' _ _ as bs hg ha hb=>
    simp only[fG]at hg
    subst hg
    split at hs
    ·rename_i _r1 _r2 h' F4
     split at hs
     ·rename_i l' hl'
      cases jK:zn st.heap.length (h'.take st.heap.length)with
      |false=>simp[jK]at hs
      |true=>
       simp only[jK,cond_true]at hs
       ·obtain⟨lJ,ni⟩:=F3 eK hx F4
        -- the loop's record,and the block before it
        refine wpIn_rangeFunc fun fn _=>?_
        generalize hlp:({ state:=.ready,pending:=En,fn:=fn,tmps:=a.tmps,params:=ps,assign:=x1,body:=x2,defers:=w.heap.size }:Loop)=lp
        have mD:=(m.Sg).holes 1
        have eD:aq { Ca with D:=fun r=>Ca.D r∨r=w.heap.size } ω (w.alloc (.deferred (I []))) w0.heap.size st.env a.tmps:=fun s y hy=>
         let ⟨v,k1,k2,k3⟩:=he.ext (Ext.alloc w _ (fun c t fr h=>by cases h)) s y hy
         ⟨v,k1,bR.rh k2,k3⟩
        have GG:(st.heap++Qw 1 .hole)[st.heap.length]?=I .hole:=by simp
        have GH:(w.alloc (.deferred (I []))).heap.size=w.heap.size+1:=by rw[World.size_alloc]
        obtain⟨mB,eB,np⟩:=mD.aS eD GG (.loop lp) (fun c t fr h=>by cases h) (.loop ⟨st.env,ps.toList,a1,a2,En⟩) (by
         intro C' ω' w' cY KS
         subst hlp
         exact⟨_,KS,{ assign:=⟨h,by rw[da];exact h1⟩,body:=⟨h,by rw[da];exact h2⟩,params:=rfl,fits:=fun t ht=>by rw[da];exact cG t ht,nr:=K7,env:=fun s y hy=>let ⟨v,k1,k2,_⟩:=eD s y hy; ⟨v,k1,aI.mono cY k2⟩,state:=rfl,pending:=rfl }⟩)
        have bF:(st.heap++Qw 1 bh.hole).set st.heap.length (.loop ⟨st.env,ps.toList,a1,a2,En⟩)=st.heap++[.loop ⟨st.env,ps.toList,a1,a2,En⟩]:=by
         simp
        rw[bF]at mB
        rw[GH]at mB eB np
        generalize hCB:aM.box { Ca with D:=fun r=>Ca.D r∨r=w.heap.size } st.heap.length (w.heap.size+1)=CB at mB eB np
        generalize hwB:(w.alloc (.deferred (I []))).alloc (.loop lp)=wB at mB eB
        have GI:CB.β st.heap.length=I (w.heap.size+1):=by rw[←hCB];simp[aM.box]
        have hDB:∀r,Ca.D r∨r=w.heap.size→CB.D r:=fun r hr=>by rw[←hCB];exact hr
        have hKB:∀ {i:li},aI Ca i→aI CB i:=fun hr=>aI.mono np (aI.imp (C:=Ca) (C':={ Ca with D:=fun r=>Ca.D r∨r=w.heap.size }) ⟨fun _ _ _ h=>h,fun _ _ h=>h⟩ hr)
        have GJ:Ca.le CB:=⟨np.k,np.b,np.w,fun r hr=>hDB r (.inl hr),np.t⟩
        have eI:aW (CB.shared ω w0) (first++[.fn (.yield st.heap.length) [] []]++captured) (as++[Value.func (.yield (w.heap.size+1)) ⟨[]⟩ ⟨[]⟩]++bs):=by
         refine aI.imp (C:=CB) (C':=CB.shared ω w0) ⟨fun _ _ _ h=>h,fun _ _ h=>h⟩ ?_
         exact aW.append (aW.append (hKB ha) (.cons _ _ _ _ (.fn _ _ _ _ _ _ ⟨_,GI,rfl⟩ .nil .nil) .nil)) (hKB hb)
        refine⟨w.heap.size+1,[{ target:=.collected w.heap.size,args:=#[] }],wB,{ target:=.fn (.func k) ⟨bs⟩,args:=⟨as⟩++#[Value.func (.yield (w.heap.size+1)) #[] #[]] },wB,k,⟨as++[Value.func (.yield (w.heap.size+1)) ⟨[]⟩ ⟨[]⟩]++bs⟩,wB,?_,?_,fun _ _=>trivial,?_,fun hd=>by simp[jF,Fence.wide]at hd,?_⟩
        ·subst hlp
         rw[←hwB]
         simp[Instr.enterLoop,jF,Fence.wide,GH]
        ·have hc:a.eval (.const (Value.func (.yield (w.heap.size+1)) #[] #[]))=Value.func (.yield (w.heap.size+1)) #[] #[]:=rfl
         simp[resolve,F6,Deferred.ofValue,hc]
        ·have hq:(⟨as⟩:Array Value)++#[Value.func (.yield (w.heap.size+1)) #[] #[]]++(⟨bs⟩:Array Value)=⟨as++[Value.func (.yield (w.heap.size+1)) ⟨[]⟩ ⟨[]⟩]++bs⟩:=by
          apply Gr;simp
         simp only[invoke,hq]
         exact qpi lJ _ _
        ·refine qwm.2 (CallsIn.mono (ni _ _ _ _ eI (RG mB)) ?_)
         rintro ee w' ⟨u,C1,ω1,rfl,q1,q2,_,_⟩
         obtain⟨m2,e2⟩:=qsm mB eB q2 q1
         have A5:CB.le (C1.back CB):=KT q1
         have rz:(C1.back CB).β st.heap.length=I (w.heap.size+1):=A5.b _ _ GI
         obtain⟨lK,rA,vk⟩:=KW m2 hl' rz
         have hlen:st.heap.length<h'.length:=(m2.lt _ _ rz).2
         have Se:∀b r,C0.β b=I r→b<st.heap.length:=fun b r hb=>(m.lt b r (m.grown.b b r hb)).2
         have m3:=m2.gc (Nat.le_of_lt hlen) jK Se
         have AX:(Instr.getLoop (w.heap.size+1)).run P w'=.ok lK w':=by simp[Instr.getLoop,pB rA (by simp)]
         have rG:=(Hb.1 rA).1
         have hu:ng w' (ke w' (w.heap.size+1) (.loop { lK with state:=.exhausted })) (w.heap.size+1):=DF rG (by simp)
         have ln:∀cs t fr,w'.heap[w.heap.size+1]?≠I (.cells cs t fr):=fun cs t fr hh=>by rw[rA]at hh;cases hh
         have Sh:∀b,((C1.back CB).cut st.heap.length).β b≠I (w.heap.size+1):=fun b hb=>by
          simp only[aM.cut]at hb
          split at hb
          ·rename_i bw
           have:=m2.inj b st.heap.length _ hb rz
           omega
          ·cases hb
         have dq:lK.state≠.busy→(Instr.endLoop (w.heap.size+1)).run P w'=.ok lK.pending (ke w' (w.heap.size+1) (.loop { lK with state:=.exhausted })):=fun DJ=>by
          have fH:(lK.state == .busy)=Ge:=by
           cases cq:lK.state<;>first|rfl|exact absurd cq DJ
          have hs2:=yC (P:=P) (x:=.loop { lK with state:=.exhausted }) rA (by simp)
          simp only[Instr.endLoop,Sem.run_bind,AX,Result.andThen_ok,fH,Bool.false_eq_true,if_false,Sem.run_ite,hs2,Sem.run_pure]
         have m4:=m3.other (D':=((C1.back CB).cut st.heap.length).D) hu Sh (Nat.le_trans m.size (by omega)) ln (fun kk hk=>⟨hk,fun iw=>by
          have:=m3.ft kk hk
          rw[iw,rA]at this;cases this⟩) m3.grown.d
         have A6:Ca.le ((C1.back CB).cut st.heap.length):=aM.iQ (aM.le_trans GJ A5) (fun b r hb=>(m.lt b r hb).2)
         have e4:aq ((C1.back CB).cut st.heap.length) (nj ω ω1 wB.heap.size) (ke w' (w.heap.size+1) (.loop { lK with state:=.exhausted })) w0.heap.size st.env a.tmps:=by
          intro s y hy
          obtain⟨v,k1,k2,k3⟩:=he s y hy
          obtain⟨v',j1,j2,j3⟩:=e2 s y hy
          rw[k1]at j1
          cases j1
          exact⟨v,k1,aI.mono A6 k2,fun hh=>(((j3 hh).cut _).kN (D':=((C1.back CB).cut st.heap.length).D) hu ln)⟩
         have lQ:∀(xx:jf),dF P w0 C0 C nt { st with heap:=h'.take st.heap.length } { a with defers:=[{ target:=.collected w.heap.size,args:=#[] }]++a.defers } (ke w' (w.heap.size+1) (.loop { lK with state:=.exhausted })):=by
          intro _
          refine⟨da,_,_,aM.le_trans hle A6,?_,m4,e4⟩
          obtain⟨rs,g1,g2,g3⟩:=yL
          refine⟨w.heap.size::rs,by rw[g1];rfl,List.nodup_cons.2 ⟨fun hm=>?_,g2⟩,?_⟩
          ·have:=(Hb.1 (m.ft _ (g3 _ hm).1)).1;omega
          ·intro r hr
           rcases Q7.1 hr with rfl|hr
           ·exact⟨A5.d _ (hDB _ (.inr rfl)),m.size⟩
           ·exact⟨A6.d _ (g3 r hr).1,(g3 r hr).2⟩
         simp only[rangePost]
         split at hs
         ·rename_i wE
          cases hs
          refine⟨En,_,?_,rfl,lQ .normal⟩
          rw[dq (by rw[vk.state,wE];simp),vk.pending,wE]
         ·cases hs
         ·rename_i xx Rb wE
          cases hs
          cases x with
          |normal=>exact absurd rfl Rb
          |ret=>
           refine⟨I .ret,_,?_,wpIn_ret ⟨rfl,lQ .ret⟩⟩
           rw[dq (by rw[vk.state,wE];simp),vk.pending,wE]
          |exit id=>
           refine⟨I (.exit id),_,?_,wpIn_exit ⟨rfl,lQ .ret⟩⟩
           rw[dq (by rw[vk.state,wE];simp),vk.pending,wE]
     ·cases hs
    ·cases hs
  ·cases hs
theorem K8 (eK:bZ P p):∀n,q8n P (jj p n)∧jd3 P (jj p n)
 |0=>⟨fun ρ nt c ca st bX x _ _ hx=>by simp[jj]at hx,fun ρ nt c ca st bX x _ _ hx=>by simp[jj]at hx⟩
 |n+1=>by
  obtain⟨ih,ihl⟩:=K8 eK n
  have loop:jd3 P (jj p (n+1)):=by
   intro ρ nt c ca st bX x hc hn hx C w0 C0 a w cq
   obtain⟨da,C',ω',hle,kP,m,he⟩:=cq
   have hC':∀b r,C'.β b=I r→b<st.heap.length:=fun b r hb=>(m.lt b r hb).2
   refine fP.wC ?_
   simp only[jj]at hx
   split at hx
   ·rename_i iz h1
    refine wpIn_mono (ih ρ nt c ca st iz .normal hc hn h1 C' w0 C0 a w ⟨da,C',ω',aM.le_refl _,kP,m,he⟩) ?_
    intro e a' w' hq
    refine K6 hq (fun _ eR=>?_) (fun h=>absurd rfl h)
    have h2:=eR.gc hC' (fun b r hb=>hC' b r (m.grown.2 b r hb))
    have h3:=ihl ρ nt c ca _ bX x hc hn hx C' w0 C0 a' w' h2
    intro b k cs yN hb hr
    obtain⟨e,a',w',hq,fi⟩:=h3 b k cs yN hb hr
    obtain⟨q1,q2,C2,ω2,q4,q5⟩:=hq
    exact⟨e,a',w',⟨q1,q2,C2,ω2,aM.le_trans hle q4,q5⟩,fi⟩
   ·rename_i bI
    refine wpIn_mono (ih ρ nt c ca st bX x hc hn hx C w0 C0 a w ⟨da,C',ω',hle,kP,m,he⟩) ?_
    intro e a' w' hq
    refine K6 hq (fun DU eR=>?_) (fun DU eR=>⟨rfl,eR⟩)
    subst DU
    exact absurd hx (bI bX)
  refine⟨?_,loop⟩
  intro ρ nt c ca st bX x hc hn hx C w0 C0 a w cq
  obtain⟨h,dR⟩:=hc
  cases c with
  |skip=>
   simp only[gY,I.injEq]at dR
   subst dR
   simp only[jj,I.injEq,He.injEq]at hx
   obtain⟨rfl,rfl⟩:=hx
   exact wpIn_skip ⟨rfl,cq⟩
  |label l=>
   simp only[gY,I.injEq]at dR
   subst dR
   simp only[jj,I.injEq,He.injEq]at hx
   obtain⟨rfl,rfl⟩:=hx
   exact wpIn_label ⟨rfl,cq⟩
  |region id ops draw=>
   simp only[gY]at dR
   have dR:(draw=Ge∧∃sz,Kr P nt ops=I sz∧ca=.grow sz)∨Fl P h nt id ops draw=I ca:=by
    split at dR
    ·rename_i sz Si;cases dR;exact .inl ⟨rfl,sz,Si,rfl⟩
    ·exact .inr dR
   rcases dR with⟨rfl,sz,Si,rfl⟩|dR
   ·simp only[jj]at hx
    split at hx
    ·rename_i z xs o1 k o2 e0 e1
     cases iw:(Me 0 k&&Hd k 1073741824)with
     |false=>simp[iw]at hx
     |true=>
      simp only[iw,cond_true,I.injEq,He.injEq]at hx
      obtain⟨rfl,rfl⟩:=hx
      simp only[Ga]at iw
      obtain⟨da,C',ω',hle,kP,m,he⟩:=cq
      refine wpIn_mono (jqh Si m he da kP e0 e1 (Nat.blt_eq.mp iw.1) (Nat.le_of_ble_eq_true iw.2)) ?_
      rintro e a' w' ⟨rfl,q1,C2,ω2,q4,q5⟩
      exact⟨rfl,q1,C2,ω2,aM.le_trans hle q4,q5⟩
    ·cases hx
   have GK:∃na l keep,ca=.region na l keep:=by
    unfold Fl at dR
    split at dR
    ·split at dR
     ·simp only[I.injEq]at dR;exact⟨_,_,_,dR.symm⟩
     ·cases dR
    ·cases dR
   obtain⟨na,l,keep,eC⟩:=GK
   subst eC
   simp only[jj]at hx
   obtain⟨da,C',ω',hle,kP,m,he⟩:=cq
   refine wpIn_mono (jd4 eK (cJ.GF ih) dR rfl hx m he da kP) ?_
   rintro e a' w' ⟨q1,q2,C2,ω2,q4,q5⟩
   exact⟨q1,q2,C2,ω2,aM.le_trans hle q4,q5⟩
  |seq c1 c2=>
   simp only[gY]at dR
   split at dR
   ·rename_i x1 x2 h1 h2
    cases dR
    have DV:ρ≠En→zz x1=Gb∧zz x2=Gb:=fun hh=>by simpa[zz]using hn hh
    simp only[jj]at hx
    refine wpIn_seq ?_
    split at hx
    ·rename_i iz yF
     refine wpIn_mono (ih ρ nt c1 x1 st iz .normal ⟨h,h1⟩ (fun hh=>(DV hh).1) yF C w0 C0 a w cq) ?_
     intro e a' w' hq
     exact K6 hq (fun _ eR=>ih ρ nt c2 x2 iz bX x ⟨h,h2⟩ (fun hh=>(DV hh).2) hx C w0 C0 a' w' eR) (fun hh=>absurd rfl hh)
    ·rename_i bI
     refine wpIn_mono (ih ρ nt c1 x1 st bX x ⟨h,h1⟩ (fun hh=>(DV hh).1) hx C w0 C0 a w cq) ?_
     intro e a' w' hq
     refine K6 hq (fun DU eR=>?_) (fun DU eR=>⟨rfl,eR⟩)
     subst DU
     exact absurd hx (bI bX)
   ·cases dR
  |cond c c1 c2=>
   simp only[gY]at dR
   split at dR
   ·rename_i c' x1 x2 h0 h1 h2
    cases dR
    have DV:ρ≠En→zz x1=Gb∧zz x2=Gb:=fun hh=>by simpa[zz]using hn hh
    simp only[jj]at hx
    split at hx
    ·rename_i t ht
     have iy:=cq
     obtain⟨da,C',ω',hle,kP,m,he⟩:=cq
     have fI:=(qx he.cr h0 ht).dy
     refine wpIn_cond fI ?_
     cases t with
     |true=>simp only[cond_true]at hx;exact ih ρ nt c1 x1 st bX x ⟨h,h1⟩ (fun hh=>(DV hh).1) hx C w0 C0 a w iy
     |false=>simp only[cond_false]at hx;exact ih ρ nt c2 x2 st bX x ⟨h,h2⟩ (fun hh=>(DV hh).2) hx C w0 C0 a w iy
    ·cases hx
   ·cases dR
  |block id b=>
   simp only[gY]at dR
   obtain⟨b',hb,rfl⟩:=G9.1 dR
   simp only[jj]at hx
   refine wpIn_block ?_
   split at hx
   ·rename_i fS iz yF
    refine wpIn_mono (ih ρ nt b b' st iz (.exit fS) ⟨h,hb⟩ (fun hh=>by simpa[zz]using hn hh) yF C w0 C0 a w cq) ?_
    rintro e a' w' ⟨rfl,eR⟩
    cases hid:G7 fS id with
    |true=>
     simp only[hid,cond_true,I.injEq,He.injEq]at hx
     obtain⟨rfl,rfl⟩:=hx
     have:=Gd hid
     subst this
     simp only[AP,Exit.inBlock,if_true]
     exact⟨rfl,eR⟩
    |false=>
     simp only[hid,cond_false,I.injEq,He.injEq]at hx
     obtain⟨rfl,rfl⟩:=hx
     have bI:¬fS=id:=fun hh=>by subst hh;simp at hid
     simp only[AP,Exit.inBlock,bI,if_false]
     exact⟨rfl,eR⟩
   ·rename_i bI
    refine wpIn_mono (ih ρ nt b b' st bX x ⟨h,hb⟩ (fun hh=>by simpa[zz]using hn hh) hx C w0 C0 a w cq) ?_
    rintro e a' w' ⟨rfl,eR⟩
    cases x with
    |normal=>exact⟨rfl,eR⟩
    |ret=>exact⟨rfl,eR⟩
    |exit fS=>exact absurd hx (bI fS bX)
  |loop b=>
   simp only[gY]at dR
   obtain⟨b',hb,rfl⟩:=G9.1 dR
   exact(loop ρ nt b b' st bX x ⟨h,hb⟩ (fun hh=>by simpa[zz]using hn hh) hx C w0 C0 a w cq).wpIn
  |scope b=>
   simp only[gY]at dR
   obtain⟨b',hb,rfl⟩:=G9.1 dR
   have fp:jj p n b' st=I (x,bX):=by
    simp only[jj]at hx
    split at hx
    ·rename_i iz yF
     cases n with
     |zero=>simp[jj]at yF
     |succ n=>simp only[jj]at hx;rw[yF];exact hx
    ·exact hx
   refine qoq (wpIn_mono (ih ρ nt b b' st bX x ⟨h,hb⟩ (fun hh=>by simpa[zz]using hn hh) fp C w0 C0 a w cq) ?_)
   rintro e a' w' ⟨rfl,eR⟩
   cases x with
   |normal=>exact⟨rfl,eR⟩
   |exit id=>exact⟨rfl,eR⟩
   |ret=>exact⟨rfl,eR⟩
  |rangeFunc f ps x1 x2=>
   simp only[gY]at dR
   split at dR
   ·split at dR
    ·rename_i cG
     cases dR
     simp only[jj]at hx
     cases ρ with
     |some l=>exact absurd (hn (by simp)) (by simp[zz])
     |none=>exact jfv eK (cJ.GF ih) (by assumption) (by assumption) (by assumption) (fun t ht=>by simpa using(Array.all_eq_true'.1 cG) t (by simpa using ht)) hx cq
    ·cases dR
   ·cases dR
  |exit id=>
   simp only[gY,I.injEq]at dR
   subst dR
   simp only[jj,I.injEq,He.injEq]at hx
   obtain⟨rfl,rfl⟩:=hx
   exact wpIn_exit ⟨rfl,cq⟩
  |ret=>
   simp only[gY,I.injEq]at dR
   subst dR
   simp only[jj,I.injEq,He.injEq]at hx
   obtain⟨rfl,rfl⟩:=hx
   exact wpIn_ret ⟨rfl,cq⟩
  |_=>
   simp only[gY,I.injEq]at dR
   subst dR
   simp[jj]at hx
theorem q7q (eK:bZ P p){n k args v ow}(h:qc p (jj p n) k args=I (v,ow))(hb:qy 0 args=Gb):IsoCall P k args v ow:=
 (KQ eK (cJ.GF (K8 eK n).1) h hb).2.2
end
def yj {α:Type}(n:Nat)(f:Nat→α):α:=match n with
 |0=>f 0
 |m+1=>f (Nat.succ m)
def Sj {α:Type}(n:Int)(f:Int→α):α:=match n with
 | .ofNat a=>yj a fun a=>f (.ofNat a)
 | .negSucc a=>yj a fun a=>f (.negSucc a)
def GL {α:Type}(b:Bool)(f:Bool→α):α:=match b with
 |true=>f Gb
 |false=>f Ge
def qzn {α:Type}(k:IntKind)(f:IntKind→α):α:=match k with
 | .i8=>f .i8 | .i16=>f .i16 | .i32=>f .i32 | .i64=>f .i64 | .u8=>f .u8 | .u16=>f .u16 | .u32=>f .u32 | .u64=>f .u64
def GM {α:Type}:List UInt8→(List UInt8→α)→α
 | [],f=>f []
 |c::s,f=>GM s fun s=>f (c::s)
def Sk {α:Type}(g:Fn)(f:Fn→α):α:=match g with
 | .func k=>yj k fun k=>f (.func k)
 | .yield k=>yj k fun k=>f (.yield k)
 |g=>f g
mutual
def kl {α:Type}:AVal→(AVal→α)→α
 | .bool b,f=>GL b fun b=>f (.bool b)
 | .int k n,f=>qzn k fun k=>Sj n fun n=>f (.int k n)
 | .str s,f=>GM s fun s=>f (.str s)
 | .list b sz xs,f=>GL b fun b=>yj sz fun sz=>wF xs fun xs=>f (.list b sz xs)
 | .ms b o l,f=>yj b fun b=>yj o fun o=>yj l fun l=>f (.ms b o l)
 | .ptr b o,f=>yj b fun b=>yj o fun o=>f (.ptr b o)
 | .ai v,f=>kl v fun v=>f (.ai v)
 | .db n,f=>yj n fun n=>f (.db n)
 | .b8,f=>f .b8
 | .map b,f=>yj b fun b=>f (.map b)
 | .b4,f=>f .b4
 | .fn g a c,f=>Sk g fun g=>wF a fun a=>wF c fun c=>f (.fn g a c)
 | .cx,f=>f .cx
 | .agg cs,f=>wF cs fun cs=>f (.agg cs)
 | .aJ cs,f=>wF cs fun cs=>f (.aJ cs)
 | .undef,f=>f .undef
 | .any,f=>f .any
 | .aj b bL len,f=>yj b fun b=>yj bL fun bL=>yj len fun len=>f (.aj b bL len)
 | .dE b bL off,f=>yj b fun b=>yj bL fun bL=>yj off fun off=>f (.dE b bL off)
def wF {α:Type}:List AVal→(List AVal→α)→α
 | [],f=>f []
 |x::xs,f=>kl x fun x=>wF xs fun xs=>f (x::xs)
end
def GN {α:Type}:Env→(Env→α)→α
 | [],f=>f []
 |(t,v,o)::e,f=>yj t fun t=>kl v fun v=>GL o fun o=>GN e fun e=>f ((t,v,o)::e)
def K9 {α:Type}:List (AVal×Bool)→(List (AVal×Bool)→α)→α
 | [],f=>f []
 |(v,o)::e,f=>kl v fun v=>GL o fun o=>K9 e fun e=>f ((v,o)::e)
def La {α:Type}:List (AVal×AVal)→(List (AVal×AVal)→α)→α
 | [],f=>f []
 |(k,v)::e,f=>kl k fun k=>kl v fun v=>La e fun e=>f ((k,v)::e)
def Sl {α:Type}(x:Option jf)(f:Option jf→α):α:=match x with
 |none=>f En
 |some .normal=>f (I .normal)
 |some (.exit id)=>yj id fun id=>f (I (.exit id))
 |some .ret=>f (I .ret)
def Sm {α:Type}:bh→(bh→α)→α
 | .hole,f=>f .hole
 | .cells cs,f=>K9 cs fun cs=>f (.cells cs)
 | .map es,f=>La es fun es=>f (.map es)
 | .iter s pos,f=>yj pos fun pos=>f (.iter s pos)
 | .fX t e l,f=>GM l fun l=>f (.fX t e l)
 | .dead,f=>f .dead
 -- (what a vector holds was forced when it was appended)
 | .vec sz bL xs,f=>yj sz fun sz=>yj bL fun bL=>f (.vec sz bL xs)
 | .loop l,f=>GN l.env fun e=>Sl l.pending fun x=>f (.loop ⟨e,l.params,l.assign,l.body,x⟩)
def Lb {α:Type}:qi→(qi→α)→α
 | [],f=>f []
 |b::h,f=>Sm b fun b=>Lb h fun h=>f (b::h)
def GO {α:Type}(st:aY)(f:aY→α):α:=GN st.env fun e=>Lb st.heap fun h=>f ⟨e,h⟩
section
variable {α:Type}
theorem pJ (n:Nat)(f:Nat→α):yj n f=f n:=by cases n<;>rfl
theorem q67 (n:Int)(f:Int→α):Sj n f=f n:=by cases n<;>simp[Sj,pJ]
theorem Lc (n:Bool)(f:Bool→α):GL n f=f n:=by cases n<;>rfl
theorem q6b (n:IntKind)(f:IntKind→α):qzn n f=f n:=by cases n<;>rfl
theorem Sn:∀ (s:List UInt8) (f:List UInt8→α),GM s f=f s
 | [],_=>rfl
 |c::s,f=>by simp only[GM];rw[Sn s]
theorem jak (g:Fn)(f:Fn→α):Sk g f=f g:=by cases g<;>simp[Sk,pJ]
mutual
theorem GQ:∀ (v:AVal) (f:AVal→α),kl v f=f v
 | .bool b,f=>by simp only[kl,Lc]
 | .int k n,f=>by simp only[kl,q6b,q67]
 | .str s,f=>by simp only[kl,Sn]
 | .list b sz xs,f=>by simp only[kl,Lc,pJ];rw[A7 xs]
 | .ms b o l,f=>by simp only[kl,pJ]
 | .ptr b o,f=>by simp only[kl,pJ]
 | .ai v,f=>by simp only[kl];rw[GQ v]
 | .db n,f=>by simp only[kl,pJ]
 | .b8,f=>by simp only[kl]
 | .map b,f=>by simp only[kl,pJ]
 | .b4,f=>by simp only[kl]
 | .fn g a c,f=>by simp only[kl,jak];rw[A7 a,A7 c]
 | .cx,f=>by simp only[kl]
 | .agg cs,f=>by simp only[kl];rw[A7 cs]
 | .aJ cs,f=>by simp only[kl];rw[A7 cs]
 | .undef,f=>by simp only[kl]
 | .any,f=>by simp only[kl]
 | .aj b bL len,f=>by simp only[kl,pJ]
 | .dE b bL off,f=>by simp only[kl,pJ]
theorem A7:∀ (l:List AVal) (f:List AVal→α),wF l f=f l
 | [],f=>by simp only[wF]
 |x::xs,f=>by simp only[wF];rw[GQ x,A7 xs]
end
theorem So:∀ (e:Env) (f:Env→α),GN e f=f e
 | [],_=>rfl
 |(t,v,o)::e,f=>by simp only[GN,pJ,GQ,Lc];rw[So e]
theorem qog:∀ (e:List (AVal×Bool)) (f:List (AVal×Bool)→α),K9 e f=f e
 | [],_=>rfl
 |(v,o)::e,f=>by simp only[K9,GQ,Lc];rw[qog e]
theorem qkg:∀ (e:List (AVal×AVal)) (f:List (AVal×AVal)→α),La e f=f e
 | [],_=>rfl
 |(v,o)::e,f=>by simp only[La,GQ];rw[qkg e]
theorem q3k (x:Option jf)(f:Option jf→α):Sl x f=f x:=by
 cases x with
 |none=>rfl
 |some x=>cases x<;>simp[Sl,pJ]
theorem q6j (b:bh)(f:bh→α):Sm b f=f b:=by
 cases b<;>simp[Sm,qog,qkg,pJ,Sn,So,q3k,A7]
theorem qo9:∀ (h:qi) (f:qi→α),Lb h f=f h
 | [],_=>rfl
 |b::h,f=>by simp only[Lb,q6j];rw[qo9 h]
theorem Sp (st:aY)(f:aY→α):GO st f=f st:=by simp only[GO,So,qo9]
end
def iM (p:jz):Nat→XC
 |0,_,_=>En
 |n+1,c,st=>match c with
  | .skip=>I (.normal,st)
  | .region na ops keep=>match mR p (iM p n) na ops keep st with
   |some (x,bX)=>GO bX fun s=>I (x,s)
   |none=>En
  | .seq a b=>match iM p n a st with
   |some (.normal,bX)=>iM p n b bX
   |r=>r
  | .cond c a b=>match qh st.env c with
   |some (.bool t)=>bif t then iM p n a st else iM p n b st
   |_=>En
  | .block id body=>match iM p n body st with
   |some (.exit fS,bX)=>bif G7 fS id then I (.normal,bX)else I (.exit fS,bX)
   |r=>r
  | .loop body=>match iM p n body st with
   |some (.normal,bX)=>GO (gc st.heap.length bX) fun s=>iM p n (.loop body) s
   |r=>r
  | .rangeFunc f params assign body=>match mS p (iM p n) f params assign body st with
   |some (x,bX)=>GO bX fun s=>I (x,s)
   |none=>En
  | .exit id=>I (.exit id,st)
  | .ret=>I (.ret,st)
  | .grow sz=>match ji 0 st.env,ji 1 st.env with
   |some (.list Gb _ _,_),I (.int .i64 (.ofNat m),_)=>bif Me 0 m&&Hd m 1073741824 then I (.normal,{ st with env:=[(0,.list Ge sz [],Gb)] })else En
   |_,_=>En
  | .stuck=>En
theorem Ld (p:jz):∀n,iM p n=jj p n
 |0=>by funext c st;rfl
 |n+1=>by
  have ih:=Ld p n
  funext c st
  cases c with
  |region na ops keep=>
   simp only[iM,jj,ih]
   cases mR p (jj p n) na ops keep st with
   |none=>rfl
   |some r=>simp only[Sp]
  |rangeFunc f ps a b=>
   simp only[iM,jj,ih]
   cases mS p (jj p n) f ps a b st with
   |none=>rfl
   |some r=>simp only[Sp]
  |loop body=>
   simp only[iM,jj,ih,Sp]
   rfl
  |_=>simp only[iM,jj,ih]<;>rfl
inductive dI where
 |leaf (k:Nat) (f:ax)
 |node (m:Nat) (a b:dI)
def dI.find:dI→Nat→Option ax
 | .leaf k f,n=>bif G7 k n then I f else En
 | .node m a b,n=>bif Me n m then a.find n else b.find n
def dI.All (Q:Nat→ax→Prop):dI→Prop
 | .leaf k f=>Q k f
 | .node _ a b=>a.All Q∧b.All Q
theorem dI.gp {Q}:∀ {t:dI} {k:Nat} {f:ax},t.All Q→t.find k=I f→Q k f
 | .leaf j g,k,f,h,hf=>by
  simp only[dI.find]at hf
  cases hb:G7 j k with
  |false=>simp[hb]at hf
  |true=>
   have:=Gd hb
   subst this
   simp only[hb,cond_true,I.injEq]at hf
   subst hf;exact h
 | .node m a b,k,f,h,hf=>by
  simp only[dI.find]at hf
  cases hb:Me k m with
  |true=>simp only[hb,cond_true]at hf;exact dI.gp h.1 hf
  |false=>simp only[hb,cond_false]at hf;exact dI.gp h.2 hf
def dI.prog (t:dI)(cN:xQ)(maps:Qr:=fun _=>En):jz:={ bO:=t.find,cN:=cN,maps:=maps }
theorem jfp {p n k args r}(h:qc p (iM p n) k args=r):qc p (jj p n) k args=r:=by
 rw[←Ld];exact h
def Kw (w:World):Nat→Nat→Option Value:=fun r o=>(w.cell? ⟨r,o,En⟩).filter (·.oneCell')
theorem jzt {w r o v}(h:w.cell? ⟨r,o,En⟩=I v)(h1:v.oneCell'=Gb):Kw w r o=I v:=by simp[Kw,h,h1]
theorem q7l {w r o v}(h:Kw w r o=I v):w.cell? ⟨r,o,En⟩=I v∧v.oneCell'=Gb:=by
 unfold Kw at h;rw[Option.filter_eq_some_iff]at h;exact h
def qfu (P:Program)(t:TypeId):Bool:=match P.underlying t with
 |some (.struct _)=>Gb
 |some (.array _ _)=>Gb
 |_=>Ge
def Le (P:Program):Nat→List Field→Bool
 |_,[]=>Gb
 |o,f::fs=>f.offset == o&&Le P (o+P.cellsOf f.type) fs
def Lf (P:Program)(fs:List Field):Nat:=(fs.map fun f=>P.cellsOf f.type).sum
def rJ (P:Program):Nat→TypeId→Bool
 |0,_=>Ge
 |n+1,t=>match P.underlying t with
  |some .bool=>P.cellsOf t == 1
  |some (.int _)=>P.cellsOf t == 1
  |some .string=>P.cellsOf t == 1
  |some (.slice e)=>P.cellsOf t == 1&&rJ P n e&&decide (0<P.cellsOf e)
  |some (.struct fs)=>Le P 0 fs.toList&&Lf P fs.toList == P.cellsOf t&&fs.toList.all fun f=>rJ P n f.type
  |some (.array k e)=>P.cellsOf t == k*P.cellsOf e&&rJ P n e
  |_=>Ge
def GR (ty:TypeId→List AVal→Prop):List Field→List AVal→Prop
 | [],cs=>cs=[]
 |f::fs,cs=>∃ys zs,cs=ys++zs∧ty f.type ys∧GR ty fs zs
def GU (ty:List AVal→Prop):Nat→List AVal→Prop
 |0,cs=>cs=[]
 |k+1,cs=>∃ys zs,cs=ys++zs∧ty ys∧GU ty k zs
def yv (P:Program):Nat→TypeId→List AVal→Prop
 |0,_,_=>False
 |n+1,t,cs=>match P.underlying t with
  |some .bool=>∃b,cs=[.bool b]
  |some (.int k)=>∃m,cs=[.int k m]∧(Lit.int k m).wf=Gb
  |some .string=>∃s,cs=[.str s]∧s.length≤maxLen
  |some (.slice e)=>cs=[.list Gb 0 []]∨∃xs,cs=[.list Ge (P.cellsOf e) xs]∧xs.length≤maxLen∧∀y∈xs,yv P n e y.flat∧y.isAgg=qfu P e
  |some (.struct fs)=>GR (yv P n) fs.toList cs
  |some (.array k e)=>GU (yv P n e) k cs
  |_=>False
section
variable {P:Program}{H:Type}{enc:TypeId×Value→H}{w:World}
theorem qzt:∀ (fs:List Field) (o:Nat) (vs:List Value),Le P o fs=Gb→vs.length=o+Lf P fs→vs.drop o=(fs.map fun f=>(vs.drop f.offset).take (P.cellsOf f.type)).flatten
 | [],o,vs,_,hl=>by simp[Lf]at hl;simp[hl]
 |f::fs,o,vs,ht,hl=>by
  simp only[Le,Ga,beq_iff_eq]at ht
  obtain⟨rfl,ht⟩:=ht
  have ih:=qzt fs _ vs ht (by simp[Lf]at hl ⊢;omega)
  rw[Q9,Jk,←ih,←Q6,List.take_append_drop]
theorem DW {α β:Type}{f}:∀ {l:List α} {ys:List β},l.mapM f=I ys→ys.length=l.length∧∀(i:Nat) (x:α),l[i]?=I x→∃y,ys[i]?=I y∧f x=I y
 | [],ys,h=>by simp at h;subst h;simp
 |a::l,ys,h=>by
  rw[List.mapM_cons]at h
  cases hf:f a with
  |none=>simp[hf]at h
  |some y=>
   cases hr:l.mapM f with
   |none=>simp[hf,hr]at h
   |some zs=>
    simp[hf,hr]at h
    subst h
    obtain⟨h1,h2⟩:=DW hr
    refine⟨by simp[h1],fun i x hx=>?_⟩
    cases i with
    |zero=>simp at hx;subst hx;exact⟨y,rfl,hf⟩
    |succ i=>simp at hx;obtain⟨z,h3,h4⟩:=h2 i x hx;exact⟨z,by simpa using h3,h4⟩
theorem q47 {base n a vs}(h:w.cells? base a n=I vs):vs.length=n∧∀(i:Nat) (v:Value),vs[i]?=I v→w.cell? (a.add i)=I v:=by
 unfold World.cells? at h
 split at h
 ·obtain⟨h1,h2⟩:=DW h
  rw[Jp]at h1
  refine⟨h1,fun i v hv=>?_⟩
  have hi:i<n:=by rw[←h1];exact(Hc.1 hv).1
  obtain⟨y,h3,h4⟩:=h2 i i (by rw[Gh hi])
  rw[hv]at h3;cases h3;exact h4
 ·cases h
theorem qup {ty:TypeId→List AVal→Prop}:∀(fs:List Field) (nq:List (List Value)),nq.length=fs.length→(∀(i:Nat) (f:Field) (vs:List Value),fs[i]?=I f→nq[i]?=I vs→∃cs,aW (.bY (Kw w)) cs vs∧ty f.type cs)→∃cs,aW (.bY (Kw w)) cs nq.flatten∧GR ty fs cs
 | [],nq,hl,_=>by
  have:nq=[]:=G8.1 (by simpa using hl)
  subst this
  exact⟨[],.nil,rfl⟩
 |f::fs,[],hl,_=>by simp at hl
 |f::fs,vs::nq,hl,h=>by
  obtain⟨ys,h1,h2⟩:=h 0 f vs rfl rfl
  obtain⟨zs,h3,h4⟩:=qup fs nq (by simpa using hl) (fun i f' qW hf hv=>h (i+1) f' qW (by simpa using hf) (by simpa using hv))
  exact⟨ys++zs,aW.append h1 h3,ys,zs,rfl,h2,h4⟩
theorem qsa {ty}:∀(k:Nat) (nq:List (List Value)),nq.length=k→(∀(i:Nat) vs,nq[i]?=I vs→∃cs,aW (.bY (Kw w)) cs vs∧ty cs)→∃cs,aW (.bY (Kw w)) cs nq.flatten∧GU ty k cs
 |0,nq,hl,_=>by
  have:nq=[]:=G8.1 hl
  subst this
  exact⟨[],.nil,rfl⟩
 |k+1,[],hl,_=>by simp at hl
 |k+1,vs::nq,hl,h=>by
  obtain⟨ys,h1,h2⟩:=h 0 vs rfl
  obtain⟨zs,h3,h4⟩:=qsa k nq (by simpa using hl) (fun i qW hv=>h (i+1) qW (by simpa using hv))
  exact⟨ys++zs,aW.append h1 h3,ys,zs,rfl,h2,h4⟩
theorem q8g (n:Nat):∀(k:Nat) (vs:List Value),vs.length=k*n→vs=((Gn k).map fun i=>(vs.drop (i*n)).take n).flatten
 |0,vs,hl=>by
  have:vs=[]:=G8.1 (by simpa using hl)
  simp[this]
 |k+1,vs,hl=>by
  have ih:=q8g n k (vs.drop n) (by simp[hl,Ix])
  rw[List.range_succ_eq_map,Q9,Jk,List.map_map]
  have e:(Gn k).map ((fun i=>(vs.drop (i*n)).take n) ∘ Nat.succ)=(Gn k).map fun i=>((vs.drop n).drop (i*n)).take n:=by
   apply List.map_congr_left
   intro i _
   simp only[Function.comp,Q6]
   congr 2
   rw[Ix];omega
  rw[e,←ih]
  simp
theorem Sr:∀ {n:Nat} {t:TypeId} {cs:List AVal},yv P n t cs→∀x∈cs,qk x=Gb
 |0,_,_,h=>h.elim
 |n+1,t,cs,h=>by
  have fsc:∀(fs:List Field) (cs:List AVal),GR (yv P n) fs cs→∀x∈cs,qk x=Gb:=by
   intro fs
   induction fs with
   |nil=>intro cs h;simp only[GR]at h;subst h;simp
   |cons f fs ih=>
    rintro cs ⟨ys,zs,rfl,h1,h2⟩ x hx
    rcases Nz.1 hx with hx|hx
    ·exact Sr h1 x hx
    ·exact ih _ h2 x hx
  have rsc:∀(e:TypeId) (k:Nat) (cs:List AVal),GU (yv P n e) k cs→∀x∈cs,qk x=Gb:=by
   intro e k
   induction k with
   |zero=>intro cs h;simp only[GU]at h;subst h;simp
   |succ k ih=>
    rintro cs ⟨ys,zs,rfl,h1,h2⟩ x hx
    rcases Nz.1 hx with hx|hx
    ·exact Sr h1 x hx
    ·exact ih _ h2 x hx
  simp only[yv]at h
  split at h
  ·obtain⟨b,rfl⟩:=h;simp[qk]
  ·obtain⟨m,rfl,_⟩:=h;simp[qk]
  ·obtain⟨s,rfl,_⟩:=h;simp[qk]
  ·rcases h with rfl|⟨xs,rfl,_⟩<;>simp[qk]
  ·exact fsc _ _ h
  ·exact rsc _ _ _ h
  ·exact h.elim
theorem qxp {n}{t:TypeId}{cs}(h:yv P n t cs)(ha:qfu P t=Ge):∃x,cs=[x]∧x.isAgg=Ge:=by
 cases n with
 |zero=>exact h.elim
 |succ n=>
  unfold qfu at ha
  simp only[yv]at h
  split at h
  ·obtain⟨b,rfl⟩:=h;exact⟨_,rfl,rfl⟩
  ·obtain⟨m,rfl,_⟩:=h;exact⟨_,rfl,rfl⟩
  ·obtain⟨s,rfl,_⟩:=h;exact⟨_,rfl,rfl⟩
  ·rcases h with rfl|⟨xs,rfl,_⟩<;>exact⟨_,rfl,rfl⟩
  ·rename_i hu;rw[hu]at ha;cases ha
  ·rename_i hu;rw[hu]at ha;cases ha
  ·exact h.elim
theorem read {held}:∀(n fuel:Nat) (t:TypeId) (vs:List Value) (d:DataW H) (ps:List MemPlace),rJ P n t=Gb→DataW.trod enc P w 0 (fun _=>Gb) held fuel t vs=I (d,ps) →
  ∃cs,aW (.bY (Kw w)) cs vs∧yv P n t cs∧cs.length=P.cellsOf t
 |0,_,_,_,_,_,hp,_=>by simp[rJ]at hp
 |n+1,0,_,_,_,_,_,h=>by simp[DataW.trod]at h
 |n+1,fuel+1,t,vs,d,ps,hp,h=>by
  simp only[rJ]at hp
  simp only[yv]
  simp only[DataW.trod]at h
  cases hu:P.underlying t with
  |none=>simp[hu]at hp
  |some td=>
   rw[hu]at h hp
   cases td with
   |bool=>
    simp only[beq_iff_eq]at hp
    split at h<;>first|cases ‹I _=I _› | skip
    all_goals first|(rename_i heq;cases heq;done)|skip
    ·exact⟨_,.cons _ _ _ _ (.bool _) .nil,⟨_,rfl⟩,by simp[hp]⟩
    ·cases h
   |int k=>
    simp only[beq_iff_eq]at hp
    split at h<;>first|cases ‹I _=I _› | skip
    all_goals first|(rename_i heq;cases heq;done)|skip
    ·split at h
     ·rename_i hk
      obtain⟨rfl,dA⟩:=hk
      exact⟨_,.cons _ _ _ _ (.int _ _) .nil,⟨_,rfl,dA⟩,by simp[hp]⟩
     ·cases h
    ·cases h
   |string=>
    simp only[beq_iff_eq]at hp
    split at h<;>first|cases ‹I _=I _› | skip
    all_goals first|(rename_i heq;cases heq;done)|skip
    ·rename_i s
     split at h
     ·rename_i hk
      refine⟨[.str s.data.toList],.cons _ _ _ _ (aI.str s.data.toList) .nil,⟨_,rfl,?_⟩,by simp[hp]⟩
      simpa using hk
     ·cases h
    ·cases h
   |slice e=>
    simp only[Ga,beq_iff_eq,decide_eq_true_eq]at hp
    obtain⟨⟨jX,Lg⟩,hp3⟩:=hp
    split at h<;>first|cases ‹I _=I _› | skip
    all_goals first|(rename_i heq;cases heq;done)|skip
    ·exact⟨_,.cons _ _ _ _ (.jI 0) .nil,.inl rfl,by simp[jX]⟩
    ·rename_i a len cap
     split at h
     ·rename_i hk
      obtain⟨_,dA,hk3⟩:=hk
      cases he:(Gn len).mapM (fun i=>(w.cells? 0 (a.add (i*P.cellsOf e)) (P.cellsOf e)).bind (DataW.trod enc P w 0 (fun _=>Gb) held fuel e))with
      |none=>simp[he]at h
      |some elems=>
       simp only[he,Ny,if_true]at h
       cases hr:(Gn (cap-len)).mapM (fun j=>(w.cells? 0 (a.add ((len+j)*P.cellsOf e)) (P.cellsOf e)).bind (DataW.trod enc P w 0 (fun _=>Gb) held fuel e))with
       |none=>simp[hr]at h
       |some rest=>
        obtain⟨he1,KU⟩:=DW he
        obtain⟨wv,rz⟩:=DW hr
        rw[Jp]at he1 wv
        have GV:0<cap→a.spot=En:=fun hc=>by
         have pK:∃z,(w.cells? 0 (a.add (0*P.cellsOf e)) (P.cellsOf e)).bind (DataW.trod enc P w 0 (fun _=>Gb) held fuel e)=I z:=by
          by_cases hl:0<len
          ·obtain⟨y,_,hy⟩:=KU 0 0 (by rw[Gh hl]);exact⟨y,hy⟩
          ·obtain⟨y,_,hy⟩:=rz 0 0 (by rw[Gh (by omega)])
           have Fv:len=0:=by omega
           subst Fv
           exact⟨y,by simpa using hy⟩
         obtain⟨z0,pK⟩:=pK
         cases Lh:w.cells? 0 (a.add (0*P.cellsOf e)) (P.cellsOf e)with
         |none=>rw[Lh]at pK;cases pK
         |some us0=>
          obtain⟨d1,d2⟩:=q47 Lh
          have dR:=d2 0 _ (List.getElem?_eq_getElem (show 0<us0.length by omega))
          have:=World.cell?_spot dR
          simpa[Addr.add]using this
        by_cases hcap:0<cap
        ·have K4:=GV hcap
         obtain⟨r,o,sp⟩:=a
         simp only at K4
         subst K4
         have elem:∀(i:Nat),i<len→∃y:AVal,cz (.bY (Kw w)) r y.flat (o+i*P.cellsOf e)∧y.flat.length=P.cellsOf e∧yv P n e y.flat∧y.isAgg=qfu P e:=by
          intro i hi
          obtain⟨z,_,hz⟩:=KU i i (by rw[Gh hi])
          cases hc:w.cells? 0 ((⟨r,o,En⟩:Addr).add (i*P.cellsOf e)) (P.cellsOf e)with
          |none=>simp[hc]at hz
          |some us=>
           simp only[hc,Ny]at hz
           obtain⟨c1,c2⟩:=q47 hc
           obtain⟨cs,k1,k2,k3⟩:=read n fuel e us z.1 z.2 Lg hz
           have df:=Ax k1 (Sr k2)
           have hcs:cz (.bY (Kw w)) r cs (o+i*P.cellsOf e):=cz.iG k1 fun j v hj=>by
            have h1:=c2 j v hj
            rw[add_lit,add_lit]at h1
            exact jzt h1 (df v (Ha hj))
           cases dm:qfu P e with
           |true=>exact⟨.agg cs,hcs,k3,k2,rfl⟩
           |false=>
            obtain⟨x,rfl,hx⟩:=qxp k2 dm
            have hf:x.flat=[x]:=qa5 hx
            exact⟨x,by rw[hf];exact hcs,by rw[hf];exact k3,by rw[hf];exact k2,hx⟩
         have rows:∀(m:Nat) (q:Nat),q+m=len→∃ys:List AVal,ys.length=m∧bz (.bY (Kw w)) r (P.cellsOf e) ys (o+q*P.cellsOf e)∧∀y∈ys,yv P n e y.flat∧y.isAgg=qfu P e:=by
          intro m
          induction m with
          |zero=>intro q _;exact⟨[],rfl,.fN _ _ _,by simp⟩
          |succ m ih=>
           intro q hq
           obtain⟨ys,y1,y2,y3⟩:=ih (q+1) (by omega)
           obtain⟨y,z1,z2,z3⟩:=elem q (by omega)
           refine⟨y::ys,by simp[y1],.dH _ _ _ _ _ z2 z1 ?_,?_⟩
           ·rw[show o+q*P.cellsOf e+P.cellsOf e=o+(q+1)*P.cellsOf e from by rw[Ix];omega];exact y2
           ·intro x hx
            rcases Q7.1 hx with rfl|hx
            ·exact z3
            ·exact y3 x hx
         obtain⟨ys,y1,y2,y3⟩:=rows len 0 (by omega)
         rw[Nat.zero_mul,Nat.add_zero]at y2
         subst y1
         exact⟨_,.cons _ _ _ _ (.list (P.cellsOf e) ys r o cap dA y2) .nil,.inr ⟨ys,rfl,by omega,y3⟩,by simp[jX]⟩
        ·have Lh:cap=0:=by omega
         have Fv:len=0:=by omega
         subst Lh;subst Fv
         by_cases mg:a.spot=En
         ·obtain⟨r,o,sp⟩:=a
          simp only at mg
          subst mg
          exact⟨_,.cons _ _ _ _ (.list (P.cellsOf e) [] r o 0 (by simp) (.fN _ _ _)) .nil,.inr ⟨[],rfl,by simp,by simp⟩,by simp[jX]⟩
         ·exact⟨_,.cons _ _ _ _ (.jJ (P.cellsOf e) a mg) .nil,.inr ⟨[],rfl,by simp,by simp⟩,by simp[jX]⟩
     ·cases h
    ·cases h
   |struct fs=>
    simp only[Ga,beq_iff_eq,List.all_eq_true]at hp
    obtain⟨⟨jX,Lg⟩,hp3⟩:=hp
    change (if vs.length=P.cellsOf t then(fs.toList.mapM fun f=>DataW.trod enc P w 0 (fun _=>Gb) held fuel f.type ((vs.drop f.offset).take (P.cellsOf f.type))).map fun xs=>(DataW.agg (xs.map (·.1)),xs.flatMap (·.2))else En)=I (d,ps)at h
    ·split at h
     ·rename_i hl
      cases hm:fs.toList.mapM (fun f=>DataW.trod enc P w 0 (fun _=>Gb) held fuel f.type ((vs.drop f.offset).take (P.cellsOf f.type)))with
      |none=>simp[hm]at h
      |some zs=>
       obtain⟨m1,m2⟩:=DW hm
       have A8:=qzt fs.toList 0 vs jX (by omega)
       obtain⟨cs,k1,k2⟩:=qup (w:=w) (ty:=yv P n) fs.toList (fs.toList.map fun f=>(vs.drop f.offset).take (P.cellsOf f.type)) (by simp) (fun i f us hf hv=>by
        obtain⟨z,_,hz⟩:=m2 i f hf
        have gZ:us=(vs.drop f.offset).take (P.cellsOf f.type):=by
         rw[Jq,hf]at hv
         simpa using hv.symm
        subst gZ
        obtain⟨cs,q1,q2,_⟩:=read n fuel f.type _ z.1 z.2 (hp3 f (Ha hf)) hz
        exact⟨cs,q1,q2⟩)
       rw[←A8]at k1
       exact⟨cs,by simpa using k1,k2,by have:=k1.length;simp at this;omega⟩
     ·cases h
   |array k e=>
    simp only[Ga,beq_iff_eq]at hp
    obtain⟨jX,Lg⟩:=hp
    change (if vs.length=P.cellsOf t then((Gn k).mapM fun i=>DataW.trod enc P w 0 (fun _=>Gb) held fuel e ((vs.drop (i*P.cellsOf e)).take (P.cellsOf e))).map fun xs=>(DataW.agg (xs.map (·.1)),xs.flatMap (·.2))else En)=I (d,ps)at h
    ·split at h
     ·rename_i hl
      cases hm:(Gn k).mapM (fun i=>DataW.trod enc P w 0 (fun _=>Gb) held fuel e ((vs.drop (i*P.cellsOf e)).take (P.cellsOf e)))with
      |none=>simp[hm]at h
      |some zs=>
       obtain⟨m1,m2⟩:=DW hm
       have A8:=q8g (P.cellsOf e) k vs (by omega)
       obtain⟨cs,k1,k2⟩:=qsa (w:=w) (ty:=yv P n e) k ((Gn k).map fun i=>(vs.drop (i*P.cellsOf e)).take (P.cellsOf e)) (by simp) (fun i us hv=>by
        have hi:i<k:=by
         have:=(Hc.1 hv).1
         simpa using this
        obtain⟨z,_,hz⟩:=m2 i i (by rw[Gh hi])
        have gZ:us=(vs.drop (i*P.cellsOf e)).take (P.cellsOf e):=by
         rw[Jq,Gh hi]at hv
         simpa using hv.symm
        subst gZ
        obtain⟨cs,q1,q2,_⟩:=read n fuel e _ z.1 z.2 Lg hz
        exact⟨cs,q1,q2⟩)
       rw[←A8]at k1
       exact⟨cs,k1,k2,by have:=k1.length;omega⟩
     ·cases h
   |_=>simp at hp
end
open Go.ChangeShapes Go.WideShapes Go.ChangeAt Go.RowKit
section
variable {P:Program}{H:Type}{enc:TypeId×Value→H}{w:World}
def jfh (P:Program)(n:Nat)(t:TypeId)(x:AVal):Prop:=yv P n t x.flat∧x.isAgg=qfu P t
def qn9 (P:Program)(n:Nat):List TypeId→List AVal→Prop
 | [],xs=>xs=[]
 |t::ts,xs=>∃y ys,xs=y::ys∧jfh P n t y∧qn9 P n ts ys
theorem jon {n}{t:TypeId}{v d ps base}(hp:rJ P n t=Gb)(hv:Value.okWide P w .any base t v)(h:DataW.Trod enc P w 0 (fun _=>Gb) Gb t v d ps):∃x,bR (.bY (Kw w)) x v∧jfh P n t x:=by
 obtain⟨fuel,hf⟩:=h
 obtain⟨cs,k1,k2,k3⟩:=read n fuel t _ d ps hp hf
 cases dm:qfu P t with
 |true=>
  have F7:∃cells,v=.agg cells:=by
   unfold qfu at dm
   unfold Value.okWide at hv
   split at dm
   ·rename_i fs hu;rw[hu]at hv;obtain⟨c,hc,_⟩:=hv;exact⟨c,hc⟩
   ·rename_i a b hu;rw[hu]at hv;obtain⟨c,hc,_⟩:=hv;exact⟨c,hc⟩
   ·cases dm
  obtain⟨cells,rfl⟩:=F7
  exact⟨.agg cs,.agg cs cells.toList k1,k2,dm.symm⟩
 |false=>
  obtain⟨x,rfl,hx⟩:=qxp k2 dm
  have F7:v.cells.toList=[v]:=by
   cases v with
   |agg c=>
    exfalso
    unfold Value.okWide at hv
    unfold qfu at dm
    cases n with
    |zero=>simp[rJ]at hp
    |succ n=>
     simp only[rJ]at hp
     cases hu:P.underlying t with
     |none=>rw[hu]at hp;cases hp
     |some td=>rw[hu]at hp hv dm;cases td<;>first|(simp at hp;done)|(simp at dm;done)|(simp[Cell.okWide,hu,Cell.ok]at hv;done)
   |_=>rfl
  rw[F7]at k1
  cases k1 with
  |cons _ _ _ _ h1 _=>exact⟨x,h1,by rw[qa5 hx];exact k2,by rw[hx,dm]⟩
theorem q8e {n}:∀ {ts:List TypeId} {vs:List Value} {ds:List (DataW H)} {ps:List MemPlace},ts.all (rJ P n)=Gb→(∀(j:Nat) t v,ts[j]?=I t→vs[j]?=I v→∃base,Value.okWide P w .any base t v)→DataW.TrodAll enc P w 0 (fun _=>Gb) Gb ts vs ds ps →
  ds.length=ts.length∧∃xs,aW (.bY (Kw w)) xs vs∧qn9 P n ts xs
 | [],[],[],ps,_,_,_=>⟨rfl,[],.nil,rfl⟩
 | [],[],_::_,ps,_,_,h=>by simp[DataW.TrodAll]at h
 | [],_::_,_,ps,_,_,h=>by simp[DataW.TrodAll]at h
 |_::_,[],_,ps,_,_,h=>by simp[DataW.TrodAll]at h
 |_::_,_::_,[],ps,_,_,h=>by simp[DataW.TrodAll]at h
 |t::ts,v::vs,d::ds,ps,hp,hv,h=>by
  obtain⟨p,q,h1,h2,_⟩:=h
  simp only[Ra,Ga]at hp
  obtain⟨base,hb⟩:=hv 0 t v rfl rfl
  obtain⟨x,k1,k2⟩:=jon hp.1 hb h1
  obtain⟨hl,xs,k3,k4⟩:=q8e hp.2 (fun j t' v' ht pG=>hv (j+1) t' v' (by simpa using ht) (by simpa using pG)) h2
  exact⟨by simp[hl],x::xs,.cons _ _ _ _ k1 k3,x,xs,rfl,k2,k4⟩
theorem Ext.frame {w'}(h:Ext w w')(may:MemPlace→Prop):w.keptBut w' may:=by
 refine⟨h.os,h.output,fun i hi=>?_⟩
 rw[h.same i hi]
 split<;>simp_all
theorem Ext.sameAt {w'}(h:Ext w w'){p}(hp:p.block<w.heap.size):w.sameAt w' p:=by
 cases p with
 |cell b o=>exact World.cell?_of_block (w:=w) (h.same b hp)
 |map b=>exact h.same b hp
theorem q2t {w'}(hx:Ext w w')(hl:laidOutB P=Gb):∀ {ts:List TypeId} {vs:List Value} {ds:List (DataW H)} {ps:List MemPlace},ts.all (fun t=>P.readableRec t&&decide (t<P.types.size))=Gb→DataW.TrodAll enc P w 0 (fun _=>Gb) Gb ts vs ds ps →
  DataW.TrodAll enc P w' 0 (fun b=>decide (b<w.heap.size)) Gb ts vs ds ps
 | [],[],[],ps,_,h=>h
 | [],[],_::_,ps,_,h=>by simp[DataW.TrodAll]at h
 | [],_::_,_,ps,_,h=>by simp[DataW.TrodAll]at h
 |_::_,[],_,ps,_,h=>by simp[DataW.TrodAll]at h
 |_::_,_::_,[],ps,_,h=>by simp[DataW.TrodAll]at h
 |t::ts,v::vs,d::ds,ps,hr,h=>by
  obtain⟨p,q,h1,h2,h3⟩:=h
  simp only[Ra,Ga,decide_eq_true_eq]at hr
  have bw:∀x∈p,x.block<w.heap.size:=by obtain⟨m,hm⟩:=h1;exact DataW.trod_lt m _ _ _ hm
  exact⟨p,q,WideElems.Trod_stays hl hr.1.1 hr.1.2 h1 (fun x hm=>hx.sameAt (bw x hm)) (fun x hm=>by simpa using bw x hm),q2t hx hl hr.2 h2,h3⟩
end
def oO (f g:XC):Prop:=∀c st r,f c st=I r→g c st=I r
section
variable {p:jz}{f g:XC}
theorem q0i (h:oO f g){af args hp r}(hr:py f af args hp=I r):py g af args hp=I r:=by
 unfold py at *
 cases hb:Hd args.length af.ntmps with
 |false=>simp[hb]at hr
 |true=>
  simp only[hb,cond_true]at hr ⊢
  split at hr
  ·rename_i st cq;rw[h _ _ _ cq];exact hr
  ·rename_i st cq;rw[h _ _ _ cq];exact hr
  ·cases hr
theorem Ss (h:oO f g){k args hp r}(hr:qo p f k args hp=I r):qo p g k args hp=I r:=by
 unfold qo at *
 split at hr
 ·exact q0i h hr
 ·exact hr
theorem Sv (h:oO f g){k args r}(hr:qc p f k args=I r):qc p g k args=I r:=by
 unfold qc at *
 split at hr
 ·exact hr
 ·split at hr
  ·rename_i v o hh hc;rw[Ss h hc];exact hr
  ·cases hr
theorem q5s (h:oO f g){b args hp r}(hr:kD f b args hp=I r):kD g b args hp=I r:=by
 unfold kD at *
 split at hr
 ·split at hr
  ·split at hr
   ·rename_i st cq
    rw[h _ _ _ cq]
    simp only[]
    split at hr
    ·rename_i l1 hH
     cases jX:l1.pending.isNone with
     |false=>simp[jX]at hr
     |true=>
      simp only[jX,cond_true]at hr ⊢
      split at hr
      ·rename_i x bX iy
       rw[h _ _ _ iy]
       exact hr
      ·cases hr
    ·cases hr
   ·cases hr
  ·cases hr
 ·cases hr
theorem q0j (h:oO f g){h0 e hp md x l r}(hr:yx p f h0 e hp md x l=I r):yx p g h0 e hp md x l=I r:=by
 unfold yx at *
 split at hr
 ·cases md with
  |bY=>
   simp only[]at hr ⊢
   rename_i k first captured vs _ _
   cases hb:qy 0 (first++vs++captured)with
   |false=>rw[hb]at hr;cases hr
   |true=>
    rw[hb]at hr
    simp only[cond_true]at hr ⊢
    split at hr
    ·rename_i v o hc;rw[Sv h hc];exact hr
    ·cases hr
  |red=>
   simp only[]at hr ⊢
   split at hr
   ·rename_i us hf
    cases hb:qy 0 us with
    |false=>rw[hb]at hr;cases hr
    |true=>
     rw[hb]at hr
     simp only[cond_true]at hr ⊢
     split at hr
     ·rename_i v o hc;rw[Sv h hc];exact hr
     ·cases hr
   ·cases hr
  |fL _=>
   simp only[]at hr ⊢
   rename_i k first captured vs _ _ _
   cases he:(first++vs++captured).isEmpty with
   |true=>rw[he]at hr;exact hr
   |false=>
    rw[he]at hr
    simp only[cond_false]at hr ⊢
    cases hb:qy 0 (first++vs++captured)with
    |false=>rw[hb]at hr;cases hr
    |true=>
     rw[hb]at hr
     simp only[cond_true]at hr ⊢
     split at hr
     ·rename_i v o hc;rw[Sv h hc];exact hr
     ·cases hr
  |shr=>
   simp only[]at hr ⊢
   split at hr
   ·rename_i v o hh hc;rw[Ss h hc];exact hr
   ·cases hr
 ·cases md with
  |shr=>
   simp only[]at hr ⊢
   split at hr
   ·rename_i v hh hc;rw[q5s h hc];exact hr
   ·cases hr
  |_=>simp at hr
 ·cases hr
theorem q6u (h:oO f g){h0 al e hp op r}(hr:qf p f h0 al e hp op=I r):qf p g h0 al e hp op=I r:=by
 cases op with
 |call md x l=>exact q0j h hr
 |append rk sz b x y=>cases rk<;>exact hr
 |cu rk sz b z n c=>cases rk<;>exact hr
 |_=>exact hr
theorem qol (h:oO f g){h0 o st bX}(hr:y5 p f h0 o st=I bX):y5 p g h0 o st=I bX:=by
 unfold y5 at *
 split at hr
 ·split at hr
  ·rename_i r hs;rw[q6u h hs];exact hr
  ·cases hr
 ·exact hr
 ·cases hr
theorem Sw (h:oO f g){h0}:∀ {l:List b9} {st bX:aY},fZ p f h0 l st=I bX→fZ p g h0 l st=I bX
 | [],_,_,hr=>hr
 |o::l,st,bX,hr=>by
  simp only[fZ]at hr ⊢
  split at hr
  ·rename_i s1 h1;rw[qol h h1];exact Sw h hr
  ·cases hr
theorem qp0 (h:oO f g){na l k st r}(hr:mR p f na l k st=I r):mR p g na l k st=I r:=by
 unfold mR at *
 split at hr
 ·rename_i s1 h1;rw[Sw h h1];exact hr
 ·cases hr
theorem qsd (h:oO f g){x ps a b st r}(hr:mS p f x ps a b st=I r):mS p g x ps a b st=I r:=by
 unfold mS at *
 cases hn:(zz a&&zz b)with
 |false=>simp[hn]at hr
 |true=>
  simp only[hn,cond_true]at hr ⊢
  split at hr
  ·split at hr
   ·rename_i v o hh hc;rw[Ss h hc];exact hr
   ·cases hr
  ·cases hr
end
theorem qvt (p:jz):∀n,oO (jj p n) (jj p (n+1))
 |0=>fun c st r h=>by simp[jj]at h
 |n+1=>by
  have ih:=qvt p n
  intro c st r h
  cases c with
  |region na l k=>simp only[jj]at h ⊢;exact qp0 ih h
  |rangeFunc f ps a b=>simp only[jj]at h ⊢;exact qsd ih h
  |seq a b=>
   rw[jj]at h ⊢
   split at h
   ·rename_i iz h1
    rw[ih _ _ _ h1];exact ih _ _ _ h
   ·rename_i bI
    rw[ih _ _ _ h]
    split
    ·rename_i iz h1;cases h1;exact absurd h (bI _)
    ·rfl
  |cond c a b=>
   rw[jj]at h ⊢
   split at h
   ·rename_i t ht
    cases t
    ·simp only[cond_false]at h ⊢;exact ih _ _ _ h
    ·simp only[cond_true]at h ⊢;exact ih _ _ _ h
   ·cases h
  |block id b=>
   rw[jj]at h ⊢
   split at h
   ·rename_i fS iz h1
    rw[ih _ _ _ h1];exact h
   ·rename_i bI
    rw[ih _ _ _ h]
    split
    ·rename_i fS iz h1;cases h1;exact absurd h (bI _ _)
    ·rfl
  |loop b=>
   rw[jj]at h ⊢
   split at h
   ·rename_i iz h1
    rw[ih _ _ _ h1];exact ih _ _ _ h
   ·rename_i bI
    rw[ih _ _ _ h]
    split
    ·rename_i iz h1;cases h1;exact absurd h (bI _)
    ·rfl
  |_=>exact h
theorem vo (p:jz){n m}(h:n≤m):oO (jj p n) (jj p m):=by
 induction h with
 |refl=>exact fun _ _ _ h=>h
 |step _ ih=>exact fun c st r hr=>qvt p _ c st r (ih c st r hr)
open Classical in
noncomputable def X (p:jz):XC:=fun c st=>if h:∃r n,jj p n c st=I r then I (Classical.choose h)else En
theorem y7 {p c st r}:X p c st=I r↔∃n,jj p n c st=I r:=by
 unfold X
 constructor
 ·intro h
  split at h
  ·rename_i hh
   cases h
   exact Classical.choose_spec hh
  ·cases h
 ·rintro ⟨n,hn⟩
  have hh:∃r n,jj p n c st=I r:=⟨r,n,hn⟩
  rw[dif_pos hh]
  obtain⟨m,hm⟩:=Classical.choose_spec hh
  have h1:=vo p (Gs n m) _ _ _ hn
  have h2:=vo p (Gq n m) _ _ _ hm
  rw[h1]at h2
  exact h2.symm
theorem pL {p}(n:Nat):oO (jj p n) (X p):=fun _ _ _ h=>y7.2 ⟨n,h⟩
section
variable {p:jz}
theorem q52 {af args hp r}(hr:py (X p) af args hp=I r):∃n,py (jj p n) af args hp=I r:=by
 have hr0:=hr
 unfold py at hr
 cases hb:Hd args.length af.ntmps with
 |false=>simp[hb]at hr
 |true=>
  simp only[hb,cond_true]at hr
  have key:∀ {r'},X p af.body ⟨oF 0 args,hp⟩=I r'→∃n,py (jj p n) af args hp=I r:=by
   intro r' h
   obtain⟨n,hn⟩:=y7.1 h
   refine⟨n,?_⟩
   unfold py
   rw[hb,hn]
   rw[h]at hr
   exact hr
  split at hr
  ·rename_i st cq;exact key cq
  ·rename_i st cq;exact key cq
  ·cases hr
theorem Sx {k args hp r}(hr:qo p (X p) k args hp=I r):∃n,qo p (jj p n) k args hp=I r:=by
 unfold qo at *
 cases h:p.bO k with
 |none=>rw[h]at hr;exact⟨0,hr⟩
 |some f=>rw[h]at hr;exact q52 hr
theorem Li {k args r}(hr:qc p (X p) k args=I r):∃n,qc p (jj p n) k args=I r:=by
 unfold qc at *
 cases h:p.cN k with
 |some f=>rw[h]at hr;exact⟨0,hr⟩
 |none=>
  rw[h]at hr
  simp only[]at hr ⊢
  split at hr
  ·rename_i v o hh hc
   obtain⟨n,hn⟩:=Sx hc
   exact⟨n,by rw[hn];exact hr⟩
  ·cases hr
theorem q6h {b args hp r}(hr:kD (X p) b args hp=I r):∃n,kD (jj p n) b args hp=I r:=by
 unfold kD at hr
 split at hr
 ·rename_i l hl
  split at hr
  ·rename_i e wE hse
   split at hr
   ·rename_i st cq
    split at hr
    ·rename_i l1 hH
     cases jX:l1.pending.isNone with
     |false=>simp[jX]at hr
     |true=>
      simp only[jX,cond_true]at hr
      split at hr
      ·rename_i x bX iy
       obtain⟨n,hn⟩:=y7.1 cq
       obtain⟨m,hm⟩:=y7.1 iy
       refine⟨max n m,?_⟩
       have h1:=vo p (Gs n m) _ _ _ hn
       have h2:=vo p (Gq n m) _ _ _ hm
       simp only[kD,hl,wE,hse,h1,hH,jX,cond_true,h2]
       exact hr
      ·cases hr
    ·cases hr
   ·cases hr
  ·cases hr
 ·cases hr
theorem q3x {h0 e hp md x l r}(hr:yx p (X p) h0 e hp md x l=I r):∃n,yx p (jj p n) h0 e hp md x l=I r:=by
 unfold yx at hr
 split at hr
 ·rename_i k first captured vs e1 e2
  cases md with
  |bY=>
   simp only[]at hr
   cases hb:qy 0 (first++vs++captured)with
   |false=>rw[hb]at hr;cases hr
   |true=>
    rw[hb]at hr
    simp only[cond_true]at hr
    split at hr
    ·rename_i v o hc
     obtain⟨n,hn⟩:=Li hc
     refine⟨n,?_⟩
     simp only[yx,e1,e2,hn]
     rw[hb]
     exact hr
    ·cases hr
  |red=>
   simp only[]at hr
   split at hr
   ·rename_i us hf
    cases hb:qy 0 us with
    |false=>rw[hb]at hr;cases hr
    |true=>
     rw[hb]at hr
     simp only[cond_true]at hr
     split at hr
     ·rename_i v o hc
      obtain⟨n,hn⟩:=Li hc
      refine⟨n,?_⟩
      simp only[yx,e1,e2,hf,hn]
      rw[hb]
      exact hr
     ·cases hr
   ·cases hr
  |fL _=>
   simp only[]at hr
   cases he:(first++vs++captured).isEmpty with
   |true=>exact⟨0,by simp only[yx,e1,e2,he];rw[he]at hr;exact hr⟩
   |false=>
    rw[he]at hr
    simp only[cond_false]at hr
    cases hb:qy 0 (first++vs++captured)with
    |false=>rw[hb]at hr;cases hr
    |true=>
     rw[hb]at hr
     simp only[cond_true]at hr
     split at hr
     ·rename_i v o hc
      obtain⟨n,hn⟩:=Li hc
      refine⟨n,?_⟩
      simp only[yx,e1,e2,hn]
      rw[he,hb]
      exact hr
     ·cases hr
  |shr=>
   simp only[]at hr
   split at hr
   ·rename_i v o hh hc
    obtain⟨n,hn⟩:=Sx hc
    refine⟨n,?_⟩
    simp only[yx,e1,e2,hn]
    exact hr
   ·cases hr
 ·rename_i b vs e1 e2
  cases md with
  |shr=>
   simp only[]at hr
   split at hr
   ·rename_i v hh hc
    obtain⟨n,hn⟩:=q6h hc
    refine⟨n,?_⟩
    simp only[yx,e1,e2,hn]
    exact hr
   ·cases hr
  |_=>simp at hr
 ·cases hr
theorem jaj {h0 al e hp op r}(hr:qf p (X p) h0 al e hp op=I r):∃n,qf p (jj p n) h0 al e hp op=I r:=by
 cases op with
 |call md x l=>exact q3x hr
 |append rk sz b x y=>cases rk<;>exact⟨0,hr⟩
 |cu rk sz b z n c=>cases rk<;>exact⟨0,hr⟩
 |_=>exact⟨0,hr⟩
theorem q59 {h0 o st bX}(hr:y5 p (X p) h0 o st=I bX):∃n,y5 p (jj p n) h0 o st=I bX:=by
 unfold y5 at *
 cases hg:mQ st.env o.guard with
 |none=>simp[hg]at hr
 |some b=>
  rw[hg]at hr
  cases b with
  |false=>exact⟨0,hr⟩
  |true=>
   simp only[]at hr ⊢
   split at hr
   ·rename_i r hs
    obtain⟨n,hn⟩:=jaj hs
    exact⟨n,by rw[hn];exact hr⟩
   ·cases hr
theorem q29 {h0}:∀ {l:List b9} {st bX:aY},fZ p (X p) h0 l st=I bX→∃n,fZ p (jj p n) h0 l st=I bX
 | [],_,_,hr=>⟨0,hr⟩
 |o::l,st,bX,hr=>by
  simp only[fZ]at hr
  split at hr
  ·rename_i s1 h1
   obtain⟨n,hn⟩:=q59 h1
   obtain⟨m,hm⟩:=q29 hr
   refine⟨max n m,?_⟩
   simp only[fZ]
   rw[qol (vo p (Gs n m)) hn]
   exact Sw (vo p (Gq n m)) hm
  ·cases hr
theorem q66 {na l k st r}(hr:mR p (X p) na l k st=I r):∃n,mR p (jj p n) na l k st=I r:=by
 unfold mR at hr
 split at hr
 ·rename_i s1 h1
  obtain⟨n,hn⟩:=q29 h1
  exact⟨n,by unfold mR;rw[hn];exact hr⟩
 ·cases hr
theorem q97 {x ps a b st r}(hr:mS p (X p) x ps a b st=I r):∃n,mS p (jj p n) x ps a b st=I r:=by
 unfold mS at hr
 cases hn:(zz a&&zz b)with
 |false=>simp[hn]at hr
 |true=>
  simp only[hn,cond_true]at hr
  split at hr
  ·rename_i k first captured fI
   split at hr
   ·rename_i v o hh hc
    obtain⟨n,jE⟩:=Sx hc
    refine⟨n,?_⟩
    unfold mS
    rw[hn,fI]
    simp only[cond_true]
    rw[jE]
    exact hr
   ·cases hr
  ·cases hr
theorem Ba {α:Type}{x y:Option α}(h1:∀r,x=I r→y=I r)(h2:∀r,y=I r→x=I r):x=y:=by
 cases x with
 |none=>
  cases y with
  |none=>rfl
  |some r=>exact(h2 r rfl)
 |some r=>exact(h1 r rfl).symm
theorem jx2 {st}:X p .skip st=I (.normal,st):=y7.2 ⟨1,rfl⟩
theorem jud {id st}:X p (.exit id) st=I (.exit id,st):=y7.2 ⟨1,rfl⟩
theorem j7a {st}:X p .ret st=I (.ret,st):=y7.2 ⟨1,rfl⟩
theorem jlx {na:Nat}{l:List b9}{k st}:X p (.region na l k) st=mR p (X p) na l k st:=by
 refine Ba (fun r h=>?_) (fun r h=>?_)
 ·obtain⟨n,hn⟩:=y7.1 h
  cases n with
  |zero=>simp[jj]at hn
  |succ n=>simp only[jj]at hn;exact qp0 (pL n) hn
 ·obtain⟨n,hn⟩:=q66 h
  exact y7.2 ⟨n+1,by simp only[jj];exact hn⟩
theorem Sy {x:js}{ps:List Nat}{a b st}:X p (.rangeFunc x ps a b) st=mS p (X p) x ps a b st:=by
 refine Ba (fun r h=>?_) (fun r h=>?_)
 ·obtain⟨n,hn⟩:=y7.1 h
  cases n with
  |zero=>simp[jj]at hn
  |succ n=>simp only[jj]at hn;exact qsd (pL n) hn
 ·obtain⟨n,hn⟩:=q97 h
  exact y7.2 ⟨n+1,by simp only[jj];exact hn⟩
theorem j8j {a b:aw}{st:aY}:X p (.seq a b) st=match X p a st with
  |some (.normal,bX)=>X p b bX
  |r=>r:=by
 refine Ba (fun r h=>?_) (fun r h=>?_)
 ·obtain⟨n,hn⟩:=y7.1 h
  cases n with
  |zero=>simp[jj]at hn
  |succ n=>
   rw[jj]at hn
   split at hn
   ·rename_i iz h1;rw[pL n _ _ _ h1];exact pL n _ _ _ hn
   ·rename_i bI
    rw[pL n _ _ _ hn]
    split
    ·rename_i iz h1;cases h1;exact absurd hn (bI _)
    ·rfl
 ·split at h
  ·rename_i iz h1
   obtain⟨n,hn⟩:=y7.1 h1
   obtain⟨m,hm⟩:=y7.1 h
   refine y7.2 ⟨max n m+1,?_⟩
   rw[jj,vo p (Gs n m) _ _ _ hn]
   exact vo p (Gq n m) _ _ _ hm
  ·rename_i bI
   obtain⟨n,hn⟩:=y7.1 h
   refine y7.2 ⟨n+1,?_⟩
   rw[jj,hn]
   split
   ·rename_i iz h1;cases h1;exact absurd h (bI _)
   ·rfl
theorem jwb {c:js}{a b:aw}{st}:X p (.cond c a b) st=match qh st.env c with
  |some (.bool t)=>bif t then X p a st else X p b st
  |_=>En:=by
 refine Ba (fun r h=>?_) (fun r h=>?_)
 ·obtain⟨n,hn⟩:=y7.1 h
  cases n with
  |zero=>simp[jj]at hn
  |succ n=>
   rw[jj]at hn
   split at hn
   ·rename_i t ht
    rw[ht]
    cases t
    ·simp only[cond_false]at hn ⊢;exact pL n _ _ _ hn
    ·simp only[cond_true]at hn ⊢;exact pL n _ _ _ hn
   ·cases hn
 ·split at h
  ·rename_i t ht
   cases t
   ·simp only[cond_false]at h
    obtain⟨n,hn⟩:=y7.1 h
    exact y7.2 ⟨n+1,by rw[jj,ht];exact hn⟩
   ·simp only[cond_true]at h
    obtain⟨n,hn⟩:=y7.1 h
    exact y7.2 ⟨n+1,by rw[jj,ht];exact hn⟩
  ·cases h
theorem jp8 {id:Nat}{b:aw}{st}:X p (.block id b) st=match X p b st with
  |some (.exit fS,bX)=>bif G7 fS id then I (.normal,bX)else I (.exit fS,bX)
  |r=>r:=by
 refine Ba (fun r h=>?_) (fun r h=>?_)
 ·obtain⟨n,hn⟩:=y7.1 h
  cases n with
  |zero=>simp[jj]at hn
  |succ n=>
   rw[jj]at hn
   split at hn
   ·rename_i fS iz h1;rw[pL n _ _ _ h1];exact hn
   ·rename_i bI
    rw[pL n _ _ _ hn]
    split
    ·rename_i fS iz h1;cases h1;exact absurd hn (bI _ _)
    ·rfl
 ·split at h
  ·rename_i fS iz h1
   obtain⟨n,hn⟩:=y7.1 h1
   exact y7.2 ⟨n+1,by rw[jj,hn];exact h⟩
  ·rename_i bI
   obtain⟨n,hn⟩:=y7.1 h
   refine y7.2 ⟨n+1,?_⟩
   rw[jj,hn]
   split
   ·rename_i fS iz h1;cases h1;exact absurd h (bI _ _)
   ·rfl
theorem jtm {b:aw}{st:aY}:X p (.loop b) st=match X p b st with
  |some (.normal,bX)=>X p (.loop b) (gc st.heap.length bX)
  |r=>r:=by
 refine Ba (fun r h=>?_) (fun r h=>?_)
 ·obtain⟨n,hn⟩:=y7.1 h
  cases n with
  |zero=>simp[jj]at hn
  |succ n=>
   rw[jj]at hn
   split at hn
   ·rename_i iz h1;rw[pL n _ _ _ h1];exact pL n _ _ _ hn
   ·rename_i bI
    rw[pL n _ _ _ hn]
    split
    ·rename_i iz h1;cases h1;exact absurd hn (bI _)
    ·rfl
 ·split at h
  ·rename_i iz h1
   obtain⟨n,hn⟩:=y7.1 h1
   obtain⟨m,hm⟩:=y7.1 h
   refine y7.2 ⟨max n m+1,?_⟩
   rw[jj,vo p (Gs n m) _ _ _ hn]
   exact vo p (Gq n m) _ _ _ hm
  ·rename_i bI
   obtain⟨n,hn⟩:=y7.1 h
   refine y7.2 ⟨n+1,?_⟩
   rw[jj,hn]
   split
   ·rename_i iz h1;cases h1;exact absurd h (bI _)
   ·rfl
theorem jxi {sz:Nat}{st:aY}:X p (.grow sz) st=match ji 0 st.env,ji 1 st.env with
   |some (.list Gb _ _,_),I (.int .i64 (.ofNat m),_)=>bif Me 0 m&&Hd m 1073741824 then I (.normal,{ st with env:=[(0,.list Ge sz [],Gb)] })else En
   |_,_=>En:=by
 refine Ba (fun r h=>?_) (fun r h=>?_)
 ·obtain⟨n,hn⟩:=y7.1 h
  cases n with
  |zero=>simp[jj]at hn
  |succ n=>simp only[jj]at hn;exact hn
 ·exact y7.2 ⟨1,by simp only[jj];exact h⟩
theorem q4p {P}(eK:bZ P p){k args v ow}(h:qc p (X p) k args=I (v,ow))(hb:qy 0 args=Gb):IsoCall P k args v ow:=by
 obtain⟨n,hn⟩:=Li h
 exact q7q eK hn hb
end
inductive ia where
 |code (c:aw)
 |seq (a b:ia)
 |cond (c:js) (a b:ia)
 |block (id:Nat) (b:ia)
 |loop (b:ia)
 |AU (s:Nat) (c:ia)
 |shut (s sz:Nat) (c:ia)
def ia.erase:ia→aw
 | .code c=>c
 | .seq a b=>.seq a.erase b.erase
 | .cond c a b=>.cond c a.erase b.erase
 | .block id b=>.block id b.erase
 | .loop b=>.loop b.erase
 | .AU _ c=>c.erase
 | .shut _ _ c=>c.erase
def Sz (P:Program)(w0:World)(K:Nat→Nat→Option Value)(nt:Nat)(st:aY)(a:Act)(w:World):Prop:=
 a.tmps.size=nt∧∃C' ω',Marks C' w0.heap.size a.defers∧az P C' ω' w0 (.bY K) st.heap w∧aq C' ω' w w0.heap.size st.env a.tmps
theorem Sz.gc {P w0 K nt n st a w}(h:Sz P w0 K nt st a w):Sz P w0 K nt (Abs.gc n st) a w:=by
 obtain⟨h1,C',ω',h2,h3,h4⟩:=h
 unfold Abs.gc
 cases hb:Hd st.heap.length n with
 |true=>exact⟨h1,C',ω',h2,h3,h4⟩
 |false=>
  simp only[cond_false]
  cases lI:(mP n st.env&&zn n (st.heap.take n))with
  |false=>exact⟨h1,C',ω',h2,h3,h4⟩
  |true=>
   simp only[cond_true]
   simp only[Ga]at lI
   have hn:n≤st.heap.length:=by
    rcases Nat.lt_or_ge n st.heap.length with h|h
    ·omega
    ·rw[If h]at hb;cases hb
   exact⟨h1,C'.cut n,ω',⟨h2.choose,h2.choose_spec.1,h2.choose_spec.2.1,h2.choose_spec.2.2⟩,h3.gc hn lI.2 (fun b r h=>by cases h),h4.cut lI.1⟩
section
variable {P:Program}
theorem Tabs.table {w}(h:Tabs P w){g}(hg:P.globalNamed nX=I g):Lib.TabIs P w nX .u64 Lib.pow10Tab:=(h g (.inl hg)).2.1 hg
theorem Tabs.length {w}(h:Tabs P w){g}(hg:P.globalNamed xZ=I g):∃m,w.cell? ⟨g,0,En⟩=I (.int .i64 m):=(h g (.inr (.inl hg))).2.2.1 hg
theorem GX {k args v}(h:∀(K:Nat→Nat→Option Value) (w:World) (vs:List Value),Tabs P w→(∀r o u,K r o=I u→w.cell? ⟨r,o,En⟩=I u)→aW (.bY K) args vs →
  ∃u,bR (.bY K) v u∧Calls P k ⟨vs⟩ w fun e w'=>e=.returned u∧Ext w w'):IsoCall P k args v Ge:=by
 intro K w vs ht h1 h2 hr
 obtain⟨u,hu,hc⟩:=h K w vs ht h1 hr
 refine callsIn_wide.2 (hc.mono ?_)
 rintro e w' ⟨rfl,hx⟩
 exact⟨u,K,rfl,hx,fun _ _ _ h=>h,fun _ _ _=>rfl,fun r o x hk=>hx.cell (h1 r o x hk),h2,hu,fun h=>by cases h⟩
theorem q77 {C r}:∀ {xs:List AVal} {us:List Value} {o:Nat},aW C xs us→(∀x∈xs,x.flat=[x])→(∀(j:Nat) u,us[j]?=I u→C.K r (o+j)=I u)→bz C r 1 xs o
 | [],_,o,_,_,_=>.fN _ _ _
 |x::xs,us,o,h,hf,hk=>by
  cases h with
  |cons _ _ u us hx hr=>
   have As:=hf x (Ik ..)
   refine .dH _ _ _ _ _ (by rw[As];rfl) ?_ (q77 hr (fun y hy=>hf y (Ig _ hy)) fun j u hj=>?_)
   ·rw[As]
    exact .dO _ _ _ _ u (by have:=hk 0 u rfl;simpa using this) hx (.il _ _)
   ·have:=hk (j+1) u (by simpa using hj)
    rw[show o+1+j=o+(j+1) by omega]
    exact this
theorem jhe {k args xs us}{t:TypeId}(hf:∀x∈xs,x.flat=[x])(gZ:∀K,aW (.bY K) xs us)(h1u:∀u∈us,u.oneCell'=Gb)
  (h:∀(K:Nat→Nat→Option Value) (w:World) (vs:List Value),Tabs P w→(∀r o u,K r o=I u→w.cell? ⟨r,o,En⟩=I u)→aW (.bY K) args vs →
  Calls P k ⟨vs⟩ w fun e w'=>e=.returned (.slice (I ⟨w.heap.size,0,En⟩) xs.length xs.length)∧w'=w.alloc (.cells us.toArray t)):IsoCall P k args (.list Ge 1 xs) Ge:=by
 intro K w vs ht h1 h2 hr
 refine callsIn_wide.2 ((h K w vs ht h1 hr).mono ?_)
 rintro e w' ⟨rfl,rfl⟩
 have hx:Ext w (w.alloc (.cells us.toArray t)):=Ext.alloc w _ (fun c t fr h=>by cases h;rfl)
 have Gm:∀o u,K w.heap.size o=I u→False:=fun o u hk=>by
  have:=h1 _ _ _ hk
  simp only[World.cell?,Array.getElem?_eq_none (Jr _)]at this
  cases this
 refine⟨_,fun r o=>if r=w.heap.size then us[o]? else K r o,rfl,hx,?_,?_,?_,?_,?_,fun h=>by cases h⟩
 ·intro r o x hk
  have bI:r≠w.heap.size:=fun e=>Gm o x (e▸hk)
  simp only[if_neg bI];exact hk
 ·intro r o bw
  have bI:r≠w.heap.size:=by omega
  simp only[if_neg bI]
 ·intro r o x hk
  simp only[]at hk
  split at hk
  ·next hr=>
   subst hr
   have hg:(w.alloc (.cells us.toArray t)).heap[w.heap.size]?=I (.cells us.toArray t):=by rw[wi,if_pos rfl]
   simp only[World.cell?]
   rw[hg]
   simpa using hk
  ·exact hx.cell (h1 r o x hk)
 ·intro r o x hk
  simp only[]at hk
  split at hk
  ·exact h1u x (Ha hk)
  ·exact h2 r o x hk
 ·refine .list _ _ _ _ _ (Jr _) (q77 (gZ _) hf fun j u hj=>?_)
  show(if w.heap.size=w.heap.size then us[0+j]? else K w.heap.size (0+j))=I u
  rw[if_pos rfl,Nat.zero_add];exact hj
theorem IsoCall.shr {k args v ow}(h:IsoCall P k args v ow)(hb:qy 0 args=Gb)(hp:mc v=Gb)(eK:qi):AQ P k args eK v Ge eK:=by
 intro C ω w vs hr m
 have iH:aW (.bY C.K) args vs:=aI.shift (C:=C) (C':=.bY C.K) 0 (fun _ _ _ h=>h) (fun b r bw=>by omega) hr hb
 refine CallsIn.mono (h C.K w vs m.tabs m.know m.dw iH) ?_
 rintro e w' ⟨u,K',rfl,q1,q2,q3,q4,q5,q6,_⟩
 refine⟨u,{ C with K:=K' },ω,rfl,⟨q2,fun _ _ h=>h,rfl,fun _ h=>h,fun _ h=>h⟩,m.bY q1 q2 q3 q4 q5,?_,fun h=>by cases h⟩
 exact aI.shift (C:=.bY K') (C':={ C with K:=K' }) 0 (fun _ _ _ h=>h) (fun b r bw=>by omega) q6 hp
end
open Go
def DX:List UInt8→List UInt8→Bool
 | [],[]=>Gb
 |a::l,b::m=>bif G7 a.toNat b.toNat then DX l m else Ge
 |_,_=>Ge
theorem qon:∀ {l m:List UInt8},DX l m=Gb→l=m
 | [],[],_=>rfl
 | [],_::_,h=>by simp[DX]at h
 |_::_,[],h=>by simp[DX]at h
 |a::l,b::m,h=>by
  simp only[DX,Gj]at h
  split at h
  ·next hb=>rw[UInt8.toNat_inj.1 (Gd hb),qon h]
  ·exact absurd h (by simp)
def Lj:Int→Int→Bool
 | .ofNat a,.ofNat b=>G7 a b
 | .negSucc a,.negSucc b=>G7 a b
 |_,_=>Ge
theorem q6s:∀ {a b:Int},Lj a b=Gb→a=b
 | .ofNat _,.ofNat _,h=>by rw[Gd h]
 | .negSucc _,.negSucc _,h=>by rw[Gd h]
 | .ofNat _,.negSucc _,h=>by simp[Lj]at h
 | .negSucc _,.ofNat _,h=>by simp[Lj]at h
mutual
def jG:AVal→AVal→Bool
 | .bool a,.bool b=>a == b
 | .int k a,.int k' b=>bif decide (k=k')then Lj a b else Ge
 | .str a,.str b=>DX a b
 | .list a n xs,.list b m ys=>bif a == b then bif G7 n m then vp xs ys else Ge else Ge
 | .agg xs,.agg ys=>vp xs ys
 | .aJ xs,.aJ ys=>vp xs ys
 |_,_=>Ge
def vp:List AVal→List AVal→Bool
 | [],[]=>Gb
 |a::l,b::m=>bif jG a b then vp l m else Ge
 |_,_=>Ge
end
mutual
theorem qzu:∀ {a b:AVal},jG a b=Gb→a=b:=by
 intro a b h
 match a,b with
 | .bool _,.bool _=>simp only[jG,beq_iff_eq]at h;rw[h]
 | .int k a,.int k' b=>
  simp only[jG,Gj,decide_eq_true_eq]at h
  split at h
  ·next hk=>rw[hk,q6s h]
  ·exact absurd h (by simp)
 | .str _,.str _=>simp only[jG]at h;rw[qon h]
 | .list a n xs,.list b m ys=>
  simp only[jG,Gj,beq_iff_eq]at h
  split at h
  ·next h1=>
   split at h
   ·next h2=>rw[h1,Gd h2,DY h]
   ·exact absurd h (by simp)
  ·exact absurd h (by simp)
 | .agg _,.agg _=>simp only[jG]at h;rw[DY h]
 | .aJ _,.aJ _=>simp only[jG]at h;rw[DY h]
 | .bool _,.int .. | .bool _,.str _ | .bool _,.list .. | .bool _,.agg _ | .bool _,.aJ _=>simp[jG]at h
 | .int ..,.bool _ | .int ..,.str _ | .int ..,.list .. | .int ..,.agg _ | .int ..,.aJ _=>simp[jG]at h
 | .str _,.bool _ | .str _,.int .. | .str _,.list .. | .str _,.agg _ | .str _,.aJ _=>simp[jG]at h
 | .list ..,.bool _ | .list ..,.int .. | .list ..,.str _ | .list ..,.agg _ | .list ..,.aJ _=>simp[jG]at h
 | .agg _,.bool _ | .agg _,.int .. | .agg _,.str _ | .agg _,.list .. | .agg _,.aJ _=>simp[jG]at h
 | .aJ _,.bool _ | .aJ _,.int .. | .aJ _,.str _ | .aJ _,.list .. | .aJ _,.agg _=>simp[jG]at h
 | .ms ..,_ | .ptr ..,_ | .ai _,_ | .db _,_ | .b8,_ | .map _,_ | .b4,_ | .fn ..,_ | .cx,_ | .undef,_ | .any,_ | .aj ..,_ | .dE ..,_=>simp[jG]at h
 | .bool _,.ms .. | .bool _,.ptr .. | .bool _,.ai _ | .bool _,.db _ | .bool _,.b8 | .bool _,.map _ | .bool _,.b4 | .bool _,.fn .. | .bool _,.cx | .bool _,.undef | .bool _,.aj .. | .bool _,.dE ..=>simp[jG]at h
 | .int ..,.ms .. | .int ..,.ptr .. | .int ..,.ai _ | .int ..,.db _ | .int ..,.b8 | .int ..,.map _ | .int ..,.b4 | .int ..,.fn .. | .int ..,.cx | .int ..,.undef | .int ..,.aj .. | .int ..,.dE ..=>simp[jG]at h
 | .str ..,.ms .. | .str ..,.ptr .. | .str ..,.ai _ | .str ..,.db _ | .str ..,.b8 | .str ..,.map _ | .str ..,.b4 | .str ..,.fn .. | .str ..,.cx | .str ..,.undef | .str ..,.aj .. | .str ..,.dE ..=>simp[jG]at h
 | .list ..,.ms .. | .list ..,.ptr .. | .list ..,.ai _ | .list ..,.db _ | .list ..,.b8 | .list ..,.map _ | .list ..,.b4 | .list ..,.fn .. | .list ..,.cx | .list ..,.undef | .list ..,.aj .. | .list ..,.dE ..=>simp[jG]at h
 | .agg ..,.ms .. | .agg ..,.ptr .. | .agg ..,.ai _ | .agg ..,.db _ | .agg ..,.b8 | .agg ..,.map _ | .agg ..,.b4 | .agg ..,.fn .. | .agg ..,.cx | .agg ..,.undef | .agg ..,.aj .. | .agg ..,.dE ..=>simp[jG]at h
 | .aJ ..,.ms .. | .aJ ..,.ptr .. | .aJ ..,.ai _ | .aJ ..,.db _ | .aJ ..,.b8 | .aJ ..,.map _ | .aJ ..,.b4 | .aJ ..,.fn .. | .aJ ..,.cx | .aJ ..,.undef | .aJ ..,.aj .. | .aJ ..,.dE ..=>simp[jG]at h
theorem DY:∀ {l m:List AVal},vp l m=Gb→l=m:=by
 intro l m h
 match l,m with
 | [],[]=>rfl
 | [],_::_=>simp[vp]at h
 |_::_,[]=>simp[vp]at h
 |a::l,b::m=>
  simp only[vp,Gj]at h
  split at h
  ·next h1=>rw[qzu h1,DY h]
  ·exact absurd h (by simp)
end
abbrev Row:=List AVal×AVal×Bool
def Dp (args:List AVal):List Row→Option (AVal×Bool)
 | []=>En
 |r::l=>bif vp r.1 args then I r.2 else Dp args l
theorem Qp {args x}:∀ {l:List Row},Dp args l=I x→(args,x)∈l
 | [],h=>by simp[Dp]at h
 |r::l,h=>by
  simp only[Dp,Gj]at h
  split at h
  ·next hb=>
   simp only[I.injEq]at h
   rw[←DY hb,←h]
   exact Ik ..
  ·exact Ig _ (Qp h)
def Qm (P:Program)(tab:Nat→Option (List Row)):Prop:=
 ∀k l,tab k=I l→∀r∈l,IsoCall P k r.1 r.2.1 r.2.2
def xP:List (Nat×List Row)→Nat→Option (List Row)
 | [],_=>En
 |(k,l)::t,n=>bif G7 k n then I l else xP t n
def SA (P:Program)(k:Nat):List Row→Prop
 | []=>True
 |r::l=>IsoCall P k r.1 r.2.1 r.2.2∧SA P k l
def jfc (P:Program):List (Nat×List Row)→Prop
 | []=>True
 |(k,l)::t=>SA P k l∧jfc P t
theorem q5j {P k}:∀ {l:List Row},SA P k l→∀r∈l,IsoCall P k r.1 r.2.1 r.2.2
 |r::l,h,x,hx=>by
  cases hx with
  |head=>exact h.1
  |tail _ hx=>exact q5j h.2 x hx
theorem Qn {P}:∀ {t:List (Nat×List Row)},jfc P t→Qm P (xP t)
 |(j,m)::t,h,k,l,hk=>by
  simp only[xP,Gj]at hk
  split at hk
  ·next hb=>
   rw[Gd hb]at h
   simp only[I.injEq]at hk
   subst hk
   exact q5j h.1
  ·exact Qn h.2 k l hk
theorem qtw {P p}(h:bZ P p){n k b ow h1 es}(hr:qo p (iM p n) k [] []=I (.map b,ow,h1))(hb:h1[b]?=I (.map es))(he:uP 0 es=Gb):Enters P k∧RC P k es:=
 q89 h (cJ.GF (K8 h n).1) (by rw[←Ld];exact hr) hb he
theorem qg {P p}(h:bZ P p){n k args v o}(hr:qc p (iM p n) k args=some (v,o))(hb:qy 0 args=true:=by rfl):IsoCall P k args v o:=
 q7q h (jfp hr) hb
end Go.Abs
