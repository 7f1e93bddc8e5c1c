/- Chapter 10. -/
import Derived.Test.YtimdocpnkimlfaaGreatDoorSH
set_option linter.unusedVariables false
set_option linter.unusedSimpArgs false
set_option maxRecDepth 100000
set_option maxHeartbeats 4000000
open Option renaming some→I,getD_some→Ek
open Bool renaming false→Ea,true→Hy
open List renaming length_append→Eb,getElem?_eq_some_iff→Ec,length_map→En,length_singleton→E3,getElem?_of_mem→Ga,length_cons→Gc,mem_cons→Ha,length→Hb
namespace Go.Z
open Go Go.Abs Go.W
theorem j1b {a0:Option (List aT)}{a1:Int}{r}(h:f12 a0 a1=I r):ae ak (X ak) 12 [sl 5 bX a0,.int .i64 a1]=I (.bool r,Ea):=c5.ae (W12 h)
theorem jy7 {a0:Option (List Int)}{r}(h:f32 a0=I r):ae ak (X ak) 32 [sl 1 qx a0]=I (.int .i64 r,Ea):=c5.ae (W32 h)
theorem jza {a0:Bool}{a1:Int}{r}(h:f34 a0 a1=I r):ae ak (X ak) 34 [.bool a0,.int .i64 a1]=I (.int .i64 r,Ea):=c5.ae (W34 h)
theorem j2n {a0:aT}{r}(h:f33 a0=I r):ae ak (X ak) 33 [.agg [.int .i64 a0.number,.str a0.kind,sl 1 qv a0.names,sl 1 qx a0.values,.str a0.text]]=I (.int .i64 r,Ea):=c5.ae (W33 h)
theorem j06 {a0:Option (List aT)}{r}(h:f35 a0=I r):ae ak (X ak) 35 [sl 5 bX a0]=I (.str r,Ea):=c5.ae (W35 h)
theorem jfw {a0:Option (List aT)}{a1:Option (List aT)}{r}(h:f36 a0 a1=I r):ae ak (X ak) 36 [sl 5 bX a0,sl 5 bX a1]=I (.bool r,Ea):=c5.ae (W36 h)
theorem j2j {a0:List UInt8}{r}(h:f31 a0=I r):ae ak (X ak) 31 [.str a0]=I (.av [sl 5 bX r.1,.int .i64 r.2.1,.int .i64 r.2.2],Ea):=c5.ae (W31 h)
noncomputable def f8 (a0:aT)(a1:List UInt8):Option Bool:=
 qe (f12 (I [a0]) 1) fun v1=>
 cond v1
  (cond (decide (1500<(a1.length:Int)))
   (qe (CK) fun v5=>
   I v5)
   (qe (f29 a1 a0) fun v7=>
   qe (f30 a1) fun v9=>
   qe (f31 a1) fun v11=>
   qe (f33 a0) fun Jq=>
   qe (f34 (!decide (a0.number=(qh .i64 (((v11.1.getD []).length:Int)+1)))) 11) fun eF=>
   qe (f32 (I [v11.2.2,Jq,eF])) fun iT=>
   cond (decide (iT=0))
    (qe (cK (I []) (v11.1.getD [])) fun v20=>
    qe (cK v20 [a0]) fun v22=>
    qe (f35 v22) fun v24=>
    cond (decide (v7.2=iT))
     (cond (decide (v7.1=v24))
      (qe (f36 v9.1 v11.1) fun v28=>
      cond v28
       (cond (decide (v9.2.1=v11.2.1))
        (cond (decide (v9.2.2=v11.2.2))
         (qe (CK) fun iU=>
         I iU)
         (I Ea))
        (I Ea))
       (I Ea))
      (I Ea))
     (I Ea))
    (cond (decide (v7.2=iT))
     (cond (decide (v7.1=[]))
      (qe (f36 v9.1 v11.1) fun v37=>
      cond v37
       (cond (decide (v9.2.1=v11.2.1))
        (cond (decide (v9.2.2=v11.2.2))
         (qe (CK) fun n6=>
         I n6)
         (I Ea))
        (I Ea))
       (I Ea))
      (I Ea))
     (I Ea))))
  (qe (CK) fun pG=>
  I pG)
theorem W8 {a0:aT}{a1:List UInt8}{r}(h:f8 a0 a1=I r):ae ak (X ak) 8 [.agg [.int .i64 a0.number,.str a0.kind,sl 1 qv a0.names,sl 1 qx a0.values,.str a0.text],.str a1]=I (.bool r,Ea):=by
 unfold f8 at h
 obtain⟨v1,h2,h⟩:=qa h
 have cT:ae ak (X ak) 12 [.list Ea 5 [.agg [.int .i64 a0.number,.str a0.kind,sl 1 qv a0.names,sl 1 qx a0.values,.str a0.text]],.int .i64 1]=I (.bool v1,Ea):=j1b h2
 rcases qc h with⟨h3,h⟩|⟨h3,h⟩
 ·rcases qc h with⟨h4,h⟩|⟨h4,h⟩
  ·obtain⟨v5,h6,h⟩:=qa h
   have iR:ae ak (X ak) 15 []=I (.bool v5,Ea):=I5 h6
   have hr:v5=r:=I.inj h
   subst hr
   have this:∃hh,ah ak (X ak) 8 [.agg [.int .i64 a0.number,.str a0.kind,sl 1 qv a0.names,sl 1 qx a0.values,.str a0.text],.str a1] []=I (.bool v5,Ea,hh):=by
    rw[qn (show ak.bn 8=I c8 from rfl) (by simp)]
    simp only[go_sem,seval,c8,cT,h3,h4,iR]
    exact⟨_,rfl⟩
   obtain⟨hh,this⟩:=this
   exact qm rfl this (by first|rfl|simp only[go_sem,seval]) (by first|rfl|simp only[go_sem,seval])
  ·obtain⟨v7,h8,h⟩:=qa h
   have eQ:ae ak (X ak) 29 [.str a1,.agg [.int .i64 a0.number,.str a0.kind,sl 1 qv a0.names,sl 1 qx a0.values,.str a0.text]]=I (.av [.str v7.1,.int .i64 v7.2],Ea):=W29 h8
   obtain⟨v9,iu,h⟩:=qa h
   have dT:ae ak (X ak) 30 [.str a1]=I (.av [sl 5 bX v9.1,.int .i64 v9.2.1,.int .i64 v9.2.2],Ea):=W30 iu
   obtain⟨v11,lP,h⟩:=qa h
   have gH:ae ak (X ak) 31 [.str a1]=I (.av [sl 5 bX v11.1,.int .i64 v11.2.1,.int .i64 v11.2.2],Ea):=j2j lP
   obtain⟨Jq,dw,h⟩:=qa h
   have gI:ae ak (X ak) 33 [.agg [.int .i64 a0.number,.str a0.kind,sl 1 qv a0.names,sl 1 qx a0.values,.str a0.text]]=I (.int .i64 Jq,Ea):=j2n dw
   obtain⟨eF,jY,h⟩:=qa h
   have dx:ae ak (X ak) 34 [.bool (!decide (a0.number=(qh .i64 (((v11.1.getD []).length:Int)+1)))),.int .i64 11]=I (.int .i64 eF,Ea):=jza jY
   obtain⟨iT,mN,h⟩:=qa h
   have fc:ae ak (X ak) 32 [.list Ea 1 [.int .i64 v11.2.2,.int .i64 Jq,.int .i64 eF]]=I (.int .i64 iT,Ea):=jy7 mN
   rcases qc h with⟨dJ,h⟩|⟨dJ,h⟩
   ·obtain⟨v20,dL,h⟩:=qa h
    obtain⟨v22,gX,h⟩:=qa h
    obtain⟨v24,jI,h⟩:=qa h
    have nB:ae ak (X ak) 35 [sl 5 bX v22]=I (.str v24,Ea):=j06 jI
    rcases qc h with⟨ez,h⟩|⟨ez,h⟩
    ·rcases qc h with⟨fJ,h⟩|⟨fJ,h⟩
     ·obtain⟨v28,nv,h⟩:=qa h
      have fY:ae ak (X ak) 36 [sl 5 bX v9.1,sl 5 bX v11.1]=I (.bool v28,Ea):=jfw nv
      rcases qc h with⟨dS,h⟩|⟨dS,h⟩
      ·rcases qc h with⟨eE,h⟩|⟨eE,h⟩
       ·rcases qc h with⟨iQ,h⟩|⟨iQ,h⟩
        ·obtain⟨iU,fk,h⟩:=qa h
         have Rw:ae ak (X ak) 15 []=I (.bool iU,Ea):=I5 fk
         have hr:iU=r:=I.inj h
         subst hr
         have this:∃hh,ah ak (X ak) 8 [.agg [.int .i64 a0.number,.str a0.kind,sl 1 qv a0.names,sl 1 qx a0.values,.str a0.text],.str a1] []=I (.bool iU,Ea,hh):=by
          rw[qn (show ak.bn 8=I c8 from rfl) (by simp)]
          simp only[go_sem,seval,c8,cT,h3,h4,eQ,dT,gH,gI,dx,fc,dJ,vX dL,tQ gX,nB,ez,fJ,fY,dS,eE,iQ,Rw]
          exact⟨_,rfl⟩
         obtain⟨hh,this⟩:=this
         exact qm rfl this (by first|rfl|simp only[go_sem,seval]) (by first|rfl|simp only[go_sem,seval])
        ·have hr:Ea=r:=I.inj h
         subst hr
         have this:∃hh,ah ak (X ak) 8 [.agg [.int .i64 a0.number,.str a0.kind,sl 1 qv a0.names,sl 1 qx a0.values,.str a0.text],.str a1] []=I (.bool Ea,Ea,hh):=by
          rw[qn (show ak.bn 8=I c8 from rfl) (by simp)]
          simp only[go_sem,seval,c8,cT,h3,h4,eQ,dT,gH,gI,dx,fc,dJ,vX dL,tQ gX,nB,ez,fJ,fY,dS,eE,iQ]
          exact⟨_,rfl⟩
         obtain⟨hh,this⟩:=this
         exact qm rfl this (by first|rfl|simp only[go_sem,seval]) (by first|rfl|simp only[go_sem,seval])
       ·have hr:Ea=r:=I.inj h
        subst hr
        have this:∃hh,ah ak (X ak) 8 [.agg [.int .i64 a0.number,.str a0.kind,sl 1 qv a0.names,sl 1 qx a0.values,.str a0.text],.str a1] []=I (.bool Ea,Ea,hh):=by
         rw[qn (show ak.bn 8=I c8 from rfl) (by simp)]
         simp only[go_sem,seval,c8,cT,h3,h4,eQ,dT,gH,gI,dx,fc,dJ,vX dL,tQ gX,nB,ez,fJ,fY,dS,eE]
         exact⟨_,rfl⟩
        obtain⟨hh,this⟩:=this
        exact qm rfl this (by first|rfl|simp only[go_sem,seval]) (by first|rfl|simp only[go_sem,seval])
      ·have hr:Ea=r:=I.inj h
       subst hr
       have this:∃hh,ah ak (X ak) 8 [.agg [.int .i64 a0.number,.str a0.kind,sl 1 qv a0.names,sl 1 qx a0.values,.str a0.text],.str a1] []=I (.bool Ea,Ea,hh):=by
        rw[qn (show ak.bn 8=I c8 from rfl) (by simp)]
        simp only[go_sem,seval,c8,cT,h3,h4,eQ,dT,gH,gI,dx,fc,dJ,vX dL,tQ gX,nB,ez,fJ,fY,dS]
        exact⟨_,rfl⟩
       obtain⟨hh,this⟩:=this
       exact qm rfl this (by first|rfl|simp only[go_sem,seval]) (by first|rfl|simp only[go_sem,seval])
     ·have hr:Ea=r:=I.inj h
      subst hr
      have this:∃hh,ah ak (X ak) 8 [.agg [.int .i64 a0.number,.str a0.kind,sl 1 qv a0.names,sl 1 qx a0.values,.str a0.text],.str a1] []=I (.bool Ea,Ea,hh):=by
       rw[qn (show ak.bn 8=I c8 from rfl) (by simp)]
       simp only[go_sem,seval,c8,cT,h3,h4,eQ,dT,gH,gI,dx,fc,dJ,vX dL,tQ gX,nB,ez,fJ]
       exact⟨_,rfl⟩
      obtain⟨hh,this⟩:=this
      exact qm rfl this (by first|rfl|simp only[go_sem,seval]) (by first|rfl|simp only[go_sem,seval])
    ·have hr:Ea=r:=I.inj h
     subst hr
     have this:∃hh,ah ak (X ak) 8 [.agg [.int .i64 a0.number,.str a0.kind,sl 1 qv a0.names,sl 1 qx a0.values,.str a0.text],.str a1] []=I (.bool Ea,Ea,hh):=by
      rw[qn (show ak.bn 8=I c8 from rfl) (by simp)]
      simp only[go_sem,seval,c8,cT,h3,h4,eQ,dT,gH,gI,dx,fc,dJ,vX dL,tQ gX,nB,ez]
      exact⟨_,rfl⟩
     obtain⟨hh,this⟩:=this
     exact qm rfl this (by first|rfl|simp only[go_sem,seval]) (by first|rfl|simp only[go_sem,seval])
   ·rcases qc h with⟨du,h⟩|⟨du,h⟩
    ·rcases qc h with⟨eP,h⟩|⟨eP,h⟩
     ·obtain⟨v37,hO,h⟩:=qa h
      have jP:ae ak (X ak) 36 [sl 5 bX v9.1,sl 5 bX v11.1]=I (.bool v37,Ea):=jfw hO
      rcases qc h with⟨fF,h⟩|⟨fF,h⟩
      ·rcases qc h with⟨gP,h⟩|⟨gP,h⟩
       ·rcases qc h with⟨hP,h⟩|⟨hP,h⟩
        ·obtain⟨n6,sM,h⟩:=qa h
         have Rx:ae ak (X ak) 15 []=I (.bool n6,Ea):=I5 sM
         have hr:n6=r:=I.inj h
         subst hr
         have this:∃hh,ah ak (X ak) 8 [.agg [.int .i64 a0.number,.str a0.kind,sl 1 qv a0.names,sl 1 qx a0.values,.str a0.text],.str a1] []=I (.bool n6,Ea,hh):=by
          rw[qn (show ak.bn 8=I c8 from rfl) (by simp)]
          simp only[go_sem,seval,c8,cT,h3,h4,eQ,dT,gH,gI,dx,fc,dJ,du,eP,jP,fF,gP,hP,Rx]
          exact⟨_,rfl⟩
         obtain⟨hh,this⟩:=this
         exact qm rfl this (by first|rfl|simp only[go_sem,seval]) (by first|rfl|simp only[go_sem,seval])
        ·have hr:Ea=r:=I.inj h
         subst hr
         have this:∃hh,ah ak (X ak) 8 [.agg [.int .i64 a0.number,.str a0.kind,sl 1 qv a0.names,sl 1 qx a0.values,.str a0.text],.str a1] []=I (.bool Ea,Ea,hh):=by
          rw[qn (show ak.bn 8=I c8 from rfl) (by simp)]
          simp only[go_sem,seval,c8,cT,h3,h4,eQ,dT,gH,gI,dx,fc,dJ,du,eP,jP,fF,gP,hP]
          exact⟨_,rfl⟩
         obtain⟨hh,this⟩:=this
         exact qm rfl this (by first|rfl|simp only[go_sem,seval]) (by first|rfl|simp only[go_sem,seval])
       ·have hr:Ea=r:=I.inj h
        subst hr
        have this:∃hh,ah ak (X ak) 8 [.agg [.int .i64 a0.number,.str a0.kind,sl 1 qv a0.names,sl 1 qx a0.values,.str a0.text],.str a1] []=I (.bool Ea,Ea,hh):=by
         rw[qn (show ak.bn 8=I c8 from rfl) (by simp)]
         simp only[go_sem,seval,c8,cT,h3,h4,eQ,dT,gH,gI,dx,fc,dJ,du,eP,jP,fF,gP]
         exact⟨_,rfl⟩
        obtain⟨hh,this⟩:=this
        exact qm rfl this (by first|rfl|simp only[go_sem,seval]) (by first|rfl|simp only[go_sem,seval])
      ·have hr:Ea=r:=I.inj h
       subst hr
       have this:∃hh,ah ak (X ak) 8 [.agg [.int .i64 a0.number,.str a0.kind,sl 1 qv a0.names,sl 1 qx a0.values,.str a0.text],.str a1] []=I (.bool Ea,Ea,hh):=by
        rw[qn (show ak.bn 8=I c8 from rfl) (by simp)]
        simp only[go_sem,seval,c8,cT,h3,h4,eQ,dT,gH,gI,dx,fc,dJ,du,eP,jP,fF]
        exact⟨_,rfl⟩
       obtain⟨hh,this⟩:=this
       exact qm rfl this (by first|rfl|simp only[go_sem,seval]) (by first|rfl|simp only[go_sem,seval])
     ·have hr:Ea=r:=I.inj h
      subst hr
      have this:∃hh,ah ak (X ak) 8 [.agg [.int .i64 a0.number,.str a0.kind,sl 1 qv a0.names,sl 1 qx a0.values,.str a0.text],.str a1] []=I (.bool Ea,Ea,hh):=by
       rw[qn (show ak.bn 8=I c8 from rfl) (by simp)]
       simp only[go_sem,seval,c8,cT,h3,h4,eQ,dT,gH,gI,dx,fc,dJ,du,eP]
       exact⟨_,rfl⟩
      obtain⟨hh,this⟩:=this
      exact qm rfl this (by first|rfl|simp only[go_sem,seval]) (by first|rfl|simp only[go_sem,seval])
    ·have hr:Ea=r:=I.inj h
     subst hr
     have this:∃hh,ah ak (X ak) 8 [.agg [.int .i64 a0.number,.str a0.kind,sl 1 qv a0.names,sl 1 qx a0.values,.str a0.text],.str a1] []=I (.bool Ea,Ea,hh):=by
      rw[qn (show ak.bn 8=I c8 from rfl) (by simp)]
      simp only[go_sem,seval,c8,cT,h3,h4,eQ,dT,gH,gI,dx,fc,dJ,du]
      exact⟨_,rfl⟩
     obtain⟨hh,this⟩:=this
     exact qm rfl this (by first|rfl|simp only[go_sem,seval]) (by first|rfl|simp only[go_sem,seval])
 ·obtain⟨pG,lW,h⟩:=qa h
  have iA:ae ak (X ak) 15 []=I (.bool pG,Ea):=I5 lW
  have hr:pG=r:=I.inj h
  subst hr
  have this:∃hh,ah ak (X ak) 8 [.agg [.int .i64 a0.number,.str a0.kind,sl 1 qv a0.names,sl 1 qx a0.values,.str a0.text],.str a1] []=I (.bool pG,Ea,hh):=by
   rw[qn (show ak.bn 8=I c8 from rfl) (by simp)]
   simp only[go_sem,seval,c8,cT,h3,iA]
   exact⟨_,rfl⟩
  obtain⟨hh,this⟩:=this
  exact qm rfl this (by first|rfl|simp only[go_sem,seval]) (by first|rfl|simp only[go_sem,seval])
end Go.Z
namespace Go.Z
open Go Go.Abs Go.W
structure Ry (e:aT):Prop where
 k:e.kind.length≤40
 n:(e.names.getD []).length≤6
 v:(e.values.getD []).length≤8
 s:∀x∈e.names.getD [],x.length≤40
theorem q6j {l n}(hn:n≤1000):∃b,f12 l (n:Int)=I b∧(b=Hy→(l.getD []).length≤n∧∀e∈l.getD [],Ry e):=by
 unfold f12
 by_cases h:n<(l.getD []).length
 ·rw[decide_eq_true (by omega)]
  exact⟨Ea,rfl,fun h=>by cases h⟩
 ·rw[decide_eq_false (by omega),cond_false]
  rcases QA (l.getD []) (wO l) (fun _ e=>Ry e) (by unfold wO;rw[rj];rfl) (fun i x hx=>by
   have hi:i<(l.getD []).length:=(Ec.1 hx).1
   unfold wO
   simp only[tT hi,cond_true,mK hx,qe]
   by_cases h1:40<(x.kind.length:Int)
   ·rw[decide_eq_true h1];exact .inr ⟨_,rfl⟩
   rw[decide_eq_false h1,cond_false]
   by_cases h2:6<((x.names.getD []).length:Int)
   ·rw[decide_eq_true h2];exact .inr ⟨_,rfl⟩
   rw[decide_eq_false h2,cond_false]
   by_cases h3:8<((x.values.getD []).length:Int)
   ·rw[decide_eq_true h3];exact .inr ⟨_,rfl⟩
   rw[decide_eq_false h3,cond_false]
   by_cases h4:200<(x.text.length:Int)
   ·rw[decide_eq_true h4];exact .inr ⟨_,rfl⟩
   rw[decide_eq_false h4,cond_false]
   rcases QA (x.names.getD []) (wP l (i:Int)) (fun _ y=>y.length≤40) (by unfold wP;simp only[mK hx,qe];rw[rj];rfl) (fun j y hy=>by
    have hj:j<(x.names.getD []).length:=(Ec.1 hy).1
    unfold wP
    simp only[mK hx,qe,tT hj,cond_true,mK hy]
    by_cases h5:40<(y.length:Int)
    ·rw[decide_eq_true h5];exact .inr ⟨_,rfl⟩
    rw[decide_eq_false h5,cond_false,yi (by omega)]
    exact .inl ⟨rfl,by omega⟩)with⟨e,he⟩|⟨he,hall⟩
   ·rw[he];exact .inr ⟨_,rfl⟩
   ·rw[he]
    refine .inl ⟨?_,⟨by omega,by omega,by omega,fun y hy=>?_⟩⟩
    ·simp only[]
     rw[yi (by omega)]
    ·obtain⟨j,hj⟩:=Ga hy
     exact hall j y hj)with⟨e,he⟩|⟨he,hall⟩
  ·rw[he]
   exact⟨Ea,rfl,fun h=>by cases h⟩
  ·rw[he]
   refine⟨Hy,rfl,fun _=>⟨by omega,fun e hm=>?_⟩⟩
   obtain⟨i,hi⟩:=Ga hm
   exact hall i e hi
theorem Rz:∀ {l:List (List UInt8)},(∀w∈l,w.length≤40)→(Lib.joinTail [32] l).length≤l.length*41
 | [],_=>by simp[Lib.joinTail]
 |x::l,h=>by
  have h1:=h x (List.mem_cons_self ..)
  have h2:=Rz fun w hw=>h w (List.mem_cons_of_mem _ hw)
  rw[Jl]
  simp only[Eb,Gc,List.length_nil]
  omega
theorem qx5 {v:Int}(h0:0≤v)(h1:v<1000000000):(Lib.itoa v).length≤40:=by
 rw[FQ h0]
 have:=FO 8 v.toNat (by omega)
 omega
theorem que {e:aT}(s:Ry e)(h:zu e.er=0):Cl e∧(nA e.er).length≤900000:=by
 obtain⟨h1,h2,_,_,h5,_⟩:=qq6 h
 have h5:∀v∈e.values.getD [],0≤v∧v<1000000000:=fun v hv=>⟨(h5 v hv).1,by have:=(h5 v hv).2;omega⟩
 have h1:1≤e.number:=h1
 have h2:e.number≤1000:=h2
 have ha:=s.n
 have hb:=s.v
 have hk:=s.k
 have hlb:(y7 e.er).length≤10000:=by
  rw[qzd]
  have l1:=Rz (l:=e.names.getD []) s.s
  have l2:=Rz (l:=(e.values.getD []).map Lib.itoa) fun w hw=>by
   obtain⟨v,hv,rfl⟩:=List.mem_map.1 hw
   exact qx5 (h5 v hv).1 (h5 v hv).2
  have l3:=qx5 (v:=e.number) (by omega) (by omega)
  rw[En]at l2
  simp only[Eb,E3]
  show(Lib.itoa e.number).length+1+e.kind.length+(Lib.joinTail [32] (e.names.getD [])).length+(Lib.joinTail [32] ((e.values.getD []).map Lib.itoa)).length≤10000
  omega
 refine⟨⟨⟨by omega,by omega⟩,h5,by omega,by omega,by omega⟩,?_⟩
 have:=q0p e.er
 omega
theorem q5f:∀ {l:List cB} {e},e∈l→(nA e).length≤(ke l).length
 |x::l,e,h=>by
  rw[ke,Eb,Gc]
  rcases Ha.1 h with rfl|h
  ·omega
  ·have:=q5f h;omega
theorem qt0:∀ {l:List cB} {k e},FX k l→e∈l→zu e=0
 |x::l,k,e,h,hm=>by
  rcases Ha.1 hm with rfl|hm
  ·exact h.1
  ·exact qt0 h.2.2 hm
theorem q1e {s:List UInt8}(hs:s.length≤90000){e:aT}(h:e.er∈(jr s).1):Cl e:=by
 obtain⟨hc,h1,h2⟩:=qm3 s
 have hk:=qt0 hc h
 have hr:=q5f h
 obtain⟨l,q1,q2,q3,t,q4,q5⟩:=Jo (s:=s) (a:=0) (out:=[])
 have RA:(jr s).1=l:=q1
 have q6:=congrArg Hb q4
 simp only[Eb]at q6
 rw[RA]at hr
 have:=q0p e.er
 obtain⟨n1,n2,⟨f,f1,f2,f3⟩,_,n5,_⟩:=qq6 hk
 have hf:=FR f1
 have f2:(e.names.getD []).length=f.1:=f2
 have f3:(e.values.getD []).length=f.2:=f3
 have n1:1≤e.number:=n1
 have n2:e.number≤1000:=n2
 exact⟨⟨by omega,by omega⟩,fun v hv=>⟨(n5 v hv).1,by have:=(n5 v hv).2;omega⟩,by omega,by omega,by omega⟩
theorem jdr (s:List UInt8):(ke (jr s).1).length≤s.length:=by
 obtain⟨l,q1,q2,q3,t,q4,q5⟩:=Jo (s:=s) (a:=0) (out:=[])
 have RA:(jr s).1=l:=q1
 have q6:=congrArg Hb q4
 simp only[Eb]at q6
 rw[RA];omega
theorem jg8 {a b c:Int}(h:jM [a,b,c]=0):a=0∧b=0:=by
 simp only[jM]at h
 by_cases ha:a=0
 ·by_cases hb:b=0
  ·exact⟨ha,hb⟩
  ·rw[if_pos ha,if_neg hb]at h;exact absurd h hb
 ·rw[if_neg ha]at h;exact absurd h ha
theorem qzh {t w}(h:FT t w){e:aT}(he:e∈t.1.getD []):e.er∈w.1:=by
 rw[←h.1];exact List.mem_map_of_mem he
theorem jd5 (a0:aT)(a1:List UInt8):f8 a0 a1=I Hy:=by
 obtain⟨b1,h1,k1⟩:=q6j (l:=I [a0]) (n:=1) (by omega)
 unfold f8
 rw[show f12 (I [a0]) 1=I b1 from h1,qi]
 cases b1 with
 |false=>rfl
 |true=>
 have hsh:=(k1 rfl).2 a0 (by simp)
 rw[cond_true]
 by_cases hl:1500<(a1.length:Int)
 ·rw[decide_eq_true hl];rfl
 rw[decide_eq_false hl,cond_false]
 have hs:a1.length≤1500:=by omega
 have gR:a1.length≤90000:=by omega
 obtain⟨t,t1,t2⟩:=q5q gR
 obtain⟨u,u1,u2⟩:=jjf gR
 have CV:(u.1.getD []).length=(jr a1).1.length:=by rw[←u2.1,En]
 have Hu:(t.1.getD []).length=(jr a1).1.length:=by rw[←t2.1,En]
 have hrl:=q7b a1
 have hlog:=jdr a1
 have hn1:=hsh.n
 have uW:=hsh.v
 have eP:f36 t.1 u.1=I Hy:=q8q (t2.1.trans u2.1.symm) (by omega) fun e he=>by
  have:=q1e gR (qzh t2 he)
  exact⟨by have:=this.l1;omega,by have:=this.l2;omega⟩
 have uZ:(if(!decide (a0.number=((jr a1).1.length:Int)+1))=Hy then(11:Int)else 0)=if a0.number=((jr a1).1.length:Int)+1 then 0 else 11:=by
  by_cases h:a0.number=((jr a1).1.length:Int)+1<;>simp[h]
 have e1:t.2.1=u.2.1:=t2.2.1.trans u2.2.1.symm
 have e2:t.2.2=u.2.2:=t2.2.2.trans u2.2.2.symm
 rw[jkb (s:=a1) (e:=a0) gR (by omega) (by omega) (que hsh),qi,t1,qi,u1,qi,q65 (by unfold SM;omega) (by unfold SM;omega),qi,CV,jx (x:=((jr a1).1.length:Int)+1) (by omega) (by omega),jge,qi,uZ,jle (by unfold SM;simp),qi,u2.2.2]
 by_cases hc:jM [(jr a1).2.2,zu a0.er,if a0.number=((jr a1).1.length:Int)+1 then 0 else 11]=0
 ·rw[decide_eq_true hc,cond_true,if_pos hc]
  have hz:=jg8 hc
  have kE:=que hsh hz.2
  have FY:=(qm3 a1).2.2 hz.1
  have hall:∀e∈(I (u.1.getD []++[a0])).getD [],Cl e:=fun e he=>by
   simp only[Ek]at he
   rcases List.mem_append.1 he with he|he
   ·exact q1e gR (qzh u2 he)
   ·rw[List.mem_singleton.1 he];exact kE.1
  have hT:ke (((I (u.1.getD []++[a0])).getD []).map aT.er)=a1++nA a0.er++[10]:=by
   simp only[Ek,List.map_append,List.map_cons,List.map_nil]
   rw[u2.1,qot,←FY]
   simp[ke]
  have gy:cK (I (u.1.getD [])) [a0]=I (I (u.1.getD []++[a0])):=sT (x:=a0) (o:=I (u.1.getD [])) (by simp only[Ek];omega)
  rw[ZZ (ys:=u.1.getD []) (by unfold SM;omega),qi,gy,qi,jg3 (by simp;omega) hall (by rw[hT];simp only[Eb,E3];have:=kE.2;omega),hT,qi]
  simp only[hc,decide_true,cond_true,eP,qi,e1,u2.2.2,t2.2.2]<;>rfl
 ·rw[decide_eq_false hc,cond_false,if_neg hc]
  simp only[decide_true,cond_true,eP,qi,e1,u2.2.2,t2.2.2]<;>rfl
theorem I8 (a0:aT)(a1:List UInt8):ae ak (X ak) 8 [.agg [.int .i64 a0.number,.str a0.kind,sl 1 qv a0.names,sl 1 qx a0.values,.str a0.text],.str a1]=I (.bool Hy,Ea):=W8 (jd5 a0 a1)
end Go.Z
