/- Chapter 10. -/
import Derived.Test.YtfopaakmgogpiaaGreatDoorW12
set_option linter.unusedVariables false
set_option linter.unusedSimpArgs false
set_option maxRecDepth 100000
set_option maxHeartbeats 4000000
noncomputable section
open Option renaming some→I,none→El
open Bool renaming false→Eh
namespace Go.Z
open Go Go.Abs Go.W
def f11 (a0:ql):Option Int:=
 jx (f52 a0.number 1 1000) fun v1=>
 jx (f53 (!(DZ a0.kind)) 13) fun v3=>
 jx (f53 (!(decide (((a0.names.getD []).length:Int)=((yu a0.kind).length:Int))&&decide (((a0.values.getD []).length:Int)=(mU a0.kind)))) 2) fun v5=>
 jx (f51 (I [v1,v3,v5])) fun v7=>
 cond (decide (v7=0))
  (jx (f54 a0.names) fun v10=>
  jx (f57 a0.values) fun v12=>
  jx (f51 v10.1) fun ei=>
  jx (f51 v12.1) fun dE=>
  jx (f53 (!decide (a0.text=[])) 1) fun iP=>
  jx (f51 (I [ei,dE,iP])) fun v20=>
  I v20)
  (I v7)
theorem W11 {a0:ql}{r}(h:f11 a0=I r):jz pr (X pr) 11 [aE a0]=I (Iv r,Eh):=by
 unfold f11 at h
 refine yt Jh ?_
 repeat' first|(replace h:=jy h;obtain⟨d,g,h⟩:=h; (with_reducible first|replace g:=N9 g|replace g:=fB g|replace g:=lK g|replace g:=W54 g|replace g:=W57 g|skip);try dsimp only[ki,jN,List.map,kn,yp,z8,zu,bf,y8,vev,aV,zz,dp,aE,aR,aU,aL,aP,aD]at g)|(replace h:=j6 h;rcases h with⟨g,h⟩|⟨g,h⟩)|fail
 all_goals (cases h<;>(simp only[go_sem,seval,Jh,jmv, *];exact⟨_,rfl⟩))
end Go.Z
namespace Go.Z
open Go Go.Abs Go.W
def oA (a0:Option (List ql))(s0:(Option (List ql))×(Option (List qc))×Int×Bool×Bool):Option (((Option (List ql))×(Option (List qc))×Int×Bool×Bool)⊕((Int×Int×Int×(Option (List qj))×(Option (List qn))×(Option (List qe)))⊕((Option (List ql))×Bool×(Option (List qc))×Bool×Int))):=
 cond (decide (s0.2.2.1<((a0.getD []).length:Int)))
  (jx (zq (a0.getD []) s0.2.2.1) fun v75=>
  jx (f12 v75) fun v77=>
  cond (decide (v77=0))
   (cond (decide (v75.number=(j9 .i64 (s0.2.2.1+1))))
    (cond (decide (v75.kind=([117,110,100,111]:List UInt8)))
     (cond (decide (((s0.1.getD []).length:Int)=0))
      (I (.inr (.inl (j9 .i64 (s0.2.2.1+1),12,0,El,El,El))))
      (jx (zq (s0.1.getD []) (j9 .i64 (((s0.1.getD []).length:Int)-1))) fun I6=>
      cond (decide (I6.kind=([115,104,105,112]:List UInt8)))
       (I (.inr (.inl (j9 .i64 (s0.2.2.1+1),19,0,El,El,El))))
       (jx (xI s0.1 El (I (j9 .i64 (((s0.1.getD []).length:Int)-1)))) fun Ws=>
       jx (xI s0.2.1 El (I ((s0.1.getD []).length:Int))) fun Wj=>
       I (.inl (Ws,Wj,j9 .i64 (s0.2.2.1+1),Eh,Eh)))))
     (jx (zq (s0.2.1.getD []) ((s0.1.getD []).length:Int)) fun Oi=>
     jx (f69 Oi v75) fun wK=>
     cond (decide (wK.2=0))
      (jx (bp (I []) (s0.1.getD [])) fun Wk=>
      jx (bp Wk [v75]) fun I7=>
      jx (bp (I []) (s0.2.1.getD [])) fun Oj=>
      jx (bp Oj [wK.1]) fun Wt=>
      I (.inl (I7,Wt,j9 .i64 (s0.2.2.1+1),true,true)))
      (I (.inr (.inl (j9 .i64 (s0.2.2.1+1),wK.2,wK.1.day,wK.1.aq,wK.1.ae,wK.1.units))))))
    (I (.inr (.inl (j9 .i64 (s0.2.2.1+1),11,0,El,El,El)))))
   (I (.inr (.inl (j9 .i64 (s0.2.2.1+1),v77,0,El,El,El)))))
  (I (.inr (.inr (s0.1,s0.2.2.2.1,s0.2.1,s0.2.2.2.2,s0.2.2.1))))
def yK (a0:Option (List ql))(s0:(Option (List ql))×(Option (List qc))×Int×Bool×Bool):qh:=⟨[(0,sl 5 vev a0,Eh),(3,.ptr 0 0,Eh),(6,sl 5 vev s0.1,s0.2.2.2.1),(7,sl 4 y8 s0.2.1,s0.2.2.2.2),(8,Iv s0.2.2.1,Eh)],[kZ]⟩
def Ew (a0:Option (List ql)):(Int×Int×Int×(Option (List qj))×(Option (List qn))×(Option (List qe)))⊕((Option (List ql))×Bool×(Option (List qc))×Bool×Int)→qo×qh
 | .inl d=>(.ret,⟨[(2,Nl,Eh),(3,.ptr 0 0,Eh),(4,Iv d.1,Eh),(5,Iv d.2.1,Eh)],[kZ,.cells [(Iv d.2.2.1,Eh),(sl 5 z8 d.2.2.2.1,Eh),(sl 4 zu d.2.2.2.2.1,Eh),(sl 8 bf d.2.2.2.2.2,Eh)]]⟩)
 | .inr d=>(.exit 0,⟨[(0,sl 5 vev a0,Eh),(3,.ptr 0 0,Eh),(6,sl 5 vev d.1,d.2.1),(7,sl 4 y8 d.2.2.1,d.2.2.2.1),(8,Iv d.2.2.2.2,Eh),(21,.bool Eh,Eh)],[kZ]⟩)
theorem jw3 (a0:Option (List ql))(s0:(Option (List ql))×(Option (List qc))×Int×Bool×Bool)(r)(h:oA a0 s0=I r):y5 pr Ey (yK a0) (Ew a0) s0 r:=by
 unfold oA at h
 repeat' first|(replace h:=jy h;obtain⟨d,g,h⟩:=h;with_reducible first|replace g:=W12 g|replace g:=W69 g|replace g:=jp0 g|replace g:=jqd g|replace g:=jmz g|skip)|(replace h:=j6 h;rcases h with⟨g,h⟩|⟨g,h⟩)|fail
 all_goals (cases h<;>(first|(refine z6 ?_;simp only[go_sem,seval,Ey,yK,zn,Ew,lX, *]<;>rfl)|(refine yo ?_;simp only[go_sem,seval,Ey,yK,zn,Ew,lX, *]<;>rfl)|(refine q53 ?_ rfl (by first|simp only[go_sem,seval,yK]|rfl) (by first|simp only[go_sem,seval,yK]|rfl);simp only[go_sem,seval,Ey,yK,zn,Ew,lX, *];exact⟨_,rfl⟩)))
theorem jyw (a0:Option (List ql)){s0:(Option (List ql))×(Option (List qc))×Int×Bool×Bool}{d}(h:bj (oA a0) s0=I d):X pr (.loop Ey) (yK a0 s0)=I (Ew a0 d):=kl (jw3 a0) (fun d=>by rcases d with d|d<;>(intro hh;cases hh)) h
def f49 (a0:Option (List ql)):Option ((Option (List ql))×qc×Int×Int):=
 cond (decide (1000<((a0.getD []).length:Int)))
  (I (El,⟨0,El,El,El⟩,0,5))
  (jx (bj (oA a0) (El,I [⟨0,El,El,El⟩],0,Eh,true)) fun d103=>match d103 with
   | .inl d105=>
    I (El,⟨0,El,El,El⟩,d105.1,d105.2.1)
   | .inr d106=>
    jx (zq (d106.2.2.1.getD []) ((d106.1.getD []).length:Int)) fun v107=>
    I (d106.1,v107,0,0))
theorem W49 {a0:Option (List ql)}{r}(h:f49 a0=I r):jz pr (X pr) 49 [sl 5 vev a0]=I (.az [sl 5 vev r.1,aR r.2.1,Iv r.2.2.1,Iv r.2.2.2],Eh):=by
 unfold f49 at h
 refine yt Oo ?_
 repeat' first|(replace h:=jy h;obtain⟨d,g,h⟩:=h; (with_reducible first|(replace g:=jyw a0 g;rcases d with d|d<;>dsimp only[yK,Ew,ki,jN,List.map,kn,yp,z8,zu,bf,y8,vev,aV,zz,dp]at g h)|skip);try dsimp only[ki,jN,List.map,kn,yp,z8,zu,bf,y8,vev,aV,zz,dp,aE,aR,aU,aL,aP,aD]at g)|(replace h:=j6 h;rcases h with⟨g,h⟩|⟨g,h⟩)|fail
 all_goals (cases h<;>(simp only[go_sem,seval,Oo,zn, *];exact⟨_,rfl⟩))
def f10 (a0:Option (List ql)):Option (qc×Int×Int):=
 jx (f49 a0) fun v1=>
 I (v1.2.1,v1.2.2.1,v1.2.2.2)
theorem W10 {a0:Option (List ql)}{r}(h:f10 a0=I r):jz pr (X pr) 10 [sl 5 vev a0]=I (.az [aR r.1,Iv r.2.1,Iv r.2.2],Eh):=by
 unfold f10 at h
 refine yt Ji ?_
 repeat' first|(replace h:=jy h;obtain⟨d,g,h⟩:=h;with_reducible first|replace g:=W49 g|skip)|(replace h:=j6 h;rcases h with⟨g,h⟩|⟨g,h⟩)|fail
 all_goals (cases h<;>(simp only[go_sem,seval,Ji, *];exact⟨_,rfl⟩))
end Go.Z
end
