/- Chapter 10. -/
import Derived.Test.YtfopaakmgogpiaaGreatDoorW6
import Derived.Test.YtfopaakmgogpiaaGreatDoorCA
import Derived.Test.YtfopaakmgogpiaaGreatDoorAbsL
import Derived.Test.YtfopaakmgogpiaaGreatDoorW12
set_option linter.unusedVariables false
set_option linter.unusedSimpArgs false
set_option maxRecDepth 100000
set_option maxHeartbeats 4000000
noncomputable section
open Option renaming some→I,none→En
open Bool renaming false→Ef
namespace Go.Z
open Go Go.Abs Go.W
def f11 (a0:ql):Option Int:=
 jw (f52 a0.number 1 1000) fun v1=>
 jw (f53 (!(DT a0.kind)) 13) fun v3=>
 jw (f53 (!(decide (((a0.names.getD []).length:Int)=((yu a0.kind).length:Int))&&decide (((a0.values.getD []).length:Int)=(mU a0.kind)))) 2) fun v5=>
 jw (f51 (I [v1,v3,v5])) fun v7=>
 cond (decide (v7=0))
  (jw (f54 a0.names) fun v10=>
  jw (f57 a0.values) fun v12=>
  jw (f51 v10.1) fun dG=>
  jw (f51 v12.1) fun dv=>
  jw (f53 (!decide (a0.text=[])) 1) fun fP=>
  jw (f51 (I [dG,dv,fP])) fun v20=>
  I v20)
  (I v7)
theorem NU {a0:ql}{r}(h:f11 a0=I r):jy pr (X pr) 11 [aE a0]=I (Iv r,Ef):=by
 unfold f11 at h
 refine y6 IX ?_
 repeat' first|(replace h:=jx h;obtain⟨d,g,h⟩:=h; (with_reducible first|replace g:=NV g|replace g:=ei g|replace g:=iw g|replace g:=W54 g|replace g:=W57 g|skip);try dsimp only[y9,lF,List.map,kr,qae,z7,zr,bp,ya,vev,aS,zz,dp,aE,aR,aU,aL,aP,aD]at g)|(replace h:=jz h;rcases h with⟨g,h⟩|⟨g,h⟩)|fail
 all_goals (cases h<;>(simp only[go_sem,seval,IX,jmx, *];exact⟨_,rfl⟩))
end Go.Z
namespace Go.Z
open Go Go.Abs Go.W
def oE (a0:Option (List ql))(s0:(Option (List ql))×(Option (List qc))×Int×Bool×Bool):Option (((Option (List ql))×(Option (List qc))×Int×Bool×Bool)⊕((Int×Int×Int×(Option (List qk))×(Option (List qi))×(Option (List qf)))⊕((Option (List ql))×Bool×(Option (List qc))×Bool×Int))):=
 cond (decide (s0.2.2.1<((a0.getD []).length:Int)))
  (jw (zo (a0.getD []) s0.2.2.1) fun v75=>
  jw (f12 v75) fun v77=>
  cond (decide (v77=0))
   (cond (decide (v75.number=(j6 .i64 (s0.2.2.1+1))))
    (cond (decide (v75.kind=([117,110,100,111]:List UInt8)))
     (cond (decide (((s0.1.getD []).length:Int)=0))
      (I (.inr (.inl (j6 .i64 (s0.2.2.1+1),12,0,En,En,En))))
      (jw (zo (s0.1.getD []) (j6 .i64 (((s0.1.getD []).length:Int)-1))) fun Wv=>
      cond (decide (Wv.kind=([115,104,105,112]:List UInt8)))
       (I (.inr (.inl (j6 .i64 (s0.2.2.1+1),19,0,En,En,En))))
       (jw (xu s0.1 En (I (j6 .i64 (((s0.1.getD []).length:Int)-1)))) fun v86=>
       jw (xu s0.2.1 En (I ((s0.1.getD []).length:Int))) fun Ww=>
       I (.inl (v86,Ww,j6 .i64 (s0.2.2.1+1),Ef,Ef)))))
     (jw (zo (s0.2.1.getD []) ((s0.1.getD []).length:Int)) fun N2=>
     jw (f69 N2 v75) fun Bp=>
     cond (decide (Bp.2=0))
      (jw (bh (I []) (s0.1.getD [])) fun Wx=>
      jw (bh Wx [v75]) fun Wy=>
      jw (bh (I []) (s0.2.1.getD [])) fun N3=>
      jw (bh N3 [Bp.1]) fun WE=>
      I (.inl (Wy,WE,j6 .i64 (s0.2.2.1+1),true,true)))
      (I (.inr (.inl (j6 .i64 (s0.2.2.1+1),Bp.2,Bp.1.day,Bp.1.au,Bp.1.ae,Bp.1.units))))))
    (I (.inr (.inl (j6 .i64 (s0.2.2.1+1),11,0,En,En,En)))))
   (I (.inr (.inl (j6 .i64 (s0.2.2.1+1),v77,0,En,En,En)))))
  (I (.inr (.inr (s0.1,s0.2.2.2.1,s0.2.1,s0.2.2.2.2,s0.2.2.1))))
def yF (a0:Option (List ql))(s0:(Option (List ql))×(Option (List qc))×Int×Bool×Bool):qg:=⟨[(0,sl 5 vev a0,Ef),(3,.ptr 0 0,Ef),(6,sl 5 vev s0.1,s0.2.2.2.1),(7,sl 4 ya s0.2.1,s0.2.2.2.2),(8,Iv s0.2.2.1,Ef)],[kZ]⟩
def Er (a0:Option (List ql)):(Int×Int×Int×(Option (List qk))×(Option (List qi))×(Option (List qf)))⊕((Option (List ql))×Bool×(Option (List qc))×Bool×Int)→qo×qg
 | .inl d=>(.ret,⟨[(2,Nl,Ef),(3,.ptr 0 0,Ef),(4,Iv d.1,Ef),(5,Iv d.2.1,Ef)],[kZ,.cells [(Iv d.2.2.1,Ef),(sl 5 z7 d.2.2.2.1,Ef),(sl 4 zr d.2.2.2.2.1,Ef),(sl 8 bp d.2.2.2.2.2,Ef)]]⟩)
 | .inr d=>(.exit 0,⟨[(0,sl 5 vev a0,Ef),(3,.ptr 0 0,Ef),(6,sl 5 vev d.1,d.2.1),(7,sl 4 ya d.2.2.1,d.2.2.2.1),(8,Iv d.2.2.2.2,Ef),(21,.bool Ef,Ef)],[kZ]⟩)
theorem jxv (a0:Option (List ql))(s0:(Option (List ql))×(Option (List qc))×Int×Bool×Bool)(r)(h:oE a0 s0=I r):yp pr Es (yF a0) (Er a0) s0 r:=by
 unfold oE at h
 repeat' first|(replace h:=jx h;obtain⟨d,g,h⟩:=h;with_reducible first|replace g:=WG g|replace g:=W69 g|replace g:=jrx g|replace g:=jbq g|replace g:=jmg g|skip)|(replace h:=jz h;rcases h with⟨g,h⟩|⟨g,h⟩)|fail
 all_goals (cases h<;>(first|(refine zw ?_;simp only[go_sem,seval,Es,yF,zn,Er,lG, *]<;>rfl)|(refine yj ?_;simp only[go_sem,seval,Es,yF,zn,Er,lG, *]<;>rfl)|(refine q61 ?_ rfl (by first|simp only[go_sem,seval,yF]|rfl) (by first|simp only[go_sem,seval,yF]|rfl);simp only[go_sem,seval,Es,yF,zn,Er,lG, *];exact⟨_,rfl⟩)))
theorem j4f (a0:Option (List ql)){s0:(Option (List ql))×(Option (List qc))×Int×Bool×Bool}{d}(h:bf (oE a0) s0=I d):X pr (.loop Es) (yF a0 s0)=I (Er a0 d):=y7 (jxv a0) (fun d=>by rcases d with d|d<;>(intro hh;cases hh)) h
def f49 (a0:Option (List ql)):Option ((Option (List ql))×qc×Int×Int):=
 cond (decide (1000<((a0.getD []).length:Int)))
  (I (En,⟨0,En,En,En⟩,0,5))
  (jw (bf (oE a0) (En,I [⟨0,En,En,En⟩],0,Ef,true)) fun d103=>match d103 with
   | .inl d105=>
    I (En,⟨0,En,En,En⟩,d105.1,d105.2.1)
   | .inr d106=>
    jw (zo (d106.2.2.1.getD []) ((d106.1.getD []).length:Int)) fun v107=>
    I (d106.1,v107,0,0))
theorem W49 {a0:Option (List ql)}{r}(h:f49 a0=I r):jy pr (X pr) 49 [sl 5 vev a0]=I (.aB [sl 5 vev r.1,aR r.2.1,Iv r.2.2.1,Iv r.2.2.2],Ef):=by
 unfold f49 at h
 refine y6 N7 ?_
 repeat' first|(replace h:=jx h;obtain⟨d,g,h⟩:=h; (with_reducible first|(replace g:=j4f a0 g;rcases d with d|d<;>dsimp only[yF,Er,y9,lF,List.map,kr,qae,z7,zr,bp,ya,vev,aS,zz,dp]at g h)|skip);try dsimp only[y9,lF,List.map,kr,qae,z7,zr,bp,ya,vev,aS,zz,dp,aE,aR,aU,aL,aP,aD]at g)|(replace h:=jz h;rcases h with⟨g,h⟩|⟨g,h⟩)|fail
 all_goals (cases h<;>(simp only[go_sem,seval,N7,zn, *];exact⟨_,rfl⟩))
def f10 (a0:Option (List ql)):Option (qc×Int×Int):=
 jw (f49 a0) fun v1=>
 I (v1.2.1,v1.2.2.1,v1.2.2.2)
theorem W10 {a0:Option (List ql)}{r}(h:f10 a0=I r):jy pr (X pr) 10 [sl 5 vev a0]=I (.aB [aR r.1,Iv r.2.1,Iv r.2.2],Ef):=by
 unfold f10 at h
 refine y6 IY ?_
 repeat' first|(replace h:=jx h;obtain⟨d,g,h⟩:=h;with_reducible first|replace g:=W49 g|skip)|(replace h:=jz h;rcases h with⟨g,h⟩|⟨g,h⟩)|fail
 all_goals (cases h<;>(simp only[go_sem,seval,IY, *];exact⟨_,rfl⟩))
def f16 (a0:Option (List ql))(a1:ql):Option Int:=
 jw (f10 a0) fun v1=>
 cond (decide (v1.2.2=0))
  (jw (f12 a1) fun v4=>
  cond (decide (v4=0))
   (cond (decide (1000≤((a0.getD []).length:Int)))
    (I 5)
    (jw (bh (I []) (a0.getD [])) fun v8=>
    jw (bh v8 [a1]) fun v10=>
    jw (f10 v10) fun v12=>
    I v12.2.2))
   (I v4))
  (I v1.2.2)
theorem W16 {a0:Option (List ql)}{a1:ql}{r}(h:f16 a0 a1=I r):jy pr (X pr) 16 [sl 5 vev a0,aE a1]=I (Iv r,Ef):=by
 unfold f16 at h
 refine y6 IZ ?_
 repeat' first|(replace h:=jx h;obtain⟨d,g,h⟩:=h;with_reducible first|replace g:=W10 g|replace g:=WG g|replace g:=jbq g|skip)|(replace h:=jz h;rcases h with⟨g,h⟩|⟨g,h⟩)|fail
 all_goals (cases h<;>(simp only[go_sem,seval,IZ,lG, *];exact⟨_,rfl⟩))
end Go.Z
end
