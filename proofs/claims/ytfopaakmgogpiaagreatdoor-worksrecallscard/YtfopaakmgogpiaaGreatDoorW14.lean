/- Chapter 10. -/
import Derived.Test.YtfopaakmgogpiaaGreatDoorW12
set_option linter.unusedVariables false
set_option linter.unusedSimpArgs false
set_option maxRecDepth 100000
set_option maxHeartbeats 4000000
noncomputable section
open Option renaming some→I,none→Ek
open Bool renaming false→Eh
namespace Go.Z
open Go Go.Abs Go.W
def f11 (a0:ql):Option Int:=
 jw (f52 a0.number 1 1000) fun v1=>
 jw (f53 (!(ET a0.kind)) 13) fun v3=>
 jw (f53 (!(decide (((a0.names.getD []).length:Int)=((yu a0.kind).length:Int))&&decide (((a0.values.getD []).length:Int)=(nj a0.kind)))) 2) fun v5=>
 jw (f51 (I [v1,v3,v5])) fun v7=>
 cond (decide (v7=0))
  (jw (f54 a0.names) fun v10=>
  jw (f57 a0.values) fun v12=>
  jw (f51 v10.1) fun dB=>
  jw (f51 v12.1) fun da=>
  jw (f53 (!decide (a0.text=[])) 1) fun iT=>
  jw (f51 (I [dB,da,iT])) fun v20=>
  I v20)
  (I v7)
theorem W11 {a0 r}(h:f11 a0=I r):jy pr (X pr) 11 [aE a0]=I (Iv r,Eh):=by
 unfold f11 at h
 refine yz Kq ?_
 repeat' first|(replace h:=jx h;obtain⟨d,g,h⟩:=h; (with_reducible first|replace g:=PE g|replace g:=fC g|replace g:=lV g|replace g:=W54 g|replace g:=W57 g|skip);try dsimp only[y7,hH,List.map,kh,zk,zw,zm,aQ,y9,vev,aV,zx,db,aE,aR,aU,aL,aP,aD]at g)|(replace h:=jz h;rcases h with⟨g,h⟩|⟨g,h⟩)|fail
 all_goals (cases h<;>(simp only[go_sem,seval,Kq,jm4, *];exact⟨_,rfl⟩))
end Go.Z
namespace Go.Z
open Go Go.Abs Go.W
def oQ (a0:Option (List ql))(s0:(Option (List ql))×(Option (List qc))×Int×Bool×Bool):Option (((Option (List ql))×(Option (List qc))×Int×Bool×Bool)⊕((Int×Int×Int×(Option (List qm))×(Option (List qq))×(Option (List qf)))⊕((Option (List ql))×Bool×(Option (List qc))×Bool×Int))):=
 cond (decide (s0.2.2.1<((a0.getD []).length:Int)))
  (jw (zn (a0.getD []) s0.2.2.1) fun v75=>
  jw (f12 v75) fun tv=>
  cond (decide (tv=0))
   (cond (decide (v75.number=(j6 .i64 (s0.2.2.1+1))))
    (cond (decide (v75.kind=([117,110,100,111]:List UInt8)))
     (cond (decide (((s0.1.getD []).length:Int)=0))
      (I (.inr (.inl (j6 .i64 (s0.2.2.1+1),12,0,Ek,Ek,Ek))))
      (jw (zn (s0.1.getD []) (j6 .i64 (((s0.1.getD []).length:Int)-1))) fun BV=>
      cond (decide (BV.kind=([115,104,105,112]:List UInt8)))
       (I (.inr (.inl (j6 .i64 (s0.2.2.1+1),19,0,Ek,Ek,Ek))))
       (jw (xZ s0.1 Ek (I (j6 .i64 (((s0.1.getD []).length:Int)-1)))) fun zC=>
       jw (xZ s0.2.1 Ek (I ((s0.1.getD []).length:Int))) fun XU=>
       I (.inl (zC,XU,j6 .i64 (s0.2.2.1+1),Eh,Eh)))))
     (jw (zn (s0.2.1.getD []) ((s0.1.getD []).length:Int)) fun PI=>
     jw (f69 PI v75) fun wZ=>
     cond (decide (wZ.2=0))
      (jw (bj (I []) (s0.1.getD [])) fun XV=>
      jw (bj XV [v75]) fun Kg=>
      jw (bj (I []) (s0.2.1.getD [])) fun PJ=>
      jw (bj PJ [wZ.1]) fun X0=>
      I (.inl (Kg,X0,j6 .i64 (s0.2.2.1+1),true,true)))
      (I (.inr (.inl (j6 .i64 (s0.2.2.1+1),wZ.2,wZ.1.day,wZ.1.ar,wZ.1.ae,wZ.1.units))))))
    (I (.inr (.inl (j6 .i64 (s0.2.2.1+1),11,0,Ek,Ek,Ek)))))
   (I (.inr (.inl (j6 .i64 (s0.2.2.1+1),tv,0,Ek,Ek,Ek)))))
  (I (.inr (.inr (s0.1,s0.2.2.2.1,s0.2.1,s0.2.2.2.2,s0.2.2.1))))
def zD (a0:Option (List ql))(s0:(Option (List ql))×(Option (List qc))×Int×Bool×Bool):qg:=⟨[(0,sl 5 vev a0,Eh),(3,.ptr 0 0,Eh),(6,sl 5 vev s0.1,s0.2.2.2.1),(7,sl 4 y9 s0.2.1,s0.2.2.2.2),(8,Iv s0.2.2.1,Eh)],[kZ]⟩
def Fx (a0:Option (List ql)):(Int×Int×Int×(Option (List qm))×(Option (List qq))×(Option (List qf)))⊕((Option (List ql))×Bool×(Option (List qc))×Bool×Int)→qi×qg
 | .inl d=>(.ret,⟨[(2,Nl,Eh),(3,.ptr 0 0,Eh),(4,Iv d.1,Eh),(5,Iv d.2.1,Eh)],[kZ,.cells [(Iv d.2.2.1,Eh),(sl 5 zw d.2.2.2.1,Eh),(sl 4 zm d.2.2.2.2.1,Eh),(sl 8 aQ d.2.2.2.2.2,Eh)]]⟩)
 | .inr d=>(.exit 0,⟨[(0,sl 5 vev a0,Eh),(3,.ptr 0 0,Eh),(6,sl 5 vev d.1,d.2.1),(7,sl 4 y9 d.2.2.1,d.2.2.2.1),(8,Iv d.2.2.2.2,Eh),(21,.bool Eh,Eh)],[kZ]⟩)
theorem jx4 (a0:Option (List ql))(s0:(Option (List ql))×(Option (List qc))×Int×Bool×Bool)(r)(h:oQ a0 s0=I r):yr pr Fy (zD a0) (Fx a0) s0 r:=by
 unfold oQ at h
 repeat' first|(replace h:=jx h;obtain⟨d,g,h⟩:=h;with_reducible first|replace g:=W12 g|replace g:=W69 g|replace g:=jvp g|replace g:=jvw g|replace g:=jmg g|skip)|(replace h:=jz h;rcases h with⟨g,h⟩|⟨g,h⟩)|fail
 all_goals (cases h<;>(first|(refine zu ?_;simp only[go_sem,seval,Fy,zD,zj,Fx,lN, *]<;>rfl)|(refine yl ?_;simp only[go_sem,seval,Fy,zD,zj,Fx,lN, *]<;>rfl)|(refine q72 ?_ rfl (by first|simp only[go_sem,seval,zD]|rfl) (by first|simp only[go_sem,seval,zD]|rfl);simp only[go_sem,seval,Fy,zD,zj,Fx,lN, *];exact⟨_,rfl⟩)))
theorem j7i (a0:Option (List ql)){s0 d}(h:aY (oQ a0) s0=I d):X pr (.loop Fy) (zD a0 s0)=I (Fx a0 d):=y8 (jx4 a0) (fun d=>by rcases d with d|d<;>(intro hh;cases hh)) h
def f49 (a0:Option (List ql)):Option ((Option (List ql))×qc×Int×Int):=
 cond (decide (1000<((a0.getD []).length:Int)))
  (I (Ek,⟨0,Ek,Ek,Ek⟩,0,5))
  (jw (aY (oQ a0) (Ek,I [⟨0,Ek,Ek,Ek⟩],0,Eh,true)) fun d103=>match d103 with
   | .inl d105=>
    I (Ek,⟨0,Ek,Ek,Ek⟩,d105.1,d105.2.1)
   | .inr d106=>
    jw (zn (d106.2.2.1.getD []) ((d106.1.getD []).length:Int)) fun v107=>
    I (d106.1,v107,0,0))
theorem W49 {a0 r}(h:f49 a0=I r):jy pr (X pr) 49 [sl 5 vev a0]=I (.ay [sl 5 vev r.1,aR r.2.1,Iv r.2.2.1,Iv r.2.2.2],Eh):=by
 unfold f49 at h
 refine yz PO ?_
 repeat' first|(replace h:=jx h;obtain⟨d,g,h⟩:=h; (with_reducible first|(replace g:=j7i a0 g;rcases d with d|d<;>dsimp only[zD,Fx,y7,hH,List.map,kh,zk,zw,zm,aQ,y9,vev,aV,zx,db]at g h)|skip);try dsimp only[y7,hH,List.map,kh,zk,zw,zm,aQ,y9,vev,aV,zx,db,aE,aR,aU,aL,aP,aD]at g)|(replace h:=jz h;rcases h with⟨g,h⟩|⟨g,h⟩)|fail
 all_goals (cases h<;>(simp only[go_sem,seval,PO,zj, *];exact⟨_,rfl⟩))
def f10 (a0:Option (List ql)):Option (qc×Int×Int):=
 jw (f49 a0) fun v1=>
 I (v1.2.1,v1.2.2.1,v1.2.2.2)
theorem W10 {a0 r}(h:f10 a0=I r):jy pr (X pr) 10 [sl 5 vev a0]=I (.ay [aR r.1,Iv r.2.1,Iv r.2.2],Eh):=by
 unfold f10 at h
 refine yz Kr ?_
 repeat' first|(replace h:=jx h;obtain⟨d,g,h⟩:=h;with_reducible first|replace g:=W49 g|skip)|(replace h:=jz h;rcases h with⟨g,h⟩|⟨g,h⟩)|fail
 all_goals (cases h<;>(simp only[go_sem,seval,Kr, *];exact⟨_,rfl⟩))
end Go.Z
end
