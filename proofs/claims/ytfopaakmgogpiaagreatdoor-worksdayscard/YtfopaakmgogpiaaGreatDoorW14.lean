/- Chapter 10. -/
import Derived.Test.YtfopaakmgogpiaaGreatDoorW12
set_option maxRecDepth 100000
set_option maxHeartbeats 4000000
noncomputable section
open Bool renaming false→I
open Option renaming some→En,none→E1
namespace Go.Z
open Go Go.Abs Go.W
def f11 (a0:qm):Option Int:=
 jx (f52 a0.number 1 1000) fun v1=>
 jx (f53 (!(DE a0.kind)) 13) fun v3=>
 jx (f53 (!(decide (((a0.names.getD []).length:Int)=((yt a0.kind).length:Int))&&decide (((a0.values.getD []).length:Int)=(mP a0.kind)))) 2) fun v5=>
 jx (f51 (En [v1,v3,v5])) fun v7=>
 cond (decide (v7=0))
  (jx (f54 a0.names) fun v10=>
  jx (f57 a0.values) fun v12=>
  jx (f51 v10.1) fun dz=>
  jx (f51 v12.1) fun dm=>
  jx (f53 (!decide (a0.text=[])) 1) fun gq=>
  jx (f51 (En [dz,dm,gq])) fun v20=>
  En v20)
  (En v7)
theorem W11 {a0:qm}{r}(h:f11 a0=En r):jz pr (X pr) 11 [aE a0]=En (Iv r,I):=by
 unfold f11 at h
 refine y7 IQ ?_
 repeat' first|(replace h:=jy h;obtain⟨d,g,h⟩:=h; (with_reducible first|replace g:=Ig g|replace g:=gp g|replace g:=l5 g|replace g:=W54 g|replace g:=W57 g|skip);try dsimp only[y8,ly,List.map,kw,qag,z8,zt,bh,y6,vev,aS,z6,dk,aE,aR,aU,aL,aP,aD]at g)|(replace h:=j6 h;rcases h with⟨g,h⟩|⟨g,h⟩)|fail
 all_goals (cases h<;>(simp only[go_sem,seval,IQ,jnh, *];exact⟨_,rfl⟩))
end Go.Z
namespace Go.Z
open Go Go.Abs Go.W
def ot (a0:Option (List qm))(s0:(Option (List qm))×(Option (List qc))×Int×Bool×Bool):Option (((Option (List qm))×(Option (List qc))×Int×Bool×Bool)⊕((Int×Int×Int×(Option (List qj))×(Option (List qi))×(Option (List qe)))⊕((Option (List qm))×Bool×(Option (List qc))×Bool×Int))):=
 cond (decide (s0.2.2.1<((a0.getD []).length:Int)))
  (jx (zp (a0.getD []) s0.2.2.1) fun v75=>
  jx (f12 v75) fun v77=>
  cond (decide (v77=0))
   (cond (decide (v75.number=(j9 .i64 (s0.2.2.1+1))))
    (cond (decide (v75.kind=([117,110,100,111]:List UInt8)))
     (cond (decide (((s0.1.getD []).length:Int)=0))
      (En (.inr (.inl (j9 .i64 (s0.2.2.1+1),12,0,E1,E1,E1))))
      (jx (zp (s0.1.getD []) (j9 .i64 (((s0.1.getD []).length:Int)-1))) fun Wm=>
      cond (decide (Wm.kind=([115,104,105,112]:List UInt8)))
       (En (.inr (.inl (j9 .i64 (s0.2.2.1+1),19,0,E1,E1,E1))))
       (jx (xg s0.1 E1 (En (j9 .i64 (((s0.1.getD []).length:Int)-1)))) fun v86=>
       jx (xg s0.2.1 E1 (En ((s0.1.getD []).length:Int))) fun Wn=>
       En (.inl (v86,Wn,j9 .i64 (s0.2.2.1+1),I,I)))))
     (jx (zp (s0.2.1.getD []) ((s0.1.getD []).length:Int)) fun N2=>
     jx (f69 N2 v75) fun Bb=>
     cond (decide (Bb.2=0))
      (jx (bg (En []) (s0.1.getD [])) fun Wo=>
      jx (bg Wo [v75]) fun Wp=>
      jx (bg (En []) (s0.2.1.getD [])) fun N3=>
      jx (bg N3 [Bb.1]) fun Wv=>
      En (.inl (Wp,Wv,j9 .i64 (s0.2.2.1+1),true,true)))
      (En (.inr (.inl (j9 .i64 (s0.2.2.1+1),Bb.2,Bb.1.day,Bb.1.au,Bb.1.ae,Bb.1.units))))))
    (En (.inr (.inl (j9 .i64 (s0.2.2.1+1),11,0,E1,E1,E1)))))
   (En (.inr (.inl (j9 .i64 (s0.2.2.1+1),v77,0,E1,E1,E1)))))
  (En (.inr (.inr (s0.1,s0.2.2.2.1,s0.2.1,s0.2.2.2.2,s0.2.2.1))))
def xV (a0:Option (List qm))(s0:(Option (List qm))×(Option (List qc))×Int×Bool×Bool):qg:=⟨[(0,sl 5 vev a0,I),(3,.ptr 0 0,I),(6,sl 5 vev s0.1,s0.2.2.2.1),(7,sl 4 y6 s0.2.1,s0.2.2.2.2),(8,Iv s0.2.2.1,I)],[kZ]⟩
def Ea (a0:Option (List qm)):(Int×Int×Int×(Option (List qj))×(Option (List qi))×(Option (List qe)))⊕((Option (List qm))×Bool×(Option (List qc))×Bool×Int)→qo×qg
 | .inl d=>(.ret,⟨[(2,Nl,I),(3,.ptr 0 0,I),(4,Iv d.1,I),(5,Iv d.2.1,I)],[kZ,.cells [(Iv d.2.2.1,I),(sl 5 z8 d.2.2.2.1,I),(sl 4 zt d.2.2.2.2.1,I),(sl 8 bh d.2.2.2.2.2,I)]]⟩)
 | .inr d=>(.exit 0,⟨[(0,sl 5 vev a0,I),(3,.ptr 0 0,I),(6,sl 5 vev d.1,d.2.1),(7,sl 4 y6 d.2.2.1,d.2.2.2.1),(8,Iv d.2.2.2.2,I),(21,.bool I,I)],[kZ]⟩)
theorem j4t (a0:Option (List qm))(s0:(Option (List qm))×(Option (List qc))×Int×Bool×Bool)(r)(h:ot a0 s0=En r):yo pr Eb (xV a0) (Ea a0) s0 r:=by
 unfold ot at h
 repeat' first|(replace h:=jy h;obtain⟨d,g,h⟩:=h;with_reducible first|replace g:=W12 g|replace g:=W69 g|replace g:=jol g|replace g:=jcp g|replace g:=jld g|skip)|(replace h:=j6 h;rcases h with⟨g,h⟩|⟨g,h⟩)|fail
 all_goals (cases h<;>(first|(refine zy ?_;simp only[go_sem,seval,Eb,xV,zn,Ea,lT, *]<;>rfl)|(refine yh ?_;simp only[go_sem,seval,Eb,xV,zn,Ea,lT, *]<;>rfl)|(refine q6x ?_ rfl (by first|simp only[go_sem,seval,xV]|rfl) (by first|simp only[go_sem,seval,xV]|rfl);simp only[go_sem,seval,Eb,xV,zn,Ea,lT, *];exact⟨_,rfl⟩)))
theorem j6x (a0:Option (List qm)){s0:(Option (List qm))×(Option (List qc))×Int×Bool×Bool}{d}(h:bf (ot a0) s0=En d):X pr (.loop Eb) (xV a0 s0)=En (Ea a0 d):=yz (j4t a0) (fun d=>by rcases d with d|d<;>(intro hh;cases hh)) h
def f49 (a0:Option (List qm)):Option ((Option (List qm))×qc×Int×Int):=
 cond (decide (1000<((a0.getD []).length:Int)))
  (En (E1,⟨0,E1,E1,E1⟩,0,5))
  (jx (bf (ot a0) (E1,En [⟨0,E1,E1,E1⟩],0,I,true)) fun d103=>match d103 with
   | .inl d105=>
    En (E1,⟨0,E1,E1,E1⟩,d105.1,d105.2.1)
   | .inr d106=>
    jx (zp (d106.2.2.1.getD []) ((d106.1.getD []).length:Int)) fun v107=>
    En (d106.1,v107,0,0))
theorem W49 {a0:Option (List qm)}{r}(h:f49 a0=En r):jz pr (X pr) 49 [sl 5 vev a0]=En (.aC [sl 5 vev r.1,aR r.2.1,Iv r.2.2.1,Iv r.2.2.2],I):=by
 unfold f49 at h
 refine y7 N7 ?_
 repeat' first|(replace h:=jy h;obtain⟨d,g,h⟩:=h; (with_reducible first|(replace g:=j6x a0 g;rcases d with d|d<;>dsimp only[xV,Ea,y8,ly,List.map,kw,qag,z8,zt,bh,y6,vev,aS,z6,dk]at g h)|skip);try dsimp only[y8,ly,List.map,kw,qag,z8,zt,bh,y6,vev,aS,z6,dk,aE,aR,aU,aL,aP,aD]at g)|(replace h:=j6 h;rcases h with⟨g,h⟩|⟨g,h⟩)|fail
 all_goals (cases h<;>(simp only[go_sem,seval,N7,zn, *];exact⟨_,rfl⟩))
def qQ (a1:Int)(v1:(Option (List qm))×qc×Int×Int)(s0:Int×Int×(Option (List qj))×(Option (List qi))×(Option (List qe))):Option ((Int×Int×(Option (List qj))×(Option (List qi))×(Option (List qe)))⊕((Int×Int×(Option (List qj))×(Option (List qi))×(Option (List qe))))):=
 cond (decide (s0.1<((v1.1.getD []).length:Int)))
  (jx (zp (v1.1.getD []) s0.1) fun v24=>
  jx (zp (v24.values.getD []) 0) fun eI=>
  cond (decide (eI≤a1))
   (jx (f69 (⟨s0.2.1,s0.2.2.1,s0.2.2.2.1,s0.2.2.2.2⟩) v24) fun fk=>
   En (.inl (j9 .i64 (s0.1+1),fk.1.day,fk.1.au,fk.1.ae,fk.1.units)))
   (En (.inl (j9 .i64 (s0.1+1),s0.2.1,s0.2.2.1,s0.2.2.2.1,s0.2.2.2.2))))
  (En (.inr (s0.1,s0.2.1,s0.2.2.1,s0.2.2.2.1,s0.2.2.2.2)))
def IU (a1:Int)(v1:(Option (List qm))×qc×Int×Int)(s0:Int×Int×(Option (List qj))×(Option (List qi))×(Option (List qe))):qg:=⟨[(1,Iv a1,I),(4,.ptr 0 0,I),(6,sl 5 vev v1.1,I),(10,.ptr 1 0,I),(11,Iv s0.1,I)],[kZ,.cells [(Iv s0.2.1,I),(sl 5 z8 s0.2.2.1,I),(sl 4 zt s0.2.2.2.1,I),(sl 8 bh s0.2.2.2.2,I)]]⟩
def IV (a1:Int)(v1:(Option (List qm))×qc×Int×Int)(d:(Int×Int×(Option (List qj))×(Option (List qi))×(Option (List qe)))):qo×qg:=(.exit 0,⟨[(1,Iv a1,I),(4,.ptr 0 0,I),(6,sl 5 vev v1.1,I),(10,.ptr 1 0,I),(11,Iv d.1,I),(30,.bool I,I)],[kZ,.cells [(Iv d.2.1,I),(sl 5 z8 d.2.2.1,I),(sl 4 zt d.2.2.2.1,I),(sl 8 bh d.2.2.2.2,I)]]⟩)
theorem j0z (a1:Int)(v1:(Option (List qm))×qc×Int×Int)(s0:Int×Int×(Option (List qj))×(Option (List qi))×(Option (List qe)))(r)(h:qQ a1 v1 s0=En r):yo pr IW (IU a1 v1) (IV a1 v1) s0 r:=by
 unfold qQ at h
 repeat' first|(replace h:=jy h;obtain⟨d,g,h⟩:=h;with_reducible first|replace g:=W69 g|skip)|(replace h:=j6 h;rcases h with⟨g,h⟩|⟨g,h⟩)|fail
 all_goals (cases h<;>(first|(refine zy ?_;simp only[go_sem,seval,IW,IU,zn,IV, *]<;>rfl)|(refine yh ?_;simp only[go_sem,seval,IW,IU,zn,IV, *]<;>rfl)))
theorem j20 (a1:Int)(v1:(Option (List qm))×qc×Int×Int){s0:Int×Int×(Option (List qj))×(Option (List qi))×(Option (List qe))}{d}(h:bf (qQ a1 v1) s0=En d):X pr (.loop IW) (IU a1 v1 s0)=En (IV a1 v1 d):=yz (j0z a1 v1) (fun d hh=>by cases hh) h
def f18 (a0:Option (List qm))(a1:Int):Option (qc×Int):=
 jx (f49 a0) fun v1=>
 cond (decide (v1.2.2.2=0))
  (jx (f59 a1 0 999999999) fun v4=>
  cond v4
   (En (⟨0,E1,E1,E1⟩,3))
   (jx (bf (qQ a1 v1) (0,0,E1,E1,E1)) fun d31=>
   En (⟨d31.2.1,d31.2.2.1,d31.2.2.2.1,d31.2.2.2.2⟩,0)))
  (En (⟨0,E1,E1,E1⟩,v1.2.2.2))
theorem W18 {a0:Option (List qm)}{a1:Int}{r}(h:f18 a0 a1=En r):jz pr (X pr) 18 [sl 5 vev a0,Iv a1]=En (.aC [aR r.1,Iv r.2],I):=by
 unfold f18 at h
 refine y7 N8 ?_
 repeat' first|(replace h:=jy h;obtain⟨d,g,h⟩:=h;with_reducible first|replace g:=W49 g|replace g:=NT g|(replace g:=j20 a1 _ g;dsimp only[IU,IV,y8]at g h)|skip)|(replace h:=j6 h;rcases h with⟨g,h⟩|⟨g,h⟩)|fail
 all_goals (cases h<;>(simp only[go_sem,seval,N8, *];exact⟨_,rfl⟩))
end Go.Z
end
