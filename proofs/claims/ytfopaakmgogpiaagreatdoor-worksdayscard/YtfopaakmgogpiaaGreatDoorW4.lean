/- Chapter 10. -/
import Derived.Test.YtfopaakmgogpiaaGreatDoorW1
set_option maxRecDepth 100000
set_option maxHeartbeats 4000000
noncomputable section
open Bool renaming false→I,true→E1
open Option renaming some→En,none→E2
namespace Go.Z
open Go Go.Abs Go.W
def He (a0:qr)(s0:Int×(Option (List ql))×Bool):Option ((Int×(Option (List ql))×Bool)⊕((Int×(Option (List ql))×Bool))):=
 cond (decide (s0.1<((a0.ax.getD []).length:Int)))
  (jx (zp (a0.ax.getD []) s0.1) fun dz=>
  cond s0.2.2
   (jx (bg s0.2.1 [dz]) fun fQ=>
   En (.inl (j9 .i64 (s0.1+1),fQ,E1)))
   (cond s0.2.1.isNone
    (jx (bg s0.2.1 [dz]) fun v20=>
    En (.inl (j9 .i64 (s0.1+1),v20,E1)))
    (E2)))
  (En (.inr (s0.1,s0.2.1,s0.2.2)))
def JH (a0:qr)(s0:Int×(Option (List ql))×Bool):qg:=⟨[(1,.ah (aD a0),I),(2,.ptr 0 0,I),(3,.ptr 1 0,I),(9,sl 2 aS a0.ax,I),(10,Lv a0.ax,I),(11,Iv s0.1,I)],[.cells [(Nl,I),(Nl,I)],.cells [(sl 2 aS s0.2.1,s0.2.2),(Nl,I)]]⟩
def JI (a0:qr)(d:(Int×(Option (List ql))×Bool)):qo×qg:=(.exit 0,⟨[(1,.ah (aD a0),I),(2,.ptr 0 0,I),(3,.ptr 1 0,I),(9,sl 2 aS a0.ax,I),(10,Lv a0.ax,I),(11,Iv d.1,I),(12,.bool I,I)],[.cells [(Nl,I),(Nl,I)],.cells [(sl 2 aS d.2.1,d.2.2),(Nl,I)]]⟩)
theorem jtv (a0:qr)(s0:Int×(Option (List ql))×Bool)(r)(h:He a0 s0=En r):yo pr JJ (JH a0) (JI a0) s0 r:=by
 unfold He at h
 repeat' first|(replace h:=jy h;obtain⟨d,g,h⟩:=h;with_reducible first|replace g:=vu g|skip)|(replace h:=j6 h;rcases h with⟨g,h⟩|⟨g,h⟩)|fail
 all_goals (cases h<;>(first|(refine zy ?_;simp only[go_sem,seval,JJ,JH,zn,JI, *]<;>rfl)|(refine yh ?_;simp only[go_sem,seval,JJ,JH,zn,JI, *]<;>rfl)))
theorem jqc (a0:qr){s0:Int×(Option (List ql))×Bool}{d}(h:bf (He a0) s0=En d):X pr (.loop JJ) (JH a0 s0)=En (JI a0 d):=yz (jtv a0) (fun d hh=>by cases hh) h
def Hf (a0:qr)(d22:Int×(Option (List ql))×Bool)(s1:Int×(Option (List qk))×Bool):Option ((Int×(Option (List qk))×Bool)⊕((Int×(Option (List qk))×Bool))):=
 cond (decide (s1.1<((a0.aw.getD []).length:Int)))
  (jx (zp (a0.aw.getD []) s1.1) fun v37=>
  cond s1.2.2
   (jx (bg s1.2.1 [v37]) fun v40=>
   En (.inl (j9 .i64 (s1.1+1),v40,E1)))
   (cond s1.2.1.isNone
    (jx (bg s1.2.1 [v37]) fun pg=>
    En (.inl (j9 .i64 (s1.1+1),pg,E1)))
    (E2)))
  (En (.inr (s1.1,s1.2.1,s1.2.2)))
def JK (a0:qr)(d22:Int×(Option (List ql))×Bool)(s1:Int×(Option (List qk))×Bool):qg:=⟨[(2,.ptr 0 0,I),(3,.ptr 1 0,I),(23,sl 3 z6 a0.aw,I),(24,Lv a0.aw,I),(25,Iv s1.1,I)],[.cells [(Nl,I),(Nl,I)],.cells [(sl 2 aS d22.2.1,d22.2.2),(sl 3 z6 s1.2.1,s1.2.2)]]⟩
def JL (a0:qr)(d22:Int×(Option (List ql))×Bool)(d:(Int×(Option (List qk))×Bool)):qo×qg:=(.exit 2,⟨[(2,.ptr 0 0,I),(3,.ptr 1 0,I),(23,sl 3 z6 a0.aw,I),(24,Lv a0.aw,I),(25,Iv d.1,I),(26,.bool I,I)],[.cells [(Nl,I),(Nl,I)],.cells [(sl 2 aS d22.2.1,d22.2.2),(sl 3 z6 d.2.1,d.2.2)]]⟩)
theorem jth (a0:qr)(d22:Int×(Option (List ql))×Bool)(s1:Int×(Option (List qk))×Bool)(r)(h:Hf a0 d22 s1=En r):yo pr JM (JK a0 d22) (JL a0 d22) s1 r:=by
 unfold Hf at h
 repeat' first|(replace h:=jy h;obtain⟨d,g,h⟩:=h;with_reducible first|replace g:=xf g|skip)|(replace h:=j6 h;rcases h with⟨g,h⟩|⟨g,h⟩)|fail
 all_goals (cases h<;>(first|(refine zy ?_;simp only[go_sem,seval,JM,JK,zn,JL, *]<;>rfl)|(refine yh ?_;simp only[go_sem,seval,JM,JK,zn,JL, *]<;>rfl)))
theorem ju3 (a0:qr)(d22:Int×(Option (List ql))×Bool){s1:Int×(Option (List qk))×Bool}{d}(h:bf (Hf a0 d22) s1=En d):X pr (.loop JM) (JK a0 d22 s1)=En (JL a0 d22 d):=yz (jth a0 d22) (fun d hh=>by cases hh) h
def f120 (a0:qr):Option qr:=
 jx (bf (He a0) (0,E2,I)) fun d22=>
 jx (bf (Hf a0 d22) (0,E2,I)) fun d45=>
 En (⟨d22.2.1,d45.2.1⟩)
theorem jqa {a0:qr}{r}(h:f120 a0=En r):jz pr (X pr) 120 [aD a0]=En (aD r,I):=by
 unfold f120 at h
 refine y7 sU ?_
 repeat' first|(replace h:=jy h;obtain⟨d,g,h⟩:=h;with_reducible first|(replace g:=jqc a0 g;dsimp only[JH,JI,y8]at g h)|(replace g:=ju3 a0 _ g;dsimp only[JK,JL,y8]at g h)|skip)|(replace h:=j6 h;rcases h with⟨g,h⟩|⟨g,h⟩)|fail
 all_goals (cases h<;>(simp only[go_sem,seval,sU, *];exact⟨_,rfl⟩))
def Hg (a0:qi)(v1:qr)(s0:Int×(Option (List qr))×Bool):Option ((Int×(Option (List qr))×Bool)⊕((Int×(Option (List qr))×Bool))):=
 cond (decide (s0.1<((a0.aH.getD []).length:Int)))
  (jx (zp (a0.aH.getD []) s0.1) fun v20=>
  jx (f120 v20) fun ea=>
  cond s0.2.2
   (jx (bg s0.2.1 [ea]) fun uR=>
   En (.inl (j9 .i64 (s0.1+1),uR,E1)))
   (cond s0.2.1.isNone
    (jx (bg s0.2.1 [ea]) fun v28=>
    En (.inl (j9 .i64 (s0.1+1),v28,E1)))
    (E2)))
  (En (.inr (s0.1,s0.2.1,s0.2.2)))
def JN (a0:qi)(v1:qr)(s0:Int×(Option (List qr))×Bool):qg:=⟨[(2,.ptr 0 0,I),(3,.ptr 1 0,I),(13,sl 2 dk a0.aH,I),(14,Lv a0.aH,I),(15,Iv s0.1,I)],[.cells [(.str [],I),(Nl,I),(Nl,I),(Nl,I)],.cells [(.str a0.name,I),(sl 2 aS v1.ax,I),(sl 3 z6 v1.aw,I),(sl 2 dk s0.2.1,s0.2.2)]]⟩
def JO (a0:qi)(v1:qr)(d:(Int×(Option (List qr))×Bool)):qo×qg:=(.exit 0,⟨[(2,.ptr 0 0,I),(3,.ptr 1 0,I),(13,sl 2 dk a0.aH,I),(14,Lv a0.aH,I),(15,Iv d.1,I),(16,.bool I,I)],[.cells [(.str [],I),(Nl,I),(Nl,I),(Nl,I)],.cells [(.str a0.name,I),(sl 2 aS v1.ax,I),(sl 3 z6 v1.aw,I),(sl 2 dk d.2.1,d.2.2)]]⟩)
theorem j00 (a0:qi)(v1:qr)(s0:Int×(Option (List qr))×Bool)(r)(h:Hg a0 v1 s0=En r):yo pr JP (JN a0 v1) (JO a0 v1) s0 r:=by
 unfold Hg at h
 repeat' first|(replace h:=jy h;obtain⟨d,g,h⟩:=h;with_reducible first|replace g:=jqa g|replace g:=UW g|skip)|(replace h:=j6 h;rcases h with⟨g,h⟩|⟨g,h⟩)|fail
 all_goals (cases h<;>(first|(refine zy ?_;simp only[go_sem,seval,JP,JN,zn,JO, *]<;>rfl)|(refine yh ?_;simp only[go_sem,seval,JP,JN,zn,JO, *]<;>rfl)))
theorem jwz (a0:qi)(v1:qr){s0:Int×(Option (List qr))×Bool}{d}(h:bf (Hg a0 v1) s0=En d):X pr (.loop JP) (JN a0 v1 s0)=En (JO a0 v1 d):=yz (j00 a0 v1) (fun d hh=>by cases hh) h
def f63 (a0:qi):Option qi:=
 jx (f120 (⟨a0.dn,a0.dt⟩)) fun v1=>
 jx (bf (Hg a0 v1) (0,E2,I)) fun d30=>
 En (⟨a0.name,v1.ax,v1.aw,d30.2.1⟩)
theorem W63 {a0:qi}{r}(h:f63 a0=En r):jz pr (X pr) 63 [aP a0]=En (aP r,I):=by
 unfold f63 at h
 refine y7 JQ ?_
 repeat' first|(replace h:=jy h;obtain⟨d,g,h⟩:=h;with_reducible first|replace g:=jqa g|(replace g:=jwz a0 _ g;dsimp only[JN,JO,y8]at g h)|skip)|(replace h:=j6 h;rcases h with⟨g,h⟩|⟨g,h⟩)|fail
 all_goals (cases h<;>(simp only[go_sem,seval,JQ, *];exact⟨_,rfl⟩))
def Hh (a0:qe)(s0:Int×(Option (List ql))×Bool):Option ((Int×(Option (List ql))×Bool)⊕((Int×(Option (List ql))×Bool))):=
 cond (decide (s0.1<((a0.uses.getD []).length:Int)))
  (jx (zp (a0.uses.getD []) s0.1) fun dz=>
  cond s0.2.2
   (jx (bg s0.2.1 [dz]) fun fQ=>
   En (.inl (j9 .i64 (s0.1+1),fQ,E1)))
   (cond s0.2.1.isNone
    (jx (bg s0.2.1 [dz]) fun v20=>
    En (.inl (j9 .i64 (s0.1+1),v20,E1)))
    (E2)))
  (En (.inr (s0.1,s0.2.1,s0.2.2)))
def JR (a0:qe)(s0:Int×(Option (List ql))×Bool):qg:=⟨[(1,.ah (aU a0),I),(2,.ptr 0 0,I),(3,.ptr 1 0,I),(22,sl 2 aS a0.uses,I),(23,Lv a0.uses,I),(24,Iv s0.1,I)],[.cells [(.str [],I),(.str [],I),(Iv 0,I),(Nl,I),(Nl,I),(.str [],I),(.bool I,I),(Iv 0,I)],.cells [(.str a0.name,I),(.str a0.product,I),(Iv a0.version,I),(sl 2 aS s0.2.1,s0.2.2),(Nl,I),(.str a0.partner,I),(.bool a0.ar,I),(Iv a0.ai,I)]]⟩
def JS (a0:qe)(d:(Int×(Option (List ql))×Bool)):qo×qg:=(.exit 0,⟨[(1,.ah (aU a0),I),(2,.ptr 0 0,I),(3,.ptr 1 0,I),(22,sl 2 aS a0.uses,I),(23,Lv a0.uses,I),(24,Iv d.1,I),(25,.bool I,I)],[.cells [(.str [],I),(.str [],I),(Iv 0,I),(Nl,I),(Nl,I),(.str [],I),(.bool I,I),(Iv 0,I)],.cells [(.str a0.name,I),(.str a0.product,I),(Iv a0.version,I),(sl 2 aS d.2.1,d.2.2),(Nl,I),(.str a0.partner,I),(.bool a0.ar,I),(Iv a0.ai,I)]]⟩)
theorem j1h (a0:qe)(s0:Int×(Option (List ql))×Bool)(r)(h:Hh a0 s0=En r):yo pr JT (JR a0) (JS a0) s0 r:=by
 unfold Hh at h
 repeat' first|(replace h:=jy h;obtain⟨d,g,h⟩:=h;with_reducible first|replace g:=vu g|skip)|(replace h:=j6 h;rcases h with⟨g,h⟩|⟨g,h⟩)|fail
 all_goals (cases h<;>(first|(refine zy ?_;simp only[go_sem,seval,JT,JR,zn,JS, *]<;>rfl)|(refine yh ?_;simp only[go_sem,seval,JT,JR,zn,JS, *]<;>rfl)))
theorem jzu (a0:qe){s0:Int×(Option (List ql))×Bool}{d}(h:bf (Hh a0) s0=En d):X pr (.loop JT) (JR a0 s0)=En (JS a0 d):=yz (j1h a0) (fun d hh=>by cases hh) h
def Hj (a0:qe)(d22:Int×(Option (List ql))×Bool)(s1:Int×(Option (List qk))×Bool):Option ((Int×(Option (List qk))×Bool)⊕((Int×(Option (List qk))×Bool))):=
 cond (decide (s1.1<((a0.results.getD []).length:Int)))
  (jx (zp (a0.results.getD []) s1.1) fun v37=>
  cond s1.2.2
   (jx (bg s1.2.1 [v37]) fun v40=>
   En (.inl (j9 .i64 (s1.1+1),v40,E1)))
   (cond s1.2.1.isNone
    (jx (bg s1.2.1 [v37]) fun pg=>
    En (.inl (j9 .i64 (s1.1+1),pg,E1)))
    (E2)))
  (En (.inr (s1.1,s1.2.1,s1.2.2)))
def JU (a0:qe)(d22:Int×(Option (List ql))×Bool)(s1:Int×(Option (List qk))×Bool):qg:=⟨[(2,.ptr 0 0,I),(3,.ptr 1 0,I),(36,sl 3 z6 a0.results,I),(37,Lv a0.results,I),(38,Iv s1.1,I)],[.cells [(.str [],I),(.str [],I),(Iv 0,I),(Nl,I),(Nl,I),(.str [],I),(.bool I,I),(Iv 0,I)],.cells [(.str a0.name,I),(.str a0.product,I),(Iv a0.version,I),(sl 2 aS d22.2.1,d22.2.2),(sl 3 z6 s1.2.1,s1.2.2),(.str a0.partner,I),(.bool a0.ar,I),(Iv a0.ai,I)]]⟩
def JV (a0:qe)(d22:Int×(Option (List ql))×Bool)(d:(Int×(Option (List qk))×Bool)):qo×qg:=(.exit 2,⟨[(2,.ptr 0 0,I),(3,.ptr 1 0,I),(36,sl 3 z6 a0.results,I),(37,Lv a0.results,I),(38,Iv d.1,I),(39,.bool I,I)],[.cells [(.str [],I),(.str [],I),(Iv 0,I),(Nl,I),(Nl,I),(.str [],I),(.bool I,I),(Iv 0,I)],.cells [(.str a0.name,I),(.str a0.product,I),(Iv a0.version,I),(sl 2 aS d22.2.1,d22.2.2),(sl 3 z6 d.2.1,d.2.2),(.str a0.partner,I),(.bool a0.ar,I),(Iv a0.ai,I)]]⟩)
theorem j6n (a0:qe)(d22:Int×(Option (List ql))×Bool)(s1:Int×(Option (List qk))×Bool)(r)(h:Hj a0 d22 s1=En r):yo pr JW (JU a0 d22) (JV a0 d22) s1 r:=by
 unfold Hj at h
 repeat' first|(replace h:=jy h;obtain⟨d,g,h⟩:=h;with_reducible first|replace g:=xf g|skip)|(replace h:=j6 h;rcases h with⟨g,h⟩|⟨g,h⟩)|fail
 all_goals (cases h<;>(first|(refine zy ?_;simp only[go_sem,seval,JW,JU,zn,JV, *]<;>rfl)|(refine yh ?_;simp only[go_sem,seval,JW,JU,zn,JV, *]<;>rfl)))
theorem j6j (a0:qe)(d22:Int×(Option (List ql))×Bool){s1:Int×(Option (List qk))×Bool}{d}(h:bf (Hj a0 d22) s1=En d):X pr (.loop JW) (JU a0 d22 s1)=En (JV a0 d22 d):=yz (j6n a0 d22) (fun d hh=>by cases hh) h
def f64 (a0:qe):Option qe:=
 jx (bf (Hh a0) (0,E2,I)) fun d22=>
 jx (bf (Hj a0 d22) (0,E2,I)) fun d45=>
 En (⟨a0.name,a0.product,a0.version,d22.2.1,d45.2.1,a0.partner,a0.ar,a0.ai⟩)
theorem W64 {a0:qe}{r}(h:f64 a0=En r):jz pr (X pr) 64 [aU a0]=En (aU r,I):=by
 unfold f64 at h
 refine y7 JX ?_
 repeat' first|(replace h:=jy h;obtain⟨d,g,h⟩:=h;with_reducible first|(replace g:=jzu a0 g;dsimp only[JR,JS,y8]at g h)|(replace g:=j6j a0 _ g;dsimp only[JU,JV,y8]at g h)|skip)|(replace h:=j6 h;rcases h with⟨g,h⟩|⟨g,h⟩)|fail
 all_goals (cases h<;>(simp only[go_sem,seval,JX, *];exact⟨_,rfl⟩))
def Hk (a0:qc)(s0:Int×(Option (List qj))×Bool):Option ((Int×(Option (List qj))×Bool)⊕((Int×(Option (List qj))×Bool))):=
 cond (decide (s0.1<((a0.au.getD []).length:Int)))
  (jx (zp (a0.au.getD []) s0.1) fun dz=>
  cond s0.2.2
   (jx (bg s0.2.1 [dz]) fun fQ=>
   En (.inl (j9 .i64 (s0.1+1),fQ,E1)))
   (cond s0.2.1.isNone
    (jx (bg s0.2.1 [dz]) fun v20=>
    En (.inl (j9 .i64 (s0.1+1),v20,E1)))
    (E2)))
  (En (.inr (s0.1,s0.2.1,s0.2.2)))
def JY (a0:qc)(s0:Int×(Option (List qj))×Bool):qg:=⟨[(1,.ah (aR a0),I),(2,.ptr 0 0,I),(3,.ptr 1 0,I),(14,sl 5 z8 a0.au,I),(15,Lv a0.au,I),(16,Iv s0.1,I)],[kZ,.cells [(Iv a0.day,I),(sl 5 z8 s0.2.1,s0.2.2),(Nl,I),(Nl,I)]]⟩
def JZ (a0:qc)(d:(Int×(Option (List qj))×Bool)):qo×qg:=(.exit 0,⟨[(1,.ah (aR a0),I),(2,.ptr 0 0,I),(3,.ptr 1 0,I),(14,sl 5 z8 a0.au,I),(15,Lv a0.au,I),(16,Iv d.1,I),(17,.bool I,I)],[kZ,.cells [(Iv a0.day,I),(sl 5 z8 d.2.1,d.2.2),(Nl,I),(Nl,I)]]⟩)
theorem jww (a0:qc)(s0:Int×(Option (List qj))×Bool)(r)(h:Hk a0 s0=En r):yo pr J0 (JY a0) (JZ a0) s0 r:=by
 unfold Hk at h
 repeat' first|(replace h:=jy h;obtain⟨d,g,h⟩:=h;with_reducible first|replace g:=Ni g|skip)|(replace h:=j6 h;rcases h with⟨g,h⟩|⟨g,h⟩)|fail
 all_goals (cases h<;>(first|(refine zy ?_;simp only[go_sem,seval,J0,JY,zn,JZ, *]<;>rfl)|(refine yh ?_;simp only[go_sem,seval,J0,JY,zn,JZ, *]<;>rfl)))
theorem j3z (a0:qc){s0:Int×(Option (List qj))×Bool}{d}(h:bf (Hk a0) s0=En d):X pr (.loop J0) (JY a0 s0)=En (JZ a0 d):=yz (jww a0) (fun d hh=>by cases hh) h
def Hl (a0:qc)(d22:Int×(Option (List qj))×Bool)(s1:Int×(Option (List qi))×Bool):Option ((Int×(Option (List qi))×Bool)⊕((Int×(Option (List qi))×Bool))):=
 cond (decide (s1.1<((a0.ae.getD []).length:Int)))
  (jx (zp (a0.ae.getD []) s1.1) fun vM=>
  jx (f63 vM) fun pg=>
  cond s1.2.2
   (jx (bg s1.2.1 [pg]) fun v46=>
   En (.inl (j9 .i64 (s1.1+1),v46,E1)))
   (cond s1.2.1.isNone
    (jx (bg s1.2.1 [pg]) fun v49=>
    En (.inl (j9 .i64 (s1.1+1),v49,E1)))
    (E2)))
  (En (.inr (s1.1,s1.2.1,s1.2.2)))
def J1 (a0:qc)(d22:Int×(Option (List qj))×Bool)(s1:Int×(Option (List qi))×Bool):qg:=⟨[(1,.ah (aR a0),I),(2,.ptr 0 0,I),(3,.ptr 1 0,I),(28,sl 4 zt a0.ae,I),(29,Lv a0.ae,I),(30,Iv s1.1,I)],[kZ,.cells [(Iv a0.day,I),(sl 5 z8 d22.2.1,d22.2.2),(sl 4 zt s1.2.1,s1.2.2),(Nl,I)]]⟩
def J2 (a0:qc)(d22:Int×(Option (List qj))×Bool)(d:(Int×(Option (List qi))×Bool)):qo×qg:=(.exit 2,⟨[(1,.ah (aR a0),I),(2,.ptr 0 0,I),(3,.ptr 1 0,I),(28,sl 4 zt a0.ae,I),(29,Lv a0.ae,I),(30,Iv d.1,I),(31,.bool I,I)],[kZ,.cells [(Iv a0.day,I),(sl 5 z8 d22.2.1,d22.2.2),(sl 4 zt d.2.1,d.2.2),(Nl,I)]]⟩)
theorem jyz (a0:qc)(d22:Int×(Option (List qj))×Bool)(s1:Int×(Option (List qi))×Bool)(r)(h:Hl a0 d22 s1=En r):yo pr J3 (J1 a0 d22) (J2 a0 d22) s1 r:=by
 unfold Hl at h
 repeat' first|(replace h:=jy h;obtain⟨d,g,h⟩:=h;with_reducible first|replace g:=W63 g|replace g:=UX g|skip)|(replace h:=j6 h;rcases h with⟨g,h⟩|⟨g,h⟩)|fail
 all_goals (cases h<;>(first|(refine zy ?_;simp only[go_sem,seval,J3,J1,zn,J2, *]<;>rfl)|(refine yh ?_;simp only[go_sem,seval,J3,J1,zn,J2, *]<;>rfl)))
theorem jwf (a0:qc)(d22:Int×(Option (List qj))×Bool){s1:Int×(Option (List qi))×Bool}{d}(h:bf (Hl a0 d22) s1=En d):X pr (.loop J3) (J1 a0 d22 s1)=En (J2 a0 d22 d):=yz (jyz a0 d22) (fun d hh=>by cases hh) h
def Hm (a0:qc)(d22:Int×(Option (List qj))×Bool)(d51:Int×(Option (List qi))×Bool)(s2:Int×(Option (List qe))×Bool):Option ((Int×(Option (List qe))×Bool)⊕((Int×(Option (List qe))×Bool))):=
 cond (decide (s2.1<((a0.units.getD []).length:Int)))
  (jx (zp (a0.units.getD []) s2.1) fun v70=>
  jx (f64 v70) fun v72=>
  cond s2.2.2
   (jx (bg s2.2.1 [v72]) fun v75=>
   En (.inl (j9 .i64 (s2.1+1),v75,E1)))
   (cond s2.2.1.isNone
    (jx (bg s2.2.1 [v72]) fun N1=>
    En (.inl (j9 .i64 (s2.1+1),N1,E1)))
    (E2)))
  (En (.inr (s2.1,s2.2.1,s2.2.2)))
def J4 (a0:qc)(d22:Int×(Option (List qj))×Bool)(d51:Int×(Option (List qi))×Bool)(s2:Int×(Option (List qe))×Bool):qg:=⟨[(2,.ptr 0 0,I),(3,.ptr 1 0,I),(43,sl 8 bh a0.units,I),(44,Lv a0.units,I),(45,Iv s2.1,I)],[kZ,.cells [(Iv a0.day,I),(sl 5 z8 d22.2.1,d22.2.2),(sl 4 zt d51.2.1,d51.2.2),(sl 8 bh s2.2.1,s2.2.2)]]⟩
def J5 (a0:qc)(d22:Int×(Option (List qj))×Bool)(d51:Int×(Option (List qi))×Bool)(d:(Int×(Option (List qe))×Bool)):qo×qg:=(.exit 4,⟨[(2,.ptr 0 0,I),(3,.ptr 1 0,I),(43,sl 8 bh a0.units,I),(44,Lv a0.units,I),(45,Iv d.1,I),(46,.bool I,I)],[kZ,.cells [(Iv a0.day,I),(sl 5 z8 d22.2.1,d22.2.2),(sl 4 zt d51.2.1,d51.2.2),(sl 8 bh d.2.1,d.2.2)]]⟩)
theorem j0h (a0:qc)(d22:Int×(Option (List qj))×Bool)(d51:Int×(Option (List qi))×Bool)(s2:Int×(Option (List qe))×Bool)(r)(h:Hm a0 d22 d51 s2=En r):yo pr J6 (J4 a0 d22 d51) (J5 a0 d22 d51) s2 r:=by
 unfold Hm at h
 repeat' first|(replace h:=jy h;obtain⟨d,g,h⟩:=h;with_reducible first|replace g:=W64 g|replace g:=UY g|skip)|(replace h:=j6 h;rcases h with⟨g,h⟩|⟨g,h⟩)|fail
 all_goals (cases h<;>(first|(refine zy ?_;simp only[go_sem,seval,J6,J4,zn,J5, *]<;>rfl)|(refine yh ?_;simp only[go_sem,seval,J6,J4,zn,J5, *]<;>rfl)))
theorem j5u (a0:qc)(d22:Int×(Option (List qj))×Bool)(d51:Int×(Option (List qi))×Bool){s2:Int×(Option (List qe))×Bool}{d}(h:bf (Hm a0 d22 d51) s2=En d):X pr (.loop J6) (J4 a0 d22 d51 s2)=En (J5 a0 d22 d51 d):=yz (j0h a0 d22 d51) (fun d hh=>by cases hh) h
def f14 (a0:qc):Option qc:=
 jx (bf (Hk a0) (0,E2,I)) fun d22=>
 jx (bf (Hl a0 d22) (0,E2,I)) fun d51=>
 jx (bf (Hm a0 d22 d51) (0,E2,I)) fun d80=>
 En (⟨a0.day,d22.2.1,d51.2.1,d80.2.1⟩)
theorem W14 {a0:qc}{r}(h:f14 a0=En r):jz pr (X pr) 14 [aR a0]=En (aR r,I):=by
 unfold f14 at h
 refine y7 J7 ?_
 repeat' first|(replace h:=jy h;obtain⟨d,g,h⟩:=h;with_reducible first|(replace g:=j3z a0 g;dsimp only[JY,JZ,y8]at g h)|(replace g:=jwf a0 _ g;dsimp only[J1,J2,y8]at g h)|(replace g:=j5u a0 _ _ g;dsimp only[J4,J5,y8]at g h)|skip)|(replace h:=j6 h;rcases h with⟨g,h⟩|⟨g,h⟩)|fail
 all_goals (cases h<;>(simp only[go_sem,seval,J7, *];exact⟨_,rfl⟩))
end Go.Z
namespace Go.Z
open Go Go.Abs Go.W
def f59 (a0:Int)(a1:Int)(a2:Int):Option Bool:=
 cond (decide (a0<a1))
  (En E1)
  (En (decide (a2<a0)))
theorem NT {a0:Int}{a1:Int}{a2:Int}{r}(h:f59 a0 a1 a2=En r):jz pr (X pr) 59 [Iv a0,Iv a1,Iv a2]=En (.bool r,I):=by
 unfold f59 at h
 refine y7 J8 ?_
 repeat' first|(replace h:=j6 h;rcases h with⟨g,h⟩|⟨g,h⟩)|fail
 all_goals (cases h<;>(simp only[go_sem,seval,J8, *];exact⟨_,rfl⟩))
end Go.Z
end
