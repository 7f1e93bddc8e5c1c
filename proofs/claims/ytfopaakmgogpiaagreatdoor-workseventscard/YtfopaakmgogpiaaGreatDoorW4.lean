/- Chapter 10. -/
import Derived.Test.YtfopaakmgogpiaaGreatDoorW1
import Derived.Test.YtfopaakmgogpiaaGreatDoorAbsL
import Derived.Test.YtfopaakmgogpiaaGreatDoorCA
set_option linter.unusedVariables false
set_option linter.unusedSimpArgs false
set_option maxRecDepth 100000
set_option maxHeartbeats 4000000
noncomputable section
open Bool renaming false→I,true→En
open Option renaming some→Ef,none→E0
namespace Go.Z
open Go Go.Abs Go.W
def Hr (a0:qr)(s0:Int×(Option (List qm))×Bool):Option ((Int×(Option (List qm))×Bool)⊕((Int×(Option (List qm))×Bool))):=
 cond (decide (s0.1<((a0.ax.getD []).length:Int)))
  (jw (zo (a0.ax.getD []) s0.1) fun dG=>
  cond s0.2.2
   (jw (bh s0.2.1 [dG]) fun fT=>
   Ef (.inl (j6 .i64 (s0.1+1),fT,En)))
   (cond s0.2.1.isNone
    (jw (bh s0.2.1 [dG]) fun v20=>
    Ef (.inl (j6 .i64 (s0.1+1),v20,En)))
    (E0)))
  (Ef (.inr (s0.1,s0.2.1,s0.2.2)))
def JE (a0:qr)(s0:Int×(Option (List qm))×Bool):qg:=⟨[(1,.ah (aD a0),I),(2,.ptr 0 0,I),(3,.ptr 1 0,I),(9,sl 2 aS a0.ax,I),(10,Lv a0.ax,I),(11,Iv s0.1,I)],[.cells [(Nl,I),(Nl,I)],.cells [(sl 2 aS s0.2.1,s0.2.2),(Nl,I)]]⟩
def JF (a0:qr)(d:(Int×(Option (List qm))×Bool)):qo×qg:=(.exit 0,⟨[(1,.ah (aD a0),I),(2,.ptr 0 0,I),(3,.ptr 1 0,I),(9,sl 2 aS a0.ax,I),(10,Lv a0.ax,I),(11,Iv d.1,I),(12,.bool I,I)],[.cells [(Nl,I),(Nl,I)],.cells [(sl 2 aS d.2.1,d.2.2),(Nl,I)]]⟩)
theorem jti (a0:qr)(s0:Int×(Option (List qm))×Bool)(r)(h:Hr a0 s0=Ef r):yp pr JG (JE a0) (JF a0) s0 r:=by
 unfold Hr at h
 repeat' first|(replace h:=jx h;obtain⟨d,g,h⟩:=h;with_reducible first|replace g:=vH g|skip)|(replace h:=jz h;rcases h with⟨g,h⟩|⟨g,h⟩)|fail
 all_goals (cases h<;>(first|(refine zw ?_;simp only[go_sem,seval,JG,JE,zn,JF, *]<;>rfl)|(refine yj ?_;simp only[go_sem,seval,JG,JE,zn,JF, *]<;>rfl)))
theorem juh (a0:qr){s0:Int×(Option (List qm))×Bool}{d}(h:bf (Hr a0) s0=Ef d):X pr (.loop JG) (JE a0 s0)=Ef (JF a0 d):=y7 (jti a0) (fun d hh=>by cases hh) h
def Hs (a0:qr)(d22:Int×(Option (List qm))×Bool)(s1:Int×(Option (List qj))×Bool):Option ((Int×(Option (List qj))×Bool)⊕((Int×(Option (List qj))×Bool))):=
 cond (decide (s1.1<((a0.aw.getD []).length:Int)))
  (jw (zo (a0.aw.getD []) s1.1) fun v37=>
  cond s1.2.2
   (jw (bh s1.2.1 [v37]) fun v40=>
   Ef (.inl (j6 .i64 (s1.1+1),v40,En)))
   (cond s1.2.1.isNone
    (jw (bh s1.2.1 [v37]) fun py=>
    Ef (.inl (j6 .i64 (s1.1+1),py,En)))
    (E0)))
  (Ef (.inr (s1.1,s1.2.1,s1.2.2)))
def JH (a0:qr)(d22:Int×(Option (List qm))×Bool)(s1:Int×(Option (List qj))×Bool):qg:=⟨[(2,.ptr 0 0,I),(3,.ptr 1 0,I),(23,sl 3 zz a0.aw,I),(24,Lv a0.aw,I),(25,Iv s1.1,I)],[.cells [(Nl,I),(Nl,I)],.cells [(sl 2 aS d22.2.1,d22.2.2),(sl 3 zz s1.2.1,s1.2.2)]]⟩
def JI (a0:qr)(d22:Int×(Option (List qm))×Bool)(d:(Int×(Option (List qj))×Bool)):qo×qg:=(.exit 2,⟨[(2,.ptr 0 0,I),(3,.ptr 1 0,I),(23,sl 3 zz a0.aw,I),(24,Lv a0.aw,I),(25,Iv d.1,I),(26,.bool I,I)],[.cells [(Nl,I),(Nl,I)],.cells [(sl 2 aS d22.2.1,d22.2.2),(sl 3 zz d.2.1,d.2.2)]]⟩)
theorem jss (a0:qr)(d22:Int×(Option (List qm))×Bool)(s1:Int×(Option (List qj))×Bool)(r)(h:Hs a0 d22 s1=Ef r):yp pr JJ (JH a0 d22) (JI a0 d22) s1 r:=by
 unfold Hs at h
 repeat' first|(replace h:=jx h;obtain⟨d,g,h⟩:=h;with_reducible first|replace g:=xt g|skip)|(replace h:=jz h;rcases h with⟨g,h⟩|⟨g,h⟩)|fail
 all_goals (cases h<;>(first|(refine zw ?_;simp only[go_sem,seval,JJ,JH,zn,JI, *]<;>rfl)|(refine yj ?_;simp only[go_sem,seval,JJ,JH,zn,JI, *]<;>rfl)))
theorem jro (a0:qr)(d22:Int×(Option (List qm))×Bool){s1:Int×(Option (List qj))×Bool}{d}(h:bf (Hs a0 d22) s1=Ef d):X pr (.loop JJ) (JH a0 d22 s1)=Ef (JI a0 d22 d):=y7 (jss a0 d22) (fun d hh=>by cases hh) h
def f120 (a0:qr):Option qr:=
 jw (bf (Hr a0) (0,E0,I)) fun d22=>
 jw (bf (Hs a0 d22) (0,E0,I)) fun d45=>
 Ef (⟨d22.2.1,d45.2.1⟩)
theorem jsk {a0:qr}{r}(h:f120 a0=Ef r):jy pr (X pr) 120 [aD a0]=Ef (aD r,I):=by
 unfold f120 at h
 refine y6 sZ ?_
 repeat' first|(replace h:=jx h;obtain⟨d,g,h⟩:=h;with_reducible first|(replace g:=juh a0 g;dsimp only[JE,JF,y9]at g h)|(replace g:=jro a0 _ g;dsimp only[JH,JI,y9]at g h)|skip)|(replace h:=jz h;rcases h with⟨g,h⟩|⟨g,h⟩)|fail
 all_goals (cases h<;>(simp only[go_sem,seval,sZ, *];exact⟨_,rfl⟩))
def Ht (a0:qi)(v1:qr)(s0:Int×(Option (List qr))×Bool):Option ((Int×(Option (List qr))×Bool)⊕((Int×(Option (List qr))×Bool))):=
 cond (decide (s0.1<((a0.aH.getD []).length:Int)))
  (jw (zo (a0.aH.getD []) s0.1) fun v20=>
  jw (f120 v20) fun ej=>
  cond s0.2.2
   (jw (bh s0.2.1 [ej]) fun pz=>
   Ef (.inl (j6 .i64 (s0.1+1),pz,En)))
   (cond s0.2.1.isNone
    (jw (bh s0.2.1 [ej]) fun v28=>
    Ef (.inl (j6 .i64 (s0.1+1),v28,En)))
    (E0)))
  (Ef (.inr (s0.1,s0.2.1,s0.2.2)))
def JK (a0:qi)(v1:qr)(s0:Int×(Option (List qr))×Bool):qg:=⟨[(2,.ptr 0 0,I),(3,.ptr 1 0,I),(13,sl 2 dp a0.aH,I),(14,Lv a0.aH,I),(15,Iv s0.1,I)],[.cells [(.str [],I),(Nl,I),(Nl,I),(Nl,I)],.cells [(.str a0.name,I),(sl 2 aS v1.ax,I),(sl 3 zz v1.aw,I),(sl 2 dp s0.2.1,s0.2.2)]]⟩
def JL (a0:qi)(v1:qr)(d:(Int×(Option (List qr))×Bool)):qo×qg:=(.exit 0,⟨[(2,.ptr 0 0,I),(3,.ptr 1 0,I),(13,sl 2 dp a0.aH,I),(14,Lv a0.aH,I),(15,Iv d.1,I),(16,.bool I,I)],[.cells [(.str [],I),(Nl,I),(Nl,I),(Nl,I)],.cells [(.str a0.name,I),(sl 2 aS v1.ax,I),(sl 3 zz v1.aw,I),(sl 2 dp d.2.1,d.2.2)]]⟩)
theorem j6q (a0:qi)(v1:qr)(s0:Int×(Option (List qr))×Bool)(r)(h:Ht a0 v1 s0=Ef r):yp pr JM (JK a0 v1) (JL a0 v1) s0 r:=by
 unfold Ht at h
 repeat' first|(replace h:=jx h;obtain⟨d,g,h⟩:=h;with_reducible first|replace g:=jsk g|replace g:=UX g|skip)|(replace h:=jz h;rcases h with⟨g,h⟩|⟨g,h⟩)|fail
 all_goals (cases h<;>(first|(refine zw ?_;simp only[go_sem,seval,JM,JK,zn,JL, *]<;>rfl)|(refine yj ?_;simp only[go_sem,seval,JM,JK,zn,JL, *]<;>rfl)))
theorem jx1 (a0:qi)(v1:qr){s0:Int×(Option (List qr))×Bool}{d}(h:bf (Ht a0 v1) s0=Ef d):X pr (.loop JM) (JK a0 v1 s0)=Ef (JL a0 v1 d):=y7 (j6q a0 v1) (fun d hh=>by cases hh) h
def f63 (a0:qi):Option qi:=
 jw (f120 (⟨a0.dn,a0.dt⟩)) fun v1=>
 jw (bf (Ht a0 v1) (0,E0,I)) fun d30=>
 Ef (⟨a0.name,v1.ax,v1.aw,d30.2.1⟩)
theorem W63 {a0:qi}{r}(h:f63 a0=Ef r):jy pr (X pr) 63 [aP a0]=Ef (aP r,I):=by
 unfold f63 at h
 refine y6 JN ?_
 repeat' first|(replace h:=jx h;obtain⟨d,g,h⟩:=h;with_reducible first|replace g:=jsk g|(replace g:=jx1 a0 _ g;dsimp only[JK,JL,y9]at g h)|skip)|(replace h:=jz h;rcases h with⟨g,h⟩|⟨g,h⟩)|fail
 all_goals (cases h<;>(simp only[go_sem,seval,JN, *];exact⟨_,rfl⟩))
def Hu (a0:qf)(s0:Int×(Option (List qm))×Bool):Option ((Int×(Option (List qm))×Bool)⊕((Int×(Option (List qm))×Bool))):=
 cond (decide (s0.1<((a0.uses.getD []).length:Int)))
  (jw (zo (a0.uses.getD []) s0.1) fun dG=>
  cond s0.2.2
   (jw (bh s0.2.1 [dG]) fun fT=>
   Ef (.inl (j6 .i64 (s0.1+1),fT,En)))
   (cond s0.2.1.isNone
    (jw (bh s0.2.1 [dG]) fun v20=>
    Ef (.inl (j6 .i64 (s0.1+1),v20,En)))
    (E0)))
  (Ef (.inr (s0.1,s0.2.1,s0.2.2)))
def JO (a0:qf)(s0:Int×(Option (List qm))×Bool):qg:=⟨[(1,.ah (aU a0),I),(2,.ptr 0 0,I),(3,.ptr 1 0,I),(22,sl 2 aS a0.uses,I),(23,Lv a0.uses,I),(24,Iv s0.1,I)],[.cells [(.str [],I),(.str [],I),(Iv 0,I),(Nl,I),(Nl,I),(.str [],I),(.bool I,I),(Iv 0,I)],.cells [(.str a0.name,I),(.str a0.product,I),(Iv a0.version,I),(sl 2 aS s0.2.1,s0.2.2),(Nl,I),(.str a0.partner,I),(.bool a0.aq,I),(Iv a0.ai,I)]]⟩
def JP (a0:qf)(d:(Int×(Option (List qm))×Bool)):qo×qg:=(.exit 0,⟨[(1,.ah (aU a0),I),(2,.ptr 0 0,I),(3,.ptr 1 0,I),(22,sl 2 aS a0.uses,I),(23,Lv a0.uses,I),(24,Iv d.1,I),(25,.bool I,I)],[.cells [(.str [],I),(.str [],I),(Iv 0,I),(Nl,I),(Nl,I),(.str [],I),(.bool I,I),(Iv 0,I)],.cells [(.str a0.name,I),(.str a0.product,I),(Iv a0.version,I),(sl 2 aS d.2.1,d.2.2),(Nl,I),(.str a0.partner,I),(.bool a0.aq,I),(Iv a0.ai,I)]]⟩)
theorem jwu (a0:qf)(s0:Int×(Option (List qm))×Bool)(r)(h:Hu a0 s0=Ef r):yp pr JQ (JO a0) (JP a0) s0 r:=by
 unfold Hu at h
 repeat' first|(replace h:=jx h;obtain⟨d,g,h⟩:=h;with_reducible first|replace g:=vH g|skip)|(replace h:=jz h;rcases h with⟨g,h⟩|⟨g,h⟩)|fail
 all_goals (cases h<;>(first|(refine zw ?_;simp only[go_sem,seval,JQ,JO,zn,JP, *]<;>rfl)|(refine yj ?_;simp only[go_sem,seval,JQ,JO,zn,JP, *]<;>rfl)))
theorem j4l (a0:qf){s0:Int×(Option (List qm))×Bool}{d}(h:bf (Hu a0) s0=Ef d):X pr (.loop JQ) (JO a0 s0)=Ef (JP a0 d):=y7 (jwu a0) (fun d hh=>by cases hh) h
def Hv (a0:qf)(d22:Int×(Option (List qm))×Bool)(s1:Int×(Option (List qj))×Bool):Option ((Int×(Option (List qj))×Bool)⊕((Int×(Option (List qj))×Bool))):=
 cond (decide (s1.1<((a0.results.getD []).length:Int)))
  (jw (zo (a0.results.getD []) s1.1) fun v37=>
  cond s1.2.2
   (jw (bh s1.2.1 [v37]) fun v40=>
   Ef (.inl (j6 .i64 (s1.1+1),v40,En)))
   (cond s1.2.1.isNone
    (jw (bh s1.2.1 [v37]) fun py=>
    Ef (.inl (j6 .i64 (s1.1+1),py,En)))
    (E0)))
  (Ef (.inr (s1.1,s1.2.1,s1.2.2)))
def JR (a0:qf)(d22:Int×(Option (List qm))×Bool)(s1:Int×(Option (List qj))×Bool):qg:=⟨[(2,.ptr 0 0,I),(3,.ptr 1 0,I),(36,sl 3 zz a0.results,I),(37,Lv a0.results,I),(38,Iv s1.1,I)],[.cells [(.str [],I),(.str [],I),(Iv 0,I),(Nl,I),(Nl,I),(.str [],I),(.bool I,I),(Iv 0,I)],.cells [(.str a0.name,I),(.str a0.product,I),(Iv a0.version,I),(sl 2 aS d22.2.1,d22.2.2),(sl 3 zz s1.2.1,s1.2.2),(.str a0.partner,I),(.bool a0.aq,I),(Iv a0.ai,I)]]⟩
def JS (a0:qf)(d22:Int×(Option (List qm))×Bool)(d:(Int×(Option (List qj))×Bool)):qo×qg:=(.exit 2,⟨[(2,.ptr 0 0,I),(3,.ptr 1 0,I),(36,sl 3 zz a0.results,I),(37,Lv a0.results,I),(38,Iv d.1,I),(39,.bool I,I)],[.cells [(.str [],I),(.str [],I),(Iv 0,I),(Nl,I),(Nl,I),(.str [],I),(.bool I,I),(Iv 0,I)],.cells [(.str a0.name,I),(.str a0.product,I),(Iv a0.version,I),(sl 2 aS d22.2.1,d22.2.2),(sl 3 zz d.2.1,d.2.2),(.str a0.partner,I),(.bool a0.aq,I),(Iv a0.ai,I)]]⟩)
theorem j4x (a0:qf)(d22:Int×(Option (List qm))×Bool)(s1:Int×(Option (List qj))×Bool)(r)(h:Hv a0 d22 s1=Ef r):yp pr JT (JR a0 d22) (JS a0 d22) s1 r:=by
 unfold Hv at h
 repeat' first|(replace h:=jx h;obtain⟨d,g,h⟩:=h;with_reducible first|replace g:=xt g|skip)|(replace h:=jz h;rcases h with⟨g,h⟩|⟨g,h⟩)|fail
 all_goals (cases h<;>(first|(refine zw ?_;simp only[go_sem,seval,JT,JR,zn,JS, *]<;>rfl)|(refine yj ?_;simp only[go_sem,seval,JT,JR,zn,JS, *]<;>rfl)))
theorem j4m (a0:qf)(d22:Int×(Option (List qm))×Bool){s1:Int×(Option (List qj))×Bool}{d}(h:bf (Hv a0 d22) s1=Ef d):X pr (.loop JT) (JR a0 d22 s1)=Ef (JS a0 d22 d):=y7 (j4x a0 d22) (fun d hh=>by cases hh) h
def f64 (a0:qf):Option qf:=
 jw (bf (Hu a0) (0,E0,I)) fun d22=>
 jw (bf (Hv a0 d22) (0,E0,I)) fun d45=>
 Ef (⟨a0.name,a0.product,a0.version,d22.2.1,d45.2.1,a0.partner,a0.aq,a0.ai⟩)
theorem W64 {a0:qf}{r}(h:f64 a0=Ef r):jy pr (X pr) 64 [aU a0]=Ef (aU r,I):=by
 unfold f64 at h
 refine y6 JU ?_
 repeat' first|(replace h:=jx h;obtain⟨d,g,h⟩:=h;with_reducible first|(replace g:=j4l a0 g;dsimp only[JO,JP,y9]at g h)|(replace g:=j4m a0 _ g;dsimp only[JR,JS,y9]at g h)|skip)|(replace h:=jz h;rcases h with⟨g,h⟩|⟨g,h⟩)|fail
 all_goals (cases h<;>(simp only[go_sem,seval,JU, *];exact⟨_,rfl⟩))
def Hw (a0:qc)(s0:Int×(Option (List qk))×Bool):Option ((Int×(Option (List qk))×Bool)⊕((Int×(Option (List qk))×Bool))):=
 cond (decide (s0.1<((a0.au.getD []).length:Int)))
  (jw (zo (a0.au.getD []) s0.1) fun dG=>
  cond s0.2.2
   (jw (bh s0.2.1 [dG]) fun fT=>
   Ef (.inl (j6 .i64 (s0.1+1),fT,En)))
   (cond s0.2.1.isNone
    (jw (bh s0.2.1 [dG]) fun v20=>
    Ef (.inl (j6 .i64 (s0.1+1),v20,En)))
    (E0)))
  (Ef (.inr (s0.1,s0.2.1,s0.2.2)))
def JV (a0:qc)(s0:Int×(Option (List qk))×Bool):qg:=⟨[(1,.ah (aR a0),I),(2,.ptr 0 0,I),(3,.ptr 1 0,I),(14,sl 5 z7 a0.au,I),(15,Lv a0.au,I),(16,Iv s0.1,I)],[kZ,.cells [(Iv a0.day,I),(sl 5 z7 s0.2.1,s0.2.2),(Nl,I),(Nl,I)]]⟩
def JW (a0:qc)(d:(Int×(Option (List qk))×Bool)):qo×qg:=(.exit 0,⟨[(1,.ah (aR a0),I),(2,.ptr 0 0,I),(3,.ptr 1 0,I),(14,sl 5 z7 a0.au,I),(15,Lv a0.au,I),(16,Iv d.1,I),(17,.bool I,I)],[kZ,.cells [(Iv a0.day,I),(sl 5 z7 d.2.1,d.2.2),(Nl,I),(Nl,I)]]⟩)
theorem jw9 (a0:qc)(s0:Int×(Option (List qk))×Bool)(r)(h:Hw a0 s0=Ef r):yp pr JX (JV a0) (JW a0) s0 r:=by
 unfold Hw at h
 repeat' first|(replace h:=jx h;obtain⟨d,g,h⟩:=h;with_reducible first|replace g:=Ng g|skip)|(replace h:=jz h;rcases h with⟨g,h⟩|⟨g,h⟩)|fail
 all_goals (cases h<;>(first|(refine zw ?_;simp only[go_sem,seval,JX,JV,zn,JW, *]<;>rfl)|(refine yj ?_;simp only[go_sem,seval,JX,JV,zn,JW, *]<;>rfl)))
theorem j6f (a0:qc){s0:Int×(Option (List qk))×Bool}{d}(h:bf (Hw a0) s0=Ef d):X pr (.loop JX) (JV a0 s0)=Ef (JW a0 d):=y7 (jw9 a0) (fun d hh=>by cases hh) h
def Hx (a0:qc)(d22:Int×(Option (List qk))×Bool)(s1:Int×(Option (List qi))×Bool):Option ((Int×(Option (List qi))×Bool)⊕((Int×(Option (List qi))×Bool))):=
 cond (decide (s1.1<((a0.ae.getD []).length:Int)))
  (jw (zo (a0.ae.getD []) s1.1) fun wc=>
  jw (f63 wc) fun py=>
  cond s1.2.2
   (jw (bh s1.2.1 [py]) fun v46=>
   Ef (.inl (j6 .i64 (s1.1+1),v46,En)))
   (cond s1.2.1.isNone
    (jw (bh s1.2.1 [py]) fun v49=>
    Ef (.inl (j6 .i64 (s1.1+1),v49,En)))
    (E0)))
  (Ef (.inr (s1.1,s1.2.1,s1.2.2)))
def JY (a0:qc)(d22:Int×(Option (List qk))×Bool)(s1:Int×(Option (List qi))×Bool):qg:=⟨[(1,.ah (aR a0),I),(2,.ptr 0 0,I),(3,.ptr 1 0,I),(28,sl 4 zr a0.ae,I),(29,Lv a0.ae,I),(30,Iv s1.1,I)],[kZ,.cells [(Iv a0.day,I),(sl 5 z7 d22.2.1,d22.2.2),(sl 4 zr s1.2.1,s1.2.2),(Nl,I)]]⟩
def JZ (a0:qc)(d22:Int×(Option (List qk))×Bool)(d:(Int×(Option (List qi))×Bool)):qo×qg:=(.exit 2,⟨[(1,.ah (aR a0),I),(2,.ptr 0 0,I),(3,.ptr 1 0,I),(28,sl 4 zr a0.ae,I),(29,Lv a0.ae,I),(30,Iv d.1,I),(31,.bool I,I)],[kZ,.cells [(Iv a0.day,I),(sl 5 z7 d22.2.1,d22.2.2),(sl 4 zr d.2.1,d.2.2),(Nl,I)]]⟩)
theorem j26 (a0:qc)(d22:Int×(Option (List qk))×Bool)(s1:Int×(Option (List qi))×Bool)(r)(h:Hx a0 d22 s1=Ef r):yp pr J0 (JY a0 d22) (JZ a0 d22) s1 r:=by
 unfold Hx at h
 repeat' first|(replace h:=jx h;obtain⟨d,g,h⟩:=h;with_reducible first|replace g:=W63 g|replace g:=UY g|skip)|(replace h:=jz h;rcases h with⟨g,h⟩|⟨g,h⟩)|fail
 all_goals (cases h<;>(first|(refine zw ?_;simp only[go_sem,seval,J0,JY,zn,JZ, *]<;>rfl)|(refine yj ?_;simp only[go_sem,seval,J0,JY,zn,JZ, *]<;>rfl)))
theorem jxn (a0:qc)(d22:Int×(Option (List qk))×Bool){s1:Int×(Option (List qi))×Bool}{d}(h:bf (Hx a0 d22) s1=Ef d):X pr (.loop J0) (JY a0 d22 s1)=Ef (JZ a0 d22 d):=y7 (j26 a0 d22) (fun d hh=>by cases hh) h
def Hy (a0:qc)(d22:Int×(Option (List qk))×Bool)(d51:Int×(Option (List qi))×Bool)(s2:Int×(Option (List qf))×Bool):Option ((Int×(Option (List qf))×Bool)⊕((Int×(Option (List qf))×Bool))):=
 cond (decide (s2.1<((a0.units.getD []).length:Int)))
  (jw (zo (a0.units.getD []) s2.1) fun v70=>
  jw (f64 v70) fun v72=>
  cond s2.2.2
   (jw (bh s2.2.1 [v72]) fun v75=>
   Ef (.inl (j6 .i64 (s2.1+1),v75,En)))
   (cond s2.2.1.isNone
    (jw (bh s2.2.1 [v72]) fun N1=>
    Ef (.inl (j6 .i64 (s2.1+1),N1,En)))
    (E0)))
  (Ef (.inr (s2.1,s2.2.1,s2.2.2)))
def J1 (a0:qc)(d22:Int×(Option (List qk))×Bool)(d51:Int×(Option (List qi))×Bool)(s2:Int×(Option (List qf))×Bool):qg:=⟨[(2,.ptr 0 0,I),(3,.ptr 1 0,I),(43,sl 8 bp a0.units,I),(44,Lv a0.units,I),(45,Iv s2.1,I)],[kZ,.cells [(Iv a0.day,I),(sl 5 z7 d22.2.1,d22.2.2),(sl 4 zr d51.2.1,d51.2.2),(sl 8 bp s2.2.1,s2.2.2)]]⟩
def J2 (a0:qc)(d22:Int×(Option (List qk))×Bool)(d51:Int×(Option (List qi))×Bool)(d:(Int×(Option (List qf))×Bool)):qo×qg:=(.exit 4,⟨[(2,.ptr 0 0,I),(3,.ptr 1 0,I),(43,sl 8 bp a0.units,I),(44,Lv a0.units,I),(45,Iv d.1,I),(46,.bool I,I)],[kZ,.cells [(Iv a0.day,I),(sl 5 z7 d22.2.1,d22.2.2),(sl 4 zr d51.2.1,d51.2.2),(sl 8 bp d.2.1,d.2.2)]]⟩)
theorem jyz (a0:qc)(d22:Int×(Option (List qk))×Bool)(d51:Int×(Option (List qi))×Bool)(s2:Int×(Option (List qf))×Bool)(r)(h:Hy a0 d22 d51 s2=Ef r):yp pr J3 (J1 a0 d22 d51) (J2 a0 d22 d51) s2 r:=by
 unfold Hy at h
 repeat' first|(replace h:=jx h;obtain⟨d,g,h⟩:=h;with_reducible first|replace g:=W64 g|replace g:=UZ g|skip)|(replace h:=jz h;rcases h with⟨g,h⟩|⟨g,h⟩)|fail
 all_goals (cases h<;>(first|(refine zw ?_;simp only[go_sem,seval,J3,J1,zn,J2, *]<;>rfl)|(refine yj ?_;simp only[go_sem,seval,J3,J1,zn,J2, *]<;>rfl)))
theorem j63 (a0:qc)(d22:Int×(Option (List qk))×Bool)(d51:Int×(Option (List qi))×Bool){s2:Int×(Option (List qf))×Bool}{d}(h:bf (Hy a0 d22 d51) s2=Ef d):X pr (.loop J3) (J1 a0 d22 d51 s2)=Ef (J2 a0 d22 d51 d):=y7 (jyz a0 d22 d51) (fun d hh=>by cases hh) h
def f14 (a0:qc):Option qc:=
 jw (bf (Hw a0) (0,E0,I)) fun d22=>
 jw (bf (Hx a0 d22) (0,E0,I)) fun d51=>
 jw (bf (Hy a0 d22 d51) (0,E0,I)) fun d80=>
 Ef (⟨a0.day,d22.2.1,d51.2.1,d80.2.1⟩)
theorem W14 {a0:qc}{r}(h:f14 a0=Ef r):jy pr (X pr) 14 [aR a0]=Ef (aR r,I):=by
 unfold f14 at h
 refine y6 J4 ?_
 repeat' first|(replace h:=jx h;obtain⟨d,g,h⟩:=h;with_reducible first|(replace g:=j6f a0 g;dsimp only[JV,JW,y9]at g h)|(replace g:=jxn a0 _ g;dsimp only[JY,JZ,y9]at g h)|(replace g:=j63 a0 _ _ g;dsimp only[J1,J2,y9]at g h)|skip)|(replace h:=jz h;rcases h with⟨g,h⟩|⟨g,h⟩)|fail
 all_goals (cases h<;>(simp only[go_sem,seval,J4, *];exact⟨_,rfl⟩))
end Go.Z
namespace Go.Z
open Go Go.Abs Go.W
def f59 (a0:Int)(a1:Int)(a2:Int):Option Bool:=
 cond (decide (a0<a1))
  (Ef En)
  (Ef (decide (a2<a0)))
theorem Wo {a0:Int}{a1:Int}{a2:Int}{r}(h:f59 a0 a1 a2=Ef r):jy pr (X pr) 59 [Iv a0,Iv a1,Iv a2]=Ef (.bool r,I):=by
 unfold f59 at h
 refine y6 J5 ?_
 repeat' first|(replace h:=jz h;rcases h with⟨g,h⟩|⟨g,h⟩)|fail
 all_goals (cases h<;>(simp only[go_sem,seval,J5, *];exact⟨_,rfl⟩))
end Go.Z
end
