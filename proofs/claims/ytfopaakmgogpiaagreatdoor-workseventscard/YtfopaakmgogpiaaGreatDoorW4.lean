/- Chapter 10. -/
import Derived.Test.YtfopaakmgogpiaaGreatDoorW1
import Derived.Test.YtfopaakmgogpiaaGreatDoorAbsL
import Derived.Test.YtfopaakmgogpiaaGreatDoorCA
set_option linter.unusedVariables false
set_option linter.unusedSimpArgs false
set_option maxRecDepth 100000
set_option maxHeartbeats 4000000
noncomputable section
namespace Go.Z
open Go Go.Abs Go.W
def qr4 (a0:qr)(s0:Int×(Option (List qm))×Bool):Option ((Int×(Option (List qm))×Bool)⊕((Int×(Option (List qm))×Bool))):=
 cond (decide (s0.1<((a0.needs.getD []).length:Int)))
  (jw (zo (a0.needs.getD []) s0.1) fun v14=>
  cond s0.2.2
   (jw (apO s0.2.1 [v14]) fun v17=>
   some (.inl (j6 .i64 (s0.1+1),v17,true)))
   (cond s0.2.1.isNone
    (jw (apO s0.2.1 [v14]) fun v20=>
    some (.inl (j6 .i64 (s0.1+1),v20,true)))
    (none)))
  (some (.inr (s0.1,s0.2.1,s0.2.2)))
def qm5 (a0:qr)(s0:Int×(Option (List qm))×Bool):qg:=⟨[(1,.vptr (aD a0),false),(2,.ptr 0 0,false),(3,.ptr 1 0,false),(9,sl 2 vsi a0.needs,false),(10,Lv a0.needs,false),(11,Iv s0.1,false)],[.cells [(Nl,false),(Nl,false)],.cells [(sl 2 vsi s0.2.1,s0.2.2),(Nl,false)]]⟩
def qnu (a0:qr)(d:(Int×(Option (List qm))×Bool)):qo×qg:=(.exit 0,⟨[(1,.vptr (aD a0),false),(2,.ptr 0 0,false),(3,.ptr 1 0,false),(9,sl 2 vsi a0.needs,false),(10,Lv a0.needs,false),(11,Iv d.1,false),(12,.bool false,false)],[.cells [(Nl,false),(Nl,false)],.cells [(sl 2 vsi d.2.1,d.2.2),(Nl,false)]]⟩)
theorem jqn (a0:qr)(s0:Int×(Option (List qm))×Bool)(r)(h:qr4 a0 s0=some r):yq pr qqx (qm5 a0) (qnu a0) s0 r:=by
 unfold qr4 at h
 repeat' first|(replace h:=jx h;obtain⟨d,g,h⟩:=h;with_reducible first|replace g:=qho g|skip)|(replace h:=jz h;rcases h with⟨g,h⟩|⟨g,h⟩)|fail
 all_goals (cases h<;>(first|(refine zw ?_;simp only[go_sem,seval,qqx,qm5,zn,qnu,*]<;>rfl)|(refine yl ?_;simp only[go_sem,seval,qqx,qm5,zn,qnu,*]<;>rfl)))
theorem jqt (a0:qr){s0:Int×(Option (List qm))×Bool}{d}(h:itO (qr4 a0) s0=some d):X pr (.loop qqx) (qm5 a0 s0)=some (qnu a0 d):=y8 (jqn a0) (fun d hh=>by cases hh) h
def qsf (a0:qr)(d22:Int×(Option (List qm))×Bool)(s1:Int×(Option (List qk))×Bool):Option ((Int×(Option (List qk))×Bool)⊕((Int×(Option (List qk))×Bool))):=
 cond (decide (s1.1<((a0.tests.getD []).length:Int)))
  (jw (zo (a0.tests.getD []) s1.1) fun v37=>
  cond s1.2.2
   (jw (apO s1.2.1 [v37]) fun v40=>
   some (.inl (j6 .i64 (s1.1+1),v40,true)))
   (cond s1.2.1.isNone
    (jw (apO s1.2.1 [v37]) fun v43=>
    some (.inl (j6 .i64 (s1.1+1),v43,true)))
    (none)))
  (some (.inr (s1.1,s1.2.1,s1.2.2)))
def qog (a0:qr)(d22:Int×(Option (List qm))×Bool)(s1:Int×(Option (List qk))×Bool):qg:=⟨[(2,.ptr 0 0,false),(3,.ptr 1 0,false),(23,sl 3 zz a0.tests,false),(24,Lv a0.tests,false),(25,Iv s1.1,false)],[.cells [(Nl,false),(Nl,false)],.cells [(sl 2 vsi d22.2.1,d22.2.2),(sl 3 zz s1.2.1,s1.2.2)]]⟩
def qn4 (a0:qr)(d22:Int×(Option (List qm))×Bool)(d:(Int×(Option (List qk))×Bool)):qo×qg:=(.exit 2,⟨[(2,.ptr 0 0,false),(3,.ptr 1 0,false),(23,sl 3 zz a0.tests,false),(24,Lv a0.tests,false),(25,Iv d.1,false),(26,.bool false,false)],[.cells [(Nl,false),(Nl,false)],.cells [(sl 2 vsi d22.2.1,d22.2.2),(sl 3 zz d.2.1,d.2.2)]]⟩)
theorem jqp (a0:qr)(d22:Int×(Option (List qm))×Bool)(s1:Int×(Option (List qk))×Bool)(r)(h:qsf a0 d22 s1=some r):yq pr qsd (qog a0 d22) (qn4 a0 d22) s1 r:=by
 unfold qsf at h
 repeat' first|(replace h:=jx h;obtain⟨d,g,h⟩:=h;with_reducible first|replace g:=qgz g|skip)|(replace h:=jz h;rcases h with⟨g,h⟩|⟨g,h⟩)|fail
 all_goals (cases h<;>(first|(refine zw ?_;simp only[go_sem,seval,qsd,qog,zn,qn4,*]<;>rfl)|(refine yl ?_;simp only[go_sem,seval,qsd,qog,zn,qn4,*]<;>rfl)))
theorem jsj (a0:qr)(d22:Int×(Option (List qm))×Bool){s1:Int×(Option (List qk))×Bool}{d}(h:itO (qsf a0 d22) s1=some d):X pr (.loop qsd) (qog a0 d22 s1)=some (qn4 a0 d22 d):=y8 (jqp a0 d22) (fun d hh=>by cases hh) h
def f120 (a0:qr):Option qr:=
 jw (itO (qr4 a0) (0,none,false)) fun d22=>
 jw (itO (qsf a0 d22) (0,none,false)) fun d45=>
 some (⟨d22.2.1,d45.2.1⟩)
theorem jr6 {a0:qr}{r}(h:f120 a0=some r):jy pr (X pr) 120 [aD a0]=some (aD r,false):=by
 unfold f120 at h
 refine y7 c120 ?_
 repeat' first|(replace h:=jx h;obtain⟨d,g,h⟩:=h;with_reducible first|(replace g:=jqt a0 g;dsimp only[qm5,qnu,kc]at g h)|(replace g:=jsj a0 _ g;dsimp only[qog,qn4,kc]at g h)|skip)|(replace h:=jz h;rcases h with⟨g,h⟩|⟨g,h⟩)|fail
 all_goals (cases h<;>(simp only[go_sem,seval,c120,*];exact⟨_,rfl⟩))
def qvf (a0:qi)(v1:qr)(s0:Int×(Option (List qr))×Bool):Option ((Int×(Option (List qr))×Bool)⊕((Int×(Option (List qr))×Bool))):=
 cond (decide (s0.1<((a0.docs.getD []).length:Int)))
  (jw (zo (a0.docs.getD []) s0.1) fun v20=>
  jw (f120 v20) fun v22=>
  cond s0.2.2
   (jw (apO s0.2.1 [v22]) fun v25=>
   some (.inl (j6 .i64 (s0.1+1),v25,true)))
   (cond s0.2.1.isNone
    (jw (apO s0.2.1 [v22]) fun v28=>
    some (.inl (j6 .i64 (s0.1+1),v28,true)))
    (none)))
  (some (.inr (s0.1,s0.2.1,s0.2.2)))
def qso (a0:qi)(v1:qr)(s0:Int×(Option (List qr))×Bool):qg:=⟨[(2,.ptr 0 0,false),(3,.ptr 1 0,false),(13,sl 2 qab a0.docs,false),(14,Lv a0.docs,false),(15,Iv s0.1,false)],[.cells [(.str [],false),(Nl,false),(Nl,false),(Nl,false)],.cells [(.str a0.name,false),(sl 2 vsi v1.needs,false),(sl 3 zz v1.tests,false),(sl 2 qab s0.2.1,s0.2.2)]]⟩
def qro (a0:qi)(v1:qr)(d:(Int×(Option (List qr))×Bool)):qo×qg:=(.exit 0,⟨[(2,.ptr 0 0,false),(3,.ptr 1 0,false),(13,sl 2 qab a0.docs,false),(14,Lv a0.docs,false),(15,Iv d.1,false),(16,.bool false,false)],[.cells [(.str [],false),(Nl,false),(Nl,false),(Nl,false)],.cells [(.str a0.name,false),(sl 2 vsi v1.needs,false),(sl 3 zz v1.tests,false),(sl 2 qab d.2.1,d.2.2)]]⟩)
theorem j49 (a0:qi)(v1:qr)(s0:Int×(Option (List qr))×Bool)(r)(h:qvf a0 v1 s0=some r):yq pr qwj (qso a0 v1) (qro a0 v1) s0 r:=by
 unfold qvf at h
 repeat' first|(replace h:=jx h;obtain⟨d,g,h⟩:=h;with_reducible first|replace g:=jr6 g|replace g:=qyu g|skip)|(replace h:=jz h;rcases h with⟨g,h⟩|⟨g,h⟩)|fail
 all_goals (cases h<;>(first|(refine zw ?_;simp only[go_sem,seval,qwj,qso,zn,qro,*]<;>rfl)|(refine yl ?_;simp only[go_sem,seval,qwj,qso,zn,qro,*]<;>rfl)))
theorem j2g (a0:qi)(v1:qr){s0:Int×(Option (List qr))×Bool}{d}(h:itO (qvf a0 v1) s0=some d):X pr (.loop qwj) (qso a0 v1 s0)=some (qro a0 v1 d):=y8 (j49 a0 v1) (fun d hh=>by cases hh) h
def f63 (a0:qi):Option qi:=
 jw (f120 (⟨a0.dn,a0.dt⟩)) fun v1=>
 jw (itO (qvf a0 v1) (0,none,false)) fun d30=>
 some (⟨a0.name,v1.needs,v1.tests,d30.2.1⟩)
theorem W63 {a0:qi}{r}(h:f63 a0=some r):jy pr (X pr) 63 [aP a0]=some (aP r,false):=by
 unfold f63 at h
 refine y7 c63 ?_
 repeat' first|(replace h:=jx h;obtain⟨d,g,h⟩:=h;with_reducible first|replace g:=jr6 g|(replace g:=j2g a0 _ g;dsimp only[qso,qro,kc]at g h)|skip)|(replace h:=jz h;rcases h with⟨g,h⟩|⟨g,h⟩)|fail
 all_goals (cases h<;>(simp only[go_sem,seval,c63,*];exact⟨_,rfl⟩))
def qwe (a0:qf)(s0:Int×(Option (List qm))×Bool):Option ((Int×(Option (List qm))×Bool)⊕((Int×(Option (List qm))×Bool))):=
 cond (decide (s0.1<((a0.uses.getD []).length:Int)))
  (jw (zo (a0.uses.getD []) s0.1) fun v14=>
  cond s0.2.2
   (jw (apO s0.2.1 [v14]) fun v17=>
   some (.inl (j6 .i64 (s0.1+1),v17,true)))
   (cond s0.2.1.isNone
    (jw (apO s0.2.1 [v14]) fun v20=>
    some (.inl (j6 .i64 (s0.1+1),v20,true)))
    (none)))
  (some (.inr (s0.1,s0.2.1,s0.2.2)))
def qrl (a0:qf)(s0:Int×(Option (List qm))×Bool):qg:=⟨[(1,.vptr (aU a0),false),(2,.ptr 0 0,false),(3,.ptr 1 0,false),(22,sl 2 vsi a0.uses,false),(23,Lv a0.uses,false),(24,Iv s0.1,false)],[.cells [(.str [],false),(.str [],false),(Iv 0,false),(Nl,false),(Nl,false),(.str [],false),(.bool false,false),(Iv 0,false)],.cells [(.str a0.name,false),(.str a0.product,false),(Iv a0.version,false),(sl 2 vsi s0.2.1,s0.2.2),(Nl,false),(.str a0.partner,false),(.bool a0.shipped,false),(Iv a0.complaints,false)]]⟩
def qq7 (a0:qf)(d:(Int×(Option (List qm))×Bool)):qo×qg:=(.exit 0,⟨[(1,.vptr (aU a0),false),(2,.ptr 0 0,false),(3,.ptr 1 0,false),(22,sl 2 vsi a0.uses,false),(23,Lv a0.uses,false),(24,Iv d.1,false),(25,.bool false,false)],[.cells [(.str [],false),(.str [],false),(Iv 0,false),(Nl,false),(Nl,false),(.str [],false),(.bool false,false),(Iv 0,false)],.cells [(.str a0.name,false),(.str a0.product,false),(Iv a0.version,false),(sl 2 vsi d.2.1,d.2.2),(Nl,false),(.str a0.partner,false),(.bool a0.shipped,false),(Iv a0.complaints,false)]]⟩)
theorem j09 (a0:qf)(s0:Int×(Option (List qm))×Bool)(r)(h:qwe a0 s0=some r):yq pr qvs (qrl a0) (qq7 a0) s0 r:=by
 unfold qwe at h
 repeat' first|(replace h:=jx h;obtain⟨d,g,h⟩:=h;with_reducible first|replace g:=qho g|skip)|(replace h:=jz h;rcases h with⟨g,h⟩|⟨g,h⟩)|fail
 all_goals (cases h<;>(first|(refine zw ?_;simp only[go_sem,seval,qvs,qrl,zn,qq7,*]<;>rfl)|(refine yl ?_;simp only[go_sem,seval,qvs,qrl,zn,qq7,*]<;>rfl)))
theorem j59 (a0:qf){s0:Int×(Option (List qm))×Bool}{d}(h:itO (qwe a0) s0=some d):X pr (.loop qvs) (qrl a0 s0)=some (qq7 a0 d):=y8 (j09 a0) (fun d hh=>by cases hh) h
def qx2 (a0:qf)(d22:Int×(Option (List qm))×Bool)(s1:Int×(Option (List qk))×Bool):Option ((Int×(Option (List qk))×Bool)⊕((Int×(Option (List qk))×Bool))):=
 cond (decide (s1.1<((a0.results.getD []).length:Int)))
  (jw (zo (a0.results.getD []) s1.1) fun v37=>
  cond s1.2.2
   (jw (apO s1.2.1 [v37]) fun v40=>
   some (.inl (j6 .i64 (s1.1+1),v40,true)))
   (cond s1.2.1.isNone
    (jw (apO s1.2.1 [v37]) fun v43=>
    some (.inl (j6 .i64 (s1.1+1),v43,true)))
    (none)))
  (some (.inr (s1.1,s1.2.1,s1.2.2)))
def qr5 (a0:qf)(d22:Int×(Option (List qm))×Bool)(s1:Int×(Option (List qk))×Bool):qg:=⟨[(2,.ptr 0 0,false),(3,.ptr 1 0,false),(36,sl 3 zz a0.results,false),(37,Lv a0.results,false),(38,Iv s1.1,false)],[.cells [(.str [],false),(.str [],false),(Iv 0,false),(Nl,false),(Nl,false),(.str [],false),(.bool false,false),(Iv 0,false)],.cells [(.str a0.name,false),(.str a0.product,false),(Iv a0.version,false),(sl 2 vsi d22.2.1,d22.2.2),(sl 3 zz s1.2.1,s1.2.2),(.str a0.partner,false),(.bool a0.shipped,false),(Iv a0.complaints,false)]]⟩
def qp6 (a0:qf)(d22:Int×(Option (List qm))×Bool)(d:(Int×(Option (List qk))×Bool)):qo×qg:=(.exit 2,⟨[(2,.ptr 0 0,false),(3,.ptr 1 0,false),(36,sl 3 zz a0.results,false),(37,Lv a0.results,false),(38,Iv d.1,false),(39,.bool false,false)],[.cells [(.str [],false),(.str [],false),(Iv 0,false),(Nl,false),(Nl,false),(.str [],false),(.bool false,false),(Iv 0,false)],.cells [(.str a0.name,false),(.str a0.product,false),(Iv a0.version,false),(sl 2 vsi d22.2.1,d22.2.2),(sl 3 zz d.2.1,d.2.2),(.str a0.partner,false),(.bool a0.shipped,false),(Iv a0.complaints,false)]]⟩)
theorem j5k (a0:qf)(d22:Int×(Option (List qm))×Bool)(s1:Int×(Option (List qk))×Bool)(r)(h:qx2 a0 d22 s1=some r):yq pr qv1 (qr5 a0 d22) (qp6 a0 d22) s1 r:=by
 unfold qx2 at h
 repeat' first|(replace h:=jx h;obtain⟨d,g,h⟩:=h;with_reducible first|replace g:=qgz g|skip)|(replace h:=jz h;rcases h with⟨g,h⟩|⟨g,h⟩)|fail
 all_goals (cases h<;>(first|(refine zw ?_;simp only[go_sem,seval,qv1,qr5,zn,qp6,*]<;>rfl)|(refine yl ?_;simp only[go_sem,seval,qv1,qr5,zn,qp6,*]<;>rfl)))
theorem j4g (a0:qf)(d22:Int×(Option (List qm))×Bool){s1:Int×(Option (List qk))×Bool}{d}(h:itO (qx2 a0 d22) s1=some d):X pr (.loop qv1) (qr5 a0 d22 s1)=some (qp6 a0 d22 d):=y8 (j5k a0 d22) (fun d hh=>by cases hh) h
def f64 (a0:qf):Option qf:=
 jw (itO (qwe a0) (0,none,false)) fun d22=>
 jw (itO (qx2 a0 d22) (0,none,false)) fun d45=>
 some (⟨a0.name,a0.product,a0.version,d22.2.1,d45.2.1,a0.partner,a0.shipped,a0.complaints⟩)
theorem W64 {a0:qf}{r}(h:f64 a0=some r):jy pr (X pr) 64 [aU a0]=some (aU r,false):=by
 unfold f64 at h
 refine y7 c64 ?_
 repeat' first|(replace h:=jx h;obtain⟨d,g,h⟩:=h;with_reducible first|(replace g:=j59 a0 g;dsimp only[qrl,qq7,kc]at g h)|(replace g:=j4g a0 _ g;dsimp only[qr5,qp6,kc]at g h)|skip)|(replace h:=jz h;rcases h with⟨g,h⟩|⟨g,h⟩)|fail
 all_goals (cases h<;>(simp only[go_sem,seval,c64,*];exact⟨_,rfl⟩))
def qwn (a0:qc)(s0:Int×(Option (List qj))×Bool):Option ((Int×(Option (List qj))×Bool)⊕((Int×(Option (List qj))×Bool))):=
 cond (decide (s0.1<((a0.lots.getD []).length:Int)))
  (jw (zo (a0.lots.getD []) s0.1) fun v14=>
  cond s0.2.2
   (jw (apO s0.2.1 [v14]) fun v17=>
   some (.inl (j6 .i64 (s0.1+1),v17,true)))
   (cond s0.2.1.isNone
    (jw (apO s0.2.1 [v14]) fun v20=>
    some (.inl (j6 .i64 (s0.1+1),v20,true)))
    (none)))
  (some (.inr (s0.1,s0.2.1,s0.2.2)))
def qqe (a0:qc)(s0:Int×(Option (List qj))×Bool):qg:=⟨[(1,.vptr (aR a0),false),(2,.ptr 0 0,false),(3,.ptr 1 0,false),(14,sl 5 z7 a0.lots,false),(15,Lv a0.lots,false),(16,Iv s0.1,false)],[kZ,.cells [(Iv a0.day,false),(sl 5 z7 s0.2.1,s0.2.2),(Nl,false),(Nl,false)]]⟩
def qrh (a0:qc)(d:(Int×(Option (List qj))×Bool)):qo×qg:=(.exit 0,⟨[(1,.vptr (aR a0),false),(2,.ptr 0 0,false),(3,.ptr 1 0,false),(14,sl 5 z7 a0.lots,false),(15,Lv a0.lots,false),(16,Iv d.1,false),(17,.bool false,false)],[kZ,.cells [(Iv a0.day,false),(sl 5 z7 d.2.1,d.2.2),(Nl,false),(Nl,false)]]⟩)
theorem jyi (a0:qc)(s0:Int×(Option (List qj))×Bool)(r)(h:qwn a0 s0=some r):yq pr qvn (qqe a0) (qrh a0) s0 r:=by
 unfold qwn at h
 repeat' first|(replace h:=jx h;obtain⟨d,g,h⟩:=h;with_reducible first|replace g:=qs8 g|skip)|(replace h:=jz h;rcases h with⟨g,h⟩|⟨g,h⟩)|fail
 all_goals (cases h<;>(first|(refine zw ?_;simp only[go_sem,seval,qvn,qqe,zn,qrh,*]<;>rfl)|(refine yl ?_;simp only[go_sem,seval,qvn,qqe,zn,qrh,*]<;>rfl)))
theorem jwj (a0:qc){s0:Int×(Option (List qj))×Bool}{d}(h:itO (qwn a0) s0=some d):X pr (.loop qvn) (qqe a0 s0)=some (qrh a0 d):=y8 (jyi a0) (fun d hh=>by cases hh) h
def qwo (a0:qc)(d22:Int×(Option (List qj))×Bool)(s1:Int×(Option (List qi))×Bool):Option ((Int×(Option (List qi))×Bool)⊕((Int×(Option (List qi))×Bool))):=
 cond (decide (s1.1<((a0.products.getD []).length:Int)))
  (jw (zo (a0.products.getD []) s1.1) fun v41=>
  jw (f63 v41) fun v43=>
  cond s1.2.2
   (jw (apO s1.2.1 [v43]) fun v46=>
   some (.inl (j6 .i64 (s1.1+1),v46,true)))
   (cond s1.2.1.isNone
    (jw (apO s1.2.1 [v43]) fun v49=>
    some (.inl (j6 .i64 (s1.1+1),v49,true)))
    (none)))
  (some (.inr (s1.1,s1.2.1,s1.2.2)))
def qsl (a0:qc)(d22:Int×(Option (List qj))×Bool)(s1:Int×(Option (List qi))×Bool):qg:=⟨[(1,.vptr (aR a0),false),(2,.ptr 0 0,false),(3,.ptr 1 0,false),(28,sl 4 zr a0.products,false),(29,Lv a0.products,false),(30,Iv s1.1,false)],[kZ,.cells [(Iv a0.day,false),(sl 5 z7 d22.2.1,d22.2.2),(sl 4 zr s1.2.1,s1.2.2),(Nl,false)]]⟩
def qsk (a0:qc)(d22:Int×(Option (List qj))×Bool)(d:(Int×(Option (List qi))×Bool)):qo×qg:=(.exit 2,⟨[(1,.vptr (aR a0),false),(2,.ptr 0 0,false),(3,.ptr 1 0,false),(28,sl 4 zr a0.products,false),(29,Lv a0.products,false),(30,Iv d.1,false),(31,.bool false,false)],[kZ,.cells [(Iv a0.day,false),(sl 5 z7 d22.2.1,d22.2.2),(sl 4 zr d.2.1,d.2.2),(Nl,false)]]⟩)
theorem jwd (a0:qc)(d22:Int×(Option (List qj))×Bool)(s1:Int×(Option (List qi))×Bool)(r)(h:qwo a0 d22 s1=some r):yq pr qwm (qsl a0 d22) (qsk a0 d22) s1 r:=by
 unfold qwo at h
 repeat' first|(replace h:=jx h;obtain⟨d,g,h⟩:=h;with_reducible first|replace g:=W63 g|replace g:=quj g|skip)|(replace h:=jz h;rcases h with⟨g,h⟩|⟨g,h⟩)|fail
 all_goals (cases h<;>(first|(refine zw ?_;simp only[go_sem,seval,qwm,qsl,zn,qsk,*]<;>rfl)|(refine yl ?_;simp only[go_sem,seval,qwm,qsl,zn,qsk,*]<;>rfl)))
theorem j4m (a0:qc)(d22:Int×(Option (List qj))×Bool){s1:Int×(Option (List qi))×Bool}{d}(h:itO (qwo a0 d22) s1=some d):X pr (.loop qwm) (qsl a0 d22 s1)=some (qsk a0 d22 d):=y8 (jwd a0 d22) (fun d hh=>by cases hh) h
def qwl (a0:qc)(d22:Int×(Option (List qj))×Bool)(d51:Int×(Option (List qi))×Bool)(s2:Int×(Option (List qf))×Bool):Option ((Int×(Option (List qf))×Bool)⊕((Int×(Option (List qf))×Bool))):=
 cond (decide (s2.1<((a0.units.getD []).length:Int)))
  (jw (zo (a0.units.getD []) s2.1) fun v70=>
  jw (f64 v70) fun v72=>
  cond s2.2.2
   (jw (apO s2.2.1 [v72]) fun v75=>
   some (.inl (j6 .i64 (s2.1+1),v75,true)))
   (cond s2.2.1.isNone
    (jw (apO s2.2.1 [v72]) fun v78=>
    some (.inl (j6 .i64 (s2.1+1),v78,true)))
    (none)))
  (some (.inr (s2.1,s2.2.1,s2.2.2)))
def qp3 (a0:qc)(d22:Int×(Option (List qj))×Bool)(d51:Int×(Option (List qi))×Bool)(s2:Int×(Option (List qf))×Bool):qg:=⟨[(2,.ptr 0 0,false),(3,.ptr 1 0,false),(43,sl 8 vun a0.units,false),(44,Lv a0.units,false),(45,Iv s2.1,false)],[kZ,.cells [(Iv a0.day,false),(sl 5 z7 d22.2.1,d22.2.2),(sl 4 zr d51.2.1,d51.2.2),(sl 8 vun s2.2.1,s2.2.2)]]⟩
def qrq (a0:qc)(d22:Int×(Option (List qj))×Bool)(d51:Int×(Option (List qi))×Bool)(d:(Int×(Option (List qf))×Bool)):qo×qg:=(.exit 4,⟨[(2,.ptr 0 0,false),(3,.ptr 1 0,false),(43,sl 8 vun a0.units,false),(44,Lv a0.units,false),(45,Iv d.1,false),(46,.bool false,false)],[kZ,.cells [(Iv a0.day,false),(sl 5 z7 d22.2.1,d22.2.2),(sl 4 zr d51.2.1,d51.2.2),(sl 8 vun d.2.1,d.2.2)]]⟩)
theorem j6f (a0:qc)(d22:Int×(Option (List qj))×Bool)(d51:Int×(Option (List qi))×Bool)(s2:Int×(Option (List qf))×Bool)(r)(h:qwl a0 d22 d51 s2=some r):yq pr qyb (qp3 a0 d22 d51) (qrq a0 d22 d51) s2 r:=by
 unfold qwl at h
 repeat' first|(replace h:=jx h;obtain⟨d,g,h⟩:=h;with_reducible first|replace g:=W64 g|replace g:=q2k g|skip)|(replace h:=jz h;rcases h with⟨g,h⟩|⟨g,h⟩)|fail
 all_goals (cases h<;>(first|(refine zw ?_;simp only[go_sem,seval,qyb,qp3,zn,qrq,*]<;>rfl)|(refine yl ?_;simp only[go_sem,seval,qyb,qp3,zn,qrq,*]<;>rfl)))
theorem jxr (a0:qc)(d22:Int×(Option (List qj))×Bool)(d51:Int×(Option (List qi))×Bool){s2:Int×(Option (List qf))×Bool}{d}(h:itO (qwl a0 d22 d51) s2=some d):X pr (.loop qyb) (qp3 a0 d22 d51 s2)=some (qrq a0 d22 d51 d):=y8 (j6f a0 d22 d51) (fun d hh=>by cases hh) h
def f14 (a0:qc):Option qc:=
 jw (itO (qwn a0) (0,none,false)) fun d22=>
 jw (itO (qwo a0 d22) (0,none,false)) fun d51=>
 jw (itO (qwl a0 d22 d51) (0,none,false)) fun d80=>
 some (⟨a0.day,d22.2.1,d51.2.1,d80.2.1⟩)
theorem W14 {a0:qc}{r}(h:f14 a0=some r):jy pr (X pr) 14 [aR a0]=some (aR r,false):=by
 unfold f14 at h
 refine y7 c14 ?_
 repeat' first|(replace h:=jx h;obtain⟨d,g,h⟩:=h;with_reducible first|(replace g:=jwj a0 g;dsimp only[qqe,qrh,kc]at g h)|(replace g:=j4m a0 _ g;dsimp only[qsl,qsk,kc]at g h)|(replace g:=jxr a0 _ _ g;dsimp only[qp3,qrq,kc]at g h)|skip)|(replace h:=jz h;rcases h with⟨g,h⟩|⟨g,h⟩)|fail
 all_goals (cases h<;>(simp only[go_sem,seval,c14,*];exact⟨_,rfl⟩))
end Go.Z
namespace Go.Z
open Go Go.Abs Go.W
def f59 (a0:Int)(a1:Int)(a2:Int):Option Bool:=
 cond (decide (a0<a1))
  (some true)
  (some (decide (a2<a0)))
theorem W59 {a0:Int}{a1:Int}{a2:Int}{r}(h:f59 a0 a1 a2=some r):jy pr (X pr) 59 [Iv a0,Iv a1,Iv a2]=some (.bool r,false):=by
 unfold f59 at h
 refine y7 c59 ?_
 repeat' first|(replace h:=jz h;rcases h with⟨g,h⟩|⟨g,h⟩)|fail
 all_goals (cases h<;>(simp only[go_sem,seval,c59,*];exact⟨_,rfl⟩))
end Go.Z
end
