/- Chapter 10. -/
import Derived.Test.YtfopaakmgogpiaaGreatDoorW1
import Derived.Test.YtfopaakmgogpiaaGreatDoorAbsL
import Derived.Test.YtfopaakmgogpiaaGreatDoorCA
set_option linter.unusedVariables false
set_option linter.unusedSimpArgs false
set_option maxRecDepth 100000
set_option maxHeartbeats 4000000
noncomputable section
open Bool renaming false→I
open Option renaming some→Ef
namespace Go.Z
open Go Go.Abs Go.W
def Oc (a0:qc)(a1:List UInt8)(s0:Int):Option (Int⊕(Int⊕Int)):=
 cond (decide (s0<((a0.units.getD []).length:Int)))
  (jw (zo (a0.units.getD []) s0) fun v10=>
  cond (decide (v10.name=a1))
   (Ef (.inr (.inl s0)))
   (Ef (.inl (j6 .i64 (s0+1)))))
  (Ef (.inr (.inr s0)))
def I8 (a0:qc)(a1:List UInt8)(s0:Int):qg:=⟨[(1,.str a1,I),(2,.ah (aR a0),I),(5,Iv s0,I)],[]⟩
def I9 (a0:qc)(a1:List UInt8):Int⊕Int→qo×qg
 | .inl d=>(.ret,⟨[(4,Iv d,I)],[]⟩)
 | .inr d=>(.exit 0,⟨[(1,.str a1,I),(2,.ah (aR a0),I),(5,Iv d,I),(10,.bool I,I)],[]⟩)
theorem j3o (a0:qc)(a1:List UInt8)(s0:Int)(r)(h:Oc a0 a1 s0=Ef r):yp pr Ja (I8 a0 a1) (I9 a0 a1) s0 r:=by
 unfold Oc at h
 repeat' first|(replace h:=jx h;obtain⟨d,g,h⟩:=h)|(replace h:=jz h;rcases h with⟨g,h⟩|⟨g,h⟩)|fail
 all_goals (cases h<;>(first|(refine zw ?_;simp only[go_sem,seval,Ja,I8,zn,I9, *]<;>rfl)|(refine yj ?_;simp only[go_sem,seval,Ja,I8,zn,I9, *]<;>rfl)))
theorem jx6 (a0:qc)(a1:List UInt8){s0:Int}{d}(h:bf (Oc a0 a1) s0=Ef d):X pr (.loop Ja) (I8 a0 a1 s0)=Ef (I9 a0 a1 d):=y7 (j3o a0 a1) (fun d=>by rcases d with d|d<;>(intro hh;cases hh)) h
def f27 (a0:qc)(a1:List UInt8):Option Int:=
 jw (bf (Oc a0 a1) 0) fun d13=>match d13 with
  | .inl d15=>
   Ef d15
  | .inr d16=>
   Ef (-1)
theorem Wp {a0:qc}{a1:List UInt8}{r}(h:f27 a0 a1=Ef r):jy pr (X pr) 27 [aR a0,.str a1]=Ef (Iv r,I):=by
 unfold f27 at h
 refine y6 Od ?_
 repeat' first|(replace h:=jx h;obtain⟨d,g,h⟩:=h;with_reducible first|(replace g:=jx6 a0 a1 g;rcases d with d|d<;>dsimp only[I8,I9,y9]at g h)|skip)|(replace h:=jz h;rcases h with⟨g,h⟩|⟨g,h⟩)|fail
 all_goals (cases h<;>(simp only[go_sem,seval,Od, *];exact⟨_,rfl⟩))
def Oe (a0:qc)(a1:List UInt8)(s0:Int):Option (Int⊕(Int⊕Int)):=
 cond (decide (s0<((a0.au.getD []).length:Int)))
  (jw (zo (a0.au.getD []) s0) fun v10=>
  cond (decide (v10.name=a1))
   (Ef (.inr (.inl s0)))
   (Ef (.inl (j6 .i64 (s0+1)))))
  (Ef (.inr (.inr s0)))
def Jb (a0:qc)(a1:List UInt8)(s0:Int):qg:=⟨[(1,.str a1,I),(2,.ah (aR a0),I),(5,Iv s0,I)],[]⟩
def Jc (a0:qc)(a1:List UInt8):Int⊕Int→qo×qg
 | .inl d=>(.ret,⟨[(4,Iv d,I)],[]⟩)
 | .inr d=>(.exit 0,⟨[(1,.str a1,I),(2,.ah (aR a0),I),(5,Iv d,I),(10,.bool I,I)],[]⟩)
theorem j0o (a0:qc)(a1:List UInt8)(s0:Int)(r)(h:Oe a0 a1 s0=Ef r):yp pr Jd (Jb a0 a1) (Jc a0 a1) s0 r:=by
 unfold Oe at h
 repeat' first|(replace h:=jx h;obtain⟨d,g,h⟩:=h)|(replace h:=jz h;rcases h with⟨g,h⟩|⟨g,h⟩)|fail
 all_goals (cases h<;>(first|(refine zw ?_;simp only[go_sem,seval,Jd,Jb,zn,Jc, *]<;>rfl)|(refine yj ?_;simp only[go_sem,seval,Jd,Jb,zn,Jc, *]<;>rfl)))
theorem jzd (a0:qc)(a1:List UInt8){s0:Int}{d}(h:bf (Oe a0 a1) s0=Ef d):X pr (.loop Jd) (Jb a0 a1 s0)=Ef (Jc a0 a1 d):=y7 (j0o a0 a1) (fun d=>by rcases d with d|d<;>(intro hh;cases hh)) h
def f28 (a0:qc)(a1:List UInt8):Option Int:=
 jw (bf (Oe a0 a1) 0) fun d13=>match d13 with
  | .inl d15=>
   Ef d15
  | .inr d16=>
   Ef (-1)
theorem Ic {a0:qc}{a1:List UInt8}{r}(h:f28 a0 a1=Ef r):jy pr (X pr) 28 [aR a0,.str a1]=Ef (Iv r,I):=by
 unfold f28 at h
 refine y6 Og ?_
 repeat' first|(replace h:=jx h;obtain⟨d,g,h⟩:=h;with_reducible first|(replace g:=jzd a0 a1 g;rcases d with d|d<;>dsimp only[Jb,Jc,y9]at g h)|skip)|(replace h:=jz h;rcases h with⟨g,h⟩|⟨g,h⟩)|fail
 all_goals (cases h<;>(simp only[go_sem,seval,Og, *];exact⟨_,rfl⟩))
def Oh (a0:qc)(a1:List UInt8)(s0:Int):Option (Int⊕(Int⊕Int)):=
 cond (decide (s0<((a0.ae.getD []).length:Int)))
  (jw (zo (a0.ae.getD []) s0) fun v10=>
  cond (decide (v10.name=a1))
   (Ef (.inr (.inl s0)))
   (Ef (.inl (j6 .i64 (s0+1)))))
  (Ef (.inr (.inr s0)))
def Je (a0:qc)(a1:List UInt8)(s0:Int):qg:=⟨[(1,.str a1,I),(2,.ah (aR a0),I),(5,Iv s0,I)],[]⟩
def Jf (a0:qc)(a1:List UInt8):Int⊕Int→qo×qg
 | .inl d=>(.ret,⟨[(4,Iv d,I)],[]⟩)
 | .inr d=>(.exit 0,⟨[(1,.str a1,I),(2,.ah (aR a0),I),(5,Iv d,I),(10,.bool I,I)],[]⟩)
theorem jt8 (a0:qc)(a1:List UInt8)(s0:Int)(r)(h:Oh a0 a1 s0=Ef r):yp pr Jg (Je a0 a1) (Jf a0 a1) s0 r:=by
 unfold Oh at h
 repeat' first|(replace h:=jx h;obtain⟨d,g,h⟩:=h)|(replace h:=jz h;rcases h with⟨g,h⟩|⟨g,h⟩)|fail
 all_goals (cases h<;>(first|(refine zw ?_;simp only[go_sem,seval,Jg,Je,zn,Jf, *]<;>rfl)|(refine yj ?_;simp only[go_sem,seval,Jg,Je,zn,Jf, *]<;>rfl)))
theorem jrc (a0:qc)(a1:List UInt8){s0:Int}{d}(h:bf (Oh a0 a1) s0=Ef d):X pr (.loop Jg) (Je a0 a1 s0)=Ef (Jf a0 a1 d):=y7 (jt8 a0 a1) (fun d=>by rcases d with d|d<;>(intro hh;cases hh)) h
def f144 (a0:qc)(a1:List UInt8):Option Int:=
 jw (bf (Oh a0 a1) 0) fun d13=>match d13 with
  | .inl d15=>
   Ef d15
  | .inr d16=>
   Ef (-1)
theorem NR {a0:qc}{a1:List UInt8}{r}(h:f144 a0 a1=Ef r):jy pr (X pr) 144 [aR a0,.str a1]=Ef (Iv r,I):=by
 unfold f144 at h
 refine y6 wD ?_
 repeat' first|(replace h:=jx h;obtain⟨d,g,h⟩:=h;with_reducible first|(replace g:=jrc a0 a1 g;rcases d with d|d<;>dsimp only[Je,Jf,y9]at g h)|skip)|(replace h:=jz h;rcases h with⟨g,h⟩|⟨g,h⟩)|fail
 all_goals (cases h<;>(simp only[go_sem,seval,wD, *];exact⟨_,rfl⟩))
def A7 (a0:Option (List ql))(s0:Int)(s1:Int):Option (Int⊕(Unit⊕Int)):=
 jw (zo (a0.getD []) s0) fun v79=>
 cond (decide (s1<((v79.names.getD []).length:Int)))
  (jw (zo (v79.names.getD []) s1) fun v82=>
  cond (decide (40<(v82.length:Int)))
   (Ef (.inr (.inl ())))
   (Ef (.inl (j6 .i64 (s1+1)))))
  (Ef (.inr (.inr s1)))
def Jh (a0:Option (List ql))(s0:Int)(s1:Int):qg:=⟨[(0,sl 5 vev a0,I),(5,Iv s0,I),(6,Iv s1,I)],[]⟩
def Ji (a0:Option (List ql))(s0:Int):Unit⊕Int→qo×qg
 | .inl d=>(.ret,⟨[(4,.bool I,I)],[]⟩)
 | .inr d=>(.exit 2,⟨[(0,sl 5 vev a0,I),(5,Iv s0,I),(6,Iv d,I),(58,.bool I,I)],[]⟩)
theorem ze4 (a0:Option (List ql))(s0:Int)(s1:Int)(r)(h:A7 a0 s0 s1=Ef r):yp pr Jj (Jh a0 s0) (Ji a0 s0) s1 r:=by
 unfold A7 at h
 repeat' first|(replace h:=jx h;obtain⟨d,g,h⟩:=h)|(replace h:=jz h;rcases h with⟨g,h⟩|⟨g,h⟩)|fail
 all_goals (cases h<;>(first|(refine zw ?_;simp only[go_sem,seval,Jj,Jh,zn,Ji, *]<;>rfl)|(refine yj ?_;simp only[go_sem,seval,Jj,Jh,zn,Ji, *]<;>rfl)))
theorem zgi (a0:Option (List ql))(s0:Int){s1:Int}{d}(h:bf (A7 a0 s0) s1=Ef d):X pr (.loop Jj) (Jh a0 s0 s1)=Ef (Ji a0 s0 d):=y7 (ze4 a0 s0) (fun d=>by rcases d with d|d<;>(intro hh;cases hh)) h
def A6 (a0:Option (List ql))(s0:Int):Option (Int⊕(Unit⊕Int)):=
 cond (decide (s0<((a0.getD []).length:Int)))
  (jw (zo (a0.getD []) s0) fun wy=>
  cond (decide (40<(wy.kind.length:Int)))
   (Ef (.inr (.inl ())))
   (cond (decide (6<((wy.names.getD []).length:Int)))
    (Ef (.inr (.inl ())))
    (cond (decide (8<((wy.values.getD []).length:Int)))
     (Ef (.inr (.inl ())))
     (cond (decide (200<(wy.text.length:Int)))
      (Ef (.inr (.inl ())))
      (jw (bf (A7 a0 s0) 0) fun d85=>match d85 with
       | .inl d87=>
        Ef (.inr (.inl ()))
       | .inr d88=>
        Ef (.inl (j6 .i64 (s0+1))))))))
  (Ef (.inr (.inr s0)))
def Jk (a0:Option (List ql))(s0:Int):qg:=⟨[(0,sl 5 vev a0,I),(5,Iv s0,I)],[]⟩
def Jl (a0:Option (List ql)):Unit⊕Int→qo×qg
 | .inl d=>(.ret,⟨[(4,.bool I,I)],[]⟩)
 | .inr d=>(.exit 0,⟨[(0,sl 5 vev a0,I),(5,Iv d,I),(14,.bool I,I)],[]⟩)
theorem zcq (a0:Option (List ql))(s0:Int)(r)(h:A6 a0 s0=Ef r):yp pr Jm (Jk a0) (Jl a0) s0 r:=by
 unfold A6 at h
 repeat' first|(replace h:=jx h;obtain⟨d,g,h⟩:=h;with_reducible first|(replace g:=zgi a0 s0 g;rcases d with d|d<;>dsimp only[Jh,Ji,y9]at g h)|skip)|(replace h:=jz h;rcases h with⟨g,h⟩|⟨g,h⟩)|fail
 all_goals (cases h<;>(first|(refine zw ?_;simp only[go_sem,seval,Jm,Jk,zn,Jl, *]<;>rfl)|(refine yj ?_;simp only[go_sem,seval,Jm,Jk,zn,Jl, *]<;>rfl)))
theorem zat (a0:Option (List ql)){s0:Int}{d}(h:bf (A6 a0) s0=Ef d):X pr (.loop Jm) (Jk a0 s0)=Ef (Jl a0 d):=y7 (zcq a0) (fun d=>by rcases d with d|d<;>(intro hh;cases hh)) h
def f7 (a0:Option (List ql))(a1:Int):Option Bool:=
 cond (decide (a1<((a0.getD []).length:Int)))
  (Ef I)
  (jw (bf (A6 a0) 0) fun d89=>match d89 with
   | .inl d91=>
    Ef I
   | .inr d92=>
    Ef true)
theorem W7 {a0:Option (List ql)}{a1:Int}{r}(h:f7 a0 a1=Ef r):jy pr (X pr) 7 [sl 5 vev a0,Iv a1]=Ef (.bool r,I):=by
 unfold f7 at h
 refine y6 c7 ?_
 repeat' first|(replace h:=jx h;obtain⟨d,g,h⟩:=h;with_reducible first|(replace g:=zat a0 g;rcases d with d|d<;>dsimp only[Jk,Jl,y9]at g h)|skip)|(replace h:=jz h;rcases h with⟨g,h⟩|⟨g,h⟩)|fail
 all_goals (cases h<;>(simp only[go_sem,seval,c7, *];exact⟨_,rfl⟩))
def AA (a0:qc)(a1:qf)(a2:List UInt8)(s0:Int×Int):Option ((Int×Int)⊕((Int×Int))):=
 cond (decide (s0.2<((a1.uses.getD []).length:Int)))
  (jw (zo (a1.uses.getD []) s0.2) fun fP=>
  jw (f28 a0 fP.k) fun v20=>
  jw (zo (a0.au.getD []) v20) fun ej=>
  cond (decide (ej.kind=a2))
   (Ef (.inl (j6 .i64 (s0.1+fP.n),j6 .i64 (s0.2+1))))
   (Ef (.inl (s0.1,j6 .i64 (s0.2+1)))))
  (Ef (.inr (s0.1,s0.2)))
def Jn (a0:qc)(a1:qf)(a2:List UInt8)(s0:Int×Int):qg:=⟨[(2,.str a2,I),(3,.ah (aR a0),I),(4,.ah (aU a1),I),(7,Iv s0.1,I),(8,Iv s0.2,I)],[]⟩
def Jo (a0:qc)(a1:qf)(a2:List UInt8)(d:(Int×Int)):qo×qg:=(.exit 0,⟨[(2,.str a2,I),(3,.ah (aR a0),I),(4,.ah (aU a1),I),(7,Iv d.1,I),(8,Iv d.2,I),(13,.bool I,I)],[]⟩)
theorem jqo (a0:qc)(a1:qf)(a2:List UInt8)(s0:Int×Int)(r)(h:AA a0 a1 a2 s0=Ef r):yp pr Jp (Jn a0 a1 a2) (Jo a0 a1 a2) s0 r:=by
 unfold AA at h
 repeat' first|(replace h:=jx h;obtain⟨d,g,h⟩:=h;with_reducible first|replace g:=Ic g|skip)|(replace h:=jz h;rcases h with⟨g,h⟩|⟨g,h⟩)|fail
 all_goals (cases h<;>(first|(refine zw ?_;simp only[go_sem,seval,Jp,Jn,zn,Jo, *]<;>rfl)|(refine yj ?_;simp only[go_sem,seval,Jp,Jn,zn,Jo, *]<;>rfl)))
theorem jo3 (a0:qc)(a1:qf)(a2:List UInt8){s0:Int×Int}{d}(h:bf (AA a0 a1 a2) s0=Ef d):X pr (.loop Jp) (Jn a0 a1 a2 s0)=Ef (Jo a0 a1 a2 d):=y7 (jqo a0 a1 a2) (fun d hh=>by cases hh) h
def f145 (a0:qc)(a1:qf)(a2:List UInt8):Option Int:=
 jw (bf (AA a0 a1 a2) (0,0)) fun d25=>
 Ef d25.1
theorem za2 {a0:qc}{a1:qf}{a2:List UInt8}{r}(h:f145 a0 a1 a2=Ef r):jy pr (X pr) 145 [aR a0,aU a1,.str a2]=Ef (Iv r,I):=by
 unfold f145 at h
 refine y6 wE ?_
 repeat' first|(replace h:=jx h;obtain⟨d,g,h⟩:=h;with_reducible first|(replace g:=jo3 a0 a1 a2 g;dsimp only[Jn,Jo,y9]at g h)|skip)|(replace h:=jz h;rcases h with⟨g,h⟩|⟨g,h⟩)|fail
 all_goals (cases h<;>(simp only[go_sem,seval,wE, *];exact⟨_,rfl⟩))
def f78 (a0:qc)(a1:qf):Option qr:=
 jw (f144 a0 a1.product) fun v1=>
 jw (zo (a0.ae.getD []) v1) fun v3=>
 jw (zo (v3.aH.getD []) (j6 .i64 (a1.version-1))) fun v5=>
 Ef v5
theorem N5 {a0:qc}{a1:qf}{r}(h:f78 a0 a1=Ef r):jy pr (X pr) 78 [aR a0,aU a1]=Ef (aD r,I):=by
 unfold f78 at h
 refine y6 Jq ?_
 repeat' first|(replace h:=jx h;obtain⟨d,g,h⟩:=h;with_reducible first|replace g:=NR g|skip)|(replace h:=jz h;rcases h with⟨g,h⟩|⟨g,h⟩)|fail
 all_goals (cases h<;>(simp only[go_sem,seval,Jq,zn, *];exact⟨_,rfl⟩))
def Aw (a0:qf)(a1:qj)(s0:Bool×Int):Option ((Bool×Int)⊕((Bool×Int))):=
 cond (decide (s0.2<((a0.results.getD []).length:Int)))
  (jw (zo (a0.results.getD []) s0.2) fun dG=>
  cond (decide (dG.k=a1.k))
   (cond (decide (dG.a=a0.version))
    (cond (decide (a1.a≤dG.b))
     (Ef (.inl (decide (dG.b≤a1.b),j6 .i64 (s0.2+1))))
     (Ef (.inl (I,j6 .i64 (s0.2+1)))))
    (Ef (.inl (s0.1,j6 .i64 (s0.2+1)))))
   (Ef (.inl (s0.1,j6 .i64 (s0.2+1)))))
  (Ef (.inr (s0.1,s0.2)))
def Jr (a0:qf)(a1:qj)(s0:Bool×Int):qg:=⟨[(2,.ah (aU a0),I),(3,.ah (aT a1),I),(5,.bool s0.1,I),(6,Iv s0.2,I)],[]⟩
def Js (a0:qf)(a1:qj)(d:(Bool×Int)):qo×qg:=(.exit 0,⟨[(2,.ah (aU a0),I),(3,.ah (aT a1),I),(5,.bool d.1,I),(6,Iv d.2,I),(12,.bool I,I)],[]⟩)
theorem j28 (a0:qf)(a1:qj)(s0:Bool×Int)(r)(h:Aw a0 a1 s0=Ef r):yp pr Jt (Jr a0 a1) (Js a0 a1) s0 r:=by
 unfold Aw at h
 repeat' first|(replace h:=jx h;obtain⟨d,g,h⟩:=h)|(replace h:=jz h;rcases h with⟨g,h⟩|⟨g,h⟩)|fail
 all_goals (cases h<;>(first|(refine zw ?_;simp only[go_sem,seval,Jt,Jr,zn,Js, *]<;>rfl)|(refine yj ?_;simp only[go_sem,seval,Jt,Jr,zn,Js, *]<;>rfl)))
theorem jyq (a0:qf)(a1:qj){s0:Bool×Int}{d}(h:bf (Aw a0 a1) s0=Ef d):X pr (.loop Jt) (Jr a0 a1 s0)=Ef (Js a0 a1 d):=y7 (j28 a0 a1) (fun d hh=>by cases hh) h
def f79 (a0:qf)(a1:qj):Option Bool:=
 jw (bf (Aw a0 a1) (I,0)) fun d19=>
 Ef d19.1
theorem W79 {a0:qf}{a1:qj}{r}(h:f79 a0 a1=Ef r):jy pr (X pr) 79 [aU a0,aT a1]=Ef (.bool r,I):=by
 unfold f79 at h
 refine y6 Oi ?_
 repeat' first|(replace h:=jx h;obtain⟨d,g,h⟩:=h;with_reducible first|(replace g:=jyq a0 a1 g;dsimp only[Jr,Js,y9]at g h)|skip)|(replace h:=jz h;rcases h with⟨g,h⟩|⟨g,h⟩)|fail
 all_goals (cases h<;>(simp only[go_sem,seval,Oi, *];exact⟨_,rfl⟩))
def f80 (a0:qc)(a1:qf):Option Int:=
 jw (f144 a0 a1.product) fun v1=>
 jw (zo (a0.ae.getD []) v1) fun v3=>
 Ef ((v3.aH.getD []).length:Int)
theorem W80 {a0:qc}{a1:qf}{r}(h:f80 a0 a1=Ef r):jy pr (X pr) 80 [aR a0,aU a1]=Ef (Iv r,I):=by
 unfold f80 at h
 refine y6 Ju ?_
 repeat' first|(replace h:=jx h;obtain⟨d,g,h⟩:=h;with_reducible first|replace g:=NR g|skip)|(replace h:=jz h;rcases h with⟨g,h⟩|⟨g,h⟩)|fail
 all_goals (cases h<;>(simp only[go_sem,seval,Ju,zn, *];exact⟨_,rfl⟩))
def AB (a0:qc)(a1:qf)(v1:qr)(s0:Int):Option (Int⊕(Unit⊕Int)):=
 cond (decide (s0<((v1.ax.getD []).length:Int)))
  (jw (zo (v1.ax.getD []) s0) fun dv=>
  jw (f145 a0 a1 dv.k) fun fP=>
  cond (decide (fP<dv.n))
   (Ef (.inr (.inl ())))
   (Ef (.inl (j6 .i64 (s0+1)))))
  (Ef (.inr (.inr s0)))
def Jv (a0:qc)(a1:qf)(v1:qr)(s0:Int):qg:=⟨[(2,.ah (aR a0),I),(3,.ah (aU a1),I),(5,.ah (aD v1),I),(6,Iv s0,I)],[]⟩
def Jw (a0:qc)(a1:qf)(v1:qr):Unit⊕Int→qo×qg
 | .inl d=>(.ret,⟨[(4,.bool I,I)],[]⟩)
 | .inr d=>(.exit 0,⟨[(2,.ah (aR a0),I),(3,.ah (aU a1),I),(5,.ah (aD v1),I),(6,Iv d,I),(14,.bool I,I)],[]⟩)
theorem j5v (a0:qc)(a1:qf)(v1:qr)(s0:Int)(r)(h:AB a0 a1 v1 s0=Ef r):yp pr Jx (Jv a0 a1 v1) (Jw a0 a1 v1) s0 r:=by
 unfold AB at h
 repeat' first|(replace h:=jx h;obtain⟨d,g,h⟩:=h;with_reducible first|replace g:=za2 g|skip)|(replace h:=jz h;rcases h with⟨g,h⟩|⟨g,h⟩)|fail
 all_goals (cases h<;>(first|(refine zw ?_;simp only[go_sem,seval,Jx,Jv,zn,Jw, *]<;>rfl)|(refine yj ?_;simp only[go_sem,seval,Jx,Jv,zn,Jw, *]<;>rfl)))
theorem jz5 (a0:qc)(a1:qf)(v1:qr){s0:Int}{d}(h:bf (AB a0 a1 v1) s0=Ef d):X pr (.loop Jx) (Jv a0 a1 v1 s0)=Ef (Jw a0 a1 v1 d):=y7 (j5v a0 a1 v1) (fun d=>by rcases d with d|d<;>(intro hh;cases hh)) h
def f81 (a0:qc)(a1:qf):Option Bool:=
 jw (f78 a0 a1) fun v1=>
 jw (bf (AB a0 a1 v1) 0) fun d21=>match d21 with
  | .inl d23=>
   Ef I
  | .inr d24=>
   Ef true
theorem W81 {a0:qc}{a1:qf}{r}(h:f81 a0 a1=Ef r):jy pr (X pr) 81 [aR a0,aU a1]=Ef (.bool r,I):=by
 unfold f81 at h
 refine y6 Oj ?_
 repeat' first|(replace h:=jx h;obtain⟨d,g,h⟩:=h;with_reducible first|replace g:=N5 g|(replace g:=jz5 a0 a1 _ g;rcases d with d|d<;>dsimp only[Jv,Jw,y9]at g h)|skip)|(replace h:=jz h;rcases h with⟨g,h⟩|⟨g,h⟩)|fail
 all_goals (cases h<;>(simp only[go_sem,seval,Oj, *];exact⟨_,rfl⟩))
def Az (a1:qf)(v1:qr)(s0:(Option (List (List UInt8)))×Int×Bool):Option (((Option (List (List UInt8)))×Int×Bool)⊕(((Option (List (List UInt8)))×Bool×Int))):=
 cond (decide (s0.2.1<((v1.aw.getD []).length:Int)))
  (jw (zo (v1.aw.getD []) s0.2.1) fun ej=>
  jw (f79 a1 ej) fun v24=>
  cond v24
   (Ef (.inl (s0.1,j6 .i64 (s0.2.1+1),s0.2.2)))
   (cond s0.2.2
    (jw (bh s0.1 [ej.k]) fun v28=>
    Ef (.inl (v28,j6 .i64 (s0.2.1+1),true)))
    (cond s0.1.isNone
     (jw (bh s0.1 [ej.k]) fun v31=>
     Ef (.inl (v31,j6 .i64 (s0.2.1+1),true)))
     (none))))
  (Ef (.inr (s0.1,s0.2.2,s0.2.1)))
def Jy (a1:qf)(v1:qr)(s0:(Option (List (List UInt8)))×Int×Bool):qg:=⟨[(3,.ah (aU a1),I),(5,.ah (aD v1),I),(6,sl 1 qae s0.1,s0.2.2),(7,Iv s0.2.1,I)],[]⟩
def Jz (a1:qf)(v1:qr)(d:((Option (List (List UInt8)))×Bool×Int)):qo×qg:=(.exit 0,⟨[(3,.ah (aU a1),I),(5,.ah (aD v1),I),(6,sl 1 qae d.1,d.2.1),(7,Iv d.2.2,I),(15,.bool I,I)],[]⟩)
theorem j06 (a1:qf)(v1:qr)(s0:(Option (List (List UInt8)))×Int×Bool)(r)(h:Az a1 v1 s0=Ef r):yp pr JA (Jy a1 v1) (Jz a1 v1) s0 r:=by
 unfold Az at h
 repeat' first|(replace h:=jx h;obtain⟨d,g,h⟩:=h;with_reducible first|replace g:=W79 g|replace g:=q63 g|skip)|(replace h:=jz h;rcases h with⟨g,h⟩|⟨g,h⟩)|fail
 all_goals (cases h<;>(first|(refine zw ?_;simp only[go_sem,seval,JA,Jy,zn,Jz, *]<;>rfl)|(refine yj ?_;simp only[go_sem,seval,JA,Jy,zn,Jz, *]<;>rfl)))
theorem jxk (a1:qf)(v1:qr){s0:(Option (List (List UInt8)))×Int×Bool}{d}(h:bf (Az a1 v1) s0=Ef d):X pr (.loop JA) (Jy a1 v1 s0)=Ef (Jz a1 v1 d):=y7 (j06 a1 v1) (fun d hh=>by cases hh) h
def f30 (a0:qc)(a1:qf):Option ((Option (List (List UInt8)))×Bool):=
 jw (f78 a0 a1) fun v1=>
 jw (bf (Az a1 v1) (none,0,I)) fun d33=>
 Ef (d33.1,d33.2.1)
theorem W30 {a0:qc}{a1:qf}{r}(h:f30 a0 a1=Ef r):jy pr (X pr) 30 [aR a0,aU a1]=Ef (sl 1 qae r.1,r.2):=by
 unfold f30 at h
 refine fk Ok ?_
 repeat' first|(replace h:=jx h;obtain⟨d,g,h⟩:=h;with_reducible first|replace g:=N5 g|(replace g:=jxk a1 _ g;dsimp only[Jy,Jz,y9]at g h)|skip)|(replace h:=jz h;rcases h with⟨g,h⟩|⟨g,h⟩)|fail
 all_goals (cases h<;>(simp only[go_sem,seval,Ok, *];exact⟨_,rfl⟩))
def xH (a0:qc)(a1:qf)(s0:Int):Option (Int⊕(Unit⊕Int)):=
 cond (decide (s0<((a1.uses.getD []).length:Int)))
  (jw (zo (a1.uses.getD []) s0) fun v28=>
  jw (f28 a0 v28.k) fun v30=>
  jw (zo (a0.au.getD []) v30) fun jM=>
  cond jM.held
   (Ef (.inr (.inl ())))
   (Ef (.inl (j6 .i64 (s0+1)))))
  (Ef (.inr (.inr s0)))
def JB (a0:qc)(a1:qf)(s0:Int):qg:=⟨[(2,.ah (aR a0),I),(3,.ah (.agg [.str a1.name,.str a1.product,Iv a1.version,sl 2 aS a1.uses,sl 3 zz a1.results,.str a1.partner,.bool I,Iv a1.ai]),I),(5,Iv s0,I)],[]⟩
def JC (a0:qc)(a1:qf):Unit⊕Int→qo×qg
 | .inl d=>(.ret,⟨[(4,Iv 34,I)],[]⟩)
 | .inr d=>(.exit 0,⟨[(2,.ah (aR a0),I),(3,.ah (.agg [.str a1.name,.str a1.product,Iv a1.version,sl 2 aS a1.uses,sl 3 zz a1.results,.str a1.partner,.bool I,Iv a1.ai]),I),(5,Iv d,I),(27,.bool I,I)],[]⟩)
theorem jyx (a0:qc)(a1:qf)(s0:Int)(r)(h:xH a0 a1 s0=Ef r):yp pr JD (JB a0 a1) (JC a0 a1) s0 r:=by
 unfold xH at h
 repeat' first|(replace h:=jx h;obtain⟨d,g,h⟩:=h;with_reducible first|replace g:=Ic g|skip)|(replace h:=jz h;rcases h with⟨g,h⟩|⟨g,h⟩)|fail
 all_goals (cases h<;>(first|(refine zw ?_;simp only[go_sem,seval,JD,JB,zn,JC, *]<;>rfl)|(refine yj ?_;simp only[go_sem,seval,JD,JB,zn,JC, *]<;>rfl)))
theorem j1a (a0:qc)(a1:qf){s0:Int}{d}(h:bf (xH a0 a1) s0=Ef d):X pr (.loop JD) (JB a0 a1 s0)=Ef (JC a0 a1 d):=y7 (jyx a0 a1) (fun d=>by rcases d with d|d<;>(intro hh;cases hh)) h
def f31 (a0:qc)(a1:qf):Option Int:=
 cond a1.aq
  (Ef 21)
  (jw (f80 a0 (⟨a1.name,a1.product,a1.version,a1.uses,a1.results,a1.partner,I,a1.ai⟩)) fun v2=>
  cond (decide (a1.version=v2))
   (jw (f81 a0 (⟨a1.name,a1.product,a1.version,a1.uses,a1.results,a1.partner,I,a1.ai⟩)) fun v5=>
   cond v5
    (jw (f30 a0 (⟨a1.name,a1.product,a1.version,a1.uses,a1.results,a1.partner,I,a1.ai⟩)) fun v8=>
    cond (decide (0<((v8.1.getD []).length:Int)))
     (Ef 31)
     (jw (bf (xH a0 a1) 0) fun d35=>match d35 with
      | .inl d37=>
       Ef 34
      | .inr d38=>
       Ef 0))
    (Ef 20))
   (Ef 32))
theorem W31 {a0:qc}{a1:qf}{r}(h:f31 a0 a1=Ef r):jy pr (X pr) 31 [.agg [.int .i64 a0.day,sl 5 z7 a0.au,sl 4 zr a0.ae,sl 8 bp a0.units],.agg [.str a1.name,.str a1.product,.int .i64 a1.version,sl 2 aS a1.uses,sl 3 zz a1.results,.str a1.partner,.bool a1.aq,.int .i64 a1.ai]]=Ef (.int .i64 r,I):=by
 unfold f31 at h
 refine y6 Ol ?_
 repeat' first|(replace h:=jx h;obtain⟨d,g,h⟩:=h;with_reducible first|replace g:=W80 g|replace g:=W81 g|replace g:=W30 g|(replace g:=j1a a0 a1 g;rcases d with d|d<;>dsimp only[JB,JC,y9]at g h)|skip)|(replace h:=jz h;rcases h with⟨g,h⟩|⟨g,h⟩)|fail
 all_goals (cases h<;>(simp only[go_sem,seval,Ol, *];exact⟨_,rfl⟩))
end Go.Z
end
