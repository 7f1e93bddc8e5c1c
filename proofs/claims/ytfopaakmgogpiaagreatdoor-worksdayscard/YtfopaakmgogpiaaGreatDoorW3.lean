/- Chapter 10. -/
import Derived.Test.YtfopaakmgogpiaaGreatDoorW1
set_option maxRecDepth 100000
set_option maxHeartbeats 4000000
noncomputable section
open Bool renaming false→I
open Option renaming some→En
namespace Go.Z
open Go Go.Abs Go.W
def Od (a0:qc)(a1:List UInt8)(s0:Int):Option (Int⊕(Int⊕Int)):=
 cond (decide (s0<((a0.units.getD []).length:Int)))
  (jx (zp (a0.units.getD []) s0) fun v10=>
  cond (decide (v10.name=a1))
   (En (.inr (.inl s0)))
   (En (.inl (j9 .i64 (s0+1)))))
  (En (.inr (.inr s0)))
def Jb (a0:qc)(a1:List UInt8)(s0:Int):qg:=⟨[(1,.str a1,I),(2,.ah (aR a0),I),(5,Iv s0,I)],[]⟩
def Jc (a0:qc)(a1:List UInt8):Int⊕Int→qo×qg
 | .inl d=>(.ret,⟨[(4,Iv d,I)],[]⟩)
 | .inr d=>(.exit 0,⟨[(1,.str a1,I),(2,.ah (aR a0),I),(5,Iv d,I),(10,.bool I,I)],[]⟩)
theorem jxg (a0:qc)(a1:List UInt8)(s0:Int)(r)(h:Od a0 a1 s0=En r):yo pr Jd (Jb a0 a1) (Jc a0 a1) s0 r:=by
 unfold Od at h
 repeat' first|(replace h:=jy h;obtain⟨d,g,h⟩:=h)|(replace h:=j6 h;rcases h with⟨g,h⟩|⟨g,h⟩)|fail
 all_goals (cases h<;>(first|(refine zy ?_;simp only[go_sem,seval,Jd,Jb,zn,Jc, *]<;>rfl)|(refine yh ?_;simp only[go_sem,seval,Jd,Jb,zn,Jc, *]<;>rfl)))
theorem jzh (a0:qc)(a1:List UInt8){s0:Int}{d}(h:bf (Od a0 a1) s0=En d):X pr (.loop Jd) (Jb a0 a1 s0)=En (Jc a0 a1 d):=yz (jxg a0 a1) (fun d=>by rcases d with d|d<;>(intro hh;cases hh)) h
def f27 (a0:qc)(a1:List UInt8):Option Int:=
 jx (bf (Od a0 a1) 0) fun d13=>match d13 with
  | .inl d15=>
   En d15
  | .inr d16=>
   En (-1)
theorem Wj {a0:qc}{a1:List UInt8}{r}(h:f27 a0 a1=En r):jz pr (X pr) 27 [aR a0,.str a1]=En (Iv r,I):=by
 unfold f27 at h
 refine y7 Oe ?_
 repeat' first|(replace h:=jy h;obtain⟨d,g,h⟩:=h;with_reducible first|(replace g:=jzh a0 a1 g;rcases d with d|d<;>dsimp only[Jb,Jc,y8]at g h)|skip)|(replace h:=j6 h;rcases h with⟨g,h⟩|⟨g,h⟩)|fail
 all_goals (cases h<;>(simp only[go_sem,seval,Oe, *];exact⟨_,rfl⟩))
def Og (a0:qc)(a1:List UInt8)(s0:Int):Option (Int⊕(Int⊕Int)):=
 cond (decide (s0<((a0.au.getD []).length:Int)))
  (jx (zp (a0.au.getD []) s0) fun v10=>
  cond (decide (v10.name=a1))
   (En (.inr (.inl s0)))
   (En (.inl (j9 .i64 (s0+1)))))
  (En (.inr (.inr s0)))
def Je (a0:qc)(a1:List UInt8)(s0:Int):qg:=⟨[(1,.str a1,I),(2,.ah (aR a0),I),(5,Iv s0,I)],[]⟩
def Jf (a0:qc)(a1:List UInt8):Int⊕Int→qo×qg
 | .inl d=>(.ret,⟨[(4,Iv d,I)],[]⟩)
 | .inr d=>(.exit 0,⟨[(1,.str a1,I),(2,.ah (aR a0),I),(5,Iv d,I),(10,.bool I,I)],[]⟩)
theorem jyw (a0:qc)(a1:List UInt8)(s0:Int)(r)(h:Og a0 a1 s0=En r):yo pr Jg (Je a0 a1) (Jf a0 a1) s0 r:=by
 unfold Og at h
 repeat' first|(replace h:=jy h;obtain⟨d,g,h⟩:=h)|(replace h:=j6 h;rcases h with⟨g,h⟩|⟨g,h⟩)|fail
 all_goals (cases h<;>(first|(refine zy ?_;simp only[go_sem,seval,Jg,Je,zn,Jf, *]<;>rfl)|(refine yh ?_;simp only[go_sem,seval,Jg,Je,zn,Jf, *]<;>rfl)))
theorem j6b (a0:qc)(a1:List UInt8){s0:Int}{d}(h:bf (Og a0 a1) s0=En d):X pr (.loop Jg) (Je a0 a1 s0)=En (Jf a0 a1 d):=yz (jyw a0 a1) (fun d=>by rcases d with d|d<;>(intro hh;cases hh)) h
def f28 (a0:qc)(a1:List UInt8):Option Int:=
 jx (bf (Og a0 a1) 0) fun d13=>match d13 with
  | .inl d15=>
   En d15
  | .inr d16=>
   En (-1)
theorem H3 {a0:qc}{a1:List UInt8}{r}(h:f28 a0 a1=En r):jz pr (X pr) 28 [aR a0,.str a1]=En (Iv r,I):=by
 unfold f28 at h
 refine y7 Oh ?_
 repeat' first|(replace h:=jy h;obtain⟨d,g,h⟩:=h;with_reducible first|(replace g:=j6b a0 a1 g;rcases d with d|d<;>dsimp only[Je,Jf,y8]at g h)|skip)|(replace h:=j6 h;rcases h with⟨g,h⟩|⟨g,h⟩)|fail
 all_goals (cases h<;>(simp only[go_sem,seval,Oh, *];exact⟨_,rfl⟩))
def Oi (a0:qc)(a1:List UInt8)(s0:Int):Option (Int⊕(Int⊕Int)):=
 cond (decide (s0<((a0.ae.getD []).length:Int)))
  (jx (zp (a0.ae.getD []) s0) fun v10=>
  cond (decide (v10.name=a1))
   (En (.inr (.inl s0)))
   (En (.inl (j9 .i64 (s0+1)))))
  (En (.inr (.inr s0)))
def Jh (a0:qc)(a1:List UInt8)(s0:Int):qg:=⟨[(1,.str a1,I),(2,.ah (aR a0),I),(5,Iv s0,I)],[]⟩
def Ji (a0:qc)(a1:List UInt8):Int⊕Int→qo×qg
 | .inl d=>(.ret,⟨[(4,Iv d,I)],[]⟩)
 | .inr d=>(.exit 0,⟨[(1,.str a1,I),(2,.ah (aR a0),I),(5,Iv d,I),(10,.bool I,I)],[]⟩)
theorem jtf (a0:qc)(a1:List UInt8)(s0:Int)(r)(h:Oi a0 a1 s0=En r):yo pr Jj (Jh a0 a1) (Ji a0 a1) s0 r:=by
 unfold Oi at h
 repeat' first|(replace h:=jy h;obtain⟨d,g,h⟩:=h)|(replace h:=j6 h;rcases h with⟨g,h⟩|⟨g,h⟩)|fail
 all_goals (cases h<;>(first|(refine zy ?_;simp only[go_sem,seval,Jj,Jh,zn,Ji, *]<;>rfl)|(refine yh ?_;simp only[go_sem,seval,Jj,Jh,zn,Ji, *]<;>rfl)))
theorem jq5 (a0:qc)(a1:List UInt8){s0:Int}{d}(h:bf (Oi a0 a1) s0=En d):X pr (.loop Jj) (Jh a0 a1 s0)=En (Ji a0 a1 d):=yz (jtf a0 a1) (fun d=>by rcases d with d|d<;>(intro hh;cases hh)) h
def f144 (a0:qc)(a1:List UInt8):Option Int:=
 jx (bf (Oi a0 a1) 0) fun d13=>match d13 with
  | .inl d15=>
   En d15
  | .inr d16=>
   En (-1)
theorem NU {a0:qc}{a1:List UInt8}{r}(h:f144 a0 a1=En r):jz pr (X pr) 144 [aR a0,.str a1]=En (Iv r,I):=by
 unfold f144 at h
 refine y7 vZ ?_
 repeat' first|(replace h:=jy h;obtain⟨d,g,h⟩:=h;with_reducible first|(replace g:=jq5 a0 a1 g;rcases d with d|d<;>dsimp only[Jh,Ji,y8]at g h)|skip)|(replace h:=j6 h;rcases h with⟨g,h⟩|⟨g,h⟩)|fail
 all_goals (cases h<;>(simp only[go_sem,seval,vZ, *];exact⟨_,rfl⟩))
def AU (a0:Option (List qm))(s0:Int)(s1:Int):Option (Int⊕(Unit⊕Int)):=
 jx (zp (a0.getD []) s0) fun v79=>
 cond (decide (s1<((v79.names.getD []).length:Int)))
  (jx (zp (v79.names.getD []) s1) fun v82=>
  cond (decide (40<(v82.length:Int)))
   (En (.inr (.inl ())))
   (En (.inl (j9 .i64 (s1+1)))))
  (En (.inr (.inr s1)))
def Jk (a0:Option (List qm))(s0:Int)(s1:Int):qg:=⟨[(0,sl 5 vev a0,I),(5,Iv s0,I),(6,Iv s1,I)],[]⟩
def Jl (a0:Option (List qm))(s0:Int):Unit⊕Int→qo×qg
 | .inl d=>(.ret,⟨[(4,.bool I,I)],[]⟩)
 | .inr d=>(.exit 2,⟨[(0,sl 5 vev a0,I),(5,Iv s0,I),(6,Iv d,I),(58,.bool I,I)],[]⟩)
theorem zek (a0:Option (List qm))(s0:Int)(s1:Int)(r)(h:AU a0 s0 s1=En r):yo pr Jm (Jk a0 s0) (Jl a0 s0) s1 r:=by
 unfold AU at h
 repeat' first|(replace h:=jy h;obtain⟨d,g,h⟩:=h)|(replace h:=j6 h;rcases h with⟨g,h⟩|⟨g,h⟩)|fail
 all_goals (cases h<;>(first|(refine zy ?_;simp only[go_sem,seval,Jm,Jk,zn,Jl, *]<;>rfl)|(refine yh ?_;simp only[go_sem,seval,Jm,Jk,zn,Jl, *]<;>rfl)))
theorem j9y (a0:Option (List qm))(s0:Int){s1:Int}{d}(h:bf (AU a0 s0) s1=En d):X pr (.loop Jm) (Jk a0 s0 s1)=En (Jl a0 s0 d):=yz (zek a0 s0) (fun d=>by rcases d with d|d<;>(intro hh;cases hh)) h
def AR (a0:Option (List qm))(s0:Int):Option (Int⊕(Unit⊕Int)):=
 cond (decide (s0<((a0.getD []).length:Int)))
  (jx (zp (a0.getD []) s0) fun vV=>
  cond (decide (40<(vV.kind.length:Int)))
   (En (.inr (.inl ())))
   (cond (decide (6<((vV.names.getD []).length:Int)))
    (En (.inr (.inl ())))
    (cond (decide (8<((vV.values.getD []).length:Int)))
     (En (.inr (.inl ())))
     (cond (decide (200<(vV.text.length:Int)))
      (En (.inr (.inl ())))
      (jx (bf (AU a0 s0) 0) fun d85=>match d85 with
       | .inl d87=>
        En (.inr (.inl ()))
       | .inr d88=>
        En (.inl (j9 .i64 (s0+1))))))))
  (En (.inr (.inr s0)))
def Jn (a0:Option (List qm))(s0:Int):qg:=⟨[(0,sl 5 vev a0,I),(5,Iv s0,I)],[]⟩
def Jo (a0:Option (List qm)):Unit⊕Int→qo×qg
 | .inl d=>(.ret,⟨[(4,.bool I,I)],[]⟩)
 | .inr d=>(.exit 0,⟨[(0,sl 5 vev a0,I),(5,Iv d,I),(14,.bool I,I)],[]⟩)
theorem zg9 (a0:Option (List qm))(s0:Int)(r)(h:AR a0 s0=En r):yo pr Jp (Jn a0) (Jo a0) s0 r:=by
 unfold AR at h
 repeat' first|(replace h:=jy h;obtain⟨d,g,h⟩:=h;with_reducible first|(replace g:=j9y a0 s0 g;rcases d with d|d<;>dsimp only[Jk,Jl,y8]at g h)|skip)|(replace h:=j6 h;rcases h with⟨g,h⟩|⟨g,h⟩)|fail
 all_goals (cases h<;>(first|(refine zy ?_;simp only[go_sem,seval,Jp,Jn,zn,Jo, *]<;>rfl)|(refine yh ?_;simp only[go_sem,seval,Jp,Jn,zn,Jo, *]<;>rfl)))
theorem zap (a0:Option (List qm)){s0:Int}{d}(h:bf (AR a0) s0=En d):X pr (.loop Jp) (Jn a0 s0)=En (Jo a0 d):=yz (zg9 a0) (fun d=>by rcases d with d|d<;>(intro hh;cases hh)) h
def f7 (a0:Option (List qm))(a1:Int):Option Bool:=
 cond (decide (a1<((a0.getD []).length:Int)))
  (En I)
  (jx (bf (AR a0) 0) fun d89=>match d89 with
   | .inl d91=>
    En I
   | .inr d92=>
    En true)
theorem W7 {a0:Option (List qm)}{a1:Int}{r}(h:f7 a0 a1=En r):jz pr (X pr) 7 [sl 5 vev a0,Iv a1]=En (.bool r,I):=by
 unfold f7 at h
 refine y7 c7 ?_
 repeat' first|(replace h:=jy h;obtain⟨d,g,h⟩:=h;with_reducible first|(replace g:=zap a0 g;rcases d with d|d<;>dsimp only[Jn,Jo,y8]at g h)|skip)|(replace h:=j6 h;rcases h with⟨g,h⟩|⟨g,h⟩)|fail
 all_goals (cases h<;>(simp only[go_sem,seval,c7, *];exact⟨_,rfl⟩))
def Aj (a0:qc)(a1:qe)(a2:List UInt8)(s0:Int×Int):Option ((Int×Int)⊕((Int×Int))):=
 cond (decide (s0.2<((a1.uses.getD []).length:Int)))
  (jx (zp (a1.uses.getD []) s0.2) fun gq=>
  jx (f28 a0 gq.k) fun v20=>
  jx (zp (a0.au.getD []) v20) fun ea=>
  cond (decide (ea.kind=a2))
   (En (.inl (j9 .i64 (s0.1+gq.n),j9 .i64 (s0.2+1))))
   (En (.inl (s0.1,j9 .i64 (s0.2+1)))))
  (En (.inr (s0.1,s0.2)))
def Jq (a0:qc)(a1:qe)(a2:List UInt8)(s0:Int×Int):qg:=⟨[(2,.str a2,I),(3,.ah (aR a0),I),(4,.ah (aU a1),I),(7,Iv s0.1,I),(8,Iv s0.2,I)],[]⟩
def Jr (a0:qc)(a1:qe)(a2:List UInt8)(d:(Int×Int)):qo×qg:=(.exit 0,⟨[(2,.str a2,I),(3,.ah (aR a0),I),(4,.ah (aU a1),I),(7,Iv d.1,I),(8,Iv d.2,I),(13,.bool I,I)],[]⟩)
theorem jsb (a0:qc)(a1:qe)(a2:List UInt8)(s0:Int×Int)(r)(h:Aj a0 a1 a2 s0=En r):yo pr Js (Jq a0 a1 a2) (Jr a0 a1 a2) s0 r:=by
 unfold Aj at h
 repeat' first|(replace h:=jy h;obtain⟨d,g,h⟩:=h;with_reducible first|replace g:=H3 g|skip)|(replace h:=j6 h;rcases h with⟨g,h⟩|⟨g,h⟩)|fail
 all_goals (cases h<;>(first|(refine zy ?_;simp only[go_sem,seval,Js,Jq,zn,Jr, *]<;>rfl)|(refine yh ?_;simp only[go_sem,seval,Js,Jq,zn,Jr, *]<;>rfl)))
theorem js2 (a0:qc)(a1:qe)(a2:List UInt8){s0:Int×Int}{d}(h:bf (Aj a0 a1 a2) s0=En d):X pr (.loop Js) (Jq a0 a1 a2 s0)=En (Jr a0 a1 a2 d):=yz (jsb a0 a1 a2) (fun d hh=>by cases hh) h
def f145 (a0:qc)(a1:qe)(a2:List UInt8):Option Int:=
 jx (bf (Aj a0 a1 a2) (0,0)) fun d25=>
 En d25.1
theorem ze2 {a0:qc}{a1:qe}{a2:List UInt8}{r}(h:f145 a0 a1 a2=En r):jz pr (X pr) 145 [aR a0,aU a1,.str a2]=En (Iv r,I):=by
 unfold f145 at h
 refine y7 wc ?_
 repeat' first|(replace h:=jy h;obtain⟨d,g,h⟩:=h;with_reducible first|(replace g:=js2 a0 a1 a2 g;dsimp only[Jq,Jr,y8]at g h)|skip)|(replace h:=j6 h;rcases h with⟨g,h⟩|⟨g,h⟩)|fail
 all_goals (cases h<;>(simp only[go_sem,seval,wc, *];exact⟨_,rfl⟩))
def f78 (a0:qc)(a1:qe):Option qr:=
 jx (f144 a0 a1.product) fun v1=>
 jx (zp (a0.ae.getD []) v1) fun v3=>
 jx (zp (v3.aH.getD []) (j9 .i64 (a1.version-1))) fun v5=>
 En v5
theorem N5 {a0:qc}{a1:qe}{r}(h:f78 a0 a1=En r):jz pr (X pr) 78 [aR a0,aU a1]=En (aD r,I):=by
 unfold f78 at h
 refine y7 Jt ?_
 repeat' first|(replace h:=jy h;obtain⟨d,g,h⟩:=h;with_reducible first|replace g:=NU g|skip)|(replace h:=j6 h;rcases h with⟨g,h⟩|⟨g,h⟩)|fail
 all_goals (cases h<;>(simp only[go_sem,seval,Jt,zn, *];exact⟨_,rfl⟩))
def Af (a0:qe)(a1:qk)(s0:Bool×Int):Option ((Bool×Int)⊕((Bool×Int))):=
 cond (decide (s0.2<((a0.results.getD []).length:Int)))
  (jx (zp (a0.results.getD []) s0.2) fun dz=>
  cond (decide (dz.k=a1.k))
   (cond (decide (dz.a=a0.version))
    (cond (decide (a1.a≤dz.b))
     (En (.inl (decide (dz.b≤a1.b),j9 .i64 (s0.2+1))))
     (En (.inl (I,j9 .i64 (s0.2+1)))))
    (En (.inl (s0.1,j9 .i64 (s0.2+1)))))
   (En (.inl (s0.1,j9 .i64 (s0.2+1)))))
  (En (.inr (s0.1,s0.2)))
def Ju (a0:qe)(a1:qk)(s0:Bool×Int):qg:=⟨[(2,.ah (aU a0),I),(3,.ah (aT a1),I),(5,.bool s0.1,I),(6,Iv s0.2,I)],[]⟩
def Jv (a0:qe)(a1:qk)(d:(Bool×Int)):qo×qg:=(.exit 0,⟨[(2,.ah (aU a0),I),(3,.ah (aT a1),I),(5,.bool d.1,I),(6,Iv d.2,I),(12,.bool I,I)],[]⟩)
theorem j38 (a0:qe)(a1:qk)(s0:Bool×Int)(r)(h:Af a0 a1 s0=En r):yo pr Jw (Ju a0 a1) (Jv a0 a1) s0 r:=by
 unfold Af at h
 repeat' first|(replace h:=jy h;obtain⟨d,g,h⟩:=h)|(replace h:=j6 h;rcases h with⟨g,h⟩|⟨g,h⟩)|fail
 all_goals (cases h<;>(first|(refine zy ?_;simp only[go_sem,seval,Jw,Ju,zn,Jv, *]<;>rfl)|(refine yh ?_;simp only[go_sem,seval,Jw,Ju,zn,Jv, *]<;>rfl)))
theorem jxu (a0:qe)(a1:qk){s0:Bool×Int}{d}(h:bf (Af a0 a1) s0=En d):X pr (.loop Jw) (Ju a0 a1 s0)=En (Jv a0 a1 d):=yz (j38 a0 a1) (fun d hh=>by cases hh) h
def f79 (a0:qe)(a1:qk):Option Bool:=
 jx (bf (Af a0 a1) (I,0)) fun d19=>
 En d19.1
theorem W79 {a0:qe}{a1:qk}{r}(h:f79 a0 a1=En r):jz pr (X pr) 79 [aU a0,aT a1]=En (.bool r,I):=by
 unfold f79 at h
 refine y7 Oj ?_
 repeat' first|(replace h:=jy h;obtain⟨d,g,h⟩:=h;with_reducible first|(replace g:=jxu a0 a1 g;dsimp only[Ju,Jv,y8]at g h)|skip)|(replace h:=j6 h;rcases h with⟨g,h⟩|⟨g,h⟩)|fail
 all_goals (cases h<;>(simp only[go_sem,seval,Oj, *];exact⟨_,rfl⟩))
def f80 (a0:qc)(a1:qe):Option Int:=
 jx (f144 a0 a1.product) fun v1=>
 jx (zp (a0.ae.getD []) v1) fun v3=>
 En ((v3.aH.getD []).length:Int)
theorem W80 {a0:qc}{a1:qe}{r}(h:f80 a0 a1=En r):jz pr (X pr) 80 [aR a0,aU a1]=En (Iv r,I):=by
 unfold f80 at h
 refine y7 Jx ?_
 repeat' first|(replace h:=jy h;obtain⟨d,g,h⟩:=h;with_reducible first|replace g:=NU g|skip)|(replace h:=j6 h;rcases h with⟨g,h⟩|⟨g,h⟩)|fail
 all_goals (cases h<;>(simp only[go_sem,seval,Jx,zn, *];exact⟨_,rfl⟩))
def Ak (a0:qc)(a1:qe)(v1:qr)(s0:Int):Option (Int⊕(Unit⊕Int)):=
 cond (decide (s0<((v1.ax.getD []).length:Int)))
  (jx (zp (v1.ax.getD []) s0) fun dm=>
  jx (f145 a0 a1 dm.k) fun gq=>
  cond (decide (gq<dm.n))
   (En (.inr (.inl ())))
   (En (.inl (j9 .i64 (s0+1)))))
  (En (.inr (.inr s0)))
def Jy (a0:qc)(a1:qe)(v1:qr)(s0:Int):qg:=⟨[(2,.ah (aR a0),I),(3,.ah (aU a1),I),(5,.ah (aD v1),I),(6,Iv s0,I)],[]⟩
def Jz (a0:qc)(a1:qe)(v1:qr):Unit⊕Int→qo×qg
 | .inl d=>(.ret,⟨[(4,.bool I,I)],[]⟩)
 | .inr d=>(.exit 0,⟨[(2,.ah (aR a0),I),(3,.ah (aU a1),I),(5,.ah (aD v1),I),(6,Iv d,I),(14,.bool I,I)],[]⟩)
theorem j5c (a0:qc)(a1:qe)(v1:qr)(s0:Int)(r)(h:Ak a0 a1 v1 s0=En r):yo pr JA (Jy a0 a1 v1) (Jz a0 a1 v1) s0 r:=by
 unfold Ak at h
 repeat' first|(replace h:=jy h;obtain⟨d,g,h⟩:=h;with_reducible first|replace g:=ze2 g|skip)|(replace h:=j6 h;rcases h with⟨g,h⟩|⟨g,h⟩)|fail
 all_goals (cases h<;>(first|(refine zy ?_;simp only[go_sem,seval,JA,Jy,zn,Jz, *]<;>rfl)|(refine yh ?_;simp only[go_sem,seval,JA,Jy,zn,Jz, *]<;>rfl)))
theorem jzq (a0:qc)(a1:qe)(v1:qr){s0:Int}{d}(h:bf (Ak a0 a1 v1) s0=En d):X pr (.loop JA) (Jy a0 a1 v1 s0)=En (Jz a0 a1 v1 d):=yz (j5c a0 a1 v1) (fun d=>by rcases d with d|d<;>(intro hh;cases hh)) h
def f81 (a0:qc)(a1:qe):Option Bool:=
 jx (f78 a0 a1) fun v1=>
 jx (bf (Ak a0 a1 v1) 0) fun d21=>match d21 with
  | .inl d23=>
   En I
  | .inr d24=>
   En true
theorem W81 {a0:qc}{a1:qe}{r}(h:f81 a0 a1=En r):jz pr (X pr) 81 [aR a0,aU a1]=En (.bool r,I):=by
 unfold f81 at h
 refine y7 Ok ?_
 repeat' first|(replace h:=jy h;obtain⟨d,g,h⟩:=h;with_reducible first|replace g:=N5 g|(replace g:=jzq a0 a1 _ g;rcases d with d|d<;>dsimp only[Jy,Jz,y8]at g h)|skip)|(replace h:=j6 h;rcases h with⟨g,h⟩|⟨g,h⟩)|fail
 all_goals (cases h<;>(simp only[go_sem,seval,Ok, *];exact⟨_,rfl⟩))
def Ai (a1:qe)(v1:qr)(s0:(Option (List (List UInt8)))×Int×Bool):Option (((Option (List (List UInt8)))×Int×Bool)⊕(((Option (List (List UInt8)))×Bool×Int))):=
 cond (decide (s0.2.1<((v1.aw.getD []).length:Int)))
  (jx (zp (v1.aw.getD []) s0.2.1) fun ea=>
  jx (f79 a1 ea) fun v24=>
  cond v24
   (En (.inl (s0.1,j9 .i64 (s0.2.1+1),s0.2.2)))
   (cond s0.2.2
    (jx (bg s0.1 [ea.k]) fun v28=>
    En (.inl (v28,j9 .i64 (s0.2.1+1),true)))
    (cond s0.1.isNone
     (jx (bg s0.1 [ea.k]) fun v31=>
     En (.inl (v31,j9 .i64 (s0.2.1+1),true)))
     (none))))
  (En (.inr (s0.1,s0.2.2,s0.2.1)))
def JB (a1:qe)(v1:qr)(s0:(Option (List (List UInt8)))×Int×Bool):qg:=⟨[(3,.ah (aU a1),I),(5,.ah (aD v1),I),(6,sl 1 qag s0.1,s0.2.2),(7,Iv s0.2.1,I)],[]⟩
def JC (a1:qe)(v1:qr)(d:((Option (List (List UInt8)))×Bool×Int)):qo×qg:=(.exit 0,⟨[(3,.ah (aU a1),I),(5,.ah (aD v1),I),(6,sl 1 qag d.1,d.2.1),(7,Iv d.2.2,I),(15,.bool I,I)],[]⟩)
theorem jzl (a1:qe)(v1:qr)(s0:(Option (List (List UInt8)))×Int×Bool)(r)(h:Ai a1 v1 s0=En r):yo pr JD (JB a1 v1) (JC a1 v1) s0 r:=by
 unfold Ai at h
 repeat' first|(replace h:=jy h;obtain⟨d,g,h⟩:=h;with_reducible first|replace g:=W79 g|replace g:=q61 g|skip)|(replace h:=j6 h;rcases h with⟨g,h⟩|⟨g,h⟩)|fail
 all_goals (cases h<;>(first|(refine zy ?_;simp only[go_sem,seval,JD,JB,zn,JC, *]<;>rfl)|(refine yh ?_;simp only[go_sem,seval,JD,JB,zn,JC, *]<;>rfl)))
theorem jxn (a1:qe)(v1:qr){s0:(Option (List (List UInt8)))×Int×Bool}{d}(h:bf (Ai a1 v1) s0=En d):X pr (.loop JD) (JB a1 v1 s0)=En (JC a1 v1 d):=yz (jzl a1 v1) (fun d hh=>by cases hh) h
def f30 (a0:qc)(a1:qe):Option ((Option (List (List UInt8)))×Bool):=
 jx (f78 a0 a1) fun v1=>
 jx (bf (Ai a1 v1) (none,0,I)) fun d33=>
 En (d33.1,d33.2.1)
theorem W30 {a0:qc}{a1:qe}{r}(h:f30 a0 a1=En r):jz pr (X pr) 30 [aR a0,aU a1]=En (sl 1 qag r.1,r.2):=by
 unfold f30 at h
 refine eU Ol ?_
 repeat' first|(replace h:=jy h;obtain⟨d,g,h⟩:=h;with_reducible first|replace g:=N5 g|(replace g:=jxn a1 _ g;dsimp only[JB,JC,y8]at g h)|skip)|(replace h:=j6 h;rcases h with⟨g,h⟩|⟨g,h⟩)|fail
 all_goals (cases h<;>(simp only[go_sem,seval,Ol, *];exact⟨_,rfl⟩))
def xq (a0:qc)(a1:qe)(s0:Int):Option (Int⊕(Unit⊕Int)):=
 cond (decide (s0<((a1.uses.getD []).length:Int)))
  (jx (zp (a1.uses.getD []) s0) fun v28=>
  jx (f28 a0 v28.k) fun v30=>
  jx (zp (a0.au.getD []) v30) fun kM=>
  cond kM.held
   (En (.inr (.inl ())))
   (En (.inl (j9 .i64 (s0+1)))))
  (En (.inr (.inr s0)))
def JE (a0:qc)(a1:qe)(s0:Int):qg:=⟨[(2,.ah (aR a0),I),(3,.ah (.agg [.str a1.name,.str a1.product,Iv a1.version,sl 2 aS a1.uses,sl 3 z6 a1.results,.str a1.partner,.bool I,Iv a1.ai]),I),(5,Iv s0,I)],[]⟩
def JF (a0:qc)(a1:qe):Unit⊕Int→qo×qg
 | .inl d=>(.ret,⟨[(4,Iv 34,I)],[]⟩)
 | .inr d=>(.exit 0,⟨[(2,.ah (aR a0),I),(3,.ah (.agg [.str a1.name,.str a1.product,Iv a1.version,sl 2 aS a1.uses,sl 3 z6 a1.results,.str a1.partner,.bool I,Iv a1.ai]),I),(5,Iv d,I),(27,.bool I,I)],[]⟩)
theorem jyv (a0:qc)(a1:qe)(s0:Int)(r)(h:xq a0 a1 s0=En r):yo pr JG (JE a0 a1) (JF a0 a1) s0 r:=by
 unfold xq at h
 repeat' first|(replace h:=jy h;obtain⟨d,g,h⟩:=h;with_reducible first|replace g:=H3 g|skip)|(replace h:=j6 h;rcases h with⟨g,h⟩|⟨g,h⟩)|fail
 all_goals (cases h<;>(first|(refine zy ?_;simp only[go_sem,seval,JG,JE,zn,JF, *]<;>rfl)|(refine yh ?_;simp only[go_sem,seval,JG,JE,zn,JF, *]<;>rfl)))
theorem j02 (a0:qc)(a1:qe){s0:Int}{d}(h:bf (xq a0 a1) s0=En d):X pr (.loop JG) (JE a0 a1 s0)=En (JF a0 a1 d):=yz (jyv a0 a1) (fun d=>by rcases d with d|d<;>(intro hh;cases hh)) h
def f31 (a0:qc)(a1:qe):Option Int:=
 cond a1.ar
  (En 21)
  (jx (f80 a0 (⟨a1.name,a1.product,a1.version,a1.uses,a1.results,a1.partner,I,a1.ai⟩)) fun v2=>
  cond (decide (a1.version=v2))
   (jx (f81 a0 (⟨a1.name,a1.product,a1.version,a1.uses,a1.results,a1.partner,I,a1.ai⟩)) fun v5=>
   cond v5
    (jx (f30 a0 (⟨a1.name,a1.product,a1.version,a1.uses,a1.results,a1.partner,I,a1.ai⟩)) fun v8=>
    cond (decide (0<((v8.1.getD []).length:Int)))
     (En 31)
     (jx (bf (xq a0 a1) 0) fun d35=>match d35 with
      | .inl d37=>
       En 34
      | .inr d38=>
       En 0))
    (En 20))
   (En 32))
theorem W31 {a0:qc}{a1:qe}{r}(h:f31 a0 a1=En r):jz pr (X pr) 31 [.agg [.int .i64 a0.day,sl 5 z8 a0.au,sl 4 zt a0.ae,sl 8 bh a0.units],.agg [.str a1.name,.str a1.product,.int .i64 a1.version,sl 2 aS a1.uses,sl 3 z6 a1.results,.str a1.partner,.bool a1.ar,.int .i64 a1.ai]]=En (.int .i64 r,I):=by
 unfold f31 at h
 refine y7 Om ?_
 repeat' first|(replace h:=jy h;obtain⟨d,g,h⟩:=h;with_reducible first|replace g:=W80 g|replace g:=W81 g|replace g:=W30 g|(replace g:=j02 a0 a1 g;rcases d with d|d<;>dsimp only[JE,JF,y8]at g h)|skip)|(replace h:=j6 h;rcases h with⟨g,h⟩|⟨g,h⟩)|fail
 all_goals (cases h<;>(simp only[go_sem,seval,Om, *];exact⟨_,rfl⟩))
end Go.Z
end
