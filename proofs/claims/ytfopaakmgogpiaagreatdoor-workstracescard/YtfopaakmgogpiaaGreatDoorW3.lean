/- Chapter 10. -/
import Derived.Test.YtfopaakmgogpiaaGreatDoorW1
set_option linter.unusedVariables false
set_option linter.unusedSimpArgs false
set_option maxRecDepth 100000
set_option maxHeartbeats 4000000
noncomputable section
open Bool renaming false→I,true→El
open Option renaming some→Eh,none→En
namespace Go.Z
open Go Go.Abs Go.W
def Ox (a0:qc)(a1:List UInt8)(s0:Int):Option (Int⊕(Int⊕Int)):=
 cond (decide (s0<((a0.units.getD []).length:Int)))
  (jx (zq (a0.units.getD []) s0) fun v10=>
  cond (decide (v10.name=a1))
   (Eh (.inr (.inl s0)))
   (Eh (.inl (j9 .i64 (s0+1)))))
  (Eh (.inr (.inr s0)))
def JA (a0:qc)(a1:List UInt8)(s0:Int):qh:=⟨[(1,.str a1,I),(2,.ah (aR a0),I),(5,Iv s0,I)],[]⟩
def JB (a0:qc)(a1:List UInt8):Int⊕Int→qo×qh
 | .inl d=>(.ret,⟨[(4,Iv d,I)],[]⟩)
 | .inr d=>(.exit 0,⟨[(1,.str a1,I),(2,.ah (aR a0),I),(5,Iv d,I),(10,.bool I,I)],[]⟩)
theorem j0b (a0:qc)(a1:List UInt8)(s0:Int)(r)(h:Ox a0 a1 s0=Eh r):y5 pr JC (JA a0 a1) (JB a0 a1) s0 r:=by
 unfold Ox at h
 repeat' first|(replace h:=jy h;obtain⟨d,g,h⟩:=h)|(replace h:=j6 h;rcases h with⟨g,h⟩|⟨g,h⟩)|fail
 all_goals (cases h<;>(first|(refine z6 ?_;simp only[go_sem,seval,JC,JA,zn,JB, *]<;>rfl)|(refine yo ?_;simp only[go_sem,seval,JC,JA,zn,JB, *]<;>rfl)))
theorem j23 (a0:qc)(a1:List UInt8){s0:Int}{d}(h:bj (Ox a0 a1) s0=Eh d):X pr (.loop JC) (JA a0 a1 s0)=Eh (JB a0 a1 d):=kl (j0b a0 a1) (fun d=>by rcases d with d|d<;>(intro hh;cases hh)) h
def f27 (a0:qc)(a1:List UInt8):Option Int:=
 jx (bj (Ox a0 a1) 0) fun d13=>match d13 with
  | .inl d15=>
   Eh d15
  | .inr d16=>
   Eh (-1)
theorem N7 {a0:qc}{a1:List UInt8}{r}(h:f27 a0 a1=Eh r):jz pr (X pr) 27 [aR a0,.str a1]=Eh (Iv r,I):=by
 unfold f27 at h
 refine yt Oy ?_
 repeat' first|(replace h:=jy h;obtain⟨d,g,h⟩:=h;with_reducible first|(replace g:=j23 a0 a1 g;rcases d with d|d<;>dsimp only[JA,JB,ki]at g h)|skip)|(replace h:=j6 h;rcases h with⟨g,h⟩|⟨g,h⟩)|fail
 all_goals (cases h<;>(simp only[go_sem,seval,Oy, *];exact⟨_,rfl⟩))
def Oz (a0:qc)(a1:List UInt8)(s0:Int):Option (Int⊕(Int⊕Int)):=
 cond (decide (s0<((a0.aq.getD []).length:Int)))
  (jx (zq (a0.aq.getD []) s0) fun v10=>
  cond (decide (v10.name=a1))
   (Eh (.inr (.inl s0)))
   (Eh (.inl (j9 .i64 (s0+1)))))
  (Eh (.inr (.inr s0)))
def JD (a0:qc)(a1:List UInt8)(s0:Int):qh:=⟨[(1,.str a1,I),(2,.ah (aR a0),I),(5,Iv s0,I)],[]⟩
def JE (a0:qc)(a1:List UInt8):Int⊕Int→qo×qh
 | .inl d=>(.ret,⟨[(4,Iv d,I)],[]⟩)
 | .inr d=>(.exit 0,⟨[(1,.str a1,I),(2,.ah (aR a0),I),(5,Iv d,I),(10,.bool I,I)],[]⟩)
theorem jwv (a0:qc)(a1:List UInt8)(s0:Int)(r)(h:Oz a0 a1 s0=Eh r):y5 pr JF (JD a0 a1) (JE a0 a1) s0 r:=by
 unfold Oz at h
 repeat' first|(replace h:=jy h;obtain⟨d,g,h⟩:=h)|(replace h:=j6 h;rcases h with⟨g,h⟩|⟨g,h⟩)|fail
 all_goals (cases h<;>(first|(refine z6 ?_;simp only[go_sem,seval,JF,JD,zn,JE, *]<;>rfl)|(refine yo ?_;simp only[go_sem,seval,JF,JD,zn,JE, *]<;>rfl)))
theorem j0v (a0:qc)(a1:List UInt8){s0:Int}{d}(h:bj (Oz a0 a1) s0=Eh d):X pr (.loop JF) (JD a0 a1 s0)=Eh (JE a0 a1 d):=kl (jwv a0 a1) (fun d=>by rcases d with d|d<;>(intro hh;cases hh)) h
def f28 (a0:qc)(a1:List UInt8):Option Int:=
 jx (bj (Oz a0 a1) 0) fun d13=>match d13 with
  | .inl d15=>
   Eh d15
  | .inr d16=>
   Eh (-1)
theorem Eu {a0:qc}{a1:List UInt8}{r}(h:f28 a0 a1=Eh r):jz pr (X pr) 28 [aR a0,.str a1]=Eh (Iv r,I):=by
 unfold f28 at h
 refine yt OA ?_
 repeat' first|(replace h:=jy h;obtain⟨d,g,h⟩:=h;with_reducible first|(replace g:=j0v a0 a1 g;rcases d with d|d<;>dsimp only[JD,JE,ki]at g h)|skip)|(replace h:=j6 h;rcases h with⟨g,h⟩|⟨g,h⟩)|fail
 all_goals (cases h<;>(simp only[go_sem,seval,OA, *];exact⟨_,rfl⟩))
def OB (a0:qc)(a1:List UInt8)(s0:Int):Option (Int⊕(Int⊕Int)):=
 cond (decide (s0<((a0.ae.getD []).length:Int)))
  (jx (zq (a0.ae.getD []) s0) fun v10=>
  cond (decide (v10.name=a1))
   (Eh (.inr (.inl s0)))
   (Eh (.inl (j9 .i64 (s0+1)))))
  (Eh (.inr (.inr s0)))
def JG (a0:qc)(a1:List UInt8)(s0:Int):qh:=⟨[(1,.str a1,I),(2,.ah (aR a0),I),(5,Iv s0,I)],[]⟩
def JH (a0:qc)(a1:List UInt8):Int⊕Int→qo×qh
 | .inl d=>(.ret,⟨[(4,Iv d,I)],[]⟩)
 | .inr d=>(.exit 0,⟨[(1,.str a1,I),(2,.ah (aR a0),I),(5,Iv d,I),(10,.bool I,I)],[]⟩)
theorem jpt (a0:qc)(a1:List UInt8)(s0:Int)(r)(h:OB a0 a1 s0=Eh r):y5 pr JI (JG a0 a1) (JH a0 a1) s0 r:=by
 unfold OB at h
 repeat' first|(replace h:=jy h;obtain⟨d,g,h⟩:=h)|(replace h:=j6 h;rcases h with⟨g,h⟩|⟨g,h⟩)|fail
 all_goals (cases h<;>(first|(refine z6 ?_;simp only[go_sem,seval,JI,JG,zn,JH, *]<;>rfl)|(refine yo ?_;simp only[go_sem,seval,JI,JG,zn,JH, *]<;>rfl)))
theorem jts (a0:qc)(a1:List UInt8){s0:Int}{d}(h:bj (OB a0 a1) s0=Eh d):X pr (.loop JI) (JG a0 a1 s0)=Eh (JH a0 a1 d):=kl (jpt a0 a1) (fun d=>by rcases d with d|d<;>(intro hh;cases hh)) h
def f144 (a0:qc)(a1:List UInt8):Option Int:=
 jx (bj (OB a0 a1) 0) fun d13=>match d13 with
  | .inl d15=>
   Eh d15
  | .inr d16=>
   Eh (-1)
theorem N6 {a0:qc}{a1:List UInt8}{r}(h:f144 a0 a1=Eh r):jz pr (X pr) 144 [aR a0,.str a1]=Eh (Iv r,I):=by
 unfold f144 at h
 refine yt wM ?_
 repeat' first|(replace h:=jy h;obtain⟨d,g,h⟩:=h;with_reducible first|(replace g:=jts a0 a1 g;rcases d with d|d<;>dsimp only[JG,JH,ki]at g h)|skip)|(replace h:=j6 h;rcases h with⟨g,h⟩|⟨g,h⟩)|fail
 all_goals (cases h<;>(simp only[go_sem,seval,wM, *];exact⟨_,rfl⟩))
def A6 (a0:Option (List ql))(s0:Int)(s1:Int):Option (Int⊕(Unit⊕Int)):=
 jx (zq (a0.getD []) s0) fun v79=>
 cond (decide (s1<((v79.names.getD []).length:Int)))
  (jx (zq (v79.names.getD []) s1) fun v82=>
  cond (decide (40<(v82.length:Int)))
   (Eh (.inr (.inl ())))
   (Eh (.inl (j9 .i64 (s1+1)))))
  (Eh (.inr (.inr s1)))
def JJ (a0:Option (List ql))(s0:Int)(s1:Int):qh:=⟨[(0,sl 5 vev a0,I),(5,Iv s0,I),(6,Iv s1,I)],[]⟩
def JK (a0:Option (List ql))(s0:Int):Unit⊕Int→qo×qh
 | .inl d=>(.ret,⟨[(4,.bool I,I)],[]⟩)
 | .inr d=>(.exit 2,⟨[(0,sl 5 vev a0,I),(5,Iv s0,I),(6,Iv d,I),(58,.bool I,I)],[]⟩)
theorem j9q (a0:Option (List ql))(s0:Int)(s1:Int)(r)(h:A6 a0 s0 s1=Eh r):y5 pr JL (JJ a0 s0) (JK a0 s0) s1 r:=by
 unfold A6 at h
 repeat' first|(replace h:=jy h;obtain⟨d,g,h⟩:=h)|(replace h:=j6 h;rcases h with⟨g,h⟩|⟨g,h⟩)|fail
 all_goals (cases h<;>(first|(refine z6 ?_;simp only[go_sem,seval,JL,JJ,zn,JK, *]<;>rfl)|(refine yo ?_;simp only[go_sem,seval,JL,JJ,zn,JK, *]<;>rfl)))
theorem ze5 (a0:Option (List ql))(s0:Int){s1:Int}{d}(h:bj (A6 a0 s0) s1=Eh d):X pr (.loop JL) (JJ a0 s0 s1)=Eh (JK a0 s0 d):=kl (j9q a0 s0) (fun d=>by rcases d with d|d<;>(intro hh;cases hh)) h
def A5 (a0:Option (List ql))(s0:Int):Option (Int⊕(Unit⊕Int)):=
 cond (decide (s0<((a0.getD []).length:Int)))
  (jx (zq (a0.getD []) s0) fun sO=>
  cond (decide (40<(sO.kind.length:Int)))
   (Eh (.inr (.inl ())))
   (cond (decide (6<((sO.names.getD []).length:Int)))
    (Eh (.inr (.inl ())))
    (cond (decide (8<((sO.values.getD []).length:Int)))
     (Eh (.inr (.inl ())))
     (cond (decide (200<(sO.text.length:Int)))
      (Eh (.inr (.inl ())))
      (jx (bj (A6 a0 s0) 0) fun d85=>match d85 with
       | .inl d87=>
        Eh (.inr (.inl ()))
       | .inr d88=>
        Eh (.inl (j9 .i64 (s0+1))))))))
  (Eh (.inr (.inr s0)))
def JM (a0:Option (List ql))(s0:Int):qh:=⟨[(0,sl 5 vev a0,I),(5,Iv s0,I)],[]⟩
def JN (a0:Option (List ql)):Unit⊕Int→qo×qh
 | .inl d=>(.ret,⟨[(4,.bool I,I)],[]⟩)
 | .inr d=>(.exit 0,⟨[(0,sl 5 vev a0,I),(5,Iv d,I),(14,.bool I,I)],[]⟩)
theorem j9k (a0:Option (List ql))(s0:Int)(r)(h:A5 a0 s0=Eh r):y5 pr JO (JM a0) (JN a0) s0 r:=by
 unfold A5 at h
 repeat' first|(replace h:=jy h;obtain⟨d,g,h⟩:=h;with_reducible first|(replace g:=ze5 a0 s0 g;rcases d with d|d<;>dsimp only[JJ,JK,ki]at g h)|skip)|(replace h:=j6 h;rcases h with⟨g,h⟩|⟨g,h⟩)|fail
 all_goals (cases h<;>(first|(refine z6 ?_;simp only[go_sem,seval,JO,JM,zn,JN, *]<;>rfl)|(refine yo ?_;simp only[go_sem,seval,JO,JM,zn,JN, *]<;>rfl)))
theorem zbi (a0:Option (List ql)){s0:Int}{d}(h:bj (A5 a0) s0=Eh d):X pr (.loop JO) (JM a0 s0)=Eh (JN a0 d):=kl (j9k a0) (fun d=>by rcases d with d|d<;>(intro hh;cases hh)) h
def f7 (a0:Option (List ql))(a1:Int):Option Bool:=
 cond (decide (a1<((a0.getD []).length:Int)))
  (Eh I)
  (jx (bj (A5 a0) 0) fun d89=>match d89 with
   | .inl d91=>
    Eh I
   | .inr d92=>
    Eh El)
theorem W7 {a0:Option (List ql)}{a1:Int}{r}(h:f7 a0 a1=Eh r):jz pr (X pr) 7 [sl 5 vev a0,Iv a1]=Eh (.bool r,I):=by
 unfold f7 at h
 refine yt c7 ?_
 repeat' first|(replace h:=jy h;obtain⟨d,g,h⟩:=h;with_reducible first|(replace g:=zbi a0 g;rcases d with d|d<;>dsimp only[JM,JN,ki]at g h)|skip)|(replace h:=j6 h;rcases h with⟨g,h⟩|⟨g,h⟩)|fail
 all_goals (cases h<;>(simp only[go_sem,seval,c7, *];exact⟨_,rfl⟩))
def AL (a0:qc)(a1:qe)(a2:List UInt8)(s0:Int×Int):Option ((Int×Int)⊕((Int×Int))):=
 cond (decide (s0.2<((a1.uses.getD []).length:Int)))
  (jx (zq (a1.uses.getD []) s0.2) fun iP=>
  jx (f28 a0 iP.k) fun v20=>
  jx (zq (a0.aq.getD []) v20) fun eJ=>
  cond (decide (eJ.kind=a2))
   (Eh (.inl (j9 .i64 (s0.1+iP.n),j9 .i64 (s0.2+1))))
   (Eh (.inl (s0.1,j9 .i64 (s0.2+1)))))
  (Eh (.inr (s0.1,s0.2)))
def JP (a0:qc)(a1:qe)(a2:List UInt8)(s0:Int×Int):qh:=⟨[(2,.str a2,I),(3,.ah (aR a0),I),(4,.ah (aU a1),I),(7,Iv s0.1,I),(8,Iv s0.2,I)],[]⟩
def JQ (a0:qc)(a1:qe)(a2:List UInt8)(d:(Int×Int)):qo×qh:=(.exit 0,⟨[(2,.str a2,I),(3,.ah (aR a0),I),(4,.ah (aU a1),I),(7,Iv d.1,I),(8,Iv d.2,I),(13,.bool I,I)],[]⟩)
theorem jrz (a0:qc)(a1:qe)(a2:List UInt8)(s0:Int×Int)(r)(h:AL a0 a1 a2 s0=Eh r):y5 pr JR (JP a0 a1 a2) (JQ a0 a1 a2) s0 r:=by
 unfold AL at h
 repeat' first|(replace h:=jy h;obtain⟨d,g,h⟩:=h;with_reducible first|replace g:=Eu g|skip)|(replace h:=j6 h;rcases h with⟨g,h⟩|⟨g,h⟩)|fail
 all_goals (cases h<;>(first|(refine z6 ?_;simp only[go_sem,seval,JR,JP,zn,JQ, *]<;>rfl)|(refine yo ?_;simp only[go_sem,seval,JR,JP,zn,JQ, *]<;>rfl)))
theorem jsg (a0:qc)(a1:qe)(a2:List UInt8){s0:Int×Int}{d}(h:bj (AL a0 a1 a2) s0=Eh d):X pr (.loop JR) (JP a0 a1 a2 s0)=Eh (JQ a0 a1 a2 d):=kl (jrz a0 a1 a2) (fun d hh=>by cases hh) h
def f145 (a0:qc)(a1:qe)(a2:List UInt8):Option Int:=
 jx (bj (AL a0 a1 a2) (0,0)) fun d25=>
 Eh d25.1
theorem zdd {a0:qc}{a1:qe}{a2:List UInt8}{r}(h:f145 a0 a1 a2=Eh r):jz pr (X pr) 145 [aR a0,aU a1,.str a2]=Eh (Iv r,I):=by
 unfold f145 at h
 refine yt wN ?_
 repeat' first|(replace h:=jy h;obtain⟨d,g,h⟩:=h;with_reducible first|(replace g:=jsg a0 a1 a2 g;dsimp only[JP,JQ,ki]at g h)|skip)|(replace h:=j6 h;rcases h with⟨g,h⟩|⟨g,h⟩)|fail
 all_goals (cases h<;>(simp only[go_sem,seval,wN, *];exact⟨_,rfl⟩))
def Ba (a0:qe)(s0:(Option (List (List UInt8)))×Int×Bool):Option (((Option (List (List UInt8)))×Int×Bool)⊕(((Option (List (List UInt8)))×Bool×Int))):=
 cond (decide (s0.2.1<((a0.uses.getD []).length:Int)))
  (jx (zq (a0.uses.getD []) s0.2.1) fun ei=>
  cond s0.2.2
   (jx (bp s0.1 [ei.k]) fun dr=>
   Eh (.inl (dr,j9 .i64 (s0.2.1+1),El)))
   (cond s0.1.isNone
    (jx (bp s0.1 [ei.k]) fun v20=>
    Eh (.inl (v20,j9 .i64 (s0.2.1+1),El)))
    (En)))
  (Eh (.inr (s0.1,s0.2.2,s0.2.1)))
def JS (a0:qe)(s0:(Option (List (List UInt8)))×Int×Bool):qh:=⟨[(1,.ah (aU a0),I),(3,sl 1 yp s0.1,s0.2.2),(4,Iv s0.2.1,I)],[]⟩
def JT (a0:qe)(d:((Option (List (List UInt8)))×Bool×Int)):qo×qh:=(.exit 0,⟨[(1,.ah (aU a0),I),(3,sl 1 yp d.1,d.2.1),(4,Iv d.2.2,I),(9,.bool I,I)],[]⟩)
theorem jx2 (a0:qe)(s0:(Option (List (List UInt8)))×Int×Bool)(r)(h:Ba a0 s0=Eh r):y5 pr JU (JS a0) (JT a0) s0 r:=by
 unfold Ba at h
 repeat' first|(replace h:=jy h;obtain⟨d,g,h⟩:=h;with_reducible first|replace g:=DY g|skip)|(replace h:=j6 h;rcases h with⟨g,h⟩|⟨g,h⟩)|fail
 all_goals (cases h<;>(first|(refine z6 ?_;simp only[go_sem,seval,JU,JS,zn,JT, *]<;>rfl)|(refine yo ?_;simp only[go_sem,seval,JU,JS,zn,JT, *]<;>rfl)))
theorem j1q (a0:qe){s0:(Option (List (List UInt8)))×Int×Bool}{d}(h:bj (Ba a0) s0=Eh d):X pr (.loop JU) (JS a0 s0)=Eh (JT a0 d):=kl (jx2 a0) (fun d hh=>by cases hh) h
def f29 (a0:qe):Option ((Option (List (List UInt8)))×Bool):=
 jx (bj (Ba a0) (En,0,I)) fun d22=>
 Eh (d22.1,d22.2.1)
theorem W29 {a0:qe}{r}(h:f29 a0=Eh r):jz pr (X pr) 29 [aU a0]=Eh (sl 1 yp r.1,r.2):=by
 unfold f29 at h
 refine eh JV ?_
 repeat' first|(replace h:=jy h;obtain⟨d,g,h⟩:=h;with_reducible first|(replace g:=j1q a0 g;dsimp only[JS,JT,ki]at g h)|skip)|(replace h:=j6 h;rcases h with⟨g,h⟩|⟨g,h⟩)|fail
 all_goals (cases h<;>(simp only[go_sem,seval,JV, *];exact⟨_,rfl⟩))
def f78 (a0:qc)(a1:qe):Option qt:=
 jx (f144 a0 a1.product) fun v1=>
 jx (zq (a0.ae.getD []) v1) fun v3=>
 jx (zq (v3.aO.getD []) (j9 .i64 (a1.version-1))) fun v5=>
 Eh v5
theorem Ol {a0:qc}{a1:qe}{r}(h:f78 a0 a1=Eh r):jz pr (X pr) 78 [aR a0,aU a1]=Eh (aD r,I):=by
 unfold f78 at h
 refine yt JW ?_
 repeat' first|(replace h:=jy h;obtain⟨d,g,h⟩:=h;with_reducible first|replace g:=N6 g|skip)|(replace h:=j6 h;rcases h with⟨g,h⟩|⟨g,h⟩)|fail
 all_goals (cases h<;>(simp only[go_sem,seval,JW,zn, *];exact⟨_,rfl⟩))
def AG (a0:qe)(a1:qi)(s0:Bool×Int):Option ((Bool×Int)⊕((Bool×Int))):=
 cond (decide (s0.2<((a0.results.getD []).length:Int)))
  (jx (zq (a0.results.getD []) s0.2) fun ei=>
  cond (decide (ei.k=a1.k))
   (cond (decide (ei.a=a0.version))
    (cond (decide (a1.a≤ei.b))
     (Eh (.inl (decide (ei.b≤a1.b),j9 .i64 (s0.2+1))))
     (Eh (.inl (I,j9 .i64 (s0.2+1)))))
    (Eh (.inl (s0.1,j9 .i64 (s0.2+1)))))
   (Eh (.inl (s0.1,j9 .i64 (s0.2+1)))))
  (Eh (.inr (s0.1,s0.2)))
def JX (a0:qe)(a1:qi)(s0:Bool×Int):qh:=⟨[(2,.ah (aU a0),I),(3,.ah (aT a1),I),(5,.bool s0.1,I),(6,Iv s0.2,I)],[]⟩
def JY (a0:qe)(a1:qi)(d:(Bool×Int)):qo×qh:=(.exit 0,⟨[(2,.ah (aU a0),I),(3,.ah (aT a1),I),(5,.bool d.1,I),(6,Iv d.2,I),(12,.bool I,I)],[]⟩)
theorem jzf (a0:qe)(a1:qi)(s0:Bool×Int)(r)(h:AG a0 a1 s0=Eh r):y5 pr JZ (JX a0 a1) (JY a0 a1) s0 r:=by
 unfold AG at h
 repeat' first|(replace h:=jy h;obtain⟨d,g,h⟩:=h)|(replace h:=j6 h;rcases h with⟨g,h⟩|⟨g,h⟩)|fail
 all_goals (cases h<;>(first|(refine z6 ?_;simp only[go_sem,seval,JZ,JX,zn,JY, *]<;>rfl)|(refine yo ?_;simp only[go_sem,seval,JZ,JX,zn,JY, *]<;>rfl)))
theorem jvv (a0:qe)(a1:qi){s0:Bool×Int}{d}(h:bj (AG a0 a1) s0=Eh d):X pr (.loop JZ) (JX a0 a1 s0)=Eh (JY a0 a1 d):=kl (jzf a0 a1) (fun d hh=>by cases hh) h
def f79 (a0:qe)(a1:qi):Option Bool:=
 jx (bj (AG a0 a1) (I,0)) fun d19=>
 Eh d19.1
theorem W79 {a0:qe}{a1:qi}{r}(h:f79 a0 a1=Eh r):jz pr (X pr) 79 [aU a0,aT a1]=Eh (.bool r,I):=by
 unfold f79 at h
 refine yt OC ?_
 repeat' first|(replace h:=jy h;obtain⟨d,g,h⟩:=h;with_reducible first|(replace g:=jvv a0 a1 g;dsimp only[JX,JY,ki]at g h)|skip)|(replace h:=j6 h;rcases h with⟨g,h⟩|⟨g,h⟩)|fail
 all_goals (cases h<;>(simp only[go_sem,seval,OC, *];exact⟨_,rfl⟩))
def f80 (a0:qc)(a1:qe):Option Int:=
 jx (f144 a0 a1.product) fun v1=>
 jx (zq (a0.ae.getD []) v1) fun v3=>
 Eh ((v3.aO.getD []).length:Int)
theorem W80 {a0:qc}{a1:qe}{r}(h:f80 a0 a1=Eh r):jz pr (X pr) 80 [aR a0,aU a1]=Eh (Iv r,I):=by
 unfold f80 at h
 refine yt J0 ?_
 repeat' first|(replace h:=jy h;obtain⟨d,g,h⟩:=h;with_reducible first|replace g:=N6 g|skip)|(replace h:=j6 h;rcases h with⟨g,h⟩|⟨g,h⟩)|fail
 all_goals (cases h<;>(simp only[go_sem,seval,J0,zn, *];exact⟨_,rfl⟩))
def AO (a0:qc)(a1:qe)(v1:qt)(s0:Int):Option (Int⊕(Unit⊕Int)):=
 cond (decide (s0<((v1.aF.getD []).length:Int)))
  (jx (zq (v1.aF.getD []) s0) fun dE=>
  jx (f145 a0 a1 dE.k) fun iP=>
  cond (decide (iP<dE.n))
   (Eh (.inr (.inl ())))
   (Eh (.inl (j9 .i64 (s0+1)))))
  (Eh (.inr (.inr s0)))
def J1 (a0:qc)(a1:qe)(v1:qt)(s0:Int):qh:=⟨[(2,.ah (aR a0),I),(3,.ah (aU a1),I),(5,.ah (aD v1),I),(6,Iv s0,I)],[]⟩
def J2 (a0:qc)(a1:qe)(v1:qt):Unit⊕Int→qo×qh
 | .inl d=>(.ret,⟨[(4,.bool I,I)],[]⟩)
 | .inr d=>(.exit 0,⟨[(2,.ah (aR a0),I),(3,.ah (aU a1),I),(5,.ah (aD v1),I),(6,Iv d,I),(14,.bool I,I)],[]⟩)
theorem j0o (a0:qc)(a1:qe)(v1:qt)(s0:Int)(r)(h:AO a0 a1 v1 s0=Eh r):y5 pr J3 (J1 a0 a1 v1) (J2 a0 a1 v1) s0 r:=by
 unfold AO at h
 repeat' first|(replace h:=jy h;obtain⟨d,g,h⟩:=h;with_reducible first|replace g:=zdd g|skip)|(replace h:=j6 h;rcases h with⟨g,h⟩|⟨g,h⟩)|fail
 all_goals (cases h<;>(first|(refine z6 ?_;simp only[go_sem,seval,J3,J1,zn,J2, *]<;>rfl)|(refine yo ?_;simp only[go_sem,seval,J3,J1,zn,J2, *]<;>rfl)))
theorem j3d (a0:qc)(a1:qe)(v1:qt){s0:Int}{d}(h:bj (AO a0 a1 v1) s0=Eh d):X pr (.loop J3) (J1 a0 a1 v1 s0)=Eh (J2 a0 a1 v1 d):=kl (j0o a0 a1 v1) (fun d=>by rcases d with d|d<;>(intro hh;cases hh)) h
def f81 (a0:qc)(a1:qe):Option Bool:=
 jx (f78 a0 a1) fun v1=>
 jx (bj (AO a0 a1 v1) 0) fun d21=>match d21 with
  | .inl d23=>
   Eh I
  | .inr d24=>
   Eh El
theorem W81 {a0:qc}{a1:qe}{r}(h:f81 a0 a1=Eh r):jz pr (X pr) 81 [aR a0,aU a1]=Eh (.bool r,I):=by
 unfold f81 at h
 refine yt OD ?_
 repeat' first|(replace h:=jy h;obtain⟨d,g,h⟩:=h;with_reducible first|replace g:=Ol g|(replace g:=j3d a0 a1 _ g;rcases d with d|d<;>dsimp only[J1,J2,ki]at g h)|skip)|(replace h:=j6 h;rcases h with⟨g,h⟩|⟨g,h⟩)|fail
 all_goals (cases h<;>(simp only[go_sem,seval,OD, *];exact⟨_,rfl⟩))
def Bb (a0:qe)(a1:List UInt8)(s0:Int):Option (Int⊕(Unit⊕Int)):=
 cond (decide (s0<((a0.uses.getD []).length:Int)))
  (jx (zq (a0.uses.getD []) s0) fun v10=>
  cond (decide (v10.k=a1))
   (Eh (.inr (.inl ())))
   (Eh (.inl (j9 .i64 (s0+1)))))
  (Eh (.inr (.inr s0)))
def J4 (a0:qe)(a1:List UInt8)(s0:Int):qh:=⟨[(1,.str a1,I),(2,.ah (aU a0),I),(5,Iv s0,I)],[]⟩
def J5 (a0:qe)(a1:List UInt8):Unit⊕Int→qo×qh
 | .inl d=>(.ret,⟨[(4,.bool El,I)],[]⟩)
 | .inr d=>(.exit 0,⟨[(1,.str a1,I),(2,.ah (aU a0),I),(5,Iv d,I),(10,.bool I,I)],[]⟩)
theorem j3j (a0:qe)(a1:List UInt8)(s0:Int)(r)(h:Bb a0 a1 s0=Eh r):y5 pr J6 (J4 a0 a1) (J5 a0 a1) s0 r:=by
 unfold Bb at h
 repeat' first|(replace h:=jy h;obtain⟨d,g,h⟩:=h)|(replace h:=j6 h;rcases h with⟨g,h⟩|⟨g,h⟩)|fail
 all_goals (cases h<;>(first|(refine z6 ?_;simp only[go_sem,seval,J6,J4,zn,J5, *]<;>rfl)|(refine yo ?_;simp only[go_sem,seval,J6,J4,zn,J5, *]<;>rfl)))
theorem jya (a0:qe)(a1:List UInt8){s0:Int}{d}(h:bj (Bb a0 a1) s0=Eh d):X pr (.loop J6) (J4 a0 a1 s0)=Eh (J5 a0 a1 d):=kl (j3j a0 a1) (fun d=>by rcases d with d|d<;>(intro hh;cases hh)) h
def f82 (a0:qe)(a1:List UInt8):Option Bool:=
 jx (bj (Bb a0 a1) 0) fun d13=>match d13 with
  | .inl d15=>
   Eh El
  | .inr d16=>
   Eh I
theorem W82 {a0:qe}{a1:List UInt8}{r}(h:f82 a0 a1=Eh r):jz pr (X pr) 82 [aU a0,.str a1]=Eh (.bool r,I):=by
 unfold f82 at h
 refine yt OE ?_
 repeat' first|(replace h:=jy h;obtain⟨d,g,h⟩:=h;with_reducible first|(replace g:=jya a0 a1 g;rcases d with d|d<;>dsimp only[J4,J5,ki]at g h)|skip)|(replace h:=j6 h;rcases h with⟨g,h⟩|⟨g,h⟩)|fail
 all_goals (cases h<;>(simp only[go_sem,seval,OE, *];exact⟨_,rfl⟩))
def AK (a1:qe)(v1:qt)(s0:(Option (List (List UInt8)))×Int×Bool):Option (((Option (List (List UInt8)))×Int×Bool)⊕(((Option (List (List UInt8)))×Bool×Int))):=
 cond (decide (s0.2.1<((v1.aB.getD []).length:Int)))
  (jx (zq (v1.aB.getD []) s0.2.1) fun eJ=>
  jx (f79 a1 eJ) fun v24=>
  cond v24
   (Eh (.inl (s0.1,j9 .i64 (s0.2.1+1),s0.2.2)))
   (cond s0.2.2
    (jx (bp s0.1 [eJ.k]) fun v28=>
    Eh (.inl (v28,j9 .i64 (s0.2.1+1),El)))
    (cond s0.1.isNone
     (jx (bp s0.1 [eJ.k]) fun v31=>
     Eh (.inl (v31,j9 .i64 (s0.2.1+1),El)))
     (En))))
  (Eh (.inr (s0.1,s0.2.2,s0.2.1)))
def J7 (a1:qe)(v1:qt)(s0:(Option (List (List UInt8)))×Int×Bool):qh:=⟨[(3,.ah (aU a1),I),(5,.ah (aD v1),I),(6,sl 1 yp s0.1,s0.2.2),(7,Iv s0.2.1,I)],[]⟩
def J8 (a1:qe)(v1:qt)(d:((Option (List (List UInt8)))×Bool×Int)):qo×qh:=(.exit 0,⟨[(3,.ah (aU a1),I),(5,.ah (aD v1),I),(6,sl 1 yp d.1,d.2.1),(7,Iv d.2.2,I),(15,.bool I,I)],[]⟩)
theorem j4l (a1:qe)(v1:qt)(s0:(Option (List (List UInt8)))×Int×Bool)(r)(h:AK a1 v1 s0=Eh r):y5 pr J9 (J7 a1 v1) (J8 a1 v1) s0 r:=by
 unfold AK at h
 repeat' first|(replace h:=jy h;obtain⟨d,g,h⟩:=h;with_reducible first|replace g:=W79 g|replace g:=DY g|skip)|(replace h:=j6 h;rcases h with⟨g,h⟩|⟨g,h⟩)|fail
 all_goals (cases h<;>(first|(refine z6 ?_;simp only[go_sem,seval,J9,J7,zn,J8, *]<;>rfl)|(refine yo ?_;simp only[go_sem,seval,J9,J7,zn,J8, *]<;>rfl)))
theorem j3p (a1:qe)(v1:qt){s0:(Option (List (List UInt8)))×Int×Bool}{d}(h:bj (AK a1 v1) s0=Eh d):X pr (.loop J9) (J7 a1 v1 s0)=Eh (J8 a1 v1 d):=kl (j4l a1 v1) (fun d hh=>by cases hh) h
def f30 (a0:qc)(a1:qe):Option ((Option (List (List UInt8)))×Bool):=
 jx (f78 a0 a1) fun v1=>
 jx (bj (AK a1 v1) (En,0,I)) fun d33=>
 Eh (d33.1,d33.2.1)
theorem W30 {a0:qc}{a1:qe}{r}(h:f30 a0 a1=Eh r):jz pr (X pr) 30 [aR a0,aU a1]=Eh (sl 1 yp r.1,r.2):=by
 unfold f30 at h
 refine eh OG ?_
 repeat' first|(replace h:=jy h;obtain⟨d,g,h⟩:=h;with_reducible first|replace g:=Ol g|(replace g:=j3p a1 _ g;dsimp only[J7,J8,ki]at g h)|skip)|(replace h:=j6 h;rcases h with⟨g,h⟩|⟨g,h⟩)|fail
 all_goals (cases h<;>(simp only[go_sem,seval,OG, *];exact⟨_,rfl⟩))
def xS (a0:qc)(a1:qe)(s0:Int):Option (Int⊕(Unit⊕Int)):=
 cond (decide (s0<((a1.uses.getD []).length:Int)))
  (jx (zq (a1.uses.getD []) s0) fun v28=>
  jx (f28 a0 v28.k) fun v30=>
  jx (zq (a0.aq.getD []) v30) fun gq=>
  cond gq.held
   (Eh (.inr (.inl ())))
   (Eh (.inl (j9 .i64 (s0+1)))))
  (Eh (.inr (.inr s0)))
def Ka (a0:qc)(a1:qe)(s0:Int):qh:=⟨[(2,.ah (aR a0),I),(3,.ah (.agg [.str a1.name,.str a1.product,Iv a1.version,sl 2 aV a1.uses,sl 3 zz a1.results,.str a1.partner,.bool I,Iv a1.aj]),I),(5,Iv s0,I)],[]⟩
def Kb (a0:qc)(a1:qe):Unit⊕Int→qo×qh
 | .inl d=>(.ret,⟨[(4,Iv 34,I)],[]⟩)
 | .inr d=>(.exit 0,⟨[(2,.ah (aR a0),I),(3,.ah (.agg [.str a1.name,.str a1.product,Iv a1.version,sl 2 aV a1.uses,sl 3 zz a1.results,.str a1.partner,.bool I,Iv a1.aj]),I),(5,Iv d,I),(27,.bool I,I)],[]⟩)
theorem j5k (a0:qc)(a1:qe)(s0:Int)(r)(h:xS a0 a1 s0=Eh r):y5 pr Kc (Ka a0 a1) (Kb a0 a1) s0 r:=by
 unfold xS at h
 repeat' first|(replace h:=jy h;obtain⟨d,g,h⟩:=h;with_reducible first|replace g:=Eu g|skip)|(replace h:=j6 h;rcases h with⟨g,h⟩|⟨g,h⟩)|fail
 all_goals (cases h<;>(first|(refine z6 ?_;simp only[go_sem,seval,Kc,Ka,zn,Kb, *]<;>rfl)|(refine yo ?_;simp only[go_sem,seval,Kc,Ka,zn,Kb, *]<;>rfl)))
theorem j5m (a0:qc)(a1:qe){s0:Int}{d}(h:bj (xS a0 a1) s0=Eh d):X pr (.loop Kc) (Ka a0 a1 s0)=Eh (Kb a0 a1 d):=kl (j5k a0 a1) (fun d=>by rcases d with d|d<;>(intro hh;cases hh)) h
def f31 (a0:qc)(a1:qe):Option Int:=
 cond a1.ar
  (Eh 21)
  (jx (f80 a0 (⟨a1.name,a1.product,a1.version,a1.uses,a1.results,a1.partner,I,a1.aj⟩)) fun v2=>
  cond (decide (a1.version=v2))
   (jx (f81 a0 (⟨a1.name,a1.product,a1.version,a1.uses,a1.results,a1.partner,I,a1.aj⟩)) fun v5=>
   cond v5
    (jx (f30 a0 (⟨a1.name,a1.product,a1.version,a1.uses,a1.results,a1.partner,I,a1.aj⟩)) fun v8=>
    cond (decide (0<((v8.1.getD []).length:Int)))
     (Eh 31)
     (jx (bj (xS a0 a1) 0) fun d35=>match d35 with
      | .inl d37=>
       Eh 34
      | .inr d38=>
       Eh 0))
    (Eh 20))
   (Eh 32))
theorem W31 {a0:qc}{a1:qe}{r}(h:f31 a0 a1=Eh r):jz pr (X pr) 31 [.agg [.int .i64 a0.day,sl 5 z8 a0.aq,sl 4 zu a0.ae,sl 8 bf a0.units],.agg [.str a1.name,.str a1.product,.int .i64 a1.version,sl 2 aV a1.uses,sl 3 zz a1.results,.str a1.partner,.bool a1.ar,.int .i64 a1.aj]]=Eh (.int .i64 r,I):=by
 unfold f31 at h
 refine yt OH ?_
 repeat' first|(replace h:=jy h;obtain⟨d,g,h⟩:=h;with_reducible first|replace g:=W80 g|replace g:=W81 g|replace g:=W30 g|(replace g:=j5m a0 a1 g;rcases d with d|d<;>dsimp only[Ka,Kb,ki]at g h)|skip)|(replace h:=j6 h;rcases h with⟨g,h⟩|⟨g,h⟩)|fail
 all_goals (cases h<;>(simp only[go_sem,seval,OH, *];exact⟨_,rfl⟩))
def Bc (a0:qc)(a1:List UInt8)(s0:(Option (List (List UInt8)))×Int×Bool):Option (((Option (List (List UInt8)))×Int×Bool)⊕(((Option (List (List UInt8)))×Bool×Int))):=
 cond (decide (s0.2.1<((a0.units.getD []).length:Int)))
  (jx (zq (a0.units.getD []) s0.2.1) fun v20=>
  jx (f82 v20 a1) fun eJ=>
  cond eJ
   (cond s0.2.2
    (jx (bp s0.1 [v20.name]) fun dM=>
    Eh (.inl (dM,j9 .i64 (s0.2.1+1),El)))
    (cond s0.1.isNone
     (jx (bp s0.1 [v20.name]) fun fV=>
     Eh (.inl (fV,j9 .i64 (s0.2.1+1),El)))
     (En)))
   (Eh (.inl (s0.1,j9 .i64 (s0.2.1+1),s0.2.2))))
  (Eh (.inr (s0.1,s0.2.2,s0.2.1)))
def Ke (a0:qc)(a1:List UInt8)(s0:(Option (List (List UInt8)))×Int×Bool):qh:=⟨[(1,.str a1,I),(2,.ah (aR a0),I),(5,sl 1 yp s0.1,s0.2.2),(6,Iv s0.2.1,I)],[]⟩
def Kf (a0:qc)(a1:List UInt8)(d:((Option (List (List UInt8)))×Bool×Int)):qo×qh:=(.exit 0,⟨[(1,.str a1,I),(2,.ah (aR a0),I),(5,sl 1 yp d.1,d.2.1),(6,Iv d.2.2,I),(11,.bool I,I)],[]⟩)
theorem jy6 (a0:qc)(a1:List UInt8)(s0:(Option (List (List UInt8)))×Int×Bool)(r)(h:Bc a0 a1 s0=Eh r):y5 pr Kg (Ke a0 a1) (Kf a0 a1) s0 r:=by
 unfold Bc at h
 repeat' first|(replace h:=jy h;obtain⟨d,g,h⟩:=h;with_reducible first|replace g:=W82 g|replace g:=DY g|skip)|(replace h:=j6 h;rcases h with⟨g,h⟩|⟨g,h⟩)|fail
 all_goals (cases h<;>(first|(refine z6 ?_;simp only[go_sem,seval,Kg,Ke,zn,Kf, *]<;>rfl)|(refine yo ?_;simp only[go_sem,seval,Kg,Ke,zn,Kf, *]<;>rfl)))
theorem jxw (a0:qc)(a1:List UInt8){s0:(Option (List (List UInt8)))×Int×Bool}{d}(h:bj (Bc a0 a1) s0=Eh d):X pr (.loop Kg) (Ke a0 a1 s0)=Eh (Kf a0 a1 d):=kl (jy6 a0 a1) (fun d hh=>by cases hh) h
def f32 (a0:qc)(a1:List UInt8):Option ((Option (List (List UInt8)))×Bool):=
 jx (bj (Bc a0 a1) (En,0,I)) fun d31=>
 Eh (d31.1,d31.2.1)
theorem W32 {a0:qc}{a1:List UInt8}{r}(h:f32 a0 a1=Eh r):jz pr (X pr) 32 [aR a0,.str a1]=Eh (sl 1 yp r.1,r.2):=by
 unfold f32 at h
 refine eh OI ?_
 repeat' first|(replace h:=jy h;obtain⟨d,g,h⟩:=h;with_reducible first|(replace g:=jxw a0 a1 g;dsimp only[Ke,Kf,ki]at g h)|skip)|(replace h:=j6 h;rcases h with⟨g,h⟩|⟨g,h⟩)|fail
 all_goals (cases h<;>(simp only[go_sem,seval,OI, *];exact⟨_,rfl⟩))
def HJ (a0:qc)(a1:List UInt8)(s0:Int×Int):Option ((Int×Int)⊕((Int×Int))):=
 cond (decide (s0.2<((a0.aq.getD []).length:Int)))
  (jx (zq (a0.aq.getD []) s0.2) fun v12=>
  cond (decide (v12.kind=a1))
   (cond v12.held
    (Eh (.inl (s0.1,j9 .i64 (s0.2+1))))
    (Eh (.inl (j9 .i64 (s0.1+v12.left),j9 .i64 (s0.2+1)))))
   (Eh (.inl (s0.1,j9 .i64 (s0.2+1)))))
  (Eh (.inr (s0.1,s0.2)))
def Kh (a0:qc)(a1:List UInt8)(s0:Int×Int):qh:=⟨[(1,.str a1,I),(2,.ah (aR a0),I),(5,Iv s0.1,I),(6,Iv s0.2,I)],[]⟩
def Ki (a0:qc)(a1:List UInt8)(d:(Int×Int)):qo×qh:=(.exit 0,⟨[(1,.str a1,I),(2,.ah (aR a0),I),(5,Iv d.1,I),(6,Iv d.2,I),(11,.bool I,I)],[]⟩)
theorem j03 (a0:qc)(a1:List UInt8)(s0:Int×Int)(r)(h:HJ a0 a1 s0=Eh r):y5 pr Kj (Kh a0 a1) (Ki a0 a1) s0 r:=by
 unfold HJ at h
 repeat' first|(replace h:=jy h;obtain⟨d,g,h⟩:=h)|(replace h:=j6 h;rcases h with⟨g,h⟩|⟨g,h⟩)|fail
 all_goals (cases h<;>(first|(refine z6 ?_;simp only[go_sem,seval,Kj,Kh,zn,Ki, *]<;>rfl)|(refine yo ?_;simp only[go_sem,seval,Kj,Kh,zn,Ki, *]<;>rfl)))
theorem j2j (a0:qc)(a1:List UInt8){s0:Int×Int}{d}(h:bj (HJ a0 a1) s0=Eh d):X pr (.loop Kj) (Kh a0 a1 s0)=Eh (Ki a0 a1 d):=kl (j03 a0 a1) (fun d hh=>by cases hh) h
def f33 (a0:qc)(a1:List UInt8):Option Int:=
 jx (bj (HJ a0 a1) (0,0)) fun d16=>
 Eh d16.1
theorem W33 {a0:qc}{a1:List UInt8}{r}(h:f33 a0 a1=Eh r):jz pr (X pr) 33 [aR a0,.str a1]=Eh (Iv r,I):=by
 unfold f33 at h
 refine yt OJ ?_
 repeat' first|(replace h:=jy h;obtain⟨d,g,h⟩:=h;with_reducible first|(replace g:=j2j a0 a1 g;dsimp only[Kh,Ki,ki]at g h)|skip)|(replace h:=j6 h;rcases h with⟨g,h⟩|⟨g,h⟩)|fail
 all_goals (cases h<;>(simp only[go_sem,seval,OJ, *];exact⟨_,rfl⟩))
end Go.Z
end
