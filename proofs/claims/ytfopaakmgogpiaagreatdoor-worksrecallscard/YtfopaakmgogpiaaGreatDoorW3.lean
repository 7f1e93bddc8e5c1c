/- Chapter 10. -/
import Derived.Test.YtfopaakmgogpiaaGreatDoorW1
set_option linter.unusedVariables false
set_option linter.unusedSimpArgs false
set_option maxRecDepth 100000
set_option maxHeartbeats 4000000
noncomputable section
open Bool renaming false→I,true→Ek
open Option renaming some→Eh
namespace Go.Z
open Go Go.Abs Go.W
def P2 (a0:qc)(a1:List UInt8)(s0:Int):Option (Int⊕(Int⊕Int)):=
 cond (decide (s0<((a0.units.getD []).length:Int)))
  (jw (zn (a0.units.getD []) s0) fun v10=>
  cond (decide (v10.name=a1))
   (Eh (.inr (.inl s0)))
   (Eh (.inl (j6 .i64 (s0+1)))))
  (Eh (.inr (.inr s0)))
def Le (a0:qc)(a1:List UInt8)(s0:Int):qg:=⟨[(1,.str a1,I),(2,.ah (aR a0),I),(5,Iv s0,I)],[]⟩
def Lf (a0:qc)(a1:List UInt8):Int⊕Int→qi×qg
 | .inl d=>(.ret,⟨[(4,Iv d,I)],[]⟩)
 | .inr d=>(.exit 0,⟨[(1,.str a1,I),(2,.ah (aR a0),I),(5,Iv d,I),(10,.bool I,I)],[]⟩)
theorem jy1 (a0:qc)(a1:List UInt8)(s0:Int)(r)(h:P2 a0 a1 s0=Eh r):yr pr Lg (Le a0 a1) (Lf a0 a1) s0 r:=by
 unfold P2 at h
 repeat' first|(replace h:=jx h;obtain⟨d,g,h⟩:=h)|(replace h:=jz h;rcases h with⟨g,h⟩|⟨g,h⟩)|fail
 all_goals (cases h<;>(first|(refine zu ?_;simp only[go_sem,seval,Lg,Le,zj,Lf, *]<;>rfl)|(refine yl ?_;simp only[go_sem,seval,Lg,Le,zj,Lf, *]<;>rfl)))
theorem jy0 (a0:qc)(a1:List UInt8){s0 d}(h:aY (P2 a0 a1) s0=Eh d):X pr (.loop Lg) (Le a0 a1 s0)=Eh (Lf a0 a1 d):=y8 (jy1 a0 a1) (fun d=>by rcases d with d|d<;>(intro hh;cases hh)) h
def f27 (a0:qc)(a1:List UInt8):Option Int:=
 jw (aY (P2 a0 a1) 0) fun d13=>match d13 with
  | .inl d15=>
   Eh d15
  | .inr d16=>
   Eh (-1)
theorem Ft {a0 a1 r}(h:f27 a0 a1=Eh r):jy pr (X pr) 27 [aR a0,.str a1]=Eh (Iv r,I):=by
 unfold f27 at h
 refine yz P3 ?_
 repeat' first|(replace h:=jx h;obtain⟨d,g,h⟩:=h;with_reducible first|(replace g:=jy0 a0 a1 g;rcases d with d|d<;>dsimp only[Le,Lf,y7]at g h)|skip)|(replace h:=jz h;rcases h with⟨g,h⟩|⟨g,h⟩)|fail
 all_goals (cases h<;>(simp only[go_sem,seval,P3, *];exact⟨_,rfl⟩))
def P4 (a0:qc)(a1:List UInt8)(s0:Int):Option (Int⊕(Int⊕Int)):=
 cond (decide (s0<((a0.ar.getD []).length:Int)))
  (jw (zn (a0.ar.getD []) s0) fun v10=>
  cond (decide (v10.name=a1))
   (Eh (.inr (.inl s0)))
   (Eh (.inl (j6 .i64 (s0+1)))))
  (Eh (.inr (.inr s0)))
def Lh (a0:qc)(a1:List UInt8)(s0:Int):qg:=⟨[(1,.str a1,I),(2,.ah (aR a0),I),(5,Iv s0,I)],[]⟩
def Li (a0:qc)(a1:List UInt8):Int⊕Int→qi×qg
 | .inl d=>(.ret,⟨[(4,Iv d,I)],[]⟩)
 | .inr d=>(.exit 0,⟨[(1,.str a1,I),(2,.ah (aR a0),I),(5,Iv d,I),(10,.bool I,I)],[]⟩)
theorem jy7 (a0:qc)(a1:List UInt8)(s0:Int)(r)(h:P4 a0 a1 s0=Eh r):yr pr Lj (Lh a0 a1) (Li a0 a1) s0 r:=by
 unfold P4 at h
 repeat' first|(replace h:=jx h;obtain⟨d,g,h⟩:=h)|(replace h:=jz h;rcases h with⟨g,h⟩|⟨g,h⟩)|fail
 all_goals (cases h<;>(first|(refine zu ?_;simp only[go_sem,seval,Lj,Lh,zj,Li, *]<;>rfl)|(refine yl ?_;simp only[go_sem,seval,Lj,Lh,zj,Li, *]<;>rfl)))
theorem j2d (a0:qc)(a1:List UInt8){s0 d}(h:aY (P4 a0 a1) s0=Eh d):X pr (.loop Lj) (Lh a0 a1 s0)=Eh (Li a0 a1 d):=y8 (jy7 a0 a1) (fun d=>by rcases d with d|d<;>(intro hh;cases hh)) h
def f28 (a0:qc)(a1:List UInt8):Option Int:=
 jw (aY (P4 a0 a1) 0) fun d13=>match d13 with
  | .inl d15=>
   Eh d15
  | .inr d16=>
   Eh (-1)
theorem Fs {a0 a1 r}(h:f28 a0 a1=Eh r):jy pr (X pr) 28 [aR a0,.str a1]=Eh (Iv r,I):=by
 unfold f28 at h
 refine yz P5 ?_
 repeat' first|(replace h:=jx h;obtain⟨d,g,h⟩:=h;with_reducible first|(replace g:=j2d a0 a1 g;rcases d with d|d<;>dsimp only[Lh,Li,y7]at g h)|skip)|(replace h:=jz h;rcases h with⟨g,h⟩|⟨g,h⟩)|fail
 all_goals (cases h<;>(simp only[go_sem,seval,P5, *];exact⟨_,rfl⟩))
def P6 (a0:qc)(a1:List UInt8)(s0:Int):Option (Int⊕(Int⊕Int)):=
 cond (decide (s0<((a0.ae.getD []).length:Int)))
  (jw (zn (a0.ae.getD []) s0) fun v10=>
  cond (decide (v10.name=a1))
   (Eh (.inr (.inl s0)))
   (Eh (.inl (j6 .i64 (s0+1)))))
  (Eh (.inr (.inr s0)))
def Lk (a0:qc)(a1:List UInt8)(s0:Int):qg:=⟨[(1,.str a1,I),(2,.ah (aR a0),I),(5,Iv s0,I)],[]⟩
def Ll (a0:qc)(a1:List UInt8):Int⊕Int→qi×qg
 | .inl d=>(.ret,⟨[(4,Iv d,I)],[]⟩)
 | .inr d=>(.exit 0,⟨[(1,.str a1,I),(2,.ah (aR a0),I),(5,Iv d,I),(10,.bool I,I)],[]⟩)
theorem jr2 (a0:qc)(a1:List UInt8)(s0:Int)(r)(h:P6 a0 a1 s0=Eh r):yr pr Lm (Lk a0 a1) (Ll a0 a1) s0 r:=by
 unfold P6 at h
 repeat' first|(replace h:=jx h;obtain⟨d,g,h⟩:=h)|(replace h:=jz h;rcases h with⟨g,h⟩|⟨g,h⟩)|fail
 all_goals (cases h<;>(first|(refine zu ?_;simp only[go_sem,seval,Lm,Lk,zj,Ll, *]<;>rfl)|(refine yl ?_;simp only[go_sem,seval,Lm,Lk,zj,Ll, *]<;>rfl)))
theorem jq7 (a0:qc)(a1:List UInt8){s0 d}(h:aY (P6 a0 a1) s0=Eh d):X pr (.loop Lm) (Lk a0 a1 s0)=Eh (Ll a0 a1 d):=y8 (jr2 a0 a1) (fun d=>by rcases d with d|d<;>(intro hh;cases hh)) h
def f144 (a0:qc)(a1:List UInt8):Option Int:=
 jw (aY (P6 a0 a1) 0) fun d13=>match d13 with
  | .inl d15=>
   Eh d15
  | .inr d16=>
   Eh (-1)
theorem PB {a0 a1 r}(h:f144 a0 a1=Eh r):jy pr (X pr) 144 [aR a0,.str a1]=Eh (Iv r,I):=by
 unfold f144 at h
 refine yz xf ?_
 repeat' first|(replace h:=jx h;obtain⟨d,g,h⟩:=h;with_reducible first|(replace g:=jq7 a0 a1 g;rcases d with d|d<;>dsimp only[Lk,Ll,y7]at g h)|skip)|(replace h:=jz h;rcases h with⟨g,h⟩|⟨g,h⟩)|fail
 all_goals (cases h<;>(simp only[go_sem,seval,xf, *];exact⟨_,rfl⟩))
def BD (a0:Option (List ql))(s0:Int)(s1:Int):Option (Int⊕(Unit⊕Int)):=
 jw (zn (a0.getD []) s0) fun v79=>
 cond (decide (s1<((v79.names.getD []).length:Int)))
  (jw (zn (v79.names.getD []) s1) fun Yp=>
  cond (decide (40<(Yp.length:Int)))
   (Eh (.inr (.inl ())))
   (Eh (.inl (j6 .i64 (s1+1)))))
  (Eh (.inr (.inr s1)))
def Ln (a0:Option (List ql))(s0:Int)(s1:Int):qg:=⟨[(0,sl 5 vev a0,I),(5,Iv s0,I),(6,Iv s1,I)],[]⟩
def Lp (a0:Option (List ql))(s0:Int):Unit⊕Int→qi×qg
 | .inl d=>(.ret,⟨[(4,.bool I,I)],[]⟩)
 | .inr d=>(.exit 2,⟨[(0,sl 5 vev a0,I),(5,Iv s0,I),(6,Iv d,I),(58,.bool I,I)],[]⟩)
theorem zho (a0:Option (List ql))(s0:Int)(s1:Int)(r)(h:BD a0 s0 s1=Eh r):yr pr Lq (Ln a0 s0) (Lp a0 s0) s1 r:=by
 unfold BD at h
 repeat' first|(replace h:=jx h;obtain⟨d,g,h⟩:=h)|(replace h:=jz h;rcases h with⟨g,h⟩|⟨g,h⟩)|fail
 all_goals (cases h<;>(first|(refine zu ?_;simp only[go_sem,seval,Lq,Ln,zj,Lp, *]<;>rfl)|(refine yl ?_;simp only[go_sem,seval,Lq,Ln,zj,Lp, *]<;>rfl)))
theorem zjl (a0:Option (List ql))(s0:Int){s1 d}(h:aY (BD a0 s0) s1=Eh d):X pr (.loop Lq) (Ln a0 s0 s1)=Eh (Lp a0 s0 d):=y8 (zho a0 s0) (fun d=>by rcases d with d|d<;>(intro hh;cases hh)) h
def BA (a0:Option (List ql))(s0:Int):Option (Int⊕(Unit⊕Int)):=
 cond (decide (s0<((a0.getD []).length:Int)))
  (jw (zn (a0.getD []) s0) fun wW=>
  cond (decide (40<(wW.kind.length:Int)))
   (Eh (.inr (.inl ())))
   (cond (decide (6<((wW.names.getD []).length:Int)))
    (Eh (.inr (.inl ())))
    (cond (decide (8<((wW.values.getD []).length:Int)))
     (Eh (.inr (.inl ())))
     (cond (decide (200<(wW.text.length:Int)))
      (Eh (.inr (.inl ())))
      (jw (aY (BD a0 s0) 0) fun d85=>match d85 with
       | .inl d87=>
        Eh (.inr (.inl ()))
       | .inr d88=>
        Eh (.inl (j6 .i64 (s0+1))))))))
  (Eh (.inr (.inr s0)))
def Lr (a0:Option (List ql))(s0:Int):qg:=⟨[(0,sl 5 vev a0,I),(5,Iv s0,I)],[]⟩
def Ls (a0:Option (List ql)):Unit⊕Int→qi×qg
 | .inl d=>(.ret,⟨[(4,.bool I,I)],[]⟩)
 | .inr d=>(.exit 0,⟨[(0,sl 5 vev a0,I),(5,Iv d,I),(14,.bool I,I)],[]⟩)
theorem zft (a0:Option (List ql))(s0:Int)(r)(h:BA a0 s0=Eh r):yr pr Lt (Lr a0) (Ls a0) s0 r:=by
 unfold BA at h
 repeat' first|(replace h:=jx h;obtain⟨d,g,h⟩:=h;with_reducible first|(replace g:=zjl a0 s0 g;rcases d with d|d<;>dsimp only[Ln,Lp,y7]at g h)|skip)|(replace h:=jz h;rcases h with⟨g,h⟩|⟨g,h⟩)|fail
 all_goals (cases h<;>(first|(refine zu ?_;simp only[go_sem,seval,Lt,Lr,zj,Ls, *]<;>rfl)|(refine yl ?_;simp only[go_sem,seval,Lt,Lr,zj,Ls, *]<;>rfl)))
theorem zdz (a0:Option (List ql)){s0 d}(h:aY (BA a0) s0=Eh d):X pr (.loop Lt) (Lr a0 s0)=Eh (Ls a0 d):=y8 (zft a0) (fun d=>by rcases d with d|d<;>(intro hh;cases hh)) h
def f7 (a0:Option (List ql))(a1:Int):Option Bool:=
 cond (decide (a1<((a0.getD []).length:Int)))
  (Eh I)
  (jw (aY (BA a0) 0) fun d89=>match d89 with
   | .inl d91=>
    Eh I
   | .inr d92=>
    Eh Ek)
theorem W7 {a0 a1 r}(h:f7 a0 a1=Eh r):jy pr (X pr) 7 [sl 5 vev a0,Iv a1]=Eh (.bool r,I):=by
 unfold f7 at h
 refine yz c7 ?_
 repeat' first|(replace h:=jx h;obtain⟨d,g,h⟩:=h;with_reducible first|(replace g:=zdz a0 g;rcases d with d|d<;>dsimp only[Lr,Ls,y7]at g h)|skip)|(replace h:=jz h;rcases h with⟨g,h⟩|⟨g,h⟩)|fail
 all_goals (cases h<;>(simp only[go_sem,seval,c7, *];exact⟨_,rfl⟩))
def Bh (a0:qc)(a1:qf)(a2:List UInt8)(s0:Int×Int):Option ((Int×Int)⊕((Int×Int))):=
 cond (decide (s0.2<((a1.uses.getD []).length:Int)))
  (jw (zn (a1.uses.getD []) s0.2) fun iT=>
  jw (f28 a0 iT.k) fun v20=>
  jw (zn (a0.ar.getD []) v20) fun eH=>
  cond (decide (eH.kind=a2))
   (Eh (.inl (j6 .i64 (s0.1+iT.n),j6 .i64 (s0.2+1))))
   (Eh (.inl (s0.1,j6 .i64 (s0.2+1)))))
  (Eh (.inr (s0.1,s0.2)))
def Lu (a0:qc)(a1:qf)(a2:List UInt8)(s0:Int×Int):qg:=⟨[(2,.str a2,I),(3,.ah (aR a0),I),(4,.ah (aU a1),I),(7,Iv s0.1,I),(8,Iv s0.2,I)],[]⟩
def Lw (a0:qc)(a1:qf)(a2:List UInt8)(d:(Int×Int)):qi×qg:=(.exit 0,⟨[(2,.str a2,I),(3,.ah (aR a0),I),(4,.ah (aU a1),I),(7,Iv d.1,I),(8,Iv d.2,I),(13,.bool I,I)],[]⟩)
theorem jtj (a0:qc)(a1:qf)(a2:List UInt8)(s0:Int×Int)(r)(h:Bh a0 a1 a2 s0=Eh r):yr pr Lx (Lu a0 a1 a2) (Lw a0 a1 a2) s0 r:=by
 unfold Bh at h
 repeat' first|(replace h:=jx h;obtain⟨d,g,h⟩:=h;with_reducible first|replace g:=Fs g|skip)|(replace h:=jz h;rcases h with⟨g,h⟩|⟨g,h⟩)|fail
 all_goals (cases h<;>(first|(refine zu ?_;simp only[go_sem,seval,Lx,Lu,zj,Lw, *]<;>rfl)|(refine yl ?_;simp only[go_sem,seval,Lx,Lu,zj,Lw, *]<;>rfl)))
theorem jqk (a0:qc)(a1:qf)(a2:List UInt8){s0 d}(h:aY (Bh a0 a1 a2) s0=Eh d):X pr (.loop Lx) (Lu a0 a1 a2 s0)=Eh (Lw a0 a1 a2 d):=y8 (jtj a0 a1 a2) (fun d hh=>by cases hh) h
def f145 (a0:qc)(a1:qf)(a2:List UInt8):Option Int:=
 jw (aY (Bh a0 a1 a2) (0,0)) fun d25=>
 Eh d25.1
theorem zbh {a0 a1 a2 r}(h:f145 a0 a1 a2=Eh r):jy pr (X pr) 145 [aR a0,aU a1,.str a2]=Eh (Iv r,I):=by
 unfold f145 at h
 refine yz xg ?_
 repeat' first|(replace h:=jx h;obtain⟨d,g,h⟩:=h;with_reducible first|(replace g:=jqk a0 a1 a2 g;dsimp only[Lu,Lw,y7]at g h)|skip)|(replace h:=jz h;rcases h with⟨g,h⟩|⟨g,h⟩)|fail
 all_goals (cases h<;>(simp only[go_sem,seval,xg, *];exact⟨_,rfl⟩))
def f78 (a0:qc)(a1:qf):Option qt:=
 jw (f144 a0 a1.product) fun v1=>
 jw (zn (a0.ae.getD []) v1) fun v3=>
 jw (zn (v3.aO.getD []) (j6 .i64 (a1.version-1))) fun v5=>
 Eh v5
theorem PL {a0 a1 r}(h:f78 a0 a1=Eh r):jy pr (X pr) 78 [aR a0,aU a1]=Eh (aD r,I):=by
 unfold f78 at h
 refine yz Ly ?_
 repeat' first|(replace h:=jx h;obtain⟨d,g,h⟩:=h;with_reducible first|replace g:=PB g|skip)|(replace h:=jz h;rcases h with⟨g,h⟩|⟨g,h⟩)|fail
 all_goals (cases h<;>(simp only[go_sem,seval,Ly,zj, *];exact⟨_,rfl⟩))
def Bd (a0:qf)(a1:qj)(s0:Bool×Int):Option ((Bool×Int)⊕((Bool×Int))):=
 cond (decide (s0.2<((a0.results.getD []).length:Int)))
  (jw (zn (a0.results.getD []) s0.2) fun dB=>
  cond (decide (dB.k=a1.k))
   (cond (decide (dB.a=a0.version))
    (cond (decide (a1.a≤dB.b))
     (Eh (.inl (decide (dB.b≤a1.b),j6 .i64 (s0.2+1))))
     (Eh (.inl (I,j6 .i64 (s0.2+1)))))
    (Eh (.inl (s0.1,j6 .i64 (s0.2+1)))))
   (Eh (.inl (s0.1,j6 .i64 (s0.2+1)))))
  (Eh (.inr (s0.1,s0.2)))
def Lz (a0:qf)(a1:qj)(s0:Bool×Int):qg:=⟨[(2,.ah (aU a0),I),(3,.ah (aT a1),I),(5,.bool s0.1,I),(6,Iv s0.2,I)],[]⟩
def LA (a0:qf)(a1:qj)(d:(Bool×Int)):qi×qg:=(.exit 0,⟨[(2,.ah (aU a0),I),(3,.ah (aT a1),I),(5,.bool d.1,I),(6,Iv d.2,I),(12,.bool I,I)],[]⟩)
theorem j1k (a0:qf)(a1:qj)(s0:Bool×Int)(r)(h:Bd a0 a1 s0=Eh r):yr pr LB (Lz a0 a1) (LA a0 a1) s0 r:=by
 unfold Bd at h
 repeat' first|(replace h:=jx h;obtain⟨d,g,h⟩:=h)|(replace h:=jz h;rcases h with⟨g,h⟩|⟨g,h⟩)|fail
 all_goals (cases h<;>(first|(refine zu ?_;simp only[go_sem,seval,LB,Lz,zj,LA, *]<;>rfl)|(refine yl ?_;simp only[go_sem,seval,LB,Lz,zj,LA, *]<;>rfl)))
theorem j74 (a0:qf)(a1:qj){s0 d}(h:aY (Bd a0 a1) s0=Eh d):X pr (.loop LB) (Lz a0 a1 s0)=Eh (LA a0 a1 d):=y8 (j1k a0 a1) (fun d hh=>by cases hh) h
def f79 (a0:qf)(a1:qj):Option Bool:=
 jw (aY (Bd a0 a1) (I,0)) fun d19=>
 Eh d19.1
theorem W79 {a0 a1 r}(h:f79 a0 a1=Eh r):jy pr (X pr) 79 [aU a0,aT a1]=Eh (.bool r,I):=by
 unfold f79 at h
 refine yz P7 ?_
 repeat' first|(replace h:=jx h;obtain⟨d,g,h⟩:=h;with_reducible first|(replace g:=j74 a0 a1 g;dsimp only[Lz,LA,y7]at g h)|skip)|(replace h:=jz h;rcases h with⟨g,h⟩|⟨g,h⟩)|fail
 all_goals (cases h<;>(simp only[go_sem,seval,P7, *];exact⟨_,rfl⟩))
def f80 (a0:qc)(a1:qf):Option Int:=
 jw (f144 a0 a1.product) fun v1=>
 jw (zn (a0.ae.getD []) v1) fun v3=>
 Eh ((v3.aO.getD []).length:Int)
theorem W80 {a0 a1 r}(h:f80 a0 a1=Eh r):jy pr (X pr) 80 [aR a0,aU a1]=Eh (Iv r,I):=by
 unfold f80 at h
 refine yz LC ?_
 repeat' first|(replace h:=jx h;obtain⟨d,g,h⟩:=h;with_reducible first|replace g:=PB g|skip)|(replace h:=jz h;rcases h with⟨g,h⟩|⟨g,h⟩)|fail
 all_goals (cases h<;>(simp only[go_sem,seval,LC,zj, *];exact⟨_,rfl⟩))
def Bj (a0:qc)(a1:qf)(v1:qt)(s0:Int):Option (Int⊕(Unit⊕Int)):=
 cond (decide (s0<((v1.aI.getD []).length:Int)))
  (jw (zn (v1.aI.getD []) s0) fun da=>
  jw (f145 a0 a1 da.k) fun iT=>
  cond (decide (iT<da.n))
   (Eh (.inr (.inl ())))
   (Eh (.inl (j6 .i64 (s0+1)))))
  (Eh (.inr (.inr s0)))
def LD (a0:qc)(a1:qf)(v1:qt)(s0:Int):qg:=⟨[(2,.ah (aR a0),I),(3,.ah (aU a1),I),(5,.ah (aD v1),I),(6,Iv s0,I)],[]⟩
def LG (a0:qc)(a1:qf)(v1:qt):Unit⊕Int→qi×qg
 | .inl d=>(.ret,⟨[(4,.bool I,I)],[]⟩)
 | .inr d=>(.exit 0,⟨[(2,.ah (aR a0),I),(3,.ah (aU a1),I),(5,.ah (aD v1),I),(6,Iv d,I),(14,.bool I,I)],[]⟩)
theorem jzw (a0:qc)(a1:qf)(v1:qt)(s0:Int)(r)(h:Bj a0 a1 v1 s0=Eh r):yr pr LH (LD a0 a1 v1) (LG a0 a1 v1) s0 r:=by
 unfold Bj at h
 repeat' first|(replace h:=jx h;obtain⟨d,g,h⟩:=h;with_reducible first|replace g:=zbh g|skip)|(replace h:=jz h;rcases h with⟨g,h⟩|⟨g,h⟩)|fail
 all_goals (cases h<;>(first|(refine zu ?_;simp only[go_sem,seval,LH,LD,zj,LG, *]<;>rfl)|(refine yl ?_;simp only[go_sem,seval,LH,LD,zj,LG, *]<;>rfl)))
theorem jyu (a0:qc)(a1:qf)(v1:qt){s0 d}(h:aY (Bj a0 a1 v1) s0=Eh d):X pr (.loop LH) (LD a0 a1 v1 s0)=Eh (LG a0 a1 v1 d):=y8 (jzw a0 a1 v1) (fun d=>by rcases d with d|d<;>(intro hh;cases hh)) h
def f81 (a0:qc)(a1:qf):Option Bool:=
 jw (f78 a0 a1) fun v1=>
 jw (aY (Bj a0 a1 v1) 0) fun d21=>match d21 with
  | .inl d23=>
   Eh I
  | .inr d24=>
   Eh Ek
theorem W81 {a0 a1 r}(h:f81 a0 a1=Eh r):jy pr (X pr) 81 [aR a0,aU a1]=Eh (.bool r,I):=by
 unfold f81 at h
 refine yz P8 ?_
 repeat' first|(replace h:=jx h;obtain⟨d,g,h⟩:=h;with_reducible first|replace g:=PL g|(replace g:=jyu a0 a1 _ g;rcases d with d|d<;>dsimp only[LD,LG,y7]at g h)|skip)|(replace h:=jz h;rcases h with⟨g,h⟩|⟨g,h⟩)|fail
 all_goals (cases h<;>(simp only[go_sem,seval,P8, *];exact⟨_,rfl⟩))
def BG (a0:qf)(a1:List UInt8)(s0:Int):Option (Int⊕(Unit⊕Int)):=
 cond (decide (s0<((a0.uses.getD []).length:Int)))
  (jw (zn (a0.uses.getD []) s0) fun v10=>
  cond (decide (v10.k=a1))
   (Eh (.inr (.inl ())))
   (Eh (.inl (j6 .i64 (s0+1)))))
  (Eh (.inr (.inr s0)))
def LI (a0:qf)(a1:List UInt8)(s0:Int):qg:=⟨[(1,.str a1,I),(2,.ah (aU a0),I),(5,Iv s0,I)],[]⟩
def LJ (a0:qf)(a1:List UInt8):Unit⊕Int→qi×qg
 | .inl d=>(.ret,⟨[(4,.bool Ek,I)],[]⟩)
 | .inr d=>(.exit 0,⟨[(1,.str a1,I),(2,.ah (aU a0),I),(5,Iv d,I),(10,.bool I,I)],[]⟩)
theorem j1f (a0:qf)(a1:List UInt8)(s0:Int)(r)(h:BG a0 a1 s0=Eh r):yr pr LK (LI a0 a1) (LJ a0 a1) s0 r:=by
 unfold BG at h
 repeat' first|(replace h:=jx h;obtain⟨d,g,h⟩:=h)|(replace h:=jz h;rcases h with⟨g,h⟩|⟨g,h⟩)|fail
 all_goals (cases h<;>(first|(refine zu ?_;simp only[go_sem,seval,LK,LI,zj,LJ, *]<;>rfl)|(refine yl ?_;simp only[go_sem,seval,LK,LI,zj,LJ, *]<;>rfl)))
theorem jyy (a0:qf)(a1:List UInt8){s0 d}(h:aY (BG a0 a1) s0=Eh d):X pr (.loop LK) (LI a0 a1 s0)=Eh (LJ a0 a1 d):=y8 (j1f a0 a1) (fun d=>by rcases d with d|d<;>(intro hh;cases hh)) h
def f82 (a0:qf)(a1:List UInt8):Option Bool:=
 jw (aY (BG a0 a1) 0) fun d13=>match d13 with
  | .inl d15=>
   Eh Ek
  | .inr d16=>
   Eh I
theorem W82 {a0 a1 r}(h:f82 a0 a1=Eh r):jy pr (X pr) 82 [aU a0,.str a1]=Eh (.bool r,I):=by
 unfold f82 at h
 refine yz P9 ?_
 repeat' first|(replace h:=jx h;obtain⟨d,g,h⟩:=h;with_reducible first|(replace g:=jyy a0 a1 g;rcases d with d|d<;>dsimp only[LI,LJ,y7]at g h)|skip)|(replace h:=jz h;rcases h with⟨g,h⟩|⟨g,h⟩)|fail
 all_goals (cases h<;>(simp only[go_sem,seval,P9, *];exact⟨_,rfl⟩))
def Bg (a1:qf)(v1:qt)(s0:(Option (List (List UInt8)))×Int×Bool):Option (((Option (List (List UInt8)))×Int×Bool)⊕(((Option (List (List UInt8)))×Bool×Int))):=
 cond (decide (s0.2.1<((v1.aH.getD []).length:Int)))
  (jw (zn (v1.aH.getD []) s0.2.1) fun eH=>
  jw (f79 a1 eH) fun v24=>
  cond v24
   (Eh (.inl (s0.1,j6 .i64 (s0.2.1+1),s0.2.2)))
   (cond s0.2.2
    (jw (bj s0.1 [eH.k]) fun v28=>
    Eh (.inl (v28,j6 .i64 (s0.2.1+1),Ek)))
    (cond s0.1.isNone
     (jw (bj s0.1 [eH.k]) fun v31=>
     Eh (.inl (v31,j6 .i64 (s0.2.1+1),Ek)))
     (none))))
  (Eh (.inr (s0.1,s0.2.2,s0.2.1)))
def LL (a1:qf)(v1:qt)(s0:(Option (List (List UInt8)))×Int×Bool):qg:=⟨[(3,.ah (aU a1),I),(5,.ah (aD v1),I),(6,sl 1 zk s0.1,s0.2.2),(7,Iv s0.2.1,I)],[]⟩
def LM (a1:qf)(v1:qt)(d:((Option (List (List UInt8)))×Bool×Int)):qi×qg:=(.exit 0,⟨[(3,.ah (aU a1),I),(5,.ah (aD v1),I),(6,sl 1 zk d.1,d.2.1),(7,Iv d.2.2,I),(15,.bool I,I)],[]⟩)
theorem j40 (a1:qf)(v1:qt)(s0:(Option (List (List UInt8)))×Int×Bool)(r)(h:Bg a1 v1 s0=Eh r):yr pr LN (LL a1 v1) (LM a1 v1) s0 r:=by
 unfold Bg at h
 repeat' first|(replace h:=jx h;obtain⟨d,g,h⟩:=h;with_reducible first|replace g:=W79 g|replace g:=H0 g|skip)|(replace h:=jz h;rcases h with⟨g,h⟩|⟨g,h⟩)|fail
 all_goals (cases h<;>(first|(refine zu ?_;simp only[go_sem,seval,LN,LL,zj,LM, *]<;>rfl)|(refine yl ?_;simp only[go_sem,seval,LN,LL,zj,LM, *]<;>rfl)))
theorem j3z (a1:qf)(v1:qt){s0 d}(h:aY (Bg a1 v1) s0=Eh d):X pr (.loop LN) (LL a1 v1 s0)=Eh (LM a1 v1 d):=y8 (j40 a1 v1) (fun d hh=>by cases hh) h
def f30 (a0:qc)(a1:qf):Option ((Option (List (List UInt8)))×Bool):=
 jw (f78 a0 a1) fun v1=>
 jw (aY (Bg a1 v1) (none,0,I)) fun d33=>
 Eh (d33.1,d33.2.1)
theorem W30 {a0 a1 r}(h:f30 a0 a1=Eh r):jy pr (X pr) 30 [aR a0,aU a1]=Eh (sl 1 zk r.1,r.2):=by
 unfold f30 at h
 refine eh Qa ?_
 repeat' first|(replace h:=jx h;obtain⟨d,g,h⟩:=h;with_reducible first|replace g:=PL g|(replace g:=j3z a1 _ g;dsimp only[LL,LM,y7]at g h)|skip)|(replace h:=jz h;rcases h with⟨g,h⟩|⟨g,h⟩)|fail
 all_goals (cases h<;>(simp only[go_sem,seval,Qa, *];exact⟨_,rfl⟩))
def yD (a0:qc)(a1:qf)(s0:Int):Option (Int⊕(Unit⊕Int)):=
 cond (decide (s0<((a1.uses.getD []).length:Int)))
  (jw (zn (a1.uses.getD []) s0) fun v28=>
  jw (f28 a0 v28.k) fun v30=>
  jw (zn (a0.ar.getD []) v30) fun lm=>
  cond lm.held
   (Eh (.inr (.inl ())))
   (Eh (.inl (j6 .i64 (s0+1)))))
  (Eh (.inr (.inr s0)))
def LO (a0:qc)(a1:qf)(s0:Int):qg:=⟨[(2,.ah (aR a0),I),(3,.ah (.agg [.str a1.name,.str a1.product,Iv a1.version,sl 2 aV a1.uses,sl 3 zx a1.results,.str a1.partner,.bool I,Iv a1.aj]),I),(5,Iv s0,I)],[]⟩
def LP (a0:qc)(a1:qf):Unit⊕Int→qi×qg
 | .inl d=>(.ret,⟨[(4,Iv 34,I)],[]⟩)
 | .inr d=>(.exit 0,⟨[(2,.ah (aR a0),I),(3,.ah (.agg [.str a1.name,.str a1.product,Iv a1.version,sl 2 aV a1.uses,sl 3 zx a1.results,.str a1.partner,.bool I,Iv a1.aj]),I),(5,Iv d,I),(27,.bool I,I)],[]⟩)
theorem j5d (a0:qc)(a1:qf)(s0:Int)(r)(h:yD a0 a1 s0=Eh r):yr pr LQ (LO a0 a1) (LP a0 a1) s0 r:=by
 unfold yD at h
 repeat' first|(replace h:=jx h;obtain⟨d,g,h⟩:=h;with_reducible first|replace g:=Fs g|skip)|(replace h:=jz h;rcases h with⟨g,h⟩|⟨g,h⟩)|fail
 all_goals (cases h<;>(first|(refine zu ?_;simp only[go_sem,seval,LQ,LO,zj,LP, *]<;>rfl)|(refine yl ?_;simp only[go_sem,seval,LQ,LO,zj,LP, *]<;>rfl)))
theorem j1o (a0:qc)(a1:qf){s0 d}(h:aY (yD a0 a1) s0=Eh d):X pr (.loop LQ) (LO a0 a1 s0)=Eh (LP a0 a1 d):=y8 (j5d a0 a1) (fun d=>by rcases d with d|d<;>(intro hh;cases hh)) h
def f31 (a0:qc)(a1:qf):Option Int:=
 cond a1.aq
  (Eh 21)
  (jw (f80 a0 (⟨a1.name,a1.product,a1.version,a1.uses,a1.results,a1.partner,I,a1.aj⟩)) fun v2=>
  cond (decide (a1.version=v2))
   (jw (f81 a0 (⟨a1.name,a1.product,a1.version,a1.uses,a1.results,a1.partner,I,a1.aj⟩)) fun v5=>
   cond v5
    (jw (f30 a0 (⟨a1.name,a1.product,a1.version,a1.uses,a1.results,a1.partner,I,a1.aj⟩)) fun v8=>
    cond (decide (0<((v8.1.getD []).length:Int)))
     (Eh 31)
     (jw (aY (yD a0 a1) 0) fun d35=>match d35 with
      | .inl d37=>
       Eh 34
      | .inr d38=>
       Eh 0))
    (Eh 20))
   (Eh 32))
theorem W31 {a0 a1 r}(h:f31 a0 a1=Eh r):jy pr (X pr) 31 [.agg [.int .i64 a0.day,sl 5 zw a0.ar,sl 4 zm a0.ae,sl 8 aQ a0.units],.agg [.str a1.name,.str a1.product,.int .i64 a1.version,sl 2 aV a1.uses,sl 3 zx a1.results,.str a1.partner,.bool a1.aq,.int .i64 a1.aj]]=Eh (.int .i64 r,I):=by
 unfold f31 at h
 refine yz Qb ?_
 repeat' first|(replace h:=jx h;obtain⟨d,g,h⟩:=h;with_reducible first|replace g:=W80 g|replace g:=W81 g|replace g:=W30 g|(replace g:=j1o a0 a1 g;rcases d with d|d<;>dsimp only[LO,LP,y7]at g h)|skip)|(replace h:=jz h;rcases h with⟨g,h⟩|⟨g,h⟩)|fail
 all_goals (cases h<;>(simp only[go_sem,seval,Qb, *];exact⟨_,rfl⟩))
end Go.Z
end
