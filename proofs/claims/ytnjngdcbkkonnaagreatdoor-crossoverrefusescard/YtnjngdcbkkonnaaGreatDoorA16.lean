/- Chapter 4. -/
import Derived.Test.YtnjngdcbkkonnaaGreatDoorA13
set_option linter.unusedVariables false
set_option linter.unusedSimpArgs false
set_option maxRecDepth 100000
set_option maxHeartbeats 4000000
noncomputable section
namespace Go.Z
open Go Go.Abs
def qip (a0:TI)(a1:TI)(s0:Int):Option (Int⊕(Unit⊕Int)):=
 cond (decide (s0<((a0.getD []).length:Int)))
  (j5 (yd (a0.getD []) s0) fun v15=>
  j5 (yd (a1.getD []) s0) fun v17=>
  cond (decide (v15=v17))
   (some (.inl (za .i64 (s0+1))))
   (some (.inr (.inl ()))))
  (some (.inr (.inr s0)))
def ql9 (a0:TI)(a1:TI)(s0:Int):qc:=⟨[(0,sl 1 zh a0,false),(1,sl 1 zh a1,false),(5,Iv s0,false)],[]⟩
def qnw (a0:TI)(a1:TI):Unit⊕Int→qi×qc
 | .inl d=>(.ret,⟨[(4,.bool false,false)],[]⟩)
 | .inr d=>(.exit 0,⟨[(0,sl 1 zh a0,false),(1,sl 1 zh a1,false),(5,Iv d,false),(14,.bool false,false)],[]⟩)
theorem jrd (a0:TI)(a1:TI)(s0:Int)(r)(h:qip a0 a1 s0=some r):yh pr qtt (ql9 a0 a1) (qnw a0 a1) s0 r:=by
 unfold qip at h
 rcases j0 h with⟨h14,h⟩|⟨h14,h⟩
 ·obtain⟨v15,h16,h⟩:=jz h
  obtain⟨v17,h18,h⟩:=jz h
  rcases j0 h with⟨h19,h⟩|⟨h19,h⟩
  ·cases h
   exact zp (by simp only[go_sem,seval,qtt,ql9,h14,zf h16,zf h18,h19]<;>rfl)
  cases h
  exact j8 (by simp only[go_sem,seval,qtt,ql9,h14,zf h16,zf h18,h19,qnw]<;>rfl)
 cases h
 exact j8 (by simp only[go_sem,seval,qtt,ql9,h14,qnw]<;>rfl)
theorem jfw (a0:TI)(a1:TI){s0:Int}{d}(h:itO (qip a0 a1) s0=some d):X pr (.loop qtt) (ql9 a0 a1 s0)=some (qnw a0 a1 d):=yo (jrd a0 a1) (fun d=>by rcases d with d|d<;>(intro hh;cases hh)) h
def f42 (a0:TI)(a1:TI):Option Bool:=
 cond (decide (((a0.getD []).length:Int)=((a1.getD []).length:Int)))
  (j5 (itO (qip a0 a1) 0) fun d20=>match d20 with
   | .inl d22=>
    some false
   | .inr d23=>
    some true)
  (some false)
theorem W42 {a0:TI}{a1:TI}{r}(h:f42 a0 a1=some r):j7 pr (X pr) 42 [sl 1 zh a0,sl 1 zh a1]=some (.bool r,false):=by
 unfold f42 at h
 rcases j0 h with⟨h1,h⟩|⟨h1,h⟩
 ·obtain⟨d20,h21,h⟩:=jz h
  rcases d20 with d22|d23
  ·have wh21:=jfw a0 a1 h21
   dsimp only[ql9,qnw]at wh21
   obtain rfl:=oi h
   refine zg c42 ?_
   simp only[go_sem,seval,c42,h1,wh21]
   exact⟨_,rfl⟩
  have wh21:=jfw a0 a1 h21
  dsimp only[ql9,qnw]at wh21
  obtain rfl:=oi h
  refine zg c42 ?_
  simp only[go_sem,seval,c42,h1,wh21]
  exact⟨_,rfl⟩
 obtain rfl:=oi h
 refine zg c42 ?_
 simp only[go_sem,seval,c42,h1]
 exact⟨_,rfl⟩
def f161 (a0:TI):Option (TI×Bool):=
 cond a0.isNone
  (some (none,false))
  (j5 (apO (some []) (a0.getD [])) fun v2=>
  some (v2,true))
theorem j2z {a0:TI}{r}(h:f161 a0=some r):j7 pr (X pr) 161 [sl 1 zh a0]=some (sl 1 zh r.1,r.2):=by
 unfold f161 at h
 rcases j0 h with⟨h1,h⟩|⟨h1,h⟩
 ·obtain rfl:=oi h
  refine qcb c161 ?_
  simp only[go_sem,seval,c161,h1]
  exact⟨_,rfl⟩
 obtain⟨v2,h3,h⟩:=jz h
 obtain rfl:=oi h
 refine qcb c161 ?_
 simp only[go_sem,seval,c161,h1,qb6 h3]
 exact⟨_,rfl⟩
def f232 (a0:Int):Option Bool:=
 some false
theorem qjo {a0:Int}{r}(h:f232 a0=some r):j7 pr (X pr) 232 [Iv a0]=some (.bool r,false):=by
 unfold f232 at h
 obtain rfl:=oi h
 refine zg c232 ?_
 simp only[go_sem,seval,c232]
 exact⟨_,rfl⟩
def f203 (a0:Int)(a1:Int):Option Int:=
 j5 (f232 a0) fun v1=>
 j5 (f232 a1) fun v3=>
 cond v1
  (cond v3
   (some 0)
   (some (-1)))
  (cond v3
   (some 1)
   (cond (decide (a0<a1))
    (some (-1))
    (cond (decide (a1<a0))
     (some 1)
     (some 0))))
theorem je4 {a0:Int}{a1:Int}{r}(h:f203 a0 a1=some r):j7 pr (X pr) 203 [Iv a0,Iv a1]=some (Iv r,false):=by
 unfold f203 at h
 obtain⟨v1,h2,h⟩:=jz h
 obtain⟨v3,h4,h⟩:=jz h
 rcases j0 h with⟨h5,h⟩|⟨h5,h⟩
 ·rcases j0 h with⟨h6,h⟩|⟨h6,h⟩
  ·obtain rfl:=oi h
   refine zg c203 ?_
   simp only[go_sem,seval,c203,qjo h2,qjo h4,h5,h6]
   exact⟨_,rfl⟩
  obtain rfl:=oi h
  refine zg c203 ?_
  simp only[go_sem,seval,c203,qjo h2,qjo h4,h5,h6]
  exact⟨_,rfl⟩
 rcases j0 h with⟨h7,h⟩|⟨h7,h⟩
 ·obtain rfl:=oi h
  refine zg c203 ?_
  simp only[go_sem,seval,c203,qjo h2,qjo h4,h5,h7]
  exact⟨_,rfl⟩
 rcases j0 h with⟨h8,h⟩|⟨h8,h⟩
 ·obtain rfl:=oi h
  refine zg c203 ?_
  simp only[go_sem,seval,c203,qjo h2,qjo h4,h5,h7,h8]
  exact⟨_,rfl⟩
 rcases j0 h with⟨h9,h⟩|⟨h9,h⟩
 ·obtain rfl:=oi h
  refine zg c203 ?_
  simp only[go_sem,seval,c203,qjo h2,qjo h4,h5,h7,h8,h9]
  exact⟨_,rfl⟩
 obtain rfl:=oi h
 refine zg c203 ?_
 simp only[go_sem,seval,c203,qjo h2,qjo h4,h5,h7,h8,h9]
 exact⟨_,rfl⟩
def qi9 (a0:TI)(a1:TI)(s0:Int):Option (Int⊕(Int⊕Int)):=
 cond (decide (s0<((a0.getD []).length:Int)))
  (j5 (yd (a0.getD []) s0) fun v20=>
  cond (decide (((a1.getD []).length:Int)≤s0))
   (some (.inr (.inl 1)))
   (j5 (yd (a1.getD []) s0) fun v23=>
   j5 (f203 v20 v23) fun v25=>
   cond (decide (v25=0))
    (some (.inl (za .i64 (s0+1))))
    (some (.inr (.inl v25)))))
  (some (.inr (.inr s0)))
def qgk (a0:TI)(a1:TI)(s0:Int):qc:=⟨[(0,sl 1 zh a0,false),(1,sl 1 zh a1,false),(9,sl 1 zh a0,false),(10,Lv a0,false),(11,Iv s0,false)],[]⟩
def qhk (a0:TI)(a1:TI):Int⊕Int→qi×qc
 | .inl d=>(.ret,⟨[(4,Iv d,false)],[]⟩)
 | .inr d=>(.exit 0,⟨[(0,sl 1 zh a0,false),(1,sl 1 zh a1,false),(9,sl 1 zh a0,false),(10,Lv a0,false),(11,Iv d,false),(12,.bool false,false)],[]⟩)
theorem jks (a0:TI)(a1:TI)(s0:Int)(r)(h:qi9 a0 a1 s0=some r):yh pr ql5 (qgk a0 a1) (qhk a0 a1) s0 r:=by
 unfold qi9 at h
 rcases j0 h with⟨h19,h⟩|⟨h19,h⟩
 ·obtain⟨v20,h21,h⟩:=jz h
  rcases j0 h with⟨h22,h⟩|⟨h22,h⟩
  ·cases h
   exact j8 (by simp only[go_sem,seval,ql5,qgk,h19,zf h21,h22,qhk]<;>rfl)
  obtain⟨v23,h24,h⟩:=jz h
  obtain⟨v25,h26,h⟩:=jz h
  rcases j0 h with⟨h27,h⟩|⟨h27,h⟩
  ·cases h
   exact zp (by simp only[go_sem,seval,ql5,qgk,h19,zf h21,h22,zf h24,je4 h26,h27]<;>rfl)
  cases h
  exact j8 (by simp only[go_sem,seval,ql5,qgk,h19,zf h21,h22,zf h24,je4 h26,h27,qhk]<;>rfl)
 cases h
 exact j8 (by simp only[go_sem,seval,ql5,qgk,h19,qhk]<;>rfl)
theorem jbe (a0:TI)(a1:TI){s0:Int}{d}(h:itO (qi9 a0 a1) s0=some d):X pr (.loop ql5) (qgk a0 a1 s0)=some (qhk a0 a1 d):=yo (jks a0 a1) (fun d=>by rcases d with d|d<;>(intro hh;cases hh)) h
def f204 (a0:TI)(a1:TI):Option Int:=
 j5 (itO (qi9 a0 a1) 0) fun d28=>match d28 with
  | .inl d30=>
   some d30
  | .inr d31=>
   cond (decide (((a0.getD []).length:Int)<((a1.getD []).length:Int)))
    (some (-1))
    (some 0)
theorem j0m {a0:TI}{a1:TI}{r}(h:f204 a0 a1=some r):j7 pr (X pr) 204 [sl 1 zh a0,sl 1 zh a1]=some (Iv r,false):=by
 unfold f204 at h
 obtain⟨d28,h29,h⟩:=jz h
 rcases d28 with d30|d31
 ·have wh29:=jbe a0 a1 h29
  dsimp only[qgk,qhk]at wh29
  obtain rfl:=oi h
  refine zg c204 ?_
  simp only[go_sem,seval,c204,wh29]
  exact⟨_,rfl⟩
 have wh29:=jbe a0 a1 h29
 dsimp only[qgk,qhk]at wh29
 rcases j0 h with⟨h32,h⟩|⟨h32,h⟩
 ·obtain rfl:=oi h
  refine zg c204 ?_
  simp only[go_sem,seval,c204,wh29,h32]
  exact⟨_,rfl⟩
 obtain rfl:=oi h
 refine zg c204 ?_
 simp only[go_sem,seval,c204,wh29,h32]
 exact⟨_,rfl⟩
def qg5 (a0:TI)(s0:Int):Option (Int⊕(Int⊕Int)):=
 cond (decide (s0<((a0.getD []).length:Int)))
  (j5 (yd (a0.getD []) s0) fun v10=>
  cond (decide (v10=0))
   (some (.inl (za .i64 (s0+1))))
   (some (.inr (.inl v10))))
  (some (.inr (.inr s0)))
def qh0 (a0:TI)(s0:Int):qc:=⟨[(3,Iv 0,false),(6,sl 1 zh a0,false),(7,Lv a0,false),(8,Iv s0,false)],[]⟩
def qk7 (a0:TI):Int⊕Int→qi×qc
 | .inl d=>(.ret,⟨[(2,Iv d,false)],[]⟩)
 | .inr d=>(.exit 0,⟨[(3,Iv 0,false),(6,sl 1 zh a0,false),(7,Lv a0,false),(8,Iv d,false),(9,.bool false,false)],[]⟩)
theorem jlp (a0:TI)(s0:Int)(r)(h:qg5 a0 s0=some r):yh pr qod (qh0 a0) (qk7 a0) s0 r:=by
 unfold qg5 at h
 rcases j0 h with⟨h9,h⟩|⟨h9,h⟩
 ·obtain⟨v10,h11,h⟩:=jz h
  rcases j0 h with⟨h12,h⟩|⟨h12,h⟩
  ·cases h
   exact zp (by simp only[go_sem,seval,qod,qh0,h9,zf h11,h12]<;>rfl)
  cases h
  exact j8 (by simp only[go_sem,seval,qod,qh0,h9,zf h11,h12,qk7]<;>rfl)
 cases h
 exact j8 (by simp only[go_sem,seval,qod,qh0,h9,qk7]<;>rfl)
theorem jbj (a0:TI){s0:Int}{d}(h:itO (qg5 a0) s0=some d):X pr (.loop qod) (qh0 a0 s0)=some (qk7 a0 d):=yo (jlp a0) (fun d=>by rcases d with d|d<;>(intro hh;cases hh)) h
def f202 (a0:TI):Option Int:=
 j5 (itO (qg5 a0) 0) fun d13=>match d13 with
  | .inl d15=>
   some d15
  | .inr d16=>
   some 0
theorem j2i {a0:TI}{r}(h:f202 a0=some r):j7 pr (X pr) 202 [sl 1 zh a0]=some (Iv r,false):=by
 unfold f202 at h
 obtain⟨d13,h14,h⟩:=jz h
 rcases d13 with d15|d16
 ·have wh14:=jbj a0 h14
  dsimp only[qh0,qk7]at wh14
  obtain rfl:=oi h
  refine zg c202 ?_
  simp only[go_sem,seval,c202,wh14]
  exact⟨_,rfl⟩
 have wh14:=jbj a0 h14
 dsimp only[qh0,qk7]at wh14
 obtain rfl:=oi h
 refine zg c202 ?_
 simp only[go_sem,seval,c202,wh14]
 exact⟨_,rfl⟩
def qhg (a0:TI)(a1:TI):Option Int:=
 j5 (f203 ((a0.getD []).length:Int) ((a1.getD []).length:Int)) fun v1=>
 j5 (f204 a0 a1) fun v3=>
 j5 (f202 (some [v1,v3])) fun v5=>
 some v5
theorem quj (hp:zd){a0:TI}{a1:TI}{r}(h:qhg a0 a1=some r):yk pr (X pr) 163 [sl 1 zh a0,sl 1 zh a1] hp=some (Iv r,false,hp):=by
 unfold qhg at h
 obtain⟨v1,h2,h⟩:=jz h
 have wh2:=je4 h2
 obtain⟨v3,h4,h⟩:=jz h
 obtain⟨v5,h6,h⟩:=jz h
 have wh6:j7 pr (X pr) 202 [.list false 1 [Iv v1,Iv v3]]=some (Iv v5,false):=j2i h6
 have hr:v5=r:=Option.some.inj h
 subst hr
 rw[qak (show pr.fns 163=some c163 from rfl) (by simp)]
 simp only[go_sem,seval,c163,wh2,j0m h4,wh6]<;>rfl
def qo3 (a0:TTI)(a1:Int)(a2:Int)(s0:Int)(s1:Unit):Option (Unit⊕(Unit)):=
 cond (decide (a1<s0))
  (j5 (yd (a0.getD []) s0) fun v49=>
  j5 (yd (a0.getD []) (za .i64 (s0-1))) fun v51=>
  j5 (qhg v49 v51) fun v53=>
  cond (decide (v53<0))
   (none)
   (some (.inr ())))
  (some (.inr ()))
def qog (a0:TTI)(a1:Int)(a2:Int)(s0:Int)(s1:Unit):qc:=⟨[(0,sl 1 (sl 1 zh) a0,false),(1,Iv a1,false),(2,Iv a2,false),(3,.fn (.func 163) [] [],false),(8,Iv s0,false),(9,Iv s0,false)],[]⟩
def qo1 (a0:TTI)(a1:Int)(a2:Int)(s0:Int)(d:Unit):qi×qc:=(.exit 2,⟨[(0,sl 1 (sl 1 zh) a0,false),(1,Iv a1,false),(2,Iv a2,false),(3,.fn (.func 163) [] [],false),(8,Iv s0,false),(9,Iv s0,false),(34,.bool false,false)],[]⟩)
theorem jl6 (a0:TTI)(a1:Int)(a2:Int)(s0:Int)(s1:Unit)(r)(h:qo3 a0 a1 a2 s0 s1=some r):yh pr qs7 (qog a0 a1 a2 s0) (qo1 a0 a1 a2 s0) s1 r:=by
 unfold qo3 at h
 rcases j0 h with⟨h48,h⟩|⟨h48,h⟩
 ·obtain⟨v49,h50,h⟩:=jz h
  obtain⟨v51,h52,h⟩:=jz h
  obtain⟨v53,h54,h⟩:=jz h
  have wh54:yk pr (X pr) 163 [sl 1 zh v49,sl 1 zh v51] []=some (Iv v53,false,[]):=quj [] h54
  rcases j0 h with⟨h55,h⟩|⟨h55,h⟩
  ·cases h
  cases h
  exact j8 (by simp only[go_sem,seval,qs7,qog,h48,zf h50,zf h52,wh54,h55,qo1]<;>rfl)
 cases h
 exact j8 (by simp only[go_sem,seval,qs7,qog,h48,qo1]<;>rfl)
theorem jn1 (a0:TTI)(a1:Int)(a2:Int)(s0:Int){s1:Unit}{d}(h:itO (qo3 a0 a1 a2 s0) s1=some d):X pr (.loop qs7) (qog a0 a1 a2 s0 s1)=some (qo1 a0 a1 a2 s0 d):=yo (jl6 a0 a1 a2 s0) (fun d hh=>by cases hh) h
def qhc (a0:TTI)(a1:Int)(a2:Int)(s0:Int):Option (Int⊕(Int)):=
 cond (decide (s0<a2))
  (j5 (itO (qo3 a0 a1 a2 s0) ()) fun d56=>
  some (.inl (za .i64 (s0+1))))
  (some (.inr s0))
def qoi (a0:TTI)(a1:Int)(a2:Int)(s0:Int):qc:=⟨[(0,sl 1 (sl 1 zh) a0,false),(1,Iv a1,false),(2,Iv a2,false),(3,.fn (.func 163) [] [],false),(8,Iv s0,false)],[]⟩
def qux (a0:TTI)(a1:Int)(a2:Int)(d:Int):qi×qc:=(.exit 0,⟨[(0,sl 1 (sl 1 zh) a0,false),(1,Iv a1,false),(2,Iv a2,false),(3,.fn (.func 163) [] [],false),(8,Iv d,false),(14,.bool false,false)],[]⟩)
theorem jkr (a0:TTI)(a1:Int)(a2:Int)(s0:Int)(r)(h:qhc a0 a1 a2 s0=some r):yh pr qsw (qoi a0 a1 a2) (qux a0 a1 a2) s0 r:=by
 unfold qhc at h
 rcases j0 h with⟨h39,h⟩|⟨h39,h⟩
 ·obtain⟨d56,h57,h⟩:=jz h
  have wh57:=jn1 a0 a1 a2 s0 h57
  dsimp only[qog,qo1]at wh57
  cases h
  exact zp (by simp only[go_sem,seval,qsw,qoi,h39,wh57]<;>rfl)
 cases h
 exact j8 (by simp only[go_sem,seval,qsw,qoi,h39,qux]<;>rfl)
theorem jlx (a0:TTI)(a1:Int)(a2:Int){s0:Int}{d}(h:itO (qhc a0 a1 a2) s0=some d):X pr (.loop qsw) (qoi a0 a1 a2 s0)=some (qux a0 a1 a2 d):=yo (jkr a0 a1 a2) (fun d hh=>by cases hh) h
def f222 (a0:TTI)(a1:Int)(a2:Int):Option Unit:=
 j5 (itO (qhc a0 a1 a2) (za .i64 (a1+1))) fun d58=>
 some ()
theorem j3j {a0:TTI}{a1:Int}{a2:Int}{r}(h:f222 a0 a1 a2=some r):j7 pr (X pr) 222 [sl 1 (sl 1 zh) a0,Iv a1,Iv a2,.fn (.func 163) [] []]=some (.tup [],false):=by
 unfold f222 at h
 obtain⟨d58,h59,h⟩:=jz h
 have wh59:=jlx a0 a1 a2 h59
 dsimp only[qoi,qux]at wh59
 obtain rfl:=oi h
 refine zg c222 ?_
 simp only[go_sem,seval,c222,wh59]
 exact⟨_,rfl⟩
def f257 (a0:TTI)(a1:Int)(a2:Int)(c0_0:Int):Option ((Int×Int)×Int):=
 j5 (yd (a0.getD []) a2) fun v1=>
 j5 (yd (a0.getD []) a1) fun v3=>
 j5 (qhg v1 v3) fun v5=>
 cond (decide (v5<0))
  (some ((a2,a1),za .i64 (c0_0+1)))
  (some ((a1,a2),c0_0))
theorem jcy {a0:TTI}{a1:Int}{a2:Int}{c0_0:Int}{r}(h:f257 a0 a1 a2 c0_0=some r):yk pr (X pr) 257 [sl 1 (sl 1 zh) a0,Iv a1,Iv a2,.ptr 0 0,.fn (.func 163) [] []] [.cells [(Iv c0_0,false)]]=some (.tup [Iv r.1.1,Iv r.1.2],false,[.cells [(Iv r.2,false)]]):=by
 unfold f257 at h
 obtain⟨v1,h2,h⟩:=jz h
 obtain⟨v3,h4,h⟩:=jz h
 obtain⟨v5,h6,h⟩:=jz h
 have wh6:yk pr (X pr) 163 [sl 1 zh v1,sl 1 zh v3] [.cells [(Iv c0_0,false)]]=some (Iv v5,false,[.cells [(Iv c0_0,false)]]):=quj [.cells [(Iv c0_0,false)]] h6
 rcases j0 h with⟨h7,h⟩|⟨h7,h⟩
 ·have hr:((a2,a1),za .i64 (c0_0+1))=r:=Option.some.inj h
  subst hr
  rw[qak (show pr.fns 257=some c257 from rfl) (by simp)]
  simp only[go_sem,seval,c257,zf h2,zf h4,wh6,h7]<;>rfl
 have hr:((a1,a2),c0_0)=r:=Option.some.inj h
 subst hr
 rw[qak (show pr.fns 257=some c257 from rfl) (by simp)]
 simp only[go_sem,seval,c257,zf h2,zf h4,wh6,h7]<;>rfl
def f248 (a0:TTI)(a1:Int)(a2:Int)(a3:Int)(c0_0:Int):Option (Int×Int):=
 j5 (f257 a0 a1 a2 c0_0) fun v1=>
 j5 (f257 a0 v1.1.2 a3 v1.2) fun v3=>
 j5 (f257 a0 v1.1.1 v3.1.1 v3.2) fun v5=>
 some (v5.1.2,v5.2)
theorem jei {a0:TTI}{a1:Int}{a2:Int}{a3:Int}{c0_0:Int}{r}(h:f248 a0 a1 a2 a3 c0_0=some r):yk pr (X pr) 248 [sl 1 (sl 1 zh) a0,Iv a1,Iv a2,Iv a3,.ptr 0 0,.fn (.func 163) [] []] [.cells [(Iv c0_0,false)]]=some (Iv r.1,false,[.cells [(Iv r.2,false)]]):=by
 unfold f248 at h
 obtain⟨v1,h2,h⟩:=jz h
 have wh2:yk pr (X pr) 257 [sl 1 (sl 1 zh) a0,Iv a1,Iv a2,.ptr 0 0,.fn (.func 163) [] []] [.cells [(Iv c0_0,false)]]=some (.tup [Iv v1.1.1,Iv v1.1.2],false,[.cells [(Iv v1.2,false)]]):=jcy h2
 obtain⟨v3,h4,h⟩:=jz h
 have wh4:yk pr (X pr) 257 [sl 1 (sl 1 zh) a0,Iv v1.1.2,Iv a3,.ptr 0 0,.fn (.func 163) [] []] [.cells [(Iv v1.2,false)]]=some (.tup [Iv v3.1.1,Iv v3.1.2],false,[.cells [(Iv v3.2,false)]]):=jcy h4
 obtain⟨v5,h6,h⟩:=jz h
 have wh6:yk pr (X pr) 257 [sl 1 (sl 1 zh) a0,Iv v1.1.1,Iv v3.1.1,.ptr 0 0,.fn (.func 163) [] []] [.cells [(Iv v3.2,false)]]=some (.tup [Iv v5.1.1,Iv v5.1.2],false,[.cells [(Iv v5.2,false)]]):=jcy h6
 have hr:(v5.1.2,v5.2)=r:=Option.some.inj h
 subst hr
 rw[qak (show pr.fns 248=some c248 from rfl) (by simp)]
 simp only[go_sem,seval,c248,wh2,wh4,wh6]<;>rfl
def f247 (a0:TTI)(a1:Int)(c0_0:Int):Option (Int×Int):=
 j5 (f248 a0 (za .i64 (a1-1)) a1 (za .i64 (a1+1)) c0_0) fun v1=>
 some (v1.1,v1.2)
theorem jcm {a0:TTI}{a1:Int}{c0_0:Int}{r}(h:f247 a0 a1 c0_0=some r):yk pr (X pr) 247 [sl 1 (sl 1 zh) a0,Iv a1,.ptr 0 0,.fn (.func 163) [] []] [.cells [(Iv c0_0,false)]]=some (Iv r.1,false,[.cells [(Iv r.2,false)]]):=by
 unfold f247 at h
 obtain⟨v1,h2,h⟩:=jz h
 have wh2:yk pr (X pr) 248 [sl 1 (sl 1 zh) a0,Iv (za .i64 (a1-1)),Iv a1,Iv (za .i64 (a1+1)),.ptr 0 0,.fn (.func 163) [] []] [.cells [(Iv c0_0,false)]]=some (Iv v1.1,false,[.cells [(Iv v1.2,false)]]):=jei h2
 have hr:(v1.1,v1.2)=r:=Option.some.inj h
 subst hr
 rw[qak (show pr.fns 247=some c247 from rfl) (by simp)]
 simp only[go_sem,seval,c247,wh2]<;>rfl
def f225 (a0:TTI)(a1:Int)(a2:Int):Option (Int×Int):=
 j5 (qey .i64 (za .i64 (a2-a1)) 4) fun v1=>
 cond (decide (8≤(za .i64 (a2-a1))))
  (cond (decide (50≤(za .i64 (a2-a1))))
   (j5 (f247 a0 (za .i64 (a1+(za .i64 (v1*1)))) 0) fun v5=>
   j5 (f247 a0 (za .i64 (a1+(za .i64 (v1*2)))) v5.2) fun v7=>
   j5 (f247 a0 (za .i64 (a1+(za .i64 (v1*3)))) v7.2) fun v9=>
   j5 (f248 a0 v5.1 v7.1 v9.1 v9.2) fun v11=>
   cond (decide (v11.2=0))
    (some (v11.1,1))
    (cond (decide (v11.2=12))
     (some (v11.1,2))
     (some (v11.1,0))))
   (j5 (f248 a0 (za .i64 (a1+(za .i64 (v1*1)))) (za .i64 (a1+(za .i64 (v1*2)))) (za .i64 (a1+(za .i64 (v1*3)))) 0) fun v15=>
   cond (decide (v15.2=0))
    (some (v15.1,1))
    (cond (decide (v15.2=12))
     (some (v15.1,2))
     (some (v15.1,0)))))
  (some (za .i64 (a1+(za .i64 (v1*2))),1))
theorem j0h {a0:TTI}{a1:Int}{a2:Int}{r}(h:f225 a0 a1 a2=some r):j7 pr (X pr) 225 [sl 1 (sl 1 zh) a0,Iv a1,Iv a2,.fn (.func 163) [] []]=some (.tup [Iv r.1,Iv r.2],false):=by
 unfold f225 at h
 obtain⟨v1,h2,h⟩:=jz h
 rcases j0 h with⟨h3,h⟩|⟨h3,h⟩
 ·rcases j0 h with⟨h4,h⟩|⟨h4,h⟩
  ·obtain⟨v5,h6,h⟩:=jz h
   have wh6:yk pr (X pr) 247 [sl 1 (sl 1 zh) a0,Iv (za .i64 (a1+(za .i64 (v1*1)))),.ptr 0 0,.fn (.func 163) [] []] [.cells [(Iv 0,false)]]=some (Iv v5.1,false,[.cells [(Iv v5.2,false)]]):=jcm h6
   obtain⟨v7,h8,h⟩:=jz h
   have wh8:yk pr (X pr) 247 [sl 1 (sl 1 zh) a0,Iv (za .i64 (a1+(za .i64 (v1*2)))),.ptr 0 0,.fn (.func 163) [] []] [.cells [(Iv v5.2,false)]]=some (Iv v7.1,false,[.cells [(Iv v7.2,false)]]):=jcm h8
   obtain⟨v9,h10,h⟩:=jz h
   have wh10:yk pr (X pr) 247 [sl 1 (sl 1 zh) a0,Iv (za .i64 (a1+(za .i64 (v1*3)))),.ptr 0 0,.fn (.func 163) [] []] [.cells [(Iv v7.2,false)]]=some (Iv v9.1,false,[.cells [(Iv v9.2,false)]]):=jcm h10
   obtain⟨v11,h12,h⟩:=jz h
   have wh12:yk pr (X pr) 248 [sl 1 (sl 1 zh) a0,Iv v5.1,Iv v7.1,Iv v9.1,.ptr 0 0,.fn (.func 163) [] []] [.cells [(Iv v9.2,false)]]=some (Iv v11.1,false,[.cells [(Iv v11.2,false)]]):=jei h12
   rcases j0 h with⟨h13,h⟩|⟨h13,h⟩
   ·obtain rfl:=oi h
    refine zg c225 ?_
    simp only[go_sem,seval,c225,qaz h2,h3,h4,wh6,wh8,wh10,wh12,h13]
    exact⟨_,rfl⟩
   rcases j0 h with⟨h14,h⟩|⟨h14,h⟩
   ·obtain rfl:=oi h
    refine zg c225 ?_
    simp only[go_sem,seval,c225,qaz h2,h3,h4,wh6,wh8,wh10,wh12,h13,h14]
    exact⟨_,rfl⟩
   obtain rfl:=oi h
   refine zg c225 ?_
   simp only[go_sem,seval,c225,qaz h2,h3,h4,wh6,wh8,wh10,wh12,h13,h14]
   exact⟨_,rfl⟩
  obtain⟨v15,h16,h⟩:=jz h
  have wh16:yk pr (X pr) 248 [sl 1 (sl 1 zh) a0,Iv (za .i64 (a1+(za .i64 (v1*1)))),Iv (za .i64 (a1+(za .i64 (v1*2)))),Iv (za .i64 (a1+(za .i64 (v1*3)))),.ptr 0 0,.fn (.func 163) [] []] [.cells [(Iv 0,false)]]=some (Iv v15.1,false,[.cells [(Iv v15.2,false)]]):=jei h16
  rcases j0 h with⟨h17,h⟩|⟨h17,h⟩
  ·obtain rfl:=oi h
   refine zg c225 ?_
   simp only[go_sem,seval,c225,qaz h2,h3,h4,wh16,h17]
   exact⟨_,rfl⟩
  rcases j0 h with⟨h18,h⟩|⟨h18,h⟩
  ·obtain rfl:=oi h
   refine zg c225 ?_
   simp only[go_sem,seval,c225,qaz h2,h3,h4,wh16,h17,h18]
   exact⟨_,rfl⟩
  obtain rfl:=oi h
  refine zg c225 ?_
  simp only[go_sem,seval,c225,qaz h2,h3,h4,wh16,h17,h18]
  exact⟨_,rfl⟩
 obtain rfl:=oi h
 refine zg c225 ?_
 simp only[go_sem,seval,c225,qaz h2,h3]
 exact⟨_,rfl⟩
def qpl (a0:TTI)(a1:Int)(a2:Int):Option (Option (Int)⊕(Int)):=
 cond (decide ((za .i64 (a1+1))<a2))
  (j5 (yd (a0.getD []) (za .i64 (a1+1))) fun v114=>
  j5 (yd (a0.getD []) (za .i64 ((za .i64 (a1+1))-1))) fun v116=>
  j5 (qhg v114 v116) fun v118=>
  cond (decide (v118<0))
   (some (.inr (za .i64 (a1+1))))
   (some (.inl (some (za .i64 ((za .i64 (a1+1))+1))))))
  (some (.inr (za .i64 (a1+1))))
def qhs (a0:TTI)(a1:Int)(a2:Int)(s1:Int):Option (Option (Int)⊕(Int)):=
 cond (decide (s1<a2))
  (j5 (yd (a0.getD []) s1) fun v106=>
  j5 (yd (a0.getD []) (za .i64 (s1-1))) fun v108=>
  j5 (qhg v106 v108) fun v110=>
  cond (decide (v110<0))
   (some (.inr s1))
   (some (.inl (some (za .i64 (s1+1))))))
  (some (.inr s1))
def qmh (a0:TTI)(a1:Int)(a2:Int):Option (Int)→Option (Option (Int)⊕(Int))
 |none=>qpl a0 a1 a2
 |some x=>qhs a0 a1 a2 x
def qez (a0:TTI)(a1:Int)(a2:Int)(s1:Int):qc:=⟨[(0,sl 1 (sl 1 zh) a0,false),(1,Iv a1,false),(2,Iv a2,false),(3,.fn (.func 163) [] [],false),(9,Iv s1,false),(10,Iv 0,false)],[]⟩
def qdw (a0:TTI)(a1:Int)(a2:Int):Option (Int)→qc
 |none=>⟨[(0,sl 1 (sl 1 zh) a0,false),(1,Iv a1,false),(2,Iv a2,false),(3,.fn (.func 163) [] [],false),(9,Iv (za .i64 (a1+1)),false),(10,Iv 0,false),(16,.bool true,false)],[]⟩
 |some x=>qez a0 a1 a2 x
def qfi (a0:TTI)(a1:Int)(a2:Int)(d:Int):qi×qc:=(.exit 2,⟨[(0,sl 1 (sl 1 zh) a0,false),(1,Iv a1,false),(2,Iv a2,false),(3,.fn (.func 163) [] [],false),(9,Iv d,false),(10,Iv 0,false),(36,.bool false,false)],[]⟩)
theorem jhe (a0:TTI)(a1:Int)(a2:Int)(r)(h:qpl a0 a1 a2=some r):yh pr qe4 (qdw a0 a1 a2) (qfi a0 a1 a2) none r:=by
 unfold qpl at h
 rcases j0 h with⟨h113,h⟩|⟨h113,h⟩
 ·obtain⟨v114,h115,h⟩:=jz h
  obtain⟨v116,h117,h⟩:=jz h
  obtain⟨v118,h119,h⟩:=jz h
  have wh119:yk pr (X pr) 163 [sl 1 zh v114,sl 1 zh v116] []=some (Iv v118,false,[]):=quj [] h119
  rcases j0 h with⟨h120,h⟩|⟨h120,h⟩
  ·cases h
   exact j8 (by simp only[go_sem,seval,qe4,qdw,qez,h113,zf h115,zf h117,wh119,h120,qfi]<;>rfl)
  cases h
  exact zp (by simp only[go_sem,seval,qe4,qdw,qez,h113,zf h115,zf h117,wh119,h120]<;>rfl)
 cases h
 exact j8 (by simp only[go_sem,seval,qe4,qdw,qez,h113,qfi]<;>rfl)
theorem jgw (a0:TTI)(a1:Int)(a2:Int)(s1:Int)(r)(h:qhs a0 a1 a2 s1=some r):yh pr qe4 (qdw a0 a1 a2) (qfi a0 a1 a2) (some s1) r:=by
 unfold qhs at h
 rcases j0 h with⟨h105,h⟩|⟨h105,h⟩
 ·obtain⟨v106,h107,h⟩:=jz h
  obtain⟨v108,h109,h⟩:=jz h
  obtain⟨v110,h111,h⟩:=jz h
  have wh111:yk pr (X pr) 163 [sl 1 zh v106,sl 1 zh v108] []=some (Iv v110,false,[]):=quj [] h111
  rcases j0 h with⟨h112,h⟩|⟨h112,h⟩
  ·cases h
   exact j8 (by simp only[go_sem,seval,qe4,qdw,qez,h105,zf h107,zf h109,wh111,h112,qfi]<;>rfl)
  cases h
  exact zp (by simp only[go_sem,seval,qe4,qdw,qez,h105,zf h107,zf h109,wh111,h112]<;>rfl)
 cases h
 exact j8 (by simp only[go_sem,seval,qe4,qdw,qez,h105,qfi]<;>rfl)
theorem jnf (a0:TTI)(a1:Int)(a2:Int):∀(x:Option (Int)) (r) (h:qmh a0 a1 a2 x=some r),yh pr qe4 (qdw a0 a1 a2) (qfi a0 a1 a2) x r
 |none,r,h=>jhe a0 a1 a2 r h
 |some x,r,h=>jgw a0 a1 a2 x r h
theorem jl4 (a0:TTI)(a1:Int)(a2:Int){s1:Option (Int)}{d}(h:itO (qmh a0 a1 a2) s1=some d):X pr (.loop qe4) (qdw a0 a1 a2 s1)=some (qfi a0 a1 a2 d):=yo (jnf a0 a1 a2) (fun d hh=>by cases hh) h
def qn9 (a0:TTI)(a1:Int)(a2:Int)(s0:Unit):Option (Unit⊕(Bool)):=
 j5 (itO (qmh a0 a1 a2) none) fun d121=>
 cond (decide (d121=a2))
  (some (.inr true))
  (cond (decide ((za .i64 (a2-a1))<50))
   (some (.inr false))
   (j5 (yd (a0.getD []) (za .i64 (d121-1))) fun v125=>
   j5 (yd (a0.getD []) d121) fun v127=>
   none))
def qn7 (a0:TTI)(a1:Int)(a2:Int)(s0:Unit):qc:=⟨[(0,sl 1 (sl 1 zh) a0,false),(1,Iv a1,false),(2,Iv a2,false),(3,.fn (.func 163) [] [],false),(9,Iv (za .i64 (a1+1)),false),(10,Iv 0,false)],[]⟩
def qpq (a0:TTI)(a1:Int)(a2:Int)(d:Bool):qi×qc:=(.ret,⟨[(8,.bool d,false)],[]⟩)
theorem jj7 (a0:TTI)(a1:Int)(a2:Int)(s0:Unit)(r)(h:qn9 a0 a1 a2 s0=some r):yh pr qr0 (qn7 a0 a1 a2) (qpq a0 a1 a2) s0 r:=by
 unfold qn9 at h
 obtain⟨d121,h122,h⟩:=jz h
 have wh122:=jl4 a0 a1 a2 h122
 dsimp only[qdw,qez,qfi]at wh122
 rcases j0 h with⟨h123,h⟩|⟨h123,h⟩
 ·cases h
  exact j8 (by simp only[go_sem,seval,qr0,qn7,wh122,h123,qpq]<;>rfl)
 rcases j0 h with⟨h124,h⟩|⟨h124,h⟩
 ·cases h
  exact j8 (by simp only[go_sem,seval,qr0,qn7,wh122,h123,h124,qpq]<;>rfl)
 obtain⟨v125,h126,h⟩:=jz h
 obtain⟨v127,h128,h⟩:=jz h
 cases h
theorem jlr (a0:TTI)(a1:Int)(a2:Int){s0:Unit}{d}(h:itO (qn9 a0 a1 a2) s0=some d):X pr (.loop qr0) (qn7 a0 a1 a2 s0)=some (qpq a0 a1 a2 d):=yo (jj7 a0 a1 a2) (fun d hh=>by cases hh) h
def f227 (a0:TTI)(a1:Int)(a2:Int):Option Bool:=
 j5 (itO (qn9 a0 a1 a2) ()) fun d129=>
 some d129
theorem j06 {a0:TTI}{a1:Int}{a2:Int}{r}(h:f227 a0 a1 a2=some r):j7 pr (X pr) 227 [sl 1 (sl 1 zh) a0,Iv a1,Iv a2,.fn (.func 163) [] []]=some (.bool r,false):=by
 unfold f227 at h
 obtain⟨d129,h130,h⟩:=jz h
 have wh130:=jlr a0 a1 a2 h130
 dsimp only[qn7,qpq]at wh130
 obtain rfl:=oi h
 refine zg c227 ?_
 simp only[go_sem,seval,c227,wh130]
 exact⟨_,rfl⟩
def f231 (a0:Int):Option Int:=
 cond (decide (4294967296≤a0))
  (none)
  (cond (decide (65536≤a0))
   (none)
   (cond (decide (256≤a0))
    (none)
    (j5 (yd ([0,1,2,2,3,3,3,3,4,4,4,4,4,4,4,4,5,5,5,5,5,5,5,5,5,5,5,5,5,5,5,5,6,6,6,6,6,6,6,6,6,6,6,6,6,6,6,6,6,6,6,6,6,6,6,6,6,6,6,6,6,6,6,6,7,7,7,7,7,7,7,7,7,7,7,7,7,7,7,7,7,7,7,7,7,7,7,7,7,7,7,7,7,7,7,7,7,7,7,7,7,7,7,7,7,7,7,7,7,7,7,7,7,7,7,7,7,7,7,7,7,7,7,7,7,7,7,7,8,8,8,8,8,8,8,8,8,8,8,8,8,8,8,8,8,8,8,8,8,8,8,8,8,8,8,8,8,8,8,8,8,8,8,8,8,8,8,8,8,8,8,8,8,8,8,8,8,8,8,8,8,8,8,8,8,8,8,8,8,8,8,8,8,8,8,8,8,8,8,8,8,8,8,8,8,8,8,8,8,8,8,8,8,8,8,8,8,8,8,8,8,8,8,8,8,8,8,8,8,8,8,8,8,8,8,8,8,8,8,8,8,8,8,8,8,8,8,8,8,8,8,8,8,8,8,8]:List UInt8) (za .u8 a0)) fun v4=>
    some (za .i64 (0+(za .i64 (v4.toNat:Int)))))))
theorem j3m {a0:Int}{r}(h:f231 a0=some r):j7 pr (X pr) 231 [.int .u64 a0]=some (Iv r,false):=by
 unfold f231 at h
 rcases j0 h with⟨h1,h⟩|⟨h1,h⟩
 ·cases h
 rcases j0 h with⟨h2,h⟩|⟨h2,h⟩
 ·cases h
 rcases j0 h with⟨h3,h⟩|⟨h3,h⟩
 ·cases h
 obtain⟨v4,h5,h⟩:=jz h
 obtain rfl:=oi h
 refine zg c231 ?_
 simp only[go_sem,seval,c231,h1,h2,h3,yw h5]
 exact⟨_,rfl⟩
def f201 (a0:Int):Option Int:=
 j5 (f231 a0) fun v1=>
 some v1
theorem j1q {a0:Int}{r}(h:f201 a0=some r):j7 pr (X pr) 201 [.int .u64 a0]=some (Iv r,false):=by
 unfold f201 at h
 obtain⟨v1,h2,h⟩:=jz h
 have wh2:=j3m h2
 obtain rfl:=oi h
 refine zg c201 ?_
 simp only[go_sem,seval,c201,wh2]
 exact⟨_,rfl⟩
def qi6 (a0:TTI)(a1:Int)(a2:Int)(a3:Int)(s0:Unit):Option (Unit⊕(Unit⊕Int)):=
 cond (decide ((za .i64 (a2-a1))≤12))
  (j5 (f222 a0 a1 a2) fun v29=>
  some (.inr (.inl ())))
  (cond (decide (a3=0))
   (none)
   (j5 (f225 a0 a1 a2) fun v32=>
   cond (decide (v32.2=2))
    (none)
    (cond (decide (v32.2=1))
     (j5 (f227 a0 a1 a2) fun v36=>
     cond v36
      (some (.inr (.inr v32.1)))
      (cond (decide (0<a1))
       (j5 (yd (a0.getD []) (za .i64 (a1-1))) fun v40=>
       j5 (yd (a0.getD []) v32.1) fun v42=>
       j5 (qhg v40 v42) fun v44=>
       cond (decide (v44<0))
        (none)
        (none))
       (none)))
     (cond (decide (0<a1))
      (j5 (yd (a0.getD []) (za .i64 (a1-1))) fun v48=>
      j5 (yd (a0.getD []) v32.1) fun v50=>
      j5 (qhg v48 v50) fun v52=>
      cond (decide (v52<0))
       (none)
       (none))
      (none)))))
def qkv (a0:TTI)(a1:Int)(a2:Int)(a3:Int)(s0:Unit):qc:=⟨[(0,sl 1 (sl 1 zh) a0,false),(1,Iv a1,false),(2,Iv a2,false),(3,Iv a3,false),(4,.fn (.func 163) [] [],false),(10,.bool true,false),(11,.bool true,false)],[]⟩
def qkw (a0:TTI)(a1:Int)(a2:Int)(a3:Int):Unit⊕Int→qi×qc
 | .inl d=>(.ret,⟨[],[]⟩)
 | .inr d=>(.ret,⟨[(0,sl 1 (sl 1 zh) a0,false),(1,Iv a1,false),(2,Iv a2,false),(3,Iv a3,false),(4,.fn (.func 163) [] [],false),(10,.bool true,false),(11,.bool true,false),(12,Iv (za .i64 (a2-a1)),false),(13,Iv d,false),(80,.bool true,false)],[]⟩)
theorem jns (a0:TTI)(a1:Int)(a2:Int)(a3:Int)(s0:Unit)(r)(h:qi6 a0 a1 a2 a3 s0=some r):yh pr qsz (qkv a0 a1 a2 a3) (qkw a0 a1 a2 a3) s0 r:=by
 unfold qi6 at h
 rcases j0 h with⟨h28,h⟩|⟨h28,h⟩
 ·obtain⟨v29,h30,h⟩:=jz h
  have wh30:j7 pr (X pr) 222 [sl 1 (sl 1 zh) a0,Iv a1,Iv a2,.fn (.func 163) [] []]=some (.tup [],false):=j3j h30
  cases h
  exact j8 (by simp only[go_sem,seval,qsz,qkv,h28,wh30,qkw]<;>rfl)
 rcases j0 h with⟨h31,h⟩|⟨h31,h⟩
 ·cases h
 obtain⟨v32,h33,h⟩:=jz h
 have wh33:j7 pr (X pr) 225 [sl 1 (sl 1 zh) a0,Iv a1,Iv a2,.fn (.func 163) [] []]=some (.tup [Iv v32.1,Iv v32.2],false):=j0h h33
 rcases j0 h with⟨h34,h⟩|⟨h34,h⟩
 ·cases h
 rcases j0 h with⟨h35,h⟩|⟨h35,h⟩
 ·obtain⟨v36,h37,h⟩:=jz h
  have wh37:j7 pr (X pr) 227 [sl 1 (sl 1 zh) a0,Iv a1,Iv a2,.fn (.func 163) [] []]=some (.bool v36,false):=j06 h37
  rcases j0 h with⟨h38,h⟩|⟨h38,h⟩
  ·cases h
   exact j8 (by simp only[go_sem,seval,qsz,qkv,h28,h31,wh33,h34,h35,wh37,h38,qkw]<;>rfl)
  rcases j0 h with⟨h39,h⟩|⟨h39,h⟩
  ·obtain⟨v40,h41,h⟩:=jz h
   obtain⟨v42,h43,h⟩:=jz h
   obtain⟨v44,h45,h⟩:=jz h
   have wh45:yk pr (X pr) 163 [sl 1 zh v40,sl 1 zh v42] []=some (Iv v44,false,[]):=quj [] h45
   rcases j0 h with⟨h46,h⟩|⟨h46,h⟩
   ·cases h
   cases h
  cases h
 rcases j0 h with⟨h47,h⟩|⟨h47,h⟩
 ·obtain⟨v48,h49,h⟩:=jz h
  obtain⟨v50,h51,h⟩:=jz h
  obtain⟨v52,h53,h⟩:=jz h
  have wh53:yk pr (X pr) 163 [sl 1 zh v48,sl 1 zh v50] []=some (Iv v52,false,[]):=quj [] h53
  rcases j0 h with⟨h54,h⟩|⟨h54,h⟩
  ·cases h
  cases h
 cases h
theorem jb5 (a0:TTI)(a1:Int)(a2:Int)(a3:Int){s0:Unit}{d}(h:itO (qi6 a0 a1 a2 a3) s0=some d):X pr (.loop qsz) (qkv a0 a1 a2 a3 s0)=some (qkw a0 a1 a2 a3 d):=yo (jns a0 a1 a2 a3) (fun d=>by rcases d with d|d<;>(intro hh;cases hh)) h
def f200 (a0:TTI)(a1:Int)(a2:Int)(a3:Int):Option Unit:=
 j5 (itO (qi6 a0 a1 a2 a3) ()) fun d55=>match d55 with
  | .inl d57=>
   some ()
  | .inr d58=>
   some ()
theorem j3o {a0:TTI}{a1:Int}{a2:Int}{a3:Int}{r}(h:f200 a0 a1 a2 a3=some r):j7 pr (X pr) 200 [sl 1 (sl 1 zh) a0,Iv a1,Iv a2,Iv a3,.fn (.func 163) [] []]=some (.tup [],false):=by
 unfold f200 at h
 obtain⟨d55,h56,h⟩:=jz h
 rcases d55 with d57|d58
 ·have wh56:=jb5 a0 a1 a2 a3 h56
  dsimp only[qkv,qkw]at wh56
  obtain rfl:=oi h
  refine zg c200 ?_
  simp only[go_sem,seval,c200,wh56]
  exact⟨_,rfl⟩
 have wh56:=jb5 a0 a1 a2 a3 h56
 dsimp only[qkv,qkw]at wh56
 obtain rfl:=oi h
 refine zg c200 ?_
 simp only[go_sem,seval,c200,wh56]
 exact⟨_,rfl⟩
def f162 (a0:TTI):Option Unit:=
 j5 (f201 (za .u64 ((a0.getD []).length:Int))) fun v1=>
 j5 (f200 a0 0 ((a0.getD []).length:Int) v1) fun v3=>
 some ()
theorem j1r {a0:TTI}{r}(h:f162 a0=some r):j7 pr (X pr) 162 [sl 1 (sl 1 zh) a0,.fn (.func 163) [] []]=some (.tup [],false):=by
 unfold f162 at h
 obtain⟨v1,h2,h⟩:=jz h
 have wh2:=j1q h2
 obtain⟨v3,h4,h⟩:=jz h
 have wh4:j7 pr (X pr) 200 [sl 1 (sl 1 zh) a0,Iv 0,Lv a0,Iv v1,.fn (.func 163) [] []]=some (.tup [],false):=j3o h4
 obtain rfl:=oi h
 refine zg c162 ?_
 simp only[go_sem,seval,c162,wh2,wh4]
 exact⟨_,rfl⟩
end Go.Z
end
