/- Chapter 4. -/
import Derived.Test.YtnjngdcbkkonnaaGreatDoorA13
import Derived.Test.YtnjngdcbkkonnaaGreatDoorA16
import Derived.Test.YtnjngdcbkkonnaaGreatDoorTK
import Derived.Test.YtnjngdcbkkonnaaGreatDoorA8
set_option linter.unusedVariables false
set_option linter.unusedSimpArgs false
set_option maxRecDepth 100000
set_option maxHeartbeats 4000000
noncomputable section
namespace Go.Z
open Go Go.Abs
def f114 (a0:TP)(a1:TB)(a2:Int):Option Int:=
 j5 (f23 a0) fun v1=>
 j5 (f81 a1) fun v3=>
 j5 (f109 a2 0 3) fun v5=>
 j5 (f105 (some [v1,v3,v5])) fun v7=>
 some v7
theorem j1j {a0:TP}{a1:TB}{a2:Int}{r}(h:f114 a0 a1 a2=some r):j7 pr (X pr) 114 [sl 8 zi a0,sl 5 yg a1,Iv a2]=some (Iv r,false):=by
 unfold f114 at h
 obtain⟨v1,h2,h⟩:=jz h
 obtain⟨v3,h4,h⟩:=jz h
 obtain⟨v5,h6,h⟩:=jz h
 obtain⟨v7,h8,h⟩:=jz h
 have wh8:j7 pr (X pr) 105 [.list false 1 [Iv v1,Iv v3,Iv v5]]=some (Iv v7,false):=qqp h8
 obtain rfl:=oi h
 refine zg c114 ?_
 simp only[go_sem,seval,c114,W23 h2,W81 h4,qsg h6,wh8]
 exact⟨_,rfl⟩
def qxx (a0:TI)(a1:TI)(s0:Int):Option (Int⊕(Unit⊕Int)):=
 cond (decide (s0<((a0.getD []).length:Int)))
  (j5 (yd (a0.getD []) s0) fun v15=>
  j5 (yd (a1.getD []) s0) fun v17=>
  cond (decide (v15=v17))
   (some (.inl (za .i64 (s0+1))))
   (some (.inr (.inl ()))))
  (some (.inr (.inr s0)))
def qhn (a0:TI)(a1:TI)(s0:Int):qc:=⟨[(0,sl 1 zh a0,false),(1,sl 1 zh a1,false),(12,Lv a0,false),(13,Iv s0,false)],[]⟩
def qkj (a0:TI)(a1:TI):Unit⊕Int→qi×qc
 | .inl d=>(.ret,⟨[(4,.bool false,false)],[]⟩)
 | .inr d=>(.exit 0,⟨[(0,sl 1 zh a0,false),(1,sl 1 zh a1,false),(12,Lv a0,false),(13,Iv d,false),(14,.bool false,false)],[]⟩)
theorem jkx (a0:TI)(a1:TI)(s0:Int)(r)(h:qxx a0 a1 s0=some r):yh pr qo9 (qhn a0 a1) (qkj a0 a1) s0 r:=by
 unfold qxx at h
 rcases j0 h with⟨h14,h⟩|⟨h14,h⟩
 ·obtain⟨v15,h16,h⟩:=jz h
  obtain⟨v17,h18,h⟩:=jz h
  rcases j0 h with⟨h19,h⟩|⟨h19,h⟩
  ·cases h
   exact zp (by simp only[go_sem,seval,qo9,qhn,h14,zf h16,zf h18,h19]<;>rfl)
  cases h
  exact j8 (by simp only[go_sem,seval,qo9,qhn,h14,zf h16,zf h18,h19,qkj]<;>rfl)
 cases h
 exact j8 (by simp only[go_sem,seval,qo9,qhn,h14,qkj]<;>rfl)
theorem jak (a0:TI)(a1:TI){s0:Int}{d}(h:itO (qxx a0 a1) s0=some d):X pr (.loop qo9) (qhn a0 a1 s0)=some (qkj a0 a1 d):=yo (jkx a0 a1) (fun d=>by rcases d with d|d<;>(intro hh;cases hh)) h
def f144 (a0:TI)(a1:TI):Option Bool:=
 cond (decide (((a0.getD []).length:Int)=((a1.getD []).length:Int)))
  (j5 (itO (qxx a0 a1) 0) fun d20=>match d20 with
   | .inl d22=>
    some false
   | .inr d23=>
    some true)
  (some false)
theorem jz1 {a0:TI}{a1:TI}{r}(h:f144 a0 a1=some r):j7 pr (X pr) 144 [sl 1 zh a0,sl 1 zh a1]=some (.bool r,false):=by
 unfold f144 at h
 rcases j0 h with⟨h1,h⟩|⟨h1,h⟩
 ·obtain⟨d20,h21,h⟩:=jz h
  rcases d20 with d22|d23
  ·have wh21:=jak a0 a1 h21
   dsimp only[qhn,qkj]at wh21
   obtain rfl:=oi h
   refine zg c144 ?_
   simp only[go_sem,seval,c144,h1,wh21]
   exact⟨_,rfl⟩
  have wh21:=jak a0 a1 h21
  dsimp only[qhn,qkj]at wh21
  obtain rfl:=oi h
  refine zg c144 ?_
  simp only[go_sem,seval,c144,h1,wh21]
  exact⟨_,rfl⟩
 obtain rfl:=oi h
 refine zg c144 ?_
 simp only[go_sem,seval,c144,h1]
 exact⟨_,rfl⟩
def qqf (a0:Option (List qj))(s0:(Option (List qj))×Int×Bool):Option (((Option (List qj))×Int×Bool)⊕(((Option (List qj))×Bool×Int))):=
 cond (decide (s0.2.1<((a0.getD []).length:Int)))
  (j5 (yd (a0.getD []) s0.2.1) fun v22=>
  j5 (f30 v22.choice) fun v24=>
  j5 (f78 (⟨v22.rband,v22.rladder⟩)) fun v26=>
  cond s0.2.2
   (j5 (apO s0.1 [⟨v24,v26.band,v26.ladder⟩]) fun v29=>
   some (.inl (v29,za .i64 (s0.2.1+1),true)))
   (cond s0.1.isNone
    (j5 (apO s0.1 [⟨v24,v26.band,v26.ladder⟩]) fun v32=>
    some (.inl (v32,za .i64 (s0.2.1+1),true)))
    (none)))
  (some (.inr (s0.1,s0.2.2,s0.2.1)))
def qf4 (a0:Option (List qj))(s0:(Option (List qj))×Int×Bool):qc:=⟨[(3,sl 3 kj s0.1,s0.2.2),(6,sl 3 kj a0,false),(7,Lv a0,false),(8,Iv s0.2.1,false)],[]⟩
def qxk (a0:Option (List qj))(d:((Option (List qj))×Bool×Int)):qi×qc:=(.exit 0,⟨[(3,sl 3 kj d.1,d.2.1),(6,sl 3 kj a0,false),(7,Lv a0,false),(8,Iv d.2.2,false),(9,.bool false,false)],[]⟩)
theorem jrl (a0:Option (List qj))(s0:(Option (List qj))×Int×Bool)(r)(h:qqf a0 s0=some r):yh pr qtu (qf4 a0) (qxk a0) s0 r:=by
 unfold qqf at h
 rcases j0 h with⟨h21,h⟩|⟨h21,h⟩
 ·obtain⟨v22,h23,h⟩:=jz h
  obtain⟨v24,h25,h⟩:=jz h
  have wh25:=W30 h25
  obtain⟨v26,h27,h⟩:=jz h
  have wh27:=W78 h27
  rcases j0 h with⟨h28,h⟩|⟨h28,h⟩
  ·obtain⟨v29,h30,h⟩:=jz h
   cases h
   exact ko (by simp only[go_sem,seval,qtu,qf4,h21,zf h23,wh25,wh27,h28,qii h30];exact⟨_,rfl⟩) rfl (by first|simp only[go_sem,seval,qf4]|rfl) (by first|simp only[go_sem,seval,qf4]|rfl)
  rcases j0 h with⟨h31,h⟩|⟨h31,h⟩
  ·obtain⟨v32,h33,h⟩:=jz h
   cases h
   exact ko (by simp only[go_sem,seval,qtu,qf4,h21,zf h23,wh25,wh27,h28,h31,qih h33 h31];exact⟨_,rfl⟩) rfl (by first|simp only[go_sem,seval,qf4]|rfl) (by first|simp only[go_sem,seval,qf4]|rfl)
  cases h
 cases h
 exact j8 (by simp only[go_sem,seval,qtu,qf4,h21,qxk]<;>rfl)
theorem jt5 (a0:Option (List qj)){s0:(Option (List qj))×Int×Bool}{d}(h:itO (qqf a0) s0=some d):X pr (.loop qtu) (qf4 a0 s0)=some (qxk a0 d):=yo (jrl a0) (fun d hh=>by cases hh) h
def f86 (a0:Option (List qj)):Option ((Option (List qj))×Bool):=
 j5 (itO (qqf a0) (none,0,false)) fun d34=>
 some (d34.1,d34.2.1)
theorem W86 {a0:Option (List qj)}{r}(h:f86 a0=some r):j7 pr (X pr) 86 [sl 3 kj a0]=some (sl 3 kj r.1,r.2):=by
 unfold f86 at h
 obtain⟨d34,h35,h⟩:=jz h
 have wh35:=jt5 a0 h35
 dsimp only[qf4,qxk,qc9]at wh35
 obtain rfl:=oi h
 refine qcb c86 ?_
 simp only[go_sem,seval,c86,wh35]
 exact⟨_,rfl⟩
def qqz (a0:Option (List qj))(s0:(Option (List qj))×Int×Bool):Option (((Option (List qj))×Int×Bool)⊕(((Option (List qj))×Bool×Int))):=
 cond (decide (s0.2.1<((a0.getD []).length:Int)))
  (j5 (yd (a0.getD []) s0.2.1) fun v18=>
  j5 (f83 (⟨v18.rband,v18.rladder⟩)) fun v20=>
  cond s0.2.2
   (j5 (apO s0.1 [⟨v18.choice,v20.band,v20.ladder⟩]) fun v23=>
   some (.inl (v23,za .i64 (s0.2.1+1),true)))
   (cond s0.1.isNone
    (j5 (apO s0.1 [⟨v18.choice,v20.band,v20.ladder⟩]) fun v26=>
    some (.inl (v26,za .i64 (s0.2.1+1),true)))
    (none)))
  (some (.inr (s0.1,s0.2.2,s0.2.1)))
def qfz (a0:Option (List qj))(s0:(Option (List qj))×Int×Bool):qc:=⟨[(3,sl 3 kj s0.1,s0.2.2),(6,sl 3 kj a0,false),(7,Lv a0,false),(8,Iv s0.2.1,false)],[]⟩
def qyl (a0:Option (List qj))(d:((Option (List qj))×Bool×Int)):qi×qc:=(.exit 0,⟨[(3,sl 3 kj d.1,d.2.1),(6,sl 3 kj a0,false),(7,Lv a0,false),(8,Iv d.2.2,false),(9,.bool false,false)],[]⟩)
theorem jsz (a0:Option (List qj))(s0:(Option (List qj))×Int×Bool)(r)(h:qqz a0 s0=some r):yh pr que (qfz a0) (qyl a0) s0 r:=by
 unfold qqz at h
 rcases j0 h with⟨h17,h⟩|⟨h17,h⟩
 ·obtain⟨v18,h19,h⟩:=jz h
  obtain⟨v20,h21,h⟩:=jz h
  have wh21:=W83 h21
  rcases j0 h with⟨h22,h⟩|⟨h22,h⟩
  ·obtain⟨v23,h24,h⟩:=jz h
   cases h
   exact ko (by simp only[go_sem,seval,que,qfz,h17,zf h19,wh21,h22,qii h24];exact⟨_,rfl⟩) rfl (by first|simp only[go_sem,seval,qfz]|rfl) (by first|simp only[go_sem,seval,qfz]|rfl)
  rcases j0 h with⟨h25,h⟩|⟨h25,h⟩
  ·obtain⟨v26,h27,h⟩:=jz h
   cases h
   exact ko (by simp only[go_sem,seval,que,qfz,h17,zf h19,wh21,h22,h25,qih h27 h25];exact⟨_,rfl⟩) rfl (by first|simp only[go_sem,seval,qfz]|rfl) (by first|simp only[go_sem,seval,qfz]|rfl)
  cases h
 cases h
 exact j8 (by simp only[go_sem,seval,que,qfz,h17,qyl]<;>rfl)
theorem jss (a0:Option (List qj)){s0:(Option (List qj))×Int×Bool}{d}(h:itO (qqz a0) s0=some d):X pr (.loop que) (qfz a0 s0)=some (qyl a0 d):=yo (jsz a0) (fun d hh=>by cases hh) h
def f90 (a0:Option (List qj)):Option ((Option (List qj))×Bool):=
 j5 (itO (qqz a0) (none,0,false)) fun d28=>
 some (d28.1,d28.2.1)
theorem W90 {a0:Option (List qj)}{r}(h:f90 a0=some r):j7 pr (X pr) 90 [sl 3 kj a0]=some (sl 3 kj r.1,r.2):=by
 unfold f90 at h
 obtain⟨d28,h29,h⟩:=jz h
 have wh29:=jss a0 h29
 dsimp only[qfz,qyl,qc9]at wh29
 obtain rfl:=oi h
 refine qcb c90 ?_
 simp only[go_sem,seval,c90,wh29]
 exact⟨_,rfl⟩
def qq3 (a0:Option (List qj))(a1:Option (List qj))(s0:Int):Option (Int⊕(Unit⊕Int)):=
 cond (decide (s0<((a0.getD []).length:Int)))
  (j5 (yd (a0.getD []) s0) fun v25=>
  j5 (yd (a1.getD []) s0) fun v27=>
  j5 (f42 v25.choice v27.choice) fun v29=>
  cond v29
   (j5 (f82 (⟨v25.rband,v25.rladder⟩) (⟨v27.rband,v27.rladder⟩)) fun v32=>
   cond v32
    (some (.inl (za .i64 (s0+1))))
    (some (.inr (.inl ()))))
   (some (.inr (.inl ()))))
  (some (.inr (.inr s0)))
def qiy (a0:Option (List qj))(a1:Option (List qj))(s0:Int):qc:=⟨[(0,sl 3 kj a0,false),(1,sl 3 kj a1,false),(5,Iv s0,false)],[]⟩
def qmi (a0:Option (List qj))(a1:Option (List qj)):Unit⊕Int→qi×qc
 | .inl d=>(.ret,⟨[(4,.bool false,false)],[]⟩)
 | .inr d=>(.exit 0,⟨[(0,sl 3 kj a0,false),(1,sl 3 kj a1,false),(5,Iv d,false),(14,.bool false,false)],[]⟩)
theorem jut (a0:Option (List qj))(a1:Option (List qj))(s0:Int)(r)(h:qq3 a0 a1 s0=some r):yh pr qqj (qiy a0 a1) (qmi a0 a1) s0 r:=by
 unfold qq3 at h
 rcases j0 h with⟨h24,h⟩|⟨h24,h⟩
 ·obtain⟨v25,h26,h⟩:=jz h
  obtain⟨v27,h28,h⟩:=jz h
  obtain⟨v29,h30,h⟩:=jz h
  have wh30:=W42 h30
  rcases j0 h with⟨h31,h⟩|⟨h31,h⟩
  ·obtain⟨v32,h33,h⟩:=jz h
   have wh33:=W82 h33
   rcases j0 h with⟨h34,h⟩|⟨h34,h⟩
   ·cases h
    exact zp (by simp only[go_sem,seval,qqj,qiy,h24,zf h26,zf h28,wh30,h31,wh33,h34]<;>rfl)
   cases h
   exact j8 (by simp only[go_sem,seval,qqj,qiy,h24,zf h26,zf h28,wh30,h31,wh33,h34,qmi]<;>rfl)
  cases h
  exact j8 (by simp only[go_sem,seval,qqj,qiy,h24,zf h26,zf h28,wh30,h31,qmi]<;>rfl)
 cases h
 exact j8 (by simp only[go_sem,seval,qqj,qiy,h24,qmi]<;>rfl)
theorem jfn (a0:Option (List qj))(a1:Option (List qj)){s0:Int}{d}(h:itO (qq3 a0 a1) s0=some d):X pr (.loop qqj) (qiy a0 a1 s0)=some (qmi a0 a1 d):=yo (jut a0 a1) (fun d=>by rcases d with d|d<;>(intro hh;cases hh)) h
def f89 (a0:Option (List qj))(a1:Option (List qj)):Option Bool:=
 cond (decide (((a0.getD []).length:Int)=((a1.getD []).length:Int)))
  (j5 (itO (qq3 a0 a1) 0) fun d35=>match d35 with
   | .inl d37=>
    some false
   | .inr d38=>
    some true)
  (some false)
theorem W89 {a0:Option (List qj)}{a1:Option (List qj)}{r}(h:f89 a0 a1=some r):j7 pr (X pr) 89 [sl 3 kj a0,sl 3 kj a1]=some (.bool r,false):=by
 unfold f89 at h
 rcases j0 h with⟨h1,h⟩|⟨h1,h⟩
 ·obtain⟨d35,h36,h⟩:=jz h
  rcases d35 with d37|d38
  ·have wh36:=jfn a0 a1 h36
   dsimp only[qiy,qmi]at wh36
   obtain rfl:=oi h
   refine zg c89 ?_
   simp only[go_sem,seval,c89,h1,wh36]
   exact⟨_,rfl⟩
  have wh36:=jfn a0 a1 h36
  dsimp only[qiy,qmi]at wh36
  obtain rfl:=oi h
  refine zg c89 ?_
  simp only[go_sem,seval,c89,h1,wh36]
  exact⟨_,rfl⟩
 obtain rfl:=oi h
 refine zg c89 ?_
 simp only[go_sem,seval,c89,h1]
 exact⟨_,rfl⟩
theorem V42 {a0:TI}{a1:TI}{r}(h:f42 a0 a1=some r):j7 prT (X prT) 42 [sl 1 zh a0,sl 1 zh a1]=some (.bool r,false):=atT rfl rfl (W42 h) (by first|rfl|simp only[go_sem,seval])
theorem V79 {a0:TP}{a1:TI}{a2:TB}{r}(h:f79 a0 a1 a2=some r):j7 prT (X prT) 79 [sl 8 zi a0,sl 1 zh a1,sl 5 yg a2]=some (.tup [.agg [Iv r.1.band,sl 3 vel r.1.ladder],.bool r.2],false):=atT rfl rfl (W79 h) (by first|rfl|simp only[go_sem,seval])
theorem V80 {a0:TP}{a1:TI}{a2:TB}{a3:qq}{r}(h:f80 a0 a1 a2 a3=some r):j7 prT (X prT) 80 [sl 8 zi a0,sl 1 zh a1,sl 5 yg a2,.agg [Iv a3.band,sl 3 vel a3.ladder]]=some (Iv r,false):=atT rfl rfl (W80 h) (by first|rfl|simp only[go_sem,seval])
theorem jcx {a0:TP}{a1:TI}{a2:TB}{r}(h:f117 a0 a1 a2=some r):j7 prT (X prT) 117 [sl 8 zi a0,sl 1 zh a1,sl 5 yg a2]=some (.tup [.agg [Iv r.1.band,sl 3 vel r.1.ladder],.bool r.2],false):=atT rfl rfl (j2d h) (by first|rfl|simp only[go_sem,seval])
theorem jz7 {a0:qq}{a1:TP}{a2:TI}{a3:TB}{r}(h:f141 a0 a1 a2 a3=some r):j7 prT (X prT) 141 [.agg [Iv a0.band,sl 3 vel a0.ladder],sl 8 zi a1,sl 1 zh a2,sl 5 yg a3]=some (Iv r,false):=atT rfl rfl (j03 h) (by first|rfl|simp only[go_sem,seval])
theorem qzn {a0:TI}{r}(h:f161 a0=some r):j7 prT (X prT) 161 [sl 1 zh a0]=some (sl 1 zh r.1,r.2):=atT rfl rfl (j2z h) (by first|rfl|simp only[go_sem,seval])
theorem qwh {a0:TP}{a1:TB}{a2:Int}{r}(h:f114 a0 a1 a2=some r):j7 prT (X prT) 114 [sl 8 zi a0,sl 5 yg a1,Iv a2]=some (Iv r,false):=atT rfl rfl (j1j h) (by first|rfl|simp only[go_sem,seval])
theorem j1x {a0:TI}{a1:TI}{r}(h:f144 a0 a1=some r):j7 prT (X prT) 144 [sl 1 zh a0,sl 1 zh a1]=some (.bool r,false):=atT rfl rfl (jz1 h) (by first|rfl|simp only[go_sem,seval])
theorem jy6 {a0:TTI}{r}(h:f162 a0=some r):j7 prT (X prT) 162 [sl 1 (sl 1 zh) a0,.fn (.func 163) [] []]=some (.tup [],false):=atT rfl rfl (j1r h) rfl
def qiw (a0:TP)(a1:Int)(s0:TTI×TTI×Int)(s1:TTI×Int×Bool)(v830:TI)(s2:TTI×Int×Bool):Option ((TTI×Int×Bool)⊕((TTI×Bool×Int))):=
 cond (decide (s2.2.1<((a0.getD []).length:Int)))
  (j5 (f161 v830) fun v887=>
  cond v887.2
   (j5 (apO v887.1 [s2.2.1]) fun v890=>
   j5 (f138 a0 v890) fun v892=>
   cond v892.2
    (cond s2.2.2
     (j5 (apO s2.1 [v890]) fun v896=>
     some (.inl (v896,za .i64 (s2.2.1+1),true)))
     (cond s2.1.isNone
      (j5 (apO s2.1 [v890]) fun v899=>
      some (.inl (v899,za .i64 (s2.2.1+1),true)))
      (none)))
    (some (.inl (s2.1,za .i64 (s2.2.1+1),s2.2.2))))
   (cond v887.1.isNone
    (j5 (apO v887.1 [s2.2.1]) fun v902=>
    j5 (f138 a0 v902) fun v904=>
    cond v904.2
     (cond s2.2.2
      (j5 (apO s2.1 [v902]) fun v908=>
      some (.inl (v908,za .i64 (s2.2.1+1),true)))
      (cond s2.1.isNone
       (j5 (apO s2.1 [v902]) fun v911=>
       some (.inl (v911,za .i64 (s2.2.1+1),true)))
       (none)))
     (some (.inl (s2.1,za .i64 (s2.2.1+1),s2.2.2))))
    (none)))
  (some (.inr (s2.1,s2.2.2,s2.2.1)))
def qem (a0:TP)(a1:Int)(s0:TTI×TTI×Int)(s1:TTI×Int×Bool)(v830:TI)(s2:TTI×Int×Bool):qc:=⟨[(0,sl 8 zi a0,false),(5,sl 1 (sl 1 zh) s0.1,true),(7,sl 1 (sl 1 zh) s2.1,s2.2.2),(9,sl 1 zh v830,false),(16,Iv a1,false),(17,Iv s0.2.2,false),(19,sl 1 (sl 1 zh) s0.2.1,false),(20,Lv s0.2.1,false),(21,Iv s1.2.1,false),(26,Lv a0,false),(27,Iv s2.2.1,false)],[]⟩
def qtw (a0:TP)(a1:Int)(s0:TTI×TTI×Int)(s1:TTI×Int×Bool)(v830:TI)(d:(TTI×Bool×Int)):qi×qc:=(.exit 4,⟨[(0,sl 8 zi a0,false),(5,sl 1 (sl 1 zh) s0.1,true),(7,sl 1 (sl 1 zh) d.1,d.2.1),(9,sl 1 zh v830,false),(16,Iv a1,false),(17,Iv s0.2.2,false),(19,sl 1 (sl 1 zh) s0.2.1,false),(20,Lv s0.2.1,false),(21,Iv s1.2.1,false),(26,Lv a0,false),(27,Iv d.2.2,false),(28,.bool false,false)],[]⟩)
theorem jki (a0:TP)(a1:Int)(s0:TTI×TTI×Int)(s1:TTI×Int×Bool)(v830:TI)(s2:TTI×Int×Bool)(r)(h:qiw a0 a1 s0 s1 v830 s2=some r):yh prT qf0 (qem a0 a1 s0 s1 v830) (qtw a0 a1 s0 s1 v830) s2 r:=by
 unfold qiw at h
 rcases j0 h with⟨h886,h⟩|⟨h886,h⟩
 ·obtain⟨v887,h888,h⟩:=jz h
  rcases j0 h with⟨h889,h⟩|⟨h889,h⟩
  ·obtain⟨v890,h891,h⟩:=jz h
   obtain⟨v892,h893,h⟩:=jz h
   rcases j0 h with⟨h894,h⟩|⟨h894,h⟩
   ·rcases j0 h with⟨h895,h⟩|⟨h895,h⟩
    ·obtain⟨v896,h897,h⟩:=jz h
     cases h
     exact zp (by simp only[go_sem,seval,qf0,qem,h886,qzn h888,h889,qdh h891,qzq h893,h894,h895,qg3 h897]<;>rfl)
    rcases j0 h with⟨h898,h⟩|⟨h898,h⟩
    ·obtain⟨v899,h900,h⟩:=jz h
     cases h
     exact zp (by simp only[go_sem,seval,qf0,qem,h886,qzn h888,h889,qdh h891,qzq h893,h894,h895,h898,qhb h900 h898]<;>rfl)
    cases h
   cases h
   exact zp (by simp only[go_sem,seval,qf0,qem,h886,qzn h888,h889,qdh h891,qzq h893,h894]<;>rfl)
  rcases j0 h with⟨h901,h⟩|⟨h901,h⟩
  ·obtain⟨v902,h903,h⟩:=jz h
   obtain⟨v904,h905,h⟩:=jz h
   rcases j0 h with⟨h906,h⟩|⟨h906,h⟩
   ·rcases j0 h with⟨h907,h⟩|⟨h907,h⟩
    ·obtain⟨v908,h909,h⟩:=jz h
     cases h
     exact zp (by simp only[go_sem,seval,qf0,qem,h886,qzn h888,h889,h901,qha h903 h901,qzq h905,h906,h907,qg3 h909]<;>rfl)
    rcases j0 h with⟨h910,h⟩|⟨h910,h⟩
    ·obtain⟨v911,h912,h⟩:=jz h
     cases h
     exact zp (by simp only[go_sem,seval,qf0,qem,h886,qzn h888,h889,h901,qha h903 h901,qzq h905,h906,h907,h910,qhb h912 h910]<;>rfl)
    cases h
   cases h
   exact zp (by simp only[go_sem,seval,qf0,qem,h886,qzn h888,h889,h901,qha h903 h901,qzq h905,h906]<;>rfl)
  cases h
 cases h
 exact j8 (by simp only[go_sem,seval,qf0,qem,h886,qtw]<;>rfl)
theorem jnt (a0:TP)(a1:Int)(s0:TTI×TTI×Int)(s1:TTI×Int×Bool)(v830:TI){s2:TTI×Int×Bool}{d}(h:itO (qiw a0 a1 s0 s1 v830) s2=some d):X prT (.loop qf0) (qem a0 a1 s0 s1 v830 s2)=some (qtw a0 a1 s0 s1 v830 d):=yo (jki a0 a1 s0 s1 v830) (fun d hh=>by cases hh) h
def qmq (a0:TP)(a1:Int)(s0:TTI×TTI×Int)(s1:TTI×Int×Bool):Option ((TTI×Int×Bool)⊕((TTI×Bool×Int))):=
 cond (decide (s1.2.1<((s0.2.1.getD []).length:Int)))
  (j5 (yd (s0.2.1.getD []) s1.2.1) fun v830=>
  j5 (itO (qiw a0 a1 s0 s1 v830) (s1.1,0,s1.2.2)) fun d913=>
  some (.inl (d913.1,za .i64 (s1.2.1+1),d913.2.1)))
  (some (.inr (s1.1,s1.2.2,s1.2.1)))
def qpu (a0:TP)(a1:Int)(s0:TTI×TTI×Int)(s1:TTI×Int×Bool):qc:=⟨[(0,sl 8 zi a0,false),(5,sl 1 (sl 1 zh) s0.1,true),(7,sl 1 (sl 1 zh) s1.1,s1.2.2),(16,Iv a1,false),(17,Iv s0.2.2,false),(19,sl 1 (sl 1 zh) s0.2.1,false),(20,Lv s0.2.1,false),(21,Iv s1.2.1,false)],[]⟩
def qu0 (a0:TP)(a1:Int)(s0:TTI×TTI×Int)(d:(TTI×Bool×Int)):qi×qc:=(.exit 2,⟨[(0,sl 8 zi a0,false),(5,sl 1 (sl 1 zh) s0.1,true),(7,sl 1 (sl 1 zh) d.1,d.2.1),(16,Iv a1,false),(17,Iv s0.2.2,false),(19,sl 1 (sl 1 zh) s0.2.1,false),(20,Lv s0.2.1,false),(21,Iv d.2.2,false),(22,.bool false,false)],[]⟩)
theorem jmh (a0:TP)(a1:Int)(s0:TTI×TTI×Int)(s1:TTI×Int×Bool)(r)(h:qmq a0 a1 s0 s1=some r):yh prT qte (qpu a0 a1 s0) (qu0 a0 a1 s0) s1 r:=by
 unfold qmq at h
 rcases j0 h with⟨h829,h⟩|⟨h829,h⟩
 ·obtain⟨v830,h831,h⟩:=jz h
  obtain⟨d913,h914,h⟩:=jz h
  have wh914:=jnt a0 a1 s0 s1 v830 h914
  dsimp only[qem,qtw]at wh914
  cases h
  exact zp (by simp only[go_sem,seval,qte,qpu,h829,zf h831,wh914]<;>rfl)
 cases h
 exact j8 (by simp only[go_sem,seval,qte,qpu,h829,qu0]<;>rfl)
theorem jli (a0:TP)(a1:Int)(s0:TTI×TTI×Int){s1:TTI×Int×Bool}{d}(h:itO (qmq a0 a1 s0) s1=some d):X prT (.loop qte) (qpu a0 a1 s0 s1)=some (qu0 a0 a1 s0 d):=yo (jmh a0 a1 s0) (fun d hh=>by cases hh) h
def qhh (a0:TP)(a1:Int)(s0:TTI×TTI×Int):Option ((TTI×TTI×Int)⊕((TTI×TTI×Int))):=
 cond (decide (s0.2.2<a1))
  (j5 (itO (qmq a0 a1 s0) (none,0,false)) fun d915=>
  j5 (apO s0.1 (d915.1.getD [])) fun v917=>
  some (.inl (v917,d915.1,za .i64 (s0.2.2+1))))
  (some (.inr (s0.1,s0.2.1,s0.2.2)))
def quf (a0:TP)(a1:Int)(s0:TTI×TTI×Int):qc:=⟨[(0,sl 8 zi a0,false),(5,sl 1 (sl 1 zh) s0.1,true),(6,sl 1 (sl 1 zh) s0.2.1,false),(16,Iv a1,false),(17,Iv s0.2.2,false)],[]⟩
def qze (a0:TP)(a1:Int)(d:(TTI×TTI×Int)):qi×qc:=(.exit 0,⟨[(0,sl 8 zi a0,false),(5,sl 1 (sl 1 zh) d.1,true),(6,sl 1 (sl 1 zh) d.2.1,false),(16,Iv a1,false),(17,Iv d.2.2,false),(18,.bool false,false)],[]⟩)
theorem jn3 (a0:TP)(a1:Int)(s0:TTI×TTI×Int)(r)(h:qhh a0 a1 s0=some r):yh prT qpe (quf a0 a1) (qze a0 a1) s0 r:=by
 unfold qhh at h
 rcases j0 h with⟨h668,h⟩|⟨h668,h⟩
 ·obtain⟨d915,h916,h⟩:=jz h
  have wh916:=jli a0 a1 s0 h916
  dsimp only[qpu,qu0,qc9]at wh916
  obtain⟨v917,h918,h⟩:=jz h
  cases h
  exact zp (by simp only[go_sem,seval,qpe,quf,h668,wh916,qp9 h918]<;>rfl)
 cases h
 exact j8 (by simp only[go_sem,seval,qpe,quf,h668,qze]<;>rfl)
theorem jkj (a0:TP)(a1:Int){s0:TTI×TTI×Int}{d}(h:itO (qhh a0 a1) s0=some d):X prT (.loop qpe) (quf a0 a1 s0)=some (qze a0 a1 d):=yo (jn3 a0 a1) (fun d hh=>by cases hh) h
def f115 (a0:TP)(a1:Int):Option TTI:=
 j5 (itO (qhh a0 a1) (some [none],some [none],0)) fun d919=>
 j5 (f162 d919.1) fun v921=>
 some d919.1
theorem q1w {a0:TP}{a1:Int}{r}(h:f115 a0 a1=some r):j7 prT (X prT) 115 [sl 8 zi a0,Iv a1]=some (sl 1 (sl 1 zh) r,true):=by
 unfold f115 at h
 obtain⟨d919,h920,h⟩:=jz h
 have wh920:X prT (.loop qpe) ⟨[(0,sl 8 zi a0,false),(5,.list false 1 [.list true 0 []],true),(6,.list false 1 [.list true 0 []],false),(16,Iv a1,false),(17,Iv 0,false)],[]⟩=some (.exit 0,⟨[(0,sl 8 zi a0,false),(5,sl 1 (sl 1 zh) d919.1,true),(6,sl 1 (sl 1 zh) d919.2.1,false),(16,Iv a1,false),(17,Iv d919.2.2,false),(18,.bool false,false)],[]⟩):=jkj a0 a1 h920
 obtain⟨v921,h922,h⟩:=jz h
 have wh922:j7 prT (X prT) 162 [sl 1 (sl 1 zh) d919.1,.fn (.func 163) [] []]=some (.tup [],false):=jy6 h922
 obtain rfl:=oi h
 refine qcb c115 ?_
 simp only[go_sem,seval,c115,wh920,wh922]
 exact⟨_,rfl⟩
def qjl (a0:TP)(a1:Int)(s0:TTI×TTI×Int×Bool)(s1:TTI×Int×Bool)(s2:TTI×Int×Bool):Option ((TTI×Int×Bool)⊕((TTI×Bool×Int))):=
 cond (decide (s2.2.1<((a0.getD []).length:Int)))
  (j5 (yd (s0.2.1.getD []) s1.2.1) fun v501=>
  j5 (apO (some []) (v501.getD [])) fun v503=>
  j5 (apO v503 [s2.2.1]) fun v505=>
  j5 (f72 a0 v505) fun v507=>
  cond v507.2
   (cond s2.2.2
    (j5 (apO s2.1 [v505]) fun v511=>
    some (.inl (v511,za .i64 (s2.2.1+1),true)))
    (cond s2.1.isNone
     (j5 (apO s2.1 [v505]) fun v514=>
     some (.inl (v514,za .i64 (s2.2.1+1),true)))
     (none)))
   (some (.inl (s2.1,za .i64 (s2.2.1+1),s2.2.2))))
  (some (.inr (s2.1,s2.2.2,s2.2.1)))
def qh7 (a0:TP)(a1:Int)(s0:TTI×TTI×Int×Bool)(s1:TTI×Int×Bool)(s2:TTI×Int×Bool):qc:=⟨[(0,sl 8 zi a0,false),(1,Iv a1,false),(5,sl 1 (sl 1 zh) s0.1,true),(6,sl 1 (sl 1 zh) s0.2.1,s0.2.2.2),(7,Iv s0.2.2.1,false),(8,sl 1 (sl 1 zh) s2.1,s2.2.2),(9,Iv s1.2.1,false),(10,Iv s2.2.1,false)],[]⟩
def quw (a0:TP)(a1:Int)(s0:TTI×TTI×Int×Bool)(s1:TTI×Int×Bool)(d:(TTI×Bool×Int)):qi×qc:=(.exit 4,⟨[(0,sl 8 zi a0,false),(1,Iv a1,false),(5,sl 1 (sl 1 zh) s0.1,true),(6,sl 1 (sl 1 zh) s0.2.1,s0.2.2.2),(7,Iv s0.2.2.1,false),(8,sl 1 (sl 1 zh) d.1,d.2.1),(9,Iv s1.2.1,false),(10,Iv d.2.2,false),(30,.bool false,false)],[]⟩)
theorem jlg (a0:TP)(a1:Int)(s0:TTI×TTI×Int×Bool)(s1:TTI×Int×Bool)(s2:TTI×Int×Bool)(r)(h:qjl a0 a1 s0 s1 s2=some r):yh prT qlh (qh7 a0 a1 s0 s1) (quw a0 a1 s0 s1) s2 r:=by
 unfold qjl at h
 rcases j0 h with⟨h500,h⟩|⟨h500,h⟩
 ·obtain⟨v501,h502,h⟩:=jz h
  obtain⟨v503,h504,h⟩:=jz h
  obtain⟨v505,h506,h⟩:=jz h
  obtain⟨v507,h508,h⟩:=jz h
  rcases j0 h with⟨h509,h⟩|⟨h509,h⟩
  ·rcases j0 h with⟨h510,h⟩|⟨h510,h⟩
   ·obtain⟨v511,h512,h⟩:=jz h
    cases h
    exact zp (by simp only[go_sem,seval,qlh,qh7,h500,zf h502,qb6 h504,qdh h506,W72 h508,h509,h510,qg3 h512]<;>rfl)
   rcases j0 h with⟨h513,h⟩|⟨h513,h⟩
   ·obtain⟨v514,h515,h⟩:=jz h
    cases h
    exact zp (by simp only[go_sem,seval,qlh,qh7,h500,zf h502,qb6 h504,qdh h506,W72 h508,h509,h510,h513,qhb h515 h513]<;>rfl)
   cases h
  cases h
  exact zp (by simp only[go_sem,seval,qlh,qh7,h500,zf h502,qb6 h504,qdh h506,W72 h508,h509]<;>rfl)
 cases h
 exact j8 (by simp only[go_sem,seval,qlh,qh7,h500,quw]<;>rfl)
theorem jmw (a0:TP)(a1:Int)(s0:TTI×TTI×Int×Bool)(s1:TTI×Int×Bool){s2:TTI×Int×Bool}{d}(h:itO (qjl a0 a1 s0 s1) s2=some d):X prT (.loop qlh) (qh7 a0 a1 s0 s1 s2)=some (quw a0 a1 s0 s1 d):=yo (jlg a0 a1 s0 s1) (fun d hh=>by cases hh) h
def qlp (a0:TP)(a1:Int)(s0:TTI×TTI×Int×Bool)(s1:TTI×Int×Bool):Option ((TTI×Int×Bool)⊕((TTI×Bool×Int))):=
 cond (decide (s1.2.1<((s0.2.1.getD []).length:Int)))
  (j5 (itO (qjl a0 a1 s0 s1) (s1.1,0,s1.2.2)) fun d516=>
  some (.inl (d516.1,za .i64 (s1.2.1+1),d516.2.1)))
  (some (.inr (s1.1,s1.2.2,s1.2.1)))
def qn3 (a0:TP)(a1:Int)(s0:TTI×TTI×Int×Bool)(s1:TTI×Int×Bool):qc:=⟨[(0,sl 8 zi a0,false),(1,Iv a1,false),(5,sl 1 (sl 1 zh) s0.1,true),(6,sl 1 (sl 1 zh) s0.2.1,s0.2.2.2),(7,Iv s0.2.2.1,false),(8,sl 1 (sl 1 zh) s1.1,s1.2.2),(9,Iv s1.2.1,false)],[]⟩
def quc (a0:TP)(a1:Int)(s0:TTI×TTI×Int×Bool)(d:(TTI×Bool×Int)):qi×qc:=(.exit 2,⟨[(0,sl 8 zi a0,false),(1,Iv a1,false),(5,sl 1 (sl 1 zh) s0.1,true),(6,sl 1 (sl 1 zh) s0.2.1,s0.2.2.2),(7,Iv s0.2.2.1,false),(8,sl 1 (sl 1 zh) d.1,d.2.1),(9,Iv d.2.2,false),(24,.bool false,false)],[]⟩)
theorem jku (a0:TP)(a1:Int)(s0:TTI×TTI×Int×Bool)(s1:TTI×Int×Bool)(r)(h:qlp a0 a1 s0 s1=some r):yh prT qrx (qn3 a0 a1 s0) (quc a0 a1 s0) s1 r:=by
 unfold qlp at h
 rcases j0 h with⟨h467,h⟩|⟨h467,h⟩
 ·obtain⟨d516,h517,h⟩:=jz h
  have wh517:=jmw a0 a1 s0 s1 h517
  dsimp only[qh7,quw]at wh517
  cases h
  exact zp (by simp only[go_sem,seval,qrx,qn3,h467,wh517]<;>rfl)
 cases h
 exact j8 (by simp only[go_sem,seval,qrx,qn3,h467,quc]<;>rfl)
theorem jma (a0:TP)(a1:Int)(s0:TTI×TTI×Int×Bool){s1:TTI×Int×Bool}{d}(h:itO (qlp a0 a1 s0) s1=some d):X prT (.loop qrx) (qn3 a0 a1 s0 s1)=some (quc a0 a1 s0 d):=yo (jku a0 a1 s0) (fun d hh=>by cases hh) h
def qg1 (a0:TP)(a1:Int)(s0:TTI×TTI×Int×Bool):Option ((TTI×TTI×Int×Bool)⊕((TTI×TTI×Bool×Int))):=
 cond (decide (s0.2.2.1≤a1))
  (j5 (itO (qlp a0 a1 s0) (none,0,false)) fun d518=>
  j5 (apO s0.1 (d518.1.getD [])) fun v520=>
  some (.inl (v520,d518.1,za .i64 (s0.2.2.1+1),false)))
  (some (.inr (s0.1,s0.2.1,s0.2.2.2,s0.2.2.1)))
def qu2 (a0:TP)(a1:Int)(s0:TTI×TTI×Int×Bool):qc:=⟨[(0,sl 8 zi a0,false),(1,Iv a1,false),(5,sl 1 (sl 1 zh) s0.1,true),(6,sl 1 (sl 1 zh) s0.2.1,s0.2.2.2),(7,Iv s0.2.2.1,false)],[]⟩
def qzm (a0:TP)(a1:Int)(d:(TTI×TTI×Bool×Int)):qi×qc:=(.exit 0,⟨[(0,sl 8 zi a0,false),(1,Iv a1,false),(5,sl 1 (sl 1 zh) d.1,true),(6,sl 1 (sl 1 zh) d.2.1,d.2.2.1),(7,Iv d.2.2.2,false),(18,.bool false,false)],[]⟩)
theorem jkl (a0:TP)(a1:Int)(s0:TTI×TTI×Int×Bool)(r)(h:qg1 a0 a1 s0=some r):yh prT qo7 (qu2 a0 a1) (qzm a0 a1) s0 r:=by
 unfold qg1 at h
 rcases j0 h with⟨h370,h⟩|⟨h370,h⟩
 ·obtain⟨d518,h519,h⟩:=jz h
  have wh519:=jma a0 a1 s0 h519
  dsimp only[qn3,quc,qc9]at wh519
  obtain⟨v520,h521,h⟩:=jz h
  cases h
  exact zp (by simp only[go_sem,seval,qo7,qu2,h370,wh519,qp9 h521]<;>rfl)
 cases h
 exact j8 (by simp only[go_sem,seval,qo7,qu2,h370,qzm]<;>rfl)
theorem jjp (a0:TP)(a1:Int){s0:TTI×TTI×Int×Bool}{d}(h:itO (qg1 a0 a1) s0=some d):X prT (.loop qo7) (qu2 a0 a1 s0)=some (qzm a0 a1 d):=yo (jkl a0 a1) (fun d hh=>by cases hh) h
def f120 (a0:TP)(a1:Int):Option TTI:=
 j5 (itO (qg1 a0 a1) (some [none],some [none],1,true)) fun d522=>
 some d522.1
theorem q14 {a0:TP}{a1:Int}{r}(h:f120 a0 a1=some r):j7 prT (X prT) 120 [sl 8 zi a0,Iv a1]=some (sl 1 (sl 1 zh) r,true):=by
 unfold f120 at h
 obtain⟨d522,h523,h⟩:=jz h
 have wh523:X prT (.loop qo7) ⟨[(0,sl 8 zi a0,false),(1,Iv a1,false),(5,.list false 1 [.list true 0 []],true),(6,.list false 1 [.list true 0 []],true),(7,Iv 1,false)],[]⟩=some (.exit 0,⟨[(0,sl 8 zi a0,false),(1,Iv a1,false),(5,sl 1 (sl 1 zh) d522.1,true),(6,sl 1 (sl 1 zh) d522.2.1,d522.2.2.1),(7,Iv d522.2.2.2,false),(18,.bool false,false)],[]⟩):=jjp a0 a1 h523
 obtain rfl:=oi h
 refine qcb c120 ?_
 simp only[go_sem,seval,c120,wh523]
 exact⟨_,rfl⟩
def qqq (a0:TP)(a1:TB)(v4:TTI)(s0:(Option (List qj))×Int×Bool):Option (((Option (List qj))×Int×Bool)⊕((Int×TE)⊕((Option (List qj))×Bool×Int))):=
 cond (decide (s0.2.1<((v4.getD []).length:Int)))
  (j5 (yd (v4.getD []) s0.2.1) fun v25=>
  j5 (f117 a0 v25 a1) fun v27=>
  cond v27.2
   (cond s0.2.2
    (j5 (apO s0.1 [⟨v25,v27.1.band,v27.1.ladder⟩]) fun v31=>
    some (.inl (v31,za .i64 (s0.2.1+1),true)))
    (cond s0.1.isNone
     (j5 (apO s0.1 [⟨v25,v27.1.band,v27.1.ladder⟩]) fun v34=>
     some (.inl (v34,za .i64 (s0.2.1+1),true)))
     (none)))
   (some (.inr (.inl (v27.1.band,v27.1.ladder)))))
  (some (.inr (.inr (s0.1,s0.2.2,s0.2.1))))
def qea (a0:TP)(a1:TB)(v4:TTI)(s0:(Option (List qj))×Int×Bool):qc:=⟨[(0,sl 8 zi a0,false),(1,sl 5 yg a1,false),(9,sl 3 kj s0.1,s0.2.2),(23,sl 1 (sl 1 zh) v4,true),(24,Lv v4,false),(25,Iv s0.2.1,false)],[]⟩
def qn5 (a0:TP)(a1:TB)(v4:TTI):(Int×TE)⊕((Option (List qj))×Bool×Int)→qi×qc
 | .inl d=>(.ret,⟨[(6,.list true 0 [],false),(7,Iv 30,false)],[.cells [(Iv d.1,false),(sl 3 vel d.2,false)]]⟩)
 | .inr d=>(.exit 0,⟨[(0,sl 8 zi a0,false),(1,sl 5 yg a1,false),(9,sl 3 kj d.1,d.2.1),(23,sl 1 (sl 1 zh) v4,true),(24,Lv v4,false),(25,Iv d.2.2,false),(26,.bool false,false)],[]⟩)
theorem jun (a0:TP)(a1:TB)(v4:TTI)(s0:(Option (List qj))×Int×Bool)(r)(h:qqq a0 a1 v4 s0=some r):yh prT qrd (qea a0 a1 v4) (qn5 a0 a1 v4) s0 r:=by
 unfold qqq at h
 rcases j0 h with⟨h24,h⟩|⟨h24,h⟩
 ·obtain⟨v25,h26,h⟩:=jz h
  obtain⟨v27,h28,h⟩:=jz h
  rcases j0 h with⟨h29,h⟩|⟨h29,h⟩
  ·rcases j0 h with⟨h30,h⟩|⟨h30,h⟩
   ·obtain⟨v31,h32,h⟩:=jz h
    cases h
    exact ko (by simp only[go_sem,seval,qrd,qea,h24,zf h26,jcx h28,h29,h30,qii h32];exact⟨_,rfl⟩) rfl (by first|simp only[go_sem,seval,qea]|rfl) (by first|simp only[go_sem,seval,qea]|rfl)
   rcases j0 h with⟨h33,h⟩|⟨h33,h⟩
   ·obtain⟨v34,h35,h⟩:=jz h
    cases h
    exact ko (by simp only[go_sem,seval,qrd,qea,h24,zf h26,jcx h28,h29,h30,h33,qih h35 h33];exact⟨_,rfl⟩) rfl (by first|simp only[go_sem,seval,qea]|rfl) (by first|simp only[go_sem,seval,qea]|rfl)
   cases h
  cases h
  exact j8 (by simp only[go_sem,seval,qrd,qea,h24,zf h26,jcx h28,h29,qn5]<;>rfl)
 cases h
 exact j8 (by simp only[go_sem,seval,qrd,qea,h24,qn5]<;>rfl)
theorem jfu (a0:TP)(a1:TB)(v4:TTI){s0:(Option (List qj))×Int×Bool}{d}(h:itO (qqq a0 a1 v4) s0=some d):X prT (.loop qrd) (qea a0 a1 v4 s0)=some (qn5 a0 a1 v4 d):=yo (jun a0 a1 v4) (fun d=>by rcases d with d|d<;>(intro hh;cases hh)) h
def f84 (a0:TP)(a1:TB)(a2:Int):Option ((Option (List qj))×Int):=
 j5 (f114 a0 a1 a2) fun v1=>
 cond (decide (v1=0))
  (j5 (f115 a0 a2) fun v4=>
  j5 (itO (qqq a0 a1 v4) (none,0,false)) fun d36=>match d36 with
   | .inl d38=>
    some (none,30)
   | .inr d39=>
    some (d39.1,0))
  (some (none,v1))
theorem W84 {a0:TP}{a1:TB}{a2:Int}{r}(h:f84 a0 a1 a2=some r):j7 prT (X prT) 84 [sl 8 zi a0,sl 5 yg a1,Iv a2]=some (.tup [sl 3 kj r.1,Iv r.2],false):=by
 unfold f84 at h
 obtain⟨v1,h2,h⟩:=jz h
 rcases j0 h with⟨h3,h⟩|⟨h3,h⟩
 ·obtain⟨v4,h5,h⟩:=jz h
  obtain⟨d36,h37,h⟩:=jz h
  rcases d36 with d38|d39
  ·have wh37:=jfu a0 a1 v4 h37
   dsimp only[qea,qn5,qc9]at wh37
   obtain rfl:=oi h
   refine zg c84 ?_
   simp only[go_sem,seval,c84,qwh h2,h3,q1w h5,wh37]
   exact⟨_,rfl⟩
  have wh37:=jfu a0 a1 v4 h37
  dsimp only[qea,qn5,qc9]at wh37
  obtain rfl:=oi h
  refine zg c84 ?_
  simp only[go_sem,seval,c84,qwh h2,h3,q1w h5,wh37]
  exact⟨_,rfl⟩
 obtain rfl:=oi h
 refine zg c84 ?_
 simp only[go_sem,seval,c84,qwh h2,h3]
 exact⟨_,rfl⟩
def qre (a0:TP)(a1:TB)(a3:Option (List qj))(v4:TTI)(s0:Int):Option (Int⊕((Int×TI×Int×TE)⊕Int)):=
 cond (decide (s0<((a3.getD []).length:Int)))
  (j5 (yd (a3.getD []) s0) fun v30=>
  j5 (yd (v4.getD []) s0) fun v32=>
  j5 (f144 v30.choice v32) fun v34=>
  cond v34
   (j5 (f141 (⟨v30.rband,v30.rladder⟩) a0 v30.choice a1) fun v37=>
   cond (decide (v37=0))
    (some (.inl (za .i64 (s0+1))))
    (some (.inr (.inl (v37,v30.choice,v30.rband,v30.rladder)))))
   (some (.inr (.inl (11,v30.choice,v30.rband,v30.rladder)))))
  (some (.inr (.inr s0)))
def qf1 (a0:TP)(a1:TB)(a3:Option (List qj))(v4:TTI)(s0:Int):qc:=⟨[(0,sl 8 zi a0,false),(1,sl 5 yg a1,false),(10,sl 1 (sl 1 zh) v4,true),(29,sl 3 kj a3,false),(30,Lv a3,false),(31,Iv s0,false)],[]⟩
def qlq (a0:TP)(a1:TB)(a3:Option (List qj))(v4:TTI):(Int×TI×Int×TE)⊕Int→qi×qc
 | .inl d=>(.ret,⟨[(8,Iv d.1,false)],[.cells [(sl 1 zh d.2.1,false),(Iv d.2.2.1,false),(sl 3 vel d.2.2.2,false)]]⟩)
 | .inr d=>(.exit 0,⟨[(0,sl 8 zi a0,false),(1,sl 5 yg a1,false),(10,sl 1 (sl 1 zh) v4,true),(29,sl 3 kj a3,false),(30,Lv a3,false),(31,Iv d,false),(32,.bool false,false)],[]⟩)
theorem jwa (a0:TP)(a1:TB)(a3:Option (List qj))(v4:TTI)(s0:Int)(r)(h:qre a0 a1 a3 v4 s0=some r):yh prT qqo (qf1 a0 a1 a3 v4) (qlq a0 a1 a3 v4) s0 r:=by
 unfold qre at h
 rcases j0 h with⟨h29,h⟩|⟨h29,h⟩
 ·obtain⟨v30,h31,h⟩:=jz h
  obtain⟨v32,h33,h⟩:=jz h
  obtain⟨v34,h35,h⟩:=jz h
  have wh35:=j1x h35
  rcases j0 h with⟨h36,h⟩|⟨h36,h⟩
  ·obtain⟨v37,h38,h⟩:=jz h
   have wh38:=jz7 h38
   rcases j0 h with⟨h39,h⟩|⟨h39,h⟩
   ·cases h
    exact ko (by simp only[go_sem,seval,qqo,qf1,h29,zf h31,zf h33,wh35,h36,wh38,h39];exact⟨_,rfl⟩) rfl (by first|simp only[go_sem,seval,qf1]|rfl) (by first|simp only[go_sem,seval,qf1]|rfl)
   cases h
   exact j8 (by simp only[go_sem,seval,qqo,qf1,h29,zf h31,zf h33,wh35,h36,wh38,h39,qlq]<;>rfl)
  cases h
  exact j8 (by simp only[go_sem,seval,qqo,qf1,h29,zf h31,zf h33,wh35,h36,qlq]<;>rfl)
 cases h
 exact j8 (by simp only[go_sem,seval,qqo,qf1,h29,qlq]<;>rfl)
theorem jfg (a0:TP)(a1:TB)(a3:Option (List qj))(v4:TTI){s0:Int}{d}(h:itO (qre a0 a1 a3 v4) s0=some d):X prT (.loop qqo) (qf1 a0 a1 a3 v4 s0)=some (qlq a0 a1 a3 v4 d):=yo (jwa a0 a1 a3 v4) (fun d=>by rcases d with d|d<;>(intro hh;cases hh)) h
def f85 (a0:TP)(a1:TB)(a2:Int)(a3:Option (List qj)):Option Int:=
 j5 (f114 a0 a1 a2) fun v1=>
 cond (decide (v1=0))
  (j5 (f115 a0 a2) fun v4=>
  cond (decide (((a3.getD []).length:Int)=((v4.getD []).length:Int)))
   (j5 (itO (qre a0 a1 a3 v4) 0) fun d40=>match d40 with
    | .inl d42=>
     some d42.1
    | .inr d43=>
     some 0)
   (some 2))
  (some v1)
theorem W85 {a0:TP}{a1:TB}{a2:Int}{a3:Option (List qj)}{r}(h:f85 a0 a1 a2 a3=some r):j7 prT (X prT) 85 [sl 8 zi a0,sl 5 yg a1,Iv a2,sl 3 kj a3]=some (Iv r,false):=by
 unfold f85 at h
 obtain⟨v1,h2,h⟩:=jz h
 rcases j0 h with⟨h3,h⟩|⟨h3,h⟩
 ·obtain⟨v4,h5,h⟩:=jz h
  rcases j0 h with⟨h6,h⟩|⟨h6,h⟩
  ·obtain⟨d40,h41,h⟩:=jz h
   rcases d40 with d42|d43
   ·have wh41:=jfg a0 a1 a3 v4 h41
    dsimp only[qf1,qlq]at wh41
    obtain rfl:=oi h
    refine zg c85 ?_
    simp only[go_sem,seval,c85,qwh h2,h3,q1w h5,h6,wh41]
    exact⟨_,rfl⟩
   have wh41:=jfg a0 a1 a3 v4 h41
   dsimp only[qf1,qlq]at wh41
   obtain rfl:=oi h
   refine zg c85 ?_
   simp only[go_sem,seval,c85,qwh h2,h3,q1w h5,h6,wh41]
   exact⟨_,rfl⟩
  obtain rfl:=oi h
  refine zg c85 ?_
  simp only[go_sem,seval,c85,qwh h2,h3,q1w h5,h6]
  exact⟨_,rfl⟩
 obtain rfl:=oi h
 refine zg c85 ?_
 simp only[go_sem,seval,c85,qwh h2,h3]
 exact⟨_,rfl⟩
def qrb (a0:TP)(a1:TB)(v1:TTI)(s0:(Option (List qj))×Int×Bool):Option (((Option (List qj))×Int×Bool)⊕((Int×TE)⊕((Option (List qj))×Bool×Int))):=
 cond (decide (s0.2.1<((v1.getD []).length:Int)))
  (j5 (yd (v1.getD []) s0.2.1) fun v22=>
  j5 (f79 a0 v22 a1) fun v24=>
  cond v24.2
   (cond s0.2.2
    (j5 (apO s0.1 [⟨v22,v24.1.band,v24.1.ladder⟩]) fun v28=>
    some (.inl (v28,za .i64 (s0.2.1+1),true)))
    (cond s0.1.isNone
     (j5 (apO s0.1 [⟨v22,v24.1.band,v24.1.ladder⟩]) fun v31=>
     some (.inl (v31,za .i64 (s0.2.1+1),true)))
     (none)))
   (some (.inr (.inl (v24.1.band,v24.1.ladder)))))
  (some (.inr (.inr (s0.1,s0.2.2,s0.2.1))))
def qef (a0:TP)(a1:TB)(v1:TTI)(s0:(Option (List qj))×Int×Bool):qc:=⟨[(0,sl 8 zi a0,false),(1,sl 5 yg a1,false),(8,sl 3 kj s0.1,s0.2.2),(9,sl 1 (sl 1 zh) v1,true),(10,Iv s0.2.1,false)],[]⟩
def qo5 (a0:TP)(a1:TB)(v1:TTI):(Int×TE)⊕((Option (List qj))×Bool×Int)→qi×qc
 | .inl d=>(.ret,⟨[(6,.list true 0 [],false),(7,.bool false,false)],[.cells [(Iv d.1,false),(sl 3 vel d.2,false)]]⟩)
 | .inr d=>(.exit 0,⟨[(0,sl 8 zi a0,false),(1,sl 5 yg a1,false),(8,sl 3 kj d.1,d.2.1),(9,sl 1 (sl 1 zh) v1,true),(10,Iv d.2.2,false),(19,.bool false,false)],[]⟩)
theorem jr7 (a0:TP)(a1:TB)(v1:TTI)(s0:(Option (List qj))×Int×Bool)(r)(h:qrb a0 a1 v1 s0=some r):yh prT qq2 (qef a0 a1 v1) (qo5 a0 a1 v1) s0 r:=by
 unfold qrb at h
 rcases j0 h with⟨h21,h⟩|⟨h21,h⟩
 ·obtain⟨v22,h23,h⟩:=jz h
  obtain⟨v24,h25,h⟩:=jz h
  rcases j0 h with⟨h26,h⟩|⟨h26,h⟩
  ·rcases j0 h with⟨h27,h⟩|⟨h27,h⟩
   ·obtain⟨v28,h29,h⟩:=jz h
    cases h
    exact ko (by simp only[go_sem,seval,qq2,qef,h21,zf h23,V79 h25,h26,h27,qii h29];exact⟨_,rfl⟩) rfl (by first|simp only[go_sem,seval,qef]|rfl) (by first|simp only[go_sem,seval,qef]|rfl)
   rcases j0 h with⟨h30,h⟩|⟨h30,h⟩
   ·obtain⟨v31,h32,h⟩:=jz h
    cases h
    exact ko (by simp only[go_sem,seval,qq2,qef,h21,zf h23,V79 h25,h26,h27,h30,qih h32 h30];exact⟨_,rfl⟩) rfl (by first|simp only[go_sem,seval,qef]|rfl) (by first|simp only[go_sem,seval,qef]|rfl)
   cases h
  cases h
  exact j8 (by simp only[go_sem,seval,qq2,qef,h21,zf h23,V79 h25,h26,qo5]<;>rfl)
 cases h
 exact j8 (by simp only[go_sem,seval,qq2,qef,h21,qo5]<;>rfl)
theorem jgd (a0:TP)(a1:TB)(v1:TTI){s0:(Option (List qj))×Int×Bool}{d}(h:itO (qrb a0 a1 v1) s0=some d):X prT (.loop qq2) (qef a0 a1 v1 s0)=some (qo5 a0 a1 v1 d):=yo (jr7 a0 a1 v1) (fun d=>by rcases d with d|d<;>(intro hh;cases hh)) h
def f87 (a0:TP)(a1:TB)(a2:Int):Option ((Option (List qj))×Bool):=
 j5 (f120 a0 a2) fun v1=>
 j5 (itO (qrb a0 a1 v1) (none,0,false)) fun d33=>match d33 with
  | .inl d35=>
   some (none,false)
  | .inr d36=>
   some (d36.1,true)
theorem W87 {a0:TP}{a1:TB}{a2:Int}{r}(h:f87 a0 a1 a2=some r):j7 prT (X prT) 87 [sl 8 zi a0,sl 5 yg a1,Iv a2]=some (.tup [sl 3 kj r.1,.bool r.2],false):=by
 unfold f87 at h
 obtain⟨v1,h2,h⟩:=jz h
 obtain⟨d33,h34,h⟩:=jz h
 rcases d33 with d35|d36
 ·have wh34:=jgd a0 a1 v1 h34
  dsimp only[qef,qo5,qc9]at wh34
  obtain rfl:=oi h
  refine zg c87 ?_
  simp only[go_sem,seval,c87,q14 h2,wh34]
  exact⟨_,rfl⟩
 have wh34:=jgd a0 a1 v1 h34
 dsimp only[qef,qo5,qc9]at wh34
 obtain rfl:=oi h
 refine zg c87 ?_
 simp only[go_sem,seval,c87,q14 h2,wh34]
 exact⟨_,rfl⟩
def qpx (a0:TP)(a1:TB)(a3:Option (List qj))(v1:TTI)(s0:Int):Option (Int⊕(Int⊕Int)):=
 cond (decide (s0<((a3.getD []).length:Int)))
  (j5 (yd (a3.getD []) s0) fun v27=>
  j5 (yd (v1.getD []) s0) fun v29=>
  j5 (f42 v27.choice v29) fun v31=>
  cond v31
   (j5 (f80 a0 v29 a1 (⟨v27.rband,v27.rladder⟩)) fun v34=>
   cond (decide (v34=0))
    (some (.inl (za .i64 (s0+1))))
    (some (.inr (.inl v34))))
   (some (.inr (.inl 11))))
  (some (.inr (.inr s0)))
def qi0 (a0:TP)(a1:TB)(a3:Option (List qj))(v1:TTI)(s0:Int):qc:=⟨[(0,sl 8 zi a0,false),(1,sl 5 yg a1,false),(3,sl 3 kj a3,false),(9,sl 1 (sl 1 zh) v1,true),(10,Iv s0,false)],[]⟩
def qlu (a0:TP)(a1:TB)(a3:Option (List qj))(v1:TTI):Int⊕Int→qi×qc
 | .inl d=>(.ret,⟨[(8,Iv d,false)],[]⟩)
 | .inr d=>(.exit 0,⟨[(0,sl 8 zi a0,false),(1,sl 5 yg a1,false),(3,sl 3 kj a3,false),(9,sl 1 (sl 1 zh) v1,true),(10,Iv d,false),(23,.bool false,false)],[]⟩)
theorem jul (a0:TP)(a1:TB)(a3:Option (List qj))(v1:TTI)(s0:Int)(r)(h:qpx a0 a1 a3 v1 s0=some r):yh prT qq4 (qi0 a0 a1 a3 v1) (qlu a0 a1 a3 v1) s0 r:=by
 unfold qpx at h
 rcases j0 h with⟨h26,h⟩|⟨h26,h⟩
 ·obtain⟨v27,h28,h⟩:=jz h
  obtain⟨v29,h30,h⟩:=jz h
  obtain⟨v31,h32,h⟩:=jz h
  have wh32:=V42 h32
  rcases j0 h with⟨h33,h⟩|⟨h33,h⟩
  ·obtain⟨v34,h35,h⟩:=jz h
   have wh35:=V80 h35
   rcases j0 h with⟨h36,h⟩|⟨h36,h⟩
   ·cases h
    exact zp (by simp only[go_sem,seval,qq4,qi0,h26,zf h28,zf h30,wh32,h33,wh35,h36]<;>rfl)
   cases h
   exact j8 (by simp only[go_sem,seval,qq4,qi0,h26,zf h28,zf h30,wh32,h33,wh35,h36,qlu]<;>rfl)
  cases h
  exact j8 (by simp only[go_sem,seval,qq4,qi0,h26,zf h28,zf h30,wh32,h33,qlu]<;>rfl)
 cases h
 exact j8 (by simp only[go_sem,seval,qq4,qi0,h26,qlu]<;>rfl)
theorem jgb (a0:TP)(a1:TB)(a3:Option (List qj))(v1:TTI){s0:Int}{d}(h:itO (qpx a0 a1 a3 v1) s0=some d):X prT (.loop qq4) (qi0 a0 a1 a3 v1 s0)=some (qlu a0 a1 a3 v1 d):=yo (jul a0 a1 a3 v1) (fun d=>by rcases d with d|d<;>(intro hh;cases hh)) h
def f88 (a0:TP)(a1:TB)(a2:Int)(a3:Option (List qj)):Option Int:=
 j5 (f120 a0 a2) fun v1=>
 cond (decide (((a3.getD []).length:Int)=((v1.getD []).length:Int)))
  (j5 (itO (qpx a0 a1 a3 v1) 0) fun d37=>match d37 with
   | .inl d39=>
    some d39
   | .inr d40=>
    some 0)
  (some 2)
theorem W88 {a0:TP}{a1:TB}{a2:Int}{a3:Option (List qj)}{r}(h:f88 a0 a1 a2 a3=some r):j7 prT (X prT) 88 [sl 8 zi a0,sl 5 yg a1,Iv a2,sl 3 kj a3]=some (Iv r,false):=by
 unfold f88 at h
 obtain⟨v1,h2,h⟩:=jz h
 rcases j0 h with⟨h3,h⟩|⟨h3,h⟩
 ·obtain⟨d37,h38,h⟩:=jz h
  rcases d37 with d39|d40
  ·have wh38:=jgb a0 a1 a3 v1 h38
   dsimp only[qi0,qlu]at wh38
   obtain rfl:=oi h
   refine zg c88 ?_
   simp only[go_sem,seval,c88,q14 h2,h3,wh38]
   exact⟨_,rfl⟩
  have wh38:=jgb a0 a1 a3 v1 h38
  dsimp only[qi0,qlu]at wh38
  obtain rfl:=oi h
  refine zg c88 ?_
  simp only[go_sem,seval,c88,q14 h2,h3,wh38]
  exact⟨_,rfl⟩
 obtain rfl:=oi h
 refine zg c88 ?_
 simp only[go_sem,seval,c88,q14 h2,h3]
 exact⟨_,rfl⟩
end Go.Z
end
