/- Chapter 4. -/
import Derived.Test.YtnjngdcbkkonnaaGreatDoorA13
import Derived.Test.YtnjngdcbkkonnaaGreatDoorA16
import Derived.Test.YtnjngdcbkkonnaaGreatDoorTK
import Derived.Test.YtnjngdcbkkonnaaGreatDoorA8
set_option linter.unusedVariables false
set_option linter.unusedSimpArgs false
set_option maxRecDepth 100000
set_option maxHeartbeats 4000000
noncomputable section
namespace Go.Z
open Go Go.Abs
def f114 (a0:TP)(a1:TB)(a2:Int):Option Int:=
 j5 (f23 a0) fun v1=>
 j5 (f81 a1) fun v3=>
 j5 (f109 a2 0 3) fun v5=>
 j5 (f105 (some [v1,v3,v5])) fun v7=>
 some v7
theorem j33 {a0:TP}{a1:TB}{a2:Int}{r}(h:f114 a0 a1 a2=some r):zb pr (X pr) 114 [sl 8 zd a0,sl 5 yf a1,Iv a2]=some (Iv r,false):=by
 unfold f114 at h
 obtain⟨v1,h2,h⟩:=j0 h
 obtain⟨v3,h4,h⟩:=j0 h
 obtain⟨v5,h6,h⟩:=j0 h
 obtain⟨v7,h8,h⟩:=j0 h
 have wh8:zb pr (X pr) 105 [.list false 1 [Iv v1,Iv v3,Iv v5]]=some (Iv v7,false):=qtf h8
 obtain rfl:=oi h
 refine zk c114 ?_
 simp only[go_sem,seval,c114,W23 h2,W81 h4,qsr h6,wh8]
 exact⟨_,rfl⟩
theorem q22 {a0:TP}{a1:TI}{r}(h:f116 a0 a1=some r):zb prT (X prT) 116 [sl 8 zd a0,sl 1 zg a1]=some (Iv r,false):=atT rfl rfl (j1h h) (by first|rfl|simp only[go_sem,seval])
theorem q79 {a0:TP}{a1:TI}{a2:TB}{r}(h:f117 a0 a1 a2=some r):zb prT (X prT) 117 [sl 8 zd a0,sl 1 zg a1,sl 5 yf a2]=some (.tup [.agg [Iv r.1.band,sl 3 vel r.1.ladder],.bool r.2],false):=atT rfl rfl (j23 h) (by first|rfl|simp only[go_sem,seval])
theorem qz9 {a0:TI}{r}(h:f161 a0=some r):zb prT (X prT) 161 [sl 1 zg a0]=some (sl 1 zg r.1,r.2):=atT rfl rfl (j4i h) (by first|rfl|simp only[go_sem,seval])
theorem jff {a0:TP}{a1:TB}{a2:Int}{r}(h:f114 a0 a1 a2=some r):zb prT (X prT) 114 [sl 8 zd a0,sl 5 yf a1,Iv a2]=some (Iv r,false):=atT rfl rfl (j33 h) (by first|rfl|simp only[go_sem,seval])
theorem j1k {a0:TTI}{r}(h:f162 a0=some r):zb prT (X prT) 162 [sl 1 (sl 1 zg) a0,.fn (.func 163) [] []]=some (.tup [],false):=atT rfl rfl (j2m h) rfl
def qi8 (a0:TP)(a1:Int)(s0:TTI×TTI×Int)(s1:TTI×Int×Bool)(v830:TI)(s2:TTI×Int×Bool):Option ((TTI×Int×Bool)⊕((TTI×Bool×Int))):=
 cond (decide (s2.2.1<((a0.getD []).length:Int)))
  (j5 (f161 v830) fun v887=>
  cond v887.2
   (j5 (apO v887.1 [s2.2.1]) fun v890=>
   j5 (f138 a0 v890) fun v892=>
   cond v892.2
    (cond s2.2.2
     (j5 (apO s2.1 [v890]) fun v896=>
     some (.inl (v896,j9 .i64 (s2.2.1+1),true)))
     (cond s2.1.isNone
      (j5 (apO s2.1 [v890]) fun v899=>
      some (.inl (v899,j9 .i64 (s2.2.1+1),true)))
      (none)))
    (some (.inl (s2.1,j9 .i64 (s2.2.1+1),s2.2.2))))
   (cond v887.1.isNone
    (j5 (apO v887.1 [s2.2.1]) fun v902=>
    j5 (f138 a0 v902) fun v904=>
    cond v904.2
     (cond s2.2.2
      (j5 (apO s2.1 [v902]) fun v908=>
      some (.inl (v908,j9 .i64 (s2.2.1+1),true)))
      (cond s2.1.isNone
       (j5 (apO s2.1 [v902]) fun v911=>
       some (.inl (v911,j9 .i64 (s2.2.1+1),true)))
       (none)))
     (some (.inl (s2.1,j9 .i64 (s2.2.1+1),s2.2.2))))
    (none)))
  (some (.inr (s2.1,s2.2.2,s2.2.1)))
def qev (a0:TP)(a1:Int)(s0:TTI×TTI×Int)(s1:TTI×Int×Bool)(v830:TI)(s2:TTI×Int×Bool):qd:=⟨[(0,sl 8 zd a0,false),(5,sl 1 (sl 1 zg) s0.1,true),(7,sl 1 (sl 1 zg) s2.1,s2.2.2),(9,sl 1 zg v830,false),(16,Iv a1,false),(17,Iv s0.2.2,false),(19,sl 1 (sl 1 zg) s0.2.1,false),(20,Lv s0.2.1,false),(21,Iv s1.2.1,false),(26,Lv a0,false),(27,Iv s2.2.1,false)],[]⟩
def qt7 (a0:TP)(a1:Int)(s0:TTI×TTI×Int)(s1:TTI×Int×Bool)(v830:TI)(d:(TTI×Bool×Int)):qj×qd:=(.exit 4,⟨[(0,sl 8 zd a0,false),(5,sl 1 (sl 1 zg) s0.1,true),(7,sl 1 (sl 1 zg) d.1,d.2.1),(9,sl 1 zg v830,false),(16,Iv a1,false),(17,Iv s0.2.2,false),(19,sl 1 (sl 1 zg) s0.2.1,false),(20,Lv s0.2.1,false),(21,Iv s1.2.1,false),(26,Lv a0,false),(27,Iv d.2.2,false),(28,.bool false,false)],[]⟩)
theorem jmr (a0:TP)(a1:Int)(s0:TTI×TTI×Int)(s1:TTI×Int×Bool)(v830:TI)(s2:TTI×Int×Bool)(r)(h:qi8 a0 a1 s0 s1 v830 s2=some r):yt prT qf6 (qev a0 a1 s0 s1 v830) (qt7 a0 a1 s0 s1 v830) s2 r:=by
 unfold qi8 at h
 rcases j4 h with⟨h886,h⟩|⟨h886,h⟩
 ·obtain⟨v887,h888,h⟩:=j0 h
  rcases j4 h with⟨h889,h⟩|⟨h889,h⟩
  ·obtain⟨v890,h891,h⟩:=j0 h
   obtain⟨v892,h893,h⟩:=j0 h
   rcases j4 h with⟨h894,h⟩|⟨h894,h⟩
   ·rcases j4 h with⟨h895,h⟩|⟨h895,h⟩
    ·obtain⟨v896,h897,h⟩:=j0 h
     cases h
     exact zq (by simp only[go_sem,seval,qf6,qev,h886,qz9 h888,h889,qfz h891,qzx h893,h894,h895,qm7 h897]<;>rfl)
    rcases j4 h with⟨h898,h⟩|⟨h898,h⟩
    ·obtain⟨v899,h900,h⟩:=j0 h
     cases h
     exact zq (by simp only[go_sem,seval,qf6,qev,h886,qz9 h888,h889,qfz h891,qzx h893,h894,h895,h898,qmv h900 h898]<;>rfl)
    cases h
   cases h
   exact zq (by simp only[go_sem,seval,qf6,qev,h886,qz9 h888,h889,qfz h891,qzx h893,h894]<;>rfl)
  rcases j4 h with⟨h901,h⟩|⟨h901,h⟩
  ·obtain⟨v902,h903,h⟩:=j0 h
   obtain⟨v904,h905,h⟩:=j0 h
   rcases j4 h with⟨h906,h⟩|⟨h906,h⟩
   ·rcases j4 h with⟨h907,h⟩|⟨h907,h⟩
    ·obtain⟨v908,h909,h⟩:=j0 h
     cases h
     exact zq (by simp only[go_sem,seval,qf6,qev,h886,qz9 h888,h889,h901,qfy h903 h901,qzx h905,h906,h907,qm7 h909]<;>rfl)
    rcases j4 h with⟨h910,h⟩|⟨h910,h⟩
    ·obtain⟨v911,h912,h⟩:=j0 h
     cases h
     exact zq (by simp only[go_sem,seval,qf6,qev,h886,qz9 h888,h889,h901,qfy h903 h901,qzx h905,h906,h907,h910,qmv h912 h910]<;>rfl)
    cases h
   cases h
   exact zq (by simp only[go_sem,seval,qf6,qev,h886,qz9 h888,h889,h901,qfy h903 h901,qzx h905,h906]<;>rfl)
  cases h
 cases h
 exact zc (by simp only[go_sem,seval,qf6,qev,h886,qt7]<;>rfl)
theorem jnb (a0:TP)(a1:Int)(s0:TTI×TTI×Int)(s1:TTI×Int×Bool)(v830:TI){s2:TTI×Int×Bool}{d}(h:itO (qi8 a0 a1 s0 s1 v830) s2=some d):X prT (.loop qf6) (qev a0 a1 s0 s1 v830 s2)=some (qt7 a0 a1 s0 s1 v830 d):=kg (jmr a0 a1 s0 s1 v830) (fun d hh=>by cases hh) h
def qmc (a0:TP)(a1:Int)(s0:TTI×TTI×Int)(s1:TTI×Int×Bool):Option ((TTI×Int×Bool)⊕((TTI×Bool×Int))):=
 cond (decide (s1.2.1<((s0.2.1.getD []).length:Int)))
  (j5 (yo (s0.2.1.getD []) s1.2.1) fun v830=>
  j5 (itO (qi8 a0 a1 s0 s1 v830) (s1.1,0,s1.2.2)) fun d913=>
  some (.inl (d913.1,j9 .i64 (s1.2.1+1),d913.2.1)))
  (some (.inr (s1.1,s1.2.2,s1.2.1)))
def qpo (a0:TP)(a1:Int)(s0:TTI×TTI×Int)(s1:TTI×Int×Bool):qd:=⟨[(0,sl 8 zd a0,false),(5,sl 1 (sl 1 zg) s0.1,true),(7,sl 1 (sl 1 zg) s1.1,s1.2.2),(16,Iv a1,false),(17,Iv s0.2.2,false),(19,sl 1 (sl 1 zg) s0.2.1,false),(20,Lv s0.2.1,false),(21,Iv s1.2.1,false)],[]⟩
def qtl (a0:TP)(a1:Int)(s0:TTI×TTI×Int)(d:(TTI×Bool×Int)):qj×qd:=(.exit 2,⟨[(0,sl 8 zd a0,false),(5,sl 1 (sl 1 zg) s0.1,true),(7,sl 1 (sl 1 zg) d.1,d.2.1),(16,Iv a1,false),(17,Iv s0.2.2,false),(19,sl 1 (sl 1 zg) s0.2.1,false),(20,Lv s0.2.1,false),(21,Iv d.2.2,false),(22,.bool false,false)],[]⟩)
theorem jma (a0:TP)(a1:Int)(s0:TTI×TTI×Int)(s1:TTI×Int×Bool)(r)(h:qmc a0 a1 s0 s1=some r):yt prT qsq (qpo a0 a1 s0) (qtl a0 a1 s0) s1 r:=by
 unfold qmc at h
 rcases j4 h with⟨h829,h⟩|⟨h829,h⟩
 ·obtain⟨v830,h831,h⟩:=j0 h
  obtain⟨d913,h914,h⟩:=j0 h
  have wh914:=jnb a0 a1 s0 s1 v830 h914
  dsimp only[qev,qt7]at wh914
  cases h
  exact zq (by simp only[go_sem,seval,qsq,qpo,h829,zm h831,wh914]<;>rfl)
 cases h
 exact zc (by simp only[go_sem,seval,qsq,qpo,h829,qtl]<;>rfl)
theorem jo4 (a0:TP)(a1:Int)(s0:TTI×TTI×Int){s1:TTI×Int×Bool}{d}(h:itO (qmc a0 a1 s0) s1=some d):X prT (.loop qsq) (qpo a0 a1 s0 s1)=some (qtl a0 a1 s0 d):=kg (jma a0 a1 s0) (fun d hh=>by cases hh) h
def qg4 (a0:TP)(a1:Int)(s0:TTI×TTI×Int):Option ((TTI×TTI×Int)⊕((TTI×TTI×Int))):=
 cond (decide (s0.2.2<a1))
  (j5 (itO (qmc a0 a1 s0) (none,0,false)) fun d915=>
  j5 (apO s0.1 (d915.1.getD [])) fun v917=>
  some (.inl (v917,d915.1,j9 .i64 (s0.2.2+1))))
  (some (.inr (s0.1,s0.2.1,s0.2.2)))
def quh (a0:TP)(a1:Int)(s0:TTI×TTI×Int):qd:=⟨[(0,sl 8 zd a0,false),(5,sl 1 (sl 1 zg) s0.1,true),(6,sl 1 (sl 1 zg) s0.2.1,false),(16,Iv a1,false),(17,Iv s0.2.2,false)],[]⟩
def qy6 (a0:TP)(a1:Int)(d:(TTI×TTI×Int)):qj×qd:=(.exit 0,⟨[(0,sl 8 zd a0,false),(5,sl 1 (sl 1 zg) d.1,true),(6,sl 1 (sl 1 zg) d.2.1,false),(16,Iv a1,false),(17,Iv d.2.2,false),(18,.bool false,false)],[]⟩)
theorem jmp (a0:TP)(a1:Int)(s0:TTI×TTI×Int)(r)(h:qg4 a0 a1 s0=some r):yt prT qo8 (quh a0 a1) (qy6 a0 a1) s0 r:=by
 unfold qg4 at h
 rcases j4 h with⟨h668,h⟩|⟨h668,h⟩
 ·obtain⟨d915,h916,h⟩:=j0 h
  have wh916:=jo4 a0 a1 s0 h916
  dsimp only[qpo,qtl,ql7]at wh916
  obtain⟨v917,h918,h⟩:=j0 h
  cases h
  exact zq (by simp only[go_sem,seval,qo8,quh,h668,wh916,qvz h918]<;>rfl)
 cases h
 exact zc (by simp only[go_sem,seval,qo8,quh,h668,qy6]<;>rfl)
theorem jl4 (a0:TP)(a1:Int){s0:TTI×TTI×Int}{d}(h:itO (qg4 a0 a1) s0=some d):X prT (.loop qo8) (quh a0 a1 s0)=some (qy6 a0 a1 d):=kg (jmp a0 a1) (fun d hh=>by cases hh) h
def f115 (a0:TP)(a1:Int):Option TTI:=
 j5 (itO (qg4 a0 a1) (some [none],some [none],0)) fun d919=>
 j5 (f162 d919.1) fun v921=>
 some d919.1
theorem jlz {a0:TP}{a1:Int}{r}(h:f115 a0 a1=some r):zb prT (X prT) 115 [sl 8 zd a0,Iv a1]=some (sl 1 (sl 1 zg) r,true):=by
 unfold f115 at h
 obtain⟨d919,h920,h⟩:=j0 h
 have wh920:X prT (.loop qo8) ⟨[(0,sl 8 zd a0,false),(5,.list false 1 [.list true 0 []],true),(6,.list false 1 [.list true 0 []],false),(16,Iv a1,false),(17,Iv 0,false)],[]⟩=some (.exit 0,⟨[(0,sl 8 zd a0,false),(5,sl 1 (sl 1 zg) d919.1,true),(6,sl 1 (sl 1 zg) d919.2.1,false),(16,Iv a1,false),(17,Iv d919.2.2,false),(18,.bool false,false)],[]⟩):=jl4 a0 a1 h920
 obtain⟨v921,h922,h⟩:=j0 h
 have wh922:zb prT (X prT) 162 [sl 1 (sl 1 zg) d919.1,.fn (.func 163) [] []]=some (.tup [],false):=j1k h922
 obtain rfl:=oi h
 refine qdm c115 ?_
 simp only[go_sem,seval,c115,wh920,wh922]
 exact⟨_,rfl⟩
def qp1 (a0:TP)(a1:TB)(v4:TTI)(s0:TI×Int×Bool×Int):Option ((TI×Int×Bool×Int)⊕((TI×Int×Bool×Int))):=
 cond (decide (s0.2.2.2<((v4.getD []).length:Int)))
  (j5 (yo (v4.getD []) s0.2.2.2) fun v28=>
  j5 (f116 a0 v28) fun v30=>
  cond s0.2.2.1
   (cond (decide (s0.2.1≤v30))
    (some (.inl (s0.1,s0.2.1,true,j9 .i64 (s0.2.2.2+1))))
    (j5 (f117 a0 v28 a1) fun v34=>
    cond v34.2
     (some (.inl (s0.1,s0.2.1,true,j9 .i64 (s0.2.2.2+1))))
     (some (.inl (v28,v30,true,j9 .i64 (s0.2.2.2+1))))))
   (j5 (f117 a0 v28 a1) fun v37=>
   cond v37.2
    (some (.inl (s0.1,s0.2.1,false,j9 .i64 (s0.2.2.2+1))))
    (some (.inl (v28,v30,true,j9 .i64 (s0.2.2.2+1))))))
  (some (.inr (s0.1,s0.2.1,s0.2.2.1,s0.2.2.2)))
def qcy (a0:TP)(a1:TB)(v4:TTI)(s0:TI×Int×Bool×Int):qd:=⟨[(0,sl 8 zd a0,false),(1,sl 5 yf a1,false),(10,sl 1 zg s0.1,false),(11,Iv s0.2.1,false),(12,.bool s0.2.2.1,false),(27,sl 1 (sl 1 zg) v4,true),(28,Lv v4,false),(29,Iv s0.2.2.2,false)],[]⟩
def qyj (a0:TP)(a1:TB)(v4:TTI)(d:(TI×Int×Bool×Int)):qj×qd:=(.exit 0,⟨[(0,sl 8 zd a0,false),(1,sl 5 yf a1,false),(10,sl 1 zg d.1,false),(11,Iv d.2.1,false),(12,.bool d.2.2.1,false),(27,sl 1 (sl 1 zg) v4,true),(28,Lv v4,false),(29,Iv d.2.2.2,false),(30,.bool false,false)],[]⟩)
theorem jwk (a0:TP)(a1:TB)(v4:TTI)(s0:TI×Int×Bool×Int)(r)(h:qp1 a0 a1 v4 s0=some r):yt prT qkc (qcy a0 a1 v4) (qyj a0 a1 v4) s0 r:=by
 unfold qp1 at h
 rcases j4 h with⟨h27,h⟩|⟨h27,h⟩
 ·obtain⟨v28,h29,h⟩:=j0 h
  obtain⟨v30,h31,h⟩:=j0 h
  rcases j4 h with⟨h32,h⟩|⟨h32,h⟩
  ·rcases j4 h with⟨h33,h⟩|⟨h33,h⟩
   ·cases h
    exact zq (by simp only[go_sem,seval,qkc,qcy,h27,zm h29,q22 h31,h32,h33]<;>rfl)
   obtain⟨v34,h35,h⟩:=j0 h
   rcases j4 h with⟨h36,h⟩|⟨h36,h⟩
   ·cases h
    exact qag (by simp only[go_sem,seval,qkc,qcy,h27,zm h29,q22 h31,h32,h33,q79 h35,h36];exact⟨_,rfl⟩) rfl (by first|simp only[go_sem,seval,qcy]|rfl) (by first|simp only[go_sem,seval,qcy]|rfl)
   cases h
   exact qag (by simp only[go_sem,seval,qkc,qcy,h27,zm h29,q22 h31,h32,h33,q79 h35,h36];exact⟨_,rfl⟩) rfl (by first|simp only[go_sem,seval,qcy]|rfl) (by first|simp only[go_sem,seval,qcy]|rfl)
  obtain⟨v37,h38,h⟩:=j0 h
  rcases j4 h with⟨h39,h⟩|⟨h39,h⟩
  ·cases h
   exact qag (by simp only[go_sem,seval,qkc,qcy,h27,zm h29,q22 h31,h32,q79 h38,h39];exact⟨_,rfl⟩) rfl (by first|simp only[go_sem,seval,qcy]|rfl) (by first|simp only[go_sem,seval,qcy]|rfl)
  cases h
  exact qag (by simp only[go_sem,seval,qkc,qcy,h27,zm h29,q22 h31,h32,q79 h38,h39];exact⟨_,rfl⟩) rfl (by first|simp only[go_sem,seval,qcy]|rfl) (by first|simp only[go_sem,seval,qcy]|rfl)
 cases h
 exact zc (by simp only[go_sem,seval,qkc,qcy,h27,qyj]<;>rfl)
theorem jsk (a0:TP)(a1:TB)(v4:TTI){s0:TI×Int×Bool×Int}{d}(h:itO (qp1 a0 a1 v4) s0=some d):X prT (.loop qkc) (qcy a0 a1 v4 s0)=some (qyj a0 a1 v4 d):=kg (jwk a0 a1 v4) (fun d hh=>by cases hh) h
def f37 (a0:TP)(a1:TB)(a2:Int):Option (TI×Int×Int):=
 j5 (f114 a0 a1 a2) fun v1=>
 cond (decide (v1=0))
  (j5 (f115 a0 a2) fun v4=>
  j5 (itO (qp1 a0 a1 v4) (none,0,false,0)) fun d40=>
  cond d40.2.2.1
   (some (d40.1,d40.2.1,0))
   (some (none,0,24)))
  (some (none,0,v1))
theorem W37 {a0:TP}{a1:TB}{a2:Int}{r}(h:f37 a0 a1 a2=some r):zb prT (X prT) 37 [sl 8 zd a0,sl 5 yf a1,Iv a2]=some (.tup [sl 1 zg r.1,Iv r.2.1,Iv r.2.2],false):=by
 unfold f37 at h
 obtain⟨v1,h2,h⟩:=j0 h
 rcases j4 h with⟨h3,h⟩|⟨h3,h⟩
 ·obtain⟨v4,h5,h⟩:=j0 h
  obtain⟨d40,h41,h⟩:=j0 h
  have wh41:=jsk a0 a1 v4 h41
  dsimp only[qcy,qyj,ql7]at wh41
  rcases j4 h with⟨h42,h⟩|⟨h42,h⟩
  ·obtain rfl:=oi h
   refine zk c37 ?_
   simp only[go_sem,seval,c37,jff h2,h3,jlz h5,wh41,h42]
   exact⟨_,rfl⟩
  obtain rfl:=oi h
  refine zk c37 ?_
  simp only[go_sem,seval,c37,jff h2,h3,jlz h5,wh41,h42]
  exact⟨_,rfl⟩
 obtain rfl:=oi h
 refine zk c37 ?_
 simp only[go_sem,seval,c37,jff h2,h3]
 exact⟨_,rfl⟩
end Go.Z
end
