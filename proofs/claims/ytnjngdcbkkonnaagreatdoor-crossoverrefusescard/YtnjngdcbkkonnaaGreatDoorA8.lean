/- Chapter 4. -/
import Derived.Test.YtnjngdcbkkonnaaGreatDoorA5
set_option linter.unusedVariables false
set_option linter.unusedSimpArgs false
set_option maxRecDepth 100000
set_option maxHeartbeats 4000000
noncomputable section
namespace Go.Z
open Go Go.Abs
def f30 (a0:TI):Option TI:=
 j5 (apO (some []) (a0.getD [])) fun v1=>
 some v1
theorem W30 {a0:TI}{r}(h:f30 a0=some r):j7 pr (X pr) 30 [sl 1 zh a0]=some (sl 1 zh r,true):=by
 unfold f30 at h
 obtain⟨v1,h2,h⟩:=jz h
 obtain rfl:=oi h
 refine qcb c30 ?_
 simp only[go_sem,seval,c30,qb6 h2]
 exact⟨_,rfl⟩
def f36 (a0:TP)(a1:TB)(a2:Int):Option Bool:=
 j5 (f17 a0) fun v1=>
 cond v1
  (cond (decide (((a1.getD []).length:Int)≤4))
   (cond (decide (a2≤2))
    (some true)
    (cond (decide (3<a2))
     (some true)
     (some (decide (((a0.getD []).length:Int)≤2)))))
   (cond (decide (((a1.getD []).length:Int)=9))
    (cond (decide (a2≤2))
     (some true)
     (cond (decide (3<a2))
      (some true)
      (some (decide (((a0.getD []).length:Int)≤2)))))
    (some false)))
  (some false)
theorem W36 {a0:TP}{a1:TB}{a2:Int}{r}(h:f36 a0 a1 a2=some r):j7 pr (X pr) 36 [sl 8 zi a0,sl 5 yg a1,Iv a2]=some (.bool r,false):=by
 unfold f36 at h
 obtain⟨v1,h2,h⟩:=jz h
 rcases j0 h with⟨h3,h⟩|⟨h3,h⟩
 ·rcases j0 h with⟨h4,h⟩|⟨h4,h⟩
  ·rcases j0 h with⟨h5,h⟩|⟨h5,h⟩
   ·obtain rfl:=oi h
    refine zg c36 ?_
    simp only[go_sem,seval,c36,W17 h2,h3,h4,h5]
    exact⟨_,rfl⟩
   rcases j0 h with⟨h6,h⟩|⟨h6,h⟩
   ·obtain rfl:=oi h
    refine zg c36 ?_
    simp only[go_sem,seval,c36,W17 h2,h3,h4,h5,h6]
    exact⟨_,rfl⟩
   obtain rfl:=oi h
   refine zg c36 ?_
   simp only[go_sem,seval,c36,W17 h2,h3,h4,h5,h6]
   exact⟨_,rfl⟩
  rcases j0 h with⟨h7,h⟩|⟨h7,h⟩
  ·rcases j0 h with⟨h8,h⟩|⟨h8,h⟩
   ·obtain rfl:=oi h
    refine zg c36 ?_
    simp only[go_sem,seval,c36,W17 h2,h3,h4,h7,h8]
    exact⟨_,rfl⟩
   rcases j0 h with⟨h9,h⟩|⟨h9,h⟩
   ·obtain rfl:=oi h
    refine zg c36 ?_
    simp only[go_sem,seval,c36,W17 h2,h3,h4,h7,h8,h9]
    exact⟨_,rfl⟩
   obtain rfl:=oi h
   refine zg c36 ?_
   simp only[go_sem,seval,c36,W17 h2,h3,h4,h7,h8,h9]
   exact⟨_,rfl⟩
  obtain rfl:=oi h
  refine zg c36 ?_
  simp only[go_sem,seval,c36,W17 h2,h3,h4,h7]
  exact⟨_,rfl⟩
 obtain rfl:=oi h
 refine zg c36 ?_
 simp only[go_sem,seval,c36,W17 h2,h3]
 exact⟨_,rfl⟩
theorem jy3 {ps:TP}{ch:TI}{c:Bool}:j7 pr (X pr) 159 [sl 8 zi ps,sl 1 zh ch,.bool c]=some (.fn (.func 196) [] [.vptr (sl 1 zh ch),.vptr (sl 8 zi ps),.vptr (.bool c)],false):=by
 have this:∃hh,yk pr (X pr) 159 [sl 8 zi ps,sl 1 zh ch,.bool c] []=some (.fn (.func 196) [] [.vptr (sl 1 zh ch),.vptr (sl 8 zi ps),.vptr (.bool c)],false,hh):=by
  rw[qak (show pr.fns 159=some c159 from rfl) (by simp)]
  simp only[go_sem,seval,c159]
  exact⟨_,rfl⟩
 obtain⟨hh,this⟩:=this
 have h1:Abs.below 0 (sl 1 zh ch)=true:=by simp only[go_sem,seval]
 have h2:Abs.below 0 (sl 8 zi ps)=true:=by simp only[go_sem,seval]
 have hp:Abs.below 0 (.fn (.func 196) [] [.vptr (sl 1 zh ch),.vptr (sl 8 zi ps),.vptr (.bool c)])=true:=by
  show(true&&(Abs.below 0 (sl 1 zh ch)&&(Abs.below 0 (sl 8 zi ps)&&(true&&true))))=true
  rw[h1,h2];rfl
 exact qd7 rfl this (by first|rfl|simp only[go_sem,seval]) (by first|exact hp|simp only[go_sem,seval])
theorem qh1 {b t:Nat}{h:zd}{bb:Bool}{p:TE}{o v:TTE}(hv:apO o [p]=some v):appR 1 b h (some t) (some (sl 1 (sl 3 vel) o)) (some (.list bb 1 [sl 3 vel p]))=ifR (decide (b≤4096)) (some ⟨sl 1 (sl 3 vel) v,true,some t,h⟩):=qjc (x:=p) (by omega) rfl hv
theorem qic {b:Nat}{h:zd}{bb:Bool}{p:TE}{o v:TTE}(hv:apO o [p]=some v)(hn:o.isNone=true):appR 1 b h none (some (sl 1 (sl 3 vel) o)) (some (.list bb 1 [sl 3 vel p]))=ifR (decide (b≤4096)) (some ⟨sl 1 (sl 3 vel) v,true,none,h⟩):=qe9 (x:=p) (by omega) rfl hn hv
theorem qg3 {b t:Nat}{h:zd}{bb:Bool}{p:TI}{o v:TTI}(hv:apO o [p]=some v):appR 1 b h (some t) (some (sl 1 (sl 1 zh) o)) (some (.list bb 1 [sl 1 zh p]))=ifR (decide (b≤4096)) (some ⟨sl 1 (sl 1 zh) v,true,some t,h⟩):=qjc (x:=p) (by omega) rfl hv
theorem qhb {b:Nat}{h:zd}{bb:Bool}{p:TI}{o v:TTI}(hv:apO o [p]=some v)(hn:o.isNone=true):appR 1 b h none (some (sl 1 (sl 1 zh) o)) (some (.list bb 1 [sl 1 zh p]))=ifR (decide (b≤4096)) (some ⟨sl 1 (sl 1 zh) v,true,none,h⟩):=qe9 (x:=p) (by omega) rfl hn hv
@[go_sem] theorem job {n z:Nat}{l:TTE}:below n (sl z (sl 3 vel) l)=true:=qd8 fun _=>q82
@[go_sem] theorem joi {n z:Nat}{l:TTI}:below n (sl z (sl 1 zh) l)=true:=qd8 fun _=>qd8 fun _=>rfl
def qis (a0:TP)(a1:TI)(s0:Bool×TTE×Int×Bool)(v985:qb)(v987:TE×Bool)(s1:Bool×TTE×Int×Bool)(s2:Bool×TTE×Int×Bool):Option ((Bool×TTE×Int×Bool)⊕((Bool×TTE×Bool×Int))):=
 cond (decide (s2.2.2.1<((v987.1.getD []).length:Int)))
  (j5 (yd (v987.1.getD []) s2.2.2.1) fun v1366=>
  cond (decide ((max (za .i64 (v1366.a-v985.pa)) (za .i64 (v985.pa-v1366.a)))=v985.sa))
   (cond (decide ((max (za .i64 (v1366.b-v985.pb)) (za .i64 (v985.pb-v1366.b)))=v985.sb))
    (j5 (yd (s0.2.1.getD []) s1.2.2.1) fun v1370=>
    j5 (apO (some []) (v1370.getD [])) fun v1372=>
    j5 (apO v1372 [v1366]) fun v1374=>
    cond s2.2.2.2
     (j5 (apO s2.2.1 [v1374]) fun v1377=>
     some (.inl (s2.1,v1377,za .i64 (s2.2.2.1+1),true)))
     (cond s2.2.1.isNone
      (j5 (apO s2.2.1 [v1374]) fun v1380=>
      some (.inl (s2.1,v1380,za .i64 (s2.2.2.1+1),true)))
      (none)))
    (cond s2.1
     (some (.inl (true,s2.2.1,za .i64 (s2.2.2.1+1),s2.2.2.2)))
     (j5 (yd (s0.2.1.getD []) s1.2.2.1) fun v1383=>
     j5 (apO (some []) (v1383.getD [])) fun v1385=>
     j5 (apO v1385 [v1366]) fun v1387=>
     cond s2.2.2.2
      (j5 (apO s2.2.1 [v1387]) fun v1390=>
      some (.inl (false,v1390,za .i64 (s2.2.2.1+1),true)))
      (cond s2.2.1.isNone
       (j5 (apO s2.2.1 [v1387]) fun v1393=>
       some (.inl (false,v1393,za .i64 (s2.2.2.1+1),true)))
       (none)))))
   (cond s2.1
    (some (.inl (true,s2.2.1,za .i64 (s2.2.2.1+1),s2.2.2.2)))
    (j5 (yd (s0.2.1.getD []) s1.2.2.1) fun v1396=>
    j5 (apO (some []) (v1396.getD [])) fun v1398=>
    j5 (apO v1398 [v1366]) fun v1400=>
    cond s2.2.2.2
     (j5 (apO s2.2.1 [v1400]) fun v1403=>
     some (.inl (false,v1403,za .i64 (s2.2.2.1+1),true)))
     (cond s2.2.1.isNone
      (j5 (apO s2.2.1 [v1400]) fun v1406=>
      some (.inl (false,v1406,za .i64 (s2.2.2.1+1),true)))
      (none)))))
  (some (.inr (s2.1,s2.2.1,s2.2.2.2,s2.2.2.1)))
def qan (a0:TP)(a1:TI)(s0:Bool×TTE×Int×Bool)(v985:qb)(v987:TE×Bool)(s1:Bool×TTE×Int×Bool)(s2:Bool×TTE×Int×Bool):qc:=⟨[(0,sl 8 zi a0,false),(1,sl 1 zh a1,false),(2,.bool s2.1,false),(7,sl 1 (sl 3 vel) s0.2.1,s0.2.2.2),(8,Iv s0.2.2.1,false),(9,sl 1 (sl 3 vel) s2.2.1,s2.2.2.2),(10,.ptr 0 0,false),(11,sl 3 vel v987.1,v987.2),(12,Iv s1.2.2.1,false),(13,Iv s2.2.2.1,false)],[.cells [(.str v985.name,false),(.str v985.kd,false),(Iv v985.pa,false),(Iv v985.pb,false),(Iv v985.sa,false),(Iv v985.sb,false),(Iv v985.cost,false),(Iv v985.stock,false)]]⟩
def quk (a0:TP)(a1:TI)(s0:Bool×TTE×Int×Bool)(v985:qb)(v987:TE×Bool)(s1:Bool×TTE×Int×Bool)(d:(Bool×TTE×Bool×Int)):qi×qc:=(.exit 4,⟨[(0,sl 8 zi a0,false),(1,sl 1 zh a1,false),(2,.bool d.1,false),(7,sl 1 (sl 3 vel) s0.2.1,s0.2.2.2),(8,Iv s0.2.2.1,false),(9,sl 1 (sl 3 vel) d.2.1,d.2.2.1),(10,.ptr 0 0,false),(11,sl 3 vel v987.1,v987.2),(12,Iv s1.2.2.1,false),(13,Iv d.2.2.2,false),(41,.bool false,false)],[.cells [(.str v985.name,false),(.str v985.kd,false),(Iv v985.pa,false),(Iv v985.pb,false),(Iv v985.sa,false),(Iv v985.sb,false),(Iv v985.cost,false),(Iv v985.stock,false)]]⟩)
theorem jmk (a0:TP)(a1:TI)(s0:Bool×TTE×Int×Bool)(v985:qb)(v987:TE×Bool)(s1:Bool×TTE×Int×Bool)(s2:Bool×TTE×Int×Bool)(r)(h:qis a0 a1 s0 v985 v987 s1 s2=some r):yh pr qee (qan a0 a1 s0 v985 v987 s1) (quk a0 a1 s0 v985 v987 s1) s2 r:=by
 unfold qis at h
 rcases j0 h with⟨h1365,h⟩|⟨h1365,h⟩
 ·obtain⟨v1366,h1367,h⟩:=jz h
  rcases j0 h with⟨h1368,h⟩|⟨h1368,h⟩
  ·rcases j0 h with⟨h1369,h⟩|⟨h1369,h⟩
   ·obtain⟨v1370,h1371,h⟩:=jz h
    obtain⟨v1372,h1373,h⟩:=jz h
    obtain⟨v1374,h1375,h⟩:=jz h
    rcases j0 h with⟨h1376,h⟩|⟨h1376,h⟩
    ·obtain⟨v1377,h1378,h⟩:=jz h
     cases h
     exact ko (by simp only[go_sem,seval,qee,qan,h1365,zf h1367,h1368,h1369,zf h1371,qb6 h1373,qch h1375,h1376,qh1 h1378];exact⟨_,rfl⟩) rfl (by first|simp only[go_sem,seval,qan]|rfl) (by first|simp only[go_sem,seval,qan]|rfl)
    rcases j0 h with⟨h1379,h⟩|⟨h1379,h⟩
    ·obtain⟨v1380,h1381,h⟩:=jz h
     cases h
     exact ko (by simp only[go_sem,seval,qee,qan,h1365,zf h1367,h1368,h1369,zf h1371,qb6 h1373,qch h1375,h1376,h1379,qic h1381 h1379];exact⟨_,rfl⟩) rfl (by first|simp only[go_sem,seval,qan]|rfl) (by first|simp only[go_sem,seval,qan]|rfl)
    cases h
   rcases j0 h with⟨h1382,h⟩|⟨h1382,h⟩
   ·cases h
    exact ko (by simp only[go_sem,seval,qee,qan,h1365,zf h1367,h1368,h1369,h1382];exact⟨_,rfl⟩) rfl (by first|simp only[go_sem,seval,qan]|rfl) (by first|simp only[go_sem,seval,qan]|rfl)
   obtain⟨v1383,h1384,h⟩:=jz h
   obtain⟨v1385,h1386,h⟩:=jz h
   obtain⟨v1387,h1388,h⟩:=jz h
   rcases j0 h with⟨h1389,h⟩|⟨h1389,h⟩
   ·obtain⟨v1390,h1391,h⟩:=jz h
    cases h
    exact ko (by simp only[go_sem,seval,qee,qan,h1365,zf h1367,h1368,h1369,h1382,zf h1384,qb6 h1386,qch h1388,h1389,qh1 h1391];exact⟨_,rfl⟩) rfl (by first|simp only[go_sem,seval,qan]|rfl) (by first|simp only[go_sem,seval,qan]|rfl)
   rcases j0 h with⟨h1392,h⟩|⟨h1392,h⟩
   ·obtain⟨v1393,h1394,h⟩:=jz h
    cases h
    exact ko (by simp only[go_sem,seval,qee,qan,h1365,zf h1367,h1368,h1369,h1382,zf h1384,qb6 h1386,qch h1388,h1389,h1392,qic h1394 h1392];exact⟨_,rfl⟩) rfl (by first|simp only[go_sem,seval,qan]|rfl) (by first|simp only[go_sem,seval,qan]|rfl)
   cases h
  rcases j0 h with⟨h1395,h⟩|⟨h1395,h⟩
  ·cases h
   exact ko (by simp only[go_sem,seval,qee,qan,h1365,zf h1367,h1368,h1395];exact⟨_,rfl⟩) rfl (by first|simp only[go_sem,seval,qan]|rfl) (by first|simp only[go_sem,seval,qan]|rfl)
  obtain⟨v1396,h1397,h⟩:=jz h
  obtain⟨v1398,h1399,h⟩:=jz h
  obtain⟨v1400,h1401,h⟩:=jz h
  rcases j0 h with⟨h1402,h⟩|⟨h1402,h⟩
  ·obtain⟨v1403,h1404,h⟩:=jz h
   cases h
   exact ko (by simp only[go_sem,seval,qee,qan,h1365,zf h1367,h1368,h1395,zf h1397,qb6 h1399,qch h1401,h1402,qh1 h1404];exact⟨_,rfl⟩) rfl (by first|simp only[go_sem,seval,qan]|rfl) (by first|simp only[go_sem,seval,qan]|rfl)
  rcases j0 h with⟨h1405,h⟩|⟨h1405,h⟩
  ·obtain⟨v1406,h1407,h⟩:=jz h
   cases h
   exact ko (by simp only[go_sem,seval,qee,qan,h1365,zf h1367,h1368,h1395,zf h1397,qb6 h1399,qch h1401,h1402,h1405,qic h1407 h1405];exact⟨_,rfl⟩) rfl (by first|simp only[go_sem,seval,qan]|rfl) (by first|simp only[go_sem,seval,qan]|rfl)
  cases h
 cases h
 exact j8 (by simp only[go_sem,seval,qee,qan,h1365,quk]<;>rfl)
theorem jno (a0:TP)(a1:TI)(s0:Bool×TTE×Int×Bool)(v985:qb)(v987:TE×Bool)(s1:Bool×TTE×Int×Bool){s2:Bool×TTE×Int×Bool}{d}(h:itO (qis a0 a1 s0 v985 v987 s1) s2=some d):X pr (.loop qee) (qan a0 a1 s0 v985 v987 s1 s2)=some (quk a0 a1 s0 v985 v987 s1 d):=yo (jmk a0 a1 s0 v985 v987 s1) (fun d hh=>by cases hh) h
def qlz (a0:TP)(a1:TI)(s0:Bool×TTE×Int×Bool)(v985:qb)(v987:TE×Bool)(s1:Bool×TTE×Int×Bool):Option ((Bool×TTE×Int×Bool)⊕((Bool×TTE×Bool×Int))):=
 cond (decide (s1.2.2.1<((s0.2.1.getD []).length:Int)))
  (j5 (itO (qis a0 a1 s0 v985 v987 s1) (s1.1,s1.2.1,0,s1.2.2.2)) fun d1408=>
  some (.inl (d1408.1,d1408.2.1,za .i64 (s1.2.2.1+1),d1408.2.2.1)))
  (some (.inr (s1.1,s1.2.1,s1.2.2.2,s1.2.2.1)))
def qox (a0:TP)(a1:TI)(s0:Bool×TTE×Int×Bool)(v985:qb)(v987:TE×Bool)(s1:Bool×TTE×Int×Bool):qc:=⟨[(0,sl 8 zi a0,false),(1,sl 1 zh a1,false),(2,.bool s1.1,false),(7,sl 1 (sl 3 vel) s0.2.1,s0.2.2.2),(8,Iv s0.2.2.1,false),(9,sl 1 (sl 3 vel) s1.2.1,s1.2.2.2),(10,.ptr 0 0,false),(11,sl 3 vel v987.1,v987.2),(12,Iv s1.2.2.1,false)],[.cells [(.str v985.name,false),(.str v985.kd,false),(Iv v985.pa,false),(Iv v985.pb,false),(Iv v985.sa,false),(Iv v985.sb,false),(Iv v985.cost,false),(Iv v985.stock,false)]]⟩
def qu9 (a0:TP)(a1:TI)(s0:Bool×TTE×Int×Bool)(v985:qb)(v987:TE×Bool)(d:(Bool×TTE×Bool×Int)):qi×qc:=(.exit 2,⟨[(0,sl 8 zi a0,false),(1,sl 1 zh a1,false),(2,.bool d.1,false),(7,sl 1 (sl 3 vel) s0.2.1,s0.2.2.2),(8,Iv s0.2.2.1,false),(9,sl 1 (sl 3 vel) d.2.1,d.2.2.1),(10,.ptr 0 0,false),(11,sl 3 vel v987.1,v987.2),(12,Iv d.2.2.2,false),(35,.bool false,false)],[.cells [(.str v985.name,false),(.str v985.kd,false),(Iv v985.pa,false),(Iv v985.pb,false),(Iv v985.sa,false),(Iv v985.sb,false),(Iv v985.cost,false),(Iv v985.stock,false)]]⟩)
theorem jna (a0:TP)(a1:TI)(s0:Bool×TTE×Int×Bool)(v985:qb)(v987:TE×Bool)(s1:Bool×TTE×Int×Bool)(r)(h:qlz a0 a1 s0 v985 v987 s1=some r):yh pr qs0 (qox a0 a1 s0 v985 v987) (qu9 a0 a1 s0 v985 v987) s1 r:=by
 unfold qlz at h
 rcases j0 h with⟨h1278,h⟩|⟨h1278,h⟩
 ·obtain⟨d1408,h1409,h⟩:=jz h
  have wh1409:=jno a0 a1 s0 v985 v987 s1 h1409
  dsimp only[qan,quk]at wh1409
  cases h
  exact zp (by simp only[go_sem,seval,qs0,qox,h1278,wh1409]<;>rfl)
 cases h
 exact j8 (by simp only[go_sem,seval,qs0,qox,h1278,qu9]<;>rfl)
theorem jm1 (a0:TP)(a1:TI)(s0:Bool×TTE×Int×Bool)(v985:qb)(v987:TE×Bool){s1:Bool×TTE×Int×Bool}{d}(h:itO (qlz a0 a1 s0 v985 v987) s1=some d):X pr (.loop qs0) (qox a0 a1 s0 v985 v987 s1)=some (qu9 a0 a1 s0 v985 v987 d):=yo (jna a0 a1 s0 v985 v987) (fun d hh=>by cases hh) h
def qjf (a0:TP)(a1:TI)(s0:Bool×TTE×Int×Bool):Option ((Bool×TTE×Int×Bool)⊕((Bool×TTE×Bool×Int))):=
 cond (decide (s0.2.2.1<((a1.getD []).length:Int)))
  (j5 (yd (a1.getD []) s0.2.2.1) fun v983=>
  j5 (yd (a0.getD []) v983) fun v985=>
  j5 (f104 v985) fun v987=>
  j5 (itO (qlz a0 a1 s0 v985 v987) (s0.1,none,0,false)) fun d1410=>
  some (.inl (d1410.1,d1410.2.1,za .i64 (s0.2.2.1+1),d1410.2.2.1)))
  (some (.inr (s0.1,s0.2.1,s0.2.2.2,s0.2.2.1)))
def qk3 (a0:TP)(a1:TI)(s0:Bool×TTE×Int×Bool):qc:=⟨[(0,sl 8 zi a0,false),(1,sl 1 zh a1,false),(2,.bool s0.1,false),(7,sl 1 (sl 3 vel) s0.2.1,s0.2.2.2),(8,Iv s0.2.2.1,false)],[]⟩
def qyq (a0:TP)(a1:TI)(d:(Bool×TTE×Bool×Int)):qi×qc:=(.exit 0,⟨[(0,sl 8 zi a0,false),(1,sl 1 zh a1,false),(2,.bool d.1,false),(7,sl 1 (sl 3 vel) d.2.1,d.2.2.1),(8,Iv d.2.2.2,false),(20,.bool false,false)],[]⟩)
theorem jmg (a0:TP)(a1:TI)(s0:Bool×TTE×Int×Bool)(r)(h:qjf a0 a1 s0=some r):yh pr qoq (qk3 a0 a1) (qyq a0 a1) s0 r:=by
 unfold qjf at h
 rcases j0 h with⟨h982,h⟩|⟨h982,h⟩
 ·obtain⟨v983,h984,h⟩:=jz h
  obtain⟨v985,h986,h⟩:=jz h
  obtain⟨v987,h988,h⟩:=jz h
  have wh988:=jdo h988
  obtain⟨d1410,h1411,h⟩:=jz h
  have wh1411:=jm1 a0 a1 s0 v985 v987 h1411
  dsimp only[qox,qu9,qc9]at wh1411
  cases h
  exact ko (by simp only[go_sem,seval,qoq,qk3,h982,zf h984,zf h986,wh988,wh1411];exact⟨_,rfl⟩) rfl (by first|simp only[go_sem,seval,qk3]|rfl) (by first|simp only[go_sem,seval,qk3]|rfl)
 cases h
 exact j8 (by simp only[go_sem,seval,qoq,qk3,h982,qyq]<;>rfl)
theorem jlz (a0:TP)(a1:TI){s0:Bool×TTE×Int×Bool}{d}(h:itO (qjf a0 a1) s0=some d):X pr (.loop qoq) (qk3 a0 a1 s0)=some (qyq a0 a1 d):=yo (jmg a0 a1) (fun d hh=>by cases hh) h
def f112 (a0:TP)(a1:TI)(a2:Bool):Option (TTE×Bool):=
 j5 (itO (qjf a0 a1) (a2,some [none],0,true)) fun d1412=>
 some (d1412.2.1,d1412.2.2.1)
theorem jkb {a0:TP}{a1:TI}{a2:Bool}{r}(h:f112 a0 a1 a2=some r):j7 pr (X pr) 112 [sl 8 zi a0,sl 1 zh a1,.bool a2]=some (sl 1 (sl 3 vel) r.1,r.2):=by
 unfold f112 at h
 obtain⟨d1412,h1413,h⟩:=jz h
 have wh1413:X pr (.loop qoq) ⟨[(0,sl 8 zi a0,false),(1,sl 1 zh a1,false),(2,.bool a2,false),(7,.list false 1 [.list true 0 []],true),(8,Iv 0,false)],[]⟩=some (.exit 0,⟨[(0,sl 8 zi a0,false),(1,sl 1 zh a1,false),(2,.bool d1412.1,false),(7,sl 1 (sl 3 vel) d1412.2.1,d1412.2.2.1),(8,Iv d1412.2.2.2,false),(20,.bool false,false)],[]⟩):=jlz a0 a1 h1413
 obtain rfl:=oi h
 refine qcb c112 ?_
 simp only[go_sem,seval,c112,wh1413]
 exact⟨_,rfl⟩
end Go.Z
end
