/- Chapter 4. -/
import Derived.Test.YtnjngdcbkkonnaaGreatDoorA5
set_option linter.unusedVariables false
set_option linter.unusedSimpArgs false
set_option maxRecDepth 100000
set_option maxHeartbeats 4000000
noncomputable section
namespace Go.Z
open Go Go.Abs
def f177 (a0:Int)(c0_0:TP):Option Bool:=
 cond (decide (a0<0))
  (some true)
  (some (decide (((c0_0.getD []).length:Int)≤a0)))
theorem j18 {a0:Int}{c0_0:TP}{r}(h:f177 a0 c0_0=some r):ye pr (X pr) 177 [Iv a0,.ptr 0 0] [.cells [(sl 8 zd c0_0,false)]]=some (.bool r,false,[.cells [(sl 8 zd c0_0,false)]]):=by
 unfold f177 at h
 rcases j4 h with⟨h1,h⟩|⟨h1,h⟩
 ·have hr:true=r:=Option.some.inj h
  subst hr
  rw[kr (show pr.fns 177=some c177 from rfl) (by simp)]
  simp only[go_sem,seval,c177,h1]<;>rfl
 have hr:decide (((c0_0.getD []).length:Int)≤a0)=r:=Option.some.inj h
 subst hr
 rw[kr (show pr.fns 177=some c177 from rfl) (by simp)]
 simp only[go_sem,seval,c177,h1]<;>rfl
def qlj (a0:TI)(c0_0:TP)(s0:Int):Option (Int⊕(Int⊕Int)):=
 cond (decide (s0<((a0.getD []).length:Int)))
  (j5 (yo (a0.getD []) s0) fun v14=>
  j5 (f177 v14 c0_0) fun v16=>
  cond v16
   (some (.inr (.inl s0)))
   (some (.inl (j9 .i64 (s0+1)))))
  (some (.inr (.inr s0)))
def qih (a0:TI)(c0_0:TP)(s0:Int):qd:=⟨[(0,sl 1 zg a0,false),(1,.fn (.func 177) [] [.ptr 0 0],false),(7,Lv a0,false),(8,Iv s0,false)],[.cells [(sl 8 zd c0_0,false)]]⟩
def qlf (a0:TI)(c0_0:TP):Int⊕Int→qj×qd
 | .inl d=>(.ret,⟨[(4,Iv d,false)],[.cells [(sl 8 zd c0_0,false)]]⟩)
 | .inr d=>(.exit 0,⟨[(0,sl 1 zg a0,false),(1,.fn (.func 177) [] [.ptr 0 0],false),(7,Lv a0,false),(8,Iv d,false),(9,.bool false,false)],[.cells [(sl 8 zd c0_0,false)]]⟩)
theorem joz (a0:TI)(c0_0:TP)(s0:Int)(r)(h:qlj a0 c0_0 s0=some r):yt pr qo1 (qih a0 c0_0) (qlf a0 c0_0) s0 r:=by
 unfold qlj at h
 rcases j4 h with⟨h13,h⟩|⟨h13,h⟩
 ·obtain⟨v14,h15,h⟩:=j0 h
  obtain⟨v16,h17,h⟩:=j0 h
  have wh17:ye pr (X pr) 177 [Iv v14,.ptr 0 0] [.cells [(sl 8 zd c0_0,false)]]=some (.bool v16,false,[.cells [(sl 8 zd c0_0,false)]]):=j18 h17
  rcases j4 h with⟨h18,h⟩|⟨h18,h⟩
  ·cases h
   exact zc (by simp only[go_sem,seval,qo1,qih,h13,zm h15,wh17,h18,qlf]<;>rfl)
  cases h
  exact zq (by simp only[go_sem,seval,qo1,qih,h13,zm h15,wh17,h18]<;>rfl)
 cases h
 exact zc (by simp only[go_sem,seval,qo1,qih,h13,qlf]<;>rfl)
theorem jdq (a0:TI)(c0_0:TP){s0:Int}{d}(h:itO (qlj a0 c0_0) s0=some d):X pr (.loop qo1) (qih a0 c0_0 s0)=some (qlf a0 c0_0 d):=kg (joz a0 c0_0) (fun d=>by rcases d with d|d<;>(intro hh;cases hh)) h
def f208 (a0:TI)(c0_0:TP):Option Int:=
 j5 (itO (qlj a0 c0_0) 0) fun d19=>match d19 with
  | .inl d21=>
   some d21
  | .inr d22=>
   some (-1)
theorem j1l {a0:TI}{c0_0:TP}{r}(h:f208 a0 c0_0=some r):ye pr (X pr) 208 [sl 1 zg a0,.fn (.func 177) [] [.ptr 0 0]] [.cells [(sl 8 zd c0_0,false)]]=some (Iv r,false,[.cells [(sl 8 zd c0_0,false)]]):=by
 unfold f208 at h
 obtain⟨d19,h20,h⟩:=j0 h
 rcases d19 with d21|d22
 ·have wh20:=jdq a0 c0_0 h20
  dsimp only[qih,qlf]at wh20
  have hr:d21=r:=Option.some.inj h
  subst hr
  rw[kr (show pr.fns 208=some c208 from rfl) (by simp)]
  simp only[go_sem,seval,c208,wh20]<;>rfl
 have wh20:=jdq a0 c0_0 h20
 dsimp only[qih,qlf]at wh20
 have hr:(-1)=r:=Option.some.inj h
 subst hr
 rw[kr (show pr.fns 208=some c208 from rfl) (by simp)]
 simp only[go_sem,seval,c208,wh20]<;>rfl
def f176 (a0:TI)(c0_0:TP):Option Bool:=
 j5 (f208 a0 c0_0) fun v1=>
 some (decide (0≤v1))
theorem j3j {a0:TI}{c0_0:TP}{r}(h:f176 a0 c0_0=some r):ye pr (X pr) 176 [sl 1 zg a0,.fn (.func 177) [] [.ptr 0 0]] [.cells [(sl 8 zd c0_0,false)]]=some (.bool r,false,[.cells [(sl 8 zd c0_0,false)]]):=by
 unfold f176 at h
 obtain⟨v1,h2,h⟩:=j0 h
 have wh2:ye pr (X pr) 208 [sl 1 zg a0,.fn (.func 177) [] [.ptr 0 0]] [.cells [(sl 8 zd c0_0,false)]]=some (Iv v1,false,[.cells [(sl 8 zd c0_0,false)]]):=j1l h2
 have hr:decide (0≤v1)=r:=Option.some.inj h
 subst hr
 rw[kr (show pr.fns 176=some c176 from rfl) (by simp)]
 simp only[go_sem,seval,c176,wh2]<;>rfl
def f133 (a0:TP)(a1:TI):Option Int:=
 j5 (f176 a1 a0) fun v1=>
 j5 (f23 a0) fun v3=>
 j5 (f106 (decide (3<((a1.getD []).length:Int))) 5) fun v5=>
 j5 (f106 v1 10) fun v7=>
 j5 (f105 (some [v3,v5,v7])) fun v9=>
 some v9
theorem jz2 {a0:TP}{a1:TI}{r}(h:f133 a0 a1=some r):zb pr (X pr) 133 [sl 8 zd a0,sl 1 zg a1]=some (Iv r,false):=by
 unfold f133 at h
 obtain⟨v1,h2,h⟩:=j0 h
 have wh2:ye pr (X pr) 176 [sl 1 zg a1,.fn (.func 177) [] [.ptr 0 0]] [.cells [(sl 8 zd a0,false)]]=some (.bool v1,false,[.cells [(sl 8 zd a0,false)]]):=j3j h2
 obtain⟨v3,h4,h⟩:=j0 h
 obtain⟨v5,h6,h⟩:=j0 h
 have wh6:=qmo h6
 obtain⟨v7,h8,h⟩:=j0 h
 obtain⟨v9,h10,h⟩:=j0 h
 have wh10:zb pr (X pr) 105 [.list false 1 [Iv v3,Iv v5,Iv v7]]=some (Iv v9,false):=qtf h10
 obtain rfl:=oi h
 refine zk c133 ?_
 simp only[go_sem,seval,c133,wh2,W23 h4,wh6,qmo h8,wh10]
 exact⟨_,rfl⟩
def f30 (a0:TI):Option TI:=
 j5 (apO (some []) (a0.getD [])) fun v1=>
 some v1
theorem W30 {a0:TI}{r}(h:f30 a0=some r):zb pr (X pr) 30 [sl 1 zg a0]=some (sl 1 zg r,true):=by
 unfold f30 at h
 obtain⟨v1,h2,h⟩:=j0 h
 obtain rfl:=oi h
 refine qdm c30 ?_
 simp only[go_sem,seval,c30,qrz h2]
 exact⟨_,rfl⟩
def f36 (a0:TP)(a1:TB)(a2:Int):Option Bool:=
 j5 (f17 a0) fun v1=>
 cond v1
  (cond (decide (((a1.getD []).length:Int)≤4))
   (cond (decide (a2≤2))
    (some true)
    (cond (decide (3<a2))
     (some true)
     (some (decide (((a0.getD []).length:Int)≤2)))))
   (cond (decide (((a1.getD []).length:Int)=9))
    (cond (decide (a2≤2))
     (some true)
     (cond (decide (3<a2))
      (some true)
      (some (decide (((a0.getD []).length:Int)≤2)))))
    (some false)))
  (some false)
theorem W36 {a0:TP}{a1:TB}{a2:Int}{r}(h:f36 a0 a1 a2=some r):zb pr (X pr) 36 [sl 8 zd a0,sl 5 yf a1,Iv a2]=some (.bool r,false):=by
 unfold f36 at h
 obtain⟨v1,h2,h⟩:=j0 h
 rcases j4 h with⟨h3,h⟩|⟨h3,h⟩
 ·rcases j4 h with⟨h4,h⟩|⟨h4,h⟩
  ·rcases j4 h with⟨h5,h⟩|⟨h5,h⟩
   ·obtain rfl:=oi h
    refine zk c36 ?_
    simp only[go_sem,seval,c36,W17 h2,h3,h4,h5]
    exact⟨_,rfl⟩
   rcases j4 h with⟨h6,h⟩|⟨h6,h⟩
   ·obtain rfl:=oi h
    refine zk c36 ?_
    simp only[go_sem,seval,c36,W17 h2,h3,h4,h5,h6]
    exact⟨_,rfl⟩
   obtain rfl:=oi h
   refine zk c36 ?_
   simp only[go_sem,seval,c36,W17 h2,h3,h4,h5,h6]
   exact⟨_,rfl⟩
  rcases j4 h with⟨h7,h⟩|⟨h7,h⟩
  ·rcases j4 h with⟨h8,h⟩|⟨h8,h⟩
   ·obtain rfl:=oi h
    refine zk c36 ?_
    simp only[go_sem,seval,c36,W17 h2,h3,h4,h7,h8]
    exact⟨_,rfl⟩
   rcases j4 h with⟨h9,h⟩|⟨h9,h⟩
   ·obtain rfl:=oi h
    refine zk c36 ?_
    simp only[go_sem,seval,c36,W17 h2,h3,h4,h7,h8,h9]
    exact⟨_,rfl⟩
   obtain rfl:=oi h
   refine zk c36 ?_
   simp only[go_sem,seval,c36,W17 h2,h3,h4,h7,h8,h9]
   exact⟨_,rfl⟩
  obtain rfl:=oi h
  refine zk c36 ?_
  simp only[go_sem,seval,c36,W17 h2,h3,h4,h7]
  exact⟨_,rfl⟩
 obtain rfl:=oi h
 refine zk c36 ?_
 simp only[go_sem,seval,c36,W17 h2,h3]
 exact⟨_,rfl⟩
def qxf (a0:TP)(a1:TI)(s0:Int×Int):Option ((Int×Int)⊕((Int×Int))):=
 cond (decide (s0.2<((a1.getD []).length:Int)))
  (j5 (yo (a1.getD []) s0.2) fun v12=>
  j5 (yo (a0.getD []) v12) fun v14=>
  some (.inl (j9 .i64 (s0.1+v14.cost),j9 .i64 (s0.2+1))))
  (some (.inr (s0.1,s0.2)))
def qpf (a0:TP)(a1:TI)(s0:Int×Int):qd:=⟨[(0,sl 8 zd a0,false),(5,Iv s0.1,false),(8,sl 1 zg a1,false),(9,Lv a1,false),(10,Iv s0.2,false)],[]⟩
def qti (a0:TP)(a1:TI)(d:(Int×Int)):qj×qd:=(.exit 0,⟨[(0,sl 8 zd a0,false),(5,Iv d.1,false),(8,sl 1 zg a1,false),(9,Lv a1,false),(10,Iv d.2,false),(11,.bool false,false)],[]⟩)
theorem jpm (a0:TP)(a1:TI)(s0:Int×Int)(r)(h:qxf a0 a1 s0=some r):yt pr qsc (qpf a0 a1) (qti a0 a1) s0 r:=by
 unfold qxf at h
 rcases j4 h with⟨h11,h⟩|⟨h11,h⟩
 ·obtain⟨v12,h13,h⟩:=j0 h
  obtain⟨v14,h15,h⟩:=j0 h
  cases h
  exact zq (by simp only[go_sem,seval,qsc,qpf,h11,zm h13,zm h15]<;>rfl)
 cases h
 exact zc (by simp only[go_sem,seval,qsc,qpf,h11,qti]<;>rfl)
theorem jne (a0:TP)(a1:TI){s0:Int×Int}{d}(h:itO (qxf a0 a1) s0=some d):X pr (.loop qsc) (qpf a0 a1 s0)=some (qti a0 a1 d):=kg (jpm a0 a1) (fun d hh=>by cases hh) h
def f116 (a0:TP)(a1:TI):Option Int:=
 j5 (itO (qxf a0 a1) (0,0)) fun d16=>
 some d16.1
theorem j1h {a0:TP}{a1:TI}{r}(h:f116 a0 a1=some r):zb pr (X pr) 116 [sl 8 zd a0,sl 1 zg a1]=some (Iv r,false):=by
 unfold f116 at h
 obtain⟨d16,h17,h⟩:=j0 h
 have wh17:=jne a0 a1 h17
 dsimp only[qpf,qti]at wh17
 obtain rfl:=oi h
 refine zk c116 ?_
 simp only[go_sem,seval,c116,wh17]
 exact⟨_,rfl⟩
def qxd (a0:TP)(a1:TI)(s0:Int×Int):Option ((Int×Int)⊕((Int×Int))):=
 cond (decide (s0.2<((a1.getD []).length:Int)))
  (j5 (yo (a1.getD []) s0.2) fun v12=>
  j5 (yo (a0.getD []) v12) fun v14=>
  some (.inl (j9 .i64 (s0.1+v14.cost),j9 .i64 (s0.2+1))))
  (some (.inr (s0.1,s0.2)))
def f71 (a0:TP)(a1:TI):Option Int:=
 j5 (itO (qxd a0 a1) (0,0)) fun d16=>
 some d16.1
theorem j31 {ps:TP}{ch:TI}{c:Bool}:zb pr (X pr) 159 [sl 8 zd ps,sl 1 zg ch,.bool c]=some (.fn (.func 196) [] [.vptr (sl 1 zg ch),.vptr (sl 8 zd ps),.vptr (.bool c)],false):=by
 have this:∃hh,ye pr (X pr) 159 [sl 8 zd ps,sl 1 zg ch,.bool c] []=some (.fn (.func 196) [] [.vptr (sl 1 zg ch),.vptr (sl 8 zd ps),.vptr (.bool c)],false,hh):=by
  rw[kr (show pr.fns 159=some c159 from rfl) (by simp)]
  simp only[go_sem,seval,c159]
  exact⟨_,rfl⟩
 obtain⟨hh,this⟩:=this
 have h1:Abs.below 0 (sl 1 zg ch)=true:=by simp only[go_sem,seval]
 have h2:Abs.below 0 (sl 8 zd ps)=true:=by simp only[go_sem,seval]
 have hp:Abs.below 0 (.fn (.func 196) [] [.vptr (sl 1 zg ch),.vptr (sl 8 zd ps),.vptr (.bool c)])=true:=by
  show(true&&(Abs.below 0 (sl 1 zg ch)&&(Abs.below 0 (sl 8 zd ps)&&(true&&true))))=true
  rw[h1,h2];rfl
 exact qed rfl this (by first|rfl|simp only[go_sem,seval]) (by first|exact hp|simp only[go_sem,seval])
theorem qm7 {b t:Nat}{h:ze}{bb:Bool}{p:TI}{o v:TTI}(hv:apO o [p]=some v):appR 1 b h (some t) (some (sl 1 (sl 1 zg) o)) (some (.list bb 1 [sl 1 zg p]))=ifR (decide (b≤4096)) (some ⟨sl 1 (sl 1 zg) v,true,some t,h⟩):=qpp (x:=p) (by omega) rfl hv
theorem qmv {b:Nat}{h:ze}{bb:Bool}{p:TI}{o v:TTI}(hv:apO o [p]=some v)(hn:o.isNone=true):appR 1 b h none (some (sl 1 (sl 1 zg) o)) (some (.list bb 1 [sl 1 zg p]))=ifR (decide (b≤4096)) (some ⟨sl 1 (sl 1 zg) v,true,none,h⟩):=qik (x:=p) (by omega) rfl hn hv
@[go_sem] theorem jpw {n z:Nat}{l:TTI}:below n (sl z (sl 1 zg) l)=true:=qgn fun _=>qgn fun _=>rfl
def qs4 (a0:TP)(a1:TI)(s0:Bool×TTE×Int×Bool)(v985:qb)(v987:TE×Bool)(s1:Bool×TTE×Int×Bool)(s2:Bool×TTE×Int×Bool):Option ((Bool×TTE×Int×Bool)⊕((Bool×TTE×Bool×Int))):=
 cond (decide (s2.2.2.1<((v987.1.getD []).length:Int)))
  (j5 (yo (v987.1.getD []) s2.2.2.1) fun v1366=>
  cond (decide ((max (j9 .i64 (v1366.a-v985.pa)) (j9 .i64 (v985.pa-v1366.a)))=v985.sa))
   (cond (decide ((max (j9 .i64 (v1366.b-v985.pb)) (j9 .i64 (v985.pb-v1366.b)))=v985.sb))
    (j5 (yo (s0.2.1.getD []) s1.2.2.1) fun v1370=>
    j5 (apO (some []) (v1370.getD [])) fun v1372=>
    j5 (apO v1372 [v1366]) fun v1374=>
    cond s2.2.2.2
     (j5 (apO s2.2.1 [v1374]) fun v1377=>
     some (.inl (s2.1,v1377,j9 .i64 (s2.2.2.1+1),true)))
     (cond s2.2.1.isNone
      (j5 (apO s2.2.1 [v1374]) fun v1380=>
      some (.inl (s2.1,v1380,j9 .i64 (s2.2.2.1+1),true)))
      (none)))
    (cond s2.1
     (some (.inl (true,s2.2.1,j9 .i64 (s2.2.2.1+1),s2.2.2.2)))
     (j5 (yo (s0.2.1.getD []) s1.2.2.1) fun v1383=>
     j5 (apO (some []) (v1383.getD [])) fun v1385=>
     j5 (apO v1385 [v1366]) fun v1387=>
     cond s2.2.2.2
      (j5 (apO s2.2.1 [v1387]) fun v1390=>
      some (.inl (false,v1390,j9 .i64 (s2.2.2.1+1),true)))
      (cond s2.2.1.isNone
       (j5 (apO s2.2.1 [v1387]) fun v1393=>
       some (.inl (false,v1393,j9 .i64 (s2.2.2.1+1),true)))
       (none)))))
   (cond s2.1
    (some (.inl (true,s2.2.1,j9 .i64 (s2.2.2.1+1),s2.2.2.2)))
    (j5 (yo (s0.2.1.getD []) s1.2.2.1) fun v1396=>
    j5 (apO (some []) (v1396.getD [])) fun v1398=>
    j5 (apO v1398 [v1366]) fun v1400=>
    cond s2.2.2.2
     (j5 (apO s2.2.1 [v1400]) fun v1403=>
     some (.inl (false,v1403,j9 .i64 (s2.2.2.1+1),true)))
     (cond s2.2.1.isNone
      (j5 (apO s2.2.1 [v1400]) fun v1406=>
      some (.inl (false,v1406,j9 .i64 (s2.2.2.1+1),true)))
      (none)))))
  (some (.inr (s2.1,s2.2.1,s2.2.2.2,s2.2.2.1)))
def qwc (a0:TP)(a1:TI)(s0:Bool×TTE×Int×Bool)(v985:qb)(v987:TE×Bool)(s1:Bool×TTE×Int×Bool):Option ((Bool×TTE×Int×Bool)⊕((Bool×TTE×Bool×Int))):=
 cond (decide (s1.2.2.1<((s0.2.1.getD []).length:Int)))
  (j5 (itO (qs4 a0 a1 s0 v985 v987 s1) (s1.1,s1.2.1,0,s1.2.2.2)) fun d1408=>
  some (.inl (d1408.1,d1408.2.1,j9 .i64 (s1.2.2.1+1),d1408.2.2.1)))
  (some (.inr (s1.1,s1.2.1,s1.2.2.2,s1.2.2.1)))
def qrm (a0:TP)(a1:TI)(s0:Bool×TTE×Int×Bool):Option ((Bool×TTE×Int×Bool)⊕((Bool×TTE×Bool×Int))):=
 cond (decide (s0.2.2.1<((a1.getD []).length:Int)))
  (j5 (yo (a1.getD []) s0.2.2.1) fun v983=>
  j5 (yo (a0.getD []) v983) fun v985=>
  j5 (f104 v985) fun v987=>
  j5 (itO (qwc a0 a1 s0 v985 v987) (s0.1,none,0,false)) fun d1410=>
  some (.inl (d1410.1,d1410.2.1,j9 .i64 (s0.2.2.1+1),d1410.2.2.1)))
  (some (.inr (s0.1,s0.2.1,s0.2.2.2,s0.2.2.1)))
def je7 (a0:TP)(a1:TI)(a2:Bool):Option (TTE×Bool):=
 j5 (itO (qrm a0 a1) (a2,some [none],0,true)) fun d1412=>
 some (d1412.2.1,d1412.2.2.1)
end Go.Z
end
