/- Chapter 10. -/
import Derived.Test.YtfopaakmgogpiaaGreatDoorV8
import Derived.Test.YtfopaakmgogpiaaGreatDoorW14
import Derived.Test.YtfopaakmgogpiaaGreatDoorW1
set_option linter.unusedVariables false
set_option linter.unusedSimpArgs false
set_option maxRecDepth 100000
set_option maxHeartbeats 4000000
noncomputable section
namespace Go.Z
open Go Go.Abs Go.W
@[go_sem] theorem j2d {b v l:Nat}:(qa.vref b v l).flat=[.vref b v l]:=rfl
@[go_sem] theorem zbu {b v l:Nat}:zm (.vref b v l)=true:=rfl
@[go_sem] theorem j2g {b v l:Nat}:qa.isList (.vref b v l)=false:=rfl
theorem jed:∀ x:ql,(vev x).flat.length=5:=fun _=>rfl
theorem q1q:∀ x:qc,(yr x).flat.length=4:=fun _=>rfl
section
variable {h:zb}{α:Type}
theorem qf8 {sz b v len:Nat}{l:List α}{i:Int}{x:α}(hx:zz (l.take len) i=some x):qd2 sz h (some (.vref b v len)) (some (Iv i))=some ⟨.vel b v (i.toNat*sz),false,none,h⟩∧l[i.toNat]?=some x:=by
 unfold zz at hx
 split at hx
 ·rename_i hi
  have h2:=(List.getElem?_eq_some_iff.1 hx).1
  rw[List.length_take]at h2
  have h3:i.toNat<len:=by omega
  refine⟨?_,?_⟩
  ·have:=jb0 (sz:=sz) (h:=h) (b:=b) (v:=v) (k:=.i64) h3
   rw[Int.toNat_of_nonneg hi]at this
   exact this
  ·rw[List.getElem?_take,if_pos h3]at hx
   exact hx
 ·cases hx
theorem qy8 {sz b v len:Nat}{i:Int}(hi:0≤i)(hl:i≤(len:Int)):qi0 sz h (some (.vref b v len)) none (some (some (Iv i)))=some ⟨.vref b v i.toNat,false,none,h⟩:=by
 have:qma len len (some (some (Iv i)))=some i.toNat:=by
  simp only[qma,qq7]
  cases i with
  |ofNat n=>
   have h1:((n:Nat):Int)≤(len:Int):=hl
   have h2:n≤len:=by omega
   simp only[Nat.ble_eq_true_of_le h2,cT]
   rfl
  |negSucc n=>omega
 simp only[qi0,this]
 rfl
def qip (xs:List α)(len:Nat)(x:α):Option (List α):=if len≤xs.length∧len+1≤1073741824 then some (xs.take len++[x])else none
theorem qfp {h0 b v len r sz bytes:Nat}{c:Bool}{f:α→qa}{l l':List α}{x:α}(hp:qip l len x=some l')(hb:h[b]?=some (.vec sz v (l.map f)))(hx:z8 0 [f x]=true)(hz:0<sz)(hby:bytes≤4096)(hr:r<1000):
  qbw h0 r sz bytes h (some (.vref b v len)) (some (.list c sz [f x]))=some ⟨.vref b (v+1) (len+1),false,none,h.set b (.vec sz (v+1) (l'.map f))⟩:=by
 unfold qip at hp
 split at hp
 ·rename_i hl
  cases hp
  have:=jag (h:=h) (h0:=h0) (c:=c) (ys:=[f x]) hb (by rw[List.length_map];exact hl.1) (by simpa using hl.2) hby hz hx hr
  rw[this]
  simp[List.map_take]
 ·cases hp
end
structure HV where
 ev:List ql
 ve:Nat
 cs:List ql
 lc:Nat
 vc:Nat
 ss:List qc
 ls:Nat
 vs:Nat
theorem q6q {n:Nat}{st:qg}(h:ky n (st.heap.take n)=false):gc n st=st:=by
 unfold gc
 rw[h,Bool.and_false,cF]
 cases Nat.ble st.heap.length n<;>rfl
theorem qif {α:Type}{l l':List α}{x:α}(h:qip l l.length x=some l'):l'.length=l.length+1:=by
 unfold qip at h
 split at h
 ·cases h;simp
 ·cases h
def qqw (s:HV)(e:ql):Option (Int×HV):=
 cond (decide (e.number=j8 .i64 ((s.ev.length:Int)+1)))
  (cond (decide (e.kind=([117,110,100,111]:List UInt8)))
   (jy (f53 (decide ((s.lc:Int)=0)) 12) fun e1=>
   cond (decide (0<(s.lc:Int)))
    (jy (zz (s.cs.take s.lc) (max 0 (j8 .i64 ((s.lc:Int)-1)))) fun x=>
    jy (f53 (decide (x.kind=([115,104,105,112]:List UInt8))) 19) fun e2=>
    jy (f51 (some [e1,e2])) fun e3=>
    cond (decide (e3=0))
     (cond (decide (0≤j8 .i64 ((s.lc:Int)-1)∧j8 .i64 ((s.lc:Int)-1)≤(s.lc:Int)∧s.lc≤s.ls))
      (jy (qip s.ev s.ev.length e) fun ev=>some (0,{ s with ev:=ev,ve:=s.ve+1,lc:=(j8 .i64 ((s.lc:Int)-1)).toNat,ls:=s.lc }))
      none)
     (some (e3,s)))
    (jy (f53 false 19) fun e2=>jy (f51 (some [e1,e2])) fun e3=>cond (decide (e3=0)) none (some (e3,s))))
   (jy (zz (s.ss.take s.ls) (j8 .i64 ((s.ls:Int)-1))) fun r=>
   jy (f121 r e) fun v=>
   cond (decide (v.2=0))
    (jy (qip s.cs s.lc e) fun cs=>jy (qip s.ss s.ls v.1) fun ss=>jy (qip s.ev s.ev.length e) fun ev=>
    some (0,{ ev:=ev,ve:=s.ve+1,cs:=cs,lc:=s.lc+1,vc:=s.vc+1,ss:=ss,ls:=s.ls+1,vs:=s.vs+1 }))
    (some (v.2,s))))
  (some (11,s))
theorem qt4:decide (((([]:List qa).length:Nat):Int)=0)=true:=rfl
theorem jes:decide ((0:Int)<((([]:List qa).length:Nat):Int))=false:=rfl
theorem jft:decide ((0:Int)<((0:Nat):Int))=false:=rfl
def zreg:qc:=⟨0,none,none,none⟩
def qlg (e:ql):Option (Int×Option HV):=
 cond (decide (e.number=j8 .i64 1))
  (cond (decide (e.kind=([117,110,100,111]:List UInt8)))
   (jy (f53 true 12) fun e1=>jy (f53 false 19) fun e2=>jy (f51 (some [e1,e2])) fun e3=>cond (decide (e3=0)) none (some (e3,none)))
   (jy (f121 zreg e) fun v=>
   cond (decide (v.2=0))
    (some (0,some { ev:=[e],ve:=0,cs:=[e],lc:=1,vc:=0,ss:=[zreg,v.1],ls:=2,vs:=1 }))
    (some (v.2,none))))
  (some (11,none))
def q2y (s:Option HV)(e:ql):Option (Int×Option HV):=match s with
 |none=>qlg e
 |some s=>jy (qqw s e) fun q=>some (q.1,some q.2)
def s47 (l:Option (List ql))(x:Int×Option HV):Option ((Int×Option HV)⊕((Int×Int×Option HV)⊕(Int×Option HV))):=
 cond (decide (x.1<((l.getD []).length:Int)))
  (jy (zz (l.getD []) x.1) fun e=>
  jy (f11 e) fun c=>
  cond (decide (c=0))
   (jy (f66 e) fun e2=>
   jy (q2y x.2 e2) fun q=>
   cond (decide (q.1=0))
    (some (.inl (j8 .i64 (x.1+1),q.2)))
    (some (.inr (.inl (j8 .i64 (x.1+1),q.1,q.2)))))
   (some (.inr (.inl (j8 .i64 (x.1+1),c,x.2)))))
  (some (.inr (.inr x)))
def f47 (l:Option (List ql)):Option ((Int×Int)⊕Option HV):=
 cond (decide (1000<((l.getD []).length:Int)))
  (some (.inl (0,5)))
  (jy (itO (s47 l) (0,none)) fun d=>match d with
  | .inl d=>some (.inl (d.1,d.2.1))
  | .inr d=>some (.inr d.2))
theorem jsd {s:HV}{r:qc}(hx:zz (s.ss.take s.ls) (j8 .i64 ((s.ls:Int)-1))=some r):zj pr (X pr) 48 [.ptr 3 0] [.cells [(Iv 0,false),(.list true 0 [],false),(.list true 0 [],false),(.list true 0 [],false)],.hole,.cells [(.list true 0 [],false),(.list true 0 [],false),(.list true 0 [],false)],.cells [(.vref 8 s.ve s.ev.length,false),(.vref 6 s.vc s.lc,false),(.vref 5 s.vs s.ls,false)],.cells [(.list true 0 [],false),(.list true 0 [],false),(.vref 5 0 1,false)],.vec 4 s.vs (s.ss.map yr),.vec 5 s.vc (s.cs.map vev),.hole,.vec 5 s.ve (s.ev.map vev)]=some (.agg [Iv r.day,sl 5 zg r.lots,sl 4 za r.products,sl 8 vun r.units],false,[.cells [(Iv 0,false),(.list true 0 [],false),(.list true 0 [],false),(.list true 0 [],false)],.hole,.cells [(.list true 0 [],false),(.list true 0 [],false),(.list true 0 [],false)],.cells [(.vref 8 s.ve s.ev.length,false),(.vref 6 s.vc s.lc,false),(.vref 5 s.vs s.ls,false)],.cells [(.list true 0 [],false),(.list true 0 [],false),(.vref 5 0 1,false)],.vec 4 s.vs (s.ss.map yr),.vec 5 s.vc (s.cs.map vev),.hole,.vec 5 s.ve (s.ev.map vev),.cells [(Iv r.day,false),(sl 5 zg r.lots,false),(sl 4 za r.products,false),(sl 8 vun r.units,false)]]):=by
 have g1:∀h:zb,qd2 4 h (some (.vref 5 s.vs s.ls)) (some (Iv (j8 .i64 ((s.ls:Int)-1))))=some ⟨.vel 5 s.vs ((j8 .i64 ((s.ls:Int)-1)).toNat*4),false,none,h⟩:=fun h=>(qf8 hx).1
 have g2:qa5 10 (some []) true 4 [.cells [(Iv 0,false),(.list true 0 [],false),(.list true 0 [],false),(.list true 0 [],false)],.hole,.cells [(.list true 0 [],false),(.list true 0 [],false),(.list true 0 [],false)],.cells [(.vref 8 s.ve s.ev.length,false),(.vref 6 s.vc s.lc,false),(.vref 5 s.vs s.ls,false)],.cells [(.list true 0 [],false),(.list true 0 [],false),(.vref 5 0 1,false)],.vec 4 s.vs (s.ss.map yr),.vec 5 s.vc (s.cs.map vev),.hole,.vec 5 s.ve (s.ev.map vev),.cells [(Iv 0,false),(.list true 0 [],false),(.list true 0 [],false),(.list true 0 [],false)]] (some (.vel 5 s.vs ((j8 .i64 ((s.ls:Int)-1)).toNat*4)))=some ⟨.agg [Iv r.day,sl 5 zg r.lots,sl 4 za r.products,sl 8 vun r.units],false,none,[.cells [(Iv 0,false),(.list true 0 [],false),(.list true 0 [],false),(.list true 0 [],false)],.hole,.cells [(.list true 0 [],false),(.list true 0 [],false),(.list true 0 [],false)],.cells [(.vref 8 s.ve s.ev.length,false),(.vref 6 s.vc s.lc,false),(.vref 5 s.vs s.ls,false)],.cells [(.list true 0 [],false),(.list true 0 [],false),(.vref 5 0 1,false)],.vec 4 s.vs (s.ss.map yr),.vec 5 s.vc (s.cs.map vev),.hole,.vec 5 s.ve (s.ev.map vev),.cells [(Iv 0,false),(.list true 0 [],false),(.list true 0 [],false),(.list true 0 [],false)]]⟩:=qv7 q1q rfl rfl (qf8 (sz:=4) (b:=0) (v:=0) (h:=[]) hx).2
 rw[zc (show pr.fns 48=some c48 from rfl) (by simp)]
 simp only[go_sem,seval,c48,g1,g2]<;>rfl
theorem jyh {s:HV}{e:ql}{q}(h:qqw s e=some q):∃hh,zj pr (X pr) 65 [.ptr 3 0,.agg [Iv e.number,.str e.kind,sl 1 yc e.names,sl 1 yb e.values,.str e.text]] [.cells [(Iv 0,false),(.list true 0 [],false),(.list true 0 [],false),(.list true 0 [],false)],.hole,.cells [(.list true 0 [],false),(.list true 0 [],false),(.list true 0 [],false)],.cells [(.vref 8 s.ve s.ev.length,false),(.vref 6 s.vc s.lc,false),(.vref 5 s.vs s.ls,false)],.cells [(.list true 0 [],false),(.list true 0 [],false),(.vref 5 0 1,false)],.vec 4 s.vs (s.ss.map yr),.vec 5 s.vc (s.cs.map vev),.hole,.vec 5 s.ve (s.ev.map vev)]=some (Iv q.1,false,hh)∧yt 9 (Iv q.1) hh=[.cells [(Iv 0,false),(.list true 0 [],false),(.list true 0 [],false),(.list true 0 [],false)],.hole,.cells [(.list true 0 [],false),(.list true 0 [],false),(.list true 0 [],false)],.cells [(.vref 8 q.2.ve q.2.ev.length,false),(.vref 6 q.2.vc q.2.lc,false),(.vref 5 q.2.vs q.2.ls,false)],.cells [(.list true 0 [],false),(.list true 0 [],false),(.vref 5 0 1,false)],.vec 4 q.2.vs (q.2.ss.map yr),.vec 5 q.2.vc (q.2.cs.map vev),.hole,.vec 5 q.2.ve (q.2.ev.map vev)]:=by
 unfold qqw at h
 rcases jx h with⟨h1,h⟩|⟨h1,h⟩
 ·rcases jx h with⟨h2,h⟩|⟨h2,h⟩
  ·obtain⟨e1,k1,h⟩:=jw h
   have w1:=W53 k1
   rcases jx h with⟨h3,h⟩|⟨h3,h⟩
   ·obtain⟨x,k2,h⟩:=jw h
    obtain⟨e2,k3,h⟩:=jw h
    obtain⟨e3,k4,h⟩:=jw h
    have w2:=W53 k3
    have w3:j6 pr (X pr) 51 [.list false 1 [Iv e1,Iv e2]]=some (Iv e3,false):=W51 k4
    have g1:∀h:zb,qd2 5 h (some (.vref 6 s.vc s.lc)) (some (Iv (max 0 (j8 .i64 ((s.lc:Int)-1)))))=some ⟨.vel 6 s.vc ((max 0 (j8 .i64 ((s.lc:Int)-1))).toNat*5),false,none,h⟩:=fun h=>(qf8 k2).1
    have g2:qa5 9 none false 1 [.cells [(Iv 0,false),(.list true 0 [],false),(.list true 0 [],false),(.list true 0 [],false)],.hole,.cells [(.list true 0 [],false),(.list true 0 [],false),(.list true 0 [],false)],.cells [(.vref 8 s.ve s.ev.length,false),(.vref 6 s.vc s.lc,false),(.vref 5 s.vs s.ls,false)],.cells [(.list true 0 [],false),(.list true 0 [],false),(.vref 5 0 1,false)],.vec 4 s.vs (s.ss.map yr),.vec 5 s.vc (s.cs.map vev),.hole,.vec 5 s.ve (s.ev.map vev)] (some (.vel 6 s.vc ((max 0 (j8 .i64 ((s.lc:Int)-1))).toNat*5+1)))=some ⟨.str x.kind,false,none,[.cells [(Iv 0,false),(.list true 0 [],false),(.list true 0 [],false),(.list true 0 [],false)],.hole,.cells [(.list true 0 [],false),(.list true 0 [],false),(.list true 0 [],false)],.cells [(.vref 8 s.ve s.ev.length,false),(.vref 6 s.vc s.lc,false),(.vref 5 s.vs s.ls,false)],.cells [(.list true 0 [],false),(.list true 0 [],false),(.vref 5 0 1,false)],.vec 4 s.vs (s.ss.map yr),.vec 5 s.vc (s.cs.map vev),.hole,.vec 5 s.ve (s.ev.map vev)]⟩:=q17 (f:=vev) (o:=1) jed rfl rfl (qf8 (sz:=4) (b:=0) (v:=0) (h:=[]) k2).2 rfl
    rcases jx h with⟨h4,h⟩|⟨h4,h⟩
    ·rcases jx h with⟨h5,h⟩|⟨_,h⟩
     ·obtain⟨ev,hev,h⟩:=jw h
      cases h
      have c5:=of_decide_eq_true h5
      have hln:ev.length=s.ev.length+1:=qif hev
      have g3:∀h:zb,qi0 5 h (some (.vref 6 s.vc s.lc)) none (some (some (Iv (j8 .i64 ((s.lc:Int)-1)))))=some ⟨.vref 6 s.vc (j8 .i64 ((s.lc:Int)-1)).toNat,false,none,h⟩:=fun h=>qy8 c5.1 c5.2.1
      have g4:∀h:zb,qi0 4 h (some (.vref 5 s.vs s.ls)) none (some (some (Iv (s.lc:Int))))=some ⟨.vref 5 s.vs s.lc,false,none,h⟩:=fun h=>qy8 (by omega) (by have:=c5.2.2;omega)
      have g5:qbw 9 0 5 88 [.cells [(Iv 0,false),(.list true 0 [],false),(.list true 0 [],false),(.list true 0 [],false)],.hole,.cells [(.list true 0 [],false),(.list true 0 [],false),(.list true 0 [],false)],.cells [(.vref 8 s.ve s.ev.length,false),(.vref 6 s.vc (j8 .i64 ((s.lc:Int)-1)).toNat,false),(.vref 5 s.vs s.lc,false)],.cells [(.list true 0 [],false),(.list true 0 [],false),(.vref 5 0 1,false)],.vec 4 s.vs (s.ss.map yr),.vec 5 s.vc (s.cs.map vev),.hole,.vec 5 s.ve (s.ev.map vev),.hole] (some (.vref 8 s.ve s.ev.length)) (some (.list false 5 [.agg [Iv e.number,.str e.kind,sl 1 yc e.names,sl 1 yb e.values,.str e.text]]))=some ⟨.vref 8 (s.ve+1) (s.ev.length+1),false,none,[.cells [(Iv 0,false),(.list true 0 [],false),(.list true 0 [],false),(.list true 0 [],false)],.hole,.cells [(.list true 0 [],false),(.list true 0 [],false),(.list true 0 [],false)],.cells [(.vref 8 s.ve s.ev.length,false),(.vref 6 s.vc (j8 .i64 ((s.lc:Int)-1)).toNat,false),(.vref 5 s.vs s.lc,false)],.cells [(.list true 0 [],false),(.list true 0 [],false),(.vref 5 0 1,false)],.vec 4 s.vs (s.ss.map yr),.vec 5 s.vc (s.cs.map vev),.hole,.vec 5 (s.ve+1) (ev.map vev),.hole]⟩:=qfp (f:=vev) (x:=e) hev rfl (by simp only[go_sem,seval]) (by decide) (by decide) (by decide)
      refine⟨[.cells [(Iv 0,false),(.list true 0 [],false),(.list true 0 [],false),(.list true 0 [],false)],.hole,.cells [(.list true 0 [],false),(.list true 0 [],false),(.list true 0 [],false)],.cells [(.vref 8 (s.ve+1) (s.ev.length+1),false),(.vref 6 s.vc (j8 .i64 ((s.lc:Int)-1)).toNat,false),(.vref 5 s.vs s.lc,false)],.cells [(.list true 0 [],false),(.list true 0 [],false),(.vref 5 0 1,false)],.vec 4 s.vs (s.ss.map yr),.vec 5 s.vc (s.cs.map vev),.hole,.vec 5 (s.ve+1) (ev.map vev),.hole],?_,?_⟩
      ·rw[zc (show pr.fns 65=some c65 from rfl) (by simp)]
       simp only[go_sem,seval,c65,h1,h2,w1,h3,g1,g2,w2,w3,h4,g3,g4,g5]<;>rfl
      ·simp only[hln]
       simp only[go_sem,seval]<;>rfl
     cases h
    cases h
    refine⟨[.cells [(Iv 0,false),(.list true 0 [],false),(.list true 0 [],false),(.list true 0 [],false)],.hole,.cells [(.list true 0 [],false),(.list true 0 [],false),(.list true 0 [],false)],.cells [(.vref 8 s.ve s.ev.length,false),(.vref 6 s.vc s.lc,false),(.vref 5 s.vs s.ls,false)],.cells [(.list true 0 [],false),(.list true 0 [],false),(.vref 5 0 1,false)],.vec 4 s.vs (s.ss.map yr),.vec 5 s.vc (s.cs.map vev),.hole,.vec 5 s.ve (s.ev.map vev)],?_,qao rfl⟩
    rw[zc (show pr.fns 65=some c65 from rfl) (by simp)]
    simp only[go_sem,seval,c65,h1,h2,w1,h3,g1,g2,w2,w3,h4]<;>rfl
   obtain⟨e2,k3,h⟩:=jw h
   obtain⟨e3,k4,h⟩:=jw h
   have w2:=W53 k3
   have w3:j6 pr (X pr) 51 [.list false 1 [Iv e1,Iv e2]]=some (Iv e3,false):=W51 k4
   rcases jx h with⟨h4,h⟩|⟨h4,h⟩
   ·cases h
   cases h
   refine⟨[.cells [(Iv 0,false),(.list true 0 [],false),(.list true 0 [],false),(.list true 0 [],false)],.hole,.cells [(.list true 0 [],false),(.list true 0 [],false),(.list true 0 [],false)],.cells [(.vref 8 s.ve s.ev.length,false),(.vref 6 s.vc s.lc,false),(.vref 5 s.vs s.ls,false)],.cells [(.list true 0 [],false),(.list true 0 [],false),(.vref 5 0 1,false)],.vec 4 s.vs (s.ss.map yr),.vec 5 s.vc (s.cs.map vev),.hole,.vec 5 s.ve (s.ev.map vev)],?_,qao rfl⟩
   rw[zc (show pr.fns 65=some c65 from rfl) (by simp)]
   simp only[go_sem,seval,c65,h1,h2,w1,h3,w2,w3,h4]<;>rfl
  obtain⟨r,k1,h⟩:=jw h
  obtain⟨v,k2,h⟩:=jw h
  have w1:=jsd k1
  have wa:yt 9 (.agg [Iv r.day,sl 5 zg r.lots,sl 4 za r.products,sl 8 vun r.units]) [.cells [(Iv 0,false),(.list true 0 [],false),(.list true 0 [],false),(.list true 0 [],false)],.hole,.cells [(.list true 0 [],false),(.list true 0 [],false),(.list true 0 [],false)],.cells [(.vref 8 s.ve s.ev.length,false),(.vref 6 s.vc s.lc,false),(.vref 5 s.vs s.ls,false)],.cells [(.list true 0 [],false),(.list true 0 [],false),(.vref 5 0 1,false)],.vec 4 s.vs (s.ss.map yr),.vec 5 s.vc (s.cs.map vev),.hole,.vec 5 s.ve (s.ev.map vev),.cells [(Iv r.day,false),(sl 5 zg r.lots,false),(sl 4 za r.products,false),(sl 8 vun r.units,false)]]=[.cells [(Iv 0,false),(.list true 0 [],false),(.list true 0 [],false),(.list true 0 [],false)],.hole,.cells [(.list true 0 [],false),(.list true 0 [],false),(.list true 0 [],false)],.cells [(.vref 8 s.ve s.ev.length,false),(.vref 6 s.vc s.lc,false),(.vref 5 s.vs s.ls,false)],.cells [(.list true 0 [],false),(.list true 0 [],false),(.vref 5 0 1,false)],.vec 4 s.vs (s.ss.map yr),.vec 5 s.vc (s.cs.map vev),.hole,.vec 5 s.ve (s.ev.map vev)]:=by simp only[go_sem,seval]<;>rfl
  have w2:j6 pr (X pr) 121 [.agg [Iv r.day,sl 5 zg r.lots,sl 4 za r.products,sl 8 vun r.units],.agg [Iv e.number,.str e.kind,sl 1 yc e.names,sl 1 yb e.values,.str e.text]]=some (.tup [.agg [Iv v.1.day,sl 5 zg v.1.lots,sl 4 za v.1.products,sl 8 vun v.1.units],Iv v.2],false):=qzn k2
  rcases jx h with⟨h3,h⟩|⟨h3,h⟩
  ·obtain⟨cs,hcs,h⟩:=jw h
   obtain⟨ss,hss,h⟩:=jw h
   obtain⟨ev,hev,h⟩:=jw h
   cases h
   have hln:ev.length=s.ev.length+1:=qif hev
   have g1:qbw 9 0 5 88 [.cells [(Iv 0,false),(.list true 0 [],false),(.list true 0 [],false),(.list true 0 [],false)],.hole,.cells [(.list true 0 [],false),(.list true 0 [],false),(.list true 0 [],false)],.cells [(.vref 8 s.ve s.ev.length,false),(.vref 6 s.vc s.lc,false),(.vref 5 s.vs s.ls,false)],.cells [(.list true 0 [],false),(.list true 0 [],false),(.vref 5 0 1,false)],.vec 4 s.vs (s.ss.map yr),.vec 5 s.vc (s.cs.map vev),.hole,.vec 5 s.ve (s.ev.map vev),.hole,.hole] (some (.vref 6 s.vc s.lc)) (some (.list false 5 [.agg [Iv e.number,.str e.kind,sl 1 yc e.names,sl 1 yb e.values,.str e.text]]))=some ⟨.vref 6 (s.vc+1) (s.lc+1),false,none,[.cells [(Iv 0,false),(.list true 0 [],false),(.list true 0 [],false),(.list true 0 [],false)],.hole,.cells [(.list true 0 [],false),(.list true 0 [],false),(.list true 0 [],false)],.cells [(.vref 8 s.ve s.ev.length,false),(.vref 6 s.vc s.lc,false),(.vref 5 s.vs s.ls,false)],.cells [(.list true 0 [],false),(.list true 0 [],false),(.vref 5 0 1,false)],.vec 4 s.vs (s.ss.map yr),.vec 5 (s.vc+1) (cs.map vev),.hole,.vec 5 s.ve (s.ev.map vev),.hole,.hole]⟩:=qfp (f:=vev) (x:=e) hcs rfl (by simp only[go_sem,seval]) (by decide) (by decide) (by decide)
   have g2:qbw 9 1 4 80 [.cells [(Iv 0,false),(.list true 0 [],false),(.list true 0 [],false),(.list true 0 [],false)],.hole,.cells [(.list true 0 [],false),(.list true 0 [],false),(.list true 0 [],false)],.cells [(.vref 8 s.ve s.ev.length,false),(.vref 6 s.vc s.lc,false),(.vref 5 s.vs s.ls,false)],.cells [(.list true 0 [],false),(.list true 0 [],false),(.vref 5 0 1,false)],.vec 4 s.vs (s.ss.map yr),.vec 5 (s.vc+1) (cs.map vev),.hole,.vec 5 s.ve (s.ev.map vev),.hole,.hole] (some (.vref 5 s.vs s.ls)) (some (.list false 4 [.agg [Iv v.1.day,sl 5 zg v.1.lots,sl 4 za v.1.products,sl 8 vun v.1.units]]))=some ⟨.vref 5 (s.vs+1) (s.ls+1),false,none,[.cells [(Iv 0,false),(.list true 0 [],false),(.list true 0 [],false),(.list true 0 [],false)],.hole,.cells [(.list true 0 [],false),(.list true 0 [],false),(.list true 0 [],false)],.cells [(.vref 8 s.ve s.ev.length,false),(.vref 6 s.vc s.lc,false),(.vref 5 s.vs s.ls,false)],.cells [(.list true 0 [],false),(.list true 0 [],false),(.vref 5 0 1,false)],.vec 4 (s.vs+1) (ss.map yr),.vec 5 (s.vc+1) (cs.map vev),.hole,.vec 5 s.ve (s.ev.map vev),.hole,.hole]⟩:=qfp (f:=yr) (x:=v.1) hss rfl (by simp only[go_sem,seval]) (by decide) (by decide) (by decide)
   have g3:qbw 11 0 5 88 [.cells [(Iv 0,false),(.list true 0 [],false),(.list true 0 [],false),(.list true 0 [],false)],.hole,.cells [(.list true 0 [],false),(.list true 0 [],false),(.list true 0 [],false)],.cells [(.vref 8 s.ve s.ev.length,false),(.vref 6 (s.vc+1) (s.lc+1),false),(.vref 5 (s.vs+1) (s.ls+1),false)],.cells [(.list true 0 [],false),(.list true 0 [],false),(.vref 5 0 1,false)],.vec 4 (s.vs+1) (ss.map yr),.vec 5 (s.vc+1) (cs.map vev),.hole,.vec 5 s.ve (s.ev.map vev),.hole,.hole,.hole] (some (.vref 8 s.ve s.ev.length)) (some (.list false 5 [.agg [Iv e.number,.str e.kind,sl 1 yc e.names,sl 1 yb e.values,.str e.text]]))=some ⟨.vref 8 (s.ve+1) (s.ev.length+1),false,none,[.cells [(Iv 0,false),(.list true 0 [],false),(.list true 0 [],false),(.list true 0 [],false)],.hole,.cells [(.list true 0 [],false),(.list true 0 [],false),(.list true 0 [],false)],.cells [(.vref 8 s.ve s.ev.length,false),(.vref 6 (s.vc+1) (s.lc+1),false),(.vref 5 (s.vs+1) (s.ls+1),false)],.cells [(.list true 0 [],false),(.list true 0 [],false),(.vref 5 0 1,false)],.vec 4 (s.vs+1) (ss.map yr),.vec 5 (s.vc+1) (cs.map vev),.hole,.vec 5 (s.ve+1) (ev.map vev),.hole,.hole,.hole]⟩:=qfp (f:=vev) (x:=e) hev rfl (by simp only[go_sem,seval]) (by decide) (by decide) (by decide)
   refine⟨[.cells [(Iv 0,false),(.list true 0 [],false),(.list true 0 [],false),(.list true 0 [],false)],.hole,.cells [(.list true 0 [],false),(.list true 0 [],false),(.list true 0 [],false)],.cells [(.vref 8 (s.ve+1) (s.ev.length+1),false),(.vref 6 (s.vc+1) (s.lc+1),false),(.vref 5 (s.vs+1) (s.ls+1),false)],.cells [(.list true 0 [],false),(.list true 0 [],false),(.vref 5 0 1,false)],.vec 4 (s.vs+1) (ss.map yr),.vec 5 (s.vc+1) (cs.map vev),.hole,.vec 5 (s.ve+1) (ev.map vev),.hole,.hole,.hole],?_,?_⟩
   ·rw[zc (show pr.fns 65=some c65 from rfl) (by simp)]
    simp only[go_sem,seval,c65,h1,h2,w1,wa,w2,h3,g1,g2,g3]<;>rfl
   ·simp only[hln]
    simp only[go_sem,seval]<;>rfl
  cases h
  refine⟨[.cells [(Iv 0,false),(.list true 0 [],false),(.list true 0 [],false),(.list true 0 [],false)],.hole,.cells [(.list true 0 [],false),(.list true 0 [],false),(.list true 0 [],false)],.cells [(.vref 8 s.ve s.ev.length,false),(.vref 6 s.vc s.lc,false),(.vref 5 s.vs s.ls,false)],.cells [(.list true 0 [],false),(.list true 0 [],false),(.vref 5 0 1,false)],.vec 4 s.vs (s.ss.map yr),.vec 5 s.vc (s.cs.map vev),.hole,.vec 5 s.ve (s.ev.map vev)],?_,qao rfl⟩
  rw[zc (show pr.fns 65=some c65 from rfl) (by simp)]
  simp only[go_sem,seval,c65,h1,h2,w1,wa,w2,h3]<;>rfl
 cases h
 refine⟨[.cells [(Iv 0,false),(.list true 0 [],false),(.list true 0 [],false),(.list true 0 [],false)],.hole,.cells [(.list true 0 [],false),(.list true 0 [],false),(.list true 0 [],false)],.cells [(.vref 8 s.ve s.ev.length,false),(.vref 6 s.vc s.lc,false),(.vref 5 s.vs s.ls,false)],.cells [(.list true 0 [],false),(.list true 0 [],false),(.vref 5 0 1,false)],.vec 4 s.vs (s.ss.map yr),.vec 5 s.vc (s.cs.map vev),.hole,.vec 5 s.ve (s.ev.map vev)],?_,qao rfl⟩
 rw[zc (show pr.fns 65=some c65 from rfl) (by simp)]
 simp only[go_sem,seval,c65,h1]<;>rfl
theorem jlc:zj pr (X pr) 48 [.ptr 3 0] [.cells [(Iv 0,false),(.list true 0 [],false),(.list true 0 [],false),(.list true 0 [],false)],.hole,.cells [(.list true 0 [],false),(.list true 0 [],false),(.list true 0 [],false)],.cells [(.list true 0 [],false),(.list true 0 [],false),(.vref 5 0 1,false)],.cells [(.list true 0 [],false),(.list true 0 [],false),(.vref 5 0 1,false)],.vec 4 0 [.agg [Iv 0,.list true 0 [],.list true 0 [],.list true 0 []]]]=some (.agg [Iv 0,.list true 0 [],.list true 0 [],.list true 0 []],false,[.cells [(Iv 0,false),(.list true 0 [],false),(.list true 0 [],false),(.list true 0 [],false)],.hole,.cells [(.list true 0 [],false),(.list true 0 [],false),(.list true 0 [],false)],.cells [(.list true 0 [],false),(.list true 0 [],false),(.vref 5 0 1,false)],.cells [(.list true 0 [],false),(.list true 0 [],false),(.vref 5 0 1,false)],.vec 4 0 [.agg [Iv 0,.list true 0 [],.list true 0 [],.list true 0 []]],.cells [(Iv 0,false),(.list true 0 [],false),(.list true 0 [],false),(.list true 0 [],false)]]):=by
 have g1:∀h:zb,qd2 4 h (some (.vref 5 0 1)) (some (Iv (j8 .i64 0)))=some ⟨.vel 5 0 0,false,none,h⟩:=fun h=>(qf8 (l:=[zreg]) (x:=zreg) rfl).1
 have g2:qa5 7 (some []) true 4 [.cells [(Iv 0,false),(.list true 0 [],false),(.list true 0 [],false),(.list true 0 [],false)],.hole,.cells [(.list true 0 [],false),(.list true 0 [],false),(.list true 0 [],false)],.cells [(.list true 0 [],false),(.list true 0 [],false),(.vref 5 0 1,false)],.cells [(.list true 0 [],false),(.list true 0 [],false),(.vref 5 0 1,false)],.vec 4 0 [.agg [Iv 0,.list true 0 [],.list true 0 [],.list true 0 []]],.cells [(Iv 0,false),(.list true 0 [],false),(.list true 0 [],false),(.list true 0 [],false)]] (some (.vel 5 0 0))=some ⟨.agg [Iv 0,.list true 0 [],.list true 0 [],.list true 0 []],false,none,[.cells [(Iv 0,false),(.list true 0 [],false),(.list true 0 [],false),(.list true 0 [],false)],.hole,.cells [(.list true 0 [],false),(.list true 0 [],false),(.list true 0 [],false)],.cells [(.list true 0 [],false),(.list true 0 [],false),(.vref 5 0 1,false)],.cells [(.list true 0 [],false),(.list true 0 [],false),(.vref 5 0 1,false)],.vec 4 0 [.agg [Iv 0,.list true 0 [],.list true 0 [],.list true 0 []]],.cells [(Iv 0,false),(.list true 0 [],false),(.list true 0 [],false),(.list true 0 [],false)]]⟩:=rfl
 rw[zc (show pr.fns 48=some c48 from rfl) (by simp)]
 simp only[go_sem,seval,c48,g1,g2]<;>rfl
theorem jj8 {e:ql}{q}(h:qlg e=some q):∃hh,zj pr (X pr) 65 [.ptr 3 0,.agg [Iv e.number,.str e.kind,sl 1 yc e.names,sl 1 yb e.values,.str e.text]] [.cells [(Iv 0,false),(.list true 0 [],false),(.list true 0 [],false),(.list true 0 [],false)],.hole,.cells [(.list true 0 [],false),(.list true 0 [],false),(.list true 0 [],false)],.cells [(.list true 0 [],false),(.list true 0 [],false),(.vref 5 0 1,false)],.cells [(.list true 0 [],false),(.list true 0 [],false),(.vref 5 0 1,false)],.vec 4 0 [.agg [Iv 0,.list true 0 [],.list true 0 [],.list true 0 []]]]=some (Iv q.1,false,hh)∧yt 6 (Iv q.1) hh=(match q.2 with
  |none=>[.cells [(Iv 0,false),(.list true 0 [],false),(.list true 0 [],false),(.list true 0 [],false)],.hole,.cells [(.list true 0 [],false),(.list true 0 [],false),(.list true 0 [],false)],.cells [(.list true 0 [],false),(.list true 0 [],false),(.vref 5 0 1,false)],.cells [(.list true 0 [],false),(.list true 0 [],false),(.vref 5 0 1,false)],.vec 4 0 [.agg [Iv 0,.list true 0 [],.list true 0 [],.list true 0 []]]]
  |some v=>[.cells [(Iv 0,false),(.list true 0 [],false),(.list true 0 [],false),(.list true 0 [],false)],.hole,.cells [(.list true 0 [],false),(.list true 0 [],false),(.list true 0 [],false)],.cells [(.vref 8 v.ve v.ev.length,false),(.vref 6 v.vc v.lc,false),(.vref 5 v.vs v.ls,false)],.cells [(.list true 0 [],false),(.list true 0 [],false),(.vref 5 0 1,false)],.vec 4 v.vs (v.ss.map yr),.vec 5 v.vc (v.cs.map vev),.hole,.vec 5 v.ve (v.ev.map vev)]):=by
 unfold qlg at h
 rcases jx h with⟨h1,h⟩|⟨h1,h⟩
 ·rcases jx h with⟨h2,h⟩|⟨h2,h⟩
  ·obtain⟨e1,k1,h⟩:=jw h
   obtain⟨e2,k3,h⟩:=jw h
   obtain⟨e3,k4,h⟩:=jw h
   have w1:=W53 k1
   have w2:=W53 k3
   have w3:j6 pr (X pr) 51 [.list false 1 [Iv e1,Iv e2]]=some (Iv e3,false):=W51 k4
   rcases jx h with⟨h4,h⟩|⟨h4,h⟩
   ·cases h
   cases h
   refine⟨[.cells [(Iv 0,false),(.list true 0 [],false),(.list true 0 [],false),(.list true 0 [],false)],.hole,.cells [(.list true 0 [],false),(.list true 0 [],false),(.list true 0 [],false)],.cells [(.list true 0 [],false),(.list true 0 [],false),(.vref 5 0 1,false)],.cells [(.list true 0 [],false),(.list true 0 [],false),(.vref 5 0 1,false)],.vec 4 0 [.agg [Iv 0,.list true 0 [],.list true 0 [],.list true 0 []]]],?_,qao rfl⟩
   rw[zc (show pr.fns 65=some c65 from rfl) (by simp)]
   simp only[go_sem,seval,c65,h1,h2,w1,w2,w3,h4,qt4,jes,jft]<;>rfl
  obtain⟨v,k2,h⟩:=jw h
  have w1:=jlc
  have wa:yt 6 (.agg [Iv 0,.list true 0 [],.list true 0 [],.list true 0 []]) [.cells [(Iv 0,false),(.list true 0 [],false),(.list true 0 [],false),(.list true 0 [],false)],.hole,.cells [(.list true 0 [],false),(.list true 0 [],false),(.list true 0 [],false)],.cells [(.list true 0 [],false),(.list true 0 [],false),(.vref 5 0 1,false)],.cells [(.list true 0 [],false),(.list true 0 [],false),(.vref 5 0 1,false)],.vec 4 0 [.agg [Iv 0,.list true 0 [],.list true 0 [],.list true 0 []]],.cells [(Iv 0,false),(.list true 0 [],false),(.list true 0 [],false),(.list true 0 [],false)]]=[.cells [(Iv 0,false),(.list true 0 [],false),(.list true 0 [],false),(.list true 0 [],false)],.hole,.cells [(.list true 0 [],false),(.list true 0 [],false),(.list true 0 [],false)],.cells [(.list true 0 [],false),(.list true 0 [],false),(.vref 5 0 1,false)],.cells [(.list true 0 [],false),(.list true 0 [],false),(.vref 5 0 1,false)],.vec 4 0 [.agg [Iv 0,.list true 0 [],.list true 0 [],.list true 0 []]]]:=by simp only[go_sem,seval]<;>rfl
  have w2:j6 pr (X pr) 121 [.agg [Iv 0,.list true 0 [],.list true 0 [],.list true 0 []],.agg [Iv e.number,.str e.kind,sl 1 yc e.names,sl 1 yb e.values,.str e.text]]=some (.tup [.agg [Iv v.1.day,sl 5 zg v.1.lots,sl 4 za v.1.products,sl 8 vun v.1.units],Iv v.2],false):=qzn k2
  rcases jx h with⟨h3,h⟩|⟨h3,h⟩
  ·cases h
   have g1:qbw 6 0 5 88 [.cells [(Iv 0,false),(.list true 0 [],false),(.list true 0 [],false),(.list true 0 [],false)],.hole,.cells [(.list true 0 [],false),(.list true 0 [],false),(.list true 0 [],false)],.cells [(.list true 0 [],false),(.list true 0 [],false),(.vref 5 0 1,false)],.cells [(.list true 0 [],false),(.list true 0 [],false),(.vref 5 0 1,false)],.vec 4 0 [.agg [Iv 0,.list true 0 [],.list true 0 [],.list true 0 []]],.hole,.hole] (some (.list true 0 [])) (some (.list false 5 [.agg [Iv e.number,.str e.kind,sl 1 yc e.names,sl 1 yb e.values,.str e.text]]))=some ⟨.vref 6 0 1,false,none,[.cells [(Iv 0,false),(.list true 0 [],false),(.list true 0 [],false),(.list true 0 [],false)],.hole,.cells [(.list true 0 [],false),(.list true 0 [],false),(.list true 0 [],false)],.cells [(.list true 0 [],false),(.list true 0 [],false),(.vref 5 0 1,false)],.cells [(.list true 0 [],false),(.list true 0 [],false),(.vref 5 0 1,false)],.vec 4 0 [.agg [Iv 0,.list true 0 [],.list true 0 [],.list true 0 []]],.vec 5 0 [.agg [Iv e.number,.str e.kind,sl 1 yc e.names,sl 1 yb e.values,.str e.text]],.hole]⟩:=by yf qjo<;>first|rfl|decide|(simp only[go_sem,seval]<;>done)|simp
   have g2:qbw 6 1 4 80 [.cells [(Iv 0,false),(.list true 0 [],false),(.list true 0 [],false),(.list true 0 [],false)],.hole,.cells [(.list true 0 [],false),(.list true 0 [],false),(.list true 0 [],false)],.cells [(.list true 0 [],false),(.list true 0 [],false),(.vref 5 0 1,false)],.cells [(.list true 0 [],false),(.list true 0 [],false),(.vref 5 0 1,false)],.vec 4 0 [.agg [Iv 0,.list true 0 [],.list true 0 [],.list true 0 []]],.vec 5 0 [.agg [Iv e.number,.str e.kind,sl 1 yc e.names,sl 1 yb e.values,.str e.text]],.hole] (some (.vref 5 0 1)) (some (.list false 4 [.agg [Iv v.1.day,sl 5 zg v.1.lots,sl 4 za v.1.products,sl 8 vun v.1.units]]))=some ⟨.vref 5 1 2,false,none,[.cells [(Iv 0,false),(.list true 0 [],false),(.list true 0 [],false),(.list true 0 [],false)],.hole,.cells [(.list true 0 [],false),(.list true 0 [],false),(.list true 0 [],false)],.cells [(.list true 0 [],false),(.list true 0 [],false),(.vref 5 0 1,false)],.cells [(.list true 0 [],false),(.list true 0 [],false),(.vref 5 0 1,false)],.vec 4 1 [.agg [Iv 0,.list true 0 [],.list true 0 [],.list true 0 []],.agg [Iv v.1.day,sl 5 zg v.1.lots,sl 4 za v.1.products,sl 8 vun v.1.units]],.vec 5 0 [.agg [Iv e.number,.str e.kind,sl 1 yc e.names,sl 1 yb e.values,.str e.text]],.hole]⟩:=qfp (f:=yr) (l:=[zreg]) (l':=[zreg,v.1]) (x:=v.1) rfl rfl (by simp only[go_sem,seval]) (by decide) (by decide) (by decide)
   have g3:qbw 8 0 5 88 [.cells [(Iv 0,false),(.list true 0 [],false),(.list true 0 [],false),(.list true 0 [],false)],.hole,.cells [(.list true 0 [],false),(.list true 0 [],false),(.list true 0 [],false)],.cells [(.list true 0 [],false),(.vref 6 0 1,false),(.vref 5 1 2,false)],.cells [(.list true 0 [],false),(.list true 0 [],false),(.vref 5 0 1,false)],.vec 4 1 [.agg [Iv 0,.list true 0 [],.list true 0 [],.list true 0 []],.agg [Iv v.1.day,sl 5 zg v.1.lots,sl 4 za v.1.products,sl 8 vun v.1.units]],.vec 5 0 [.agg [Iv e.number,.str e.kind,sl 1 yc e.names,sl 1 yb e.values,.str e.text]],.hole,.hole] (some (.list true 0 [])) (some (.list false 5 [.agg [Iv e.number,.str e.kind,sl 1 yc e.names,sl 1 yb e.values,.str e.text]]))=some ⟨.vref 8 0 1,false,none,[.cells [(Iv 0,false),(.list true 0 [],false),(.list true 0 [],false),(.list true 0 [],false)],.hole,.cells [(.list true 0 [],false),(.list true 0 [],false),(.list true 0 [],false)],.cells [(.list true 0 [],false),(.vref 6 0 1,false),(.vref 5 1 2,false)],.cells [(.list true 0 [],false),(.list true 0 [],false),(.vref 5 0 1,false)],.vec 4 1 [.agg [Iv 0,.list true 0 [],.list true 0 [],.list true 0 []],.agg [Iv v.1.day,sl 5 zg v.1.lots,sl 4 za v.1.products,sl 8 vun v.1.units]],.vec 5 0 [.agg [Iv e.number,.str e.kind,sl 1 yc e.names,sl 1 yb e.values,.str e.text]],.hole,.vec 5 0 [.agg [Iv e.number,.str e.kind,sl 1 yc e.names,sl 1 yb e.values,.str e.text]]]⟩:=by yf qjo<;>first|rfl|decide|(simp only[go_sem,seval]<;>done)|simp
   refine⟨[.cells [(Iv 0,false),(.list true 0 [],false),(.list true 0 [],false),(.list true 0 [],false)],.hole,.cells [(.list true 0 [],false),(.list true 0 [],false),(.list true 0 [],false)],.cells [(.vref 8 0 1,false),(.vref 6 0 1,false),(.vref 5 1 2,false)],.cells [(.list true 0 [],false),(.list true 0 [],false),(.vref 5 0 1,false)],.vec 4 1 [.agg [Iv 0,.list true 0 [],.list true 0 [],.list true 0 []],.agg [Iv v.1.day,sl 5 zg v.1.lots,sl 4 za v.1.products,sl 8 vun v.1.units]],.vec 5 0 [.agg [Iv e.number,.str e.kind,sl 1 yc e.names,sl 1 yb e.values,.str e.text]],.hole,.vec 5 0 [.agg [Iv e.number,.str e.kind,sl 1 yc e.names,sl 1 yb e.values,.str e.text]]],?_,?_⟩
   ·rw[zc (show pr.fns 65=some c65 from rfl) (by simp)]
    simp only[go_sem,seval,c65,h1,h2,w1,wa,w2,h3,g1,g2,g3,qt4]<;>rfl
   ·simp only[go_sem,seval,(show ∀k b v l,k≤b→below k (.vref b v l)=false from fun k b v l h=>by rw[qym];exact dF (by omega))]<;>rfl
  cases h
  refine⟨[.cells [(Iv 0,false),(.list true 0 [],false),(.list true 0 [],false),(.list true 0 [],false)],.hole,.cells [(.list true 0 [],false),(.list true 0 [],false),(.list true 0 [],false)],.cells [(.list true 0 [],false),(.list true 0 [],false),(.vref 5 0 1,false)],.cells [(.list true 0 [],false),(.list true 0 [],false),(.vref 5 0 1,false)],.vec 4 0 [.agg [Iv 0,.list true 0 [],.list true 0 [],.list true 0 []]]],?_,qao rfl⟩
  rw[zc (show pr.fns 65=some c65 from rfl) (by simp)]
  simp only[go_sem,seval,c65,h1,h2,w1,wa,w2,h3]<;>rfl
 cases h
 refine⟨[.cells [(Iv 0,false),(.list true 0 [],false),(.list true 0 [],false),(.list true 0 [],false)],.hole,.cells [(.list true 0 [],false),(.list true 0 [],false),(.list true 0 [],false)],.cells [(.list true 0 [],false),(.list true 0 [],false),(.vref 5 0 1,false)],.cells [(.list true 0 [],false),(.list true 0 [],false),(.vref 5 0 1,false)],.vec 4 0 [.agg [Iv 0,.list true 0 [],.list true 0 [],.list true 0 []]]],?_,qao rfl⟩
 rw[zc (show pr.fns 65=some c65 from rfl) (by simp)]
 simp only[go_sem,seval,c65,h1]<;>rfl
def HP2:Option HV→zb
 |none=>[.cells [(Iv 0,false),(.list true 0 [],false),(.list true 0 [],false),(.list true 0 [],false)],.hole,.cells [(.list true 0 [],false),(.list true 0 [],false),(.list true 0 [],false)],.cells [(.list true 0 [],false),(.list true 0 [],false),(.vref 5 0 1,false)],.cells [(.list true 0 [],false),(.list true 0 [],false),(.vref 5 0 1,false)],.vec 4 0 [.agg [Iv 0,.list true 0 [],.list true 0 [],.list true 0 []]]]
 |some v=>[.cells [(Iv 0,false),(.list true 0 [],false),(.list true 0 [],false),(.list true 0 [],false)],.hole,.cells [(.list true 0 [],false),(.list true 0 [],false),(.list true 0 [],false)],.cells [(.vref 8 v.ve v.ev.length,false),(.vref 6 v.vc v.lc,false),(.vref 5 v.vs v.ls,false)],.cells [(.list true 0 [],false),(.list true 0 [],false),(.vref 5 0 1,false)],.vec 4 v.vs (v.ss.map yr),.vec 5 v.vc (v.cs.map vev),.hole,.vec 5 v.ve (v.ev.map vev)]
def qe7 (l:Option (List ql))(x:Int×Option HV):qg:=⟨[(2,.ptr 2 0,false),(5,.ptr 3 0,false),(14,sl 5 vev l,false),(15,Lv l,false),(16,Iv x.1,false)],HP2 x.2⟩
def qhh (l:Option (List ql)):(Int×Int×Option HV)⊕(Int×Option HV)→qn×qg
 | .inl d=>(.ret,⟨[(2,.ptr 2 0,false),(3,Iv d.1,false),(4,Iv d.2.1,false)],HP2 d.2.2⟩)
 | .inr d=>(.exit 0,⟨[(2,.ptr 2 0,false),(5,.ptr 3 0,false),(14,sl 5 vev l,false),(15,Lv l,false),(16,Iv d.1,false),(17,.bool false,false)],HP2 d.2⟩)
theorem jt0 (l:Option (List ql))(x:Int×Option HV)(r)(h:s47 l x=some r):y6 pr qck (qe7 l) (qhh l) x r:=by
 rcases x with⟨i,o⟩
 unfold s47 at h
 rcases jx h with⟨h1,h⟩|⟨h1,h⟩
 ·obtain⟨e,h2,h⟩:=jw h
  obtain⟨c,h3,h⟩:=jw h
  have w1:j6 pr (X pr) 11 [.agg [Iv e.number,.str e.kind,sl 1 yc e.names,sl 1 yb e.values,.str e.text]]=some (Iv c,false):=W11 h3
  rcases jx h with⟨h4,h⟩|⟨h4,h⟩
  ·obtain⟨e2,h5,h⟩:=jw h
   obtain⟨q,h6,h⟩:=jw h
   have w2:j6 pr (X pr) 66 [.agg [Iv e.number,.str e.kind,sl 1 yc e.names,sl 1 yb e.values,.str e.text]]=some (.agg [Iv e2.number,.str e2.kind,sl 1 yc e2.names,sl 1 yb e2.values,.str e2.text],false):=W66 h5
   rcases o with _|s
   ·obtain⟨hh,w3,wa⟩:=jj8 (e:=e2) h6
    rcases q with⟨q1,q2⟩
    rcases q2 with _|v
    ·simp only at wa
     rcases jx h with⟨h7,h⟩|⟨h7,h⟩
     ·cases h
      exact qfr (st':=qe7 l (j8 .i64 (i+1),none)) (by simp only[go_sem,seval,qck,qe7,HP2,h1,jz h2,w1,h4,w2,w3,wa,h7]<;>rfl) (qjf (Nat.le_refl _))
     cases h
     exact zd (by simp only[go_sem,seval,qck,qe7,HP2,h1,jz h2,w1,h4,w2,w3,wa,h7,qhh]<;>rfl)
    simp only at wa
    rcases jx h with⟨h7,h⟩|⟨h7,h⟩
    ·cases h
     exact qfr (st':=qe7 l (j8 .i64 (i+1),some v)) (by simp only[go_sem,seval,qck,qe7,HP2,h1,jz h2,w1,h4,w2,w3,wa,h7]<;>rfl) (q6q rfl)
    cases h
    exact zd (by simp only[go_sem,seval,qck,qe7,HP2,h1,jz h2,w1,h4,w2,w3,wa,h7,qhh]<;>rfl)
   obtain⟨q0,h8,h9⟩:=jw h6
   cases h9
   obtain⟨hh,w3,wa⟩:=jyh (e:=e2) h8
   rcases jx h with⟨h7,h⟩|⟨h7,h⟩
   ·cases h
    exact qfr (st':=qe7 l (j8 .i64 (i+1),some q0.2)) (by simp only[go_sem,seval,qck,qe7,HP2,h1,jz h2,w1,h4,w2,w3,wa,h7]<;>rfl) (qjf (Nat.le_refl _))
   cases h
   exact zd (by simp only[go_sem,seval,qck,qe7,HP2,h1,jz h2,w1,h4,w2,w3,wa,h7,qhh]<;>rfl)
  cases h
  rcases o with _|s
  ·exact zd (by simp only[go_sem,seval,qck,qe7,HP2,h1,jz h2,w1,h4,qhh]<;>rfl)
  exact zd (by simp only[go_sem,seval,qck,qe7,HP2,h1,jz h2,w1,h4,qhh]<;>rfl)
 cases h
 exact zd (by simp only[go_sem,seval,qck,qe7,h1,qhh]<;>rfl)
theorem jvc:zj pr (X pr) 96 [] [.cells [(Iv 0,false),(.list true 0 [],false),(.list true 0 [],false),(.list true 0 [],false)],.hole,.cells [(.list true 0 [],false),(.list true 0 [],false),(.list true 0 [],false)],.hole]=some (.agg [.list true 0 [],.list true 0 [],.vref 5 0 1],false,[.cells [(Iv 0,false),(.list true 0 [],false),(.list true 0 [],false),(.list true 0 [],false)],.hole,.cells [(.list true 0 [],false),(.list true 0 [],false),(.list true 0 [],false)],.hole,.cells [(.list true 0 [],false),(.list true 0 [],false),(.vref 5 0 1,false)],.vec 4 0 [.agg [Iv 0,.list true 0 [],.list true 0 [],.list true 0 []]]]):=by
 have vlit1:j9 pr (X pr) 5 none [(1,.agg [Iv 0,.list true 0 [],.list true 0 [],.list true 0 []],false),(0,.ptr 4 0,false)] [.cells [(Iv 0,false),(.list true 0 [],false),(.list true 0 [],false),(.list true 0 [],false)],.hole,.cells [(.list true 0 [],false),(.list true 0 [],false),(.list true 0 [],false)],.hole,.cells [(.list true 0 [],false),(.list true 0 [],false),(.list true 0 [],false)],.hole] (.vlit 0 4 1 [Iv 0,.list true 0 [],.list true 0 [],.list true 0 []] [(0,.tmp 1)])=some ⟨.vref 5 0 1,false,none,[.cells [(Iv 0,false),(.list true 0 [],false),(.list true 0 [],false),(.list true 0 [],false)],.hole,.cells [(.list true 0 [],false),(.list true 0 [],false),(.list true 0 [],false)],.hole,.cells [(.list true 0 [],false),(.list true 0 [],false),(.list true 0 [],false)],.vec 4 0 [.agg [Iv 0,.list true 0 [],.list true 0 [],.list true 0 []]]]⟩:=rfl
 rw[zc (show pr.fns 96=some c96 from rfl) (by simp)]
 simp only[go_sem,seval,c96,vlit1]<;>rfl
def HQ2:Option HV→zb
 |none=>[.cells [(Iv 0,false),(.list true 0 [],false),(.list true 0 [],false),(.list true 0 [],false)],.hole,.cells [(.list true 0 [],false),(.list true 0 [],false),(.vref 5 0 1,false)],.cells [(.list true 0 [],false),(.list true 0 [],false),(.vref 5 0 1,false)],.cells [(.list true 0 [],false),(.list true 0 [],false),(.vref 5 0 1,false)],.vec 4 0 [.agg [Iv 0,.list true 0 [],.list true 0 [],.list true 0 []]]]
 |some v=>[.cells [(Iv 0,false),(.list true 0 [],false),(.list true 0 [],false),(.list true 0 [],false)],.hole,.cells [(.vref 8 v.ve v.ev.length,false),(.vref 6 v.vc v.lc,false),(.vref 5 v.vs v.ls,false)],.cells [(.vref 8 v.ve v.ev.length,false),(.vref 6 v.vc v.lc,false),(.vref 5 v.vs v.ls,false)],.cells [(.list true 0 [],false),(.list true 0 [],false),(.vref 5 0 1,false)],.vec 4 v.vs (v.ss.map yr),.vec 5 v.vc (v.cs.map vev),.hole,.vec 5 v.ve (v.ev.map vev)]
def hv2:Option HV→qa
 |none=>.agg [.list true 0 [],.list true 0 [],.vref 5 0 1]
 |some v=>.agg [.vref 8 v.ve v.ev.length,.vref 6 v.vc v.lc,.vref 5 v.vs v.ls]
def rs2:(Int × Int)⊕Option HV→qa
 | .inl x=>.tup [.agg [.list true 0 [],.list true 0 [],.list true 0 []],Iv x.1,Iv x.2]
 | .inr o=>.tup [hv2 o,Iv 0,Iv 0]
def HR2:(Int × Int)⊕Option HV→zb
 | .inl _=>[.cells [(Iv 0,false),(.list true 0 [],false),(.list true 0 [],false),(.list true 0 [],false)],.hole]
 | .inr o=>HQ2 o
theorem jzc {l:Option (List ql)}{r}(h:f47 l=some r):∃hh,zj pr (X pr) 47 [sl 5 vev l] [.cells [(Iv 0,false),(.list true 0 [],false),(.list true 0 [],false),(.list true 0 [],false)],.hole]=some (rs2 r,false,hh)∧yt 2 (rs2 r) hh=HR2 r:=by
 unfold f47 at h
 rcases jx h with⟨h1,h⟩|⟨h1,h⟩
 ·cases h
  refine⟨[.cells [(Iv 0,false),(.list true 0 [],false),(.list true 0 [],false),(.list true 0 [],false)],.hole,.cells [(.list true 0 [],false),(.list true 0 [],false),(.list true 0 [],false)]],?_,?_⟩
  ·rw[zc (show pr.fns 47=some c47 from rfl) (by simp)]
   simp only[go_sem,seval,c47,h1]<;>rfl
  ·simp only[go_sem,seval,rs2,HR2]<;>rfl
 obtain⟨d,h2,h⟩:=jw h
 have w:=jvc
 have wa:yt 4 (.agg [.list true 0 [],.list true 0 [],.vref 5 0 1]) [.cells [(Iv 0,false),(.list true 0 [],false),(.list true 0 [],false),(.list true 0 [],false)],.hole,.cells [(.list true 0 [],false),(.list true 0 [],false),(.list true 0 [],false)],.hole,.cells [(.list true 0 [],false),(.list true 0 [],false),(.vref 5 0 1,false)],.vec 4 0 [.agg [Iv 0,.list true 0 [],.list true 0 [],.list true 0 []]]]=[.cells [(Iv 0,false),(.list true 0 [],false),(.list true 0 [],false),(.list true 0 [],false)],.hole,.cells [(.list true 0 [],false),(.list true 0 [],false),(.list true 0 [],false)],.hole,.cells [(.list true 0 [],false),(.list true 0 [],false),(.vref 5 0 1,false)],.vec 4 0 [.agg [Iv 0,.list true 0 [],.list true 0 [],.list true 0 []]]]:=by simp only[go_sem,seval]<;>rfl
 have wl:X pr (.loop qck) ⟨[(2,.ptr 2 0,false),(5,.ptr 3 0,false),(14,sl 5 vev l,false),(15,Lv l,false),(16,Iv 0,false)],[.cells [(Iv 0,false),(.list true 0 [],false),(.list true 0 [],false),(.list true 0 [],false)],.hole,.cells [(.list true 0 [],false),(.list true 0 [],false),(.list true 0 [],false)],.cells [(.list true 0 [],false),(.list true 0 [],false),(.vref 5 0 1,false)],.cells [(.list true 0 [],false),(.list true 0 [],false),(.vref 5 0 1,false)],.vec 4 0 [.agg [Iv 0,.list true 0 [],.list true 0 [],.list true 0 []]]]⟩=some (qhh l d):=km (jt0 l) (fun d=>by rcases d with d|d<;>(intro hh;cases hh)) h2
 rcases d with⟨d1,d2,d3⟩|⟨d1,d2⟩
 ·cases h
  simp only[qhh]at wl
  rcases d3 with _|v
  ·refine⟨[.cells [(Iv 0,false),(.list true 0 [],false),(.list true 0 [],false),(.list true 0 [],false)],.hole,.cells [(.list true 0 [],false),(.list true 0 [],false),(.list true 0 [],false)],.cells [(.list true 0 [],false),(.list true 0 [],false),(.vref 5 0 1,false)],.cells [(.list true 0 [],false),(.list true 0 [],false),(.vref 5 0 1,false)],.vec 4 0 [.agg [Iv 0,.list true 0 [],.list true 0 [],.list true 0 []]]],?_,?_⟩
   ·simp only[HP2]at wl
    rw[zc (show pr.fns 47=some c47 from rfl) (by simp)]
    simp only[go_sem,seval,c47,h1,w,wa,wl]<;>rfl
   ·simp only[go_sem,seval,rs2,HR2]<;>rfl
  refine⟨[.cells [(Iv 0,false),(.list true 0 [],false),(.list true 0 [],false),(.list true 0 [],false)],.hole,.cells [(.list true 0 [],false),(.list true 0 [],false),(.list true 0 [],false)],.cells [(.vref 8 v.ve v.ev.length,false),(.vref 6 v.vc v.lc,false),(.vref 5 v.vs v.ls,false)],.cells [(.list true 0 [],false),(.list true 0 [],false),(.vref 5 0 1,false)],.vec 4 v.vs (v.ss.map yr),.vec 5 v.vc (v.cs.map vev),.hole,.vec 5 v.ve (v.ev.map vev)],?_,?_⟩
  ·simp only[HP2]at wl
   rw[zc (show pr.fns 47=some c47 from rfl) (by simp)]
   simp only[go_sem,seval,c47,h1,w,wa,wl]<;>rfl
  ·simp only[go_sem,seval,rs2,HR2]<;>rfl
 cases h
 simp only[qhh]at wl
 refine⟨HQ2 d2,?_,?_⟩
 ·rw[zc (show pr.fns 47=some c47 from rfl) (by simp)]
  rcases d2 with _|v
  ·simp only[HP2]at wl
   simp only[go_sem,seval,c47,h1,w,wa,wl,hv2,HQ2]<;>rfl
  simp only[HP2]at wl
  simp only[go_sem,seval,c47,h1,w,wa,wl,hv2,HQ2]<;>rfl
 ·rcases d2 with _|v
  ·simp only[go_sem,seval,rs2,HR2,hv2,HQ2]<;>rfl
  simp only[go_sem,seval,rs2,HR2,hv2,HQ2]<;>rfl
end Go.Z
namespace Go.Z
open Go Go.Abs Go.W
theorem jlo:zj pr (X pr) 48 [.ptr 1 0] [.cells [(Iv 0,false),(.list true 0 [],false),(.list true 0 [],false),(.list true 0 [],false)],.cells [(.list true 0 [],false),(.list true 0 [],false),(.vref 5 0 1,false)],.cells [(.list true 0 [],false),(.list true 0 [],false),(.vref 5 0 1,false)],.cells [(.list true 0 [],false),(.list true 0 [],false),(.vref 5 0 1,false)],.cells [(.list true 0 [],false),(.list true 0 [],false),(.vref 5 0 1,false)],.vec 4 0 [.agg [Iv 0,.list true 0 [],.list true 0 [],.list true 0 []]]]=some (.agg [Iv 0,.list true 0 [],.list true 0 [],.list true 0 []],false,[.cells [(Iv 0,false),(.list true 0 [],false),(.list true 0 [],false),(.list true 0 [],false)],.cells [(.list true 0 [],false),(.list true 0 [],false),(.vref 5 0 1,false)],.cells [(.list true 0 [],false),(.list true 0 [],false),(.vref 5 0 1,false)],.cells [(.list true 0 [],false),(.list true 0 [],false),(.vref 5 0 1,false)],.cells [(.list true 0 [],false),(.list true 0 [],false),(.vref 5 0 1,false)],.vec 4 0 [.agg [Iv 0,.list true 0 [],.list true 0 [],.list true 0 []]],.cells [(Iv 0,false),(.list true 0 [],false),(.list true 0 [],false),(.list true 0 [],false)]]):=by
 have g1:∀h:zb,qd2 4 h (some (.vref 5 0 1)) (some (Iv (j8 .i64 0)))=some ⟨.vel 5 0 0,false,none,h⟩:=fun h=>(qf8 (l:=[zreg]) (x:=zreg) rfl).1
 have g2:qa5 7 (some []) true 4 [.cells [(Iv 0,false),(.list true 0 [],false),(.list true 0 [],false),(.list true 0 [],false)],.cells [(.list true 0 [],false),(.list true 0 [],false),(.vref 5 0 1,false)],.cells [(.list true 0 [],false),(.list true 0 [],false),(.vref 5 0 1,false)],.cells [(.list true 0 [],false),(.list true 0 [],false),(.vref 5 0 1,false)],.cells [(.list true 0 [],false),(.list true 0 [],false),(.vref 5 0 1,false)],.vec 4 0 [.agg [Iv 0,.list true 0 [],.list true 0 [],.list true 0 []]],.cells [(Iv 0,false),(.list true 0 [],false),(.list true 0 [],false),(.list true 0 [],false)]] (some (.vel 5 0 0))=some ⟨.agg [Iv 0,.list true 0 [],.list true 0 [],.list true 0 []],false,none,[.cells [(Iv 0,false),(.list true 0 [],false),(.list true 0 [],false),(.list true 0 [],false)],.cells [(.list true 0 [],false),(.list true 0 [],false),(.vref 5 0 1,false)],.cells [(.list true 0 [],false),(.list true 0 [],false),(.vref 5 0 1,false)],.cells [(.list true 0 [],false),(.list true 0 [],false),(.vref 5 0 1,false)],.cells [(.list true 0 [],false),(.list true 0 [],false),(.vref 5 0 1,false)],.vec 4 0 [.agg [Iv 0,.list true 0 [],.list true 0 [],.list true 0 []]],.cells [(Iv 0,false),(.list true 0 [],false),(.list true 0 [],false),(.list true 0 [],false)]]⟩:=rfl
 rw[zc (show pr.fns 48=some c48 from rfl) (by simp)]
 simp only[go_sem,seval,c48,g1,g2]<;>rfl
theorem jte {s:HV}{r:qc}(hx:zz (s.ss.take s.ls) (j8 .i64 ((s.ls:Int)-1))=some r):zj pr (X pr) 48 [.ptr 1 0] [.cells [(Iv 0,false),(.list true 0 [],false),(.list true 0 [],false),(.list true 0 [],false)],.cells [(.vref 8 s.ve s.ev.length,false),(.vref 6 s.vc s.lc,false),(.vref 5 s.vs s.ls,false)],.cells [(.vref 8 s.ve s.ev.length,false),(.vref 6 s.vc s.lc,false),(.vref 5 s.vs s.ls,false)],.cells [(.vref 8 s.ve s.ev.length,false),(.vref 6 s.vc s.lc,false),(.vref 5 s.vs s.ls,false)],.cells [(.list true 0 [],false),(.list true 0 [],false),(.vref 5 0 1,false)],.vec 4 s.vs (s.ss.map yr),.vec 5 s.vc (s.cs.map vev),.hole,.vec 5 s.ve (s.ev.map vev)]=some (.agg [Iv r.day,sl 5 zg r.lots,sl 4 za r.products,sl 8 vun r.units],false,[.cells [(Iv 0,false),(.list true 0 [],false),(.list true 0 [],false),(.list true 0 [],false)],.cells [(.vref 8 s.ve s.ev.length,false),(.vref 6 s.vc s.lc,false),(.vref 5 s.vs s.ls,false)],.cells [(.vref 8 s.ve s.ev.length,false),(.vref 6 s.vc s.lc,false),(.vref 5 s.vs s.ls,false)],.cells [(.vref 8 s.ve s.ev.length,false),(.vref 6 s.vc s.lc,false),(.vref 5 s.vs s.ls,false)],.cells [(.list true 0 [],false),(.list true 0 [],false),(.vref 5 0 1,false)],.vec 4 s.vs (s.ss.map yr),.vec 5 s.vc (s.cs.map vev),.hole,.vec 5 s.ve (s.ev.map vev),.cells [(Iv r.day,false),(sl 5 zg r.lots,false),(sl 4 za r.products,false),(sl 8 vun r.units,false)]]):=by
 have g1:∀h:zb,qd2 4 h (some (.vref 5 s.vs s.ls)) (some (Iv (j8 .i64 ((s.ls:Int)-1))))=some ⟨.vel 5 s.vs ((j8 .i64 ((s.ls:Int)-1)).toNat*4),false,none,h⟩:=fun h=>(qf8 hx).1
 have g2:qa5 10 (some []) true 4 [.cells [(Iv 0,false),(.list true 0 [],false),(.list true 0 [],false),(.list true 0 [],false)],.cells [(.vref 8 s.ve s.ev.length,false),(.vref 6 s.vc s.lc,false),(.vref 5 s.vs s.ls,false)],.cells [(.vref 8 s.ve s.ev.length,false),(.vref 6 s.vc s.lc,false),(.vref 5 s.vs s.ls,false)],.cells [(.vref 8 s.ve s.ev.length,false),(.vref 6 s.vc s.lc,false),(.vref 5 s.vs s.ls,false)],.cells [(.list true 0 [],false),(.list true 0 [],false),(.vref 5 0 1,false)],.vec 4 s.vs (s.ss.map yr),.vec 5 s.vc (s.cs.map vev),.hole,.vec 5 s.ve (s.ev.map vev),.cells [(Iv 0,false),(.list true 0 [],false),(.list true 0 [],false),(.list true 0 [],false)]] (some (.vel 5 s.vs ((j8 .i64 ((s.ls:Int)-1)).toNat*4)))=some ⟨.agg [Iv r.day,sl 5 zg r.lots,sl 4 za r.products,sl 8 vun r.units],false,none,[.cells [(Iv 0,false),(.list true 0 [],false),(.list true 0 [],false),(.list true 0 [],false)],.cells [(.vref 8 s.ve s.ev.length,false),(.vref 6 s.vc s.lc,false),(.vref 5 s.vs s.ls,false)],.cells [(.vref 8 s.ve s.ev.length,false),(.vref 6 s.vc s.lc,false),(.vref 5 s.vs s.ls,false)],.cells [(.vref 8 s.ve s.ev.length,false),(.vref 6 s.vc s.lc,false),(.vref 5 s.vs s.ls,false)],.cells [(.list true 0 [],false),(.list true 0 [],false),(.vref 5 0 1,false)],.vec 4 s.vs (s.ss.map yr),.vec 5 s.vc (s.cs.map vev),.hole,.vec 5 s.ve (s.ev.map vev),.cells [(Iv 0,false),(.list true 0 [],false),(.list true 0 [],false),(.list true 0 [],false)]]⟩:=qv7 q1q rfl rfl (qf8 (sz:=4) (b:=0) (v:=0) (h:=[]) hx).2
 rw[zc (show pr.fns 48=some c48 from rfl) (by simp)]
 simp only[go_sem,seval,c48,g1,g2]<;>rfl
def jk5:Option HV→Option qc
 |none=>some zreg
 |some s=>zz (s.ss.take s.ls) (j8 .i64 ((s.ls:Int)-1))
def f9 (l:Option (List ql)):Option (qc×Int×Int):=jy (f47 l) fun r=>match r with
 | .inl x=>cond (decide (x.2=0)) none (some (zreg,x.1,x.2))
 | .inr o=>jy (jk5 o) fun r=>some (r,0,0)
theorem W9 {l:Option (List ql)}{r}(h:f9 l=some r):j6 pr (X pr) 9 [sl 5 vev l]=some (.tup [.agg [Iv r.1.day,sl 5 zg r.1.lots,sl 4 za r.1.products,sl 8 vun r.1.units],Iv r.2.1,Iv r.2.2],false):=by
 unfold f9 at h
 obtain⟨x,h1,h⟩:=jw h
 obtain⟨hh,w,wa⟩:=jzc h1
 rcases x with x|o
 ·rcases jx h with⟨h2,h⟩|⟨h2,h⟩
  ·cases h
  cases h
  simp only[rs2,HR2]at w wa
  refine zk c9 ?_
  simp only[go_sem,seval,c9,w,wa,h2]
  exact⟨_,rfl⟩
 obtain⟨r,h2,h⟩:=jw h
 cases h
 rcases o with _|v
 ·cases h2
  simp only[rs2,HR2,HQ2,hv2]at w wa
  have w2:=jlo
  have wb:yt 6 (.agg [Iv 0,.list true 0 [],.list true 0 [],.list true 0 []]) [.cells [(Iv 0,false),(.list true 0 [],false),(.list true 0 [],false),(.list true 0 [],false)],.cells [(.list true 0 [],false),(.list true 0 [],false),(.vref 5 0 1,false)],.cells [(.list true 0 [],false),(.list true 0 [],false),(.vref 5 0 1,false)],.cells [(.list true 0 [],false),(.list true 0 [],false),(.vref 5 0 1,false)],.cells [(.list true 0 [],false),(.list true 0 [],false),(.vref 5 0 1,false)],.vec 4 0 [.agg [Iv 0,.list true 0 [],.list true 0 [],.list true 0 []]],.cells [(Iv 0,false),(.list true 0 [],false),(.list true 0 [],false),(.list true 0 [],false)]]=[.cells [(Iv 0,false),(.list true 0 [],false),(.list true 0 [],false),(.list true 0 [],false)],.cells [(.list true 0 [],false),(.list true 0 [],false),(.vref 5 0 1,false)],.cells [(.list true 0 [],false),(.list true 0 [],false),(.vref 5 0 1,false)],.cells [(.list true 0 [],false),(.list true 0 [],false),(.vref 5 0 1,false)],.cells [(.list true 0 [],false),(.list true 0 [],false),(.vref 5 0 1,false)],.vec 4 0 [.agg [Iv 0,.list true 0 [],.list true 0 [],.list true 0 []]]]:=by simp only[go_sem,seval]<;>rfl
  refine zk c9 ?_
  simp only[go_sem,seval,c9,w,wa,w2,wb]
  exact⟨_,rfl⟩
 simp only[rs2,HR2,HQ2,hv2]at w wa
 have w2:=jte (s:=v) h2
 have wb:yt 9 (.agg [Iv r.day,sl 5 zg r.lots,sl 4 za r.products,sl 8 vun r.units]) [.cells [(Iv 0,false),(.list true 0 [],false),(.list true 0 [],false),(.list true 0 [],false)],.cells [(.vref 8 v.ve v.ev.length,false),(.vref 6 v.vc v.lc,false),(.vref 5 v.vs v.ls,false)],.cells [(.vref 8 v.ve v.ev.length,false),(.vref 6 v.vc v.lc,false),(.vref 5 v.vs v.ls,false)],.cells [(.vref 8 v.ve v.ev.length,false),(.vref 6 v.vc v.lc,false),(.vref 5 v.vs v.ls,false)],.cells [(.list true 0 [],false),(.list true 0 [],false),(.vref 5 0 1,false)],.vec 4 v.vs (v.ss.map yr),.vec 5 v.vc (v.cs.map vev),.hole,.vec 5 v.ve (v.ev.map vev),.cells [(Iv r.day,false),(sl 5 zg r.lots,false),(sl 4 za r.products,false),(sl 8 vun r.units,false)]]=[.cells [(Iv 0,false),(.list true 0 [],false),(.list true 0 [],false),(.list true 0 [],false)],.cells [(.vref 8 v.ve v.ev.length,false),(.vref 6 v.vc v.lc,false),(.vref 5 v.vs v.ls,false)],.cells [(.vref 8 v.ve v.ev.length,false),(.vref 6 v.vc v.lc,false),(.vref 5 v.vs v.ls,false)],.cells [(.vref 8 v.ve v.ev.length,false),(.vref 6 v.vc v.lc,false),(.vref 5 v.vs v.ls,false)],.cells [(.list true 0 [],false),(.list true 0 [],false),(.vref 5 0 1,false)],.vec 4 v.vs (v.ss.map yr),.vec 5 v.vc (v.cs.map vev),.hole,.vec 5 v.ve (v.ev.map vev)]:=by simp only[go_sem,seval]<;>rfl
 refine zk c9 ?_
 simp only[go_sem,seval,c9,w,wa,w2,wb]
 exact⟨_,rfl⟩
end Go.Z
end
