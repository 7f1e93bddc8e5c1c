/- Chapter 10. -/
import Derived.Test.YtfopaakmgogpiaaGreatDoorV8
import Derived.Test.YtfopaakmgogpiaaGreatDoorW14
import Derived.Test.YtfopaakmgogpiaaGreatDoorW1
set_option linter.unusedVariables false
set_option linter.unusedSimpArgs false
set_option maxRecDepth 100000
set_option maxHeartbeats 4000000
noncomputable section
namespace Go.Z
open Go Go.Abs Go.W
@[go_sem] theorem j7r {b v l:Nat}:(qa.vref b v l).flat=[.vref b v l]:=rfl
@[go_sem] theorem zio {b v l:Nat}:ze (.vref b v l)=true:=rfl
@[go_sem] theorem j80 {b v l:Nat}:qa.isList (.vref b v l)=false:=rfl
theorem jht:∀ x:ql,(vev x).flat.length=5:=fun _=>rfl
theorem q1g:∀ x:qc,(yb x).flat.length=4:=fun _=>rfl
section
variable {h:j8}{α:Type}
theorem qfb {sz b v len:Nat}{l:List α}{i:Int}{x:α}(hx:zo (l.take len) i=some x):qcq sz h (some (.vref b v len)) (some (Iv i))=some ⟨.vel b v (i.toNat*sz),false,none,h⟩∧l[i.toNat]?=some x:=by
 unfold zo at hx
 split at hx
 ·rename_i hi
  have h2:=(List.getElem?_eq_some_iff.1 hx).1
  rw[List.length_take]at h2
  have h3:i.toNat<len:=by omega
  refine⟨?_,?_⟩
  ·have:=jch (sz:=sz) (h:=h) (b:=b) (v:=v) (k:=.i64) h3
   rw[Int.toNat_of_nonneg hi]at this
   exact this
  ·rw[List.getElem?_take,if_pos h3]at hx
   exact hx
 ·cases hx
theorem qyz {sz b v len:Nat}{i:Int}(hi:0≤i)(hl:i≤(len:Int)):qgu sz h (some (.vref b v len)) none (some (some (Iv i)))=some ⟨.vref b v i.toNat,false,none,h⟩:=by
 have:qk7 len len (some (some (Iv i)))=some i.toNat:=by
  simp only[qk7,qo3]
  cases i with
  |ofNat n=>
   have h1:((n:Nat):Int)≤(len:Int):=hl
   have h2:n≤len:=by omega
   simp only[Nat.ble_eq_true_of_le h2,cT]
   rfl
  |negSucc n=>omega
 simp only[qgu,this]
 rfl
def qhq (xs:List α)(len:Nat)(x:α):Option (List α):=if len≤xs.length∧len+1≤1073741824 then some (xs.take len++[x])else none
theorem qe0 {h0 b v len r sz bytes:Nat}{c:Bool}{f:α→qa}{l l':List α}{x:α}(hp:qhq l len x=some l')(hb:h[b]?=some (.vec sz v (l.map f)))(hx:zu 0 [f x]=true)(hz:0<sz)(hby:bytes≤4096)(hr:r<1000):
  qbg h0 r sz bytes h (some (.vref b v len)) (some (.list c sz [f x]))=some ⟨.vref b (v+1) (len+1),false,none,h.set b (.vec sz (v+1) (l'.map f))⟩:=by
 unfold qhq at hp
 split at hp
 ·rename_i hl
  cases hp
  have:=jbn (h:=h) (h0:=h0) (c:=c) (ys:=[f x]) hb (by rw[List.length_map];exact hl.1) (by simpa using hl.2) hby hz hx hr
  rw[this]
  simp[List.map_take]
 ·cases hp
end
structure HV where
 ev:List ql
 ve:Nat
 cs:List ql
 lc:Nat
 vc:Nat
 ss:List qc
 ls:Nat
 vs:Nat
abbrev kV (v:HV)(a b c:Nat):qn:=.cells [(.vref a v.ve v.ev.length,false),(.vref b v.vc v.lc,false),(.vref c v.vs v.ls,false)]
theorem q6l {n:Nat}{st:qg}(h:ki n (st.heap.take n)=false):gc n st=st:=by
 unfold gc
 rw[h,Bool.and_false,cond_false]
 cases Nat.ble st.heap.length n<;>rfl
theorem qg6 {α:Type}{l l':List α}{x:α}(h:qhq l l.length x=some l'):l'.length=l.length+1:=by
 unfold qhq at h
 split at h
 ·cases h;simp
 ·cases h
def qpg (s:HV)(e:ql):Option (Int×HV):=
 cond (decide (e.number=j6 .i64 ((s.ev.length:Int)+1)))
  (cond (decide (e.kind=([117,110,100,111]:List UInt8)))
   (jw (f53 (decide ((s.lc:Int)=0)) 12) fun e1=>
   cond (decide (0<(s.lc:Int)))
    (jw (zo (s.cs.take s.lc) (max 0 (j6 .i64 ((s.lc:Int)-1)))) fun x=>
    jw (f53 (decide (x.kind=([115,104,105,112]:List UInt8))) 19) fun e2=>
    jw (f51 (some [e1,e2])) fun e3=>
    cond (decide (e3=0))
     (cond (decide (0≤j6 .i64 ((s.lc:Int)-1)∧j6 .i64 ((s.lc:Int)-1)≤(s.lc:Int)∧s.lc≤s.ls))
      (jw (qhq s.ev s.ev.length e) fun ev=>some (0,{ s with ev:=ev,ve:=s.ve+1,lc:=(j6 .i64 ((s.lc:Int)-1)).toNat,ls:=s.lc }))
      none)
     (some (e3,s)))
    (jw (f53 false 19) fun e2=>jw (f51 (some [e1,e2])) fun e3=>cond (decide (e3=0)) none (some (e3,s))))
   (jw (zo (s.ss.take s.ls) (j6 .i64 ((s.ls:Int)-1))) fun r=>
   jw (f121 r e) fun v=>
   cond (decide (v.2=0))
    (jw (qhq s.cs s.lc e) fun cs=>jw (qhq s.ss s.ls v.1) fun ss=>jw (qhq s.ev s.ev.length e) fun ev=>
    some (0,{ ev:=ev,ve:=s.ve+1,cs:=cs,lc:=s.lc+1,vc:=s.vc+1,ss:=ss,ls:=s.ls+1,vs:=s.vs+1 }))
    (some (v.2,s))))
  (some (11,s))
theorem qto:decide (((([]:List qa).length:Nat):Int)=0)=true:=rfl
theorem je1:decide ((0:Int)<((([]:List qa).length:Nat):Int))=false:=rfl
theorem jij:decide ((0:Int)<((0:Nat):Int))=false:=rfl
def zreg:qc:=⟨0,none,none,none⟩
def qjy (e:ql):Option (Int×Option HV):=
 cond (decide (e.number=j6 .i64 1))
  (cond (decide (e.kind=([117,110,100,111]:List UInt8)))
   (jw (f53 true 12) fun e1=>jw (f53 false 19) fun e2=>jw (f51 (some [e1,e2])) fun e3=>cond (decide (e3=0)) none (some (e3,none)))
   (jw (f121 zreg e) fun v=>
   cond (decide (v.2=0))
    (some (0,some { ev:=[e],ve:=0,cs:=[e],lc:=1,vc:=0,ss:=[zreg,v.1],ls:=2,vs:=1 }))
    (some (v.2,none))))
  (some (11,none))
def q1s (s:Option HV)(e:ql):Option (Int×Option HV):=match s with
 |none=>qjy e
 |some s=>jw (qpg s e) fun q=>some (q.1,some q.2)
def s47 (l:Option (List ql))(x:Int×Option HV):Option ((Int×Option HV)⊕((Int×Int×Option HV)⊕(Int×Option HV))):=
 cond (decide (x.1<((l.getD []).length:Int)))
  (jw (zo (l.getD []) x.1) fun e=>
  jw (f11 e) fun c=>
  cond (decide (c=0))
   (jw (f66 e) fun e2=>
   jw (q1s x.2 e2) fun q=>
   cond (decide (q.1=0))
    (some (.inl (j6 .i64 (x.1+1),q.2)))
    (some (.inr (.inl (j6 .i64 (x.1+1),q.1,q.2)))))
   (some (.inr (.inl (j6 .i64 (x.1+1),c,x.2)))))
  (some (.inr (.inr x)))
def f47 (l:Option (List ql)):Option ((Int×Int)⊕Option HV):=
 cond (decide (1000<((l.getD []).length:Int)))
  (some (.inl (0,5)))
  (jw (itO (s47 l) (0,none)) fun d=>match d with
  | .inl d=>some (.inl (d.1,d.2.1))
  | .inr d=>some (.inr d.2))
theorem j1x {s:HV}{r:qc}(hx:zo (s.ss.take s.ls) (j6 .i64 ((s.ls:Int)-1))=some r):zf pr (X pr) 48 [.ptr 3 0] [kZ,.hole,kO,kV s 8 6 5,kP5,.vec 4 s.vs (s.ss.map yb),.vec 5 s.vc (s.cs.map vev),.hole,.vec 5 s.ve (s.ev.map vev)]=some (aR r,false,[kZ,.hole,kO,kV s 8 6 5,kP5,.vec 4 s.vs (s.ss.map yb),.vec 5 s.vc (s.cs.map vev),.hole,.vec 5 s.ve (s.ev.map vev),kR r.day r.lots r.products r.units]):=by
 have g1:∀h:j8,qcq 4 h (some (.vref 5 s.vs s.ls)) (some (Iv (j6 .i64 ((s.ls:Int)-1))))=some ⟨.vel 5 s.vs ((j6 .i64 ((s.ls:Int)-1)).toNat*4),false,none,h⟩:=fun h=>(qfb hx).1
 have g2:qas 10 (some []) true 4 [kZ,.hole,kO,kV s 8 6 5,kP5,.vec 4 s.vs (s.ss.map yb),.vec 5 s.vc (s.cs.map vev),.hole,.vec 5 s.ve (s.ev.map vev),kZ] (some (.vel 5 s.vs ((j6 .i64 ((s.ls:Int)-1)).toNat*4)))=some ⟨aR r,false,none,[kZ,.hole,kO,kV s 8 6 5,kP5,.vec 4 s.vs (s.ss.map yb),.vec 5 s.vc (s.cs.map vev),.hole,.vec 5 s.ve (s.ev.map vev),kZ]⟩:=qvx q1g rfl rfl (qfb (sz:=4) (b:=0) (v:=0) (h:=[]) hx).2
 rw[zd (show pr.fns 48=some c48 from rfl) (by simp)]
 simp only[go_sem,seval,c48,g1,g2]<;>rfl
theorem j5n {s:HV}{e:ql}{q}(h:qpg s e=some q):∃hh,zf pr (X pr) 65 [.ptr 3 0,aE e] [kZ,.hole,kO,kV s 8 6 5,kP5,.vec 4 s.vs (s.ss.map yb),.vec 5 s.vc (s.cs.map vev),.hole,.vec 5 s.ve (s.ev.map vev)]=some (Iv q.1,false,hh)∧yi 9 (Iv q.1) hh=[kZ,.hole,kO,.cells [(.vref 8 q.2.ve q.2.ev.length,false),(.vref 6 q.2.vc q.2.lc,false),(.vref 5 q.2.vs q.2.ls,false)],kP5,.vec 4 q.2.vs (q.2.ss.map yb),.vec 5 q.2.vc (q.2.cs.map vev),.hole,.vec 5 q.2.ve (q.2.ev.map vev)]:=by
 unfold qpg at h
 rcases jz h with⟨h1,h⟩|⟨h1,h⟩
 ·rcases jz h with⟨h2,h⟩|⟨h2,h⟩
  ·obtain⟨e1,k1,h⟩:=jx h
   have w1:=W53 k1
   rcases jz h with⟨h3,h⟩|⟨h3,h⟩
   ·obtain⟨x,k2,h⟩:=jx h
    obtain⟨e2,k3,h⟩:=jx h
    obtain⟨e3,k4,h⟩:=jx h
    have w2:=W53 k3
    have w3:jy pr (X pr) 51 [.list false 1 [Iv e1,Iv e2]]=some (Iv e3,false):=W51 k4
    have g1:∀h:j8,qcq 5 h (some (.vref 6 s.vc s.lc)) (some (Iv (max 0 (j6 .i64 ((s.lc:Int)-1)))))=some ⟨.vel 6 s.vc ((max 0 (j6 .i64 ((s.lc:Int)-1))).toNat*5),false,none,h⟩:=fun h=>(qfb k2).1
    have g2:qas 9 none false 1 [kZ,.hole,kO,kV s 8 6 5,kP5,.vec 4 s.vs (s.ss.map yb),.vec 5 s.vc (s.cs.map vev),.hole,.vec 5 s.ve (s.ev.map vev)] (some (.vel 6 s.vc ((max 0 (j6 .i64 ((s.lc:Int)-1))).toNat*5+1)))=some ⟨.str x.kind,false,none,[kZ,.hole,kO,kV s 8 6 5,kP5,.vec 4 s.vs (s.ss.map yb),.vec 5 s.vc (s.cs.map vev),.hole,.vec 5 s.ve (s.ev.map vev)]⟩:=q4k (f:=vev) (o:=1) jht rfl rfl (qfb (sz:=4) (b:=0) (v:=0) (h:=[]) k2).2 rfl
    rcases jz h with⟨h4,h⟩|⟨h4,h⟩
    ·rcases jz h with⟨h5,h⟩|⟨_,h⟩
     ·obtain⟨ev,hev,h⟩:=jx h
      cases h
      have c5:=of_decide_eq_true h5
      have hln:ev.length=s.ev.length+1:=qg6 hev
      have g3:∀h:j8,qgu 5 h (some (.vref 6 s.vc s.lc)) none (some (some (Iv (j6 .i64 ((s.lc:Int)-1)))))=some ⟨.vref 6 s.vc (j6 .i64 ((s.lc:Int)-1)).toNat,false,none,h⟩:=fun h=>qyz c5.1 c5.2.1
      have g4:∀h:j8,qgu 4 h (some (.vref 5 s.vs s.ls)) none (some (some (Iv (s.lc:Int))))=some ⟨.vref 5 s.vs s.lc,false,none,h⟩:=fun h=>qyz (by omega) (by have:=c5.2.2;omega)
      have g5:qbg 9 0 5 88 [kZ,.hole,kO,.cells [(.vref 8 s.ve s.ev.length,false),(.vref 6 s.vc (j6 .i64 ((s.lc:Int)-1)).toNat,false),(.vref 5 s.vs s.lc,false)],kP5,.vec 4 s.vs (s.ss.map yb),.vec 5 s.vc (s.cs.map vev),.hole,.vec 5 s.ve (s.ev.map vev),.hole] (some (.vref 8 s.ve s.ev.length)) (some (.list false 5 [aE e]))=some ⟨.vref 8 (s.ve+1) (s.ev.length+1),false,none,[kZ,.hole,kO,.cells [(.vref 8 s.ve s.ev.length,false),(.vref 6 s.vc (j6 .i64 ((s.lc:Int)-1)).toNat,false),(.vref 5 s.vs s.lc,false)],kP5,.vec 4 s.vs (s.ss.map yb),.vec 5 s.vc (s.cs.map vev),.hole,.vec 5 (s.ve+1) (ev.map vev),.hole]⟩:=qe0 (f:=vev) (x:=e) hev rfl (by simp only[go_sem,seval]) (by decide) (by decide) (by decide)
      refine⟨[kZ,.hole,kO,.cells [(.vref 8 (s.ve+1) (s.ev.length+1),false),(.vref 6 s.vc (j6 .i64 ((s.lc:Int)-1)).toNat,false),(.vref 5 s.vs s.lc,false)],kP5,.vec 4 s.vs (s.ss.map yb),.vec 5 s.vc (s.cs.map vev),.hole,.vec 5 (s.ve+1) (ev.map vev),.hole],?_,?_⟩
      ·rw[zd (show pr.fns 65=some c65 from rfl) (by simp)]
       simp only[go_sem,seval,c65,h1,h2,w1,h3,g1,g2,w2,w3,h4,g3,g4,g5]<;>rfl
      ·simp only[hln]
       simp only[go_sem,seval]<;>rfl
     ·cases h
    ·cases h
     refine⟨[kZ,.hole,kO,kV s 8 6 5,kP5,.vec 4 s.vs (s.ss.map yb),.vec 5 s.vc (s.cs.map vev),.hole,.vec 5 s.ve (s.ev.map vev)],?_,qaa rfl⟩
     rw[zd (show pr.fns 65=some c65 from rfl) (by simp)]
     simp only[go_sem,seval,c65,h1,h2,w1,h3,g1,g2,w2,w3,h4]<;>rfl
   ·obtain⟨e2,k3,h⟩:=jx h
    obtain⟨e3,k4,h⟩:=jx h
    have w2:=W53 k3
    have w3:jy pr (X pr) 51 [.list false 1 [Iv e1,Iv e2]]=some (Iv e3,false):=W51 k4
    rcases jz h with⟨h4,h⟩|⟨h4,h⟩
    ·cases h
    ·cases h
     refine⟨[kZ,.hole,kO,kV s 8 6 5,kP5,.vec 4 s.vs (s.ss.map yb),.vec 5 s.vc (s.cs.map vev),.hole,.vec 5 s.ve (s.ev.map vev)],?_,qaa rfl⟩
     rw[zd (show pr.fns 65=some c65 from rfl) (by simp)]
     simp only[go_sem,seval,c65,h1,h2,w1,h3,w2,w3,h4]<;>rfl
  ·obtain⟨r,k1,h⟩:=jx h
   obtain⟨v,k2,h⟩:=jx h
   have w1:=j1x k1
   have wa:yi 9 (aR r) [kZ,.hole,kO,kV s 8 6 5,kP5,.vec 4 s.vs (s.ss.map yb),.vec 5 s.vc (s.cs.map vev),.hole,.vec 5 s.ve (s.ev.map vev),kR r.day r.lots r.products r.units]=[kZ,.hole,kO,kV s 8 6 5,kP5,.vec 4 s.vs (s.ss.map yb),.vec 5 s.vc (s.cs.map vev),.hole,.vec 5 s.ve (s.ev.map vev)]:=by simp only[go_sem,seval]<;>rfl
   have w2:jy pr (X pr) 121 [aR r,aE e]=some (.tup [aR v.1,Iv v.2],false):=qyv k2
   rcases jz h with⟨h3,h⟩|⟨h3,h⟩
   ·obtain⟨cs,hcs,h⟩:=jx h
    obtain⟨ss,hss,h⟩:=jx h
    obtain⟨ev,hev,h⟩:=jx h
    cases h
    have hln:ev.length=s.ev.length+1:=qg6 hev
    have g1:qbg 9 0 5 88 [kZ,.hole,kO,kV s 8 6 5,kP5,.vec 4 s.vs (s.ss.map yb),.vec 5 s.vc (s.cs.map vev),.hole,.vec 5 s.ve (s.ev.map vev),.hole,.hole] (some (.vref 6 s.vc s.lc)) (some (.list false 5 [aE e]))=some ⟨.vref 6 (s.vc+1) (s.lc+1),false,none,[kZ,.hole,kO,kV s 8 6 5,kP5,.vec 4 s.vs (s.ss.map yb),.vec 5 (s.vc+1) (cs.map vev),.hole,.vec 5 s.ve (s.ev.map vev),.hole,.hole]⟩:=qe0 (f:=vev) (x:=e) hcs rfl (by simp only[go_sem,seval]) (by decide) (by decide) (by decide)
    have g2:qbg 9 1 4 80 [kZ,.hole,kO,kV s 8 6 5,kP5,.vec 4 s.vs (s.ss.map yb),.vec 5 (s.vc+1) (cs.map vev),.hole,.vec 5 s.ve (s.ev.map vev),.hole,.hole] (some (.vref 5 s.vs s.ls)) (some (.list false 4 [aR v.1]))=some ⟨.vref 5 (s.vs+1) (s.ls+1),false,none,[kZ,.hole,kO,kV s 8 6 5,kP5,.vec 4 (s.vs+1) (ss.map yb),.vec 5 (s.vc+1) (cs.map vev),.hole,.vec 5 s.ve (s.ev.map vev),.hole,.hole]⟩:=qe0 (f:=yb) (x:=v.1) hss rfl (by simp only[go_sem,seval]) (by decide) (by decide) (by decide)
    have g3:qbg 11 0 5 88 [kZ,.hole,kO,.cells [(.vref 8 s.ve s.ev.length,false),(.vref 6 (s.vc+1) (s.lc+1),false),(.vref 5 (s.vs+1) (s.ls+1),false)],kP5,.vec 4 (s.vs+1) (ss.map yb),.vec 5 (s.vc+1) (cs.map vev),.hole,.vec 5 s.ve (s.ev.map vev),.hole,.hole,.hole] (some (.vref 8 s.ve s.ev.length)) (some (.list false 5 [aE e]))=some ⟨.vref 8 (s.ve+1) (s.ev.length+1),false,none,[kZ,.hole,kO,.cells [(.vref 8 s.ve s.ev.length,false),(.vref 6 (s.vc+1) (s.lc+1),false),(.vref 5 (s.vs+1) (s.ls+1),false)],kP5,.vec 4 (s.vs+1) (ss.map yb),.vec 5 (s.vc+1) (cs.map vev),.hole,.vec 5 (s.ve+1) (ev.map vev),.hole,.hole,.hole]⟩:=qe0 (f:=vev) (x:=e) hev rfl (by simp only[go_sem,seval]) (by decide) (by decide) (by decide)
    refine⟨[kZ,.hole,kO,.cells [(.vref 8 (s.ve+1) (s.ev.length+1),false),(.vref 6 (s.vc+1) (s.lc+1),false),(.vref 5 (s.vs+1) (s.ls+1),false)],kP5,.vec 4 (s.vs+1) (ss.map yb),.vec 5 (s.vc+1) (cs.map vev),.hole,.vec 5 (s.ve+1) (ev.map vev),.hole,.hole,.hole],?_,?_⟩
    ·rw[zd (show pr.fns 65=some c65 from rfl) (by simp)]
     simp only[go_sem,seval,c65,h1,h2,w1,wa,w2,h3,g1,g2,g3]<;>rfl
    ·simp only[hln]
     simp only[go_sem,seval]<;>rfl
   ·cases h
    refine⟨[kZ,.hole,kO,kV s 8 6 5,kP5,.vec 4 s.vs (s.ss.map yb),.vec 5 s.vc (s.cs.map vev),.hole,.vec 5 s.ve (s.ev.map vev)],?_,qaa rfl⟩
    rw[zd (show pr.fns 65=some c65 from rfl) (by simp)]
    simp only[go_sem,seval,c65,h1,h2,w1,wa,w2,h3]<;>rfl
 ·cases h
  refine⟨[kZ,.hole,kO,kV s 8 6 5,kP5,.vec 4 s.vs (s.ss.map yb),.vec 5 s.vc (s.cs.map vev),.hole,.vec 5 s.ve (s.ev.map vev)],?_,qaa rfl⟩
  rw[zd (show pr.fns 65=some c65 from rfl) (by simp)]
  simp only[go_sem,seval,c65,h1]<;>rfl
theorem jqh:zf pr (X pr) 48 [.ptr 3 0] [kZ,.hole,kO,kP5,kP5,.vec 4 0 [aZ]]=some (aZ,false,[kZ,.hole,kO,kP5,kP5,.vec 4 0 [aZ],kZ]):=by
 have g1:∀h:j8,qcq 4 h (some (.vref 5 0 1)) (some (Iv (j6 .i64 0)))=some ⟨.vel 5 0 0,false,none,h⟩:=fun h=>(qfb (l:=[zreg]) (x:=zreg) rfl).1
 have g2:qas 7 (some []) true 4 [kZ,.hole,kO,kP5,kP5,.vec 4 0 [aZ],kZ] (some (.vel 5 0 0))=some ⟨aZ,false,none,[kZ,.hole,kO,kP5,kP5,.vec 4 0 [aZ],kZ]⟩:=rfl
 rw[zd (show pr.fns 48=some c48 from rfl) (by simp)]
 simp only[go_sem,seval,c48,g1,g2]<;>rfl
theorem jsw {e:ql}{q}(h:qjy e=some q):∃hh,zf pr (X pr) 65 [.ptr 3 0,aE e] [kZ,.hole,kO,kP5,kP5,.vec 4 0 [aZ]]=some (Iv q.1,false,hh)∧yi 6 (Iv q.1) hh=(match q.2 with
  |none=>[kZ,.hole,kO,kP5,kP5,.vec 4 0 [aZ]]
  |some v=>[kZ,.hole,kO,kV v 8 6 5,kP5,.vec 4 v.vs (v.ss.map yb),.vec 5 v.vc (v.cs.map vev),.hole,.vec 5 v.ve (v.ev.map vev)]):=by
 unfold qjy at h
 rcases jz h with⟨h1,h⟩|⟨h1,h⟩
 ·rcases jz h with⟨h2,h⟩|⟨h2,h⟩
  ·obtain⟨e1,k1,h⟩:=jx h
   obtain⟨e2,k3,h⟩:=jx h
   obtain⟨e3,k4,h⟩:=jx h
   have w1:=W53 k1
   have w2:=W53 k3
   have w3:jy pr (X pr) 51 [.list false 1 [Iv e1,Iv e2]]=some (Iv e3,false):=W51 k4
   rcases jz h with⟨h4,h⟩|⟨h4,h⟩
   ·cases h
   ·cases h
    refine⟨[kZ,.hole,kO,kP5,kP5,.vec 4 0 [aZ]],?_,qaa rfl⟩
    rw[zd (show pr.fns 65=some c65 from rfl) (by simp)]
    simp only[go_sem,seval,c65,h1,h2,w1,w2,w3,h4,qto,je1,jij]<;>rfl
  ·obtain⟨v,k2,h⟩:=jx h
   have w1:=jqh
   have wa:yi 6 (aZ) [kZ,.hole,kO,kP5,kP5,.vec 4 0 [aZ],kZ]=[kZ,.hole,kO,kP5,kP5,.vec 4 0 [aZ]]:=by simp only[go_sem,seval]<;>rfl
   have w2:jy pr (X pr) 121 [aZ,aE e]=some (.tup [aR v.1,Iv v.2],false):=qyv k2
   rcases jz h with⟨h3,h⟩|⟨h3,h⟩
   ·cases h
    have g1:qbg 6 0 5 88 [kZ,.hole,kO,kP5,kP5,.vec 4 0 [aZ],.hole,.hole] (some (Nl)) (some (.list false 5 [aE e]))=some ⟨.vref 6 0 1,false,none,[kZ,.hole,kO,kP5,kP5,.vec 4 0 [aZ],.vec 5 0 [aE e],.hole]⟩:=by z8 qic<;>first|rfl|decide|(simp only[go_sem,seval]<;>done)|simp
    have g2:qbg 6 1 4 80 [kZ,.hole,kO,kP5,kP5,.vec 4 0 [aZ],.vec 5 0 [aE e],.hole] (some (.vref 5 0 1)) (some (.list false 4 [aR v.1]))=some ⟨.vref 5 1 2,false,none,[kZ,.hole,kO,kP5,kP5,.vec 4 1 [aZ,aR v.1],.vec 5 0 [aE e],.hole]⟩:=qe0 (f:=yb) (l:=[zreg]) (l':=[zreg,v.1]) (x:=v.1) rfl rfl (by simp only[go_sem,seval]) (by decide) (by decide) (by decide)
    have g3:qbg 8 0 5 88 [kZ,.hole,kO,.cells [(Nl,false),(.vref 6 0 1,false),(.vref 5 1 2,false)],kP5,.vec 4 1 [aZ,aR v.1],.vec 5 0 [aE e],.hole,.hole] (some (Nl)) (some (.list false 5 [aE e]))=some ⟨.vref 8 0 1,false,none,[kZ,.hole,kO,.cells [(Nl,false),(.vref 6 0 1,false),(.vref 5 1 2,false)],kP5,.vec 4 1 [aZ,aR v.1],.vec 5 0 [aE e],.hole,.vec 5 0 [aE e]]⟩:=by z8 qic<;>first|rfl|decide|(simp only[go_sem,seval]<;>done)|simp
    refine⟨[kZ,.hole,kO,.cells [(.vref 8 0 1,false),(.vref 6 0 1,false),(.vref 5 1 2,false)],kP5,.vec 4 1 [aZ,aR v.1],.vec 5 0 [aE e],.hole,.vec 5 0 [aE e]],?_,?_⟩
    ·rw[zd (show pr.fns 65=some c65 from rfl) (by simp)]
     simp only[go_sem,seval,c65,h1,h2,w1,wa,w2,h3,g1,g2,g3,qto]<;>rfl
    ·simp only[go_sem,seval,(show ∀k b v l,k≤b→below k (.vref b v l)=false from fun k b v l h=>by rw[qxv];exact dF (by omega))]<;>rfl
   ·cases h
    refine⟨[kZ,.hole,kO,kP5,kP5,.vec 4 0 [aZ]],?_,qaa rfl⟩
    rw[zd (show pr.fns 65=some c65 from rfl) (by simp)]
    simp only[go_sem,seval,c65,h1,h2,w1,wa,w2,h3]<;>rfl
 ·cases h
  refine⟨[kZ,.hole,kO,kP5,kP5,.vec 4 0 [aZ]],?_,qaa rfl⟩
  rw[zd (show pr.fns 65=some c65 from rfl) (by simp)]
  simp only[go_sem,seval,c65,h1]<;>rfl
def HP2:Option HV→j8
 |none=>[kZ,.hole,kO,kP5,kP5,.vec 4 0 [aZ]]
 |some v=>[kZ,.hole,kO,kV v 8 6 5,kP5,.vec 4 v.vs (v.ss.map yb),.vec 5 v.vc (v.cs.map vev),.hole,.vec 5 v.ve (v.ev.map vev)]
def qel (l:Option (List ql))(x:Int×Option HV):qg:=⟨[(2,.ptr 2 0,false),(5,.ptr 3 0,false),(14,sl 5 vev l,false),(15,Lv l,false),(16,Iv x.1,false)],HP2 x.2⟩
def qgp (l:Option (List ql)):(Int×Int×Option HV)⊕(Int×Option HV)→qo×qg
 | .inl d=>(.ret,⟨[(2,.ptr 2 0,false),(3,Iv d.1,false),(4,Iv d.2.1,false)],HP2 d.2.2⟩)
 | .inr d=>(.exit 0,⟨[(2,.ptr 2 0,false),(5,.ptr 3 0,false),(14,sl 5 vev l,false),(15,Lv l,false),(16,Iv d.1,false),(17,.bool false,false)],HP2 d.2⟩)
theorem j2y (l:Option (List ql))(x:Int×Option HV)(r)(h:s47 l x=some r):yq pr qb4 (qel l) (qgp l) x r:=by
 rcases x with⟨i,o⟩
 unfold s47 at h
 rcases jz h with⟨h1,h⟩|⟨h1,h⟩
 ·obtain⟨e,h2,h⟩:=jx h
  obtain⟨c,h3,h⟩:=jx h
  have w1:jy pr (X pr) 11 [aE e]=some (Iv c,false):=W11 h3
  rcases jz h with⟨h4,h⟩|⟨h4,h⟩
  ·obtain⟨e2,h5,h⟩:=jx h
   obtain⟨q,h6,h⟩:=jx h
   have w2:jy pr (X pr) 66 [aE e]=some (aE e2,false):=W66 h5
   rcases o with _|s
   ·obtain⟨hh,w3,wa⟩:=jsw (e:=e2) h6
    rcases q with⟨q1,q2⟩
    rcases q2 with _|v
    ·simp only at wa
     rcases jz h with⟨h7,h⟩|⟨h7,h⟩
     ·cases h
      exact qex (st':=qel l (j6 .i64 (i+1),none)) (by simp only[go_sem,seval,qb4,qel,HP2,h1,ke h2,w1,h4,w2,w3,wa,h7]<;>rfl) (qh3 (Nat.le_refl _))
     ·cases h
      exact zw (by simp only[go_sem,seval,qb4,qel,HP2,h1,ke h2,w1,h4,w2,w3,wa,h7,qgp]<;>rfl)
    ·simp only at wa
     rcases jz h with⟨h7,h⟩|⟨h7,h⟩
     ·cases h
      exact qex (st':=qel l (j6 .i64 (i+1),some v)) (by simp only[go_sem,seval,qb4,qel,HP2,h1,ke h2,w1,h4,w2,w3,wa,h7]<;>rfl) (q6l rfl)
     ·cases h
      exact zw (by simp only[go_sem,seval,qb4,qel,HP2,h1,ke h2,w1,h4,w2,w3,wa,h7,qgp]<;>rfl)
   ·obtain⟨q0,h8,h9⟩:=jx h6
    cases h9
    obtain⟨hh,w3,wa⟩:=j5n (e:=e2) h8
    rcases jz h with⟨h7,h⟩|⟨h7,h⟩
    ·cases h
     exact qex (st':=qel l (j6 .i64 (i+1),some q0.2)) (by simp only[go_sem,seval,qb4,qel,HP2,h1,ke h2,w1,h4,w2,w3,wa,h7]<;>rfl) (qh3 (Nat.le_refl _))
    ·cases h
     exact zw (by simp only[go_sem,seval,qb4,qel,HP2,h1,ke h2,w1,h4,w2,w3,wa,h7,qgp]<;>rfl)
  ·cases h
   rcases o with _|s
   ·exact zw (by simp only[go_sem,seval,qb4,qel,HP2,h1,ke h2,w1,h4,qgp]<;>rfl)
   ·exact zw (by simp only[go_sem,seval,qb4,qel,HP2,h1,ke h2,w1,h4,qgp]<;>rfl)
 ·cases h
  exact zw (by simp only[go_sem,seval,qb4,qel,h1,qgp]<;>rfl)
theorem j05:zf pr (X pr) 96 [] [kZ,.hole,kO,.hole]=some (.agg [Nl,Nl,.vref 5 0 1],false,[kZ,.hole,kO,.hole,kP5,.vec 4 0 [aZ]]):=by
 have vlit1:j9 pr (X pr) 5 none [(1,aZ,false),(0,.ptr 4 0,false)] [kZ,.hole,kO,.hole,kO,.hole] (.vlit 0 4 1 [Iv 0,Nl,Nl,Nl] [(0,.tmp 1)])=some ⟨.vref 5 0 1,false,none,[kZ,.hole,kO,.hole,kO,.vec 4 0 [aZ]]⟩:=rfl
 rw[zd (show pr.fns 96=some c96 from rfl) (by simp)]
 simp only[go_sem,seval,c96,vlit1]<;>rfl
def HQ2:Option HV→j8
 |none=>[kZ,.hole,kP5,kP5,kP5,.vec 4 0 [aZ]]
 |some v=>[kZ,.hole,kV v 8 6 5,kV v 8 6 5,kP5,.vec 4 v.vs (v.ss.map yb),.vec 5 v.vc (v.cs.map vev),.hole,.vec 5 v.ve (v.ev.map vev)]
def hv2:Option HV→qa
 |none=>.agg [Nl,Nl,.vref 5 0 1]
 |some v=>.agg [.vref 8 v.ve v.ev.length,.vref 6 v.vc v.lc,.vref 5 v.vs v.ls]
def rs2:(Int × Int)⊕Option HV→qa
 | .inl x=>.tup [.agg [Nl,Nl,Nl],Iv x.1,Iv x.2]
 | .inr o=>.tup [hv2 o,Iv 0,Iv 0]
def HR2:(Int × Int)⊕Option HV→j8
 | .inl _=>[kZ,.hole]
 | .inr o=>HQ2 o
theorem jzj {l:Option (List ql)}{r}(h:f47 l=some r):∃hh,zf pr (X pr) 47 [sl 5 vev l] [kZ,.hole]=some (rs2 r,false,hh)∧yi 2 (rs2 r) hh=HR2 r:=by
 unfold f47 at h
 rcases jz h with⟨h1,h⟩|⟨h1,h⟩
 ·cases h
  refine⟨[kZ,.hole,kO],?_,?_⟩
  ·rw[zd (show pr.fns 47=some c47 from rfl) (by simp)]
   simp only[go_sem,seval,c47,h1]<;>rfl
  ·simp only[go_sem,seval,rs2,HR2]<;>rfl
 ·obtain⟨d,h2,h⟩:=jx h
  have w:=j05
  have wa:yi 4 (.agg [Nl,Nl,.vref 5 0 1]) [kZ,.hole,kO,.hole,kP5,.vec 4 0 [aZ]]=[kZ,.hole,kO,.hole,kP5,.vec 4 0 [aZ]]:=by simp only[go_sem,seval]<;>rfl
  have wl:X pr (.loop qb4) ⟨[(2,.ptr 2 0,false),(5,.ptr 3 0,false),(14,sl 5 vev l,false),(15,Lv l,false),(16,Iv 0,false)],[kZ,.hole,kO,kP5,kP5,.vec 4 0 [aZ]]⟩=some (qgp l d):=y8 (j2y l) (fun d=>by rcases d with d|d<;>(intro hh;cases hh)) h2
  rcases d with⟨d1,d2,d3⟩|⟨d1,d2⟩
  ·cases h
   simp only[qgp]at wl
   rcases d3 with _|v
   ·refine⟨[kZ,.hole,kO,kP5,kP5,.vec 4 0 [aZ]],?_,?_⟩
    ·simp only[HP2]at wl
     rw[zd (show pr.fns 47=some c47 from rfl) (by simp)]
     simp only[go_sem,seval,c47,h1,w,wa,wl]<;>rfl
    ·simp only[go_sem,seval,rs2,HR2]<;>rfl
   ·refine⟨[kZ,.hole,kO,kV v 8 6 5,kP5,.vec 4 v.vs (v.ss.map yb),.vec 5 v.vc (v.cs.map vev),.hole,.vec 5 v.ve (v.ev.map vev)],?_,?_⟩
    ·simp only[HP2]at wl
     rw[zd (show pr.fns 47=some c47 from rfl) (by simp)]
     simp only[go_sem,seval,c47,h1,w,wa,wl]<;>rfl
    ·simp only[go_sem,seval,rs2,HR2]<;>rfl
  ·cases h
   simp only[qgp]at wl
   refine⟨HQ2 d2,?_,?_⟩
   ·rw[zd (show pr.fns 47=some c47 from rfl) (by simp)]
    rcases d2 with _|v
    ·simp only[HP2]at wl
     simp only[go_sem,seval,c47,h1,w,wa,wl,hv2,HQ2]<;>rfl
    ·simp only[HP2]at wl
     simp only[go_sem,seval,c47,h1,w,wa,wl,hv2,HQ2]<;>rfl
   ·rcases d2 with _|v
    ·simp only[go_sem,seval,rs2,HR2,hv2,HQ2]<;>rfl
    ·simp only[go_sem,seval,rs2,HR2,hv2,HQ2]<;>rfl
end Go.Z
namespace Go.Z
open Go Go.Abs Go.W
theorem jqd:zf pr (X pr) 48 [.ptr 1 0] [kZ,kP5,kP5,kP5,kP5,.vec 4 0 [aZ]]=some (aZ,false,[kZ,kP5,kP5,kP5,kP5,.vec 4 0 [aZ],kZ]):=by
 have g1:∀h:j8,qcq 4 h (some (.vref 5 0 1)) (some (Iv (j6 .i64 0)))=some ⟨.vel 5 0 0,false,none,h⟩:=fun h=>(qfb (l:=[zreg]) (x:=zreg) rfl).1
 have g2:qas 7 (some []) true 4 [kZ,kP5,kP5,kP5,kP5,.vec 4 0 [aZ],kZ] (some (.vel 5 0 0))=some ⟨aZ,false,none,[kZ,kP5,kP5,kP5,kP5,.vec 4 0 [aZ],kZ]⟩:=rfl
 rw[zd (show pr.fns 48=some c48 from rfl) (by simp)]
 simp only[go_sem,seval,c48,g1,g2]<;>rfl
theorem jxz {s:HV}{r:qc}(hx:zo (s.ss.take s.ls) (j6 .i64 ((s.ls:Int)-1))=some r):zf pr (X pr) 48 [.ptr 1 0] [kZ,kV s 8 6 5,kV s 8 6 5,kV s 8 6 5,kP5,.vec 4 s.vs (s.ss.map yb),.vec 5 s.vc (s.cs.map vev),.hole,.vec 5 s.ve (s.ev.map vev)]=some (aR r,false,[kZ,kV s 8 6 5,kV s 8 6 5,kV s 8 6 5,kP5,.vec 4 s.vs (s.ss.map yb),.vec 5 s.vc (s.cs.map vev),.hole,.vec 5 s.ve (s.ev.map vev),kR r.day r.lots r.products r.units]):=by
 have g1:∀h:j8,qcq 4 h (some (.vref 5 s.vs s.ls)) (some (Iv (j6 .i64 ((s.ls:Int)-1))))=some ⟨.vel 5 s.vs ((j6 .i64 ((s.ls:Int)-1)).toNat*4),false,none,h⟩:=fun h=>(qfb hx).1
 have g2:qas 10 (some []) true 4 [kZ,kV s 8 6 5,kV s 8 6 5,kV s 8 6 5,kP5,.vec 4 s.vs (s.ss.map yb),.vec 5 s.vc (s.cs.map vev),.hole,.vec 5 s.ve (s.ev.map vev),kZ] (some (.vel 5 s.vs ((j6 .i64 ((s.ls:Int)-1)).toNat*4)))=some ⟨aR r,false,none,[kZ,kV s 8 6 5,kV s 8 6 5,kV s 8 6 5,kP5,.vec 4 s.vs (s.ss.map yb),.vec 5 s.vc (s.cs.map vev),.hole,.vec 5 s.ve (s.ev.map vev),kZ]⟩:=qvx q1g rfl rfl (qfb (sz:=4) (b:=0) (v:=0) (h:=[]) hx).2
 rw[zd (show pr.fns 48=some c48 from rfl) (by simp)]
 simp only[go_sem,seval,c48,g1,g2]<;>rfl
def jpr:Option HV→Option qc
 |none=>some zreg
 |some s=>zo (s.ss.take s.ls) (j6 .i64 ((s.ls:Int)-1))
def f9 (l:Option (List ql)):Option (qc×Int×Int):=jw (f47 l) fun r=>match r with
 | .inl x=>cond (decide (x.2=0)) none (some (zreg,x.1,x.2))
 | .inr o=>jw (jpr o) fun r=>some (r,0,0)
theorem W9 {l:Option (List ql)}{r}(h:f9 l=some r):jy pr (X pr) 9 [sl 5 vev l]=some (.tup [aR r.1,Iv r.2.1,Iv r.2.2],false):=by
 unfold f9 at h
 obtain⟨x,h1,h⟩:=jx h
 obtain⟨hh,w,wa⟩:=jzj h1
 rcases x with x|o
 ·rcases jz h with⟨h2,h⟩|⟨h2,h⟩
  ·cases h
  ·cases h
   simp only[rs2,HR2]at w wa
   have this:∃hh,zf pr (X pr) 9 [sl 5 vev l] []=some (.tup [aZ,Iv x.1,Iv x.2],false,hh):=by
    rw[zd (show pr.fns 9=some c9 from rfl) (by simp)]
    simp only[go_sem,seval,c9,w,wa,h2]
    exact⟨_,rfl⟩
   obtain⟨hh,this⟩:=this
   exact kq rfl this (by first|rfl|simp only[go_sem,seval]) (by first|rfl|simp only[go_sem,seval])
 ·obtain⟨r,h2,h⟩:=jx h
  cases h
  rcases o with _|v
  ·cases h2
   simp only[rs2,HR2,HQ2,hv2]at w wa
   have w2:=jqd
   have wb:yi 6 (aZ) [kZ,kP5,kP5,kP5,kP5,.vec 4 0 [aZ],kZ]=[kZ,kP5,kP5,kP5,kP5,.vec 4 0 [aZ]]:=by simp only[go_sem,seval]<;>rfl
   have this:∃hh,zf pr (X pr) 9 [sl 5 vev l] []=some (.tup [aZ,Iv 0,Iv 0],false,hh):=by
    rw[zd (show pr.fns 9=some c9 from rfl) (by simp)]
    simp only[go_sem,seval,c9,w,wa,w2,wb]
    exact⟨_,rfl⟩
   obtain⟨hh,this⟩:=this
   exact kq rfl this (by first|rfl|simp only[go_sem,seval]) (by first|rfl|simp only[go_sem,seval])
  ·simp only[rs2,HR2,HQ2,hv2]at w wa
   have w2:=jxz (s:=v) h2
   have wb:yi 9 (aR r) [kZ,kV v 8 6 5,kV v 8 6 5,kV v 8 6 5,kP5,.vec 4 v.vs (v.ss.map yb),.vec 5 v.vc (v.cs.map vev),.hole,.vec 5 v.ve (v.ev.map vev),kR r.day r.lots r.products r.units]=[kZ,kV v 8 6 5,kV v 8 6 5,kV v 8 6 5,kP5,.vec 4 v.vs (v.ss.map yb),.vec 5 v.vc (v.cs.map vev),.hole,.vec 5 v.ve (v.ev.map vev)]:=by simp only[go_sem,seval]<;>rfl
   have this:∃hh,zf pr (X pr) 9 [sl 5 vev l] []=some (.tup [aR r,Iv 0,Iv 0],false,hh):=by
    rw[zd (show pr.fns 9=some c9 from rfl) (by simp)]
    simp only[go_sem,seval,c9,w,wa,w2,wb]
    exact⟨_,rfl⟩
   obtain⟨hh,this⟩:=this
   exact kq rfl this (by first|rfl|simp only[go_sem,seval]) (by first|rfl|simp only[go_sem,seval])
end Go.Z
end
