/- Chapter 10. -/
import Derived.Test.YtimdocpnkimlfaaGreatDoorW15
import Derived.Test.YtimdocpnkimlfaaGreatDoorW12
set_option linter.unusedVariables false
set_option linter.unusedSimpArgs false
set_option maxRecDepth 100000
set_option maxHeartbeats 4000000
noncomputable section
open Option renaming some→I,none→Ey
open Bool renaming false→En,true→Gn
namespace Go.Z
open Go Go.Abs Go.W
@[go_sem] theorem j97 {b v l}:(AVal.aw b v l).flat=[.aw b v l]:=rfl
@[go_sem] theorem zl9 {b v l}:qk (.aw b v l)=Gn:=rfl
@[go_sem] theorem zb9 {b v l}:AVal.cS (.aw b v l)=En:=rfl
theorem zlv:∀ x:GEv,(vev x).flat.length=5:=fun _=>rfl
theorem jn8:∀ x:aj,(zo x).flat.length=4:=fun _=>rfl
section
variable {h:qh}{α:Type}
theorem Ay {sz b v len:Nat}{l:List α}{i x}(hx:qr (l.take len) i=I x):kF sz h (I (.aw b v len)) (I (Iv i))=I ⟨.dQ b v (i.toNat*sz),En,Ey,h⟩∧l[i.toNat]?=I x:=by
 unfold qr at hx
 split at hx
 ·rename_i hi
  have h2:=(List.getElem?_eq_some_iff.1 hx).1
  rw[List.length_take]at h2
  have h3:i.toNat<len:=by omega
  refine⟨?_,?_⟩
  ·have:=jex (sz:=sz) (h:=h) (b:=b) (v:=v) (k:=.i64) h3
   rw[Int.toNat_of_nonneg hi]at this
   exact this
  ·rw[List.getElem?_take,if_pos h3]at hx
   exact hx
 ·cases hx
theorem jsy {sz b v len:Nat}{i}(hi:0≤i)(hl:i≤(len:Int)):rU sz h (I (.aw b v len)) Ey (I (I (Iv i)))=I ⟨.aw b v i.toNat,En,Ey,h⟩:=by
 have:sB len len (I (I (Iv i)))=I i.toNat:=by
  simp only[sB,A0]
  cases i with
  |ofNat n=>
   have h1:((n:Nat):Int)≤(len:Int):=hl
   have h2:n≤len:=by omega
   simp only[Nat.ble_eq_true_of_le h2,cond_true]
   rfl
  |negSucc n=>omega
 simp only[rU,this]
 rfl
def sk (xs:List α)(len:Nat)(x:α):Option (List α):=if len≤xs.length∧len+1≤1073741824 then I (xs.take len++[x])else Ey
theorem Kg {h0 b v len r sz bytes:Nat}{c:Bool}{f:α→AVal}{l l':List α}{x}(hp:sk l len x=I l')(hb:h[b]?=I (.vec sz v (l.map f)))(hx:qx 0 [f x]=Gn)(hz:0<sz)(Wh:bytes≤4096)(hr:r<1000):
  pf h0 r sz bytes h (I (.aw b v len)) (I (.list c sz [f x]))=I ⟨.aw b (v+1) (len+1),En,Ey,h.set b (.vec sz (v+1) (l'.map f))⟩:=by
 unfold sk at hp
 split at hp
 ·rename_i hl
  cases hp
  have:=jef (h:=h) (h0:=h0) (c:=c) (ys:=[f x]) hb (by rw[List.length_map];exact hl.1) (by simpa using hl.2) Wh hz hx hr
  rw[this]
  simp[List.map_take]
 ·cases hp
end
structure HV where
 ev:List GEv
 ve:Nat
 cs:List GEv
 lc:Nat
 vc:Nat
 ss:List aj
 ls:Nat
 vs:Nat
abbrev kV (v:HV)(a b c:Nat):bh:=.cells [(.aw a v.ve v.ev.length,En),(.aw b v.vc v.lc,En),(.aw c v.vs v.ls,En)]
theorem jrd {n st}(h:zw n (st.heap.take n)=En):gc n st=st:=by
 unfold gc
 rw[h,Bool.and_false,cond_false]
 cases Nat.ble st.heap.length n<;>rfl
theorem q0a {α:Type}{l l':List α}{x}(h:sk l l.length x=I l'):l'.length=l.length+1:=by
 unfold sk at h
 split at h
 ·cases h;simp
 ·cases h
def JB (s:HV)(e:GEv):Option (Int×HV):=
 cond (decide (e.number=qe .i64 ((s.ev.length:Int)+1)))
  (cond (decide (e.kind=([117,110,100,111]:List UInt8)))
   (qa (f48 (decide ((s.lc:Int)=0)) 12) fun e1=>
   cond (decide (0<(s.lc:Int)))
    (qa (qr (s.cs.take s.lc) (max 0 (qe .i64 ((s.lc:Int)-1)))) fun x=>
    qa (f48 (decide (x.kind=([115,104,105,112]:List UInt8))) 19) fun e2=>
    qa (f46 (I [e1,e2])) fun e3=>
    cond (decide (e3=0))
     (cond (decide (0≤qe .i64 ((s.lc:Int)-1)∧qe .i64 ((s.lc:Int)-1)≤(s.lc:Int)∧s.lc≤s.ls))
      (qa (sk s.ev s.ev.length e) fun ev=>I (0,{ s with ev:=ev,ve:=s.ve+1,lc:=(qe .i64 ((s.lc:Int)-1)).toNat,ls:=s.lc }))
      Ey)
     (I (e3,s)))
    (qa (f48 En 19) fun e2=>qa (f46 (I [e1,e2])) fun e3=>cond (decide (e3=0)) Ey (I (e3,s))))
   (qa (qr (s.ss.take s.ls) (qe .i64 ((s.ls:Int)-1))) fun r=>
   qa (jU r e) fun v=>
   cond (decide (v.2=0))
    (qa (sk s.cs s.lc e) fun cs=>qa (sk s.ss s.ls v.1) fun ss=>qa (sk s.ev s.ev.length e) fun ev=>
    I (0,{ ev:=ev,ve:=s.ve+1,cs:=cs,lc:=s.lc+1,vc:=s.vc+1,ss:=ss,ls:=s.ls+1,vs:=s.vs+1 }))
    (I (v.2,s))))
  (I (11,s))
theorem joj:decide (((([]:List AVal).length:Nat):Int)=0)=Gn:=rfl
theorem zdb:decide ((0:Int)<((([]:List AVal).length:Nat):Int))=En:=rfl
theorem zhi:decide ((0:Int)<((0:Nat):Int))=En:=rfl
def fo:aj:=⟨0,Ey,Ey,Ey⟩
def JA (e:GEv):Option (Int×Option HV):=
 cond (decide (e.number=qe .i64 1))
  (cond (decide (e.kind=([117,110,100,111]:List UInt8)))
   (qa (f48 Gn 12) fun e1=>qa (f48 En 19) fun e2=>qa (f46 (I [e1,e2])) fun e3=>cond (decide (e3=0)) Ey (I (e3,Ey)))
   (qa (jU fo e) fun v=>
   cond (decide (v.2=0))
    (I (0,I { ev:=[e],ve:=0,cs:=[e],lc:=1,vc:=0,ss:=[fo,v.1],ls:=2,vs:=1 }))
    (I (v.2,Ey))))
  (I (11,Ey))
def NF (s:Option HV)(e:GEv):Option (Int×Option HV):=match s with
 |none=>JA e
 |some s=>qa (JB s e) fun q=>I (q.1,I q.2)
def Cv (l:Option (List GEv))(x:Int×Option HV):Option ((Int×Option HV)⊕((Int×Int×Option HV)⊕(Int×Option HV))):=
 cond (decide (x.1<((l.getD []).length:Int)))
  (qa (qr (l.getD []) x.1) fun e=>
  qa (f47 e) fun c=>
  cond (decide (c=0))
   (qa (f50 e) fun e2=>
   qa (NF x.2 e2) fun q=>
   cond (decide (q.1=0))
    (I (.inl (qe .i64 (x.1+1),q.2)))
    (I (.inr (.inl (qe .i64 (x.1+1),q.1,q.2)))))
   (I (.inr (.inl (qe .i64 (x.1+1),c,x.2)))))
  (I (.inr (.inr x)))
def f45 (l:Option (List GEv)):Option ((Int×Int)⊕Option HV):=
 cond (decide (1000<((l.getD []).length:Int)))
  (I (.inl (0,5)))
  (qa (bm (Cv l) (0,Ey)) fun d=>match d with
  | .inl d=>I (.inl (d.1,d.2.1))
  | .inr d=>I (.inr d.2))
theorem j2q {s:HV}{r:aj}(hx:qr (s.ss.take s.ls) (qe .i64 ((s.ls:Int)-1))=I r):qm pr (X pr) 55 [.ptr 3 0] [kZ,.hole,kO,kV s 8 6 5,cg,.vec 4 s.vs (s.ss.map zo),.vec 5 s.vc (s.cs.map vev),.hole,.vec 5 s.ve (s.ev.map vev)]=I (aR r,En,[kZ,.hole,kO,kV s 8 6 5,cg,.vec 4 s.vs (s.ss.map zo),.vec 5 s.vc (s.cs.map vev),.hole,.vec 5 s.ve (s.ev.map vev),kR r.day r.lots r.ae r.units]):=by
 have g1:∀h:qh,kF 4 h (I (.aw 5 s.vs s.ls)) (I (Iv (qe .i64 ((s.ls:Int)-1))))=I ⟨.dQ 5 s.vs ((qe .i64 ((s.ls:Int)-1)).toNat*4),En,Ey,h⟩:=fun h=>(Ay hx).1
 have g2:gC 10 (I []) Gn 4 [kZ,.hole,kO,kV s 8 6 5,cg,.vec 4 s.vs (s.ss.map zo),.vec 5 s.vc (s.cs.map vev),.hole,.vec 5 s.ve (s.ev.map vev),kZ] (I (.dQ 5 s.vs ((qe .i64 ((s.ls:Int)-1)).toNat*4)))=I ⟨aR r,En,Ey,[kZ,.hole,kO,kV s 8 6 5,cg,.vec 4 s.vs (s.ss.map zo),.vec 5 s.vc (s.cs.map vev),.hole,.vec 5 s.ve (s.ev.map vev),kZ]⟩:=jen jn8 rfl rfl (Ay (sz:=4) (b:=0) (v:=0) (h:=[]) hx).2
 rw[qn (show pr.bQ 55=I tv from rfl) (by simp)]
 simp only[go_sem,seval,tv,g1,g2]<;>rfl
theorem j9d {s:HV}{e:GEv}{q}(h:JB s e=I q):∃hh,qm pr (X pr) 49 [.ptr 3 0,aE e] [kZ,.hole,kO,kV s 8 6 5,cg,.vec 4 s.vs (s.ss.map zo),.vec 5 s.vc (s.cs.map vev),.hole,.vec 5 s.ve (s.ev.map vev)]=I (Iv q.1,En,hh)∧zg 9 (Iv q.1) hh=[kZ,.hole,kO,.cells [(.aw 8 q.2.ve q.2.ev.length,En),(.aw 6 q.2.vc q.2.lc,En),(.aw 5 q.2.vs q.2.ls,En)],cg,.vec 4 q.2.vs (q.2.ss.map zo),.vec 5 q.2.vc (q.2.cs.map vev),.hole,.vec 5 q.2.ve (q.2.ev.map vev)]:=by
 unfold JB at h
 rcases qd h with⟨h1,h⟩|⟨h1,h⟩
 ·rcases qd h with⟨h2,h⟩|⟨h2,h⟩
  ·obtain⟨e1,k1,h⟩:=qb h
   have w1:=gg k1
   rcases qd h with⟨h3,h⟩|⟨h3,h⟩
   ·obtain⟨x,k2,h⟩:=qb h
    obtain⟨e2,k3,h⟩:=qb h
    obtain⟨e3,k4,h⟩:=qb h
    have w2:=gg k3
    have w3:qc pr (X pr) 46 [.list En 1 [Iv e1,Iv e2]]=I (Iv e3,En):=mf k4
    have g1:∀h:qh,kF 5 h (I (.aw 6 s.vc s.lc)) (I (Iv (max 0 (qe .i64 ((s.lc:Int)-1)))))=I ⟨.dQ 6 s.vc ((max 0 (qe .i64 ((s.lc:Int)-1))).toNat*5),En,Ey,h⟩:=fun h=>(Ay k2).1
    have g2:gC 9 Ey En 1 [kZ,.hole,kO,kV s 8 6 5,cg,.vec 4 s.vs (s.ss.map zo),.vec 5 s.vc (s.cs.map vev),.hole,.vec 5 s.ve (s.ev.map vev)] (I (.dQ 6 s.vc ((max 0 (qe .i64 ((s.lc:Int)-1))).toNat*5+1)))=I ⟨.str x.kind,En,Ey,[kZ,.hole,kO,kV s 8 6 5,cg,.vec 4 s.vs (s.ss.map zo),.vec 5 s.vc (s.cs.map vev),.hole,.vec 5 s.ve (s.ev.map vev)]⟩:=jxq (f:=vev) (o:=1) zlv rfl rfl (Ay (sz:=4) (b:=0) (v:=0) (h:=[]) k2).2 rfl
    rcases qd h with⟨h4,h⟩|⟨h4,h⟩
    ·rcases qd h with⟨h5,h⟩|⟨_,h⟩
     ·obtain⟨ev,hO,h⟩:=qb h
      cases h
      have dA:=of_decide_eq_true h5
      have hln:ev.length=s.ev.length+1:=q0a hO
      have g3:∀h:qh,rU 5 h (I (.aw 6 s.vc s.lc)) Ey (I (I (Iv (qe .i64 ((s.lc:Int)-1)))))=I ⟨.aw 6 s.vc (qe .i64 ((s.lc:Int)-1)).toNat,En,Ey,h⟩:=fun h=>jsy dA.1 dA.2.1
      have g4:∀h:qh,rU 4 h (I (.aw 5 s.vs s.ls)) Ey (I (I (Iv (s.lc:Int))))=I ⟨.aw 5 s.vs s.lc,En,Ey,h⟩:=fun h=>jsy (by omega) (by have:=dA.2.2;omega)
      have g5:pf 9 0 5 88 [kZ,.hole,kO,.cells [(.aw 8 s.ve s.ev.length,En),(.aw 6 s.vc (qe .i64 ((s.lc:Int)-1)).toNat,En),(.aw 5 s.vs s.lc,En)],cg,.vec 4 s.vs (s.ss.map zo),.vec 5 s.vc (s.cs.map vev),.hole,.vec 5 s.ve (s.ev.map vev),.hole] (I (.aw 8 s.ve s.ev.length)) (I (.list En 5 [aE e]))=I ⟨.aw 8 (s.ve+1) (s.ev.length+1),En,Ey,[kZ,.hole,kO,.cells [(.aw 8 s.ve s.ev.length,En),(.aw 6 s.vc (qe .i64 ((s.lc:Int)-1)).toNat,En),(.aw 5 s.vs s.lc,En)],cg,.vec 4 s.vs (s.ss.map zo),.vec 5 s.vc (s.cs.map vev),.hole,.vec 5 (s.ve+1) (ev.map vev),.hole]⟩:=Kg (f:=vev) (x:=e) hO rfl (by simp only[go_sem,seval]) (by decide) (by decide) (by decide)
      refine⟨[kZ,.hole,kO,.cells [(.aw 8 (s.ve+1) (s.ev.length+1),En),(.aw 6 s.vc (qe .i64 ((s.lc:Int)-1)).toNat,En),(.aw 5 s.vs s.lc,En)],cg,.vec 4 s.vs (s.ss.map zo),.vec 5 s.vc (s.cs.map vev),.hole,.vec 5 (s.ve+1) (ev.map vev),.hole],?_,?_⟩
      ·rw[qn (show pr.bQ 49=I jB from rfl) (by simp)]
       simp only[go_sem,seval,jB,h1,h2,w1,h3,g1,g2,w2,w3,h4,g3,g4,g5]<;>rfl
      ·simp only[hln]
       simp only[go_sem,seval]<;>rfl
     ·cases h
    ·cases h
     refine⟨[kZ,.hole,kO,kV s 8 6 5,cg,.vec 4 s.vs (s.ss.map zo),.vec 5 s.vc (s.cs.map vev),.hole,.vec 5 s.ve (s.ev.map vev)],?_,tw rfl⟩
     rw[qn (show pr.bQ 49=I jB from rfl) (by simp)]
     simp only[go_sem,seval,jB,h1,h2,w1,h3,g1,g2,w2,w3,h4]<;>rfl
   ·obtain⟨e2,k3,h⟩:=qb h
    obtain⟨e3,k4,h⟩:=qb h
    have w2:=gg k3
    have w3:qc pr (X pr) 46 [.list En 1 [Iv e1,Iv e2]]=I (Iv e3,En):=mf k4
    rcases qd h with⟨h4,h⟩|⟨h4,h⟩
    ·cases h
    ·cases h
     refine⟨[kZ,.hole,kO,kV s 8 6 5,cg,.vec 4 s.vs (s.ss.map zo),.vec 5 s.vc (s.cs.map vev),.hole,.vec 5 s.ve (s.ev.map vev)],?_,tw rfl⟩
     rw[qn (show pr.bQ 49=I jB from rfl) (by simp)]
     simp only[go_sem,seval,jB,h1,h2,w1,h3,w2,w3,h4]<;>rfl
  ·obtain⟨r,k1,h⟩:=qb h
   obtain⟨v,k2,h⟩:=qb h
   have w1:=j2q k1
   have wa:zg 9 (aR r) [kZ,.hole,kO,kV s 8 6 5,cg,.vec 4 s.vs (s.ss.map zo),.vec 5 s.vc (s.cs.map vev),.hole,.vec 5 s.ve (s.ev.map vev),kR r.day r.lots r.ae r.units]=[kZ,.hole,kO,kV s 8 6 5,cg,.vec 4 s.vs (s.ss.map zo),.vec 5 s.vc (s.cs.map vev),.hole,.vec 5 s.ve (s.ev.map vev)]:=by simp only[go_sem,seval]<;>rfl
   have w2:qc pr (X pr) 113 [aR r,aE e]=I (.aB [aR v.1,Iv v.2],En):=jxz k2
   rcases qd h with⟨h3,h⟩|⟨h3,h⟩
   ·obtain⟨cs,hcs,h⟩:=qb h
    obtain⟨ss,yY,h⟩:=qb h
    obtain⟨ev,hO,h⟩:=qb h
    cases h
    have hln:ev.length=s.ev.length+1:=q0a hO
    have g1:pf 9 0 5 88 [kZ,.hole,kO,kV s 8 6 5,cg,.vec 4 s.vs (s.ss.map zo),.vec 5 s.vc (s.cs.map vev),.hole,.vec 5 s.ve (s.ev.map vev),.hole,.hole] (I (.aw 6 s.vc s.lc)) (I (.list En 5 [aE e]))=I ⟨.aw 6 (s.vc+1) (s.lc+1),En,Ey,[kZ,.hole,kO,kV s 8 6 5,cg,.vec 4 s.vs (s.ss.map zo),.vec 5 (s.vc+1) (cs.map vev),.hole,.vec 5 s.ve (s.ev.map vev),.hole,.hole]⟩:=Kg (f:=vev) (x:=e) hcs rfl (by simp only[go_sem,seval]) (by decide) (by decide) (by decide)
    have g2:pf 9 1 4 80 [kZ,.hole,kO,kV s 8 6 5,cg,.vec 4 s.vs (s.ss.map zo),.vec 5 (s.vc+1) (cs.map vev),.hole,.vec 5 s.ve (s.ev.map vev),.hole,.hole] (I (.aw 5 s.vs s.ls)) (I (.list En 4 [aR v.1]))=I ⟨.aw 5 (s.vs+1) (s.ls+1),En,Ey,[kZ,.hole,kO,kV s 8 6 5,cg,.vec 4 (s.vs+1) (ss.map zo),.vec 5 (s.vc+1) (cs.map vev),.hole,.vec 5 s.ve (s.ev.map vev),.hole,.hole]⟩:=Kg (f:=zo) (x:=v.1) yY rfl (by simp only[go_sem,seval]) (by decide) (by decide) (by decide)
    have g3:pf 11 0 5 88 [kZ,.hole,kO,.cells [(.aw 8 s.ve s.ev.length,En),(.aw 6 (s.vc+1) (s.lc+1),En),(.aw 5 (s.vs+1) (s.ls+1),En)],cg,.vec 4 (s.vs+1) (ss.map zo),.vec 5 (s.vc+1) (cs.map vev),.hole,.vec 5 s.ve (s.ev.map vev),.hole,.hole,.hole] (I (.aw 8 s.ve s.ev.length)) (I (.list En 5 [aE e]))=I ⟨.aw 8 (s.ve+1) (s.ev.length+1),En,Ey,[kZ,.hole,kO,.cells [(.aw 8 s.ve s.ev.length,En),(.aw 6 (s.vc+1) (s.lc+1),En),(.aw 5 (s.vs+1) (s.ls+1),En)],cg,.vec 4 (s.vs+1) (ss.map zo),.vec 5 (s.vc+1) (cs.map vev),.hole,.vec 5 (s.ve+1) (ev.map vev),.hole,.hole,.hole]⟩:=Kg (f:=vev) (x:=e) hO rfl (by simp only[go_sem,seval]) (by decide) (by decide) (by decide)
    refine⟨[kZ,.hole,kO,.cells [(.aw 8 (s.ve+1) (s.ev.length+1),En),(.aw 6 (s.vc+1) (s.lc+1),En),(.aw 5 (s.vs+1) (s.ls+1),En)],cg,.vec 4 (s.vs+1) (ss.map zo),.vec 5 (s.vc+1) (cs.map vev),.hole,.vec 5 (s.ve+1) (ev.map vev),.hole,.hole,.hole],?_,?_⟩
    ·rw[qn (show pr.bQ 49=I jB from rfl) (by simp)]
     simp only[go_sem,seval,jB,h1,h2,w1,wa,w2,h3,g1,g2,g3]<;>rfl
    ·simp only[hln]
     simp only[go_sem,seval]<;>rfl
   ·cases h
    refine⟨[kZ,.hole,kO,kV s 8 6 5,cg,.vec 4 s.vs (s.ss.map zo),.vec 5 s.vc (s.cs.map vev),.hole,.vec 5 s.ve (s.ev.map vev)],?_,tw rfl⟩
    rw[qn (show pr.bQ 49=I jB from rfl) (by simp)]
    simp only[go_sem,seval,jB,h1,h2,w1,wa,w2,h3]<;>rfl
 ·cases h
  refine⟨[kZ,.hole,kO,kV s 8 6 5,cg,.vec 4 s.vs (s.ss.map zo),.vec 5 s.vc (s.cs.map vev),.hole,.vec 5 s.ve (s.ev.map vev)],?_,tw rfl⟩
  rw[qn (show pr.bQ 49=I jB from rfl) (by simp)]
  simp only[go_sem,seval,jB,h1]<;>rfl
theorem js8:qm pr (X pr) 55 [.ptr 3 0] [kZ,.hole,kO,cg,cg,.vec 4 0 [aZ]]=I (aZ,En,[kZ,.hole,kO,cg,cg,.vec 4 0 [aZ],kZ]):=by
 have g1:∀h:qh,kF 4 h (I (.aw 5 0 1)) (I (Iv (qe .i64 0)))=I ⟨.dQ 5 0 0,En,Ey,h⟩:=fun h=>(Ay (l:=[fo]) (x:=fo) rfl).1
 have g2:gC 7 (I []) Gn 4 [kZ,.hole,kO,cg,cg,.vec 4 0 [aZ],kZ] (I (.dQ 5 0 0))=I ⟨aZ,En,Ey,[kZ,.hole,kO,cg,cg,.vec 4 0 [aZ],kZ]⟩:=rfl
 rw[qn (show pr.bQ 55=I tv from rfl) (by simp)]
 simp only[go_sem,seval,tv,g1,g2]<;>rfl
theorem jwp {e:GEv}{q}(h:JA e=I q):∃hh,qm pr (X pr) 49 [.ptr 3 0,aE e] [kZ,.hole,kO,cg,cg,.vec 4 0 [aZ]]=I (Iv q.1,En,hh)∧zg 6 (Iv q.1) hh=(match q.2 with
  |none=>[kZ,.hole,kO,cg,cg,.vec 4 0 [aZ]]
  |some v=>[kZ,.hole,kO,kV v 8 6 5,cg,.vec 4 v.vs (v.ss.map zo),.vec 5 v.vc (v.cs.map vev),.hole,.vec 5 v.ve (v.ev.map vev)]):=by
 unfold JA at h
 rcases qd h with⟨h1,h⟩|⟨h1,h⟩
 ·rcases qd h with⟨h2,h⟩|⟨h2,h⟩
  ·obtain⟨e1,k1,h⟩:=qb h
   obtain⟨e2,k3,h⟩:=qb h
   obtain⟨e3,k4,h⟩:=qb h
   have w1:=gg k1
   have w2:=gg k3
   have w3:qc pr (X pr) 46 [.list En 1 [Iv e1,Iv e2]]=I (Iv e3,En):=mf k4
   rcases qd h with⟨h4,h⟩|⟨h4,h⟩
   ·cases h
   ·cases h
    refine⟨[kZ,.hole,kO,cg,cg,.vec 4 0 [aZ]],?_,tw rfl⟩
    rw[qn (show pr.bQ 49=I jB from rfl) (by simp)]
    simp only[go_sem,seval,jB,h1,h2,w1,w2,w3,h4,joj,zdb,zhi]<;>rfl
  ·obtain⟨v,k2,h⟩:=qb h
   have w1:=js8
   have wa:zg 6 (aZ) [kZ,.hole,kO,cg,cg,.vec 4 0 [aZ],kZ]=[kZ,.hole,kO,cg,cg,.vec 4 0 [aZ]]:=by simp only[go_sem,seval]<;>rfl
   have w2:qc pr (X pr) 113 [aZ,aE e]=I (.aB [aR v.1,Iv v.2],En):=jxz k2
   rcases qd h with⟨h3,h⟩|⟨h3,h⟩
   ·cases h
    have g1:pf 6 0 5 88 [kZ,.hole,kO,cg,cg,.vec 4 0 [aZ],.hole,.hole] (I (Nl)) (I (.list En 5 [aE e]))=I ⟨.aw 6 0 1,En,Ey,[kZ,.hole,kO,cg,cg,.vec 4 0 [aZ],.vec 5 0 [aE e],.hole]⟩:=by apply q6v<;>first|rfl|decide|(simp only[go_sem,seval]<;>done)|simp
    have g2:pf 6 1 4 80 [kZ,.hole,kO,cg,cg,.vec 4 0 [aZ],.vec 5 0 [aE e],.hole] (I (.aw 5 0 1)) (I (.list En 4 [aR v.1]))=I ⟨.aw 5 1 2,En,Ey,[kZ,.hole,kO,cg,cg,.vec 4 1 [aZ,aR v.1],.vec 5 0 [aE e],.hole]⟩:=Kg (f:=zo) (l:=[fo]) (l':=[fo,v.1]) (x:=v.1) rfl rfl (by simp only[go_sem,seval]) (by decide) (by decide) (by decide)
    have g3:pf 8 0 5 88 [kZ,.hole,kO,.cells [(Nl,En),(.aw 6 0 1,En),(.aw 5 1 2,En)],cg,.vec 4 1 [aZ,aR v.1],.vec 5 0 [aE e],.hole,.hole] (I (Nl)) (I (.list En 5 [aE e]))=I ⟨.aw 8 0 1,En,Ey,[kZ,.hole,kO,.cells [(Nl,En),(.aw 6 0 1,En),(.aw 5 1 2,En)],cg,.vec 4 1 [aZ,aR v.1],.vec 5 0 [aE e],.hole,.vec 5 0 [aE e]]⟩:=by apply q6v<;>first|rfl|decide|(simp only[go_sem,seval]<;>done)|simp
    refine⟨[kZ,.hole,kO,.cells [(.aw 8 0 1,En),(.aw 6 0 1,En),(.aw 5 1 2,En)],cg,.vec 4 1 [aZ,aR v.1],.vec 5 0 [aE e],.hole,.vec 5 0 [aE e]],?_,?_⟩
    ·rw[qn (show pr.bQ 49=I jB from rfl) (by simp)]
     simp only[go_sem,seval,jB,h1,h2,w1,wa,w2,h3,g1,g2,g3,joj]<;>rfl
    ·simp only[go_sem,seval,(show ∀k b v l,k≤b→below k (.aw b v l)=En from fun k b v l h=>by rw[jdd];exact decide_eq_false (by omega))]<;>rfl
   ·cases h
    refine⟨[kZ,.hole,kO,cg,cg,.vec 4 0 [aZ]],?_,tw rfl⟩
    rw[qn (show pr.bQ 49=I jB from rfl) (by simp)]
    simp only[go_sem,seval,jB,h1,h2,w1,wa,w2,h3]<;>rfl
 ·cases h
  refine⟨[kZ,.hole,kO,cg,cg,.vec 4 0 [aZ]],?_,tw rfl⟩
  rw[qn (show pr.bQ 49=I jB from rfl) (by simp)]
  simp only[go_sem,seval,jB,h1]<;>rfl
def n8:Option HV→qh
 |none=>[kZ,.hole,kO,cg,cg,.vec 4 0 [aZ]]
 |some v=>[kZ,.hole,kO,kV v 8 6 5,cg,.vec 4 v.vs (v.ss.map zo),.vec 5 v.vc (v.cs.map vev),.hole,.vec 5 v.ve (v.ev.map vev)]
def pA (l:Option (List GEv))(x:Int×Option HV):bf:=⟨[(2,.ptr 2 0,En),(5,.ptr 3 0,En),(14,sl 5 vev l,En),(15,Lv l,En),(16,Iv x.1,En)],n8 x.2⟩
def wv (l:Option (List GEv)):(Int×Int×Option HV)⊕(Int×Option HV)→jf×bf
 | .inl d=>(.ret,⟨[(2,.ptr 2 0,En),(3,Iv d.1,En),(4,Iv d.2.1,En)],n8 d.2.2⟩)
 | .inr d=>(.exit 0,⟨[(2,.ptr 2 0,En),(5,.ptr 3 0,En),(14,sl 5 vev l,En),(15,Lv l,En),(16,Iv d.1,En),(17,.bool En,En)],n8 d.2⟩)
theorem j38 (l:Option (List GEv))(x:Int×Option HV)(r)(h:Cv l x=I r):jz pr qG (pA l) (wv l) x r:=by
 rcases x with⟨i,o⟩
 unfold Cv at h
 rcases qd h with⟨h1,h⟩|⟨h1,h⟩
 ·obtain⟨e,h2,h⟩:=qb h
  obtain⟨c,h3,h⟩:=qb h
  have w1:qc pr (X pr) 47 [aE e]=I (Iv c,En):=W47 h3
  rcases qd h with⟨h4,h⟩|⟨h4,h⟩
  ·obtain⟨e2,h5,h⟩:=qb h
   obtain⟨q,h6,h⟩:=qb h
   have w2:qc pr (X pr) 50 [aE e]=I (aE e2,En):=W50 h5
   rcases o with _|s
   ·obtain⟨hh,w3,wa⟩:=jwp (e:=e2) h6
    rcases q with⟨q1,q2⟩
    rcases q2 with _|v
    ·simp only at wa
     rcases qd h with⟨h7,h⟩|⟨h7,h⟩
     ·cases h
      exact E5 (bV:=pA l (qe .i64 (i+1),Ey)) (by simp only[go_sem,seval,qG,pA,n8,h1,yb h2,w1,h4,w2,w3,wa,h7]<;>rfl) (H2 (Nat.le_refl _))
     ·cases h
      exact qz (by simp only[go_sem,seval,qG,pA,n8,h1,yb h2,w1,h4,w2,w3,wa,h7,wv]<;>rfl)
    ·simp only at wa
     rcases qd h with⟨h7,h⟩|⟨h7,h⟩
     ·cases h
      exact E5 (bV:=pA l (qe .i64 (i+1),I v)) (by simp only[go_sem,seval,qG,pA,n8,h1,yb h2,w1,h4,w2,w3,wa,h7]<;>rfl) (jrd rfl)
     ·cases h
      exact qz (by simp only[go_sem,seval,qG,pA,n8,h1,yb h2,w1,h4,w2,w3,wa,h7,wv]<;>rfl)
   ·obtain⟨q0,h8,h9⟩:=qb h6
    cases h9
    obtain⟨hh,w3,wa⟩:=j9d (e:=e2) h8
    rcases qd h with⟨h7,h⟩|⟨h7,h⟩
    ·cases h
     exact E5 (bV:=pA l (qe .i64 (i+1),I q0.2)) (by simp only[go_sem,seval,qG,pA,n8,h1,yb h2,w1,h4,w2,w3,wa,h7]<;>rfl) (H2 (Nat.le_refl _))
    ·cases h
     exact qz (by simp only[go_sem,seval,qG,pA,n8,h1,yb h2,w1,h4,w2,w3,wa,h7,wv]<;>rfl)
  ·cases h
   rcases o with _|s
   ·exact qz (by simp only[go_sem,seval,qG,pA,n8,h1,yb h2,w1,h4,wv]<;>rfl)
   ·exact qz (by simp only[go_sem,seval,qG,pA,n8,h1,yb h2,w1,h4,wv]<;>rfl)
 ·cases h
  exact qz (by simp only[go_sem,seval,qG,pA,h1,wv]<;>rfl)
theorem jum:qm pr (X pr) 108 [] [kZ,.hole,kO,.hole]=I (.agg [Nl,Nl,.aw 5 0 1],En,[kZ,.hole,kO,.hole,cg,.vec 4 0 [aZ]]):=by
 have Kh:qf pr (X pr) 5 Ey [(1,aZ,En),(0,.ptr 4 0,En)] [kZ,.hole,kO,.hole,kO,.hole] (.iN 0 4 1 [Iv 0,Nl,Nl,Nl] [(0,.tmp 1)])=I ⟨.aw 5 0 1,En,Ey,[kZ,.hole,kO,.hole,kO,.vec 4 0 [aZ]]⟩:=rfl
 rw[qn (show pr.bQ 108=I tz from rfl) (by simp)]
 simp only[go_sem,seval,tz,Kh]<;>rfl
def Az:Option HV→qh
 |none=>[kZ,.hole,cg,cg,cg,.vec 4 0 [aZ]]
 |some v=>[kZ,.hole,kV v 8 6 5,kV v 8 6 5,cg,.vec 4 v.vs (v.ss.map zo),.vec 5 v.vc (v.cs.map vev),.hole,.vec 5 v.ve (v.ev.map vev)]
def xk:Option HV→AVal
 |none=>.agg [Nl,Nl,.aw 5 0 1]
 |some v=>.agg [.aw 8 v.ve v.ev.length,.aw 6 v.vc v.lc,.aw 5 v.vs v.ls]
def wx:(Int × Int)⊕Option HV→AVal
 | .inl x=>.aB [.agg [Nl,Nl,Nl],Iv x.1,Iv x.2]
 | .inr o=>.aB [xk o,Iv 0,Iv 0]
def xK:(Int × Int)⊕Option HV→qh
 | .inl _=>[kZ,.hole]
 | .inr o=>Az o
theorem j9j {l r}(h:f45 l=I r):∃hh,qm pr (X pr) 45 [sl 5 vev l] [kZ,.hole]=I (wx r,En,hh)∧zg 2 (wx r) hh=xK r:=by
 unfold f45 at h
 rcases qd h with⟨h1,h⟩|⟨h1,h⟩
 ·cases h
  refine⟨[kZ,.hole,kO],?_,?_⟩
  ·rw[qn (show pr.bQ 45=I qH from rfl) (by simp)]
   simp only[go_sem,seval,qH,h1]<;>rfl
  ·simp only[go_sem,seval,wx,xK]<;>rfl
 ·obtain⟨d,h2,h⟩:=qb h
  have w:=jum
  have wa:zg 4 (.agg [Nl,Nl,.aw 5 0 1]) [kZ,.hole,kO,.hole,cg,.vec 4 0 [aZ]]=[kZ,.hole,kO,.hole,cg,.vec 4 0 [aZ]]:=by simp only[go_sem,seval]<;>rfl
  have wl:X pr (.loop qG) ⟨[(2,.ptr 2 0,En),(5,.ptr 3 0,En),(14,sl 5 vev l,En),(15,Lv l,En),(16,Iv 0,En)],[kZ,.hole,kO,cg,cg,.vec 4 0 [aZ]]⟩=I (wv l d):=zj (j38 l) h2
  rcases d with⟨d1,d2,d3⟩|⟨d1,d2⟩
  ·cases h
   simp only[wv]at wl
   rcases d3 with _|v
   ·refine⟨[kZ,.hole,kO,cg,cg,.vec 4 0 [aZ]],?_,?_⟩
    ·simp only[n8]at wl
     rw[qn (show pr.bQ 45=I qH from rfl) (by simp)]
     simp only[go_sem,seval,qH,h1,w,wa,wl]<;>rfl
    ·simp only[go_sem,seval,wx,xK]<;>rfl
   ·refine⟨[kZ,.hole,kO,kV v 8 6 5,cg,.vec 4 v.vs (v.ss.map zo),.vec 5 v.vc (v.cs.map vev),.hole,.vec 5 v.ve (v.ev.map vev)],?_,?_⟩
    ·simp only[n8]at wl
     rw[qn (show pr.bQ 45=I qH from rfl) (by simp)]
     simp only[go_sem,seval,qH,h1,w,wa,wl]<;>rfl
    ·simp only[go_sem,seval,wx,xK]<;>rfl
  ·cases h
   simp only[wv]at wl
   refine⟨Az d2,?_,?_⟩
   ·rw[qn (show pr.bQ 45=I qH from rfl) (by simp)]
    rcases d2 with _|v
    ·simp only[n8]at wl
     simp only[go_sem,seval,qH,h1,w,wa,wl,xk,Az]<;>rfl
    ·simp only[n8]at wl
     simp only[go_sem,seval,qH,h1,w,wa,wl,xk,Az]<;>rfl
   ·rcases d2 with _|v
    ·simp only[go_sem,seval,wx,xK,xk,Az]<;>rfl
    ·simp only[go_sem,seval,wx,xK,xk,Az]<;>rfl
end Go.Z
namespace Go.Z
open Go Go.Abs Go.W
theorem jt8:qm pr (X pr) 55 [.ptr 1 0] [kZ,cg,cg,cg,cg,.vec 4 0 [aZ]]=I (aZ,En,[kZ,cg,cg,cg,cg,.vec 4 0 [aZ],kZ]):=by
 have g1:∀h:qh,kF 4 h (I (.aw 5 0 1)) (I (Iv (qe .i64 0)))=I ⟨.dQ 5 0 0,En,Ey,h⟩:=fun h=>(Ay (l:=[fo]) (x:=fo) rfl).1
 have g2:gC 7 (I []) Gn 4 [kZ,cg,cg,cg,cg,.vec 4 0 [aZ],kZ] (I (.dQ 5 0 0))=I ⟨aZ,En,Ey,[kZ,cg,cg,cg,cg,.vec 4 0 [aZ],kZ]⟩:=rfl
 rw[qn (show pr.bQ 55=I tv from rfl) (by simp)]
 simp only[go_sem,seval,tv,g1,g2]<;>rfl
theorem j5z {s r}(hx:qr (s.ss.take s.ls) (qe .i64 ((s.ls:Int)-1))=I r):qm pr (X pr) 55 [.ptr 1 0] [kZ,kV s 8 6 5,kV s 8 6 5,kV s 8 6 5,cg,.vec 4 s.vs (s.ss.map zo),.vec 5 s.vc (s.cs.map vev),.hole,.vec 5 s.ve (s.ev.map vev)]=I (aR r,En,[kZ,kV s 8 6 5,kV s 8 6 5,kV s 8 6 5,cg,.vec 4 s.vs (s.ss.map zo),.vec 5 s.vc (s.cs.map vev),.hole,.vec 5 s.ve (s.ev.map vev),kR r.day r.lots r.ae r.units]):=by
 have g1:∀h:qh,kF 4 h (I (.aw 5 s.vs s.ls)) (I (Iv (qe .i64 ((s.ls:Int)-1))))=I ⟨.dQ 5 s.vs ((qe .i64 ((s.ls:Int)-1)).toNat*4),En,Ey,h⟩:=fun h=>(Ay hx).1
 have g2:gC 10 (I []) Gn 4 [kZ,kV s 8 6 5,kV s 8 6 5,kV s 8 6 5,cg,.vec 4 s.vs (s.ss.map zo),.vec 5 s.vc (s.cs.map vev),.hole,.vec 5 s.ve (s.ev.map vev),kZ] (I (.dQ 5 s.vs ((qe .i64 ((s.ls:Int)-1)).toNat*4)))=I ⟨aR r,En,Ey,[kZ,kV s 8 6 5,kV s 8 6 5,kV s 8 6 5,cg,.vec 4 s.vs (s.ss.map zo),.vec 5 s.vc (s.cs.map vev),.hole,.vec 5 s.ve (s.ev.map vev),kZ]⟩:=jen jn8 rfl rfl (Ay (sz:=4) (b:=0) (v:=0) (h:=[]) hx).2
 rw[qn (show pr.bQ 55=I tv from rfl) (by simp)]
 simp only[go_sem,seval,tv,g1,g2]<;>rfl
def jub:Option HV→Option aj
 |none=>I fo
 |some s=>qr (s.ss.take s.ls) (qe .i64 ((s.ls:Int)-1))
def f16 (l:Option (List GEv)):Option (aj×Int×Int):=qa (f45 l) fun r=>match r with
 | .inl x=>cond (decide (x.2=0)) Ey (I (fo,x.1,x.2))
 | .inr o=>qa (jub o) fun r=>I (r,0,0)
theorem JU {l r}(h:f16 l=I r):qc pr (X pr) 16 [sl 5 vev l]=I (.aB [aR r.1,Iv r.2.1,Iv r.2.2],En):=by
 unfold f16 at h
 obtain⟨x,h1,h⟩:=qb h
 obtain⟨hh,w,wa⟩:=j9j h1
 rcases x with x|o
 ·rcases qd h with⟨h2,h⟩|⟨h2,h⟩
  ·cases h
  ·cases h
   simp only[wx,xK]at w wa
   have this:∃hh,qm pr (X pr) 16 [sl 5 vev l] []=I (.aB [aZ,Iv x.1,Iv x.2],En,hh):=by
    rw[qn (show pr.bQ 16=I xM from rfl) (by simp)]
    simp only[go_sem,seval,xM,w,wa,h2]
    exact⟨_,rfl⟩
   obtain⟨hh,this⟩:=this
   exact yd rfl this (by first|rfl|simp only[go_sem,seval]) (by first|rfl|simp only[go_sem,seval])
 ·obtain⟨r,h2,h⟩:=qb h
  cases h
  rcases o with _|v
  ·cases h2
   simp only[wx,xK,Az,xk]at w wa
   have w2:=jt8
   have wb:zg 6 (aZ) [kZ,cg,cg,cg,cg,.vec 4 0 [aZ],kZ]=[kZ,cg,cg,cg,cg,.vec 4 0 [aZ]]:=by simp only[go_sem,seval]<;>rfl
   have this:∃hh,qm pr (X pr) 16 [sl 5 vev l] []=I (.aB [aZ,Iv 0,Iv 0],En,hh):=by
    rw[qn (show pr.bQ 16=I xM from rfl) (by simp)]
    simp only[go_sem,seval,xM,w,wa,w2,wb]
    exact⟨_,rfl⟩
   obtain⟨hh,this⟩:=this
   exact yd rfl this (by first|rfl|simp only[go_sem,seval]) (by first|rfl|simp only[go_sem,seval])
  ·simp only[wx,xK,Az,xk]at w wa
   have w2:=j5z (s:=v) h2
   have wb:zg 9 (aR r) [kZ,kV v 8 6 5,kV v 8 6 5,kV v 8 6 5,cg,.vec 4 v.vs (v.ss.map zo),.vec 5 v.vc (v.cs.map vev),.hole,.vec 5 v.ve (v.ev.map vev),kR r.day r.lots r.ae r.units]=[kZ,kV v 8 6 5,kV v 8 6 5,kV v 8 6 5,cg,.vec 4 v.vs (v.ss.map zo),.vec 5 v.vc (v.cs.map vev),.hole,.vec 5 v.ve (v.ev.map vev)]:=by simp only[go_sem,seval]<;>rfl
   have this:∃hh,qm pr (X pr) 16 [sl 5 vev l] []=I (.aB [aR r,Iv 0,Iv 0],En,hh):=by
    rw[qn (show pr.bQ 16=I xM from rfl) (by simp)]
    simp only[go_sem,seval,xM,w,wa,w2,wb]
    exact⟨_,rfl⟩
   obtain⟨hh,this⟩:=this
   exact yd rfl this (by first|rfl|simp only[go_sem,seval]) (by first|rfl|simp only[go_sem,seval])
end Go.Z
end
