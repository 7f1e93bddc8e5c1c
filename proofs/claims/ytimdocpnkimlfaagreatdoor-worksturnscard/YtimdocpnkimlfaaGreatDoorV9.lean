/- Chapter 10. -/
import Derived.Test.YtimdocpnkimlfaaGreatDoorW12
set_option linter.unusedVariables false
set_option linter.unusedSimpArgs false
set_option maxRecDepth 100000
set_option maxHeartbeats 4000000
noncomputable section
open Bool renaming false→I,true→Ga
open Option renaming some→En,none→Es
open Nat renaming le_refl→E9
namespace Go.Z
open Go Go.Abs Go.W
@[go_sem] theorem j9k {b v l}:(AVal.aj b v l).flat=[.aj b v l]:=rfl
@[go_sem] theorem zki {b v l}:ql (.aj b v l)=Ga:=rfl
@[go_sem] theorem j8q {b v l}:AVal.cS (.aj b v l)=I:=rfl
theorem Yg:∀ x:GEv,(vev x).flat.length=5:=fun _=>rfl
theorem Nq:∀ x:ar,(jf x).flat.length=4:=fun _=>rfl
section
variable {h:qh}{α:Type}
theorem lG {sz b v len:Nat}{l:List α}{i x}(hx:qq (l.take len) i=En x):hH sz h (En (.aj b v len)) (En (Iv i))=En ⟨.di b v (i.toNat*sz),I,Es,h⟩∧l[i.toNat]?=En x:=by
 unfold qq at hx
 split at hx
 ·rename_i hi
  have h2:=(List.getElem?_eq_some_iff.1 hx).1
  rw[List.length_take]at h2
  have h3:i.toNat<len:=by omega
  refine⟨?_,?_⟩
  ·have:=jco (sz:=sz) (h:=h) (b:=b) (v:=v) (k:=.i64) h3
   rw[Int.toNat_of_nonneg hi]at this
   exact this
  ·rw[List.getElem?_take,if_pos h3]at hx
   exact hx
 ·cases hx
theorem EZ {sz b v len:Nat}{i}(hi:0≤i)(hl:i≤(len:Int)):nz sz h (En (.aj b v len)) Es (En (En (Iv i)))=En ⟨.aj b v i.toNat,I,Es,h⟩:=by
 have:rT len len (En (En (Iv i)))=En i.toNat:=by
  simp only[rT,zY]
  cases i with
  |ofNat n=>
   have h1:((n:Nat):Int)≤(len:Int):=hl
   have h2:n≤len:=by omega
   simp only[Nat.ble_eq_true_of_le h2,cond_true]
   rfl
  |negSucc n=>omega
 simp only[nz,this]
 rfl
def rP (xs:List α)(len:Nat)(x:α):Option (List α):=if len≤xs.length∧len+1≤1073741824 then En (xs.take len++[x])else Es
theorem nP {h0 b v len r sz bytes:Nat}{c:Bool}{f:α→AVal}{l l':List α}{x}(hp:rP l len x=En l')(hb:h[b]?=En (.vec sz v (l.map f)))(hx:qw 0 [f x]=Ga)(hz:0<sz)(RR:bytes≤4096)(hr:r<1000):
  gL h0 r sz bytes h (En (.aj b v len)) (En (.list c sz [f x]))=En ⟨.aj b (v+1) (len+1),I,Es,h.set b (.vec sz (v+1) (l'.map f))⟩:=by
 unfold rP at hp
 split at hp
 ·rename_i hl
  cases hp
  have:=jdx (h:=h) (h0:=h0) (c:=c) (ys:=[f x]) hb (by rw[List.length_map];exact hl.1) (by simpa using hl.2) RR hz hx hr
  rw[this]
  simp[List.map_take]
 ·cases hp
end
structure HV where
 ev:List GEv
 ve:Nat
 cs:List GEv
 lc:Nat
 vc:Nat
 ss:List ar
 ls:Nat
 vs:Nat
abbrev kV (v:HV)(a b c:Nat):bg:=.cells [(.aj a v.ve v.ev.length,I),(.aj b v.vc v.lc,I),(.aj c v.vs v.ls,I)]
theorem q7f {n st}(h:zk n (st.heap.take n)=I):gc n st=st:=by
 unfold gc
 rw[h,Bool.and_false,cond_false]
 cases Nat.ble st.heap.length n<;>rfl
theorem E0 {α:Type}{l l':List α}{x}(h:rP l l.length x=En l'):l'.length=l.length+1:=by
 unfold rP at h
 split at h
 ·cases h;simp
 ·cases h
def wK (s:HV)(e:GEv):Option (Int×HV):=
 cond (decide (e.number=qe .i64 ((s.ev.length:Int)+1)))
  (cond (decide (e.kind=([117,110,100,111]:List UInt8)))
   (qa (f48 (decide ((s.lc:Int)=0)) 12) fun e1=>
   cond (decide (0<(s.lc:Int)))
    (qa (qq (s.cs.take s.lc) (max 0 (qe .i64 ((s.lc:Int)-1)))) fun x=>
    qa (f48 (decide (x.kind=([115,104,105,112]:List UInt8))) 19) fun e2=>
    qa (f46 (En [e1,e2])) fun e3=>
    cond (decide (e3=0))
     (cond (decide (0≤qe .i64 ((s.lc:Int)-1)∧qe .i64 ((s.lc:Int)-1)≤(s.lc:Int)∧s.lc≤s.ls))
      (qa (rP s.ev s.ev.length e) fun ev=>En (0,{ s with ev:=ev,ve:=s.ve+1,lc:=(qe .i64 ((s.lc:Int)-1)).toNat,ls:=s.lc }))
      Es)
     (En (e3,s)))
    (qa (f48 I 19) fun e2=>qa (f46 (En [e1,e2])) fun e3=>cond (decide (e3=0)) Es (En (e3,s))))
   (qa (qq (s.ss.take s.ls) (qe .i64 ((s.ls:Int)-1))) fun r=>
   qa (jQ r e) fun v=>
   cond (decide (v.2=0))
    (qa (rP s.cs s.lc e) fun cs=>qa (rP s.ss s.ls v.1) fun ss=>qa (rP s.ev s.ev.length e) fun ev=>
    En (0,{ ev:=ev,ve:=s.ve+1,cs:=cs,lc:=s.lc+1,vc:=s.vc+1,ss:=ss,ls:=s.ls+1,vs:=s.vs+1 }))
    (En (v.2,s))))
  (En (11,s))
theorem E1:decide (((([]:List AVal).length:Nat):Int)=0)=Ga:=rfl
theorem Yh:decide ((0:Int)<((([]:List AVal).length:Nat):Int))=I:=rfl
theorem Yi:decide ((0:Int)<((0:Nat):Int))=I:=rfl
def dN:ar:=⟨0,Es,Es,Es⟩
def wJ (e:GEv):Option (Int×Option HV):=
 cond (decide (e.number=qe .i64 1))
  (cond (decide (e.kind=([117,110,100,111]:List UInt8)))
   (qa (f48 Ga 12) fun e1=>qa (f48 I 19) fun e2=>qa (f46 (En [e1,e2])) fun e3=>cond (decide (e3=0)) Es (En (e3,Es)))
   (qa (jQ dN e) fun v=>
   cond (decide (v.2=0))
    (En (0,En { ev:=[e],ve:=0,cs:=[e],lc:=1,vc:=0,ss:=[dN,v.1],ls:=2,vs:=1 }))
    (En (v.2,Es))))
  (En (11,Es))
def Ip (s:Option HV)(e:GEv):Option (Int×Option HV):=match s with
 |none=>wJ e
 |some s=>qa (wK s e) fun q=>En (q.1,En q.2)
def wL (l:Option (List GEv))(x:Int×Option HV):Option ((Int×Option HV)⊕((Int×Int×Option HV)⊕(Int×Option HV))):=
 cond (decide (x.1<((l.getD []).length:Int)))
  (qa (qq (l.getD []) x.1) fun e=>
  qa (f47 e) fun c=>
  cond (decide (c=0))
   (qa (f50 e) fun e2=>
   qa (Ip x.2 e2) fun q=>
   cond (decide (q.1=0))
    (En (.inl (qe .i64 (x.1+1),q.2)))
    (En (.inr (.inl (qe .i64 (x.1+1),q.1,q.2)))))
   (En (.inr (.inl (qe .i64 (x.1+1),c,x.2)))))
  (En (.inr (.inr x)))
def f45 (l:Option (List GEv)):Option ((Int×Int)⊕Option HV):=
 cond (decide (1000<((l.getD []).length:Int)))
  (En (.inl (0,5)))
  (qa (bB (wL l) (0,Es)) fun d=>match d with
  | .inl d=>En (.inl (d.1,d.2.1))
  | .inr d=>En (.inr d.2))
theorem j0n {s:HV}{r:ar}(hx:qq (s.ss.take s.ls) (qe .i64 ((s.ls:Int)-1))=En r):qm pr (X pr) 55 [.ptr 3 0] [kZ,.hole,kO,kV s 8 6 5,cm,.vec 4 s.vs (s.ss.map jf),.vec 5 s.vc (s.cs.map vev),.hole,.vec 5 s.ve (s.ev.map vev)]=En (aR r,I,[kZ,.hole,kO,kV s 8 6 5,cm,.vec 4 s.vs (s.ss.map jf),.vec 5 s.vc (s.cs.map vev),.hole,.vec 5 s.ve (s.ev.map vev),kR r.day r.au r.ae r.units]):=by
 have g1:∀h:qh,hH 4 h (En (.aj 5 s.vs s.ls)) (En (Iv (qe .i64 ((s.ls:Int)-1))))=En ⟨.di 5 s.vs ((qe .i64 ((s.ls:Int)-1)).toNat*4),I,Es,h⟩:=fun h=>(lG hx).1
 have g2:y5 10 (En []) Ga 4 [kZ,.hole,kO,kV s 8 6 5,cm,.vec 4 s.vs (s.ss.map jf),.vec 5 s.vc (s.cs.map vev),.hole,.vec 5 s.ve (s.ev.map vev),kZ] (En (.di 5 s.vs ((qe .i64 ((s.ls:Int)-1)).toNat*4)))=En ⟨aR r,I,Es,[kZ,.hole,kO,kV s 8 6 5,cm,.vec 4 s.vs (s.ss.map jf),.vec 5 s.vc (s.cs.map vev),.hole,.vec 5 s.ve (s.ev.map vev),kZ]⟩:=LA Nq rfl rfl (lG (sz:=4) (b:=0) (v:=0) (h:=[]) hx).2
 rw[qj (show pr.bG 55=En lm from rfl) (by simp)]
 simp only[go_sem,seval,lm,g1,g2]<;>rfl
theorem jzy {s:HV}{e:GEv}{q}(h:wK s e=En q):∃hh,qm pr (X pr) 49 [.ptr 3 0,aE e] [kZ,.hole,kO,kV s 8 6 5,cm,.vec 4 s.vs (s.ss.map jf),.vec 5 s.vc (s.cs.map vev),.hole,.vec 5 s.ve (s.ev.map vev)]=En (Iv q.1,I,hh)∧jp 9 (Iv q.1) hh=[kZ,.hole,kO,.cells [(.aj 8 q.2.ve q.2.ev.length,I),(.aj 6 q.2.vc q.2.lc,I),(.aj 5 q.2.vs q.2.ls,I)],cm,.vec 4 q.2.vs (q.2.ss.map jf),.vec 5 q.2.vc (q.2.cs.map vev),.hole,.vec 5 q.2.ve (q.2.ev.map vev)]:=by
 unfold wK at h
 rcases qd h with⟨h1,h⟩|⟨h1,h⟩
 ·rcases qd h with⟨h2,h⟩|⟨h2,h⟩
  ·obtain⟨e1,k1,h⟩:=qb h
   have w1:=eO k1
   rcases qd h with⟨h3,h⟩|⟨h3,h⟩
   ·obtain⟨x,k2,h⟩:=qb h
    obtain⟨e2,k3,h⟩:=qb h
    obtain⟨e3,k4,h⟩:=qb h
    have w2:=eO k3
    have w3:qc pr (X pr) 46 [.list I 1 [Iv e1,Iv e2]]=En (Iv e3,I):=iZ k4
    have g1:∀h:qh,hH 5 h (En (.aj 6 s.vc s.lc)) (En (Iv (max 0 (qe .i64 ((s.lc:Int)-1)))))=En ⟨.di 6 s.vc ((max 0 (qe .i64 ((s.lc:Int)-1))).toNat*5),I,Es,h⟩:=fun h=>(lG k2).1
    have g2:y5 9 Es I 1 [kZ,.hole,kO,kV s 8 6 5,cm,.vec 4 s.vs (s.ss.map jf),.vec 5 s.vc (s.cs.map vev),.hole,.vec 5 s.ve (s.ev.map vev)] (En (.di 6 s.vc ((max 0 (qe .i64 ((s.lc:Int)-1))).toNat*5+1)))=En ⟨.str x.kind,I,Es,[kZ,.hole,kO,kV s 8 6 5,cm,.vec 4 s.vs (s.ss.map jf),.vec 5 s.vc (s.cs.map vev),.hole,.vec 5 s.ve (s.ev.map vev)]⟩:=S2 (f:=vev) (o:=1) Yg rfl rfl (lG (sz:=4) (b:=0) (v:=0) (h:=[]) k2).2 rfl
    rcases qd h with⟨h4,h⟩|⟨h4,h⟩
    ·rcases qd h with⟨h5,h⟩|⟨_,h⟩
     ·obtain⟨ev,eM,h⟩:=qb h
      cases h
      have cD:=of_decide_eq_true h5
      have hln:ev.length=s.ev.length+1:=E0 eM
      have g3:∀h:qh,nz 5 h (En (.aj 6 s.vc s.lc)) Es (En (En (Iv (qe .i64 ((s.lc:Int)-1)))))=En ⟨.aj 6 s.vc (qe .i64 ((s.lc:Int)-1)).toNat,I,Es,h⟩:=fun h=>EZ cD.1 cD.2.1
      have g4:∀h:qh,nz 4 h (En (.aj 5 s.vs s.ls)) Es (En (En (Iv (s.lc:Int))))=En ⟨.aj 5 s.vs s.lc,I,Es,h⟩:=fun h=>EZ (by omega) (by have:=cD.2.2;omega)
      have g5:gL 9 0 5 88 [kZ,.hole,kO,.cells [(.aj 8 s.ve s.ev.length,I),(.aj 6 s.vc (qe .i64 ((s.lc:Int)-1)).toNat,I),(.aj 5 s.vs s.lc,I)],cm,.vec 4 s.vs (s.ss.map jf),.vec 5 s.vc (s.cs.map vev),.hole,.vec 5 s.ve (s.ev.map vev),.hole] (En (.aj 8 s.ve s.ev.length)) (En (.list I 5 [aE e]))=En ⟨.aj 8 (s.ve+1) (s.ev.length+1),I,Es,[kZ,.hole,kO,.cells [(.aj 8 s.ve s.ev.length,I),(.aj 6 s.vc (qe .i64 ((s.lc:Int)-1)).toNat,I),(.aj 5 s.vs s.lc,I)],cm,.vec 4 s.vs (s.ss.map jf),.vec 5 s.vc (s.cs.map vev),.hole,.vec 5 (s.ve+1) (ev.map vev),.hole]⟩:=nP (f:=vev) (x:=e) eM rfl (by simp only[go_sem,seval]) (by decide) (by decide) (by decide)
      refine⟨[kZ,.hole,kO,.cells [(.aj 8 (s.ve+1) (s.ev.length+1),I),(.aj 6 s.vc (qe .i64 ((s.lc:Int)-1)).toNat,I),(.aj 5 s.vs s.lc,I)],cm,.vec 4 s.vs (s.ss.map jf),.vec 5 s.vc (s.cs.map vev),.hole,.vec 5 (s.ve+1) (ev.map vev),.hole],?_,?_⟩
      ·rw[qj (show pr.bG 49=En dp from rfl) (by simp)]
       simp only[go_sem,seval,dp,h1,h2,w1,h3,g1,g2,w2,w3,h4,g3,g4,g5]<;>rfl
      ·simp only[hln]
       simp only[go_sem,seval]<;>rfl
     ·cases h
    ·cases h
     refine⟨[kZ,.hole,kO,kV s 8 6 5,cm,.vec 4 s.vs (s.ss.map jf),.vec 5 s.vc (s.cs.map vev),.hole,.vec 5 s.ve (s.ev.map vev)],?_,ya rfl⟩
     rw[qj (show pr.bG 49=En dp from rfl) (by simp)]
     simp only[go_sem,seval,dp,h1,h2,w1,h3,g1,g2,w2,w3,h4]<;>rfl
   ·obtain⟨e2,k3,h⟩:=qb h
    obtain⟨e3,k4,h⟩:=qb h
    have w2:=eO k3
    have w3:qc pr (X pr) 46 [.list I 1 [Iv e1,Iv e2]]=En (Iv e3,I):=iZ k4
    rcases qd h with⟨h4,h⟩|⟨h4,h⟩
    ·cases h
    ·cases h
     refine⟨[kZ,.hole,kO,kV s 8 6 5,cm,.vec 4 s.vs (s.ss.map jf),.vec 5 s.vc (s.cs.map vev),.hole,.vec 5 s.ve (s.ev.map vev)],?_,ya rfl⟩
     rw[qj (show pr.bG 49=En dp from rfl) (by simp)]
     simp only[go_sem,seval,dp,h1,h2,w1,h3,w2,w3,h4]<;>rfl
  ·obtain⟨r,k1,h⟩:=qb h
   obtain⟨v,k2,h⟩:=qb h
   have w1:=j0n k1
   have wa:jp 9 (aR r) [kZ,.hole,kO,kV s 8 6 5,cm,.vec 4 s.vs (s.ss.map jf),.vec 5 s.vc (s.cs.map vev),.hole,.vec 5 s.ve (s.ev.map vev),kR r.day r.au r.ae r.units]=[kZ,.hole,kO,kV s 8 6 5,cm,.vec 4 s.vs (s.ss.map jf),.vec 5 s.vc (s.cs.map vev),.hole,.vec 5 s.ve (s.ev.map vev)]:=by simp only[go_sem,seval]<;>rfl
   have w2:qc pr (X pr) 113 [aR r,aE e]=En (.aI [aR v.1,Iv v.2],I):=E2 k2
   rcases qd h with⟨h3,h⟩|⟨h3,h⟩
   ·obtain⟨cs,hcs,h⟩:=qb h
    obtain⟨ss,py,h⟩:=qb h
    obtain⟨ev,eM,h⟩:=qb h
    cases h
    have hln:ev.length=s.ev.length+1:=E0 eM
    have g1:gL 9 0 5 88 [kZ,.hole,kO,kV s 8 6 5,cm,.vec 4 s.vs (s.ss.map jf),.vec 5 s.vc (s.cs.map vev),.hole,.vec 5 s.ve (s.ev.map vev),.hole,.hole] (En (.aj 6 s.vc s.lc)) (En (.list I 5 [aE e]))=En ⟨.aj 6 (s.vc+1) (s.lc+1),I,Es,[kZ,.hole,kO,kV s 8 6 5,cm,.vec 4 s.vs (s.ss.map jf),.vec 5 (s.vc+1) (cs.map vev),.hole,.vec 5 s.ve (s.ev.map vev),.hole,.hole]⟩:=nP (f:=vev) (x:=e) hcs rfl (by simp only[go_sem,seval]) (by decide) (by decide) (by decide)
    have g2:gL 9 1 4 80 [kZ,.hole,kO,kV s 8 6 5,cm,.vec 4 s.vs (s.ss.map jf),.vec 5 (s.vc+1) (cs.map vev),.hole,.vec 5 s.ve (s.ev.map vev),.hole,.hole] (En (.aj 5 s.vs s.ls)) (En (.list I 4 [aR v.1]))=En ⟨.aj 5 (s.vs+1) (s.ls+1),I,Es,[kZ,.hole,kO,kV s 8 6 5,cm,.vec 4 (s.vs+1) (ss.map jf),.vec 5 (s.vc+1) (cs.map vev),.hole,.vec 5 s.ve (s.ev.map vev),.hole,.hole]⟩:=nP (f:=jf) (x:=v.1) py rfl (by simp only[go_sem,seval]) (by decide) (by decide) (by decide)
    have g3:gL 11 0 5 88 [kZ,.hole,kO,.cells [(.aj 8 s.ve s.ev.length,I),(.aj 6 (s.vc+1) (s.lc+1),I),(.aj 5 (s.vs+1) (s.ls+1),I)],cm,.vec 4 (s.vs+1) (ss.map jf),.vec 5 (s.vc+1) (cs.map vev),.hole,.vec 5 s.ve (s.ev.map vev),.hole,.hole,.hole] (En (.aj 8 s.ve s.ev.length)) (En (.list I 5 [aE e]))=En ⟨.aj 8 (s.ve+1) (s.ev.length+1),I,Es,[kZ,.hole,kO,.cells [(.aj 8 s.ve s.ev.length,I),(.aj 6 (s.vc+1) (s.lc+1),I),(.aj 5 (s.vs+1) (s.ls+1),I)],cm,.vec 4 (s.vs+1) (ss.map jf),.vec 5 (s.vc+1) (cs.map vev),.hole,.vec 5 (s.ve+1) (ev.map vev),.hole,.hole,.hole]⟩:=nP (f:=vev) (x:=e) eM rfl (by simp only[go_sem,seval]) (by decide) (by decide) (by decide)
    refine⟨[kZ,.hole,kO,.cells [(.aj 8 (s.ve+1) (s.ev.length+1),I),(.aj 6 (s.vc+1) (s.lc+1),I),(.aj 5 (s.vs+1) (s.ls+1),I)],cm,.vec 4 (s.vs+1) (ss.map jf),.vec 5 (s.vc+1) (cs.map vev),.hole,.vec 5 (s.ve+1) (ev.map vev),.hole,.hole,.hole],?_,?_⟩
    ·rw[qj (show pr.bG 49=En dp from rfl) (by simp)]
     simp only[go_sem,seval,dp,h1,h2,w1,wa,w2,h3,g1,g2,g3]<;>rfl
    ·simp only[hln]
     simp only[go_sem,seval]<;>rfl
   ·cases h
    refine⟨[kZ,.hole,kO,kV s 8 6 5,cm,.vec 4 s.vs (s.ss.map jf),.vec 5 s.vc (s.cs.map vev),.hole,.vec 5 s.ve (s.ev.map vev)],?_,ya rfl⟩
    rw[qj (show pr.bG 49=En dp from rfl) (by simp)]
    simp only[go_sem,seval,dp,h1,h2,w1,wa,w2,h3]<;>rfl
 ·cases h
  refine⟨[kZ,.hole,kO,kV s 8 6 5,cm,.vec 4 s.vs (s.ss.map jf),.vec 5 s.vc (s.cs.map vev),.hole,.vec 5 s.ve (s.ev.map vev)],?_,ya rfl⟩
  rw[qj (show pr.bG 49=En dp from rfl) (by simp)]
  simp only[go_sem,seval,dp,h1]<;>rfl
theorem juf:qm pr (X pr) 55 [.ptr 3 0] [kZ,.hole,kO,cm,cm,.vec 4 0 [aZ]]=En (aZ,I,[kZ,.hole,kO,cm,cm,.vec 4 0 [aZ],kZ]):=by
 have g1:∀h:qh,hH 4 h (En (.aj 5 0 1)) (En (Iv (qe .i64 0)))=En ⟨.di 5 0 0,I,Es,h⟩:=fun h=>(lG (l:=[dN]) (x:=dN) rfl).1
 have g2:y5 7 (En []) Ga 4 [kZ,.hole,kO,cm,cm,.vec 4 0 [aZ],kZ] (En (.di 5 0 0))=En ⟨aZ,I,Es,[kZ,.hole,kO,cm,cm,.vec 4 0 [aZ],kZ]⟩:=rfl
 rw[qj (show pr.bG 55=En lm from rfl) (by simp)]
 simp only[go_sem,seval,lm,g1,g2]<;>rfl
theorem jrp {e:GEv}{q}(h:wJ e=En q):∃hh,qm pr (X pr) 49 [.ptr 3 0,aE e] [kZ,.hole,kO,cm,cm,.vec 4 0 [aZ]]=En (Iv q.1,I,hh)∧jp 6 (Iv q.1) hh=(match q.2 with
  |none=>[kZ,.hole,kO,cm,cm,.vec 4 0 [aZ]]
  |some v=>[kZ,.hole,kO,kV v 8 6 5,cm,.vec 4 v.vs (v.ss.map jf),.vec 5 v.vc (v.cs.map vev),.hole,.vec 5 v.ve (v.ev.map vev)]):=by
 unfold wJ at h
 rcases qd h with⟨h1,h⟩|⟨h1,h⟩
 ·rcases qd h with⟨h2,h⟩|⟨h2,h⟩
  ·obtain⟨e1,k1,h⟩:=qb h
   obtain⟨e2,k3,h⟩:=qb h
   obtain⟨e3,k4,h⟩:=qb h
   have w1:=eO k1
   have w2:=eO k3
   have w3:qc pr (X pr) 46 [.list I 1 [Iv e1,Iv e2]]=En (Iv e3,I):=iZ k4
   rcases qd h with⟨h4,h⟩|⟨h4,h⟩
   ·cases h
   ·cases h
    refine⟨[kZ,.hole,kO,cm,cm,.vec 4 0 [aZ]],?_,ya rfl⟩
    rw[qj (show pr.bG 49=En dp from rfl) (by simp)]
    simp only[go_sem,seval,dp,h1,h2,w1,w2,w3,h4,E1,Yh,Yi]<;>rfl
  ·obtain⟨v,k2,h⟩:=qb h
   have w1:=juf
   have wa:jp 6 (aZ) [kZ,.hole,kO,cm,cm,.vec 4 0 [aZ],kZ]=[kZ,.hole,kO,cm,cm,.vec 4 0 [aZ]]:=by simp only[go_sem,seval]<;>rfl
   have w2:qc pr (X pr) 113 [aZ,aE e]=En (.aI [aR v.1,Iv v.2],I):=E2 k2
   rcases qd h with⟨h3,h⟩|⟨h3,h⟩
   ·cases h
    have g1:gL 6 0 5 88 [kZ,.hole,kO,cm,cm,.vec 4 0 [aZ],.hole,.hole] (En (Nl)) (En (.list I 5 [aE e]))=En ⟨.aj 6 0 1,I,Es,[kZ,.hole,kO,cm,cm,.vec 4 0 [aZ],.vec 5 0 [aE e],.hole]⟩:=by apply DX<;>first|rfl|decide|(simp only[go_sem,seval]<;>done)|simp
    have g2:gL 6 1 4 80 [kZ,.hole,kO,cm,cm,.vec 4 0 [aZ],.vec 5 0 [aE e],.hole] (En (.aj 5 0 1)) (En (.list I 4 [aR v.1]))=En ⟨.aj 5 1 2,I,Es,[kZ,.hole,kO,cm,cm,.vec 4 1 [aZ,aR v.1],.vec 5 0 [aE e],.hole]⟩:=nP (f:=jf) (l:=[dN]) (l':=[dN,v.1]) (x:=v.1) rfl rfl (by simp only[go_sem,seval]) (by decide) (by decide) (by decide)
    have g3:gL 8 0 5 88 [kZ,.hole,kO,.cells [(Nl,I),(.aj 6 0 1,I),(.aj 5 1 2,I)],cm,.vec 4 1 [aZ,aR v.1],.vec 5 0 [aE e],.hole,.hole] (En (Nl)) (En (.list I 5 [aE e]))=En ⟨.aj 8 0 1,I,Es,[kZ,.hole,kO,.cells [(Nl,I),(.aj 6 0 1,I),(.aj 5 1 2,I)],cm,.vec 4 1 [aZ,aR v.1],.vec 5 0 [aE e],.hole,.vec 5 0 [aE e]]⟩:=by apply DX<;>first|rfl|decide|(simp only[go_sem,seval]<;>done)|simp
    refine⟨[kZ,.hole,kO,.cells [(.aj 8 0 1,I),(.aj 6 0 1,I),(.aj 5 1 2,I)],cm,.vec 4 1 [aZ,aR v.1],.vec 5 0 [aE e],.hole,.vec 5 0 [aE e]],?_,?_⟩
    ·rw[qj (show pr.bG 49=En dp from rfl) (by simp)]
     simp only[go_sem,seval,dp,h1,h2,w1,wa,w2,h3,g1,g2,g3,E1]<;>rfl
    ·simp only[go_sem,seval,(show ∀k b v l,k≤b→below k (.aj b v l)=I from fun k b v l h=>by rw[qvi];exact decide_eq_false (by omega))]<;>rfl
   ·cases h
    refine⟨[kZ,.hole,kO,cm,cm,.vec 4 0 [aZ]],?_,ya rfl⟩
    rw[qj (show pr.bG 49=En dp from rfl) (by simp)]
    simp only[go_sem,seval,dp,h1,h2,w1,wa,w2,h3]<;>rfl
 ·cases h
  refine⟨[kZ,.hole,kO,cm,cm,.vec 4 0 [aZ]],?_,ya rfl⟩
  rw[qj (show pr.bG 49=En dp from rfl) (by simp)]
  simp only[go_sem,seval,dp,h1]<;>rfl
def nQ:Option HV→qh
 |none=>[kZ,.hole,kO,cm,cm,.vec 4 0 [aZ]]
 |some v=>[kZ,.hole,kO,kV v 8 6 5,cm,.vec 4 v.vs (v.ss.map jf),.vec 5 v.vc (v.cs.map vev),.hole,.vec 5 v.ve (v.ev.map vev)]
def ph (l:Option (List GEv))(x:Int×Option HV):bf:=⟨[(2,.ptr 2 0,I),(5,.ptr 3 0,I),(14,sl 5 vev l,I),(15,Lv l,I),(16,Iv x.1,I)],nQ x.2⟩
def vM (l:Option (List GEv)):(Int×Int×Option HV)⊕(Int×Option HV)→je×bf
 | .inl d=>(.ret,⟨[(2,.ptr 2 0,I),(3,Iv d.1,I),(4,Iv d.2.1,I)],nQ d.2.2⟩)
 | .inr d=>(.exit 0,⟨[(2,.ptr 2 0,I),(5,.ptr 3 0,I),(14,sl 5 vev l,I),(15,Lv l,I),(16,Iv d.1,I),(17,.bool I,I)],nQ d.2⟩)
theorem j3s (l:Option (List GEv))(x:Int×Option HV)(r)(h:wL l x=En r):jw pr jA (ph l) (vM l) x r:=by
 rcases x with⟨i,o⟩
 unfold wL at h
 rcases qd h with⟨h1,h⟩|⟨h1,h⟩
 ·obtain⟨e,h2,h⟩:=qb h
  obtain⟨c,h3,h⟩:=qb h
  have w1:qc pr (X pr) 47 [aE e]=En (Iv c,I):=Yj h3
  rcases qd h with⟨h4,h⟩|⟨h4,h⟩
  ·obtain⟨e2,h5,h⟩:=qb h
   obtain⟨q,h6,h⟩:=qb h
   have w2:qc pr (X pr) 50 [aE e]=En (aE e2,I):=Yk h5
   rcases o with _|s
   ·obtain⟨hh,w3,wa⟩:=jrp (e:=e2) h6
    rcases q with⟨q1,q2⟩
    rcases q2 with _|v
    ·simp only at wa
     rcases qd h with⟨h7,h⟩|⟨h7,h⟩
     ·cases h
      exact wy (bZ:=ph l (qe .i64 (i+1),Es)) (by simp only[go_sem,seval,jA,ph,nQ,h1,zh h2,w1,h4,w2,w3,wa,h7]<;>rfl) (A3 (E9 _))
     ·cases h
      exact qx (by simp only[go_sem,seval,jA,ph,nQ,h1,zh h2,w1,h4,w2,w3,wa,h7,vM]<;>rfl)
    ·simp only at wa
     rcases qd h with⟨h7,h⟩|⟨h7,h⟩
     ·cases h
      exact wy (bZ:=ph l (qe .i64 (i+1),En v)) (by simp only[go_sem,seval,jA,ph,nQ,h1,zh h2,w1,h4,w2,w3,wa,h7]<;>rfl) (q7f rfl)
     ·cases h
      exact qx (by simp only[go_sem,seval,jA,ph,nQ,h1,zh h2,w1,h4,w2,w3,wa,h7,vM]<;>rfl)
   ·obtain⟨q0,h8,h9⟩:=qb h6
    cases h9
    obtain⟨hh,w3,wa⟩:=jzy (e:=e2) h8
    rcases qd h with⟨h7,h⟩|⟨h7,h⟩
    ·cases h
     exact wy (bZ:=ph l (qe .i64 (i+1),En q0.2)) (by simp only[go_sem,seval,jA,ph,nQ,h1,zh h2,w1,h4,w2,w3,wa,h7]<;>rfl) (A3 (E9 _))
    ·cases h
     exact qx (by simp only[go_sem,seval,jA,ph,nQ,h1,zh h2,w1,h4,w2,w3,wa,h7,vM]<;>rfl)
  ·cases h
   rcases o with _|s
   ·exact qx (by simp only[go_sem,seval,jA,ph,nQ,h1,zh h2,w1,h4,vM]<;>rfl)
   ·exact qx (by simp only[go_sem,seval,jA,ph,nQ,h1,zh h2,w1,h4,vM]<;>rfl)
 ·cases h
  exact qx (by simp only[go_sem,seval,jA,ph,h1,vM]<;>rfl)
theorem jvi:qm pr (X pr) 108 [] [kZ,.hole,kO,.hole]=En (.agg [Nl,Nl,.aj 5 0 1],I,[kZ,.hole,kO,.hole,cm,.vec 4 0 [aZ]]):=by
 have tm:qf pr (X pr) 5 Es [(1,aZ,I),(0,.ptr 4 0,I)] [kZ,.hole,kO,.hole,kO,.hole] (.ib 0 4 1 [Iv 0,Nl,Nl,Nl] [(0,.tmp 1)])=En ⟨.aj 5 0 1,I,Es,[kZ,.hole,kO,.hole,kO,.vec 4 0 [aZ]]⟩:=rfl
 rw[qj (show pr.bG 108=En nR from rfl) (by simp)]
 simp only[go_sem,seval,nR,tm]<;>rfl
def zR:Option HV→qh
 |none=>[kZ,.hole,cm,cm,cm,.vec 4 0 [aZ]]
 |some v=>[kZ,.hole,kV v 8 6 5,kV v 8 6 5,cm,.vec 4 v.vs (v.ss.map jf),.vec 5 v.vc (v.cs.map vev),.hole,.vec 5 v.ve (v.ev.map vev)]
def Cj:Option HV→AVal
 |none=>.agg [Nl,Nl,.aj 5 0 1]
 |some v=>.agg [.aj 8 v.ve v.ev.length,.aj 6 v.vc v.lc,.aj 5 v.vs v.ls]
def vN:(Int × Int)⊕Option HV→AVal
 | .inl x=>.aI [.agg [Nl,Nl,Nl],Iv x.1,Iv x.2]
 | .inr o=>.aI [Cj o,Iv 0,Iv 0]
def xe:(Int × Int)⊕Option HV→qh
 | .inl _=>[kZ,.hole]
 | .inr o=>zR o
theorem j3a {l r}(h:f45 l=En r):∃hh,qm pr (X pr) 45 [sl 5 vev l] [kZ,.hole]=En (vN r,I,hh)∧jp 2 (vN r) hh=xe r:=by
 unfold f45 at h
 rcases qd h with⟨h1,h⟩|⟨h1,h⟩
 ·cases h
  refine⟨[kZ,.hole,kO],?_,?_⟩
  ·rw[qj (show pr.bG 45=En jS from rfl) (by simp)]
   simp only[go_sem,seval,jS,h1]<;>rfl
  ·simp only[go_sem,seval,vN,xe]<;>rfl
 ·obtain⟨d,h2,h⟩:=qb h
  have w:=jvi
  have wa:jp 4 (.agg [Nl,Nl,.aj 5 0 1]) [kZ,.hole,kO,.hole,cm,.vec 4 0 [aZ]]=[kZ,.hole,kO,.hole,cm,.vec 4 0 [aZ]]:=by simp only[go_sem,seval]<;>rfl
  have wl:X pr (.loop jA) ⟨[(2,.ptr 2 0,I),(5,.ptr 3 0,I),(14,sl 5 vev l,I),(15,Lv l,I),(16,Iv 0,I)],[kZ,.hole,kO,cm,cm,.vec 4 0 [aZ]]⟩=En (vM l d):=ze (j3s l) h2
  rcases d with⟨d1,d2,d3⟩|⟨d1,d2⟩
  ·cases h
   simp only[vM]at wl
   rcases d3 with _|v
   ·refine⟨[kZ,.hole,kO,cm,cm,.vec 4 0 [aZ]],?_,?_⟩
    ·simp only[nQ]at wl
     rw[qj (show pr.bG 45=En jS from rfl) (by simp)]
     simp only[go_sem,seval,jS,h1,w,wa,wl]<;>rfl
    ·simp only[go_sem,seval,vN,xe]<;>rfl
   ·refine⟨[kZ,.hole,kO,kV v 8 6 5,cm,.vec 4 v.vs (v.ss.map jf),.vec 5 v.vc (v.cs.map vev),.hole,.vec 5 v.ve (v.ev.map vev)],?_,?_⟩
    ·simp only[nQ]at wl
     rw[qj (show pr.bG 45=En jS from rfl) (by simp)]
     simp only[go_sem,seval,jS,h1,w,wa,wl]<;>rfl
    ·simp only[go_sem,seval,vN,xe]<;>rfl
  ·cases h
   simp only[vM]at wl
   refine⟨zR d2,?_,?_⟩
   ·rw[qj (show pr.bG 45=En jS from rfl) (by simp)]
    rcases d2 with _|v
    ·simp only[nQ]at wl
     simp only[go_sem,seval,jS,h1,w,wa,wl,Cj,zR]<;>rfl
    ·simp only[nQ]at wl
     simp only[go_sem,seval,jS,h1,w,wa,wl,Cj,zR]<;>rfl
   ·rcases d2 with _|v
    ·simp only[go_sem,seval,vN,xe,Cj,zR]<;>rfl
    ·simp only[go_sem,seval,vN,xe,Cj,zR]<;>rfl
end Go.Z
namespace Go.Z
open Go Go.Abs Go.W
theorem jwo:qm pr (X pr) 55 [.ptr 1 0] [kZ,cm,cm,cm,cm,.vec 4 0 [aZ]]=En (aZ,I,[kZ,cm,cm,cm,cm,.vec 4 0 [aZ],kZ]):=by
 have g1:∀h:qh,hH 4 h (En (.aj 5 0 1)) (En (Iv (qe .i64 0)))=En ⟨.di 5 0 0,I,Es,h⟩:=fun h=>(lG (l:=[dN]) (x:=dN) rfl).1
 have g2:y5 7 (En []) Ga 4 [kZ,cm,cm,cm,cm,.vec 4 0 [aZ],kZ] (En (.di 5 0 0))=En ⟨aZ,I,Es,[kZ,cm,cm,cm,cm,.vec 4 0 [aZ],kZ]⟩:=rfl
 rw[qj (show pr.bG 55=En lm from rfl) (by simp)]
 simp only[go_sem,seval,lm,g1,g2]<;>rfl
theorem j19 {s r}(hx:qq (s.ss.take s.ls) (qe .i64 ((s.ls:Int)-1))=En r):qm pr (X pr) 55 [.ptr 1 0] [kZ,kV s 8 6 5,kV s 8 6 5,kV s 8 6 5,cm,.vec 4 s.vs (s.ss.map jf),.vec 5 s.vc (s.cs.map vev),.hole,.vec 5 s.ve (s.ev.map vev)]=En (aR r,I,[kZ,kV s 8 6 5,kV s 8 6 5,kV s 8 6 5,cm,.vec 4 s.vs (s.ss.map jf),.vec 5 s.vc (s.cs.map vev),.hole,.vec 5 s.ve (s.ev.map vev),kR r.day r.au r.ae r.units]):=by
 have g1:∀h:qh,hH 4 h (En (.aj 5 s.vs s.ls)) (En (Iv (qe .i64 ((s.ls:Int)-1))))=En ⟨.di 5 s.vs ((qe .i64 ((s.ls:Int)-1)).toNat*4),I,Es,h⟩:=fun h=>(lG hx).1
 have g2:y5 10 (En []) Ga 4 [kZ,kV s 8 6 5,kV s 8 6 5,kV s 8 6 5,cm,.vec 4 s.vs (s.ss.map jf),.vec 5 s.vc (s.cs.map vev),.hole,.vec 5 s.ve (s.ev.map vev),kZ] (En (.di 5 s.vs ((qe .i64 ((s.ls:Int)-1)).toNat*4)))=En ⟨aR r,I,Es,[kZ,kV s 8 6 5,kV s 8 6 5,kV s 8 6 5,cm,.vec 4 s.vs (s.ss.map jf),.vec 5 s.vc (s.cs.map vev),.hole,.vec 5 s.ve (s.ev.map vev),kZ]⟩:=LA Nq rfl rfl (lG (sz:=4) (b:=0) (v:=0) (h:=[]) hx).2
 rw[qj (show pr.bG 55=En lm from rfl) (by simp)]
 simp only[go_sem,seval,lm,g1,g2]<;>rfl
def jqj:Option HV→Option ar
 |none=>En dN
 |some s=>qq (s.ss.take s.ls) (qe .i64 ((s.ls:Int)-1))
def f16 (l:Option (List GEv)):Option (ar×Int×Int):=qa (f45 l) fun r=>match r with
 | .inl x=>cond (decide (x.2=0)) Es (En (dN,x.1,x.2))
 | .inr o=>qa (jqj o) fun r=>En (r,0,0)
theorem W16 {l r}(h:f16 l=En r):qc pr (X pr) 16 [sl 5 vev l]=En (.aI [aR r.1,Iv r.2.1,Iv r.2.2],I):=by
 unfold f16 at h
 obtain⟨x,h1,h⟩:=qb h
 obtain⟨hh,w,wa⟩:=j3a h1
 rcases x with x|o
 ·rcases qd h with⟨h2,h⟩|⟨h2,h⟩
  ·cases h
  ·cases h
   simp only[vN,xe]at w wa
   have this:∃hh,qm pr (X pr) 16 [sl 5 vev l] []=En (.aI [aZ,Iv x.1,Iv x.2],I,hh):=by
    rw[qj (show pr.bG 16=En xf from rfl) (by simp)]
    simp only[go_sem,seval,xf,w,wa,h2]
    exact⟨_,rfl⟩
   obtain⟨hh,this⟩:=this
   exact zx rfl this (by first|rfl|simp only[go_sem,seval]) (by first|rfl|simp only[go_sem,seval])
 ·obtain⟨r,h2,h⟩:=qb h
  cases h
  rcases o with _|v
  ·cases h2
   simp only[vN,xe,zR,Cj]at w wa
   have w2:=jwo
   have wb:jp 6 (aZ) [kZ,cm,cm,cm,cm,.vec 4 0 [aZ],kZ]=[kZ,cm,cm,cm,cm,.vec 4 0 [aZ]]:=by simp only[go_sem,seval]<;>rfl
   have this:∃hh,qm pr (X pr) 16 [sl 5 vev l] []=En (.aI [aZ,Iv 0,Iv 0],I,hh):=by
    rw[qj (show pr.bG 16=En xf from rfl) (by simp)]
    simp only[go_sem,seval,xf,w,wa,w2,wb]
    exact⟨_,rfl⟩
   obtain⟨hh,this⟩:=this
   exact zx rfl this (by first|rfl|simp only[go_sem,seval]) (by first|rfl|simp only[go_sem,seval])
  ·simp only[vN,xe,zR,Cj]at w wa
   have w2:=j19 (s:=v) h2
   have wb:jp 9 (aR r) [kZ,kV v 8 6 5,kV v 8 6 5,kV v 8 6 5,cm,.vec 4 v.vs (v.ss.map jf),.vec 5 v.vc (v.cs.map vev),.hole,.vec 5 v.ve (v.ev.map vev),kR r.day r.au r.ae r.units]=[kZ,kV v 8 6 5,kV v 8 6 5,kV v 8 6 5,cm,.vec 4 v.vs (v.ss.map jf),.vec 5 v.vc (v.cs.map vev),.hole,.vec 5 v.ve (v.ev.map vev)]:=by simp only[go_sem,seval]<;>rfl
   have this:∃hh,qm pr (X pr) 16 [sl 5 vev l] []=En (.aI [aR r,Iv 0,Iv 0],I,hh):=by
    rw[qj (show pr.bG 16=En xf from rfl) (by simp)]
    simp only[go_sem,seval,xf,w,wa,w2,wb]
    exact⟨_,rfl⟩
   obtain⟨hh,this⟩:=this
   exact zx rfl this (by first|rfl|simp only[go_sem,seval]) (by first|rfl|simp only[go_sem,seval])
end Go.Z
namespace Go.Z
open Go Go.Abs Go.W
theorem jvk:qm pr (X pr) 55 [.ptr 2 0] [.hole,kO,bD,bD,.vec 4 0 [aZ]]=En (aZ,I,[.hole,kO,bD,bD,.vec 4 0 [aZ],kZ]):=by
 have g1:∀h:qh,hH 4 h (En (.aj 4 0 1)) (En (Iv (qe .i64 0)))=En ⟨.di 4 0 0,I,Es,h⟩:=fun h=>(lG (l:=[dN]) (x:=dN) rfl).1
 have g2:y5 6 (En []) Ga 4 [.hole,kO,bD,bD,.vec 4 0 [aZ],kZ] (En (.di 4 0 0))=En ⟨aZ,I,Es,[.hole,kO,bD,bD,.vec 4 0 [aZ],kZ]⟩:=rfl
 rw[qj (show pr.bG 55=En lm from rfl) (by simp)]
 simp only[go_sem,seval,lm,g1,g2]<;>rfl
theorem jwr {e q}(h:wJ e=En q):∃hh,qm pr (X pr) 49 [.ptr 2 0,aE e] [.hole,kO,bD,bD,.vec 4 0 [aZ]]=En (Iv q.1,I,hh)∧jp 5 (Iv q.1) hh=(match q.2 with
  |none=>[.hole,kO,bD,bD,.vec 4 0 [aZ]]
  |some v=>[.hole,kO,kV v 7 5 4,bD,.vec 4 v.vs (v.ss.map jf),.vec 5 v.vc (v.cs.map vev),.hole,.vec 5 v.ve (v.ev.map vev)]):=by
 unfold wJ at h
 rcases qd h with⟨h1,h⟩|⟨h1,h⟩
 ·rcases qd h with⟨h2,h⟩|⟨h2,h⟩
  ·obtain⟨e1,k1,h⟩:=qb h
   obtain⟨e2,k3,h⟩:=qb h
   obtain⟨e3,k4,h⟩:=qb h
   have w1:=eO k1
   have w2:=eO k3
   have w3:qc pr (X pr) 46 [.list I 1 [Iv e1,Iv e2]]=En (Iv e3,I):=iZ k4
   rcases qd h with⟨h4,h⟩|⟨h4,h⟩
   ·cases h
   ·cases h
    refine⟨[.hole,kO,bD,bD,.vec 4 0 [aZ]],?_,ya rfl⟩
    rw[qj (show pr.bG 49=En dp from rfl) (by simp)]
    simp only[go_sem,seval,dp,h1,h2,w1,w2,w3,h4,E1,Yh,Yi]<;>rfl
  ·obtain⟨v,k2,h⟩:=qb h
   have w1:=jvk
   have wa:jp 5 (aZ) [.hole,kO,bD,bD,.vec 4 0 [aZ],kZ]=[.hole,kO,bD,bD,.vec 4 0 [aZ]]:=by simp only[go_sem,seval]<;>rfl
   have w2:qc pr (X pr) 113 [aZ,aE e]=En (.aI [aR v.1,Iv v.2],I):=E2 k2
   rcases qd h with⟨h3,h⟩|⟨h3,h⟩
   ·cases h
    have g1:gL 5 0 5 88 [.hole,kO,bD,bD,.vec 4 0 [aZ],.hole,.hole] (En (Nl)) (En (.list I 5 [aE e]))=En ⟨.aj 5 0 1,I,Es,[.hole,kO,bD,bD,.vec 4 0 [aZ],.vec 5 0 [aE e],.hole]⟩:=by apply DX<;>first|rfl|decide|(simp only[go_sem,seval]<;>done)|simp
    have g2:gL 5 1 4 80 [.hole,kO,bD,bD,.vec 4 0 [aZ],.vec 5 0 [aE e],.hole] (En (.aj 4 0 1)) (En (.list I 4 [aR v.1]))=En ⟨.aj 4 1 2,I,Es,[.hole,kO,bD,bD,.vec 4 1 [aZ,aR v.1],.vec 5 0 [aE e],.hole]⟩:=nP (f:=jf) (l:=[dN]) (l':=[dN,v.1]) (x:=v.1) rfl rfl (by simp only[go_sem,seval]) (by decide) (by decide) (by decide)
    have g3:gL 7 0 5 88 [.hole,kO,.cells [(Nl,I),(.aj 5 0 1,I),(.aj 4 1 2,I)],bD,.vec 4 1 [aZ,aR v.1],.vec 5 0 [aE e],.hole,.hole] (En (Nl)) (En (.list I 5 [aE e]))=En ⟨.aj 7 0 1,I,Es,[.hole,kO,.cells [(Nl,I),(.aj 5 0 1,I),(.aj 4 1 2,I)],bD,.vec 4 1 [aZ,aR v.1],.vec 5 0 [aE e],.hole,.vec 5 0 [aE e]]⟩:=by apply DX<;>first|rfl|decide|(simp only[go_sem,seval]<;>done)|simp
    refine⟨[.hole,kO,.cells [(.aj 7 0 1,I),(.aj 5 0 1,I),(.aj 4 1 2,I)],bD,.vec 4 1 [aZ,aR v.1],.vec 5 0 [aE e],.hole,.vec 5 0 [aE e]],?_,?_⟩
    ·rw[qj (show pr.bG 49=En dp from rfl) (by simp)]
     simp only[go_sem,seval,dp,h1,h2,w1,wa,w2,h3,g1,g2,g3,E1]<;>rfl
    ·simp only[go_sem,seval,(show ∀k b v l,k≤b→below k (.aj b v l)=I from fun k b v l h=>by rw[qvi];exact decide_eq_false (by omega))]<;>rfl
   ·cases h
    refine⟨[.hole,kO,bD,bD,.vec 4 0 [aZ]],?_,ya rfl⟩
    rw[qj (show pr.bG 49=En dp from rfl) (by simp)]
    simp only[go_sem,seval,dp,h1,h2,w1,wa,w2,h3]<;>rfl
 ·cases h
  refine⟨[.hole,kO,bD,bD,.vec 4 0 [aZ]],?_,ya rfl⟩
  rw[qj (show pr.bG 49=En dp from rfl) (by simp)]
  simp only[go_sem,seval,dp,h1]<;>rfl
theorem j4x {s r}(hx:qq (s.ss.take s.ls) (qe .i64 ((s.ls:Int)-1))=En r):qm pr (X pr) 55 [.ptr 2 0] [.hole,kO,kV s 7 5 4,bD,.vec 4 s.vs (s.ss.map jf),.vec 5 s.vc (s.cs.map vev),.hole,.vec 5 s.ve (s.ev.map vev)]=En (aR r,I,[.hole,kO,kV s 7 5 4,bD,.vec 4 s.vs (s.ss.map jf),.vec 5 s.vc (s.cs.map vev),.hole,.vec 5 s.ve (s.ev.map vev),kR r.day r.au r.ae r.units]):=by
 have g1:∀h:qh,hH 4 h (En (.aj 4 s.vs s.ls)) (En (Iv (qe .i64 ((s.ls:Int)-1))))=En ⟨.di 4 s.vs ((qe .i64 ((s.ls:Int)-1)).toNat*4),I,Es,h⟩:=fun h=>(lG hx).1
 have g2:y5 9 (En []) Ga 4 [.hole,kO,kV s 7 5 4,bD,.vec 4 s.vs (s.ss.map jf),.vec 5 s.vc (s.cs.map vev),.hole,.vec 5 s.ve (s.ev.map vev),kZ] (En (.di 4 s.vs ((qe .i64 ((s.ls:Int)-1)).toNat*4)))=En ⟨aR r,I,Es,[.hole,kO,kV s 7 5 4,bD,.vec 4 s.vs (s.ss.map jf),.vec 5 s.vc (s.cs.map vev),.hole,.vec 5 s.ve (s.ev.map vev),kZ]⟩:=LA Nq rfl rfl (lG (sz:=4) (b:=0) (v:=0) (h:=[]) hx).2
 rw[qj (show pr.bG 55=En lm from rfl) (by simp)]
 simp only[go_sem,seval,lm,g1,g2]<;>rfl
theorem j5e {s e q}(h:wK s e=En q):∃hh,qm pr (X pr) 49 [.ptr 2 0,aE e] [.hole,kO,kV s 7 5 4,bD,.vec 4 s.vs (s.ss.map jf),.vec 5 s.vc (s.cs.map vev),.hole,.vec 5 s.ve (s.ev.map vev)]=En (Iv q.1,I,hh)∧jp 8 (Iv q.1) hh=[.hole,kO,.cells [(.aj 7 q.2.ve q.2.ev.length,I),(.aj 5 q.2.vc q.2.lc,I),(.aj 4 q.2.vs q.2.ls,I)],bD,.vec 4 q.2.vs (q.2.ss.map jf),.vec 5 q.2.vc (q.2.cs.map vev),.hole,.vec 5 q.2.ve (q.2.ev.map vev)]:=by
 unfold wK at h
 rcases qd h with⟨h1,h⟩|⟨h1,h⟩
 ·rcases qd h with⟨h2,h⟩|⟨h2,h⟩
  ·obtain⟨e1,k1,h⟩:=qb h
   have w1:=eO k1
   rcases qd h with⟨h3,h⟩|⟨h3,h⟩
   ·obtain⟨x,k2,h⟩:=qb h
    obtain⟨e2,k3,h⟩:=qb h
    obtain⟨e3,k4,h⟩:=qb h
    have w2:=eO k3
    have w3:qc pr (X pr) 46 [.list I 1 [Iv e1,Iv e2]]=En (Iv e3,I):=iZ k4
    have g1:∀h:qh,hH 5 h (En (.aj 5 s.vc s.lc)) (En (Iv (max 0 (qe .i64 ((s.lc:Int)-1)))))=En ⟨.di 5 s.vc ((max 0 (qe .i64 ((s.lc:Int)-1))).toNat*5),I,Es,h⟩:=fun h=>(lG k2).1
    have g2:y5 8 Es I 1 [.hole,kO,kV s 7 5 4,bD,.vec 4 s.vs (s.ss.map jf),.vec 5 s.vc (s.cs.map vev),.hole,.vec 5 s.ve (s.ev.map vev)] (En (.di 5 s.vc ((max 0 (qe .i64 ((s.lc:Int)-1))).toNat*5+1)))=En ⟨.str x.kind,I,Es,[.hole,kO,kV s 7 5 4,bD,.vec 4 s.vs (s.ss.map jf),.vec 5 s.vc (s.cs.map vev),.hole,.vec 5 s.ve (s.ev.map vev)]⟩:=S2 (f:=vev) (o:=1) Yg rfl rfl (lG (sz:=4) (b:=0) (v:=0) (h:=[]) k2).2 rfl
    rcases qd h with⟨h4,h⟩|⟨h4,h⟩
    ·rcases qd h with⟨h5,h⟩|⟨_,h⟩
     ·obtain⟨ev,eM,h⟩:=qb h
      cases h
      have cD:=of_decide_eq_true h5
      have hln:ev.length=s.ev.length+1:=E0 eM
      have g3:∀h:qh,nz 5 h (En (.aj 5 s.vc s.lc)) Es (En (En (Iv (qe .i64 ((s.lc:Int)-1)))))=En ⟨.aj 5 s.vc (qe .i64 ((s.lc:Int)-1)).toNat,I,Es,h⟩:=fun h=>EZ cD.1 cD.2.1
      have g4:∀h:qh,nz 4 h (En (.aj 4 s.vs s.ls)) Es (En (En (Iv (s.lc:Int))))=En ⟨.aj 4 s.vs s.lc,I,Es,h⟩:=fun h=>EZ (by omega) (by have:=cD.2.2;omega)
      have g5:gL 8 0 5 88 [.hole,kO,.cells [(.aj 7 s.ve s.ev.length,I),(.aj 5 s.vc (qe .i64 ((s.lc:Int)-1)).toNat,I),(.aj 4 s.vs s.lc,I)],bD,.vec 4 s.vs (s.ss.map jf),.vec 5 s.vc (s.cs.map vev),.hole,.vec 5 s.ve (s.ev.map vev),.hole] (En (.aj 7 s.ve s.ev.length)) (En (.list I 5 [aE e]))=En ⟨.aj 7 (s.ve+1) (s.ev.length+1),I,Es,[.hole,kO,.cells [(.aj 7 s.ve s.ev.length,I),(.aj 5 s.vc (qe .i64 ((s.lc:Int)-1)).toNat,I),(.aj 4 s.vs s.lc,I)],bD,.vec 4 s.vs (s.ss.map jf),.vec 5 s.vc (s.cs.map vev),.hole,.vec 5 (s.ve+1) (ev.map vev),.hole]⟩:=nP (f:=vev) (x:=e) eM rfl (by simp only[go_sem,seval]) (by decide) (by decide) (by decide)
      refine⟨[.hole,kO,.cells [(.aj 7 (s.ve+1) (s.ev.length+1),I),(.aj 5 s.vc (qe .i64 ((s.lc:Int)-1)).toNat,I),(.aj 4 s.vs s.lc,I)],bD,.vec 4 s.vs (s.ss.map jf),.vec 5 s.vc (s.cs.map vev),.hole,.vec 5 (s.ve+1) (ev.map vev),.hole],?_,?_⟩
      ·rw[qj (show pr.bG 49=En dp from rfl) (by simp)]
       simp only[go_sem,seval,dp,h1,h2,w1,h3,g1,g2,w2,w3,h4,g3,g4,g5]<;>rfl
      ·simp only[hln]
       simp only[go_sem,seval]<;>rfl
     ·cases h
    ·cases h
     refine⟨[.hole,kO,kV s 7 5 4,bD,.vec 4 s.vs (s.ss.map jf),.vec 5 s.vc (s.cs.map vev),.hole,.vec 5 s.ve (s.ev.map vev)],?_,ya rfl⟩
     rw[qj (show pr.bG 49=En dp from rfl) (by simp)]
     simp only[go_sem,seval,dp,h1,h2,w1,h3,g1,g2,w2,w3,h4]<;>rfl
   ·obtain⟨e2,k3,h⟩:=qb h
    obtain⟨e3,k4,h⟩:=qb h
    have w2:=eO k3
    have w3:qc pr (X pr) 46 [.list I 1 [Iv e1,Iv e2]]=En (Iv e3,I):=iZ k4
    rcases qd h with⟨h4,h⟩|⟨h4,h⟩
    ·cases h
    ·cases h
     refine⟨[.hole,kO,kV s 7 5 4,bD,.vec 4 s.vs (s.ss.map jf),.vec 5 s.vc (s.cs.map vev),.hole,.vec 5 s.ve (s.ev.map vev)],?_,ya rfl⟩
     rw[qj (show pr.bG 49=En dp from rfl) (by simp)]
     simp only[go_sem,seval,dp,h1,h2,w1,h3,w2,w3,h4]<;>rfl
  ·obtain⟨r,k1,h⟩:=qb h
   obtain⟨v,k2,h⟩:=qb h
   have w1:=j4x k1
   have wa:jp 8 (aR r) [.hole,kO,kV s 7 5 4,bD,.vec 4 s.vs (s.ss.map jf),.vec 5 s.vc (s.cs.map vev),.hole,.vec 5 s.ve (s.ev.map vev),kR r.day r.au r.ae r.units]=[.hole,kO,kV s 7 5 4,bD,.vec 4 s.vs (s.ss.map jf),.vec 5 s.vc (s.cs.map vev),.hole,.vec 5 s.ve (s.ev.map vev)]:=by simp only[go_sem,seval]<;>rfl
   have w2:qc pr (X pr) 113 [aR r,aE e]=En (.aI [aR v.1,Iv v.2],I):=E2 k2
   rcases qd h with⟨h3,h⟩|⟨h3,h⟩
   ·obtain⟨cs,hcs,h⟩:=qb h
    obtain⟨ss,py,h⟩:=qb h
    obtain⟨ev,eM,h⟩:=qb h
    cases h
    have hln:ev.length=s.ev.length+1:=E0 eM
    have g1:gL 8 0 5 88 [.hole,kO,kV s 7 5 4,bD,.vec 4 s.vs (s.ss.map jf),.vec 5 s.vc (s.cs.map vev),.hole,.vec 5 s.ve (s.ev.map vev),.hole,.hole] (En (.aj 5 s.vc s.lc)) (En (.list I 5 [aE e]))=En ⟨.aj 5 (s.vc+1) (s.lc+1),I,Es,[.hole,kO,kV s 7 5 4,bD,.vec 4 s.vs (s.ss.map jf),.vec 5 (s.vc+1) (cs.map vev),.hole,.vec 5 s.ve (s.ev.map vev),.hole,.hole]⟩:=nP (f:=vev) (x:=e) hcs rfl (by simp only[go_sem,seval]) (by decide) (by decide) (by decide)
    have g2:gL 8 1 4 80 [.hole,kO,kV s 7 5 4,bD,.vec 4 s.vs (s.ss.map jf),.vec 5 (s.vc+1) (cs.map vev),.hole,.vec 5 s.ve (s.ev.map vev),.hole,.hole] (En (.aj 4 s.vs s.ls)) (En (.list I 4 [aR v.1]))=En ⟨.aj 4 (s.vs+1) (s.ls+1),I,Es,[.hole,kO,kV s 7 5 4,bD,.vec 4 (s.vs+1) (ss.map jf),.vec 5 (s.vc+1) (cs.map vev),.hole,.vec 5 s.ve (s.ev.map vev),.hole,.hole]⟩:=nP (f:=jf) (x:=v.1) py rfl (by simp only[go_sem,seval]) (by decide) (by decide) (by decide)
    have g3:gL 10 0 5 88 [.hole,kO,.cells [(.aj 7 s.ve s.ev.length,I),(.aj 5 (s.vc+1) (s.lc+1),I),(.aj 4 (s.vs+1) (s.ls+1),I)],bD,.vec 4 (s.vs+1) (ss.map jf),.vec 5 (s.vc+1) (cs.map vev),.hole,.vec 5 s.ve (s.ev.map vev),.hole,.hole,.hole] (En (.aj 7 s.ve s.ev.length)) (En (.list I 5 [aE e]))=En ⟨.aj 7 (s.ve+1) (s.ev.length+1),I,Es,[.hole,kO,.cells [(.aj 7 s.ve s.ev.length,I),(.aj 5 (s.vc+1) (s.lc+1),I),(.aj 4 (s.vs+1) (s.ls+1),I)],bD,.vec 4 (s.vs+1) (ss.map jf),.vec 5 (s.vc+1) (cs.map vev),.hole,.vec 5 (s.ve+1) (ev.map vev),.hole,.hole,.hole]⟩:=nP (f:=vev) (x:=e) eM rfl (by simp only[go_sem,seval]) (by decide) (by decide) (by decide)
    refine⟨[.hole,kO,.cells [(.aj 7 (s.ve+1) (s.ev.length+1),I),(.aj 5 (s.vc+1) (s.lc+1),I),(.aj 4 (s.vs+1) (s.ls+1),I)],bD,.vec 4 (s.vs+1) (ss.map jf),.vec 5 (s.vc+1) (cs.map vev),.hole,.vec 5 (s.ve+1) (ev.map vev),.hole,.hole,.hole],?_,?_⟩
    ·rw[qj (show pr.bG 49=En dp from rfl) (by simp)]
     simp only[go_sem,seval,dp,h1,h2,w1,wa,w2,h3,g1,g2,g3]<;>rfl
    ·simp only[hln]
     simp only[go_sem,seval]<;>rfl
   ·cases h
    refine⟨[.hole,kO,kV s 7 5 4,bD,.vec 4 s.vs (s.ss.map jf),.vec 5 s.vc (s.cs.map vev),.hole,.vec 5 s.ve (s.ev.map vev)],?_,ya rfl⟩
    rw[qj (show pr.bG 49=En dp from rfl) (by simp)]
    simp only[go_sem,seval,dp,h1,h2,w1,wa,w2,h3]<;>rfl
 ·cases h
  refine⟨[.hole,kO,kV s 7 5 4,bD,.vec 4 s.vs (s.ss.map jf),.vec 5 s.vc (s.cs.map vev),.hole,.vec 5 s.ve (s.ev.map vev)],?_,ya rfl⟩
  rw[qj (show pr.bG 49=En dp from rfl) (by simp)]
  simp only[go_sem,seval,dp,h1]<;>rfl
def nS:Option HV→qh
 |none=>[.hole,kO,bD,bD,.vec 4 0 [aZ]]
 |some v=>[.hole,kO,kV v 7 5 4,bD,.vec 4 v.vs (v.ss.map jf),.vec 5 v.vc (v.cs.map vev),.hole,.vec 5 v.ve (v.ev.map vev)]
def pi (l:Option (List GEv))(x:Int×Option HV):bf:=⟨[(2,.ptr 1 0,I),(5,.ptr 2 0,I),(14,sl 5 vev l,I),(15,Lv l,I),(16,Iv x.1,I)],nS x.2⟩
def vO (l:Option (List GEv)):(Int×Int×Option HV)⊕(Int×Option HV)→je×bf
 | .inl d=>(.ret,⟨[(2,.ptr 1 0,I),(3,Iv d.1,I),(4,Iv d.2.1,I)],nS d.2.2⟩)
 | .inr d=>(.exit 0,⟨[(2,.ptr 1 0,I),(5,.ptr 2 0,I),(14,sl 5 vev l,I),(15,Lv l,I),(16,Iv d.1,I),(17,.bool I,I)],nS d.2⟩)
theorem jzq (l:Option (List GEv))(x:Int×Option HV)(r)(h:wL l x=En r):jw pr jA (pi l) (vO l) x r:=by
 rcases x with⟨i,o⟩
 unfold wL at h
 rcases qd h with⟨h1,h⟩|⟨h1,h⟩
 ·obtain⟨e,h2,h⟩:=qb h
  obtain⟨c,h3,h⟩:=qb h
  have w1:qc pr (X pr) 47 [aE e]=En (Iv c,I):=Yj h3
  rcases qd h with⟨h4,h⟩|⟨h4,h⟩
  ·obtain⟨e2,h5,h⟩:=qb h
   obtain⟨q,h6,h⟩:=qb h
   have w2:qc pr (X pr) 50 [aE e]=En (aE e2,I):=Yk h5
   rcases o with _|s
   ·obtain⟨hh,w3,wa⟩:=jwr (e:=e2) h6
    rcases q with⟨q1,q2⟩
    rcases q2 with _|v
    ·simp only at wa
     rcases qd h with⟨h7,h⟩|⟨h7,h⟩
     ·cases h
      exact wy (bZ:=pi l (qe .i64 (i+1),Es)) (by simp only[go_sem,seval,jA,pi,nS,h1,zh h2,w1,h4,w2,w3,wa,h7]<;>rfl) (A3 (E9 _))
     ·cases h
      exact qx (by simp only[go_sem,seval,jA,pi,nS,h1,zh h2,w1,h4,w2,w3,wa,h7,vO]<;>rfl)
    ·simp only at wa
     rcases qd h with⟨h7,h⟩|⟨h7,h⟩
     ·cases h
      exact wy (bZ:=pi l (qe .i64 (i+1),En v)) (by simp only[go_sem,seval,jA,pi,nS,h1,zh h2,w1,h4,w2,w3,wa,h7]<;>rfl) (q7f rfl)
     ·cases h
      exact qx (by simp only[go_sem,seval,jA,pi,nS,h1,zh h2,w1,h4,w2,w3,wa,h7,vO]<;>rfl)
   ·obtain⟨q0,h8,h9⟩:=qb h6
    cases h9
    obtain⟨hh,w3,wa⟩:=j5e (e:=e2) h8
    rcases qd h with⟨h7,h⟩|⟨h7,h⟩
    ·cases h
     exact wy (bZ:=pi l (qe .i64 (i+1),En q0.2)) (by simp only[go_sem,seval,jA,pi,nS,h1,zh h2,w1,h4,w2,w3,wa,h7]<;>rfl) (A3 (E9 _))
    ·cases h
     exact qx (by simp only[go_sem,seval,jA,pi,nS,h1,zh h2,w1,h4,w2,w3,wa,h7,vO]<;>rfl)
  ·cases h
   rcases o with _|s
   ·exact qx (by simp only[go_sem,seval,jA,pi,nS,h1,zh h2,w1,h4,vO]<;>rfl)
   ·exact qx (by simp only[go_sem,seval,jA,pi,nS,h1,zh h2,w1,h4,vO]<;>rfl)
 ·cases h
  exact qx (by simp only[go_sem,seval,jA,pi,h1,vO]<;>rfl)
theorem jqi:qm pr (X pr) 108 [] [.hole,kO,.hole]=En (.agg [Nl,Nl,.aj 4 0 1],I,[.hole,kO,.hole,bD,.vec 4 0 [aZ]]):=by
 have tm:qf pr (X pr) 4 Es [(1,aZ,I),(0,.ptr 3 0,I)] [.hole,kO,.hole,kO,.hole] (.ib 0 4 1 [Iv 0,Nl,Nl,Nl] [(0,.tmp 1)])=En ⟨.aj 4 0 1,I,Es,[.hole,kO,.hole,kO,.vec 4 0 [aZ]]⟩:=rfl
 rw[qj (show pr.bG 108=En nR from rfl) (by simp)]
 simp only[go_sem,seval,nR,tm]<;>rfl
def vP:Option HV→qh
 |none=>[.hole,bD,bD,bD,.vec 4 0 [aZ]]
 |some v=>[.hole,kV v 7 5 4,kV v 7 5 4,bD,.vec 4 v.vs (v.ss.map jf),.vec 5 v.vc (v.cs.map vev),.hole,.vec 5 v.ve (v.ev.map vev)]
def iN:Option HV→AVal
 |none=>.agg [Nl,Nl,.aj 4 0 1]
 |some v=>.agg [.aj 7 v.ve v.ev.length,.aj 5 v.vc v.lc,.aj 4 v.vs v.ls]
def oO:(Int × Int)⊕Option HV→AVal
 | .inl x=>.aI [.agg [Nl,Nl,Nl],Iv x.1,Iv x.2]
 | .inr o=>.aI [iN o,Iv 0,Iv 0]
def tn:(Int × Int)⊕Option HV→qh
 | .inl _=>[.hole]
 | .inr o=>vP o
theorem j4n {l r}(h:f45 l=En r):∃hh,qm pr (X pr) 45 [sl 5 vev l] [.hole]=En (oO r,I,hh)∧jp 1 (oO r) hh=tn r:=by
 unfold f45 at h
 rcases qd h with⟨h1,h⟩|⟨h1,h⟩
 ·cases h
  refine⟨[.hole,kO],?_,?_⟩
  ·rw[qj (show pr.bG 45=En jS from rfl) (by simp)]
   simp only[go_sem,seval,jS,h1]<;>rfl
  ·simp only[go_sem,seval,oO,tn]<;>rfl
 ·obtain⟨d,h2,h⟩:=qb h
  have w:=jqi
  have wa:jp 3 (.agg [Nl,Nl,.aj 4 0 1]) [.hole,kO,.hole,bD,.vec 4 0 [aZ]]=[.hole,kO,.hole,bD,.vec 4 0 [aZ]]:=by simp only[go_sem,seval]<;>rfl
  have wl:X pr (.loop jA) ⟨[(2,.ptr 1 0,I),(5,.ptr 2 0,I),(14,sl 5 vev l,I),(15,Lv l,I),(16,Iv 0,I)],[.hole,kO,bD,bD,.vec 4 0 [aZ]]⟩=En (vO l d):=ze (jzq l) h2
  rcases d with⟨d1,d2,d3⟩|⟨d1,d2⟩
  ·cases h
   simp only[vO]at wl
   rcases d3 with _|v
   ·refine⟨[.hole,kO,bD,bD,.vec 4 0 [aZ]],?_,?_⟩
    ·simp only[nS]at wl
     rw[qj (show pr.bG 45=En jS from rfl) (by simp)]
     simp only[go_sem,seval,jS,h1,w,wa,wl]<;>rfl
    ·simp only[go_sem,seval,oO,tn]<;>rfl
   ·refine⟨[.hole,kO,kV v 7 5 4,bD,.vec 4 v.vs (v.ss.map jf),.vec 5 v.vc (v.cs.map vev),.hole,.vec 5 v.ve (v.ev.map vev)],?_,?_⟩
    ·simp only[nS]at wl
     rw[qj (show pr.bG 45=En jS from rfl) (by simp)]
     simp only[go_sem,seval,jS,h1,w,wa,wl]<;>rfl
    ·simp only[go_sem,seval,oO,tn]<;>rfl
  ·cases h
   simp only[vO]at wl
   refine⟨vP d2,?_,?_⟩
   ·rw[qj (show pr.bG 45=En jS from rfl) (by simp)]
    rcases d2 with _|v
    ·simp only[nS]at wl
     simp only[go_sem,seval,jS,h1,w,wa,wl,iN,vP]<;>rfl
    ·simp only[nS]at wl
     simp only[go_sem,seval,jS,h1,w,wa,wl,iN,vP]<;>rfl
   ·rcases d2 with _|v
    ·simp only[go_sem,seval,oO,tn,iN,vP]<;>rfl
    ·simp only[go_sem,seval,oO,tn,iN,vP]<;>rfl
theorem jpt:qm pr (X pr) 55 [.ptr 0 0] [bD,bD,bD,bD,.vec 4 0 [aZ]]=En (aZ,I,[bD,bD,bD,bD,.vec 4 0 [aZ],kZ]):=by
 have g1:∀h:qh,hH 4 h (En (.aj 4 0 1)) (En (Iv (qe .i64 0)))=En ⟨.di 4 0 0,I,Es,h⟩:=fun h=>(lG (l:=[dN]) (x:=dN) rfl).1
 have g2:y5 6 (En []) Ga 4 [bD,bD,bD,bD,.vec 4 0 [aZ],kZ] (En (.di 4 0 0))=En ⟨aZ,I,Es,[bD,bD,bD,bD,.vec 4 0 [aZ],kZ]⟩:=rfl
 rw[qj (show pr.bG 55=En lm from rfl) (by simp)]
 simp only[go_sem,seval,lm,g1,g2]<;>rfl
theorem jop {e q}(h:wJ e=En q):∃hh,qm pr (X pr) 49 [.ptr 0 0,aE e] [bD,bD,bD,bD,.vec 4 0 [aZ]]=En (Iv q.1,I,hh):=by
 unfold wJ at h
 rcases qd h with⟨h1,h⟩|⟨h1,h⟩
 ·rcases qd h with⟨h2,h⟩|⟨h2,h⟩
  ·obtain⟨e1,k1,h⟩:=qb h
   obtain⟨e2,k3,h⟩:=qb h
   obtain⟨e3,k4,h⟩:=qb h
   have w1:=eO k1
   have w2:=eO k3
   have w3:qc pr (X pr) 46 [.list I 1 [Iv e1,Iv e2]]=En (Iv e3,I):=iZ k4
   rcases qd h with⟨h4,h⟩|⟨h4,h⟩
   ·cases h
   ·cases h
    refine⟨[bD,bD,bD,bD,.vec 4 0 [aZ]],?_⟩
    rw[qj (show pr.bG 49=En dp from rfl) (by simp)]
    simp only[go_sem,seval,dp,h1,h2,w1,w2,w3,h4,E1,Yh,Yi]<;>rfl
  ·obtain⟨v,k2,h⟩:=qb h
   have w1:=jpt
   have wa:jp 5 (aZ) [bD,bD,bD,bD,.vec 4 0 [aZ],kZ]=[bD,bD,bD,bD,.vec 4 0 [aZ]]:=by simp only[go_sem,seval]<;>rfl
   have w2:qc pr (X pr) 113 [aZ,aE e]=En (.aI [aR v.1,Iv v.2],I):=E2 k2
   rcases qd h with⟨h3,h⟩|⟨h3,h⟩
   ·cases h
    have g1:gL 5 0 5 88 [bD,bD,bD,bD,.vec 4 0 [aZ],.hole,.hole] (En (Nl)) (En (.list I 5 [aE e]))=En ⟨.aj 5 0 1,I,Es,[bD,bD,bD,bD,.vec 4 0 [aZ],.vec 5 0 [aE e],.hole]⟩:=by apply DX<;>first|rfl|decide|(simp only[go_sem,seval]<;>done)|simp
    have g2:gL 5 1 4 80 [bD,bD,bD,bD,.vec 4 0 [aZ],.vec 5 0 [aE e],.hole] (En (.aj 4 0 1)) (En (.list I 4 [aR v.1]))=En ⟨.aj 4 1 2,I,Es,[bD,bD,bD,bD,.vec 4 1 [aZ,aR v.1],.vec 5 0 [aE e],.hole]⟩:=nP (f:=jf) (l:=[dN]) (l':=[dN,v.1]) (x:=v.1) rfl rfl (by simp only[go_sem,seval]) (by decide) (by decide) (by decide)
    have g3:gL 7 0 5 88 [.cells [(Nl,I),(.aj 5 0 1,I),(.aj 4 1 2,I)],bD,bD,bD,.vec 4 1 [aZ,aR v.1],.vec 5 0 [aE e],.hole,.hole] (En (Nl)) (En (.list I 5 [aE e]))=En ⟨.aj 7 0 1,I,Es,[.cells [(Nl,I),(.aj 5 0 1,I),(.aj 4 1 2,I)],bD,bD,bD,.vec 4 1 [aZ,aR v.1],.vec 5 0 [aE e],.hole,.vec 5 0 [aE e]]⟩:=by apply DX<;>first|rfl|decide|(simp only[go_sem,seval]<;>done)|simp
    refine⟨[.cells [(.aj 7 0 1,I),(.aj 5 0 1,I),(.aj 4 1 2,I)],bD,bD,bD,.vec 4 1 [aZ,aR v.1],.vec 5 0 [aE e],.hole,.vec 5 0 [aE e]],?_⟩
    rw[qj (show pr.bG 49=En dp from rfl) (by simp)]
    simp only[go_sem,seval,dp,h1,h2,w1,wa,w2,h3,g1,g2,g3,E1]<;>rfl
   ·cases h
    refine⟨[bD,bD,bD,bD,.vec 4 0 [aZ]],?_⟩
    rw[qj (show pr.bG 49=En dp from rfl) (by simp)]
    simp only[go_sem,seval,dp,h1,h2,w1,wa,w2,h3]<;>rfl
 ·cases h
  refine⟨[bD,bD,bD,bD,.vec 4 0 [aZ]],?_⟩
  rw[qj (show pr.bG 49=En dp from rfl) (by simp)]
  simp only[go_sem,seval,dp,h1]<;>rfl
theorem jqz {s r}(hx:qq (s.ss.take s.ls) (qe .i64 ((s.ls:Int)-1))=En r):qm pr (X pr) 55 [.ptr 0 0] [kV s 7 5 4,kV s 7 5 4,kV s 7 5 4,bD,.vec 4 s.vs (s.ss.map jf),.vec 5 s.vc (s.cs.map vev),.hole,.vec 5 s.ve (s.ev.map vev)]=En (aR r,I,[kV s 7 5 4,kV s 7 5 4,kV s 7 5 4,bD,.vec 4 s.vs (s.ss.map jf),.vec 5 s.vc (s.cs.map vev),.hole,.vec 5 s.ve (s.ev.map vev),kR r.day r.au r.ae r.units]):=by
 have g1:∀h:qh,hH 4 h (En (.aj 4 s.vs s.ls)) (En (Iv (qe .i64 ((s.ls:Int)-1))))=En ⟨.di 4 s.vs ((qe .i64 ((s.ls:Int)-1)).toNat*4),I,Es,h⟩:=fun h=>(lG hx).1
 have g2:y5 9 (En []) Ga 4 [kV s 7 5 4,kV s 7 5 4,kV s 7 5 4,bD,.vec 4 s.vs (s.ss.map jf),.vec 5 s.vc (s.cs.map vev),.hole,.vec 5 s.ve (s.ev.map vev),kZ] (En (.di 4 s.vs ((qe .i64 ((s.ls:Int)-1)).toNat*4)))=En ⟨aR r,I,Es,[kV s 7 5 4,kV s 7 5 4,kV s 7 5 4,bD,.vec 4 s.vs (s.ss.map jf),.vec 5 s.vc (s.cs.map vev),.hole,.vec 5 s.ve (s.ev.map vev),kZ]⟩:=LA Nq rfl rfl (lG (sz:=4) (b:=0) (v:=0) (h:=[]) hx).2
 rw[qj (show pr.bG 55=En lm from rfl) (by simp)]
 simp only[go_sem,seval,lm,g1,g2]<;>rfl
theorem juw {s e q}(h:wK s e=En q):∃hh,qm pr (X pr) 49 [.ptr 0 0,aE e] [kV s 7 5 4,kV s 7 5 4,kV s 7 5 4,bD,.vec 4 s.vs (s.ss.map jf),.vec 5 s.vc (s.cs.map vev),.hole,.vec 5 s.ve (s.ev.map vev)]=En (Iv q.1,I,hh):=by
 unfold wK at h
 rcases qd h with⟨h1,h⟩|⟨h1,h⟩
 ·rcases qd h with⟨h2,h⟩|⟨h2,h⟩
  ·obtain⟨e1,k1,h⟩:=qb h
   have w1:=eO k1
   rcases qd h with⟨h3,h⟩|⟨h3,h⟩
   ·obtain⟨x,k2,h⟩:=qb h
    obtain⟨e2,k3,h⟩:=qb h
    obtain⟨e3,k4,h⟩:=qb h
    have w2:=eO k3
    have w3:qc pr (X pr) 46 [.list I 1 [Iv e1,Iv e2]]=En (Iv e3,I):=iZ k4
    have g1:∀h:qh,hH 5 h (En (.aj 5 s.vc s.lc)) (En (Iv (max 0 (qe .i64 ((s.lc:Int)-1)))))=En ⟨.di 5 s.vc ((max 0 (qe .i64 ((s.lc:Int)-1))).toNat*5),I,Es,h⟩:=fun h=>(lG k2).1
    have g2:y5 8 Es I 1 [kV s 7 5 4,kV s 7 5 4,kV s 7 5 4,bD,.vec 4 s.vs (s.ss.map jf),.vec 5 s.vc (s.cs.map vev),.hole,.vec 5 s.ve (s.ev.map vev)] (En (.di 5 s.vc ((max 0 (qe .i64 ((s.lc:Int)-1))).toNat*5+1)))=En ⟨.str x.kind,I,Es,[kV s 7 5 4,kV s 7 5 4,kV s 7 5 4,bD,.vec 4 s.vs (s.ss.map jf),.vec 5 s.vc (s.cs.map vev),.hole,.vec 5 s.ve (s.ev.map vev)]⟩:=S2 (f:=vev) (o:=1) Yg rfl rfl (lG (sz:=4) (b:=0) (v:=0) (h:=[]) k2).2 rfl
    rcases qd h with⟨h4,h⟩|⟨h4,h⟩
    ·rcases qd h with⟨h5,h⟩|⟨_,h⟩
     ·obtain⟨ev,eM,h⟩:=qb h
      cases h
      have cD:=of_decide_eq_true h5
      have hln:ev.length=s.ev.length+1:=E0 eM
      have g3:∀h:qh,nz 5 h (En (.aj 5 s.vc s.lc)) Es (En (En (Iv (qe .i64 ((s.lc:Int)-1)))))=En ⟨.aj 5 s.vc (qe .i64 ((s.lc:Int)-1)).toNat,I,Es,h⟩:=fun h=>EZ cD.1 cD.2.1
      have g4:∀h:qh,nz 4 h (En (.aj 4 s.vs s.ls)) Es (En (En (Iv (s.lc:Int))))=En ⟨.aj 4 s.vs s.lc,I,Es,h⟩:=fun h=>EZ (by omega) (by have:=cD.2.2;omega)
      have g5:gL 8 0 5 88 [.cells [(.aj 7 s.ve s.ev.length,I),(.aj 5 s.vc (qe .i64 ((s.lc:Int)-1)).toNat,I),(.aj 4 s.vs s.lc,I)],kV s 7 5 4,kV s 7 5 4,bD,.vec 4 s.vs (s.ss.map jf),.vec 5 s.vc (s.cs.map vev),.hole,.vec 5 s.ve (s.ev.map vev),.hole] (En (.aj 7 s.ve s.ev.length)) (En (.list I 5 [aE e]))=En ⟨.aj 7 (s.ve+1) (s.ev.length+1),I,Es,[.cells [(.aj 7 s.ve s.ev.length,I),(.aj 5 s.vc (qe .i64 ((s.lc:Int)-1)).toNat,I),(.aj 4 s.vs s.lc,I)],kV s 7 5 4,kV s 7 5 4,bD,.vec 4 s.vs (s.ss.map jf),.vec 5 s.vc (s.cs.map vev),.hole,.vec 5 (s.ve+1) (ev.map vev),.hole]⟩:=nP (f:=vev) (x:=e) eM rfl (by simp only[go_sem,seval]) (by decide) (by decide) (by decide)
      refine⟨[.cells [(.aj 7 (s.ve+1) (s.ev.length+1),I),(.aj 5 s.vc (qe .i64 ((s.lc:Int)-1)).toNat,I),(.aj 4 s.vs s.lc,I)],kV s 7 5 4,kV s 7 5 4,bD,.vec 4 s.vs (s.ss.map jf),.vec 5 s.vc (s.cs.map vev),.hole,.vec 5 (s.ve+1) (ev.map vev),.hole],?_⟩
      rw[qj (show pr.bG 49=En dp from rfl) (by simp)]
      simp only[go_sem,seval,dp,h1,h2,w1,h3,g1,g2,w2,w3,h4,g3,g4,g5]<;>rfl
     ·cases h
    ·cases h
     refine⟨[kV s 7 5 4,kV s 7 5 4,kV s 7 5 4,bD,.vec 4 s.vs (s.ss.map jf),.vec 5 s.vc (s.cs.map vev),.hole,.vec 5 s.ve (s.ev.map vev)],?_⟩
     rw[qj (show pr.bG 49=En dp from rfl) (by simp)]
     simp only[go_sem,seval,dp,h1,h2,w1,h3,g1,g2,w2,w3,h4]<;>rfl
   ·obtain⟨e2,k3,h⟩:=qb h
    obtain⟨e3,k4,h⟩:=qb h
    have w2:=eO k3
    have w3:qc pr (X pr) 46 [.list I 1 [Iv e1,Iv e2]]=En (Iv e3,I):=iZ k4
    rcases qd h with⟨h4,h⟩|⟨h4,h⟩
    ·cases h
    ·cases h
     refine⟨[kV s 7 5 4,kV s 7 5 4,kV s 7 5 4,bD,.vec 4 s.vs (s.ss.map jf),.vec 5 s.vc (s.cs.map vev),.hole,.vec 5 s.ve (s.ev.map vev)],?_⟩
     rw[qj (show pr.bG 49=En dp from rfl) (by simp)]
     simp only[go_sem,seval,dp,h1,h2,w1,h3,w2,w3,h4]<;>rfl
  ·obtain⟨r,k1,h⟩:=qb h
   obtain⟨v,k2,h⟩:=qb h
   have w1:=jqz k1
   have wa:jp 8 (aR r) [kV s 7 5 4,kV s 7 5 4,kV s 7 5 4,bD,.vec 4 s.vs (s.ss.map jf),.vec 5 s.vc (s.cs.map vev),.hole,.vec 5 s.ve (s.ev.map vev),kR r.day r.au r.ae r.units]=[kV s 7 5 4,kV s 7 5 4,kV s 7 5 4,bD,.vec 4 s.vs (s.ss.map jf),.vec 5 s.vc (s.cs.map vev),.hole,.vec 5 s.ve (s.ev.map vev)]:=by simp only[go_sem,seval]<;>rfl
   have w2:qc pr (X pr) 113 [aR r,aE e]=En (.aI [aR v.1,Iv v.2],I):=E2 k2
   rcases qd h with⟨h3,h⟩|⟨h3,h⟩
   ·obtain⟨cs,hcs,h⟩:=qb h
    obtain⟨ss,py,h⟩:=qb h
    obtain⟨ev,eM,h⟩:=qb h
    cases h
    have hln:ev.length=s.ev.length+1:=E0 eM
    have g1:gL 8 0 5 88 [kV s 7 5 4,kV s 7 5 4,kV s 7 5 4,bD,.vec 4 s.vs (s.ss.map jf),.vec 5 s.vc (s.cs.map vev),.hole,.vec 5 s.ve (s.ev.map vev),.hole,.hole] (En (.aj 5 s.vc s.lc)) (En (.list I 5 [aE e]))=En ⟨.aj 5 (s.vc+1) (s.lc+1),I,Es,[kV s 7 5 4,kV s 7 5 4,kV s 7 5 4,bD,.vec 4 s.vs (s.ss.map jf),.vec 5 (s.vc+1) (cs.map vev),.hole,.vec 5 s.ve (s.ev.map vev),.hole,.hole]⟩:=nP (f:=vev) (x:=e) hcs rfl (by simp only[go_sem,seval]) (by decide) (by decide) (by decide)
    have g2:gL 8 1 4 80 [kV s 7 5 4,kV s 7 5 4,kV s 7 5 4,bD,.vec 4 s.vs (s.ss.map jf),.vec 5 (s.vc+1) (cs.map vev),.hole,.vec 5 s.ve (s.ev.map vev),.hole,.hole] (En (.aj 4 s.vs s.ls)) (En (.list I 4 [aR v.1]))=En ⟨.aj 4 (s.vs+1) (s.ls+1),I,Es,[kV s 7 5 4,kV s 7 5 4,kV s 7 5 4,bD,.vec 4 (s.vs+1) (ss.map jf),.vec 5 (s.vc+1) (cs.map vev),.hole,.vec 5 s.ve (s.ev.map vev),.hole,.hole]⟩:=nP (f:=jf) (x:=v.1) py rfl (by simp only[go_sem,seval]) (by decide) (by decide) (by decide)
    have g3:gL 10 0 5 88 [.cells [(.aj 7 s.ve s.ev.length,I),(.aj 5 (s.vc+1) (s.lc+1),I),(.aj 4 (s.vs+1) (s.ls+1),I)],kV s 7 5 4,kV s 7 5 4,bD,.vec 4 (s.vs+1) (ss.map jf),.vec 5 (s.vc+1) (cs.map vev),.hole,.vec 5 s.ve (s.ev.map vev),.hole,.hole,.hole] (En (.aj 7 s.ve s.ev.length)) (En (.list I 5 [aE e]))=En ⟨.aj 7 (s.ve+1) (s.ev.length+1),I,Es,[.cells [(.aj 7 s.ve s.ev.length,I),(.aj 5 (s.vc+1) (s.lc+1),I),(.aj 4 (s.vs+1) (s.ls+1),I)],kV s 7 5 4,kV s 7 5 4,bD,.vec 4 (s.vs+1) (ss.map jf),.vec 5 (s.vc+1) (cs.map vev),.hole,.vec 5 (s.ve+1) (ev.map vev),.hole,.hole,.hole]⟩:=nP (f:=vev) (x:=e) eM rfl (by simp only[go_sem,seval]) (by decide) (by decide) (by decide)
    refine⟨[.cells [(.aj 7 (s.ve+1) (s.ev.length+1),I),(.aj 5 (s.vc+1) (s.lc+1),I),(.aj 4 (s.vs+1) (s.ls+1),I)],kV s 7 5 4,kV s 7 5 4,bD,.vec 4 (s.vs+1) (ss.map jf),.vec 5 (s.vc+1) (cs.map vev),.hole,.vec 5 (s.ve+1) (ev.map vev),.hole,.hole,.hole],?_⟩
    rw[qj (show pr.bG 49=En dp from rfl) (by simp)]
    simp only[go_sem,seval,dp,h1,h2,w1,wa,w2,h3,g1,g2,g3]<;>rfl
   ·cases h
    refine⟨[kV s 7 5 4,kV s 7 5 4,kV s 7 5 4,bD,.vec 4 s.vs (s.ss.map jf),.vec 5 s.vc (s.cs.map vev),.hole,.vec 5 s.ve (s.ev.map vev)],?_⟩
    rw[qj (show pr.bG 49=En dp from rfl) (by simp)]
    simp only[go_sem,seval,dp,h1,h2,w1,wa,w2,h3]<;>rfl
 ·cases h
  refine⟨[kV s 7 5 4,kV s 7 5 4,kV s 7 5 4,bD,.vec 4 s.vs (s.ss.map jf),.vec 5 s.vc (s.cs.map vev),.hole,.vec 5 s.ve (s.ev.map vev)],?_⟩
  rw[qj (show pr.bG 49=En dp from rfl) (by simp)]
  simp only[go_sem,seval,dp,h1]<;>rfl
def f13 (l:Option (List GEv))(e:GEv):Option Int:=qa (f45 l) fun r=>qa (f47 e) fun c=>qa (f48 (decide (1000≤((l.getD []).length:Int))) 5) fun k=>match r with
 | .inl x=>qa (f46 (En [x.2,c,k])) fun e1=>cond (decide (e1=0)) Es (En e1)
 | .inr o=>qa (f46 (En [0,c,k])) fun e1=>cond (decide (e1=0)) (qa (f50 e) fun e2=>qa (Ip o e2) fun q=>En q.1) (En e1)
theorem W13 {l e r}(h:f13 l e=En r):qc pr (X pr) 13 [sl 5 vev l,aE e]=En (Iv r,I):=by
 unfold f13 at h
 obtain⟨x,h1,h⟩:=qb h
 obtain⟨c,h2,h⟩:=qb h
 obtain⟨k,h3,h⟩:=qb h
 obtain⟨hh,w,wa⟩:=j4n h1
 have w1:qc pr (X pr) 47 [aE e]=En (Iv c,I):=Yj h2
 have w2:=eO h3
 suffices this:∃hh,qm pr (X pr) 13 [sl 5 vev l,aE e] []=En (Iv r,I,hh) by
  obtain⟨hh,this⟩:=this
  exact zx rfl this (by first|rfl|simp only[go_sem,seval]) (by first|rfl|simp only[go_sem,seval])
 rcases x with x|o
 ·obtain⟨e1,h4,h⟩:=qb h
  have w3:qc pr (X pr) 46 [.list I 1 [Iv x.2,Iv c,Iv k]]=En (Iv e1,I):=iZ h4
  rcases qd h with⟨h5,h⟩|⟨h5,h⟩
  ·cases h
  ·cases h
   simp only[oO,tn]at w wa
   rw[qj (show pr.bG 13=En pj from rfl) (by simp)]
   simp only[go_sem,seval,pj,w,wa,w1,w2,w3,h5]
   exact⟨_,rfl⟩
 ·obtain⟨e1,h4,h⟩:=qb h
  have w3:qc pr (X pr) 46 [.list I 1 [Iv 0,Iv c,Iv k]]=En (Iv e1,I):=iZ h4
  rcases qd h with⟨h5,h⟩|⟨h5,h⟩
  ·obtain⟨e2,h6,h⟩:=qb h
   obtain⟨q,h7,h⟩:=qb h
   cases h
   have w4:qc pr (X pr) 50 [aE e]=En (aE e2,I):=Yk h6
   rcases o with _|v
   ·simp only[oO,tn,vP,iN]at w wa
    obtain⟨h8,w5⟩:=jop (e:=e2) h7
    rw[qj (show pr.bG 13=En pj from rfl) (by simp)]
    simp only[go_sem,seval,pj,w,wa,w1,w2,w3,h5,w4,w5]
    exact⟨_,rfl⟩
   ·simp only[oO,tn,vP,iN]at w wa
    obtain⟨q0,h9,lg⟩:=qb h7
    cases lg
    obtain⟨h8,w5⟩:=juw (e:=e2) h9
    rw[qj (show pr.bG 13=En pj from rfl) (by simp)]
    simp only[go_sem,seval,pj,w,wa,w1,w2,w3,h5,w4,w5]
    exact⟨_,rfl⟩
  ·cases h
   rcases o with _|v
   ·simp only[oO,tn,vP,iN]at w wa
    rw[qj (show pr.bG 13=En pj from rfl) (by simp)]
    simp only[go_sem,seval,pj,w,wa,w1,w2,w3,h5]
    exact⟨_,rfl⟩
   ·simp only[oO,tn,vP,iN]at w wa
    rw[qj (show pr.bG 13=En pj from rfl) (by simp)]
    simp only[go_sem,seval,pj,w,wa,w1,w2,w3,h5]
    exact⟨_,rfl⟩
end Go.Z
namespace Go.Z
open Go Go.Abs Go.W
def il:Option HV→AVal
 |none=>.agg [Nl,Nl,.aj 3 0 1]
 |some v=>.agg [.aj 6 v.ve v.ev.length,.aj 4 v.vc v.lc,.aj 3 v.vs v.ls]
end Go.Z
namespace Go.Z
open Go Go.Abs Go.W
def f11 (a0:Option (List GEv))(a1:Int):Option Bool:=
 qa (f12 a0 a1) fun v1=>
 cond v1
  (qa (f38 a0) fun v4=>
  En (decide (v4.2.2=0)))
  (En I)
theorem W11 {a0:Option (List GEv)}{a1:Int}{r}(h:f11 a0 a1=En r):qc pr (X pr) 11 [sl 5 vev a0,Iv a1]=En (.bool r,I):=by
 unfold f11 at h
 refine zd Jp ?_
 repeat' first|(replace h:=qb h;obtain⟨d,g,h⟩:=h;with_reducible first|replace g:=W12 g|replace g:=W38 g|skip)|(replace h:=qd h;rcases h with⟨g,h⟩|⟨g,h⟩)
 all_goals (cases h<;>(simp only[go_sem,seval,Jp, *];exact⟨_,rfl⟩))
end Go.Z
end
