/- Chapter 10. -/
import Derived.Test.YtimdocpnkimlfaaGreatDoorW12
set_option linter.unusedVariables false
set_option linter.unusedSimpArgs false
set_option maxRecDepth 100000
set_option maxHeartbeats 4000000
noncomputable section
open Bool renaming false→I,true→Ge
open Option renaming some→En,none→Ga
open Nat renaming le_refl→Gb,ble_eq_true_of_le→Gd,ble→Gh
namespace Go.Z
open Go Go.Abs Go.W
@[go_sem] theorem j9x {b v l}:(AVal.aj b v l).flat=[.aj b v l]:=rfl
@[go_sem] theorem zli {b v l}:qk (.aj b v l)=Ge:=rfl
@[go_sem] theorem zbf {b v l}:AVal.cR (.aj b v l)=I:=rfl
theorem jtu:∀ x:GEv,(vev x).flat.length=5:=fun _=>rfl
theorem Yo:∀ x:ak,(jl x).flat.length=4:=fun _=>rfl
section
variable {h:qi}{α:Type}
theorem pk {sz b v len:Nat}{l:List α}{i x}(hx:qr (l.take len) i=En x):iU sz h (En (.aj b v len)) (En (Iv i))=En ⟨.dE b v (i.toNat*sz),I,Ga,h⟩∧l[i.toNat]?=En x:=by
 unfold qr at hx
 split at hx
 ·rename_i hi
  have h2:=(List.getElem?_eq_some_iff.1 hx).1
  rw[List.length_take]at h2
  have h3:i.toNat<len:=by omega
  refine⟨?_,?_⟩
  ·have:=je6 (sz:=sz) (h:=h) (b:=b) (v:=v) (k:=.i64) h3
   rw[Int.toNat_of_nonneg hi]at this
   exact this
  ·rw[List.getElem?_take,if_pos h3]at hx
   exact hx
 ·cases hx
theorem NC {sz b v len:Nat}{i}(hi:0≤i)(hl:i≤(len:Int)):oP sz h (En (.aj b v len)) Ga (En (En (Iv i)))=En ⟨.aj b v i.toNat,I,Ga,h⟩:=by
 have:sg len len (En (En (Iv i)))=En i.toNat:=by
  simp only[sg,Af]
  cases i with
  |ofNat n=>
   have h1:((n:Nat):Int)≤(len:Int):=hl
   have h2:n≤len:=by omega
   simp only[Gd h2,cond_true]
   rfl
  |negSucc n=>omega
 simp only[oP,this]
 rfl
def rU (xs:List α)(len:Nat)(x:α):Option (List α):=if len≤xs.length∧len+1≤1073741824 then En (xs.take len++[x])else Ga
theorem vU {h0 b v len r sz bytes:Nat}{c:Bool}{f:α→AVal}{l l':List α}{x}(hp:rU l len x=En l')(hb:h[b]?=En (.vec sz v (l.map f)))(hx:qy 0 [f x]=Ge)(hz:0<sz)(R9:bytes≤4096)(hr:r<1000):
  kB h0 r sz bytes h (En (.aj b v len)) (En (.list c sz [f x]))=En ⟨.aj b (v+1) (len+1),I,Ga,h.set b (.vec sz (v+1) (l'.map f))⟩:=by
 unfold rU at hp
 split at hp
 ·rename_i hl
  cases hp
  have:=jek (h:=h) (h0:=h0) (c:=c) (ys:=[f x]) hb (by rw[List.length_map];exact hl.1) (by simpa using hl.2) R9 hz hx hr
  rw[this]
  simp[List.map_take]
 ·cases hp
end
structure HV where
 ev:List GEv
 ve:Nat
 cs:List GEv
 lc:Nat
 vc:Nat
 ss:List ak
 ls:Nat
 vs:Nat
abbrev kV (v:HV)(a b c:Nat):bh:=.cells [(.aj a v.ve v.ev.length,I),(.aj b v.vc v.lc,I),(.aj c v.vs v.ls,I)]
theorem q7r {n st}(h:zn n (st.heap.take n)=I):gc n st=st:=by
 unfold gc
 rw[h,Bool.and_false,cond_false]
 cases Gh st.heap.length n<;>rfl
theorem ND {α:Type}{l l':List α}{x}(h:rU l l.length x=En l'):l'.length=l.length+1:=by
 unfold rU at h
 split at h
 ·cases h;simp
 ·cases h
def BH (s:HV)(e:GEv):Option (Int×HV):=
 cond (decide (e.number=qe .i64 ((s.ev.length:Int)+1)))
  (cond (decide (e.kind=([117,110,100,111]:List UInt8)))
   (qa (f48 (decide ((s.lc:Int)=0)) 12) fun e1=>
   cond (decide (0<(s.lc:Int)))
    (qa (qr (s.cs.take s.lc) (max 0 (qe .i64 ((s.lc:Int)-1)))) fun x=>
    qa (f48 (decide (x.kind=([115,104,105,112]:List UInt8))) 19) fun e2=>
    qa (f46 (En [e1,e2])) fun e3=>
    cond (decide (e3=0))
     (cond (decide (0≤qe .i64 ((s.lc:Int)-1)∧qe .i64 ((s.lc:Int)-1)≤(s.lc:Int)∧s.lc≤s.ls))
      (qa (rU s.ev s.ev.length e) fun ev=>En (0,{ s with ev:=ev,ve:=s.ve+1,lc:=(qe .i64 ((s.lc:Int)-1)).toNat,ls:=s.lc }))
      Ga)
     (En (e3,s)))
    (qa (f48 I 19) fun e2=>qa (f46 (En [e1,e2])) fun e3=>cond (decide (e3=0)) Ga (En (e3,s))))
   (qa (qr (s.ss.take s.ls) (qe .i64 ((s.ls:Int)-1))) fun r=>
   qa (jQ r e) fun v=>
   cond (decide (v.2=0))
    (qa (rU s.cs s.lc e) fun cs=>qa (rU s.ss s.ls v.1) fun ss=>qa (rU s.ev s.ev.length e) fun ev=>
    En (0,{ ev:=ev,ve:=s.ve+1,cs:=cs,lc:=s.lc+1,vc:=s.vc+1,ss:=ss,ls:=s.ls+1,vs:=s.vs+1 }))
    (En (v.2,s))))
  (En (11,s))
theorem NE:decide (((([]:List AVal).length:Nat):Int)=0)=Ge:=rfl
theorem jv7:decide ((0:Int)<((([]:List AVal).length:Nat):Int))=I:=rfl
theorem jul:decide ((0:Int)<((0:Nat):Int))=I:=rfl
def dX:ak:=⟨0,Ga,Ga,Ga⟩
def BG (e:GEv):Option (Int×Option HV):=
 cond (decide (e.number=qe .i64 1))
  (cond (decide (e.kind=([117,110,100,111]:List UInt8)))
   (qa (f48 Ge 12) fun e1=>qa (f48 I 19) fun e2=>qa (f46 (En [e1,e2])) fun e3=>cond (decide (e3=0)) Ga (En (e3,Ga)))
   (qa (jQ dX e) fun v=>
   cond (decide (v.2=0))
    (En (0,En { ev:=[e],ve:=0,cs:=[e],lc:=1,vc:=0,ss:=[dX,v.1],ls:=2,vs:=1 }))
    (En (v.2,Ga))))
  (En (11,Ga))
def Md (s:Option HV)(e:GEv):Option (Int×Option HV):=match s with
 |none=>BG e
 |some s=>qa (BH s e) fun q=>En (q.1,En q.2)
def wT (l:Option (List GEv))(x:Int×Option HV):Option ((Int×Option HV)⊕((Int×Int×Option HV)⊕(Int×Option HV))):=
 cond (decide (x.1<((l.getD []).length:Int)))
  (qa (qr (l.getD []) x.1) fun e=>
  qa (f47 e) fun c=>
  cond (decide (c=0))
   (qa (f50 e) fun e2=>
   qa (Md x.2 e2) fun q=>
   cond (decide (q.1=0))
    (En (.inl (qe .i64 (x.1+1),q.2)))
    (En (.inr (.inl (qe .i64 (x.1+1),q.1,q.2)))))
   (En (.inr (.inl (qe .i64 (x.1+1),c,x.2)))))
  (En (.inr (.inr x)))
def f45 (l:Option (List GEv)):Option ((Int×Int)⊕Option HV):=
 cond (decide (1000<((l.getD []).length:Int)))
  (En (.inl (0,5)))
  (qa (bu (wT l) (0,Ga)) fun d=>match d with
  | .inl d=>En (.inl (d.1,d.2.1))
  | .inr d=>En (.inr d.2))
theorem j2j {s:HV}{r:ak}(hx:qr (s.ss.take s.ls) (qe .i64 ((s.ls:Int)-1))=En r):qo pr (X pr) 55 [.ptr 3 0] [kZ,.hole,kO,kV s 8 6 5,cj,.vec 4 s.vs (s.ss.map jl),.vec 5 s.vc (s.cs.map vev),.hole,.vec 5 s.ve (s.ev.map vev)]=En (aR r,I,[kZ,.hole,kO,kV s 8 6 5,cj,.vec 4 s.vs (s.ss.map jl),.vec 5 s.vc (s.cs.map vev),.hole,.vec 5 s.ve (s.ev.map vev),kR r.day r.au r.ae r.units]):=by
 have g1:∀h:qi,iU 4 h (En (.aj 5 s.vs s.ls)) (En (Iv (qe .i64 ((s.ls:Int)-1))))=En ⟨.dE 5 s.vs ((qe .i64 ((s.ls:Int)-1)).toNat*4),I,Ga,h⟩:=fun h=>(pk hx).1
 have g2:ki 10 (En []) Ge 4 [kZ,.hole,kO,kV s 8 6 5,cj,.vec 4 s.vs (s.ss.map jl),.vec 5 s.vc (s.cs.map vev),.hole,.vec 5 s.ve (s.ev.map vev),kZ] (En (.dE 5 s.vs ((qe .i64 ((s.ls:Int)-1)).toNat*4)))=En ⟨aR r,I,Ga,[kZ,.hole,kO,kV s 8 6 5,cj,.vec 4 s.vs (s.ss.map jl),.vec 5 s.vc (s.cs.map vev),.hole,.vec 5 s.ve (s.ev.map vev),kZ]⟩:=Tk Yo rfl rfl (pk (sz:=4) (b:=0) (v:=0) (h:=[]) hx).2
 rw[ql (show pr.bO 55=En nK from rfl) (by simp)]
 simp only[go_sem,seval,nK,g1,g2]<;>rfl
theorem j44 {s:HV}{e:GEv}{q}(h:BH s e=En q):∃hh,qo pr (X pr) 49 [.ptr 3 0,aE e] [kZ,.hole,kO,kV s 8 6 5,cj,.vec 4 s.vs (s.ss.map jl),.vec 5 s.vc (s.cs.map vev),.hole,.vec 5 s.ve (s.ev.map vev)]=En (Iv q.1,I,hh)∧jn 9 (Iv q.1) hh=[kZ,.hole,kO,.cells [(.aj 8 q.2.ve q.2.ev.length,I),(.aj 6 q.2.vc q.2.lc,I),(.aj 5 q.2.vs q.2.ls,I)],cj,.vec 4 q.2.vs (q.2.ss.map jl),.vec 5 q.2.vc (q.2.cs.map vev),.hole,.vec 5 q.2.ve (q.2.ev.map vev)]:=by
 unfold BH at h
 rcases qd h with⟨h1,h⟩|⟨h1,h⟩
 ·rcases qd h with⟨h2,h⟩|⟨h2,h⟩
  ·obtain⟨e1,k1,h⟩:=qb h
   have w1:=fK k1
   rcases qd h with⟨h3,h⟩|⟨h3,h⟩
   ·obtain⟨x,k2,h⟩:=qb h
    obtain⟨e2,k3,h⟩:=qb h
    obtain⟨e3,k4,h⟩:=qb h
    have w2:=fK k3
    have w3:qc pr (X pr) 46 [.list I 1 [Iv e1,Iv e2]]=En (Iv e3,I):=lf k4
    have g1:∀h:qi,iU 5 h (En (.aj 6 s.vc s.lc)) (En (Iv (max 0 (qe .i64 ((s.lc:Int)-1)))))=En ⟨.dE 6 s.vc ((max 0 (qe .i64 ((s.lc:Int)-1))).toNat*5),I,Ga,h⟩:=fun h=>(pk k2).1
    have g2:ki 9 Ga I 1 [kZ,.hole,kO,kV s 8 6 5,cj,.vec 4 s.vs (s.ss.map jl),.vec 5 s.vc (s.cs.map vev),.hole,.vec 5 s.ve (s.ev.map vev)] (En (.dE 6 s.vc ((max 0 (qe .i64 ((s.lc:Int)-1))).toNat*5+1)))=En ⟨.str x.kind,I,Ga,[kZ,.hole,kO,kV s 8 6 5,cj,.vec 4 s.vs (s.ss.map jl),.vec 5 s.vc (s.cs.map vev),.hole,.vec 5 s.ve (s.ev.map vev)]⟩:=jc4 (f:=vev) (o:=1) jtu rfl rfl (pk (sz:=4) (b:=0) (v:=0) (h:=[]) k2).2 rfl
    rcases qd h with⟨h4,h⟩|⟨h4,h⟩
    ·rcases qd h with⟨h5,h⟩|⟨_,h⟩
     ·obtain⟨ev,fI,h⟩:=qb h
      cases h
      have cU:=of_decide_eq_true h5
      have hln:ev.length=s.ev.length+1:=ND fI
      have g3:∀h:qi,oP 5 h (En (.aj 6 s.vc s.lc)) Ga (En (En (Iv (qe .i64 ((s.lc:Int)-1)))))=En ⟨.aj 6 s.vc (qe .i64 ((s.lc:Int)-1)).toNat,I,Ga,h⟩:=fun h=>NC cU.1 cU.2.1
      have g4:∀h:qi,oP 4 h (En (.aj 5 s.vs s.ls)) Ga (En (En (Iv (s.lc:Int))))=En ⟨.aj 5 s.vs s.lc,I,Ga,h⟩:=fun h=>NC (by omega) (by have:=cU.2.2;omega)
      have g5:kB 9 0 5 88 [kZ,.hole,kO,.cells [(.aj 8 s.ve s.ev.length,I),(.aj 6 s.vc (qe .i64 ((s.lc:Int)-1)).toNat,I),(.aj 5 s.vs s.lc,I)],cj,.vec 4 s.vs (s.ss.map jl),.vec 5 s.vc (s.cs.map vev),.hole,.vec 5 s.ve (s.ev.map vev),.hole] (En (.aj 8 s.ve s.ev.length)) (En (.list I 5 [aE e]))=En ⟨.aj 8 (s.ve+1) (s.ev.length+1),I,Ga,[kZ,.hole,kO,.cells [(.aj 8 s.ve s.ev.length,I),(.aj 6 s.vc (qe .i64 ((s.lc:Int)-1)).toNat,I),(.aj 5 s.vs s.lc,I)],cj,.vec 4 s.vs (s.ss.map jl),.vec 5 s.vc (s.cs.map vev),.hole,.vec 5 (s.ve+1) (ev.map vev),.hole]⟩:=vU (f:=vev) (x:=e) fI rfl (by simp only[go_sem,seval]) (by decide) (by decide) (by decide)
      refine⟨[kZ,.hole,kO,.cells [(.aj 8 (s.ve+1) (s.ev.length+1),I),(.aj 6 s.vc (qe .i64 ((s.lc:Int)-1)).toNat,I),(.aj 5 s.vs s.lc,I)],cj,.vec 4 s.vs (s.ss.map jl),.vec 5 s.vc (s.cs.map vev),.hole,.vec 5 (s.ve+1) (ev.map vev),.hole],?_,?_⟩
      ·rw[ql (show pr.bO 49=En eA from rfl) (by simp)]
       simp only[go_sem,seval,eA,h1,h2,w1,h3,g1,g2,w2,w3,h4,g3,g4,g5]<;>rfl
      ·simp only[hln]
       simp only[go_sem,seval]<;>rfl
     ·cases h
    ·cases h
     refine⟨[kZ,.hole,kO,kV s 8 6 5,cj,.vec 4 s.vs (s.ss.map jl),.vec 5 s.vc (s.cs.map vev),.hole,.vec 5 s.ve (s.ev.map vev)],?_,yd rfl⟩
     rw[ql (show pr.bO 49=En eA from rfl) (by simp)]
     simp only[go_sem,seval,eA,h1,h2,w1,h3,g1,g2,w2,w3,h4]<;>rfl
   ·obtain⟨e2,k3,h⟩:=qb h
    obtain⟨e3,k4,h⟩:=qb h
    have w2:=fK k3
    have w3:qc pr (X pr) 46 [.list I 1 [Iv e1,Iv e2]]=En (Iv e3,I):=lf k4
    rcases qd h with⟨h4,h⟩|⟨h4,h⟩
    ·cases h
    ·cases h
     refine⟨[kZ,.hole,kO,kV s 8 6 5,cj,.vec 4 s.vs (s.ss.map jl),.vec 5 s.vc (s.cs.map vev),.hole,.vec 5 s.ve (s.ev.map vev)],?_,yd rfl⟩
     rw[ql (show pr.bO 49=En eA from rfl) (by simp)]
     simp only[go_sem,seval,eA,h1,h2,w1,h3,w2,w3,h4]<;>rfl
  ·obtain⟨r,k1,h⟩:=qb h
   obtain⟨v,k2,h⟩:=qb h
   have w1:=j2j k1
   have wa:jn 9 (aR r) [kZ,.hole,kO,kV s 8 6 5,cj,.vec 4 s.vs (s.ss.map jl),.vec 5 s.vc (s.cs.map vev),.hole,.vec 5 s.ve (s.ev.map vev),kR r.day r.au r.ae r.units]=[kZ,.hole,kO,kV s 8 6 5,cj,.vec 4 s.vs (s.ss.map jl),.vec 5 s.vc (s.cs.map vev),.hole,.vec 5 s.ve (s.ev.map vev)]:=by simp only[go_sem,seval]<;>rfl
   have w2:qc pr (X pr) 113 [aR r,aE e]=En (.aJ [aR v.1,Iv v.2],I):=NF k2
   rcases qd h with⟨h3,h⟩|⟨h3,h⟩
   ·obtain⟨cs,hcs,h⟩:=qb h
    obtain⟨ss,vd,h⟩:=qb h
    obtain⟨ev,fI,h⟩:=qb h
    cases h
    have hln:ev.length=s.ev.length+1:=ND fI
    have g1:kB 9 0 5 88 [kZ,.hole,kO,kV s 8 6 5,cj,.vec 4 s.vs (s.ss.map jl),.vec 5 s.vc (s.cs.map vev),.hole,.vec 5 s.ve (s.ev.map vev),.hole,.hole] (En (.aj 6 s.vc s.lc)) (En (.list I 5 [aE e]))=En ⟨.aj 6 (s.vc+1) (s.lc+1),I,Ga,[kZ,.hole,kO,kV s 8 6 5,cj,.vec 4 s.vs (s.ss.map jl),.vec 5 (s.vc+1) (cs.map vev),.hole,.vec 5 s.ve (s.ev.map vev),.hole,.hole]⟩:=vU (f:=vev) (x:=e) hcs rfl (by simp only[go_sem,seval]) (by decide) (by decide) (by decide)
    have g2:kB 9 1 4 80 [kZ,.hole,kO,kV s 8 6 5,cj,.vec 4 s.vs (s.ss.map jl),.vec 5 (s.vc+1) (cs.map vev),.hole,.vec 5 s.ve (s.ev.map vev),.hole,.hole] (En (.aj 5 s.vs s.ls)) (En (.list I 4 [aR v.1]))=En ⟨.aj 5 (s.vs+1) (s.ls+1),I,Ga,[kZ,.hole,kO,kV s 8 6 5,cj,.vec 4 (s.vs+1) (ss.map jl),.vec 5 (s.vc+1) (cs.map vev),.hole,.vec 5 s.ve (s.ev.map vev),.hole,.hole]⟩:=vU (f:=jl) (x:=v.1) vd rfl (by simp only[go_sem,seval]) (by decide) (by decide) (by decide)
    have g3:kB 11 0 5 88 [kZ,.hole,kO,.cells [(.aj 8 s.ve s.ev.length,I),(.aj 6 (s.vc+1) (s.lc+1),I),(.aj 5 (s.vs+1) (s.ls+1),I)],cj,.vec 4 (s.vs+1) (ss.map jl),.vec 5 (s.vc+1) (cs.map vev),.hole,.vec 5 s.ve (s.ev.map vev),.hole,.hole,.hole] (En (.aj 8 s.ve s.ev.length)) (En (.list I 5 [aE e]))=En ⟨.aj 8 (s.ve+1) (s.ev.length+1),I,Ga,[kZ,.hole,kO,.cells [(.aj 8 s.ve s.ev.length,I),(.aj 6 (s.vc+1) (s.lc+1),I),(.aj 5 (s.vs+1) (s.ls+1),I)],cj,.vec 4 (s.vs+1) (ss.map jl),.vec 5 (s.vc+1) (cs.map vev),.hole,.vec 5 (s.ve+1) (ev.map vev),.hole,.hole,.hole]⟩:=vU (f:=vev) (x:=e) fI rfl (by simp only[go_sem,seval]) (by decide) (by decide) (by decide)
    refine⟨[kZ,.hole,kO,.cells [(.aj 8 (s.ve+1) (s.ev.length+1),I),(.aj 6 (s.vc+1) (s.lc+1),I),(.aj 5 (s.vs+1) (s.ls+1),I)],cj,.vec 4 (s.vs+1) (ss.map jl),.vec 5 (s.vc+1) (cs.map vev),.hole,.vec 5 (s.ve+1) (ev.map vev),.hole,.hole,.hole],?_,?_⟩
    ·rw[ql (show pr.bO 49=En eA from rfl) (by simp)]
     simp only[go_sem,seval,eA,h1,h2,w1,wa,w2,h3,g1,g2,g3]<;>rfl
    ·simp only[hln]
     simp only[go_sem,seval]<;>rfl
   ·cases h
    refine⟨[kZ,.hole,kO,kV s 8 6 5,cj,.vec 4 s.vs (s.ss.map jl),.vec 5 s.vc (s.cs.map vev),.hole,.vec 5 s.ve (s.ev.map vev)],?_,yd rfl⟩
    rw[ql (show pr.bO 49=En eA from rfl) (by simp)]
    simp only[go_sem,seval,eA,h1,h2,w1,wa,w2,h3]<;>rfl
 ·cases h
  refine⟨[kZ,.hole,kO,kV s 8 6 5,cj,.vec 4 s.vs (s.ss.map jl),.vec 5 s.vc (s.cs.map vev),.hole,.vec 5 s.ve (s.ev.map vev)],?_,yd rfl⟩
  rw[ql (show pr.bO 49=En eA from rfl) (by simp)]
  simp only[go_sem,seval,eA,h1]<;>rfl
theorem jxq:qo pr (X pr) 55 [.ptr 3 0] [kZ,.hole,kO,cj,cj,.vec 4 0 [aZ]]=En (aZ,I,[kZ,.hole,kO,cj,cj,.vec 4 0 [aZ],kZ]):=by
 have g1:∀h:qi,iU 4 h (En (.aj 5 0 1)) (En (Iv (qe .i64 0)))=En ⟨.dE 5 0 0,I,Ga,h⟩:=fun h=>(pk (l:=[dX]) (x:=dX) rfl).1
 have g2:ki 7 (En []) Ge 4 [kZ,.hole,kO,cj,cj,.vec 4 0 [aZ],kZ] (En (.dE 5 0 0))=En ⟨aZ,I,Ga,[kZ,.hole,kO,cj,cj,.vec 4 0 [aZ],kZ]⟩:=rfl
 rw[ql (show pr.bO 55=En nK from rfl) (by simp)]
 simp only[go_sem,seval,nK,g1,g2]<;>rfl
theorem jr2 {e:GEv}{q}(h:BG e=En q):∃hh,qo pr (X pr) 49 [.ptr 3 0,aE e] [kZ,.hole,kO,cj,cj,.vec 4 0 [aZ]]=En (Iv q.1,I,hh)∧jn 6 (Iv q.1) hh=(match q.2 with
  |none=>[kZ,.hole,kO,cj,cj,.vec 4 0 [aZ]]
  |some v=>[kZ,.hole,kO,kV v 8 6 5,cj,.vec 4 v.vs (v.ss.map jl),.vec 5 v.vc (v.cs.map vev),.hole,.vec 5 v.ve (v.ev.map vev)]):=by
 unfold BG at h
 rcases qd h with⟨h1,h⟩|⟨h1,h⟩
 ·rcases qd h with⟨h2,h⟩|⟨h2,h⟩
  ·obtain⟨e1,k1,h⟩:=qb h
   obtain⟨e2,k3,h⟩:=qb h
   obtain⟨e3,k4,h⟩:=qb h
   have w1:=fK k1
   have w2:=fK k3
   have w3:qc pr (X pr) 46 [.list I 1 [Iv e1,Iv e2]]=En (Iv e3,I):=lf k4
   rcases qd h with⟨h4,h⟩|⟨h4,h⟩
   ·cases h
   ·cases h
    refine⟨[kZ,.hole,kO,cj,cj,.vec 4 0 [aZ]],?_,yd rfl⟩
    rw[ql (show pr.bO 49=En eA from rfl) (by simp)]
    simp only[go_sem,seval,eA,h1,h2,w1,w2,w3,h4,NE,jv7,jul]<;>rfl
  ·obtain⟨v,k2,h⟩:=qb h
   have w1:=jxq
   have wa:jn 6 (aZ) [kZ,.hole,kO,cj,cj,.vec 4 0 [aZ],kZ]=[kZ,.hole,kO,cj,cj,.vec 4 0 [aZ]]:=by simp only[go_sem,seval]<;>rfl
   have w2:qc pr (X pr) 113 [aZ,aE e]=En (.aJ [aR v.1,Iv v.2],I):=NF k2
   rcases qd h with⟨h3,h⟩|⟨h3,h⟩
   ·cases h
    have g1:kB 6 0 5 88 [kZ,.hole,kO,cj,cj,.vec 4 0 [aZ],.hole,.hole] (En (Nl)) (En (.list I 5 [aE e]))=En ⟨.aj 6 0 1,I,Ga,[kZ,.hole,kO,cj,cj,.vec 4 0 [aZ],.vec 5 0 [aE e],.hole]⟩:=by apply LG<;>first|rfl|decide|(simp only[go_sem,seval]<;>done)|simp
    have g2:kB 6 1 4 80 [kZ,.hole,kO,cj,cj,.vec 4 0 [aZ],.vec 5 0 [aE e],.hole] (En (.aj 5 0 1)) (En (.list I 4 [aR v.1]))=En ⟨.aj 5 1 2,I,Ga,[kZ,.hole,kO,cj,cj,.vec 4 1 [aZ,aR v.1],.vec 5 0 [aE e],.hole]⟩:=vU (f:=jl) (l:=[dX]) (l':=[dX,v.1]) (x:=v.1) rfl rfl (by simp only[go_sem,seval]) (by decide) (by decide) (by decide)
    have g3:kB 8 0 5 88 [kZ,.hole,kO,.cells [(Nl,I),(.aj 6 0 1,I),(.aj 5 1 2,I)],cj,.vec 4 1 [aZ,aR v.1],.vec 5 0 [aE e],.hole,.hole] (En (Nl)) (En (.list I 5 [aE e]))=En ⟨.aj 8 0 1,I,Ga,[kZ,.hole,kO,.cells [(Nl,I),(.aj 6 0 1,I),(.aj 5 1 2,I)],cj,.vec 4 1 [aZ,aR v.1],.vec 5 0 [aE e],.hole,.vec 5 0 [aE e]]⟩:=by apply LG<;>first|rfl|decide|(simp only[go_sem,seval]<;>done)|simp
    refine⟨[kZ,.hole,kO,.cells [(.aj 8 0 1,I),(.aj 6 0 1,I),(.aj 5 1 2,I)],cj,.vec 4 1 [aZ,aR v.1],.vec 5 0 [aE e],.hole,.vec 5 0 [aE e]],?_,?_⟩
    ·rw[ql (show pr.bO 49=En eA from rfl) (by simp)]
     simp only[go_sem,seval,eA,h1,h2,w1,wa,w2,h3,g1,g2,g3,NE]<;>rfl
    ·simp only[go_sem,seval,(show ∀k b v l,k≤b→below k (.aj b v l)=I from fun k b v l h=>by rw[qt2];exact decide_eq_false (by omega))]<;>rfl
   ·cases h
    refine⟨[kZ,.hole,kO,cj,cj,.vec 4 0 [aZ]],?_,yd rfl⟩
    rw[ql (show pr.bO 49=En eA from rfl) (by simp)]
    simp only[go_sem,seval,eA,h1,h2,w1,wa,w2,h3]<;>rfl
 ·cases h
  refine⟨[kZ,.hole,kO,cj,cj,.vec 4 0 [aZ]],?_,yd rfl⟩
  rw[ql (show pr.bO 49=En eA from rfl) (by simp)]
  simp only[go_sem,seval,eA,h1]<;>rfl
def nL:Option HV→qi
 |none=>[kZ,.hole,kO,cj,cj,.vec 4 0 [aZ]]
 |some v=>[kZ,.hole,kO,kV v 8 6 5,cj,.vec 4 v.vs (v.ss.map jl),.vec 5 v.vc (v.cs.map vev),.hole,.vec 5 v.ve (v.ev.map vev)]
def pn (l:Option (List GEv))(x:Int×Option HV):aY:=⟨[(2,.ptr 2 0,I),(5,.ptr 3 0,I),(14,sl 5 vev l,I),(15,Lv l,I),(16,Iv x.1,I)],nL x.2⟩
def vV (l:Option (List GEv)):(Int×Int×Option HV)⊕(Int×Option HV)→jf×aY
 | .inl d=>(.ret,⟨[(2,.ptr 2 0,I),(3,Iv d.1,I),(4,Iv d.2.1,I)],nL d.2.2⟩)
 | .inr d=>(.exit 0,⟨[(2,.ptr 2 0,I),(5,.ptr 3 0,I),(14,sl 5 vev l,I),(15,Lv l,I),(16,Iv d.1,I),(17,.bool I,I)],nL d.2⟩)
theorem j0g (l:Option (List GEv))(x:Int×Option HV)(r)(h:wT l x=En r):jw pr jB (pn l) (vV l) x r:=by
 rcases x with⟨i,o⟩
 unfold wT at h
 rcases qd h with⟨h1,h⟩|⟨h1,h⟩
 ·obtain⟨e,h2,h⟩:=qb h
  obtain⟨c,h3,h⟩:=qb h
  have w1:qc pr (X pr) 47 [aE e]=En (Iv c,I):=W47 h3
  rcases qd h with⟨h4,h⟩|⟨h4,h⟩
  ·obtain⟨e2,h5,h⟩:=qb h
   obtain⟨q,h6,h⟩:=qb h
   have w2:qc pr (X pr) 50 [aE e]=En (aE e2,I):=W50 h5
   rcases o with _|s
   ·obtain⟨hh,w3,wa⟩:=jr2 (e:=e2) h6
    rcases q with⟨q1,q2⟩
    rcases q2 with _|v
    ·simp only at wa
     rcases qd h with⟨h7,h⟩|⟨h7,h⟩
     ·cases h
      exact wI (bX:=pn l (qe .i64 (i+1),Ga)) (by simp only[go_sem,seval,jB,pn,nL,h1,zj h2,w1,h4,w2,w3,wa,h7]<;>rfl) (Bb (Gb _))
     ·cases h
      exact qw (by simp only[go_sem,seval,jB,pn,nL,h1,zj h2,w1,h4,w2,w3,wa,h7,vV]<;>rfl)
    ·simp only at wa
     rcases qd h with⟨h7,h⟩|⟨h7,h⟩
     ·cases h
      exact wI (bX:=pn l (qe .i64 (i+1),En v)) (by simp only[go_sem,seval,jB,pn,nL,h1,zj h2,w1,h4,w2,w3,wa,h7]<;>rfl) (q7r rfl)
     ·cases h
      exact qw (by simp only[go_sem,seval,jB,pn,nL,h1,zj h2,w1,h4,w2,w3,wa,h7,vV]<;>rfl)
   ·obtain⟨q0,h8,h9⟩:=qb h6
    cases h9
    obtain⟨hh,w3,wa⟩:=j44 (e:=e2) h8
    rcases qd h with⟨h7,h⟩|⟨h7,h⟩
    ·cases h
     exact wI (bX:=pn l (qe .i64 (i+1),En q0.2)) (by simp only[go_sem,seval,jB,pn,nL,h1,zj h2,w1,h4,w2,w3,wa,h7]<;>rfl) (Bb (Gb _))
    ·cases h
     exact qw (by simp only[go_sem,seval,jB,pn,nL,h1,zj h2,w1,h4,w2,w3,wa,h7,vV]<;>rfl)
  ·cases h
   rcases o with _|s
   ·exact qw (by simp only[go_sem,seval,jB,pn,nL,h1,zj h2,w1,h4,vV]<;>rfl)
   ·exact qw (by simp only[go_sem,seval,jB,pn,nL,h1,zj h2,w1,h4,vV]<;>rfl)
 ·cases h
  exact qw (by simp only[go_sem,seval,jB,pn,h1,vV]<;>rfl)
theorem jtq:qo pr (X pr) 108 [] [kZ,.hole,kO,.hole]=En (.agg [Nl,Nl,.aj 5 0 1],I,[kZ,.hole,kO,.hole,cj,.vec 4 0 [aZ]]):=by
 have tD:qf pr (X pr) 5 Ga [(1,aZ,I),(0,.ptr 4 0,I)] [kZ,.hole,kO,.hole,kO,.hole] (.ij 0 4 1 [Iv 0,Nl,Nl,Nl] [(0,.tmp 1)])=En ⟨.aj 5 0 1,I,Ga,[kZ,.hole,kO,.hole,kO,.vec 4 0 [aZ]]⟩:=rfl
 rw[ql (show pr.bO 108=En nM from rfl) (by simp)]
 simp only[go_sem,seval,nM,tD]<;>rfl
def zZ:Option HV→qi
 |none=>[kZ,.hole,cj,cj,cj,.vec 4 0 [aZ]]
 |some v=>[kZ,.hole,kV v 8 6 5,kV v 8 6 5,cj,.vec 4 v.vs (v.ss.map jl),.vec 5 v.vc (v.cs.map vev),.hole,.vec 5 v.ve (v.ev.map vev)]
def Cs:Option HV→AVal
 |none=>.agg [Nl,Nl,.aj 5 0 1]
 |some v=>.agg [.aj 8 v.ve v.ev.length,.aj 6 v.vc v.lc,.aj 5 v.vs v.ls]
def vW:(Int × Int)⊕Option HV→AVal
 | .inl x=>.aJ [.agg [Nl,Nl,Nl],Iv x.1,Iv x.2]
 | .inr o=>.aJ [Cs o,Iv 0,Iv 0]
def xq:(Int × Int)⊕Option HV→qi
 | .inl _=>[kZ,.hole]
 | .inr o=>zZ o
theorem j86 {l r}(h:f45 l=En r):∃hh,qo pr (X pr) 45 [sl 5 vev l] [kZ,.hole]=En (vW r,I,hh)∧jn 2 (vW r) hh=xq r:=by
 unfold f45 at h
 rcases qd h with⟨h1,h⟩|⟨h1,h⟩
 ·cases h
  refine⟨[kZ,.hole,kO],?_,?_⟩
  ·rw[ql (show pr.bO 45=En jR from rfl) (by simp)]
   simp only[go_sem,seval,jR,h1]<;>rfl
  ·simp only[go_sem,seval,vW,xq]<;>rfl
 ·obtain⟨d,h2,h⟩:=qb h
  have w:=jtq
  have wa:jn 4 (.agg [Nl,Nl,.aj 5 0 1]) [kZ,.hole,kO,.hole,cj,.vec 4 0 [aZ]]=[kZ,.hole,kO,.hole,cj,.vec 4 0 [aZ]]:=by simp only[go_sem,seval]<;>rfl
  have wl:X pr (.loop jB) ⟨[(2,.ptr 2 0,I),(5,.ptr 3 0,I),(14,sl 5 vev l,I),(15,Lv l,I),(16,Iv 0,I)],[kZ,.hole,kO,cj,cj,.vec 4 0 [aZ]]⟩=En (vV l d):=zc (j0g l) h2
  rcases d with⟨d1,d2,d3⟩|⟨d1,d2⟩
  ·cases h
   simp only[vV]at wl
   rcases d3 with _|v
   ·refine⟨[kZ,.hole,kO,cj,cj,.vec 4 0 [aZ]],?_,?_⟩
    ·simp only[nL]at wl
     rw[ql (show pr.bO 45=En jR from rfl) (by simp)]
     simp only[go_sem,seval,jR,h1,w,wa,wl]<;>rfl
    ·simp only[go_sem,seval,vW,xq]<;>rfl
   ·refine⟨[kZ,.hole,kO,kV v 8 6 5,cj,.vec 4 v.vs (v.ss.map jl),.vec 5 v.vc (v.cs.map vev),.hole,.vec 5 v.ve (v.ev.map vev)],?_,?_⟩
    ·simp only[nL]at wl
     rw[ql (show pr.bO 45=En jR from rfl) (by simp)]
     simp only[go_sem,seval,jR,h1,w,wa,wl]<;>rfl
    ·simp only[go_sem,seval,vW,xq]<;>rfl
  ·cases h
   simp only[vV]at wl
   refine⟨zZ d2,?_,?_⟩
   ·rw[ql (show pr.bO 45=En jR from rfl) (by simp)]
    rcases d2 with _|v
    ·simp only[nL]at wl
     simp only[go_sem,seval,jR,h1,w,wa,wl,Cs,zZ]<;>rfl
    ·simp only[nL]at wl
     simp only[go_sem,seval,jR,h1,w,wa,wl,Cs,zZ]<;>rfl
   ·rcases d2 with _|v
    ·simp only[go_sem,seval,vW,xq,Cs,zZ]<;>rfl
    ·simp only[go_sem,seval,vW,xq,Cs,zZ]<;>rfl
end Go.Z
namespace Go.Z
open Go Go.Abs Go.W
theorem jrh:qo pr (X pr) 55 [.ptr 1 0] [kZ,cj,cj,cj,cj,.vec 4 0 [aZ]]=En (aZ,I,[kZ,cj,cj,cj,cj,.vec 4 0 [aZ],kZ]):=by
 have g1:∀h:qi,iU 4 h (En (.aj 5 0 1)) (En (Iv (qe .i64 0)))=En ⟨.dE 5 0 0,I,Ga,h⟩:=fun h=>(pk (l:=[dX]) (x:=dX) rfl).1
 have g2:ki 7 (En []) Ge 4 [kZ,cj,cj,cj,cj,.vec 4 0 [aZ],kZ] (En (.dE 5 0 0))=En ⟨aZ,I,Ga,[kZ,cj,cj,cj,cj,.vec 4 0 [aZ],kZ]⟩:=rfl
 rw[ql (show pr.bO 55=En nK from rfl) (by simp)]
 simp only[go_sem,seval,nK,g1,g2]<;>rfl
theorem j4l {s r}(hx:qr (s.ss.take s.ls) (qe .i64 ((s.ls:Int)-1))=En r):qo pr (X pr) 55 [.ptr 1 0] [kZ,kV s 8 6 5,kV s 8 6 5,kV s 8 6 5,cj,.vec 4 s.vs (s.ss.map jl),.vec 5 s.vc (s.cs.map vev),.hole,.vec 5 s.ve (s.ev.map vev)]=En (aR r,I,[kZ,kV s 8 6 5,kV s 8 6 5,kV s 8 6 5,cj,.vec 4 s.vs (s.ss.map jl),.vec 5 s.vc (s.cs.map vev),.hole,.vec 5 s.ve (s.ev.map vev),kR r.day r.au r.ae r.units]):=by
 have g1:∀h:qi,iU 4 h (En (.aj 5 s.vs s.ls)) (En (Iv (qe .i64 ((s.ls:Int)-1))))=En ⟨.dE 5 s.vs ((qe .i64 ((s.ls:Int)-1)).toNat*4),I,Ga,h⟩:=fun h=>(pk hx).1
 have g2:ki 10 (En []) Ge 4 [kZ,kV s 8 6 5,kV s 8 6 5,kV s 8 6 5,cj,.vec 4 s.vs (s.ss.map jl),.vec 5 s.vc (s.cs.map vev),.hole,.vec 5 s.ve (s.ev.map vev),kZ] (En (.dE 5 s.vs ((qe .i64 ((s.ls:Int)-1)).toNat*4)))=En ⟨aR r,I,Ga,[kZ,kV s 8 6 5,kV s 8 6 5,kV s 8 6 5,cj,.vec 4 s.vs (s.ss.map jl),.vec 5 s.vc (s.cs.map vev),.hole,.vec 5 s.ve (s.ev.map vev),kZ]⟩:=Tk Yo rfl rfl (pk (sz:=4) (b:=0) (v:=0) (h:=[]) hx).2
 rw[ql (show pr.bO 55=En nK from rfl) (by simp)]
 simp only[go_sem,seval,nK,g1,g2]<;>rfl
def jub:Option HV→Option ak
 |none=>En dX
 |some s=>qr (s.ss.take s.ls) (qe .i64 ((s.ls:Int)-1))
def f16 (l:Option (List GEv)):Option (ak×Int×Int):=qa (f45 l) fun r=>match r with
 | .inl x=>cond (decide (x.2=0)) Ga (En (dX,x.1,x.2))
 | .inr o=>qa (jub o) fun r=>En (r,0,0)
theorem W16 {l r}(h:f16 l=En r):qc pr (X pr) 16 [sl 5 vev l]=En (.aJ [aR r.1,Iv r.2.1,Iv r.2.2],I):=by
 unfold f16 at h
 obtain⟨x,h1,h⟩:=qb h
 obtain⟨hh,w,wa⟩:=j86 h1
 rcases x with x|o
 ·rcases qd h with⟨h2,h⟩|⟨h2,h⟩
  ·cases h
  ·cases h
   simp only[vW,xq]at w wa
   have this:∃hh,qo pr (X pr) 16 [sl 5 vev l] []=En (.aJ [aZ,Iv x.1,Iv x.2],I,hh):=by
    rw[ql (show pr.bO 16=En xr from rfl) (by simp)]
    simp only[go_sem,seval,xr,w,wa,h2]
    exact⟨_,rfl⟩
   obtain⟨hh,this⟩:=this
   exact zo rfl this (by first|rfl|simp only[go_sem,seval]) (by first|rfl|simp only[go_sem,seval])
 ·obtain⟨r,h2,h⟩:=qb h
  cases h
  rcases o with _|v
  ·cases h2
   simp only[vW,xq,zZ,Cs]at w wa
   have w2:=jrh
   have wb:jn 6 (aZ) [kZ,cj,cj,cj,cj,.vec 4 0 [aZ],kZ]=[kZ,cj,cj,cj,cj,.vec 4 0 [aZ]]:=by simp only[go_sem,seval]<;>rfl
   have this:∃hh,qo pr (X pr) 16 [sl 5 vev l] []=En (.aJ [aZ,Iv 0,Iv 0],I,hh):=by
    rw[ql (show pr.bO 16=En xr from rfl) (by simp)]
    simp only[go_sem,seval,xr,w,wa,w2,wb]
    exact⟨_,rfl⟩
   obtain⟨hh,this⟩:=this
   exact zo rfl this (by first|rfl|simp only[go_sem,seval]) (by first|rfl|simp only[go_sem,seval])
  ·simp only[vW,xq,zZ,Cs]at w wa
   have w2:=j4l (s:=v) h2
   have wb:jn 9 (aR r) [kZ,kV v 8 6 5,kV v 8 6 5,kV v 8 6 5,cj,.vec 4 v.vs (v.ss.map jl),.vec 5 v.vc (v.cs.map vev),.hole,.vec 5 v.ve (v.ev.map vev),kR r.day r.au r.ae r.units]=[kZ,kV v 8 6 5,kV v 8 6 5,kV v 8 6 5,cj,.vec 4 v.vs (v.ss.map jl),.vec 5 v.vc (v.cs.map vev),.hole,.vec 5 v.ve (v.ev.map vev)]:=by simp only[go_sem,seval]<;>rfl
   have this:∃hh,qo pr (X pr) 16 [sl 5 vev l] []=En (.aJ [aR r,Iv 0,Iv 0],I,hh):=by
    rw[ql (show pr.bO 16=En xr from rfl) (by simp)]
    simp only[go_sem,seval,xr,w,wa,w2,wb]
    exact⟨_,rfl⟩
   obtain⟨hh,this⟩:=this
   exact zo rfl this (by first|rfl|simp only[go_sem,seval]) (by first|rfl|simp only[go_sem,seval])
end Go.Z
namespace Go.Z
open Go Go.Abs Go.W
def nY:Option HV→AVal
 |none=>.agg [Nl,Nl,.aj 4 0 1]
 |some v=>.agg [.aj 7 v.ve v.ev.length,.aj 5 v.vc v.lc,.aj 4 v.vs v.ls]
end Go.Z
namespace Go.Z
open Go Go.Abs Go.W
theorem jsp:qo pr (X pr) 55 [.ptr 1 0] [kO,.cells [(Nl,I),(Nl,I),(.aj 3 0 1,I)],.cells [(Nl,I),(Nl,I),(.aj 3 0 1,I)],.vec 4 0 [aZ]]=En (aZ,I,[kO,.cells [(Nl,I),(Nl,I),(.aj 3 0 1,I)],.cells [(Nl,I),(Nl,I),(.aj 3 0 1,I)],.vec 4 0 [aZ],kZ]):=by
 have g1:∀h:qi,iU 4 h (En (.aj 3 0 1)) (En (Iv (qe .i64 0)))=En ⟨.dE 3 0 0,I,Ga,h⟩:=fun h=>(pk (l:=[dX]) (x:=dX) rfl).1
 have g2:ki 5 (En []) Ge 4 [kO,.cells [(Nl,I),(Nl,I),(.aj 3 0 1,I)],.cells [(Nl,I),(Nl,I),(.aj 3 0 1,I)],.vec 4 0 [aZ],kZ] (En (.dE 3 0 0))=En ⟨aZ,I,Ga,[kO,.cells [(Nl,I),(Nl,I),(.aj 3 0 1,I)],.cells [(Nl,I),(Nl,I),(.aj 3 0 1,I)],.vec 4 0 [aZ],kZ]⟩:=rfl
 rw[ql (show pr.bO 55=En nK from rfl) (by simp)]
 simp only[go_sem,seval,nK,g1,g2]<;>rfl
theorem jtb {e q}(h:BG e=En q):∃hh,qo pr (X pr) 49 [.ptr 1 0,aE e] [kO,.cells [(Nl,I),(Nl,I),(.aj 3 0 1,I)],.cells [(Nl,I),(Nl,I),(.aj 3 0 1,I)],.vec 4 0 [aZ]]=En (Iv q.1,I,hh)∧jn 4 (Iv q.1) hh=(match q.2 with
  |none=>[kO,.cells [(Nl,I),(Nl,I),(.aj 3 0 1,I)],.cells [(Nl,I),(Nl,I),(.aj 3 0 1,I)],.vec 4 0 [aZ]]
  |some v=>[kO,kV v 6 4 3,.cells [(Nl,I),(Nl,I),(.aj 3 0 1,I)],.vec 4 v.vs (v.ss.map jl),.vec 5 v.vc (v.cs.map vev),.hole,.vec 5 v.ve (v.ev.map vev)]):=by
 unfold BG at h
 rcases qd h with⟨h1,h⟩|⟨h1,h⟩
 ·rcases qd h with⟨h2,h⟩|⟨h2,h⟩
  ·obtain⟨e1,k1,h⟩:=qb h
   obtain⟨e2,k3,h⟩:=qb h
   obtain⟨e3,k4,h⟩:=qb h
   have w1:=fK k1
   have w2:=fK k3
   have w3:qc pr (X pr) 46 [.list I 1 [Iv e1,Iv e2]]=En (Iv e3,I):=lf k4
   rcases qd h with⟨h4,h⟩|⟨h4,h⟩
   ·cases h
   ·cases h
    refine⟨[kO,.cells [(Nl,I),(Nl,I),(.aj 3 0 1,I)],.cells [(Nl,I),(Nl,I),(.aj 3 0 1,I)],.vec 4 0 [aZ]],?_,yd rfl⟩
    rw[ql (show pr.bO 49=En eA from rfl) (by simp)]
    simp only[go_sem,seval,eA,h1,h2,w1,w2,w3,h4,NE,jv7,jul]<;>rfl
  ·obtain⟨v,k2,h⟩:=qb h
   have w1:=jsp
   have wa:jn 4 (aZ) [kO,.cells [(Nl,I),(Nl,I),(.aj 3 0 1,I)],.cells [(Nl,I),(Nl,I),(.aj 3 0 1,I)],.vec 4 0 [aZ],kZ]=[kO,.cells [(Nl,I),(Nl,I),(.aj 3 0 1,I)],.cells [(Nl,I),(Nl,I),(.aj 3 0 1,I)],.vec 4 0 [aZ]]:=by simp only[go_sem,seval]<;>rfl
   have w2:qc pr (X pr) 113 [aZ,aE e]=En (.aJ [aR v.1,Iv v.2],I):=NF k2
   rcases qd h with⟨h3,h⟩|⟨h3,h⟩
   ·cases h
    have g1:kB 4 0 5 88 [kO,.cells [(Nl,I),(Nl,I),(.aj 3 0 1,I)],.cells [(Nl,I),(Nl,I),(.aj 3 0 1,I)],.vec 4 0 [aZ],.hole,.hole] (En (Nl)) (En (.list I 5 [aE e]))=En ⟨.aj 4 0 1,I,Ga,[kO,.cells [(Nl,I),(Nl,I),(.aj 3 0 1,I)],.cells [(Nl,I),(Nl,I),(.aj 3 0 1,I)],.vec 4 0 [aZ],.vec 5 0 [aE e],.hole]⟩:=by apply LG<;>first|rfl|decide|(simp only[go_sem,seval]<;>done)|simp
    have g2:kB 4 1 4 80 [kO,.cells [(Nl,I),(Nl,I),(.aj 3 0 1,I)],.cells [(Nl,I),(Nl,I),(.aj 3 0 1,I)],.vec 4 0 [aZ],.vec 5 0 [aE e],.hole] (En (.aj 3 0 1)) (En (.list I 4 [aR v.1]))=En ⟨.aj 3 1 2,I,Ga,[kO,.cells [(Nl,I),(Nl,I),(.aj 3 0 1,I)],.cells [(Nl,I),(Nl,I),(.aj 3 0 1,I)],.vec 4 1 [aZ,aR v.1],.vec 5 0 [aE e],.hole]⟩:=vU (f:=jl) (l:=[dX]) (l':=[dX,v.1]) (x:=v.1) rfl rfl (by simp only[go_sem,seval]) (by decide) (by decide) (by decide)
    have g3:kB 6 0 5 88 [kO,.cells [(Nl,I),(.aj 4 0 1,I),(.aj 3 1 2,I)],.cells [(Nl,I),(Nl,I),(.aj 3 0 1,I)],.vec 4 1 [aZ,aR v.1],.vec 5 0 [aE e],.hole,.hole] (En (Nl)) (En (.list I 5 [aE e]))=En ⟨.aj 6 0 1,I,Ga,[kO,.cells [(Nl,I),(.aj 4 0 1,I),(.aj 3 1 2,I)],.cells [(Nl,I),(Nl,I),(.aj 3 0 1,I)],.vec 4 1 [aZ,aR v.1],.vec 5 0 [aE e],.hole,.vec 5 0 [aE e]]⟩:=by apply LG<;>first|rfl|decide|(simp only[go_sem,seval]<;>done)|simp
    refine⟨[kO,.cells [(.aj 6 0 1,I),(.aj 4 0 1,I),(.aj 3 1 2,I)],.cells [(Nl,I),(Nl,I),(.aj 3 0 1,I)],.vec 4 1 [aZ,aR v.1],.vec 5 0 [aE e],.hole,.vec 5 0 [aE e]],?_,?_⟩
    ·rw[ql (show pr.bO 49=En eA from rfl) (by simp)]
     simp only[go_sem,seval,eA,h1,h2,w1,wa,w2,h3,g1,g2,g3,NE]<;>rfl
    ·simp only[go_sem,seval,(show ∀k b v l,k≤b→below k (.aj b v l)=I from fun k b v l h=>by rw[qt2];exact decide_eq_false (by omega))]<;>rfl
   ·cases h
    refine⟨[kO,.cells [(Nl,I),(Nl,I),(.aj 3 0 1,I)],.cells [(Nl,I),(Nl,I),(.aj 3 0 1,I)],.vec 4 0 [aZ]],?_,yd rfl⟩
    rw[ql (show pr.bO 49=En eA from rfl) (by simp)]
    simp only[go_sem,seval,eA,h1,h2,w1,wa,w2,h3]<;>rfl
 ·cases h
  refine⟨[kO,.cells [(Nl,I),(Nl,I),(.aj 3 0 1,I)],.cells [(Nl,I),(Nl,I),(.aj 3 0 1,I)],.vec 4 0 [aZ]],?_,yd rfl⟩
  rw[ql (show pr.bO 49=En eA from rfl) (by simp)]
  simp only[go_sem,seval,eA,h1]<;>rfl
theorem j8f {s r}(hx:qr (s.ss.take s.ls) (qe .i64 ((s.ls:Int)-1))=En r):qo pr (X pr) 55 [.ptr 1 0] [kO,kV s 6 4 3,.cells [(Nl,I),(Nl,I),(.aj 3 0 1,I)],.vec 4 s.vs (s.ss.map jl),.vec 5 s.vc (s.cs.map vev),.hole,.vec 5 s.ve (s.ev.map vev)]=En (aR r,I,[kO,kV s 6 4 3,.cells [(Nl,I),(Nl,I),(.aj 3 0 1,I)],.vec 4 s.vs (s.ss.map jl),.vec 5 s.vc (s.cs.map vev),.hole,.vec 5 s.ve (s.ev.map vev),kR r.day r.au r.ae r.units]):=by
 have g1:∀h:qi,iU 4 h (En (.aj 3 s.vs s.ls)) (En (Iv (qe .i64 ((s.ls:Int)-1))))=En ⟨.dE 3 s.vs ((qe .i64 ((s.ls:Int)-1)).toNat*4),I,Ga,h⟩:=fun h=>(pk hx).1
 have g2:ki 8 (En []) Ge 4 [kO,kV s 6 4 3,.cells [(Nl,I),(Nl,I),(.aj 3 0 1,I)],.vec 4 s.vs (s.ss.map jl),.vec 5 s.vc (s.cs.map vev),.hole,.vec 5 s.ve (s.ev.map vev),kZ] (En (.dE 3 s.vs ((qe .i64 ((s.ls:Int)-1)).toNat*4)))=En ⟨aR r,I,Ga,[kO,kV s 6 4 3,.cells [(Nl,I),(Nl,I),(.aj 3 0 1,I)],.vec 4 s.vs (s.ss.map jl),.vec 5 s.vc (s.cs.map vev),.hole,.vec 5 s.ve (s.ev.map vev),kZ]⟩:=Tk Yo rfl rfl (pk (sz:=4) (b:=0) (v:=0) (h:=[]) hx).2
 rw[ql (show pr.bO 55=En nK from rfl) (by simp)]
 simp only[go_sem,seval,nK,g1,g2]<;>rfl
theorem j5a {s e q}(h:BH s e=En q):∃hh,qo pr (X pr) 49 [.ptr 1 0,aE e] [kO,kV s 6 4 3,.cells [(Nl,I),(Nl,I),(.aj 3 0 1,I)],.vec 4 s.vs (s.ss.map jl),.vec 5 s.vc (s.cs.map vev),.hole,.vec 5 s.ve (s.ev.map vev)]=En (Iv q.1,I,hh)∧jn 7 (Iv q.1) hh=[kO,.cells [(.aj 6 q.2.ve q.2.ev.length,I),(.aj 4 q.2.vc q.2.lc,I),(.aj 3 q.2.vs q.2.ls,I)],.cells [(Nl,I),(Nl,I),(.aj 3 0 1,I)],.vec 4 q.2.vs (q.2.ss.map jl),.vec 5 q.2.vc (q.2.cs.map vev),.hole,.vec 5 q.2.ve (q.2.ev.map vev)]:=by
 unfold BH at h
 rcases qd h with⟨h1,h⟩|⟨h1,h⟩
 ·rcases qd h with⟨h2,h⟩|⟨h2,h⟩
  ·obtain⟨e1,k1,h⟩:=qb h
   have w1:=fK k1
   rcases qd h with⟨h3,h⟩|⟨h3,h⟩
   ·obtain⟨x,k2,h⟩:=qb h
    obtain⟨e2,k3,h⟩:=qb h
    obtain⟨e3,k4,h⟩:=qb h
    have w2:=fK k3
    have w3:qc pr (X pr) 46 [.list I 1 [Iv e1,Iv e2]]=En (Iv e3,I):=lf k4
    have g1:∀h:qi,iU 5 h (En (.aj 4 s.vc s.lc)) (En (Iv (max 0 (qe .i64 ((s.lc:Int)-1)))))=En ⟨.dE 4 s.vc ((max 0 (qe .i64 ((s.lc:Int)-1))).toNat*5),I,Ga,h⟩:=fun h=>(pk k2).1
    have g2:ki 7 Ga I 1 [kO,kV s 6 4 3,.cells [(Nl,I),(Nl,I),(.aj 3 0 1,I)],.vec 4 s.vs (s.ss.map jl),.vec 5 s.vc (s.cs.map vev),.hole,.vec 5 s.ve (s.ev.map vev)] (En (.dE 4 s.vc ((max 0 (qe .i64 ((s.lc:Int)-1))).toNat*5+1)))=En ⟨.str x.kind,I,Ga,[kO,kV s 6 4 3,.cells [(Nl,I),(Nl,I),(.aj 3 0 1,I)],.vec 4 s.vs (s.ss.map jl),.vec 5 s.vc (s.cs.map vev),.hole,.vec 5 s.ve (s.ev.map vev)]⟩:=jc4 (f:=vev) (o:=1) jtu rfl rfl (pk (sz:=4) (b:=0) (v:=0) (h:=[]) k2).2 rfl
    rcases qd h with⟨h4,h⟩|⟨h4,h⟩
    ·rcases qd h with⟨h5,h⟩|⟨_,h⟩
     ·obtain⟨ev,fI,h⟩:=qb h
      cases h
      have cU:=of_decide_eq_true h5
      have hln:ev.length=s.ev.length+1:=ND fI
      have g3:∀h:qi,oP 5 h (En (.aj 4 s.vc s.lc)) Ga (En (En (Iv (qe .i64 ((s.lc:Int)-1)))))=En ⟨.aj 4 s.vc (qe .i64 ((s.lc:Int)-1)).toNat,I,Ga,h⟩:=fun h=>NC cU.1 cU.2.1
      have g4:∀h:qi,oP 4 h (En (.aj 3 s.vs s.ls)) Ga (En (En (Iv (s.lc:Int))))=En ⟨.aj 3 s.vs s.lc,I,Ga,h⟩:=fun h=>NC (by omega) (by have:=cU.2.2;omega)
      have g5:kB 7 0 5 88 [kO,.cells [(.aj 6 s.ve s.ev.length,I),(.aj 4 s.vc (qe .i64 ((s.lc:Int)-1)).toNat,I),(.aj 3 s.vs s.lc,I)],.cells [(Nl,I),(Nl,I),(.aj 3 0 1,I)],.vec 4 s.vs (s.ss.map jl),.vec 5 s.vc (s.cs.map vev),.hole,.vec 5 s.ve (s.ev.map vev),.hole] (En (.aj 6 s.ve s.ev.length)) (En (.list I 5 [aE e]))=En ⟨.aj 6 (s.ve+1) (s.ev.length+1),I,Ga,[kO,.cells [(.aj 6 s.ve s.ev.length,I),(.aj 4 s.vc (qe .i64 ((s.lc:Int)-1)).toNat,I),(.aj 3 s.vs s.lc,I)],.cells [(Nl,I),(Nl,I),(.aj 3 0 1,I)],.vec 4 s.vs (s.ss.map jl),.vec 5 s.vc (s.cs.map vev),.hole,.vec 5 (s.ve+1) (ev.map vev),.hole]⟩:=vU (f:=vev) (x:=e) fI rfl (by simp only[go_sem,seval]) (by decide) (by decide) (by decide)
      refine⟨[kO,.cells [(.aj 6 (s.ve+1) (s.ev.length+1),I),(.aj 4 s.vc (qe .i64 ((s.lc:Int)-1)).toNat,I),(.aj 3 s.vs s.lc,I)],.cells [(Nl,I),(Nl,I),(.aj 3 0 1,I)],.vec 4 s.vs (s.ss.map jl),.vec 5 s.vc (s.cs.map vev),.hole,.vec 5 (s.ve+1) (ev.map vev),.hole],?_,?_⟩
      ·rw[ql (show pr.bO 49=En eA from rfl) (by simp)]
       simp only[go_sem,seval,eA,h1,h2,w1,h3,g1,g2,w2,w3,h4,g3,g4,g5]<;>rfl
      ·simp only[hln]
       simp only[go_sem,seval]<;>rfl
     ·cases h
    ·cases h
     refine⟨[kO,kV s 6 4 3,.cells [(Nl,I),(Nl,I),(.aj 3 0 1,I)],.vec 4 s.vs (s.ss.map jl),.vec 5 s.vc (s.cs.map vev),.hole,.vec 5 s.ve (s.ev.map vev)],?_,yd rfl⟩
     rw[ql (show pr.bO 49=En eA from rfl) (by simp)]
     simp only[go_sem,seval,eA,h1,h2,w1,h3,g1,g2,w2,w3,h4]<;>rfl
   ·obtain⟨e2,k3,h⟩:=qb h
    obtain⟨e3,k4,h⟩:=qb h
    have w2:=fK k3
    have w3:qc pr (X pr) 46 [.list I 1 [Iv e1,Iv e2]]=En (Iv e3,I):=lf k4
    rcases qd h with⟨h4,h⟩|⟨h4,h⟩
    ·cases h
    ·cases h
     refine⟨[kO,kV s 6 4 3,.cells [(Nl,I),(Nl,I),(.aj 3 0 1,I)],.vec 4 s.vs (s.ss.map jl),.vec 5 s.vc (s.cs.map vev),.hole,.vec 5 s.ve (s.ev.map vev)],?_,yd rfl⟩
     rw[ql (show pr.bO 49=En eA from rfl) (by simp)]
     simp only[go_sem,seval,eA,h1,h2,w1,h3,w2,w3,h4]<;>rfl
  ·obtain⟨r,k1,h⟩:=qb h
   obtain⟨v,k2,h⟩:=qb h
   have w1:=j8f k1
   have wa:jn 7 (aR r) [kO,kV s 6 4 3,.cells [(Nl,I),(Nl,I),(.aj 3 0 1,I)],.vec 4 s.vs (s.ss.map jl),.vec 5 s.vc (s.cs.map vev),.hole,.vec 5 s.ve (s.ev.map vev),kR r.day r.au r.ae r.units]=[kO,kV s 6 4 3,.cells [(Nl,I),(Nl,I),(.aj 3 0 1,I)],.vec 4 s.vs (s.ss.map jl),.vec 5 s.vc (s.cs.map vev),.hole,.vec 5 s.ve (s.ev.map vev)]:=by simp only[go_sem,seval]<;>rfl
   have w2:qc pr (X pr) 113 [aR r,aE e]=En (.aJ [aR v.1,Iv v.2],I):=NF k2
   rcases qd h with⟨h3,h⟩|⟨h3,h⟩
   ·obtain⟨cs,hcs,h⟩:=qb h
    obtain⟨ss,vd,h⟩:=qb h
    obtain⟨ev,fI,h⟩:=qb h
    cases h
    have hln:ev.length=s.ev.length+1:=ND fI
    have g1:kB 7 0 5 88 [kO,kV s 6 4 3,.cells [(Nl,I),(Nl,I),(.aj 3 0 1,I)],.vec 4 s.vs (s.ss.map jl),.vec 5 s.vc (s.cs.map vev),.hole,.vec 5 s.ve (s.ev.map vev),.hole,.hole] (En (.aj 4 s.vc s.lc)) (En (.list I 5 [aE e]))=En ⟨.aj 4 (s.vc+1) (s.lc+1),I,Ga,[kO,kV s 6 4 3,.cells [(Nl,I),(Nl,I),(.aj 3 0 1,I)],.vec 4 s.vs (s.ss.map jl),.vec 5 (s.vc+1) (cs.map vev),.hole,.vec 5 s.ve (s.ev.map vev),.hole,.hole]⟩:=vU (f:=vev) (x:=e) hcs rfl (by simp only[go_sem,seval]) (by decide) (by decide) (by decide)
    have g2:kB 7 1 4 80 [kO,kV s 6 4 3,.cells [(Nl,I),(Nl,I),(.aj 3 0 1,I)],.vec 4 s.vs (s.ss.map jl),.vec 5 (s.vc+1) (cs.map vev),.hole,.vec 5 s.ve (s.ev.map vev),.hole,.hole] (En (.aj 3 s.vs s.ls)) (En (.list I 4 [aR v.1]))=En ⟨.aj 3 (s.vs+1) (s.ls+1),I,Ga,[kO,kV s 6 4 3,.cells [(Nl,I),(Nl,I),(.aj 3 0 1,I)],.vec 4 (s.vs+1) (ss.map jl),.vec 5 (s.vc+1) (cs.map vev),.hole,.vec 5 s.ve (s.ev.map vev),.hole,.hole]⟩:=vU (f:=jl) (x:=v.1) vd rfl (by simp only[go_sem,seval]) (by decide) (by decide) (by decide)
    have g3:kB 9 0 5 88 [kO,.cells [(.aj 6 s.ve s.ev.length,I),(.aj 4 (s.vc+1) (s.lc+1),I),(.aj 3 (s.vs+1) (s.ls+1),I)],.cells [(Nl,I),(Nl,I),(.aj 3 0 1,I)],.vec 4 (s.vs+1) (ss.map jl),.vec 5 (s.vc+1) (cs.map vev),.hole,.vec 5 s.ve (s.ev.map vev),.hole,.hole,.hole] (En (.aj 6 s.ve s.ev.length)) (En (.list I 5 [aE e]))=En ⟨.aj 6 (s.ve+1) (s.ev.length+1),I,Ga,[kO,.cells [(.aj 6 s.ve s.ev.length,I),(.aj 4 (s.vc+1) (s.lc+1),I),(.aj 3 (s.vs+1) (s.ls+1),I)],.cells [(Nl,I),(Nl,I),(.aj 3 0 1,I)],.vec 4 (s.vs+1) (ss.map jl),.vec 5 (s.vc+1) (cs.map vev),.hole,.vec 5 (s.ve+1) (ev.map vev),.hole,.hole,.hole]⟩:=vU (f:=vev) (x:=e) fI rfl (by simp only[go_sem,seval]) (by decide) (by decide) (by decide)
    refine⟨[kO,.cells [(.aj 6 (s.ve+1) (s.ev.length+1),I),(.aj 4 (s.vc+1) (s.lc+1),I),(.aj 3 (s.vs+1) (s.ls+1),I)],.cells [(Nl,I),(Nl,I),(.aj 3 0 1,I)],.vec 4 (s.vs+1) (ss.map jl),.vec 5 (s.vc+1) (cs.map vev),.hole,.vec 5 (s.ve+1) (ev.map vev),.hole,.hole,.hole],?_,?_⟩
    ·rw[ql (show pr.bO 49=En eA from rfl) (by simp)]
     simp only[go_sem,seval,eA,h1,h2,w1,wa,w2,h3,g1,g2,g3]<;>rfl
    ·simp only[hln]
     simp only[go_sem,seval]<;>rfl
   ·cases h
    refine⟨[kO,kV s 6 4 3,.cells [(Nl,I),(Nl,I),(.aj 3 0 1,I)],.vec 4 s.vs (s.ss.map jl),.vec 5 s.vc (s.cs.map vev),.hole,.vec 5 s.ve (s.ev.map vev)],?_,yd rfl⟩
    rw[ql (show pr.bO 49=En eA from rfl) (by simp)]
    simp only[go_sem,seval,eA,h1,h2,w1,wa,w2,h3]<;>rfl
 ·cases h
  refine⟨[kO,kV s 6 4 3,.cells [(Nl,I),(Nl,I),(.aj 3 0 1,I)],.vec 4 s.vs (s.ss.map jl),.vec 5 s.vc (s.cs.map vev),.hole,.vec 5 s.ve (s.ev.map vev)],?_,yd rfl⟩
  rw[ql (show pr.bO 49=En eA from rfl) (by simp)]
  simp only[go_sem,seval,eA,h1]<;>rfl
def nO:Option HV→qi
 |none=>[kO,.cells [(Nl,I),(Nl,I),(.aj 3 0 1,I)],.cells [(Nl,I),(Nl,I),(.aj 3 0 1,I)],.vec 4 0 [aZ]]
 |some v=>[kO,kV v 6 4 3,.cells [(Nl,I),(Nl,I),(.aj 3 0 1,I)],.vec 4 v.vs (v.ss.map jl),.vec 5 v.vc (v.cs.map vev),.hole,.vec 5 v.ve (v.ev.map vev)]
def po (l:Option (List GEv))(x:Int×Option HV):aY:=⟨[(2,.ptr 0 0,I),(5,.ptr 1 0,I),(14,sl 5 vev l,I),(15,Lv l,I),(16,Iv x.1,I)],nO x.2⟩
def vX (l:Option (List GEv)):(Int×Int×Option HV)⊕(Int×Option HV)→jf×aY
 | .inl d=>(.ret,⟨[(2,.ptr 0 0,I),(3,Iv d.1,I),(4,Iv d.2.1,I)],nO d.2.2⟩)
 | .inr d=>(.exit 0,⟨[(2,.ptr 0 0,I),(5,.ptr 1 0,I),(14,sl 5 vev l,I),(15,Lv l,I),(16,Iv d.1,I),(17,.bool I,I)],nO d.2⟩)
theorem j63 (l:Option (List GEv))(x:Int×Option HV)(r)(h:wT l x=En r):jw pr jB (po l) (vX l) x r:=by
 rcases x with⟨i,o⟩
 unfold wT at h
 rcases qd h with⟨h1,h⟩|⟨h1,h⟩
 ·obtain⟨e,h2,h⟩:=qb h
  obtain⟨c,h3,h⟩:=qb h
  have w1:qc pr (X pr) 47 [aE e]=En (Iv c,I):=W47 h3
  rcases qd h with⟨h4,h⟩|⟨h4,h⟩
  ·obtain⟨e2,h5,h⟩:=qb h
   obtain⟨q,h6,h⟩:=qb h
   have w2:qc pr (X pr) 50 [aE e]=En (aE e2,I):=W50 h5
   rcases o with _|s
   ·obtain⟨hh,w3,wa⟩:=jtb (e:=e2) h6
    rcases q with⟨q1,q2⟩
    rcases q2 with _|v
    ·simp only at wa
     rcases qd h with⟨h7,h⟩|⟨h7,h⟩
     ·cases h
      exact wI (bX:=po l (qe .i64 (i+1),Ga)) (by simp only[go_sem,seval,jB,po,nO,h1,zj h2,w1,h4,w2,w3,wa,h7]<;>rfl) (Bb (Gb _))
     ·cases h
      exact qw (by simp only[go_sem,seval,jB,po,nO,h1,zj h2,w1,h4,w2,w3,wa,h7,vX]<;>rfl)
    ·simp only at wa
     rcases qd h with⟨h7,h⟩|⟨h7,h⟩
     ·cases h
      exact wI (bX:=po l (qe .i64 (i+1),En v)) (by simp only[go_sem,seval,jB,po,nO,h1,zj h2,w1,h4,w2,w3,wa,h7]<;>rfl) (q7r rfl)
     ·cases h
      exact qw (by simp only[go_sem,seval,jB,po,nO,h1,zj h2,w1,h4,w2,w3,wa,h7,vX]<;>rfl)
   ·obtain⟨q0,h8,h9⟩:=qb h6
    cases h9
    obtain⟨hh,w3,wa⟩:=j5a (e:=e2) h8
    rcases qd h with⟨h7,h⟩|⟨h7,h⟩
    ·cases h
     exact wI (bX:=po l (qe .i64 (i+1),En q0.2)) (by simp only[go_sem,seval,jB,po,nO,h1,zj h2,w1,h4,w2,w3,wa,h7]<;>rfl) (Bb (Gb _))
    ·cases h
     exact qw (by simp only[go_sem,seval,jB,po,nO,h1,zj h2,w1,h4,w2,w3,wa,h7,vX]<;>rfl)
  ·cases h
   rcases o with _|s
   ·exact qw (by simp only[go_sem,seval,jB,po,nO,h1,zj h2,w1,h4,vX]<;>rfl)
   ·exact qw (by simp only[go_sem,seval,jB,po,nO,h1,zj h2,w1,h4,vX]<;>rfl)
 ·cases h
  exact qw (by simp only[go_sem,seval,jB,po,h1,vX]<;>rfl)
theorem jvo:qo pr (X pr) 108 [] [kO,.hole]=En (.agg [Nl,Nl,.aj 3 0 1],I,[kO,.hole,.cells [(Nl,I),(Nl,I),(.aj 3 0 1,I)],.vec 4 0 [aZ]]):=by
 have tD:qf pr (X pr) 3 Ga [(1,aZ,I),(0,.ptr 2 0,I)] [kO,.hole,kO,.hole] (.ij 0 4 1 [Iv 0,Nl,Nl,Nl] [(0,.tmp 1)])=En ⟨.aj 3 0 1,I,Ga,[kO,.hole,kO,.vec 4 0 [aZ]]⟩:=rfl
 rw[ql (show pr.bO 108=En nM from rfl) (by simp)]
 simp only[go_sem,seval,nM,tD]<;>rfl
def E3:Option HV→qi
 |none=>[.cells [(Nl,I),(Nl,I),(.aj 3 0 1,I)],.cells [(Nl,I),(Nl,I),(.aj 3 0 1,I)],.cells [(Nl,I),(Nl,I),(.aj 3 0 1,I)],.vec 4 0 [aZ]]
 |some v=>[kV v 6 4 3,kV v 6 4 3,.cells [(Nl,I),(Nl,I),(.aj 3 0 1,I)],.vec 4 v.vs (v.ss.map jl),.vec 5 v.vc (v.cs.map vev),.hole,.vec 5 v.ve (v.ev.map vev)]
def gi:Option HV→AVal
 |none=>.agg [Nl,Nl,.aj 3 0 1]
 |some v=>.agg [.aj 6 v.ve v.ev.length,.aj 4 v.vc v.lc,.aj 3 v.vs v.ls]
def qA:(Int × Int)⊕Option HV→AVal
 | .inl x=>.aJ [.agg [Nl,Nl,Nl],Iv x.1,Iv x.2]
 | .inr o=>.aJ [gi o,Iv 0,Iv 0]
def E4:(Int × Int)⊕Option HV→qi
 | .inl _=>[]
 | .inr o=>E3 o
theorem j17 {l r}(h:f45 l=En r):∃hh,qo pr (X pr) 45 [sl 5 vev l] []=En (qA r,I,hh)∧jn 0 (qA r) hh=E4 r:=by
 unfold f45 at h
 rcases qd h with⟨h1,h⟩|⟨h1,h⟩
 ·cases h
  refine⟨[kO],?_,?_⟩
  ·rw[ql (show pr.bO 45=En jR from rfl) (by simp)]
   simp only[go_sem,seval,jR,h1]<;>rfl
  ·simp only[go_sem,seval,qA,E4]<;>rfl
 ·obtain⟨d,h2,h⟩:=qb h
  have w:=jvo
  have wa:jn 2 (.agg [Nl,Nl,.aj 3 0 1]) [kO,.hole,.cells [(Nl,I),(Nl,I),(.aj 3 0 1,I)],.vec 4 0 [aZ]]=[kO,.hole,.cells [(Nl,I),(Nl,I),(.aj 3 0 1,I)],.vec 4 0 [aZ]]:=by simp only[go_sem,seval]<;>rfl
  have wl:X pr (.loop jB) ⟨[(2,.ptr 0 0,I),(5,.ptr 1 0,I),(14,sl 5 vev l,I),(15,Lv l,I),(16,Iv 0,I)],[kO,.cells [(Nl,I),(Nl,I),(.aj 3 0 1,I)],.cells [(Nl,I),(Nl,I),(.aj 3 0 1,I)],.vec 4 0 [aZ]]⟩=En (vX l d):=zc (j63 l) h2
  rcases d with⟨d1,d2,d3⟩|⟨d1,d2⟩
  ·cases h
   simp only[vX]at wl
   rcases d3 with _|v
   ·refine⟨[kO,.cells [(Nl,I),(Nl,I),(.aj 3 0 1,I)],.cells [(Nl,I),(Nl,I),(.aj 3 0 1,I)],.vec 4 0 [aZ]],?_,?_⟩
    ·simp only[nO]at wl
     rw[ql (show pr.bO 45=En jR from rfl) (by simp)]
     simp only[go_sem,seval,jR,h1,w,wa,wl]<;>rfl
    ·simp only[go_sem,seval,qA,E4]<;>rfl
   ·refine⟨[kO,kV v 6 4 3,.cells [(Nl,I),(Nl,I),(.aj 3 0 1,I)],.vec 4 v.vs (v.ss.map jl),.vec 5 v.vc (v.cs.map vev),.hole,.vec 5 v.ve (v.ev.map vev)],?_,?_⟩
    ·simp only[nO]at wl
     rw[ql (show pr.bO 45=En jR from rfl) (by simp)]
     simp only[go_sem,seval,jR,h1,w,wa,wl]<;>rfl
    ·simp only[go_sem,seval,qA,E4]<;>rfl
  ·cases h
   simp only[vX]at wl
   refine⟨E3 d2,?_,?_⟩
   ·rw[ql (show pr.bO 45=En jR from rfl) (by simp)]
    rcases d2 with _|v
    ·simp only[nO]at wl
     simp only[go_sem,seval,jR,h1,w,wa,wl,gi,E3]<;>rfl
    ·simp only[nO]at wl
     simp only[go_sem,seval,jR,h1,w,wa,wl,gi,E3]<;>rfl
   ·rcases d2 with _|v
    ·simp only[go_sem,seval,qA,E4,gi,E3]<;>rfl
    ·simp only[go_sem,seval,qA,E4,gi,E3]<;>rfl
theorem Yp {α:Type}{f:α→AVal}{hp:qi}{b v len sz:Nat}{l:List α}(hb:hp[b]?=En (.vec sz v (l.map f)))(hl:len≤l.length):yq hp (.aj b v len)=En (sl sz f (En (l.take len))):=by
 simp only[yq,hb,Nat.beq_refl,Bool.true_and,Gd (show len≤(l.map f).length by rw[List.length_map];exact hl),cond_true]
 rw[←List.map_take]
 rfl
structure j37 where
 ev:Option (List GEv)
 ct:Option (List GEv)
 st:Option (List ak)
def Mj (l:Option (List GEv)):Option (j37×Int×Int):=qa (f45 l) fun r=>match r with
 | .inl x=>En (⟨Ga,Ga,Ga⟩,x.1,x.2)
 | .inr Ga=>En (⟨Ga,Ga,En [dX]⟩,0,0)
 | .inr (En v)=>cond (decide (v.lc≤v.cs.length∧v.ls≤v.ss.length)) (En (⟨En v.ev,En (v.cs.take v.lc),En (v.ss.take v.ls)⟩,0,0)) Ga
theorem zfh {l:Option (List GEv)}{r}(h:Mj l=En r):qc pr (X pr) 45 [sl 5 vev l]=En (.aJ [.agg [sl 5 vev r.1.ev,sl 5 vev r.1.ct,sl 4 jl r.1.st],Iv r.2.1,Iv r.2.2],I):=by
 unfold Mj at h
 obtain⟨x,h1,h⟩:=qb h
 obtain⟨hh,w,wa⟩:=j17 h1
 rcases x with x|o|v
 ·cases h
  exact zo rfl w (v':=.aJ [.agg [Nl,Nl,Nl],Iv x.1,Iv x.2]) (by simp only[go_sem,seval,qA]<;>rfl) (by first|rfl|simp only[go_sem,seval])
 ·cases h
  have hq:hh=[.cells [(Nl,I),(Nl,I),(.aj 3 0 1,I)],.cells [(Nl,I),(Nl,I),(.aj 3 0 1,I)],.cells [(Nl,I),(Nl,I),(.aj 3 0 1,I)],.vec 4 0 [aZ]]:=by
   have:jn 0 (qA (.inr Ga)) hh=hh:=by
    simp only[jn]
    cases Gh hh.length 0<;>rfl
   rw[this]at wa
   exact wa
  subst hq
  exact zo rfl w (v':=.aJ [.agg [Nl,Nl,sl 4 jl (En [dX])],Iv 0,Iv 0]) (by simp only[go_sem,seval,qA,gi]<;>rfl) (by first|rfl|simp only[go_sem,seval])
 ·rcases qd h with⟨h2,h⟩|⟨_,h⟩
  ·cases h
   have h3:=of_decide_eq_true h2
   have hq:hh=[kV v 6 4 3,kV v 6 4 3,.cells [(Nl,I),(Nl,I),(.aj 3 0 1,I)],.vec 4 v.vs (v.ss.map jl),.vec 5 v.vc (v.cs.map vev),.hole,.vec 5 v.ve (v.ev.map vev)]:=by
    have:jn 0 (qA (.inr (En v))) hh=hh:=by
     simp only[jn]
     cases Gh hh.length 0<;>rfl
    rw[this]at wa
    exact wa
   subst hq
   have f1:yq [kV v 6 4 3,kV v 6 4 3,.cells [(Nl,I),(Nl,I),(.aj 3 0 1,I)],.vec 4 v.vs (v.ss.map jl),.vec 5 v.vc (v.cs.map vev),.hole,.vec 5 v.ve (v.ev.map vev)] (.aj 6 v.ve v.ev.length)=En (sl 5 vev (En v.ev)):=by
    have:=Yp (f:=vev) (l:=v.ev) (hp:=[kV v 6 4 3,kV v 6 4 3,.cells [(Nl,I),(Nl,I),(.aj 3 0 1,I)],.vec 4 v.vs (v.ss.map jl),.vec 5 v.vc (v.cs.map vev),.hole,.vec 5 v.ve (v.ev.map vev)]) (b:=6) (v:=v.ve) rfl (Gb _)
    rw[List.take_length]at this
    exact this
   have f2:yq [kV v 6 4 3,kV v 6 4 3,.cells [(Nl,I),(Nl,I),(.aj 3 0 1,I)],.vec 4 v.vs (v.ss.map jl),.vec 5 v.vc (v.cs.map vev),.hole,.vec 5 v.ve (v.ev.map vev)] (.aj 4 v.vc v.lc)=En (sl 5 vev (En (v.cs.take v.lc))):=Yp (f:=vev) rfl h3.1
   have Jr:yq [kV v 6 4 3,kV v 6 4 3,.cells [(Nl,I),(Nl,I),(.aj 3 0 1,I)],.vec 4 v.vs (v.ss.map jl),.vec 5 v.vc (v.cs.map vev),.hole,.vec 5 v.ve (v.ev.map vev)] (.aj 3 v.vs v.ls)=En (sl 4 jl (En (v.ss.take v.ls))):=Yp (f:=jl) rfl h3.2
   exact zo rfl w (v':=.aJ [.agg [sl 5 vev (En v.ev),sl 5 vev (En (v.cs.take v.lc)),sl 4 jl (En (v.ss.take v.ls))],Iv 0,Iv 0]) (by simp only[go_sem,seval,qA,gi,f1,f2,Jr]<;>rfl) (by first|rfl|simp only[go_sem,seval])
  ·cases h
end Go.Z
namespace Go.Z
open Go Go.Abs Go.W
def f62 (a0:GEv)(a1:Int):Option Bool:=
 qa (qr (a0.values.getD []) 0) fun v1=>
 En (decide (v1≤a1))
theorem W62 (hp:qi){a0 a1 r}(h:f62 a0 a1=En r):qo pr (X pr) 62 [aE a0,.ai (Iv a1)] hp=En (.bool r,I,hp):=by
 unfold f62 at h
 obtain⟨v1,h2,h⟩:=qb h
 have hr:decide (v1≤a1)=r:=En.inj h
 subst hr
 rw[ql (show pr.bO 62=En Js from rfl) (by simp)]
 simp only[go_sem,seval,Js,zj h2]<;>rfl
def II (a0:Option (List GEv))(av:Int)(s0:(Option (List GEv))×Int×Bool):Option (((Option (List GEv))×Int×Bool)⊕(((Option (List GEv))×Bool×Int))):=
 cond (decide (s0.2.1<((a0.getD []).length:Int)))
  (qa (qr (a0.getD []) s0.2.1) fun v20=>
  qa (f62 v20 av) fun v22=>
  cond v22
   (cond s0.2.2
    (qa (bB s0.1 [v20]) fun v26=>
    En (.inl (v26,qe .i64 (s0.2.1+1),Ge)))
    (cond s0.1.isNone
     (qa (bB s0.1 [v20]) fun ic=>
     En (.inl (ic,qe .i64 (s0.2.1+1),Ge)))
     (Ga)))
   (En (.inl (s0.1,qe .i64 (s0.2.1+1),s0.2.2))))
  (En (.inr (s0.1,s0.2.2,s0.2.1)))
def NG (a0:Option (List GEv))(av:Int)(s0:(Option (List GEv))×Int×Bool):aY:=⟨[(1,.fn (.func 62) [] [.ai (Iv av)],I),(5,sl 5 vev s0.1,s0.2.2),(8,sl 5 vev a0,I),(9,Lv a0,I),(10,Iv s0.2.1,I)],[]⟩
def NH (a0:Option (List GEv))(av:Int)(d:((Option (List GEv))×Bool×Int)):jf×aY:=(.exit 0,⟨[(1,.fn (.func 62) [] [.ai (Iv av)],I),(5,sl 5 vev d.1,d.2.1),(8,sl 5 vev a0,I),(9,Lv a0,I),(10,Iv d.2.2,I),(11,.bool I,I)],[]⟩)
theorem j5q (a0:Option (List GEv))(av:Int)(s0:(Option (List GEv))×Int×Bool)(r)(h:II a0 av s0=En r):jw pr NI (NG a0 av) (NH a0 av) s0 r:=by
 unfold II at h
 repeat' first|(replace h:=qb h;obtain⟨d,g,h⟩:=h;with_reducible first|replace g:=W62 [] g|replace g:=jeu g|skip)|(replace h:=qd h;rcases h with⟨g,h⟩|⟨g,h⟩)
 all_goals (cases h<;>((first|refine qw ?_|refine jm ?_);simp only[go_sem,seval,NI,NG,jg,NH, *]<;>rfl))
theorem j4s (a0:Option (List GEv))(av:Int){s0 d}(h:bu (II a0 av) s0=En d):X pr (.loop NI) (NG a0 av s0)=En (NH a0 av d):=zc (j5q a0 av) h
def f61 (a0:Option (List GEv))(av:Int):Option ((Option (List GEv))×Bool):=
 qa (bu (II a0 av) (Ga,0,I)) fun d31=>
 En (d31.1,d31.2.1)
theorem W61 {a0 av r}(h:f61 a0 av=En r):qc pr (X pr) 61 [sl 5 vev a0,.fn (.func 62) [] [.ai (Iv av)]]=En (sl 5 vev r.1,r.2):=by
 unfold f61 at h
 refine kg Jt ?_
 repeat' first|(replace h:=qb h;obtain⟨d,g,h⟩:=h;with_reducible first|(replace g:=j4s a0 av g;dsimp only[NG,NH,zf]at g h)|skip)|(replace h:=qd h;rcases h with⟨g,h⟩|⟨g,h⟩)
 all_goals (cases h<;>(simp only[go_sem,seval,Jt, *];exact⟨_,rfl⟩))
def f19 (a0:Option (List GEv))(a1:Int):Option (ak×Int):=
 qa (Mj a0) fun v1=>
 qa (f60 a1 0 999999999) fun v3=>
 qa (f46 (En [v1.2.2,v3])) fun v5=>
 cond (decide (v5=0))
  (qa (f61 v1.1.ct a1) fun v8=>
  qa (qr (v1.1.st.getD []) ((v8.1.getD []).length:Int)) fun v10=>
  En (v10,0))
  (En (⟨0,Ga,Ga,Ga⟩,v5))
theorem W19 {a0 a1 r}(h:f19 a0 a1=En r):qc pr (X pr) 19 [sl 5 vev a0,Iv a1]=En (.aJ [aR r.1,Iv r.2],I):=by
 unfold f19 at h
 refine zh Ju ?_
 repeat' first|(replace h:=qb h;obtain⟨d,g,h⟩:=h; (with_reducible first|replace g:=zfh g|replace g:=Jo g|replace g:=lf g|replace g:=W61 g|skip);try dsimp only[zf,lR,List.map,z7,yl,jd,qu,bD,jl,vev,bp,jb,yf,aE,aR,aU,aL,aP,aD]at g)|(replace h:=qd h;rcases h with⟨g,h⟩|⟨g,h⟩)
 all_goals (cases h<;>(simp only[go_sem,seval,Ju,jg, *];exact⟨_,rfl⟩))
end Go.Z
namespace Go.Z
open Go Go.Abs Go.W
def f11 (a0:Option (List GEv))(a1:Int):Option Bool:=
 qa (f12 a0 a1) fun v1=>
 cond v1
  (qa (f38 a0) fun v4=>
  En (decide (v4.2.2=0)))
  (En I)
theorem W11 {a0:Option (List GEv)}{a1:Int}{r}(h:f11 a0 a1=En r):qc pr (X pr) 11 [sl 5 vev a0,Iv a1]=En (.bool r,I):=by
 unfold f11 at h
 refine zh Jv ?_
 repeat' first|(replace h:=qb h;obtain⟨d,g,h⟩:=h;with_reducible first|replace g:=W12 g|replace g:=W38 g|skip)|(replace h:=qd h;rcases h with⟨g,h⟩|⟨g,h⟩)
 all_goals (cases h<;>(simp only[go_sem,seval,Jv, *];exact⟨_,rfl⟩))
end Go.Z
end
