/- Chapter 10. -/
import Derived.Test.YtimdocpnkimlfaaGreatDoorW12
set_option linter.unusedVariables false
set_option linter.unusedSimpArgs false
set_option maxRecDepth 100000
set_option maxHeartbeats 4000000
noncomputable section
open Bool renaming false→I,true→Gc
open Option renaming some→En,none→Ga
namespace Go.Z
open Go Go.Abs Go.W
@[go_sem] theorem zaq {b v l}:(AVal.ay b v l).flat=[.ay b v l]:=rfl
@[go_sem] theorem zla {b v l}:qk (.ay b v l)=Gc:=rfl
@[go_sem] theorem zbd {b v l}:AVal.cJ (.ay b v l)=I:=rfl
theorem zdu:∀ x:GEv,(vev x).flat.length=5:=fun _=>rfl
theorem jm1:∀ x:au,(zh x).flat.length=4:=fun _=>rfl
section
variable {h:qh}{α:Type}
theorem zW {sz b v len:Nat}{l:List α}{i x}(hx:qq (l.take len) i=En x):jY sz h (En (.ay b v len)) (En (Iv i))=En ⟨.dH b v (i.toNat*sz),I,Ga,h⟩∧l[i.toNat]?=En x:=by
 unfold qq at hx
 split at hx
 ·rename_i hi
  have h2:=(List.getElem?_eq_some_iff.1 hx).1
  rw[List.length_take]at h2
  have h3:i.toNat<len:=by omega
  refine⟨?_,?_⟩
  ·have:=jed (sz:=sz) (h:=h) (b:=b) (v:=v) (k:=.i64) h3
   rw[Int.toNat_of_nonneg hi]at this
   exact this
  ·rw[List.getElem?_take,if_pos h3]at hx
   exact hx
 ·cases hx
theorem jv3 {sz b v len:Nat}{i}(hi:0≤i)(hl:i≤(len:Int)):rR sz h (En (.ay b v len)) Ga (En (En (Iv i)))=En ⟨.ay b v i.toNat,I,Ga,h⟩:=by
 have:sx len len (En (En (Iv i)))=En i.toNat:=by
  simp only[sx,Ad]
  cases i with
  |ofNat n=>
   have h1:((n:Nat):Int)≤(len:Int):=hl
   have h2:n≤len:=by omega
   simp only[Nat.ble_eq_true_of_le h2,cond_true]
   rfl
  |negSucc n=>omega
 simp only[rR,this]
 rfl
def sk (xs:List α)(len:Nat)(x:α):Option (List α):=if len≤xs.length∧len+1≤1073741824 then En (xs.take len++[x])else Ga
theorem JF {h0 b v len r sz bytes:Nat}{c:Bool}{f:α→AVal}{l l':List α}{x}(hp:sk l len x=En l')(hb:h[b]?=En (.vec sz v (l.map f)))(hx:qw 0 [f x]=Gc)(hz:0<sz)(Se:bytes≤4096)(hr:r<1000):
  oS h0 r sz bytes h (En (.ay b v len)) (En (.list c sz [f x]))=En ⟨.ay b (v+1) (len+1),I,Ga,h.set b (.vec sz (v+1) (l'.map f))⟩:=by
 unfold sk at hp
 split at hp
 ·rename_i hl
  cases hp
  have:=jfi (h:=h) (h0:=h0) (c:=c) (ys:=[f x]) hb (by rw[List.length_map];exact hl.1) (by simpa using hl.2) Se hz hx hr
  rw[this]
  simp[List.map_take]
 ·cases hp
end
structure HV where
 ev:List GEv
 ve:Nat
 cs:List GEv
 lc:Nat
 vc:Nat
 ss:List au
 ls:Nat
 vs:Nat
abbrev kV (v:HV)(a b c:Nat):bg:=.cells [(.ay a v.ve v.ev.length,I),(.ay b v.vc v.lc,I),(.ay c v.vs v.ls,I)]
theorem jps {n st}(h:zr n (st.heap.take n)=I):gc n st=st:=by
 unfold gc
 rw[h,Bool.and_false,cond_false]
 cases Nat.ble st.heap.length n<;>rfl
theorem qzq {α:Type}{l l':List α}{x}(h:sk l l.length x=En l'):l'.length=l.length+1:=by
 unfold sk at h
 split at h
 ·cases h;simp
 ·cases h
def Ix (s:HV)(e:GEv):Option (Int×HV):=
 cond (decide (e.number=qe .i64 ((s.ev.length:Int)+1)))
  (cond (decide (e.kind=([117,110,100,111]:List UInt8)))
   (qa (f48 (decide ((s.lc:Int)=0)) 12) fun e1=>
   cond (decide (0<(s.lc:Int)))
    (qa (qq (s.cs.take s.lc) (max 0 (qe .i64 ((s.lc:Int)-1)))) fun x=>
    qa (f48 (decide (x.kind=([115,104,105,112]:List UInt8))) 19) fun e2=>
    qa (f46 (En [e1,e2])) fun e3=>
    cond (decide (e3=0))
     (cond (decide (0≤qe .i64 ((s.lc:Int)-1)∧qe .i64 ((s.lc:Int)-1)≤(s.lc:Int)∧s.lc≤s.ls))
      (qa (sk s.ev s.ev.length e) fun ev=>En (0,{ s with ev:=ev,ve:=s.ve+1,lc:=(qe .i64 ((s.lc:Int)-1)).toNat,ls:=s.lc }))
      Ga)
     (En (e3,s)))
    (qa (f48 I 19) fun e2=>qa (f46 (En [e1,e2])) fun e3=>cond (decide (e3=0)) Ga (En (e3,s))))
   (qa (qq (s.ss.take s.ls) (qe .i64 ((s.ls:Int)-1))) fun r=>
   qa (jO r e) fun v=>
   cond (decide (v.2=0))
    (qa (sk s.cs s.lc e) fun cs=>qa (sk s.ss s.ls v.1) fun ss=>qa (sk s.ev s.ev.length e) fun ev=>
    En (0,{ ev:=ev,ve:=s.ve+1,cs:=cs,lc:=s.lc+1,vc:=s.vc+1,ss:=ss,ls:=s.ls+1,vs:=s.vs+1 }))
    (En (v.2,s))))
  (En (11,s))
theorem jnh:decide (((([]:List AVal).length:Nat):Int)=0)=Gc:=rfl
theorem zjk:decide ((0:Int)<((([]:List AVal).length:Nat):Int))=I:=rfl
theorem zjf:decide ((0:Int)<((0:Nat):Int))=I:=rfl
def eY:au:=⟨0,Ga,Ga,Ga⟩
def Iw (e:GEv):Option (Int×Option HV):=
 cond (decide (e.number=qe .i64 1))
  (cond (decide (e.kind=([117,110,100,111]:List UInt8)))
   (qa (f48 Gc 12) fun e1=>qa (f48 I 19) fun e2=>qa (f46 (En [e1,e2])) fun e3=>cond (decide (e3=0)) Ga (En (e3,Ga)))
   (qa (jO eY e) fun v=>
   cond (decide (v.2=0))
    (En (0,En { ev:=[e],ve:=0,cs:=[e],lc:=1,vc:=0,ss:=[eY,v.1],ls:=2,vs:=1 }))
    (En (v.2,Ga))))
  (En (11,Ga))
def MA (s:Option HV)(e:GEv):Option (Int×Option HV):=match s with
 |none=>Iw e
 |some s=>qa (Ix s e) fun q=>En (q.1,En q.2)
def BH (l:Option (List GEv))(x:Int×Option HV):Option ((Int×Option HV)⊕((Int×Int×Option HV)⊕(Int×Option HV))):=
 cond (decide (x.1<((l.getD []).length:Int)))
  (qa (qq (l.getD []) x.1) fun e=>
  qa (f47 e) fun c=>
  cond (decide (c=0))
   (qa (f50 e) fun e2=>
   qa (MA x.2 e2) fun q=>
   cond (decide (q.1=0))
    (En (.inl (qe .i64 (x.1+1),q.2)))
    (En (.inr (.inl (qe .i64 (x.1+1),q.1,q.2)))))
   (En (.inr (.inl (qe .i64 (x.1+1),c,x.2)))))
  (En (.inr (.inr x)))
def f45 (l:Option (List GEv)):Option ((Int×Int)⊕Option HV):=
 cond (decide (1000<((l.getD []).length:Int)))
  (En (.inl (0,5)))
  (qa (bz (BH l) (0,Ga)) fun d=>match d with
  | .inl d=>En (.inl (d.1,d.2.1))
  | .inr d=>En (.inr d.2))
theorem j7n {s:HV}{r:au}(hx:qq (s.ss.take s.ls) (qe .i64 ((s.ls:Int)-1))=En r):ql pr (X pr) 55 [.ptr 3 0] [kZ,.hole,kO,kV s 8 6 5,cf,.vec 4 s.vs (s.ss.map zh),.vec 5 s.vc (s.cs.map vev),.hole,.vec 5 s.ve (s.ev.map vev)]=En (aR r,I,[kZ,.hole,kO,kV s 8 6 5,cf,.vec 4 s.vs (s.ss.map zh),.vec 5 s.vc (s.cs.map vev),.hole,.vec 5 s.ve (s.ev.map vev),kR r.day r.ar r.ae r.units]):=by
 have g1:∀h:qh,jY 4 h (En (.ay 5 s.vs s.ls)) (En (Iv (qe .i64 ((s.ls:Int)-1))))=En ⟨.dH 5 s.vs ((qe .i64 ((s.ls:Int)-1)).toNat*4),I,Ga,h⟩:=fun h=>(zW hx).1
 have g2:gi 10 (En []) Gc 4 [kZ,.hole,kO,kV s 8 6 5,cf,.vec 4 s.vs (s.ss.map zh),.vec 5 s.vc (s.cs.map vev),.hole,.vec 5 s.ve (s.ev.map vev),kZ] (En (.dH 5 s.vs ((qe .i64 ((s.ls:Int)-1)).toNat*4)))=En ⟨aR r,I,Ga,[kZ,.hole,kO,kV s 8 6 5,cf,.vec 4 s.vs (s.ss.map zh),.vec 5 s.vc (s.cs.map vev),.hole,.vec 5 s.ve (s.ev.map vev),kZ]⟩:=je4 jm1 rfl rfl (zW (sz:=4) (b:=0) (v:=0) (h:=[]) hx).2
 rw[qm (show pr.bM 55=En tG from rfl) (by simp)]
 simp only[go_sem,seval,tG,g1,g2]<;>rfl
theorem j3c {s:HV}{e:GEv}{q}(h:Ix s e=En q):∃hh,ql pr (X pr) 49 [.ptr 3 0,aE e] [kZ,.hole,kO,kV s 8 6 5,cf,.vec 4 s.vs (s.ss.map zh),.vec 5 s.vc (s.cs.map vev),.hole,.vec 5 s.ve (s.ev.map vev)]=En (Iv q.1,I,hh)∧zd 9 (Iv q.1) hh=[kZ,.hole,kO,.cells [(.ay 8 q.2.ve q.2.ev.length,I),(.ay 6 q.2.vc q.2.lc,I),(.ay 5 q.2.vs q.2.ls,I)],cf,.vec 4 q.2.vs (q.2.ss.map zh),.vec 5 q.2.vc (q.2.cs.map vev),.hole,.vec 5 q.2.ve (q.2.ev.map vev)]:=by
 unfold Ix at h
 rcases qd h with⟨h1,h⟩|⟨h1,h⟩
 ·rcases qd h with⟨h2,h⟩|⟨h2,h⟩
  ·obtain⟨e1,k1,h⟩:=qb h
   have w1:=fP k1
   rcases qd h with⟨h3,h⟩|⟨h3,h⟩
   ·obtain⟨x,k2,h⟩:=qb h
    obtain⟨e2,k3,h⟩:=qb h
    obtain⟨e3,k4,h⟩:=qb h
    have w2:=fP k3
    have w3:qc pr (X pr) 46 [.list I 1 [Iv e1,Iv e2]]=En (Iv e3,I):=l7 k4
    have g1:∀h:qh,jY 5 h (En (.ay 6 s.vc s.lc)) (En (Iv (max 0 (qe .i64 ((s.lc:Int)-1)))))=En ⟨.dH 6 s.vc ((max 0 (qe .i64 ((s.lc:Int)-1))).toNat*5),I,Ga,h⟩:=fun h=>(zW k2).1
    have g2:gi 9 Ga I 1 [kZ,.hole,kO,kV s 8 6 5,cf,.vec 4 s.vs (s.ss.map zh),.vec 5 s.vc (s.cs.map vev),.hole,.vec 5 s.ve (s.ev.map vev)] (En (.dH 6 s.vc ((max 0 (qe .i64 ((s.lc:Int)-1))).toNat*5+1)))=En ⟨.str x.kind,I,Ga,[kZ,.hole,kO,kV s 8 6 5,cf,.vec 4 s.vs (s.ss.map zh),.vec 5 s.vc (s.cs.map vev),.hole,.vec 5 s.ve (s.ev.map vev)]⟩:=ju1 (f:=vev) (o:=1) zdu rfl rfl (zW (sz:=4) (b:=0) (v:=0) (h:=[]) k2).2 rfl
    rcases qd h with⟨h4,h⟩|⟨h4,h⟩
    ·rcases qd h with⟨h5,h⟩|⟨_,h⟩
     ·obtain⟨ev,gW,h⟩:=qb h
      cases h
      have dl:=of_decide_eq_true h5
      have hln:ev.length=s.ev.length+1:=qzq gW
      have g3:∀h:qh,rR 5 h (En (.ay 6 s.vc s.lc)) Ga (En (En (Iv (qe .i64 ((s.lc:Int)-1)))))=En ⟨.ay 6 s.vc (qe .i64 ((s.lc:Int)-1)).toNat,I,Ga,h⟩:=fun h=>jv3 dl.1 dl.2.1
      have g4:∀h:qh,rR 4 h (En (.ay 5 s.vs s.ls)) Ga (En (En (Iv (s.lc:Int))))=En ⟨.ay 5 s.vs s.lc,I,Ga,h⟩:=fun h=>jv3 (by omega) (by have:=dl.2.2;omega)
      have g5:oS 9 0 5 88 [kZ,.hole,kO,.cells [(.ay 8 s.ve s.ev.length,I),(.ay 6 s.vc (qe .i64 ((s.lc:Int)-1)).toNat,I),(.ay 5 s.vs s.lc,I)],cf,.vec 4 s.vs (s.ss.map zh),.vec 5 s.vc (s.cs.map vev),.hole,.vec 5 s.ve (s.ev.map vev),.hole] (En (.ay 8 s.ve s.ev.length)) (En (.list I 5 [aE e]))=En ⟨.ay 8 (s.ve+1) (s.ev.length+1),I,Ga,[kZ,.hole,kO,.cells [(.ay 8 s.ve s.ev.length,I),(.ay 6 s.vc (qe .i64 ((s.lc:Int)-1)).toNat,I),(.ay 5 s.vs s.lc,I)],cf,.vec 4 s.vs (s.ss.map zh),.vec 5 s.vc (s.cs.map vev),.hole,.vec 5 (s.ve+1) (ev.map vev),.hole]⟩:=JF (f:=vev) (x:=e) gW rfl (by simp only[go_sem,seval]) (by decide) (by decide) (by decide)
      refine⟨[kZ,.hole,kO,.cells [(.ay 8 (s.ve+1) (s.ev.length+1),I),(.ay 6 s.vc (qe .i64 ((s.lc:Int)-1)).toNat,I),(.ay 5 s.vs s.lc,I)],cf,.vec 4 s.vs (s.ss.map zh),.vec 5 s.vc (s.cs.map vev),.hole,.vec 5 (s.ve+1) (ev.map vev),.hole],?_,?_⟩
      ·rw[qm (show pr.bM 49=En iU from rfl) (by simp)]
       simp only[go_sem,seval,iU,h1,h2,w1,h3,g1,g2,w2,w3,h4,g3,g4,g5]<;>rfl
      ·simp only[hln]
       simp only[go_sem,seval]<;>rfl
     ·cases h
    ·cases h
     refine⟨[kZ,.hole,kO,kV s 8 6 5,cf,.vec 4 s.vs (s.ss.map zh),.vec 5 s.vc (s.cs.map vev),.hole,.vec 5 s.ve (s.ev.map vev)],?_,tH rfl⟩
     rw[qm (show pr.bM 49=En iU from rfl) (by simp)]
     simp only[go_sem,seval,iU,h1,h2,w1,h3,g1,g2,w2,w3,h4]<;>rfl
   ·obtain⟨e2,k3,h⟩:=qb h
    obtain⟨e3,k4,h⟩:=qb h
    have w2:=fP k3
    have w3:qc pr (X pr) 46 [.list I 1 [Iv e1,Iv e2]]=En (Iv e3,I):=l7 k4
    rcases qd h with⟨h4,h⟩|⟨h4,h⟩
    ·cases h
    ·cases h
     refine⟨[kZ,.hole,kO,kV s 8 6 5,cf,.vec 4 s.vs (s.ss.map zh),.vec 5 s.vc (s.cs.map vev),.hole,.vec 5 s.ve (s.ev.map vev)],?_,tH rfl⟩
     rw[qm (show pr.bM 49=En iU from rfl) (by simp)]
     simp only[go_sem,seval,iU,h1,h2,w1,h3,w2,w3,h4]<;>rfl
  ·obtain⟨r,k1,h⟩:=qb h
   obtain⟨v,k2,h⟩:=qb h
   have w1:=j7n k1
   have wa:zd 9 (aR r) [kZ,.hole,kO,kV s 8 6 5,cf,.vec 4 s.vs (s.ss.map zh),.vec 5 s.vc (s.cs.map vev),.hole,.vec 5 s.ve (s.ev.map vev),kR r.day r.ar r.ae r.units]=[kZ,.hole,kO,kV s 8 6 5,cf,.vec 4 s.vs (s.ss.map zh),.vec 5 s.vc (s.cs.map vev),.hole,.vec 5 s.ve (s.ev.map vev)]:=by simp only[go_sem,seval]<;>rfl
   have w2:qc pr (X pr) 113 [aR r,aE e]=En (.aC [aR v.1,Iv v.2],I):=ju6 k2
   rcases qd h with⟨h3,h⟩|⟨h3,h⟩
   ·obtain⟨cs,hcs,h⟩:=qb h
    obtain⟨ss,x9,h⟩:=qb h
    obtain⟨ev,gW,h⟩:=qb h
    cases h
    have hln:ev.length=s.ev.length+1:=qzq gW
    have g1:oS 9 0 5 88 [kZ,.hole,kO,kV s 8 6 5,cf,.vec 4 s.vs (s.ss.map zh),.vec 5 s.vc (s.cs.map vev),.hole,.vec 5 s.ve (s.ev.map vev),.hole,.hole] (En (.ay 6 s.vc s.lc)) (En (.list I 5 [aE e]))=En ⟨.ay 6 (s.vc+1) (s.lc+1),I,Ga,[kZ,.hole,kO,kV s 8 6 5,cf,.vec 4 s.vs (s.ss.map zh),.vec 5 (s.vc+1) (cs.map vev),.hole,.vec 5 s.ve (s.ev.map vev),.hole,.hole]⟩:=JF (f:=vev) (x:=e) hcs rfl (by simp only[go_sem,seval]) (by decide) (by decide) (by decide)
    have g2:oS 9 1 4 80 [kZ,.hole,kO,kV s 8 6 5,cf,.vec 4 s.vs (s.ss.map zh),.vec 5 (s.vc+1) (cs.map vev),.hole,.vec 5 s.ve (s.ev.map vev),.hole,.hole] (En (.ay 5 s.vs s.ls)) (En (.list I 4 [aR v.1]))=En ⟨.ay 5 (s.vs+1) (s.ls+1),I,Ga,[kZ,.hole,kO,kV s 8 6 5,cf,.vec 4 (s.vs+1) (ss.map zh),.vec 5 (s.vc+1) (cs.map vev),.hole,.vec 5 s.ve (s.ev.map vev),.hole,.hole]⟩:=JF (f:=zh) (x:=v.1) x9 rfl (by simp only[go_sem,seval]) (by decide) (by decide) (by decide)
    have g3:oS 11 0 5 88 [kZ,.hole,kO,.cells [(.ay 8 s.ve s.ev.length,I),(.ay 6 (s.vc+1) (s.lc+1),I),(.ay 5 (s.vs+1) (s.ls+1),I)],cf,.vec 4 (s.vs+1) (ss.map zh),.vec 5 (s.vc+1) (cs.map vev),.hole,.vec 5 s.ve (s.ev.map vev),.hole,.hole,.hole] (En (.ay 8 s.ve s.ev.length)) (En (.list I 5 [aE e]))=En ⟨.ay 8 (s.ve+1) (s.ev.length+1),I,Ga,[kZ,.hole,kO,.cells [(.ay 8 s.ve s.ev.length,I),(.ay 6 (s.vc+1) (s.lc+1),I),(.ay 5 (s.vs+1) (s.ls+1),I)],cf,.vec 4 (s.vs+1) (ss.map zh),.vec 5 (s.vc+1) (cs.map vev),.hole,.vec 5 (s.ve+1) (ev.map vev),.hole,.hole,.hole]⟩:=JF (f:=vev) (x:=e) gW rfl (by simp only[go_sem,seval]) (by decide) (by decide) (by decide)
    refine⟨[kZ,.hole,kO,.cells [(.ay 8 (s.ve+1) (s.ev.length+1),I),(.ay 6 (s.vc+1) (s.lc+1),I),(.ay 5 (s.vs+1) (s.ls+1),I)],cf,.vec 4 (s.vs+1) (ss.map zh),.vec 5 (s.vc+1) (cs.map vev),.hole,.vec 5 (s.ve+1) (ev.map vev),.hole,.hole,.hole],?_,?_⟩
    ·rw[qm (show pr.bM 49=En iU from rfl) (by simp)]
     simp only[go_sem,seval,iU,h1,h2,w1,wa,w2,h3,g1,g2,g3]<;>rfl
    ·simp only[hln]
     simp only[go_sem,seval]<;>rfl
   ·cases h
    refine⟨[kZ,.hole,kO,kV s 8 6 5,cf,.vec 4 s.vs (s.ss.map zh),.vec 5 s.vc (s.cs.map vev),.hole,.vec 5 s.ve (s.ev.map vev)],?_,tH rfl⟩
    rw[qm (show pr.bM 49=En iU from rfl) (by simp)]
    simp only[go_sem,seval,iU,h1,h2,w1,wa,w2,h3]<;>rfl
 ·cases h
  refine⟨[kZ,.hole,kO,kV s 8 6 5,cf,.vec 4 s.vs (s.ss.map zh),.vec 5 s.vc (s.cs.map vev),.hole,.vec 5 s.ve (s.ev.map vev)],?_,tH rfl⟩
  rw[qm (show pr.bM 49=En iU from rfl) (by simp)]
  simp only[go_sem,seval,iU,h1]<;>rfl
theorem jud:ql pr (X pr) 55 [.ptr 3 0] [kZ,.hole,kO,cf,cf,.vec 4 0 [aZ]]=En (aZ,I,[kZ,.hole,kO,cf,cf,.vec 4 0 [aZ],kZ]):=by
 have g1:∀h:qh,jY 4 h (En (.ay 5 0 1)) (En (Iv (qe .i64 0)))=En ⟨.dH 5 0 0,I,Ga,h⟩:=fun h=>(zW (l:=[eY]) (x:=eY) rfl).1
 have g2:gi 7 (En []) Gc 4 [kZ,.hole,kO,cf,cf,.vec 4 0 [aZ],kZ] (En (.dH 5 0 0))=En ⟨aZ,I,Ga,[kZ,.hole,kO,cf,cf,.vec 4 0 [aZ],kZ]⟩:=rfl
 rw[qm (show pr.bM 55=En tG from rfl) (by simp)]
 simp only[go_sem,seval,tG,g1,g2]<;>rfl
theorem jvz {e:GEv}{q}(h:Iw e=En q):∃hh,ql pr (X pr) 49 [.ptr 3 0,aE e] [kZ,.hole,kO,cf,cf,.vec 4 0 [aZ]]=En (Iv q.1,I,hh)∧zd 6 (Iv q.1) hh=(match q.2 with
  |none=>[kZ,.hole,kO,cf,cf,.vec 4 0 [aZ]]
  |some v=>[kZ,.hole,kO,kV v 8 6 5,cf,.vec 4 v.vs (v.ss.map zh),.vec 5 v.vc (v.cs.map vev),.hole,.vec 5 v.ve (v.ev.map vev)]):=by
 unfold Iw at h
 rcases qd h with⟨h1,h⟩|⟨h1,h⟩
 ·rcases qd h with⟨h2,h⟩|⟨h2,h⟩
  ·obtain⟨e1,k1,h⟩:=qb h
   obtain⟨e2,k3,h⟩:=qb h
   obtain⟨e3,k4,h⟩:=qb h
   have w1:=fP k1
   have w2:=fP k3
   have w3:qc pr (X pr) 46 [.list I 1 [Iv e1,Iv e2]]=En (Iv e3,I):=l7 k4
   rcases qd h with⟨h4,h⟩|⟨h4,h⟩
   ·cases h
   ·cases h
    refine⟨[kZ,.hole,kO,cf,cf,.vec 4 0 [aZ]],?_,tH rfl⟩
    rw[qm (show pr.bM 49=En iU from rfl) (by simp)]
    simp only[go_sem,seval,iU,h1,h2,w1,w2,w3,h4,jnh,zjk,zjf]<;>rfl
  ·obtain⟨v,k2,h⟩:=qb h
   have w1:=jud
   have wa:zd 6 (aZ) [kZ,.hole,kO,cf,cf,.vec 4 0 [aZ],kZ]=[kZ,.hole,kO,cf,cf,.vec 4 0 [aZ]]:=by simp only[go_sem,seval]<;>rfl
   have w2:qc pr (X pr) 113 [aZ,aE e]=En (.aC [aR v.1,Iv v.2],I):=ju6 k2
   rcases qd h with⟨h3,h⟩|⟨h3,h⟩
   ·cases h
    have g1:oS 6 0 5 88 [kZ,.hole,kO,cf,cf,.vec 4 0 [aZ],.hole,.hole] (En (Nl)) (En (.list I 5 [aE e]))=En ⟨.ay 6 0 1,I,Ga,[kZ,.hole,kO,cf,cf,.vec 4 0 [aZ],.vec 5 0 [aE e],.hole]⟩:=by apply q2v<;>first|rfl|decide|(simp only[go_sem,seval]<;>done)|simp
    have g2:oS 6 1 4 80 [kZ,.hole,kO,cf,cf,.vec 4 0 [aZ],.vec 5 0 [aE e],.hole] (En (.ay 5 0 1)) (En (.list I 4 [aR v.1]))=En ⟨.ay 5 1 2,I,Ga,[kZ,.hole,kO,cf,cf,.vec 4 1 [aZ,aR v.1],.vec 5 0 [aE e],.hole]⟩:=JF (f:=zh) (l:=[eY]) (l':=[eY,v.1]) (x:=v.1) rfl rfl (by simp only[go_sem,seval]) (by decide) (by decide) (by decide)
    have g3:oS 8 0 5 88 [kZ,.hole,kO,.cells [(Nl,I),(.ay 6 0 1,I),(.ay 5 1 2,I)],cf,.vec 4 1 [aZ,aR v.1],.vec 5 0 [aE e],.hole,.hole] (En (Nl)) (En (.list I 5 [aE e]))=En ⟨.ay 8 0 1,I,Ga,[kZ,.hole,kO,.cells [(Nl,I),(.ay 6 0 1,I),(.ay 5 1 2,I)],cf,.vec 4 1 [aZ,aR v.1],.vec 5 0 [aE e],.hole,.vec 5 0 [aE e]]⟩:=by apply q2v<;>first|rfl|decide|(simp only[go_sem,seval]<;>done)|simp
    refine⟨[kZ,.hole,kO,.cells [(.ay 8 0 1,I),(.ay 6 0 1,I),(.ay 5 1 2,I)],cf,.vec 4 1 [aZ,aR v.1],.vec 5 0 [aE e],.hole,.vec 5 0 [aE e]],?_,?_⟩
    ·rw[qm (show pr.bM 49=En iU from rfl) (by simp)]
     simp only[go_sem,seval,iU,h1,h2,w1,wa,w2,h3,g1,g2,g3,jnh]<;>rfl
    ·simp only[go_sem,seval,(show ∀k b v l,k≤b→below k (.ay b v l)=I from fun k b v l h=>by rw[jbp];exact decide_eq_false (by omega))]<;>rfl
   ·cases h
    refine⟨[kZ,.hole,kO,cf,cf,.vec 4 0 [aZ]],?_,tH rfl⟩
    rw[qm (show pr.bM 49=En iU from rfl) (by simp)]
    simp only[go_sem,seval,iU,h1,h2,w1,wa,w2,h3]<;>rfl
 ·cases h
  refine⟨[kZ,.hole,kO,cf,cf,.vec 4 0 [aZ]],?_,tH rfl⟩
  rw[qm (show pr.bM 49=En iU from rfl) (by simp)]
  simp only[go_sem,seval,iU,h1]<;>rfl
def nU:Option HV→qh
 |none=>[kZ,.hole,kO,cf,cf,.vec 4 0 [aZ]]
 |some v=>[kZ,.hole,kO,kV v 8 6 5,cf,.vec 4 v.vs (v.ss.map zh),.vec 5 v.vc (v.cs.map vev),.hole,.vec 5 v.ve (v.ev.map vev)]
def po (l:Option (List GEv))(x:Int×Option HV):bf:=⟨[(2,.ptr 2 0,I),(5,.ptr 3 0,I),(14,sl 5 vev l,I),(15,Lv l,I),(16,Iv x.1,I)],nU x.2⟩
def wi (l:Option (List GEv)):(Int×Int×Option HV)⊕(Int×Option HV)→jg×bf
 | .inl d=>(.ret,⟨[(2,.ptr 2 0,I),(3,Iv d.1,I),(4,Iv d.2.1,I)],nU d.2.2⟩)
 | .inr d=>(.exit 0,⟨[(2,.ptr 2 0,I),(5,.ptr 3 0,I),(14,sl 5 vev l,I),(15,Lv l,I),(16,Iv d.1,I),(17,.bool I,I)],nU d.2⟩)
theorem j7d (l:Option (List GEv))(x:Int×Option HV)(r)(h:BH l x=En r):jz pr qB (po l) (wi l) x r:=by
 rcases x with⟨i,o⟩
 unfold BH at h
 rcases qd h with⟨h1,h⟩|⟨h1,h⟩
 ·obtain⟨e,h2,h⟩:=qb h
  obtain⟨c,h3,h⟩:=qb h
  have w1:qc pr (X pr) 47 [aE e]=En (Iv c,I):=W47 h3
  rcases qd h with⟨h4,h⟩|⟨h4,h⟩
  ·obtain⟨e2,h5,h⟩:=qb h
   obtain⟨q,h6,h⟩:=qb h
   have w2:qc pr (X pr) 50 [aE e]=En (aE e2,I):=W50 h5
   rcases o with _|s
   ·obtain⟨hh,w3,wa⟩:=jvz (e:=e2) h6
    rcases q with⟨q1,q2⟩
    rcases q2 with _|v
    ·simp only at wa
     rcases qd h with⟨h7,h⟩|⟨h7,h⟩
     ·cases h
      exact Be (bT:=po l (qe .i64 (i+1),Ga)) (by simp only[go_sem,seval,qB,po,nU,h1,z7 h2,w1,h4,w2,w3,wa,h7]<;>rfl) (D3 (Nat.le_refl _))
     ·cases h
      exact qz (by simp only[go_sem,seval,qB,po,nU,h1,z7 h2,w1,h4,w2,w3,wa,h7,wi]<;>rfl)
    ·simp only at wa
     rcases qd h with⟨h7,h⟩|⟨h7,h⟩
     ·cases h
      exact Be (bT:=po l (qe .i64 (i+1),En v)) (by simp only[go_sem,seval,qB,po,nU,h1,z7 h2,w1,h4,w2,w3,wa,h7]<;>rfl) (jps rfl)
     ·cases h
      exact qz (by simp only[go_sem,seval,qB,po,nU,h1,z7 h2,w1,h4,w2,w3,wa,h7,wi]<;>rfl)
   ·obtain⟨q0,h8,h9⟩:=qb h6
    cases h9
    obtain⟨hh,w3,wa⟩:=j3c (e:=e2) h8
    rcases qd h with⟨h7,h⟩|⟨h7,h⟩
    ·cases h
     exact Be (bT:=po l (qe .i64 (i+1),En q0.2)) (by simp only[go_sem,seval,qB,po,nU,h1,z7 h2,w1,h4,w2,w3,wa,h7]<;>rfl) (D3 (Nat.le_refl _))
    ·cases h
     exact qz (by simp only[go_sem,seval,qB,po,nU,h1,z7 h2,w1,h4,w2,w3,wa,h7,wi]<;>rfl)
  ·cases h
   rcases o with _|s
   ·exact qz (by simp only[go_sem,seval,qB,po,nU,h1,z7 h2,w1,h4,wi]<;>rfl)
   ·exact qz (by simp only[go_sem,seval,qB,po,nU,h1,z7 h2,w1,h4,wi]<;>rfl)
 ·cases h
  exact qz (by simp only[go_sem,seval,qB,po,h1,wi]<;>rfl)
theorem juc:ql pr (X pr) 108 [] [kZ,.hole,kO,.hole]=En (.agg [Nl,Nl,.ay 5 0 1],I,[kZ,.hole,kO,.hole,cf,.vec 4 0 [aZ]]):=by
 have JG:qf pr (X pr) 5 Ga [(1,aZ,I),(0,.ptr 4 0,I)] [kZ,.hole,kO,.hole,kO,.hole] (.iG 0 4 1 [Iv 0,Nl,Nl,Nl] [(0,.tmp 1)])=En ⟨.ay 5 0 1,I,Ga,[kZ,.hole,kO,.hole,kO,.vec 4 0 [aZ]]⟩:=rfl
 rw[qm (show pr.bM 108=En tI from rfl) (by simp)]
 simp only[go_sem,seval,tI,JG]<;>rfl
def zX:Option HV→qh
 |none=>[kZ,.hole,cf,cf,cf,.vec 4 0 [aZ]]
 |some v=>[kZ,.hole,kV v 8 6 5,kV v 8 6 5,cf,.vec 4 v.vs (v.ss.map zh),.vec 5 v.vc (v.cs.map vev),.hole,.vec 5 v.ve (v.ev.map vev)]
def Cs:Option HV→AVal
 |none=>.agg [Nl,Nl,.ay 5 0 1]
 |some v=>.agg [.ay 8 v.ve v.ev.length,.ay 6 v.vc v.lc,.ay 5 v.vs v.ls]
def wk:(Int × Int)⊕Option HV→AVal
 | .inl x=>.aC [.agg [Nl,Nl,Nl],Iv x.1,Iv x.2]
 | .inr o=>.aC [Cs o,Iv 0,Iv 0]
def xm:(Int × Int)⊕Option HV→qh
 | .inl _=>[kZ,.hole]
 | .inr o=>zX o
theorem j44 {l r}(h:f45 l=En r):∃hh,ql pr (X pr) 45 [sl 5 vev l] [kZ,.hole]=En (wk r,I,hh)∧zd 2 (wk r) hh=xm r:=by
 unfold f45 at h
 rcases qd h with⟨h1,h⟩|⟨h1,h⟩
 ·cases h
  refine⟨[kZ,.hole,kO],?_,?_⟩
  ·rw[qm (show pr.bM 45=En qC from rfl) (by simp)]
   simp only[go_sem,seval,qC,h1]<;>rfl
  ·simp only[go_sem,seval,wk,xm]<;>rfl
 ·obtain⟨d,h2,h⟩:=qb h
  have w:=juc
  have wa:zd 4 (.agg [Nl,Nl,.ay 5 0 1]) [kZ,.hole,kO,.hole,cf,.vec 4 0 [aZ]]=[kZ,.hole,kO,.hole,cf,.vec 4 0 [aZ]]:=by simp only[go_sem,seval]<;>rfl
  have wl:X pr (.loop qB) ⟨[(2,.ptr 2 0,I),(5,.ptr 3 0,I),(14,sl 5 vev l,I),(15,Lv l,I),(16,Iv 0,I)],[kZ,.hole,kO,cf,cf,.vec 4 0 [aZ]]⟩=En (wi l d):=zn (j7d l) h2
  rcases d with⟨d1,d2,d3⟩|⟨d1,d2⟩
  ·cases h
   simp only[wi]at wl
   rcases d3 with _|v
   ·refine⟨[kZ,.hole,kO,cf,cf,.vec 4 0 [aZ]],?_,?_⟩
    ·simp only[nU]at wl
     rw[qm (show pr.bM 45=En qC from rfl) (by simp)]
     simp only[go_sem,seval,qC,h1,w,wa,wl]<;>rfl
    ·simp only[go_sem,seval,wk,xm]<;>rfl
   ·refine⟨[kZ,.hole,kO,kV v 8 6 5,cf,.vec 4 v.vs (v.ss.map zh),.vec 5 v.vc (v.cs.map vev),.hole,.vec 5 v.ve (v.ev.map vev)],?_,?_⟩
    ·simp only[nU]at wl
     rw[qm (show pr.bM 45=En qC from rfl) (by simp)]
     simp only[go_sem,seval,qC,h1,w,wa,wl]<;>rfl
    ·simp only[go_sem,seval,wk,xm]<;>rfl
  ·cases h
   simp only[wi]at wl
   refine⟨zX d2,?_,?_⟩
   ·rw[qm (show pr.bM 45=En qC from rfl) (by simp)]
    rcases d2 with _|v
    ·simp only[nU]at wl
     simp only[go_sem,seval,qC,h1,w,wa,wl,Cs,zX]<;>rfl
    ·simp only[nU]at wl
     simp only[go_sem,seval,qC,h1,w,wa,wl,Cs,zX]<;>rfl
   ·rcases d2 with _|v
    ·simp only[go_sem,seval,wk,xm,Cs,zX]<;>rfl
    ·simp only[go_sem,seval,wk,xm,Cs,zX]<;>rfl
end Go.Z
namespace Go.Z
open Go Go.Abs Go.W
theorem jtq:ql pr (X pr) 55 [.ptr 1 0] [kZ,cf,cf,cf,cf,.vec 4 0 [aZ]]=En (aZ,I,[kZ,cf,cf,cf,cf,.vec 4 0 [aZ],kZ]):=by
 have g1:∀h:qh,jY 4 h (En (.ay 5 0 1)) (En (Iv (qe .i64 0)))=En ⟨.dH 5 0 0,I,Ga,h⟩:=fun h=>(zW (l:=[eY]) (x:=eY) rfl).1
 have g2:gi 7 (En []) Gc 4 [kZ,cf,cf,cf,cf,.vec 4 0 [aZ],kZ] (En (.dH 5 0 0))=En ⟨aZ,I,Ga,[kZ,cf,cf,cf,cf,.vec 4 0 [aZ],kZ]⟩:=rfl
 rw[qm (show pr.bM 55=En tG from rfl) (by simp)]
 simp only[go_sem,seval,tG,g1,g2]<;>rfl
theorem j1q {s r}(hx:qq (s.ss.take s.ls) (qe .i64 ((s.ls:Int)-1))=En r):ql pr (X pr) 55 [.ptr 1 0] [kZ,kV s 8 6 5,kV s 8 6 5,kV s 8 6 5,cf,.vec 4 s.vs (s.ss.map zh),.vec 5 s.vc (s.cs.map vev),.hole,.vec 5 s.ve (s.ev.map vev)]=En (aR r,I,[kZ,kV s 8 6 5,kV s 8 6 5,kV s 8 6 5,cf,.vec 4 s.vs (s.ss.map zh),.vec 5 s.vc (s.cs.map vev),.hole,.vec 5 s.ve (s.ev.map vev),kR r.day r.ar r.ae r.units]):=by
 have g1:∀h:qh,jY 4 h (En (.ay 5 s.vs s.ls)) (En (Iv (qe .i64 ((s.ls:Int)-1))))=En ⟨.dH 5 s.vs ((qe .i64 ((s.ls:Int)-1)).toNat*4),I,Ga,h⟩:=fun h=>(zW hx).1
 have g2:gi 10 (En []) Gc 4 [kZ,kV s 8 6 5,kV s 8 6 5,kV s 8 6 5,cf,.vec 4 s.vs (s.ss.map zh),.vec 5 s.vc (s.cs.map vev),.hole,.vec 5 s.ve (s.ev.map vev),kZ] (En (.dH 5 s.vs ((qe .i64 ((s.ls:Int)-1)).toNat*4)))=En ⟨aR r,I,Ga,[kZ,kV s 8 6 5,kV s 8 6 5,kV s 8 6 5,cf,.vec 4 s.vs (s.ss.map zh),.vec 5 s.vc (s.cs.map vev),.hole,.vec 5 s.ve (s.ev.map vev),kZ]⟩:=je4 jm1 rfl rfl (zW (sz:=4) (b:=0) (v:=0) (h:=[]) hx).2
 rw[qm (show pr.bM 55=En tG from rfl) (by simp)]
 simp only[go_sem,seval,tG,g1,g2]<;>rfl
def jx1:Option HV→Option au
 |none=>En eY
 |some s=>qq (s.ss.take s.ls) (qe .i64 ((s.ls:Int)-1))
def f16 (l:Option (List GEv)):Option (au×Int×Int):=qa (f45 l) fun r=>match r with
 | .inl x=>cond (decide (x.2=0)) Ga (En (eY,x.1,x.2))
 | .inr o=>qa (jx1 o) fun r=>En (r,0,0)
theorem Ni {l r}(h:f16 l=En r):qc pr (X pr) 16 [sl 5 vev l]=En (.aC [aR r.1,Iv r.2.1,Iv r.2.2],I):=by
 unfold f16 at h
 obtain⟨x,h1,h⟩:=qb h
 obtain⟨hh,w,wa⟩:=j44 h1
 rcases x with x|o
 ·rcases qd h with⟨h2,h⟩|⟨h2,h⟩
  ·cases h
  ·cases h
   simp only[wk,xm]at w wa
   have this:∃hh,ql pr (X pr) 16 [sl 5 vev l] []=En (.aC [aZ,Iv x.1,Iv x.2],I,hh):=by
    rw[qm (show pr.bM 16=En xn from rfl) (by simp)]
    simp only[go_sem,seval,xn,w,wa,h2]
    exact⟨_,rfl⟩
   obtain⟨hh,this⟩:=this
   exact zx rfl this (by first|rfl|simp only[go_sem,seval]) (by first|rfl|simp only[go_sem,seval])
 ·obtain⟨r,h2,h⟩:=qb h
  cases h
  rcases o with _|v
  ·cases h2
   simp only[wk,xm,zX,Cs]at w wa
   have w2:=jtq
   have wb:zd 6 (aZ) [kZ,cf,cf,cf,cf,.vec 4 0 [aZ],kZ]=[kZ,cf,cf,cf,cf,.vec 4 0 [aZ]]:=by simp only[go_sem,seval]<;>rfl
   have this:∃hh,ql pr (X pr) 16 [sl 5 vev l] []=En (.aC [aZ,Iv 0,Iv 0],I,hh):=by
    rw[qm (show pr.bM 16=En xn from rfl) (by simp)]
    simp only[go_sem,seval,xn,w,wa,w2,wb]
    exact⟨_,rfl⟩
   obtain⟨hh,this⟩:=this
   exact zx rfl this (by first|rfl|simp only[go_sem,seval]) (by first|rfl|simp only[go_sem,seval])
  ·simp only[wk,xm,zX,Cs]at w wa
   have w2:=j1q (s:=v) h2
   have wb:zd 9 (aR r) [kZ,kV v 8 6 5,kV v 8 6 5,kV v 8 6 5,cf,.vec 4 v.vs (v.ss.map zh),.vec 5 v.vc (v.cs.map vev),.hole,.vec 5 v.ve (v.ev.map vev),kR r.day r.ar r.ae r.units]=[kZ,kV v 8 6 5,kV v 8 6 5,kV v 8 6 5,cf,.vec 4 v.vs (v.ss.map zh),.vec 5 v.vc (v.cs.map vev),.hole,.vec 5 v.ve (v.ev.map vev)]:=by simp only[go_sem,seval]<;>rfl
   have this:∃hh,ql pr (X pr) 16 [sl 5 vev l] []=En (.aC [aR r,Iv 0,Iv 0],I,hh):=by
    rw[qm (show pr.bM 16=En xn from rfl) (by simp)]
    simp only[go_sem,seval,xn,w,wa,w2,wb]
    exact⟨_,rfl⟩
   obtain⟨hh,this⟩:=this
   exact zx rfl this (by first|rfl|simp only[go_sem,seval]) (by first|rfl|simp only[go_sem,seval])
end Go.Z
namespace Go.Z
open Go Go.Abs Go.W
def od:Option HV→AVal
 |none=>.agg [Nl,Nl,.ay 4 0 1]
 |some v=>.agg [.ay 7 v.ve v.ev.length,.ay 5 v.vc v.lc,.ay 4 v.vs v.ls]
end Go.Z
namespace Go.Z
open Go Go.Abs Go.W
def iX:Option HV→AVal
 |none=>.agg [Nl,Nl,.ay 3 0 1]
 |some v=>.agg [.ay 6 v.ve v.ev.length,.ay 4 v.vc v.lc,.ay 3 v.vs v.ls]
end Go.Z
namespace Go.Z
open Go Go.Abs Go.W
def f74 (a0:Option (List GEv))(a1:List UInt8):Option (au×Int×Int):=
 qa (f16 a0) fun v1=>
 cond (decide (v1.2.2=0))
  (qa (f76 v1.1 a1) fun v4=>
  qa (f48 (decide (v4<0)) 10) fun v6=>
  En (v1.1,v4,v6))
  (En (⟨0,Ga,Ga,Ga⟩,0,v1.2.2))
theorem W74 {a0 a1 r}(h:f74 a0 a1=En r):qc pr (X pr) 74 [sl 5 vev a0,.str a1]=En (.aC [aR r.1,Iv r.2.1,Iv r.2.2],I):=by
 unfold f74 at h
 refine zi JH ?_
 repeat' first|(replace h:=qb h;obtain⟨d,g,h⟩:=h;with_reducible first|replace g:=Ni g|replace g:=tz g|replace g:=fP g|skip)|(replace h:=qd h;rcases h with⟨g,h⟩|⟨g,h⟩)
 all_goals (cases h<;>(simp only[go_sem,seval,JH, *];exact⟨_,rfl⟩))
def f21 (a0:Option (List GEv))(a1:List UInt8):Option ((Option (List (List UInt8)))×Int):=
 qa (f74 a0 a1) fun v1=>
 cond (decide (v1.2.2=0))
  (qa (qq (v1.1.units.getD []) v1.2.1) fun v4=>
  qa (f67 v4) fun v6=>
  En (v6.1,0))
  (En (Ga,v1.2.2))
theorem W21 {a0 a1 r}(h:f21 a0 a1=En r):qc pr (X pr) 21 [sl 5 vev a0,.str a1]=En (.aC [sl 1 jd r.1,Iv r.2],I):=by
 unfold f21 at h
 refine zi JI ?_
 repeat' first|(replace h:=qb h;obtain⟨d,g,h⟩:=h;with_reducible first|replace g:=W74 g|replace g:=Yk g|skip)|(replace h:=qd h;rcases h with⟨g,h⟩|⟨g,h⟩)
 all_goals (cases h<;>(simp only[go_sem,seval,JI,jh, *];exact⟨_,rfl⟩))
def f24 (a0:Option (List GEv))(a1:List UInt8):Option ((Option (List (List UInt8)))×Int):=
 qa (f74 a0 a1) fun v1=>
 cond (decide (v1.2.2=0))
  (qa (qq (v1.1.units.getD []) v1.2.1) fun v4=>
  qa (f78 v1.1 v4) fun v6=>
  En (v6.1,0))
  (En (Ga,v1.2.2))
def f25 (a0:Option (List GEv))(a1:List UInt8):Option Int:=
 qa (f74 a0 a1) fun v1=>
 cond (decide (v1.2.2=0))
  (qa (qq (v1.1.units.getD []) v1.2.1) fun v4=>
  qa (f79 v1.1 v4) fun v6=>
  En v6)
  (En v1.2.2)
end Go.Z
namespace Go.Z
open Go Go.Abs Go.W
def ED (a0:Option (List (List UInt8)))(a1:List UInt8)(s0:Int):Option (Int⊕(Unit⊕Int)):=
 cond (decide (s0<((a0.getD []).length:Int)))
  (qa (qq (a0.getD []) s0) fun v10=>
  cond (decide (v10=a1))
   (En (.inr (.inl ())))
   (En (.inl (qe .i64 (s0+1)))))
  (En (.inr (.inr s0)))
def Oc (a0:Option (List (List UInt8)))(a1:List UInt8)(s0:Int):bf:=⟨[(0,sl 1 jd a0,I),(1,.str a1,I),(5,Iv s0,I)],[]⟩
def Od (a0:Option (List (List UInt8)))(a1:List UInt8):Unit⊕Int→jg×bf
 | .inl d=>(.ret,⟨[(4,.bool Gc,I)],[]⟩)
 | .inr d=>(.exit 0,⟨[(0,sl 1 jd a0,I),(1,.str a1,I),(5,Iv d,I),(9,.bool I,I)],[]⟩)
theorem j80 (a0:Option (List (List UInt8)))(a1:List UInt8)(s0:Int)(r)(h:ED a0 a1 s0=En r):jz pr Oe (Oc a0 a1) (Od a0 a1) s0 r:=by
 unfold ED at h
 repeat' first|(replace h:=qb h;obtain⟨d,g,h⟩:=h)|(replace h:=qd h;rcases h with⟨g,h⟩|⟨g,h⟩)
 all_goals (cases h<;>((first|refine qz ?_|refine ju ?_);simp only[go_sem,seval,Oe,Oc,jh,Od, *]<;>rfl))
theorem j5j (a0:Option (List (List UInt8)))(a1:List UInt8){s0:Int}{d}(h:bz (ED a0 a1) s0=En d):X pr (.loop Oe) (Oc a0 a1 s0)=En (Od a0 a1 d):=zn (j80 a0 a1) h
def f22 (a0:Option (List (List UInt8)))(a1:List UInt8):Option Bool:=
 qa (bz (ED a0 a1) 0) fun d13=>match d13 with
  | .inl d15=>
   En Gc
  | .inr d16=>
   En I
theorem W22 {a0:Option (List (List UInt8))}{a1:List UInt8}{r}(h:f22 a0 a1=En r):qc pr (X pr) 22 [sl 1 jd a0,.str a1]=En (.bool r,I):=by
 unfold f22 at h
 refine zi Og ?_
 repeat' first|(replace h:=qb h;obtain⟨d,g,h⟩:=h;with_reducible first|(replace g:=j5j a0 a1 g;rcases d with d|d<;>dsimp only[Oc,Od,zm]at g h)|skip)|(replace h:=qd h;rcases h with⟨g,h⟩|⟨g,h⟩)
 all_goals (cases h<;>(simp only[go_sem,seval,Og, *];exact⟨_,rfl⟩))
def f11 (a0:Option (List GEv))(a1:Int):Option Bool:=
 qa (f12 a0 a1) fun v1=>
 cond v1
  (qa (f38 a0) fun v4=>
  En (decide (v4.2.2=0)))
  (En I)
theorem W11 {a0:Option (List GEv)}{a1:Int}{r}(h:f11 a0 a1=En r):qc pr (X pr) 11 [sl 5 vev a0,Iv a1]=En (.bool r,I):=by
 unfold f11 at h
 refine zi JJ ?_
 repeat' first|(replace h:=qb h;obtain⟨d,g,h⟩:=h;with_reducible first|replace g:=W12 g|replace g:=W38 g|skip)|(replace h:=qd h;rcases h with⟨g,h⟩|⟨g,h⟩)
 all_goals (cases h<;>(simp only[go_sem,seval,JJ, *];exact⟨_,rfl⟩))
end Go.Z
namespace Go.Z
open Go Go.Abs Go.W
def f63 (a0:List UInt8)(a1:au):Option Bool:=
 qa (f64 a1 a0) fun v1=>
 En (decide (v1<0))
theorem W63 (hp:qh){a0 a1 r}(h:f63 a0 a1=En r):ql pr (X pr) 63 [.str a0,.ah (aR a1)] hp=En (.bool r,I,hp):=by
 unfold f63 at h
 obtain⟨v1,h2,h⟩:=qb h
 have jD:qc pr (X pr) 64 [aR a1,.str a0]=En (Iv v1,I):=Cj h2
 have hr:decide (v1<0)=r:=En.inj h
 subst hr
 rw[qm (show pr.bM 63=En JK from rfl) (by simp)]
 simp only[go_sem,seval,JK,jD]<;>rfl
def IC (a0:Option (List (List UInt8)))(ai:au)(s0:Int):Option (Int⊕(Int⊕Int)):=
 cond (decide (s0<((a0.getD []).length:Int)))
  (qa (qq (a0.getD []) s0) fun ef=>
  qa (f63 ef ai) fun dD=>
  cond dD
   (En (.inr (.inl s0)))
   (En (.inl (qe .i64 (s0+1)))))
  (En (.inr (.inr s0)))
def Oh (a0:Option (List (List UInt8)))(ai:au)(hp:qh)(s0:Int):bf:=⟨[(0,sl 1 jd a0,I),(1,.fn (.func 63) [] [.ah (aR ai)],I),(7,Lv a0,I),(8,Iv s0,I)],hp⟩
def Oi (a0:Option (List (List UInt8)))(ai:au)(hp:qh):Int⊕Int→jg×bf
 | .inl d=>(.ret,⟨[(4,Iv d,I)],hp⟩)
 | .inr d=>(.exit 0,⟨[(0,sl 1 jd a0,I),(1,.fn (.func 63) [] [.ah (aR ai)],I),(7,Lv a0,I),(8,Iv d,I),(9,.bool I,I)],hp⟩)
theorem jn6 (a0:Option (List (List UInt8)))(ai:au)(hp:qh)(s0:Int)(r)(h:IC a0 ai s0=En r):jz pr pq (Oh a0 ai hp) (Oi a0 ai hp) s0 r:=by
 unfold IC at h
 repeat' first|(replace h:=qb h;obtain⟨d,g,h⟩:=h;with_reducible first|replace g:=W63 hp g|skip)|(replace h:=qd h;rcases h with⟨g,h⟩|⟨g,h⟩)
 all_goals (cases h<;>((first|refine qz ?_|refine ju ?_);simp only[go_sem,seval,pq,Oh,jh,Oi, *]<;>rfl))
theorem jqc (a0:Option (List (List UInt8)))(ai:au)(hp:qh){s0 d}(h:bz (IC a0 ai) s0=En d):X pr (.loop pq) (Oh a0 ai hp s0)=En (Oi a0 ai hp d):=zn (jn6 a0 ai hp) h
def MK (a0:Option (List (List UInt8)))(ai:au):Option Int:=
 qa (bz (IC a0 ai) 0) fun d19=>match d19 with
  | .inl d21=>
   En d21
  | .inr d22=>
   En (-1)
theorem j55 (hp:qh){a0 ai r}(h:MK a0 ai=En r):ql pr (X pr) 120 [sl 1 jd a0,.fn (.func 63) [] [.ah (aR ai)]] hp=En (Iv r,I,hp):=by
 unfold MK at h
 rw[qm (show pr.bM 120=En iV from rfl) (by simp)]
 repeat' first|(replace h:=qb h;obtain⟨d,g,h⟩:=h;with_reducible first|(replace g:=jqc a0 ai hp g;rcases d with d|d<;>dsimp only[Oh,Oi,zm]at g h)|skip)|(replace h:=qd h;rcases h with⟨g,h⟩|⟨g,h⟩)
 all_goals (cases h<;>(simp only[go_sem,seval,iV, *]<;>rfl))
def IB (a0:Option (List (List UInt8)))(ai:au):Option Bool:=
 qa (MK a0 ai) fun v1=>
 En (decide (0≤v1))
theorem zbq {a0 ai r}(h:IB a0 ai=En r):qc pr (X pr) 65 [sl 1 jd a0,.fn (.func 63) [] [.ah (aR ai)]]=En (.bool r,I):=by
 unfold IB at h
 refine zi tJ ?_
 repeat' first|(replace h:=qb h;obtain⟨d,g,h⟩:=h;with_reducible first|replace g:=j55 [] g|skip)|(replace h:=qd h;rcases h with⟨g,h⟩|⟨g,h⟩)
 all_goals (cases h<;>(simp only[go_sem,seval,tJ, *];exact⟨_,rfl⟩))
def f68 (a0:List UInt8)(a1:Option (List (List UInt8))):Option Bool:=
 qa (f69 a1 a0) fun v1=>
 En v1
theorem W68 (hp:qh){a0 a1 r}(h:f68 a0 a1=En r):ql pr (X pr) 68 [.str a0,.ah (sl 1 jd a1)] hp=En (.bool r,I,hp):=by
 unfold f68 at h
 obtain⟨v1,h2,h⟩:=qb h
 have jD:qc pr (X pr) 69 [sl 1 jd a1,.str a0]=En (.bool v1,I):=W69 h2
 have hr:v1=r:=En.inj h
 subst hr
 rw[qm (show pr.bM 68=En JL from rfl) (by simp)]
 simp only[go_sem,seval,JL,jD]<;>rfl
def IH (a0:Option (List (List UInt8)))(ai:Option (List (List UInt8)))(s0:Int):Option (Int⊕(Int⊕Int)):=
 cond (decide (s0<((a0.getD []).length:Int)))
  (qa (qq (a0.getD []) s0) fun ef=>
  qa (f68 ef ai) fun dD=>
  cond dD
   (En (.inr (.inl s0)))
   (En (.inl (qe .i64 (s0+1)))))
  (En (.inr (.inr s0)))
def Oj (a0:Option (List (List UInt8)))(ai:Option (List (List UInt8)))(hp:qh)(s0:Int):bf:=⟨[(0,sl 1 jd a0,I),(1,.fn (.func 68) [] [.ah (sl 1 jd ai)],I),(7,Lv a0,I),(8,Iv s0,I)],hp⟩
def Ok (a0:Option (List (List UInt8)))(ai:Option (List (List UInt8)))(hp:qh):Int⊕Int→jg×bf
 | .inl d=>(.ret,⟨[(4,Iv d,I)],hp⟩)
 | .inr d=>(.exit 0,⟨[(0,sl 1 jd a0,I),(1,.fn (.func 68) [] [.ah (sl 1 jd ai)],I),(7,Lv a0,I),(8,Iv d,I),(9,.bool I,I)],hp⟩)
theorem jo4 (a0:Option (List (List UInt8)))(ai:Option (List (List UInt8)))(hp:qh)(s0:Int)(r)(h:IH a0 ai s0=En r):jz pr pq (Oj a0 ai hp) (Ok a0 ai hp) s0 r:=by
 unfold IH at h
 repeat' first|(replace h:=qb h;obtain⟨d,g,h⟩:=h;with_reducible first|replace g:=W68 hp g|skip)|(replace h:=qd h;rcases h with⟨g,h⟩|⟨g,h⟩)
 all_goals (cases h<;>((first|refine qz ?_|refine ju ?_);simp only[go_sem,seval,pq,Oj,jh,Ok, *]<;>rfl))
theorem jpq (a0:Option (List (List UInt8)))(ai:Option (List (List UInt8)))(hp:qh){s0 d}(h:bz (IH a0 ai) s0=En d):X pr (.loop pq) (Oj a0 ai hp s0)=En (Ok a0 ai hp d):=zn (jo4 a0 ai hp) h
def MN (a0:Option (List (List UInt8)))(ai:Option (List (List UInt8))):Option Int:=
 qa (bz (IH a0 ai) 0) fun d19=>match d19 with
  | .inl d21=>
   En d21
  | .inr d22=>
   En (-1)
theorem j3x (hp:qh){a0 ai r}(h:MN a0 ai=En r):ql pr (X pr) 120 [sl 1 jd a0,.fn (.func 68) [] [.ah (sl 1 jd ai)]] hp=En (Iv r,I,hp):=by
 unfold MN at h
 rw[qm (show pr.bM 120=En iV from rfl) (by simp)]
 repeat' first|(replace h:=qb h;obtain⟨d,g,h⟩:=h;with_reducible first|(replace g:=jpq a0 ai hp g;rcases d with d|d<;>dsimp only[Oj,Ok,zm]at g h)|skip)|(replace h:=qd h;rcases h with⟨g,h⟩|⟨g,h⟩)
 all_goals (cases h<;>(simp only[go_sem,seval,iV, *]<;>rfl))
def IG (a0:Option (List (List UInt8)))(ai:Option (List (List UInt8))):Option Bool:=
 qa (MN a0 ai) fun v1=>
 En (decide (0≤v1))
theorem zei (hp:qh){a0 ai r}(h:IG a0 ai=En r):ql pr (X pr) 65 [sl 1 jd a0,.fn (.func 68) [] [.ah (sl 1 jd ai)]] hp=En (.bool r,I,hp):=by
 unfold IG at h
 obtain⟨v1,h2,h⟩:=qb h
 have jD:ql pr (X pr) 120 [sl 1 jd a0,.fn (.func 68) [] [.ah (sl 1 jd ai)]] hp=En (Iv v1,I,hp):=j3x hp h2
 have hr:decide (0≤v1)=r:=En.inj h
 subst hr
 rw[qm (show pr.bM 65=En tJ from rfl) (by simp)]
 simp only[go_sem,seval,tJ,jD]<;>rfl
def f66 (a0:aY)(a1:Option (List (List UInt8))):Option Bool:=
 cond a0.aj
  (qa (f67 (⟨a0.name,a0.product,a0.version,a0.uses,a0.results,a0.partner,Gc,a0.ak⟩)) fun v2=>
  qa (IG v2.1 a1) fun v4=>
  En v4)
  (En I)
theorem W66 (hp:qh){a0 a1 r}(h:f66 a0 a1=En r):ql pr (X pr) 66 [aU a0,.ah (sl 1 jd a1)] hp=En (.bool r,I,hp):=by
 unfold f66 at h
 rw[qm (show pr.bM 66=En JM from rfl) (by simp)]
 repeat' first|(replace h:=qb h;obtain⟨d,g,h⟩:=h;with_reducible first|replace g:=Yk g|replace g:=zei hp g|skip)|(replace h:=qd h;rcases h with⟨g,h⟩|⟨g,h⟩)
 all_goals (cases h<;>(simp only[go_sem,seval,JM, *]<;>rfl))
def IJ (a0:Option (List aY))(ai:Option (List (List UInt8)))(s0:(Option (List aY))×Int×Bool):Option (((Option (List aY))×Int×Bool)⊕(((Option (List aY))×Bool×Int))):=
 cond (decide (s0.2.1<((a0.getD []).length:Int)))
  (qa (qq (a0.getD []) s0.2.1) fun v20=>
  qa (f66 v20 ai) fun v22=>
  cond v22
   (cond s0.2.2
    (qa (bH s0.1 [v20]) fun v26=>
    En (.inl (v26,qe .i64 (s0.2.1+1),Gc)))
    (cond s0.1.isNone
     (qa (bH s0.1 [v20]) fun fb=>
     En (.inl (fb,qe .i64 (s0.2.1+1),Gc)))
     (Ga)))
   (En (.inl (s0.1,qe .i64 (s0.2.1+1),s0.2.2))))
  (En (.inr (s0.1,s0.2.2,s0.2.1)))
def Ol (a0:Option (List aY))(ai:Option (List (List UInt8)))(s0:(Option (List aY))×Int×Bool):bf:=⟨[(1,.fn (.func 66) [] [.ah (sl 1 jd ai)],I),(5,sl 8 bj s0.1,s0.2.2),(8,sl 8 bj a0,I),(9,Lv a0,I),(10,Iv s0.2.1,I)],[]⟩
def Om (a0:Option (List aY))(ai:Option (List (List UInt8)))(d:((Option (List aY))×Bool×Int)):jg×bf:=(.exit 0,⟨[(1,.fn (.func 66) [] [.ah (sl 1 jd ai)],I),(5,sl 8 bj d.1,d.2.1),(8,sl 8 bj a0,I),(9,Lv a0,I),(10,Iv d.2.2,I),(11,.bool I,I)],[]⟩)
theorem jsw (a0:Option (List aY))(ai:Option (List (List UInt8)))(s0:(Option (List aY))×Int×Bool)(r)(h:IJ a0 ai s0=En r):jz pr Ct (Ol a0 ai) (Om a0 ai) s0 r:=by
 unfold IJ at h
 repeat' first|(replace h:=qb h;obtain⟨d,g,h⟩:=h;with_reducible first|replace g:=W66 [] g|replace g:=L6 g|skip)|(replace h:=qd h;rcases h with⟨g,h⟩|⟨g,h⟩)
 all_goals (cases h<;>((first|refine qz ?_|refine ju ?_);simp only[go_sem,seval,Ct,Ol,jh,Om, *]<;>rfl))
theorem jwt (a0:Option (List aY))(ai:Option (List (List UInt8))){s0 d}(h:bz (IJ a0 ai) s0=En d):X pr (.loop Ct) (Ol a0 ai s0)=En (Om a0 ai d):=zn (jsw a0 ai) h
def II (a0:Option (List aY))(ai:Option (List (List UInt8))):Option ((Option (List aY))×Bool):=
 qa (bz (IJ a0 ai) (Ga,0,I)) fun d31=>
 En (d31.1,d31.2.1)
theorem zie {a0 ai r}(h:II a0 ai=En r):qc pr (X pr) 70 [sl 8 bj a0,.fn (.func 66) [] [.ah (sl 1 jd ai)]]=En (sl 8 bj r.1,r.2):=by
 unfold II at h
 refine y5 Cu ?_
 repeat' first|(replace h:=qb h;obtain⟨d,g,h⟩:=h;with_reducible first|(replace g:=jwt a0 ai g;dsimp only[Ol,Om,zm]at g h)|skip)|(replace h:=qd h;rcases h with⟨g,h⟩|⟨g,h⟩)
 all_goals (cases h<;>(simp only[go_sem,seval,Cu, *];exact⟨_,rfl⟩))
def IP (a0:aY)(e0:List (List UInt8)):Option Bool:=
 cond a0.aj
  (En (lX e0 a0.name))
  (En I)
theorem zjs {a0 e0 r}(h:IP a0 e0=En r):ql pr (X pr) 72 [aU a0,.ah (.map 0)] [.map (y8 e0)]=En (.bool r,I,[.map (y8 e0)]):=by
 unfold IP at h
 rcases qd h with⟨h1,h⟩|⟨h1,h⟩
 ·have hr:lX e0 a0.name=r:=En.inj h
  subst hr
  rw[qm (show pr.bM 72=En Cv from rfl) (by simp)]
  simp only[go_sem,seval,Cv,h1,j47]<;>rfl
 ·have hr:I=r:=En.inj h
  subst hr
  rw[qm (show pr.bM 72=En Cv from rfl) (by simp)]
  simp only[go_sem,seval,Cv,h1]<;>rfl
def IL (a0:Option (List aY))(e0:List (List UInt8))(s0:(Option (List aY))×Int×Bool):Option (((Option (List aY))×Int×Bool)⊕(((Option (List aY))×Bool×Int))):=
 cond (decide (s0.2.1<((a0.getD []).length:Int)))
  (qa (qq (a0.getD []) s0.2.1) fun v20=>
  qa (IP v20 e0) fun v22=>
  cond v22
   (cond s0.2.2
    (qa (bH s0.1 [v20]) fun v26=>
    En (.inl (v26,qe .i64 (s0.2.1+1),Gc)))
    (cond s0.1.isNone
     (qa (bH s0.1 [v20]) fun fb=>
     En (.inl (fb,qe .i64 (s0.2.1+1),Gc)))
     (Ga)))
   (En (.inl (s0.1,qe .i64 (s0.2.1+1),s0.2.2))))
  (En (.inr (s0.1,s0.2.2,s0.2.1)))
def Oo (a0:Option (List aY))(e0:List (List UInt8))(s0:(Option (List aY))×Int×Bool):bf:=⟨[(1,.fn (.func 72) [] [.ah (.map 0)],I),(5,sl 8 bj s0.1,s0.2.2),(8,sl 8 bj a0,I),(9,Lv a0,I),(10,Iv s0.2.1,I)],[.map (y8 e0)]⟩
def Oq (a0:Option (List aY))(e0:List (List UInt8))(d:((Option (List aY))×Bool×Int)):jg×bf:=(.exit 0,⟨[(1,.fn (.func 72) [] [.ah (.map 0)],I),(5,sl 8 bj d.1,d.2.1),(8,sl 8 bj a0,I),(9,Lv a0,I),(10,Iv d.2.2,I),(11,.bool I,I)],[.map (y8 e0)]⟩)
theorem jto (a0:Option (List aY))(e0:List (List UInt8))(s0:(Option (List aY))×Int×Bool)(r)(h:IL a0 e0 s0=En r):jz pr Ct (Oo a0 e0) (Oq a0 e0) s0 r:=by
 unfold IL at h
 repeat' first|(replace h:=qb h;obtain⟨d,g,h⟩:=h;with_reducible first|replace g:=zjs g|replace g:=L6 g|skip)|(replace h:=qd h;rcases h with⟨g,h⟩|⟨g,h⟩)
 all_goals (cases h<;>((first|refine qz ?_|refine ju ?_);simp only[go_sem,seval,Ct,Oo,jh,Oq, *]<;>rfl))
theorem jt1 (a0:Option (List aY))(e0:List (List UInt8)){s0 d}(h:bz (IL a0 e0) s0=En d):X pr (.loop Ct) (Oo a0 e0 s0)=En (Oq a0 e0 d):=zn (jto a0 e0) h
def IK (a0:Option (List aY))(e0:List (List UInt8)):Option ((Option (List aY))×Bool):=
 qa (bz (IL a0 e0) (Ga,0,I)) fun d31=>
 En (d31.1,d31.2.1)
theorem zgc {a0 e0 r}(h:IK a0 e0=En r):ql pr (X pr) 70 [sl 8 bj a0,.fn (.func 72) [] [.ah (.map 0)]] [.map (y8 e0)]=En (sl 8 bj r.1,r.2,[.map (y8 e0)]):=by
 unfold IK at h
 rw[qm (show pr.bM 70=En Cu from rfl) (by simp)]
 repeat' first|(replace h:=qb h;obtain⟨d,g,h⟩:=h;with_reducible first|(replace g:=jt1 a0 e0 g;dsimp only[Oo,Oq,zm]at g h)|skip)|(replace h:=qd h;rcases h with⟨g,h⟩|⟨g,h⟩)
 all_goals (cases h<;>(simp only[go_sem,seval,Cu, *]<;>rfl))
def zO (v1:au×Int×Int)(v12:(Option (List aY))×Bool)(s0:Int×(List (List UInt8))):Option ((Int×(List (List UInt8)))⊕((Int×(List (List UInt8))))):=
 cond (decide (s0.1<((v12.1.getD []).length:Int)))
  (qa (qq (v12.1.getD []) s0.1) fun fb=>
  qa (yS s0.2 fb.name) fun v31=>
  qa (yS v31 fb.partner) fun l6=>
  En (.inl (qe .i64 (s0.1+1),l6)))
  (En (.inr (s0.1,s0.2)))
def Ot (v1:au×Int×Int)(v12:(Option (List aY))×Bool)(s0:Int×(List (List UInt8))):bf:=⟨[(6,.ah (aR v1.1),I),(12,.ah (.map 0),I),(41,sl 8 bj v12.1,v12.2),(42,Lv v12.1,I),(43,Iv s0.1,I)],[.map (y8 s0.2)]⟩
def Yl (v1:au×Int×Int)(v12:(Option (List aY))×Bool)(d:(Int×(List (List UInt8)))):jg×bf:=(.exit 0,⟨[(6,.ah (aR v1.1),I),(12,.ah (.map 0),I),(41,sl 8 bj v12.1,v12.2),(42,Lv v12.1,I),(43,Iv d.1,I),(44,.bool I,I)],[.map (y8 d.2)]⟩)
theorem j0z (v1:au×Int×Int)(v12:(Option (List aY))×Bool)(s0:Int×(List (List UInt8)))(r)(h:zO v1 v12 s0=En r):jz pr E4 (Ot v1 v12) (Yl v1 v12) s0 r:=by
 unfold zO at h
 rcases qd h with⟨B6,h⟩|⟨B6,h⟩
 ·obtain⟨fb,B7,h⟩:=qb h
  obtain⟨v31,XL,h⟩:=qb h
  obtain⟨l6,h34,h⟩:=qb h
  cases h
  exact Be (bT:=⟨[(6,.ah (aR v1.1),I),(12,.ah (.map 0),I),(41,sl 8 bj v12.1,v12.2),(42,Lv v12.1,I),(43,Iv (qe .i64 (s0.1+1)),I)],[.map (y8 l6)]⟩) (by simp only[go_sem,seval,E4,Ot,B6,z7 B7,je3 XL,je3 h34]<;>rfl) (D3 (Nat.le_refl _))
 ·cases h
  exact qz (by simp only[go_sem,seval,E4,Ot,B6,Yl]<;>rfl)
theorem j1m (v1:au×Int×Int)(v12:(Option (List aY))×Bool){s0 d}(h:bz (zO v1 v12) s0=En d):X pr (.loop E4) (Ot v1 v12 s0)=En (Yl v1 v12 d):=zn (j0z v1 v12) h
def f20 (a0:Option (List GEv))(a1:Option (List (List UInt8))):Option ((Option (List (List UInt8)))×Int):=
 qa (f16 a0) fun v1=>
 qa (f48 (decide (256<((a1.getD []).length:Int))) 5) fun v3=>
 qa (IB a1 v1.1) fun v5=>
 qa (f48 v5 10) fun v7=>
 qa (f46 (En [v1.2.2,v3,v7])) fun v9=>
 cond (decide (v9=0))
  (qa (II v1.1.units a1) fun v12=>
  qa (bz (zO v1 v12) (0,[])) fun d35=>
  qa (IK v1.1.units d35.2) fun v37=>
  qa (f71 v37.1) fun qD=>
  En (qD.1,0))
  (En (Ga,v9))
theorem W20 {a0 a1 r}(h:f20 a0 a1=En r):qc pr (X pr) 20 [sl 5 vev a0,sl 1 jd a1]=En (.aC [sl 1 jd r.1,Iv r.2],I):=by
 unfold f20 at h
 obtain⟨v1,h2,h⟩:=qb h
 have jD:qc pr (X pr) 16 [sl 5 vev a0]=En (.aC [aR v1.1,Iv v1.2.1,Iv v1.2.2],I):=Ni h2
 obtain⟨v3,h4,h⟩:=qb h
 have wh:qc pr (X pr) 48 [.bool (decide (256<((a1.getD []).length:Int))),Iv 5]=En (Iv v3,I):=fP h4
 obtain⟨v5,h6,h⟩:=qb h
 have wh6:qc pr (X pr) 65 [sl 1 jd a1,.fn (.func 63) [] [.ah (aR v1.1)]]=En (.bool v5,I):=zbq h6
 obtain⟨v7,h8,h⟩:=qb h
 have E3:qc pr (X pr) 48 [.bool v5,Iv 10]=En (Iv v7,I):=fP h8
 obtain⟨v9,lf,h⟩:=qb h
 have JN:qc pr (X pr) 46 [.list I 1 [Iv v1.2.2,Iv v3,Iv v7]]=En (Iv v9,I):=l7 lf
 rcases qd h with⟨lC,h⟩|⟨lC,h⟩
 ·obtain⟨v12,pW,h⟩:=qb h
  have Ym:qc pr (X pr) 70 [sl 8 bj v1.1.units,.fn (.func 66) [] [.ah (sl 1 jd a1)]]=En (sl 8 bj v12.1,v12.2):=zie pW
  obtain⟨d35,JD,h⟩:=qb h
  have Yn:X pr (.loop E4) ⟨[(6,.ah (aR v1.1),I),(12,.ah (.map 0),I),(41,sl 8 bj v12.1,v12.2),(42,Lv v12.1,I),(43,Iv 0,I)],[.map (y8 [])]⟩=En (.exit 0,⟨[(6,.ah (aR v1.1),I),(12,.ah (.map 0),I),(41,sl 8 bj v12.1,v12.2),(42,Lv v12.1,I),(43,Iv d35.1,I),(44,.bool I,I)],[.map (y8 d35.2)]⟩):=j1m v1 v12 JD
  obtain⟨v37,JE,h⟩:=qb h
  have Yo:ql pr (X pr) 70 [sl 8 bj v1.1.units,.fn (.func 72) [] [.ah (.map 0)]] [.map (y8 d35.2)]=En (sl 8 bj v37.1,v37.2,[.map (y8 d35.2)]):=zgc JE
  obtain⟨qD,Yp,h⟩:=qb h
  have Yq:qc pr (X pr) 71 [sl 8 bj v37.1,.fn (.func 73) [] []]=En (sl 1 jd qD.1,qD.2):=W71 Yp
  have hr:(qD.1,0)=r:=En.inj h
  subst hr
  have this:∃hh,ql pr (X pr) 20 [sl 5 vev a0,sl 1 jd a1] []=En (.aC [sl 1 jd qD.1,Iv 0],I,hh):=by
   rw[qm (show pr.bM 20=En Cw from rfl) (by simp)]
   simp only[go_sem,seval,Cw,jD,wh,wh6,E3,JN,lC,jvc,Ym,Yn,Yo,Yq]
   exact⟨_,rfl⟩
  obtain⟨hh,this⟩:=this
  exact zx rfl this (by first|rfl|simp only[go_sem,seval]) (by first|rfl|simp only[go_sem,seval])
 ·have hr:(Ga,v9)=r:=En.inj h
  subst hr
  have this:∃hh,ql pr (X pr) 20 [sl 5 vev a0,sl 1 jd a1] []=En (.aC [Nl,Iv v9],I,hh):=by
   rw[qm (show pr.bM 20=En Cw from rfl) (by simp)]
   simp only[go_sem,seval,Cw,jD,wh,wh6,E3,JN,lC]
   exact⟨_,rfl⟩
  obtain⟨hh,this⟩:=this
  exact zx rfl this (by first|rfl|simp only[go_sem,seval]) (by first|rfl|simp only[go_sem,seval])
def f75 (a0:List UInt8)(a1:au):Option Bool:=
 qa (f76 a1 a0) fun v1=>
 En (decide (v1<0))
theorem W75 (hp:qh){a0 a1 r}(h:f75 a0 a1=En r):ql pr (X pr) 75 [.str a0,.ah (aR a1)] hp=En (.bool r,I,hp):=by
 unfold f75 at h
 obtain⟨v1,h2,h⟩:=qb h
 have jD:qc pr (X pr) 76 [aR a1,.str a0]=En (Iv v1,I):=tz h2
 have hr:decide (v1<0)=r:=En.inj h
 subst hr
 rw[qm (show pr.bM 75=En JO from rfl) (by simp)]
 simp only[go_sem,seval,JO,jD]<;>rfl
def IF (a0:Option (List (List UInt8)))(ai:au)(s0:Int):Option (Int⊕(Int⊕Int)):=
 cond (decide (s0<((a0.getD []).length:Int)))
  (qa (qq (a0.getD []) s0) fun ef=>
  qa (f75 ef ai) fun dD=>
  cond dD
   (En (.inr (.inl s0)))
   (En (.inl (qe .i64 (s0+1)))))
  (En (.inr (.inr s0)))
def Ou (a0:Option (List (List UInt8)))(ai:au)(hp:qh)(s0:Int):bf:=⟨[(0,sl 1 jd a0,I),(1,.fn (.func 75) [] [.ah (aR ai)],I),(7,Lv a0,I),(8,Iv s0,I)],hp⟩
def Ov (a0:Option (List (List UInt8)))(ai:au)(hp:qh):Int⊕Int→jg×bf
 | .inl d=>(.ret,⟨[(4,Iv d,I)],hp⟩)
 | .inr d=>(.exit 0,⟨[(0,sl 1 jd a0,I),(1,.fn (.func 75) [] [.ah (aR ai)],I),(7,Lv a0,I),(8,Iv d,I),(9,.bool I,I)],hp⟩)
theorem jo8 (a0:Option (List (List UInt8)))(ai:au)(hp:qh)(s0:Int)(r)(h:IF a0 ai s0=En r):jz pr pq (Ou a0 ai hp) (Ov a0 ai hp) s0 r:=by
 unfold IF at h
 repeat' first|(replace h:=qb h;obtain⟨d,g,h⟩:=h;with_reducible first|replace g:=W75 hp g|skip)|(replace h:=qd h;rcases h with⟨g,h⟩|⟨g,h⟩)
 all_goals (cases h<;>((first|refine qz ?_|refine ju ?_);simp only[go_sem,seval,pq,Ou,jh,Ov, *]<;>rfl))
theorem jpp (a0:Option (List (List UInt8)))(ai:au)(hp:qh){s0 d}(h:bz (IF a0 ai) s0=En d):X pr (.loop pq) (Ou a0 ai hp s0)=En (Ov a0 ai hp d):=zn (jo8 a0 ai hp) h
def ML (a0:Option (List (List UInt8)))(ai:au):Option Int:=
 qa (bz (IF a0 ai) 0) fun d19=>match d19 with
  | .inl d21=>
   En d21
  | .inr d22=>
   En (-1)
theorem j1j (hp:qh){a0 ai r}(h:ML a0 ai=En r):ql pr (X pr) 120 [sl 1 jd a0,.fn (.func 75) [] [.ah (aR ai)]] hp=En (Iv r,I,hp):=by
 unfold ML at h
 rw[qm (show pr.bM 120=En iV from rfl) (by simp)]
 repeat' first|(replace h:=qb h;obtain⟨d,g,h⟩:=h;with_reducible first|(replace g:=jpp a0 ai hp g;rcases d with d|d<;>dsimp only[Ou,Ov,zm]at g h)|skip)|(replace h:=qd h;rcases h with⟨g,h⟩|⟨g,h⟩)
 all_goals (cases h<;>(simp only[go_sem,seval,iV, *]<;>rfl))
def IE (a0:Option (List (List UInt8)))(ai:au):Option Bool:=
 qa (ML a0 ai) fun v1=>
 En (decide (0≤v1))
theorem zbm {a0 ai r}(h:IE a0 ai=En r):qc pr (X pr) 65 [sl 1 jd a0,.fn (.func 75) [] [.ah (aR ai)]]=En (.bool r,I):=by
 unfold IE at h
 refine zi tJ ?_
 repeat' first|(replace h:=qb h;obtain⟨d,g,h⟩:=h;with_reducible first|replace g:=j1j [] g|skip)|(replace h:=qd h;rcases h with⟨g,h⟩|⟨g,h⟩)
 all_goals (cases h<;>(simp only[go_sem,seval,tJ, *];exact⟨_,rfl⟩))
def f77 (a0:List UInt8)(a1:au)(a2:ja):Option Bool:=
 qa (f76 a1 a0) fun v1=>
 qa (qq (a1.units.getD []) v1) fun v3=>
 qa (f67 v3) fun v5=>
 qa (f69 v5.1 a2.name) fun v7=>
 En (!v7)
theorem W77 (hp:qh){a0 a1 a2 r}(h:f77 a0 a1 a2=En r):ql pr (X pr) 77 [.str a0,.ah (aR a1),.ah (aL a2)] hp=En (.bool r,I,hp):=by
 unfold f77 at h
 rw[qm (show pr.bM 77=En JP from rfl) (by simp)]
 repeat' first|(replace h:=qb h;obtain⟨d,g,h⟩:=h;with_reducible first|replace g:=tz g|replace g:=Yk g|replace g:=W69 g|skip)|(replace h:=qd h;rcases h with⟨g,h⟩|⟨g,h⟩)
 all_goals (cases h<;>(simp only[go_sem,seval,JP,jh, *]<;>rfl))
def IV (a0:Option (List (List UInt8)))(ai:au)(bq:ja)(s0:Int):Option (Int⊕(Int⊕Int)):=
 cond (decide (s0<((a0.getD []).length:Int)))
  (qa (qq (a0.getD []) s0) fun ef=>
  qa (f77 ef ai bq) fun dD=>
  cond dD
   (En (.inr (.inl s0)))
   (En (.inl (qe .i64 (s0+1)))))
  (En (.inr (.inr s0)))
def Ow (a0:Option (List (List UInt8)))(ai:au)(bq:ja)(hp:qh)(s0:Int):bf:=⟨[(0,sl 1 jd a0,I),(1,.fn (.func 77) [] [.ah (aR ai),.ah (aL bq)],I),(7,Lv a0,I),(8,Iv s0,I)],hp⟩
def Ox (a0:Option (List (List UInt8)))(ai:au)(bq:ja)(hp:qh):Int⊕Int→jg×bf
 | .inl d=>(.ret,⟨[(4,Iv d,I)],hp⟩)
 | .inr d=>(.exit 0,⟨[(0,sl 1 jd a0,I),(1,.fn (.func 77) [] [.ah (aR ai),.ah (aL bq)],I),(7,Lv a0,I),(8,Iv d,I),(9,.bool I,I)],hp⟩)
theorem jp9 (a0:Option (List (List UInt8)))(ai:au)(bq:ja)(hp:qh)(s0:Int)(r)(h:IV a0 ai bq s0=En r):jz pr pq (Ow a0 ai bq hp) (Ox a0 ai bq hp) s0 r:=by
 unfold IV at h
 repeat' first|(replace h:=qb h;obtain⟨d,g,h⟩:=h;with_reducible first|replace g:=W77 hp g|skip)|(replace h:=qd h;rcases h with⟨g,h⟩|⟨g,h⟩)
 all_goals (cases h<;>((first|refine qz ?_|refine ju ?_);simp only[go_sem,seval,pq,Ow,jh,Ox, *]<;>rfl))
theorem joo (a0:Option (List (List UInt8)))(ai:au)(bq:ja)(hp:qh){s0 d}(h:bz (IV a0 ai bq) s0=En d):X pr (.loop pq) (Ow a0 ai bq hp s0)=En (Ox a0 ai bq hp d):=zn (jp9 a0 ai bq hp) h
def MQ (a0:Option (List (List UInt8)))(ai:au)(bq:ja):Option Int:=
 qa (bz (IV a0 ai bq) 0) fun d19=>match d19 with
  | .inl d21=>
   En d21
  | .inr d22=>
   En (-1)
theorem j2c (hp:qh){a0 ai bq r}(h:MQ a0 ai bq=En r):ql pr (X pr) 120 [sl 1 jd a0,.fn (.func 77) [] [.ah (aR ai),.ah (aL bq)]] hp=En (Iv r,I,hp):=by
 unfold MQ at h
 rw[qm (show pr.bM 120=En iV from rfl) (by simp)]
 repeat' first|(replace h:=qb h;obtain⟨d,g,h⟩:=h;with_reducible first|(replace g:=joo a0 ai bq hp g;rcases d with d|d<;>dsimp only[Ow,Ox,zm]at g h)|skip)|(replace h:=qd h;rcases h with⟨g,h⟩|⟨g,h⟩)
 all_goals (cases h<;>(simp only[go_sem,seval,iV, *]<;>rfl))
def IU (a0:Option (List (List UInt8)))(ai:au)(bq:ja):Option Bool:=
 qa (MQ a0 ai bq) fun v1=>
 En (decide (0≤v1))
theorem zh7 {a0 ai bq r}(h:IU a0 ai bq=En r):qc pr (X pr) 65 [sl 1 jd a0,.fn (.func 77) [] [.ah (aR ai),.ah (aL bq)]]=En (.bool r,I):=by
 unfold IU at h
 refine zi tJ ?_
 repeat' first|(replace h:=qb h;obtain⟨d,g,h⟩:=h;with_reducible first|replace g:=j2c [] g|skip)|(replace h:=qd h;rcases h with⟨g,h⟩|⟨g,h⟩)
 all_goals (cases h<;>(simp only[go_sem,seval,tJ, *];exact⟨_,rfl⟩))
def BO (a1:Option (List (List UInt8)))(v1:au×Int×Int)(s0:(Option (List (List UInt8)))×Int×Bool):Option (((Option (List (List UInt8)))×Int×Bool)⊕(((Option (List (List UInt8)))×Bool×Int))):=
 cond (decide (s0.2.1<((v1.1.ar.getD []).length:Int)))
  (qa (qq (v1.1.ar.getD []) s0.2.1) fun l6=>
  qa (IU a1 v1.1 l6) fun tm=>
  cond tm
   (En (.inl (s0.1,qe .i64 (s0.2.1+1),s0.2.2)))
   (cond s0.2.2
    (qa (bH s0.1 [l6.name]) fun qD=>
    En (.inl (qD,qe .i64 (s0.2.1+1),Gc)))
    (cond s0.1.isNone
     (qa (bH s0.1 [l6.name]) fun Jy=>
     En (.inl (Jy,qe .i64 (s0.2.1+1),Gc)))
     (Ga))))
  (En (.inr (s0.1,s0.2.2,s0.2.1)))
def Oy (a1:Option (List (List UInt8)))(v1:au×Int×Int)(s0:(Option (List (List UInt8)))×Int×Bool):bf:=⟨[(1,sl 1 jd a1,I),(6,.ah (aR v1.1),I),(11,sl 1 jd s0.1,s0.2.2),(41,sl 5 jb v1.1.ar,I),(42,Lv v1.1.ar,I),(43,Iv s0.2.1,I)],[]⟩
def Oz (a1:Option (List (List UInt8)))(v1:au×Int×Int)(d:((Option (List (List UInt8)))×Bool×Int)):jg×bf:=(.exit 0,⟨[(1,sl 1 jd a1,I),(6,.ah (aR v1.1),I),(11,sl 1 jd d.1,d.2.1),(41,sl 5 jb v1.1.ar,I),(42,Lv v1.1.ar,I),(43,Iv d.2.2,I),(44,.bool I,I)],[]⟩)
theorem j5z (a1:Option (List (List UInt8)))(v1:au×Int×Int)(s0:(Option (List (List UInt8)))×Int×Bool)(r)(h:BO a1 v1 s0=En r):jz pr OA (Oy a1 v1) (Oz a1 v1) s0 r:=by
 unfold BO at h
 repeat' first|(replace h:=qb h;obtain⟨d,g,h⟩:=h;with_reducible first|replace g:=zh7 g|replace g:=He g|skip)|(replace h:=qd h;rcases h with⟨g,h⟩|⟨g,h⟩)
 all_goals (cases h<;>((first|refine qz ?_|refine ju ?_);simp only[go_sem,seval,OA,Oy,jh,Oz, *]<;>rfl))
theorem j49 (a1:Option (List (List UInt8)))(v1:au×Int×Int){s0 d}(h:bz (BO a1 v1) s0=En d):X pr (.loop OA) (Oy a1 v1 s0)=En (Oz a1 v1 d):=zn (j5z a1 v1) h
def f23 (a0:Option (List GEv))(a1:Option (List (List UInt8))):Option ((Option (List (List UInt8)))×Int):=
 qa (f16 a0) fun v1=>
 qa (f48 (decide (256<((a1.getD []).length:Int))) 5) fun v3=>
 qa (IE a1 v1.1) fun v5=>
 qa (f48 v5 10) fun v7=>
 qa (f48 (decide (((a1.getD []).length:Int)=0)) 12) fun v9=>
 qa (f46 (En [v1.2.2,v3,v7,v9])) fun v11=>
 cond (decide (v11=0))
  (qa (bz (BO a1 v1) (Ga,0,I)) fun d44=>
  En (d44.1,0))
  (En (Ga,v11))
theorem W23 {a0 a1 r}(h:f23 a0 a1=En r):qc pr (X pr) 23 [sl 5 vev a0,sl 1 jd a1]=En (.aC [sl 1 jd r.1,Iv r.2],I):=by
 unfold f23 at h
 refine zi JQ ?_
 repeat' first|(replace h:=qb h;obtain⟨d,g,h⟩:=h; (with_reducible first|replace g:=Ni g|replace g:=fP g|replace g:=zbm g|replace g:=l7 g|(replace g:=j49 a1 _ g;dsimp only[Oy,Oz,zm,jB,List.map,zw,jd,jb,qu,bj,zh,vev,bm,q9,yd]at g h)|skip);try dsimp only[zm,jB,List.map,zw,jd,jb,qu,bj,zh,vev,bm,q9,yd,aE,aR,aU,aL,aP,aD]at g)|(replace h:=qd h;rcases h with⟨g,h⟩|⟨g,h⟩)
 all_goals (cases h<;>(simp only[go_sem,seval,JQ, *];exact⟨_,rfl⟩))
end Go.Z
end
