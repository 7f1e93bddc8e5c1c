/- Chapter 10. -/
import Derived.Test.YtfopaakmgogpiaaGreatDoorV8
import Derived.Test.YtfopaakmgogpiaaGreatDoorW14
import Derived.Test.YtfopaakmgogpiaaGreatDoorW1
set_option linter.unusedVariables false
set_option linter.unusedSimpArgs false
set_option maxRecDepth 100000
set_option maxHeartbeats 4000000
noncomputable section
open Option renaming some→I,none→En
open Bool renaming false→Ef,true→E0
namespace Go.Z
open Go Go.Abs Go.W
@[go_sem] theorem j79 {b v l:Nat}:(qa.ak b v l).flat=[.ak b v l]:=rfl
@[go_sem] theorem ziv {b v l:Nat}:ze (.ak b v l)=E0:=rfl
@[go_sem] theorem j8j {b v l:Nat}:qa.cu (.ak b v l)=Ef:=rfl
theorem Wq:∀ x:ql,(vev x).flat.length=5:=fun _=>rfl
theorem NT:∀ x:qc,(ya x).flat.length=4:=fun _=>rfl
section
variable {h:j8}{α:Type}
theorem kX {sz b v len:Nat}{l:List α}{i:Int}{x:α}(hx:zo (l.take len) i=I x):gE sz h (I (.ak b v len)) (I (Iv i))=I ⟨.cJ b v (i.toNat*sz),Ef,En,h⟩∧l[i.toNat]?=I x:=by
 unfold zo at hx
 split at hx
 ·rename_i hi
  have h2:=(List.getElem?_eq_some_iff.1 hx).1
  rw[List.length_take]at h2
  have h3:i.toNat<len:=by omega
  refine⟨?_,?_⟩
  ·have:=jch (sz:=sz) (h:=h) (b:=b) (v:=v) (k:=.i64) h3
   rw[Int.toNat_of_nonneg hi]at this
   exact this
  ·rw[List.getElem?_take,if_pos h3]at hx
   exact hx
 ·cases hx
theorem El {sz b v len:Nat}{i:Int}(hi:0≤i)(hl:i≤(len:Int)):mQ sz h (I (.ak b v len)) En (I (I (Iv i)))=I ⟨.ak b v i.toNat,Ef,En,h⟩:=by
 have:qV len len (I (I (Iv i)))=I i.toNat:=by
  simp only[qV,yX]
  cases i with
  |ofNat n=>
   have h1:((n:Nat):Int)≤(len:Int):=hl
   have h2:n≤len:=by omega
   simp only[Nat.ble_eq_true_of_le h2,cT]
   rfl
  |negSucc n=>omega
 simp only[mQ,this]
 rfl
def qS (xs:List α)(len:Nat)(x:α):Option (List α):=if len≤xs.length∧len+1≤1073741824 then I (xs.take len++[x])else En
theorem np {h0 b v len r sz bytes:Nat}{c:Bool}{f:α→qa}{l l':List α}{x:α}(hp:qS l len x=I l')(hb:h[b]?=I (.vec sz v (l.map f)))(hx:zu 0 [f x]=E0)(hz:0<sz)(TF:bytes≤4096)(hr:r<1000):
  gi h0 r sz bytes h (I (.ak b v len)) (I (.list c sz [f x]))=I ⟨.ak b (v+1) (len+1),Ef,En,h.set b (.vec sz (v+1) (l'.map f))⟩:=by
 unfold qS at hp
 split at hp
 ·rename_i hl
  cases hp
  have:=jb3 (h:=h) (h0:=h0) (c:=c) (ys:=[f x]) hb (by rw[List.length_map];exact hl.1) (by simpa using hl.2) TF hz hx hr
  rw[this]
  simp[List.map_take]
 ·cases hp
end
structure HV where
 ev:List ql
 ve:Nat
 cs:List ql
 lc:Nat
 vc:Nat
 ss:List qc
 ls:Nat
 vs:Nat
abbrev kV (v:HV)(a b c:Nat):qn:=.cells [(.ak a v.ve v.ev.length,Ef),(.ak b v.vc v.lc,Ef),(.ak c v.vs v.ls,Ef)]
theorem q6r {n:Nat}{st:qg}(h:kh n (st.heap.take n)=Ef):gc n st=st:=by
 unfold gc
 rw[h,Bool.and_false,cond_false]
 cases Nat.ble st.heap.length n<;>rfl
theorem Em {α:Type}{l l':List α}{x:α}(h:qS l l.length x=I l'):l'.length=l.length+1:=by
 unfold qS at h
 split at h
 ·cases h;simp
 ·cases h
def vQ (s:HV)(e:ql):Option (Int×HV):=
 cond (decide (e.number=j6 .i64 ((s.ev.length:Int)+1)))
  (cond (decide (e.kind=([117,110,100,111]:List UInt8)))
   (jw (f53 (decide ((s.lc:Int)=0)) 12) fun e1=>
   cond (decide (0<(s.lc:Int)))
    (jw (zo (s.cs.take s.lc) (max 0 (j6 .i64 ((s.lc:Int)-1)))) fun x=>
    jw (f53 (decide (x.kind=([115,104,105,112]:List UInt8))) 19) fun e2=>
    jw (f51 (I [e1,e2])) fun e3=>
    cond (decide (e3=0))
     (cond (decide (0≤j6 .i64 ((s.lc:Int)-1)∧j6 .i64 ((s.lc:Int)-1)≤(s.lc:Int)∧s.lc≤s.ls))
      (jw (qS s.ev s.ev.length e) fun ev=>I (0,{ s with ev:=ev,ve:=s.ve+1,lc:=(j6 .i64 ((s.lc:Int)-1)).toNat,ls:=s.lc }))
      En)
     (I (e3,s)))
    (jw (f53 Ef 19) fun e2=>jw (f51 (I [e1,e2])) fun e3=>cond (decide (e3=0)) En (I (e3,s))))
   (jw (zo (s.ss.take s.ls) (j6 .i64 ((s.ls:Int)-1))) fun r=>
   jw (f121 r e) fun v=>
   cond (decide (v.2=0))
    (jw (qS s.cs s.lc e) fun cs=>jw (qS s.ss s.ls v.1) fun ss=>jw (qS s.ev s.ev.length e) fun ev=>
    I (0,{ ev:=ev,ve:=s.ve+1,cs:=cs,lc:=s.lc+1,vc:=s.vc+1,ss:=ss,ls:=s.ls+1,vs:=s.vs+1 }))
    (I (v.2,s))))
  (I (11,s))
theorem Eo:decide (((([]:List qa).length:Nat):Int)=0)=E0:=rfl
theorem Wr:decide ((0:Int)<((([]:List qa).length:Nat):Int))=Ef:=rfl
theorem Ws:decide ((0:Int)<((0:Nat):Int))=Ef:=rfl
def dq:qc:=⟨0,En,En,En⟩
def vP (e:ql):Option (Int×Option HV):=
 cond (decide (e.number=j6 .i64 1))
  (cond (decide (e.kind=([117,110,100,111]:List UInt8)))
   (jw (f53 E0 12) fun e1=>jw (f53 Ef 19) fun e2=>jw (f51 (I [e1,e2])) fun e3=>cond (decide (e3=0)) En (I (e3,En)))
   (jw (f121 dq e) fun v=>
   cond (decide (v.2=0))
    (I (0,I { ev:=[e],ve:=0,cs:=[e],lc:=1,vc:=0,ss:=[dq,v.1],ls:=2,vs:=1 }))
    (I (v.2,En))))
  (I (11,En))
def Ho (s:Option HV)(e:ql):Option (Int×Option HV):=match s with
 |none=>vP e
 |some s=>jw (vQ s e) fun q=>I (q.1,I q.2)
def vR (l:Option (List ql))(x:Int×Option HV):Option ((Int×Option HV)⊕((Int×Int×Option HV)⊕(Int×Option HV))):=
 cond (decide (x.1<((l.getD []).length:Int)))
  (jw (zo (l.getD []) x.1) fun e=>
  jw (f11 e) fun c=>
  cond (decide (c=0))
   (jw (f66 e) fun e2=>
   jw (Ho x.2 e2) fun q=>
   cond (decide (q.1=0))
    (I (.inl (j6 .i64 (x.1+1),q.2)))
    (I (.inr (.inl (j6 .i64 (x.1+1),q.1,q.2)))))
   (I (.inr (.inl (j6 .i64 (x.1+1),c,x.2)))))
  (I (.inr (.inr x)))
def f47 (l:Option (List ql)):Option ((Int×Int)⊕Option HV):=
 cond (decide (1000<((l.getD []).length:Int)))
  (I (.inl (0,5)))
  (jw (bf (vR l) (0,En)) fun d=>match d with
  | .inl d=>I (.inl (d.1,d.2.1))
  | .inr d=>I (.inr d.2))
theorem jxa {s:HV}{r:qc}(hx:zo (s.ss.take s.ls) (j6 .i64 ((s.ls:Int)-1))=I r):zf pr (X pr) 48 [.ptr 3 0] [kZ,.hole,kO,kV s 8 6 5,bR,.vec 4 s.vs (s.ss.map ya),.vec 5 s.vc (s.cs.map vev),.hole,.vec 5 s.ve (s.ev.map vev)]=I (aR r,Ef,[kZ,.hole,kO,kV s 8 6 5,bR,.vec 4 s.vs (s.ss.map ya),.vec 5 s.vc (s.cs.map vev),.hole,.vec 5 s.ve (s.ev.map vev),kR r.day r.au r.ae r.units]):=by
 have g1:∀h:j8,gE 4 h (I (.ak 5 s.vs s.ls)) (I (Iv (j6 .i64 ((s.ls:Int)-1))))=I ⟨.cJ 5 s.vs ((j6 .i64 ((s.ls:Int)-1)).toNat*4),Ef,En,h⟩:=fun h=>(kX hx).1
 have g2:eH 10 (I []) E0 4 [kZ,.hole,kO,kV s 8 6 5,bR,.vec 4 s.vs (s.ss.map ya),.vec 5 s.vc (s.cs.map vev),.hole,.vec 5 s.ve (s.ev.map vev),kZ] (I (.cJ 5 s.vs ((j6 .i64 ((s.ls:Int)-1)).toNat*4)))=I ⟨aR r,Ef,En,[kZ,.hole,kO,kV s 8 6 5,bR,.vec 4 s.vs (s.ss.map ya),.vec 5 s.vc (s.cs.map vev),.hole,.vec 5 s.ve (s.ev.map vev),kZ]⟩:=Nc NT rfl rfl (kX (sz:=4) (b:=0) (v:=0) (h:=[]) hx).2
 rw[zd (show pr.bj 48=I kI from rfl) (by simp)]
 simp only[go_sem,seval,kI,g1,g2]<;>rfl
theorem jxo {s:HV}{e:ql}{q}(h:vQ s e=I q):∃hh,zf pr (X pr) 65 [.ptr 3 0,aE e] [kZ,.hole,kO,kV s 8 6 5,bR,.vec 4 s.vs (s.ss.map ya),.vec 5 s.vc (s.cs.map vev),.hole,.vec 5 s.ve (s.ev.map vev)]=I (Iv q.1,Ef,hh)∧yi 9 (Iv q.1) hh=[kZ,.hole,kO,.cells [(.ak 8 q.2.ve q.2.ev.length,Ef),(.ak 6 q.2.vc q.2.lc,Ef),(.ak 5 q.2.vs q.2.ls,Ef)],bR,.vec 4 q.2.vs (q.2.ss.map ya),.vec 5 q.2.vc (q.2.cs.map vev),.hole,.vec 5 q.2.ve (q.2.ev.map vev)]:=by
 unfold vQ at h
 rcases jz h with⟨h1,h⟩|⟨h1,h⟩
 ·rcases jz h with⟨h2,h⟩|⟨h2,h⟩
  ·obtain⟨e1,k1,h⟩:=jx h
   have w1:=ei k1
   rcases jz h with⟨h3,h⟩|⟨h3,h⟩
   ·obtain⟨x,k2,h⟩:=jx h
    obtain⟨e2,k3,h⟩:=jx h
    obtain⟨e3,k4,h⟩:=jx h
    have w2:=ei k3
    have w3:jy pr (X pr) 51 [.list Ef 1 [Iv e1,Iv e2]]=I (Iv e3,Ef):=iw k4
    have g1:∀h:j8,gE 5 h (I (.ak 6 s.vc s.lc)) (I (Iv (max 0 (j6 .i64 ((s.lc:Int)-1)))))=I ⟨.cJ 6 s.vc ((max 0 (j6 .i64 ((s.lc:Int)-1))).toNat*5),Ef,En,h⟩:=fun h=>(kX k2).1
    have g2:eH 9 En Ef 1 [kZ,.hole,kO,kV s 8 6 5,bR,.vec 4 s.vs (s.ss.map ya),.vec 5 s.vc (s.cs.map vev),.hole,.vec 5 s.ve (s.ev.map vev)] (I (.cJ 6 s.vc ((max 0 (j6 .i64 ((s.lc:Int)-1))).toNat*5+1)))=I ⟨.str x.kind,Ef,En,[kZ,.hole,kO,kV s 8 6 5,bR,.vec 4 s.vs (s.ss.map ya),.vec 5 s.vc (s.cs.map vev),.hole,.vec 5 s.ve (s.ev.map vev)]⟩:=UM (f:=vev) (o:=1) Wq rfl rfl (kX (sz:=4) (b:=0) (v:=0) (h:=[]) k2).2 rfl
    rcases jz h with⟨h4,h⟩|⟨h4,h⟩
    ·rcases jz h with⟨h5,h⟩|⟨_,h⟩
     ·obtain⟨ev,eg,h⟩:=jx h
      cases h
      have c5:=of_decide_eq_true h5
      have hln:ev.length=s.ev.length+1:=Em eg
      have g3:∀h:j8,mQ 5 h (I (.ak 6 s.vc s.lc)) En (I (I (Iv (j6 .i64 ((s.lc:Int)-1)))))=I ⟨.ak 6 s.vc (j6 .i64 ((s.lc:Int)-1)).toNat,Ef,En,h⟩:=fun h=>El c5.1 c5.2.1
      have g4:∀h:j8,mQ 4 h (I (.ak 5 s.vs s.ls)) En (I (I (Iv (s.lc:Int))))=I ⟨.ak 5 s.vs s.lc,Ef,En,h⟩:=fun h=>El (by omega) (by have:=c5.2.2;omega)
      have g5:gi 9 0 5 88 [kZ,.hole,kO,.cells [(.ak 8 s.ve s.ev.length,Ef),(.ak 6 s.vc (j6 .i64 ((s.lc:Int)-1)).toNat,Ef),(.ak 5 s.vs s.lc,Ef)],bR,.vec 4 s.vs (s.ss.map ya),.vec 5 s.vc (s.cs.map vev),.hole,.vec 5 s.ve (s.ev.map vev),.hole] (I (.ak 8 s.ve s.ev.length)) (I (.list Ef 5 [aE e]))=I ⟨.ak 8 (s.ve+1) (s.ev.length+1),Ef,En,[kZ,.hole,kO,.cells [(.ak 8 s.ve s.ev.length,Ef),(.ak 6 s.vc (j6 .i64 ((s.lc:Int)-1)).toNat,Ef),(.ak 5 s.vs s.lc,Ef)],bR,.vec 4 s.vs (s.ss.map ya),.vec 5 s.vc (s.cs.map vev),.hole,.vec 5 (s.ve+1) (ev.map vev),.hole]⟩:=np (f:=vev) (x:=e) eg rfl (by simp only[go_sem,seval]) (by decide) (by decide) (by decide)
      refine⟨[kZ,.hole,kO,.cells [(.ak 8 (s.ve+1) (s.ev.length+1),Ef),(.ak 6 s.vc (j6 .i64 ((s.lc:Int)-1)).toNat,Ef),(.ak 5 s.vs s.lc,Ef)],bR,.vec 4 s.vs (s.ss.map ya),.vec 5 s.vc (s.cs.map vev),.hole,.vec 5 (s.ve+1) (ev.map vev),.hole],?_,?_⟩
      ·rw[zd (show pr.bj 65=I cQ from rfl) (by simp)]
       simp only[go_sem,seval,cQ,h1,h2,w1,h3,g1,g2,w2,w3,h4,g3,g4,g5]<;>rfl
      ·simp only[hln]
       simp only[go_sem,seval]<;>rfl
     ·cases h
    ·cases h
     refine⟨[kZ,.hole,kO,kV s 8 6 5,bR,.vec 4 s.vs (s.ss.map ya),.vec 5 s.vc (s.cs.map vev),.hole,.vec 5 s.ve (s.ev.map vev)],?_,kW rfl⟩
     rw[zd (show pr.bj 65=I cQ from rfl) (by simp)]
     simp only[go_sem,seval,cQ,h1,h2,w1,h3,g1,g2,w2,w3,h4]<;>rfl
   ·obtain⟨e2,k3,h⟩:=jx h
    obtain⟨e3,k4,h⟩:=jx h
    have w2:=ei k3
    have w3:jy pr (X pr) 51 [.list Ef 1 [Iv e1,Iv e2]]=I (Iv e3,Ef):=iw k4
    rcases jz h with⟨h4,h⟩|⟨h4,h⟩
    ·cases h
    ·cases h
     refine⟨[kZ,.hole,kO,kV s 8 6 5,bR,.vec 4 s.vs (s.ss.map ya),.vec 5 s.vc (s.cs.map vev),.hole,.vec 5 s.ve (s.ev.map vev)],?_,kW rfl⟩
     rw[zd (show pr.bj 65=I cQ from rfl) (by simp)]
     simp only[go_sem,seval,cQ,h1,h2,w1,h3,w2,w3,h4]<;>rfl
  ·obtain⟨r,k1,h⟩:=jx h
   obtain⟨v,k2,h⟩:=jx h
   have w1:=jxa k1
   have wa:yi 9 (aR r) [kZ,.hole,kO,kV s 8 6 5,bR,.vec 4 s.vs (s.ss.map ya),.vec 5 s.vc (s.cs.map vev),.hole,.vec 5 s.ve (s.ev.map vev),kR r.day r.au r.ae r.units]=[kZ,.hole,kO,kV s 8 6 5,bR,.vec 4 s.vs (s.ss.map ya),.vec 5 s.vc (s.cs.map vev),.hole,.vec 5 s.ve (s.ev.map vev)]:=by simp only[go_sem,seval]<;>rfl
   have w2:jy pr (X pr) 121 [aR r,aE e]=I (.aB [aR v.1,Iv v.2],Ef):=Ek k2
   rcases jz h with⟨h3,h⟩|⟨h3,h⟩
   ·obtain⟨cs,hcs,h⟩:=jx h
    obtain⟨ss,oZ,h⟩:=jx h
    obtain⟨ev,eg,h⟩:=jx h
    cases h
    have hln:ev.length=s.ev.length+1:=Em eg
    have g1:gi 9 0 5 88 [kZ,.hole,kO,kV s 8 6 5,bR,.vec 4 s.vs (s.ss.map ya),.vec 5 s.vc (s.cs.map vev),.hole,.vec 5 s.ve (s.ev.map vev),.hole,.hole] (I (.ak 6 s.vc s.lc)) (I (.list Ef 5 [aE e]))=I ⟨.ak 6 (s.vc+1) (s.lc+1),Ef,En,[kZ,.hole,kO,kV s 8 6 5,bR,.vec 4 s.vs (s.ss.map ya),.vec 5 (s.vc+1) (cs.map vev),.hole,.vec 5 s.ve (s.ev.map vev),.hole,.hole]⟩:=np (f:=vev) (x:=e) hcs rfl (by simp only[go_sem,seval]) (by decide) (by decide) (by decide)
    have g2:gi 9 1 4 80 [kZ,.hole,kO,kV s 8 6 5,bR,.vec 4 s.vs (s.ss.map ya),.vec 5 (s.vc+1) (cs.map vev),.hole,.vec 5 s.ve (s.ev.map vev),.hole,.hole] (I (.ak 5 s.vs s.ls)) (I (.list Ef 4 [aR v.1]))=I ⟨.ak 5 (s.vs+1) (s.ls+1),Ef,En,[kZ,.hole,kO,kV s 8 6 5,bR,.vec 4 (s.vs+1) (ss.map ya),.vec 5 (s.vc+1) (cs.map vev),.hole,.vec 5 s.ve (s.ev.map vev),.hole,.hole]⟩:=np (f:=ya) (x:=v.1) oZ rfl (by simp only[go_sem,seval]) (by decide) (by decide) (by decide)
    have g3:gi 11 0 5 88 [kZ,.hole,kO,.cells [(.ak 8 s.ve s.ev.length,Ef),(.ak 6 (s.vc+1) (s.lc+1),Ef),(.ak 5 (s.vs+1) (s.ls+1),Ef)],bR,.vec 4 (s.vs+1) (ss.map ya),.vec 5 (s.vc+1) (cs.map vev),.hole,.vec 5 s.ve (s.ev.map vev),.hole,.hole,.hole] (I (.ak 8 s.ve s.ev.length)) (I (.list Ef 5 [aE e]))=I ⟨.ak 8 (s.ve+1) (s.ev.length+1),Ef,En,[kZ,.hole,kO,.cells [(.ak 8 s.ve s.ev.length,Ef),(.ak 6 (s.vc+1) (s.lc+1),Ef),(.ak 5 (s.vs+1) (s.ls+1),Ef)],bR,.vec 4 (s.vs+1) (ss.map ya),.vec 5 (s.vc+1) (cs.map vev),.hole,.vec 5 (s.ve+1) (ev.map vev),.hole,.hole,.hole]⟩:=np (f:=vev) (x:=e) eg rfl (by simp only[go_sem,seval]) (by decide) (by decide) (by decide)
    refine⟨[kZ,.hole,kO,.cells [(.ak 8 (s.ve+1) (s.ev.length+1),Ef),(.ak 6 (s.vc+1) (s.lc+1),Ef),(.ak 5 (s.vs+1) (s.ls+1),Ef)],bR,.vec 4 (s.vs+1) (ss.map ya),.vec 5 (s.vc+1) (cs.map vev),.hole,.vec 5 (s.ve+1) (ev.map vev),.hole,.hole,.hole],?_,?_⟩
    ·rw[zd (show pr.bj 65=I cQ from rfl) (by simp)]
     simp only[go_sem,seval,cQ,h1,h2,w1,wa,w2,h3,g1,g2,g3]<;>rfl
    ·simp only[hln]
     simp only[go_sem,seval]<;>rfl
   ·cases h
    refine⟨[kZ,.hole,kO,kV s 8 6 5,bR,.vec 4 s.vs (s.ss.map ya),.vec 5 s.vc (s.cs.map vev),.hole,.vec 5 s.ve (s.ev.map vev)],?_,kW rfl⟩
    rw[zd (show pr.bj 65=I cQ from rfl) (by simp)]
    simp only[go_sem,seval,cQ,h1,h2,w1,wa,w2,h3]<;>rfl
 ·cases h
  refine⟨[kZ,.hole,kO,kV s 8 6 5,bR,.vec 4 s.vs (s.ss.map ya),.vec 5 s.vc (s.cs.map vev),.hole,.vec 5 s.ve (s.ev.map vev)],?_,kW rfl⟩
  rw[zd (show pr.bj 65=I cQ from rfl) (by simp)]
  simp only[go_sem,seval,cQ,h1]<;>rfl
theorem ju0:zf pr (X pr) 48 [.ptr 3 0] [kZ,.hole,kO,bR,bR,.vec 4 0 [aZ]]=I (aZ,Ef,[kZ,.hole,kO,bR,bR,.vec 4 0 [aZ],kZ]):=by
 have g1:∀h:j8,gE 4 h (I (.ak 5 0 1)) (I (Iv (j6 .i64 0)))=I ⟨.cJ 5 0 0,Ef,En,h⟩:=fun h=>(kX (l:=[dq]) (x:=dq) rfl).1
 have g2:eH 7 (I []) E0 4 [kZ,.hole,kO,bR,bR,.vec 4 0 [aZ],kZ] (I (.cJ 5 0 0))=I ⟨aZ,Ef,En,[kZ,.hole,kO,bR,bR,.vec 4 0 [aZ],kZ]⟩:=rfl
 rw[zd (show pr.bj 48=I kI from rfl) (by simp)]
 simp only[go_sem,seval,kI,g1,g2]<;>rfl
theorem jq0 {e:ql}{q}(h:vP e=I q):∃hh,zf pr (X pr) 65 [.ptr 3 0,aE e] [kZ,.hole,kO,bR,bR,.vec 4 0 [aZ]]=I (Iv q.1,Ef,hh)∧yi 6 (Iv q.1) hh=(match q.2 with
  |none=>[kZ,.hole,kO,bR,bR,.vec 4 0 [aZ]]
  |some v=>[kZ,.hole,kO,kV v 8 6 5,bR,.vec 4 v.vs (v.ss.map ya),.vec 5 v.vc (v.cs.map vev),.hole,.vec 5 v.ve (v.ev.map vev)]):=by
 unfold vP at h
 rcases jz h with⟨h1,h⟩|⟨h1,h⟩
 ·rcases jz h with⟨h2,h⟩|⟨h2,h⟩
  ·obtain⟨e1,k1,h⟩:=jx h
   obtain⟨e2,k3,h⟩:=jx h
   obtain⟨e3,k4,h⟩:=jx h
   have w1:=ei k1
   have w2:=ei k3
   have w3:jy pr (X pr) 51 [.list Ef 1 [Iv e1,Iv e2]]=I (Iv e3,Ef):=iw k4
   rcases jz h with⟨h4,h⟩|⟨h4,h⟩
   ·cases h
   ·cases h
    refine⟨[kZ,.hole,kO,bR,bR,.vec 4 0 [aZ]],?_,kW rfl⟩
    rw[zd (show pr.bj 65=I cQ from rfl) (by simp)]
    simp only[go_sem,seval,cQ,h1,h2,w1,w2,w3,h4,Eo,Wr,Ws]<;>rfl
  ·obtain⟨v,k2,h⟩:=jx h
   have w1:=ju0
   have wa:yi 6 (aZ) [kZ,.hole,kO,bR,bR,.vec 4 0 [aZ],kZ]=[kZ,.hole,kO,bR,bR,.vec 4 0 [aZ]]:=by simp only[go_sem,seval]<;>rfl
   have w2:jy pr (X pr) 121 [aZ,aE e]=I (.aB [aR v.1,Iv v.2],Ef):=Ek k2
   rcases jz h with⟨h3,h⟩|⟨h3,h⟩
   ·cases h
    have g1:gi 6 0 5 88 [kZ,.hole,kO,bR,bR,.vec 4 0 [aZ],.hole,.hole] (I (Nl)) (I (.list Ef 5 [aE e]))=I ⟨.ak 6 0 1,Ef,En,[kZ,.hole,kO,bR,bR,.vec 4 0 [aZ],.vec 5 0 [aE e],.hole]⟩:=by apply DS<;>first|rfl|decide|(simp only[go_sem,seval]<;>done)|simp
    have g2:gi 6 1 4 80 [kZ,.hole,kO,bR,bR,.vec 4 0 [aZ],.vec 5 0 [aE e],.hole] (I (.ak 5 0 1)) (I (.list Ef 4 [aR v.1]))=I ⟨.ak 5 1 2,Ef,En,[kZ,.hole,kO,bR,bR,.vec 4 1 [aZ,aR v.1],.vec 5 0 [aE e],.hole]⟩:=np (f:=ya) (l:=[dq]) (l':=[dq,v.1]) (x:=v.1) rfl rfl (by simp only[go_sem,seval]) (by decide) (by decide) (by decide)
    have g3:gi 8 0 5 88 [kZ,.hole,kO,.cells [(Nl,Ef),(.ak 6 0 1,Ef),(.ak 5 1 2,Ef)],bR,.vec 4 1 [aZ,aR v.1],.vec 5 0 [aE e],.hole,.hole] (I (Nl)) (I (.list Ef 5 [aE e]))=I ⟨.ak 8 0 1,Ef,En,[kZ,.hole,kO,.cells [(Nl,Ef),(.ak 6 0 1,Ef),(.ak 5 1 2,Ef)],bR,.vec 4 1 [aZ,aR v.1],.vec 5 0 [aE e],.hole,.vec 5 0 [aE e]]⟩:=by apply DS<;>first|rfl|decide|(simp only[go_sem,seval]<;>done)|simp
    refine⟨[kZ,.hole,kO,.cells [(.ak 8 0 1,Ef),(.ak 6 0 1,Ef),(.ak 5 1 2,Ef)],bR,.vec 4 1 [aZ,aR v.1],.vec 5 0 [aE e],.hole,.vec 5 0 [aE e]],?_,?_⟩
    ·rw[zd (show pr.bj 65=I cQ from rfl) (by simp)]
     simp only[go_sem,seval,cQ,h1,h2,w1,wa,w2,h3,g1,g2,g3,Eo]<;>rfl
    ·simp only[go_sem,seval,(show ∀k b v l,k≤b→below k (.ak b v l)=Ef from fun k b v l h=>by rw[qvi];exact dF (by omega))]<;>rfl
   ·cases h
    refine⟨[kZ,.hole,kO,bR,bR,.vec 4 0 [aZ]],?_,kW rfl⟩
    rw[zd (show pr.bj 65=I cQ from rfl) (by simp)]
    simp only[go_sem,seval,cQ,h1,h2,w1,wa,w2,h3]<;>rfl
 ·cases h
  refine⟨[kZ,.hole,kO,bR,bR,.vec 4 0 [aZ]],?_,kW rfl⟩
  rw[zd (show pr.bj 65=I cQ from rfl) (by simp)]
  simp only[go_sem,seval,cQ,h1]<;>rfl
def nq:Option HV→j8
 |none=>[kZ,.hole,kO,bR,bR,.vec 4 0 [aZ]]
 |some v=>[kZ,.hole,kO,kV v 8 6 5,bR,.vec 4 v.vs (v.ss.map ya),.vec 5 v.vc (v.cs.map vev),.hole,.vec 5 v.ve (v.ev.map vev)]
def oL (l:Option (List ql))(x:Int×Option HV):qg:=⟨[(2,.ptr 2 0,Ef),(5,.ptr 3 0,Ef),(14,sl 5 vev l,Ef),(15,Lv l,Ef),(16,Iv x.1,Ef)],nq x.2⟩
def uV (l:Option (List ql)):(Int×Int×Option HV)⊕(Int×Option HV)→qo×qg
 | .inl d=>(.ret,⟨[(2,.ptr 2 0,Ef),(3,Iv d.1,Ef),(4,Iv d.2.1,Ef)],nq d.2.2⟩)
 | .inr d=>(.exit 0,⟨[(2,.ptr 2 0,Ef),(5,.ptr 3 0,Ef),(14,sl 5 vev l,Ef),(15,Lv l,Ef),(16,Iv d.1,Ef),(17,.bool Ef,Ef)],nq d.2⟩)
theorem jze (l:Option (List ql))(x:Int×Option HV)(r)(h:vR l x=I r):yp pr iy (oL l) (uV l) x r:=by
 rcases x with⟨i,o⟩
 unfold vR at h
 rcases jz h with⟨h1,h⟩|⟨h1,h⟩
 ·obtain⟨e,h2,h⟩:=jx h
  obtain⟨c,h3,h⟩:=jx h
  have w1:jy pr (X pr) 11 [aE e]=I (Iv c,Ef):=NU h3
  rcases jz h with⟨h4,h⟩|⟨h4,h⟩
  ·obtain⟨e2,h5,h⟩:=jx h
   obtain⟨q,h6,h⟩:=jx h
   have w2:jy pr (X pr) 66 [aE e]=I (aE e2,Ef):=Wt h5
   rcases o with _|s
   ·obtain⟨hh,w3,wa⟩:=jq0 (e:=e2) h6
    rcases q with⟨q1,q2⟩
    rcases q2 with _|v
    ·simp only at wa
     rcases jz h with⟨h7,h⟩|⟨h7,h⟩
     ·cases h
      exact vG (bL:=oL l (j6 .i64 (i+1),En)) (by simp only[go_sem,seval,iy,oL,nq,h1,kc h2,w1,h4,w2,w3,wa,h7]<;>rfl) (Ap (Nat.le_refl _))
     ·cases h
      exact zw (by simp only[go_sem,seval,iy,oL,nq,h1,kc h2,w1,h4,w2,w3,wa,h7,uV]<;>rfl)
    ·simp only at wa
     rcases jz h with⟨h7,h⟩|⟨h7,h⟩
     ·cases h
      exact vG (bL:=oL l (j6 .i64 (i+1),I v)) (by simp only[go_sem,seval,iy,oL,nq,h1,kc h2,w1,h4,w2,w3,wa,h7]<;>rfl) (q6r rfl)
     ·cases h
      exact zw (by simp only[go_sem,seval,iy,oL,nq,h1,kc h2,w1,h4,w2,w3,wa,h7,uV]<;>rfl)
   ·obtain⟨q0,h8,h9⟩:=jx h6
    cases h9
    obtain⟨hh,w3,wa⟩:=jxo (e:=e2) h8
    rcases jz h with⟨h7,h⟩|⟨h7,h⟩
    ·cases h
     exact vG (bL:=oL l (j6 .i64 (i+1),I q0.2)) (by simp only[go_sem,seval,iy,oL,nq,h1,kc h2,w1,h4,w2,w3,wa,h7]<;>rfl) (Ap (Nat.le_refl _))
    ·cases h
     exact zw (by simp only[go_sem,seval,iy,oL,nq,h1,kc h2,w1,h4,w2,w3,wa,h7,uV]<;>rfl)
  ·cases h
   rcases o with _|s
   ·exact zw (by simp only[go_sem,seval,iy,oL,nq,h1,kc h2,w1,h4,uV]<;>rfl)
   ·exact zw (by simp only[go_sem,seval,iy,oL,nq,h1,kc h2,w1,h4,uV]<;>rfl)
 ·cases h
  exact zw (by simp only[go_sem,seval,iy,oL,h1,uV]<;>rfl)
theorem jx0:zf pr (X pr) 96 [] [kZ,.hole,kO,.hole]=I (.agg [Nl,Nl,.ak 5 0 1],Ef,[kZ,.hole,kO,.hole,bR,.vec 4 0 [aZ]]):=by
 have sn:j9 pr (X pr) 5 En [(1,aZ,Ef),(0,.ptr 4 0,Ef)] [kZ,.hole,kO,.hole,kO,.hole] (.gI 0 4 1 [Iv 0,Nl,Nl,Nl] [(0,.tmp 1)])=I ⟨.ak 5 0 1,Ef,En,[kZ,.hole,kO,.hole,kO,.vec 4 0 [aZ]]⟩:=rfl
 rw[zd (show pr.bj 96=I Be from rfl) (by simp)]
 simp only[go_sem,seval,Be,sn]<;>rfl
def yE:Option HV→j8
 |none=>[kZ,.hole,bR,bR,bR,.vec 4 0 [aZ]]
 |some v=>[kZ,.hole,kV v 8 6 5,kV v 8 6 5,bR,.vec 4 v.vs (v.ss.map ya),.vec 5 v.vc (v.cs.map vev),.hole,.vec 5 v.ve (v.ev.map vev)]
def Bf:Option HV→qa
 |none=>.agg [Nl,Nl,.ak 5 0 1]
 |some v=>.agg [.ak 8 v.ve v.ev.length,.ak 6 v.vc v.lc,.ak 5 v.vs v.ls]
def uW:(Int × Int)⊕Option HV→qa
 | .inl x=>.aB [.agg [Nl,Nl,Nl],Iv x.1,Iv x.2]
 | .inr o=>.aB [Bf o,Iv 0,Iv 0]
def wm:(Int × Int)⊕Option HV→j8
 | .inl _=>[kZ,.hole]
 | .inr o=>yE o
theorem jzk {l:Option (List ql)}{r}(h:f47 l=I r):∃hh,zf pr (X pr) 47 [sl 5 vev l] [kZ,.hole]=I (uW r,Ef,hh)∧yi 2 (uW r) hh=wm r:=by
 unfold f47 at h
 rcases jz h with⟨h1,h⟩|⟨h1,h⟩
 ·cases h
  refine⟨[kZ,.hole,kO],?_,?_⟩
  ·rw[zd (show pr.bj 47=I iX from rfl) (by simp)]
   simp only[go_sem,seval,iX,h1]<;>rfl
  ·simp only[go_sem,seval,uW,wm]<;>rfl
 ·obtain⟨d,h2,h⟩:=jx h
  have w:=jx0
  have wa:yi 4 (.agg [Nl,Nl,.ak 5 0 1]) [kZ,.hole,kO,.hole,bR,.vec 4 0 [aZ]]=[kZ,.hole,kO,.hole,bR,.vec 4 0 [aZ]]:=by simp only[go_sem,seval]<;>rfl
  have wl:X pr (.loop iy) ⟨[(2,.ptr 2 0,Ef),(5,.ptr 3 0,Ef),(14,sl 5 vev l,Ef),(15,Lv l,Ef),(16,Iv 0,Ef)],[kZ,.hole,kO,bR,bR,.vec 4 0 [aZ]]⟩=I (uV l d):=y7 (jze l) (fun d=>by rcases d with d|d<;>(intro hh;cases hh)) h2
  rcases d with⟨d1,d2,d3⟩|⟨d1,d2⟩
  ·cases h
   simp only[uV]at wl
   rcases d3 with _|v
   ·refine⟨[kZ,.hole,kO,bR,bR,.vec 4 0 [aZ]],?_,?_⟩
    ·simp only[nq]at wl
     rw[zd (show pr.bj 47=I iX from rfl) (by simp)]
     simp only[go_sem,seval,iX,h1,w,wa,wl]<;>rfl
    ·simp only[go_sem,seval,uW,wm]<;>rfl
   ·refine⟨[kZ,.hole,kO,kV v 8 6 5,bR,.vec 4 v.vs (v.ss.map ya),.vec 5 v.vc (v.cs.map vev),.hole,.vec 5 v.ve (v.ev.map vev)],?_,?_⟩
    ·simp only[nq]at wl
     rw[zd (show pr.bj 47=I iX from rfl) (by simp)]
     simp only[go_sem,seval,iX,h1,w,wa,wl]<;>rfl
    ·simp only[go_sem,seval,uW,wm]<;>rfl
  ·cases h
   simp only[uV]at wl
   refine⟨yE d2,?_,?_⟩
   ·rw[zd (show pr.bj 47=I iX from rfl) (by simp)]
    rcases d2 with _|v
    ·simp only[nq]at wl
     simp only[go_sem,seval,iX,h1,w,wa,wl,Bf,yE]<;>rfl
    ·simp only[nq]at wl
     simp only[go_sem,seval,iX,h1,w,wa,wl,Bf,yE]<;>rfl
   ·rcases d2 with _|v
    ·simp only[go_sem,seval,uW,wm,Bf,yE]<;>rfl
    ·simp only[go_sem,seval,uW,wm,Bf,yE]<;>rfl
end Go.Z
namespace Go.Z
open Go Go.Abs Go.W
theorem jpi:zf pr (X pr) 48 [.ptr 1 0] [kZ,bR,bR,bR,bR,.vec 4 0 [aZ]]=I (aZ,Ef,[kZ,bR,bR,bR,bR,.vec 4 0 [aZ],kZ]):=by
 have g1:∀h:j8,gE 4 h (I (.ak 5 0 1)) (I (Iv (j6 .i64 0)))=I ⟨.cJ 5 0 0,Ef,En,h⟩:=fun h=>(kX (l:=[dq]) (x:=dq) rfl).1
 have g2:eH 7 (I []) E0 4 [kZ,bR,bR,bR,bR,.vec 4 0 [aZ],kZ] (I (.cJ 5 0 0))=I ⟨aZ,Ef,En,[kZ,bR,bR,bR,bR,.vec 4 0 [aZ],kZ]⟩:=rfl
 rw[zd (show pr.bj 48=I kI from rfl) (by simp)]
 simp only[go_sem,seval,kI,g1,g2]<;>rfl
theorem j6u {s:HV}{r:qc}(hx:zo (s.ss.take s.ls) (j6 .i64 ((s.ls:Int)-1))=I r):zf pr (X pr) 48 [.ptr 1 0] [kZ,kV s 8 6 5,kV s 8 6 5,kV s 8 6 5,bR,.vec 4 s.vs (s.ss.map ya),.vec 5 s.vc (s.cs.map vev),.hole,.vec 5 s.ve (s.ev.map vev)]=I (aR r,Ef,[kZ,kV s 8 6 5,kV s 8 6 5,kV s 8 6 5,bR,.vec 4 s.vs (s.ss.map ya),.vec 5 s.vc (s.cs.map vev),.hole,.vec 5 s.ve (s.ev.map vev),kR r.day r.au r.ae r.units]):=by
 have g1:∀h:j8,gE 4 h (I (.ak 5 s.vs s.ls)) (I (Iv (j6 .i64 ((s.ls:Int)-1))))=I ⟨.cJ 5 s.vs ((j6 .i64 ((s.ls:Int)-1)).toNat*4),Ef,En,h⟩:=fun h=>(kX hx).1
 have g2:eH 10 (I []) E0 4 [kZ,kV s 8 6 5,kV s 8 6 5,kV s 8 6 5,bR,.vec 4 s.vs (s.ss.map ya),.vec 5 s.vc (s.cs.map vev),.hole,.vec 5 s.ve (s.ev.map vev),kZ] (I (.cJ 5 s.vs ((j6 .i64 ((s.ls:Int)-1)).toNat*4)))=I ⟨aR r,Ef,En,[kZ,kV s 8 6 5,kV s 8 6 5,kV s 8 6 5,bR,.vec 4 s.vs (s.ss.map ya),.vec 5 s.vc (s.cs.map vev),.hole,.vec 5 s.ve (s.ev.map vev),kZ]⟩:=Nc NT rfl rfl (kX (sz:=4) (b:=0) (v:=0) (h:=[]) hx).2
 rw[zd (show pr.bj 48=I kI from rfl) (by simp)]
 simp only[go_sem,seval,kI,g1,g2]<;>rfl
def jtg:Option HV→Option qc
 |none=>I dq
 |some s=>zo (s.ss.take s.ls) (j6 .i64 ((s.ls:Int)-1))
def f9 (l:Option (List ql)):Option (qc×Int×Int):=jw (f47 l) fun r=>match r with
 | .inl x=>cond (decide (x.2=0)) En (I (dq,x.1,x.2))
 | .inr o=>jw (jtg o) fun r=>I (r,0,0)
theorem W9 {l:Option (List ql)}{r}(h:f9 l=I r):jy pr (X pr) 9 [sl 5 vev l]=I (.aB [aR r.1,Iv r.2.1,Iv r.2.2],Ef):=by
 unfold f9 at h
 obtain⟨x,h1,h⟩:=jx h
 obtain⟨hh,w,wa⟩:=jzk h1
 rcases x with x|o
 ·rcases jz h with⟨h2,h⟩|⟨h2,h⟩
  ·cases h
  ·cases h
   simp only[uW,wm]at w wa
   have this:∃hh,zf pr (X pr) 9 [sl 5 vev l] []=I (.aB [aZ,Iv x.1,Iv x.2],Ef,hh):=by
    rw[zd (show pr.bj 9=I c9 from rfl) (by simp)]
    simp only[go_sem,seval,c9,w,wa,h2]
    exact⟨_,rfl⟩
   obtain⟨hh,this⟩:=this
   exact ko rfl this (by first|rfl|simp only[go_sem,seval]) (by first|rfl|simp only[go_sem,seval])
 ·obtain⟨r,h2,h⟩:=jx h
  cases h
  rcases o with _|v
  ·cases h2
   simp only[uW,wm,yE,Bf]at w wa
   have w2:=jpi
   have wb:yi 6 (aZ) [kZ,bR,bR,bR,bR,.vec 4 0 [aZ],kZ]=[kZ,bR,bR,bR,bR,.vec 4 0 [aZ]]:=by simp only[go_sem,seval]<;>rfl
   have this:∃hh,zf pr (X pr) 9 [sl 5 vev l] []=I (.aB [aZ,Iv 0,Iv 0],Ef,hh):=by
    rw[zd (show pr.bj 9=I c9 from rfl) (by simp)]
    simp only[go_sem,seval,c9,w,wa,w2,wb]
    exact⟨_,rfl⟩
   obtain⟨hh,this⟩:=this
   exact ko rfl this (by first|rfl|simp only[go_sem,seval]) (by first|rfl|simp only[go_sem,seval])
  ·simp only[uW,wm,yE,Bf]at w wa
   have w2:=j6u (s:=v) h2
   have wb:yi 9 (aR r) [kZ,kV v 8 6 5,kV v 8 6 5,kV v 8 6 5,bR,.vec 4 v.vs (v.ss.map ya),.vec 5 v.vc (v.cs.map vev),.hole,.vec 5 v.ve (v.ev.map vev),kR r.day r.au r.ae r.units]=[kZ,kV v 8 6 5,kV v 8 6 5,kV v 8 6 5,bR,.vec 4 v.vs (v.ss.map ya),.vec 5 v.vc (v.cs.map vev),.hole,.vec 5 v.ve (v.ev.map vev)]:=by simp only[go_sem,seval]<;>rfl
   have this:∃hh,zf pr (X pr) 9 [sl 5 vev l] []=I (.aB [aR r,Iv 0,Iv 0],Ef,hh):=by
    rw[zd (show pr.bj 9=I c9 from rfl) (by simp)]
    simp only[go_sem,seval,c9,w,wa,w2,wb]
    exact⟨_,rfl⟩
   obtain⟨hh,this⟩:=this
   exact ko rfl this (by first|rfl|simp only[go_sem,seval]) (by first|rfl|simp only[go_sem,seval])
end Go.Z
end
