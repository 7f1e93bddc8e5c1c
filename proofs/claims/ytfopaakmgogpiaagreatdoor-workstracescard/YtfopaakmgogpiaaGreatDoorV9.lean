/- Chapter 10. -/
import Derived.Test.YtfopaakmgogpiaaGreatDoorV8
import Derived.Test.YtfopaakmgogpiaaGreatDoorW14
set_option linter.unusedVariables false
set_option linter.unusedSimpArgs false
set_option maxRecDepth 100000
set_option maxHeartbeats 4000000
noncomputable section
open Option renaming some→I,none→El
open Bool renaming false→Eh,true→En
namespace Go.Z
open Go Go.Abs Go.W
@[go_sem] theorem j7a {b v l:Nat}:(qa.au b v l).flat=[.au b v l]:=rfl
@[go_sem] theorem zis {b v l:Nat}:ze (.au b v l)=En:=rfl
@[go_sem] theorem j6r {b v l:Nat}:qa.cu (.au b v l)=Eh:=rfl
theorem zad:∀ x:ql,(vev x).flat.length=5:=fun _=>rfl
theorem jjk:∀ x:qc,(y8 x).flat.length=4:=fun _=>rfl
section
variable {h:j8}{α:Type}
theorem yH {sz b v len:Nat}{l:List α}{i:Int}{x:α}(hx:zq (l.take len) i=I x):jL sz h (I (.au b v len)) (I (Iv i))=I ⟨.dk b v (i.toNat*sz),Eh,El,h⟩∧l[i.toNat]?=I x:=by
 unfold zq at hx
 split at hx
 ·rename_i hi
  have h2:=(List.getElem?_eq_some_iff.1 hx).1
  rw[List.length_take]at h2
  have h3:i.toNat<len:=by omega
  refine⟨?_,?_⟩
  ·have:=jbv (sz:=sz) (h:=h) (b:=b) (v:=v) (k:=.i64) h3
   rw[Int.toNat_of_nonneg hi]at this
   exact this
  ·rw[List.getElem?_take,if_pos h3]at hx
   exact hx
 ·cases hx
theorem jpc {sz b v len:Nat}{i:Int}(hi:0≤i)(hl:i≤(len:Int)):qQ sz h (I (.au b v len)) El (I (I (Iv i)))=I ⟨.au b v i.toNat,Eh,El,h⟩:=by
 have:ri len len (I (I (Iv i)))=I i.toNat:=by
  simp only[ri,zo]
  cases i with
  |ofNat n=>
   have h1:((n:Nat):Int)≤(len:Int):=hl
   have h2:n≤len:=by omega
   simp only[Nat.ble_eq_true_of_le h2,cT]
   rfl
  |negSucc n=>omega
 simp only[qQ,this]
 rfl
def qX (xs:List α)(len:Nat)(x:α):Option (List α):=if len≤xs.length∧len+1≤1073741824 then I (xs.take len++[x])else El
theorem Ir {h0 b v len r sz bytes:Nat}{c:Bool}{f:α→qa}{l l':List α}{x:α}(hp:qX l len x=I l')(hb:h[b]?=I (.vec sz v (l.map f)))(hx:zw 0 [f x]=En)(hz:0<sz)(TJ:bytes≤4096)(hr:r<1000):
  oi h0 r sz bytes h (I (.au b v len)) (I (.list c sz [f x]))=I ⟨.au b (v+1) (len+1),Eh,El,h.set b (.vec sz (v+1) (l'.map f))⟩:=by
 unfold qX at hp
 split at hp
 ·rename_i hl
  cases hp
  have:=ja1 (h:=h) (h0:=h0) (c:=c) (ys:=[f x]) hb (by rw[List.length_map];exact hl.1) (by simpa using hl.2) TJ hz hx hr
  rw[this]
  simp[List.map_take]
 ·cases hp
end
structure HV where
 ev:List ql
 ve:Nat
 cs:List ql
 lc:Nat
 vc:Nat
 ss:List qc
 ls:Nat
 vs:Nat
abbrev kV (v:HV)(a b c:Nat):qm:=.cells [(.au a v.ve v.ev.length,Eh),(.au b v.vc v.lc,Eh),(.au c v.vs v.ls,Eh)]
theorem jl2 {n:Nat}{st:qh}(h:ko n (st.heap.take n)=Eh):gc n st=st:=by
 unfold gc
 rw[h,Bool.and_false,cond_false]
 cases Nat.ble st.heap.length n<;>rfl
theorem qzh {α:Type}{l l':List α}{x:α}(h:qX l l.length x=I l'):l'.length=l.length+1:=by
 unfold qX at h
 split at h
 ·cases h;simp
 ·cases h
def HC (s:HV)(e:ql):Option (Int×HV):=
 cond (decide (e.number=j9 .i64 ((s.ev.length:Int)+1)))
  (cond (decide (e.kind=([117,110,100,111]:List UInt8)))
   (jx (f53 (decide ((s.lc:Int)=0)) 12) fun e1=>
   cond (decide (0<(s.lc:Int)))
    (jx (zq (s.cs.take s.lc) (max 0 (j9 .i64 ((s.lc:Int)-1)))) fun x=>
    jx (f53 (decide (x.kind=([115,104,105,112]:List UInt8))) 19) fun e2=>
    jx (f51 (I [e1,e2])) fun e3=>
    cond (decide (e3=0))
     (cond (decide (0≤j9 .i64 ((s.lc:Int)-1)∧j9 .i64 ((s.lc:Int)-1)≤(s.lc:Int)∧s.lc≤s.ls))
      (jx (qX s.ev s.ev.length e) fun ev=>I (0,{ s with ev:=ev,ve:=s.ve+1,lc:=(j9 .i64 ((s.lc:Int)-1)).toNat,ls:=s.lc }))
      El)
     (I (e3,s)))
    (jx (f53 Eh 19) fun e2=>jx (f51 (I [e1,e2])) fun e3=>cond (decide (e3=0)) El (I (e3,s))))
   (jx (zq (s.ss.take s.ls) (j9 .i64 ((s.ls:Int)-1))) fun r=>
   jx (f121 r e) fun v=>
   cond (decide (v.2=0))
    (jx (qX s.cs s.lc e) fun cs=>jx (qX s.ss s.ls v.1) fun ss=>jx (qX s.ev s.ev.length e) fun ev=>
    I (0,{ ev:=ev,ve:=s.ve+1,cs:=cs,lc:=s.lc+1,vc:=s.vc+1,ss:=ss,ls:=s.ls+1,vs:=s.vs+1 }))
    (I (v.2,s))))
  (I (11,s))
theorem jju:decide (((([]:List qa).length:Nat):Int)=0)=En:=rfl
theorem zf8:decide ((0:Int)<((([]:List qa).length:Nat):Int))=Eh:=rfl
theorem zaa:decide ((0:Int)<((0:Nat):Int))=Eh:=rfl
def eI:qc:=⟨0,El,El,El⟩
def HA (e:ql):Option (Int×Option HV):=
 cond (decide (e.number=j9 .i64 1))
  (cond (decide (e.kind=([117,110,100,111]:List UInt8)))
   (jx (f53 En 12) fun e1=>jx (f53 Eh 19) fun e2=>jx (f51 (I [e1,e2])) fun e3=>cond (decide (e3=0)) El (I (e3,El)))
   (jx (f121 eI e) fun v=>
   cond (decide (v.2=0))
    (I (0,I { ev:=[e],ve:=0,cs:=[e],lc:=1,vc:=0,ss:=[eI,v.1],ls:=2,vs:=1 }))
    (I (v.2,El))))
  (I (11,El))
def NM (s:Option HV)(e:ql):Option (Int×Option HV):=match s with
 |none=>HA e
 |some s=>jx (HC s e) fun q=>I (q.1,I q.2)
def A4 (l:Option (List ql))(x:Int×Option HV):Option ((Int×Option HV)⊕((Int×Int×Option HV)⊕(Int×Option HV))):=
 cond (decide (x.1<((l.getD []).length:Int)))
  (jx (zq (l.getD []) x.1) fun e=>
  jx (f11 e) fun c=>
  cond (decide (c=0))
   (jx (f66 e) fun e2=>
   jx (NM x.2 e2) fun q=>
   cond (decide (q.1=0))
    (I (.inl (j9 .i64 (x.1+1),q.2)))
    (I (.inr (.inl (j9 .i64 (x.1+1),q.1,q.2)))))
   (I (.inr (.inl (j9 .i64 (x.1+1),c,x.2)))))
  (I (.inr (.inr x)))
def f47 (l:Option (List ql)):Option ((Int×Int)⊕Option HV):=
 cond (decide (1000<((l.getD []).length:Int)))
  (I (.inl (0,5)))
  (jx (bj (A4 l) (0,El)) fun d=>match d with
  | .inl d=>I (.inl (d.1,d.2.1))
  | .inr d=>I (.inr d.2))
theorem j5x {s:HV}{r:qc}(hx:zq (s.ss.take s.ls) (j9 .i64 ((s.ls:Int)-1))=I r):zg pr (X pr) 48 [.ptr 3 0] [kZ,.hole,kO,kV s 8 6 5,bR,.vec 4 s.vs (s.ss.map y8),.vec 5 s.vc (s.cs.map vev),.hole,.vec 5 s.ve (s.ev.map vev)]=I (aR r,Eh,[kZ,.hole,kO,kV s 8 6 5,bR,.vec 4 s.vs (s.ss.map y8),.vec 5 s.vc (s.cs.map vev),.hole,.vec 5 s.ve (s.ev.map vev),kR r.day r.aq r.ae r.units]):=by
 have g1:∀h:j8,jL 4 h (I (.au 5 s.vs s.ls)) (I (Iv (j9 .i64 ((s.ls:Int)-1))))=I ⟨.dk 5 s.vs ((j9 .i64 ((s.ls:Int)-1)).toNat*4),Eh,El,h⟩:=fun h=>(yH hx).1
 have g2:fN 10 (I []) En 4 [kZ,.hole,kO,kV s 8 6 5,bR,.vec 4 s.vs (s.ss.map y8),.vec 5 s.vc (s.cs.map vev),.hole,.vec 5 s.ve (s.ev.map vev),kZ] (I (.dk 5 s.vs ((j9 .i64 ((s.ls:Int)-1)).toNat*4)))=I ⟨aR r,Eh,El,[kZ,.hole,kO,kV s 8 6 5,bR,.vec 4 s.vs (s.ss.map y8),.vec 5 s.vc (s.cs.map vev),.hole,.vec 5 s.ve (s.ev.map vev),kZ]⟩:=jbd jjk rfl rfl (yH (sz:=4) (b:=0) (v:=0) (h:=[]) hx).2
 rw[zh (show pr.bH 48=I sC from rfl) (by simp)]
 simp only[go_sem,seval,sC,g1,g2]<;>rfl
theorem jwa {s:HV}{e:ql}{q}(h:HC s e=I q):∃hh,zg pr (X pr) 65 [.ptr 3 0,aE e] [kZ,.hole,kO,kV s 8 6 5,bR,.vec 4 s.vs (s.ss.map y8),.vec 5 s.vc (s.cs.map vev),.hole,.vec 5 s.ve (s.ev.map vev)]=I (Iv q.1,Eh,hh)∧yx 9 (Iv q.1) hh=[kZ,.hole,kO,.cells [(.au 8 q.2.ve q.2.ev.length,Eh),(.au 6 q.2.vc q.2.lc,Eh),(.au 5 q.2.vs q.2.ls,Eh)],bR,.vec 4 q.2.vs (q.2.ss.map y8),.vec 5 q.2.vc (q.2.cs.map vev),.hole,.vec 5 q.2.ve (q.2.ev.map vev)]:=by
 unfold HC at h
 rcases j6 h with⟨h1,h⟩|⟨h1,h⟩
 ·rcases j6 h with⟨h2,h⟩|⟨h2,h⟩
  ·obtain⟨e1,k1,h⟩:=jy h
   have w1:=fB k1
   rcases j6 h with⟨h3,h⟩|⟨h3,h⟩
   ·obtain⟨x,k2,h⟩:=jy h
    obtain⟨e2,k3,h⟩:=jy h
    obtain⟨e3,k4,h⟩:=jy h
    have w2:=fB k3
    have w3:jz pr (X pr) 51 [.list Eh 1 [Iv e1,Iv e2]]=I (Iv e3,Eh):=lK k4
    have g1:∀h:j8,jL 5 h (I (.au 6 s.vc s.lc)) (I (Iv (max 0 (j9 .i64 ((s.lc:Int)-1)))))=I ⟨.dk 6 s.vc ((max 0 (j9 .i64 ((s.lc:Int)-1))).toNat*5),Eh,El,h⟩:=fun h=>(yH k2).1
    have g2:fN 9 El Eh 1 [kZ,.hole,kO,kV s 8 6 5,bR,.vec 4 s.vs (s.ss.map y8),.vec 5 s.vc (s.cs.map vev),.hole,.vec 5 s.ve (s.ev.map vev)] (I (.dk 6 s.vc ((max 0 (j9 .i64 ((s.lc:Int)-1))).toNat*5+1)))=I ⟨.str x.kind,Eh,El,[kZ,.hole,kO,kV s 8 6 5,bR,.vec 4 s.vs (s.ss.map y8),.vec 5 s.vc (s.cs.map vev),.hole,.vec 5 s.ve (s.ev.map vev)]⟩:=joy (f:=vev) (o:=1) zad rfl rfl (yH (sz:=4) (b:=0) (v:=0) (h:=[]) k2).2 rfl
    rcases j6 h with⟨h4,h⟩|⟨h4,h⟩
    ·rcases j6 h with⟨h5,h⟩|⟨_,h⟩
     ·obtain⟨ev,gC,h⟩:=jy h
      cases h
      have c5:=of_decide_eq_true h5
      have hln:ev.length=s.ev.length+1:=qzh gC
      have g3:∀h:j8,qQ 5 h (I (.au 6 s.vc s.lc)) El (I (I (Iv (j9 .i64 ((s.lc:Int)-1)))))=I ⟨.au 6 s.vc (j9 .i64 ((s.lc:Int)-1)).toNat,Eh,El,h⟩:=fun h=>jpc c5.1 c5.2.1
      have g4:∀h:j8,qQ 4 h (I (.au 5 s.vs s.ls)) El (I (I (Iv (s.lc:Int))))=I ⟨.au 5 s.vs s.lc,Eh,El,h⟩:=fun h=>jpc (by omega) (by have:=c5.2.2;omega)
      have g5:oi 9 0 5 88 [kZ,.hole,kO,.cells [(.au 8 s.ve s.ev.length,Eh),(.au 6 s.vc (j9 .i64 ((s.lc:Int)-1)).toNat,Eh),(.au 5 s.vs s.lc,Eh)],bR,.vec 4 s.vs (s.ss.map y8),.vec 5 s.vc (s.cs.map vev),.hole,.vec 5 s.ve (s.ev.map vev),.hole] (I (.au 8 s.ve s.ev.length)) (I (.list Eh 5 [aE e]))=I ⟨.au 8 (s.ve+1) (s.ev.length+1),Eh,El,[kZ,.hole,kO,.cells [(.au 8 s.ve s.ev.length,Eh),(.au 6 s.vc (j9 .i64 ((s.lc:Int)-1)).toNat,Eh),(.au 5 s.vs s.lc,Eh)],bR,.vec 4 s.vs (s.ss.map y8),.vec 5 s.vc (s.cs.map vev),.hole,.vec 5 (s.ve+1) (ev.map vev),.hole]⟩:=Ir (f:=vev) (x:=e) gC rfl (by simp only[go_sem,seval]) (by decide) (by decide) (by decide)
      refine⟨[kZ,.hole,kO,.cells [(.au 8 (s.ve+1) (s.ev.length+1),Eh),(.au 6 s.vc (j9 .i64 ((s.lc:Int)-1)).toNat,Eh),(.au 5 s.vs s.lc,Eh)],bR,.vec 4 s.vs (s.ss.map y8),.vec 5 s.vc (s.cs.map vev),.hole,.vec 5 (s.ve+1) (ev.map vev),.hole],?_,?_⟩
      ·rw[zh (show pr.bH 65=I iA from rfl) (by simp)]
       simp only[go_sem,seval,iA,h1,h2,w1,h3,g1,g2,w2,w3,h4,g3,g4,g5]<;>rfl
      ·simp only[hln]
       simp only[go_sem,seval]<;>rfl
     ·cases h
    ·cases h
     refine⟨[kZ,.hole,kO,kV s 8 6 5,bR,.vec 4 s.vs (s.ss.map y8),.vec 5 s.vc (s.cs.map vev),.hole,.vec 5 s.ve (s.ev.map vev)],?_,sB rfl⟩
     rw[zh (show pr.bH 65=I iA from rfl) (by simp)]
     simp only[go_sem,seval,iA,h1,h2,w1,h3,g1,g2,w2,w3,h4]<;>rfl
   ·obtain⟨e2,k3,h⟩:=jy h
    obtain⟨e3,k4,h⟩:=jy h
    have w2:=fB k3
    have w3:jz pr (X pr) 51 [.list Eh 1 [Iv e1,Iv e2]]=I (Iv e3,Eh):=lK k4
    rcases j6 h with⟨h4,h⟩|⟨h4,h⟩
    ·cases h
    ·cases h
     refine⟨[kZ,.hole,kO,kV s 8 6 5,bR,.vec 4 s.vs (s.ss.map y8),.vec 5 s.vc (s.cs.map vev),.hole,.vec 5 s.ve (s.ev.map vev)],?_,sB rfl⟩
     rw[zh (show pr.bH 65=I iA from rfl) (by simp)]
     simp only[go_sem,seval,iA,h1,h2,w1,h3,w2,w3,h4]<;>rfl
  ·obtain⟨r,k1,h⟩:=jy h
   obtain⟨v,k2,h⟩:=jy h
   have w1:=j5x k1
   have wa:yx 9 (aR r) [kZ,.hole,kO,kV s 8 6 5,bR,.vec 4 s.vs (s.ss.map y8),.vec 5 s.vc (s.cs.map vev),.hole,.vec 5 s.ve (s.ev.map vev),kR r.day r.aq r.ae r.units]=[kZ,.hole,kO,kV s 8 6 5,bR,.vec 4 s.vs (s.ss.map y8),.vec 5 s.vc (s.cs.map vev),.hole,.vec 5 s.ve (s.ev.map vev)]:=by simp only[go_sem,seval]<;>rfl
   have w2:jz pr (X pr) 121 [aR r,aE e]=I (.az [aR v.1,Iv v.2],Eh):=jpg k2
   rcases j6 h with⟨h3,h⟩|⟨h3,h⟩
   ·obtain⟨cs,hcs,h⟩:=jy h
    obtain⟨ss,xl,h⟩:=jy h
    obtain⟨ev,gC,h⟩:=jy h
    cases h
    have hln:ev.length=s.ev.length+1:=qzh gC
    have g1:oi 9 0 5 88 [kZ,.hole,kO,kV s 8 6 5,bR,.vec 4 s.vs (s.ss.map y8),.vec 5 s.vc (s.cs.map vev),.hole,.vec 5 s.ve (s.ev.map vev),.hole,.hole] (I (.au 6 s.vc s.lc)) (I (.list Eh 5 [aE e]))=I ⟨.au 6 (s.vc+1) (s.lc+1),Eh,El,[kZ,.hole,kO,kV s 8 6 5,bR,.vec 4 s.vs (s.ss.map y8),.vec 5 (s.vc+1) (cs.map vev),.hole,.vec 5 s.ve (s.ev.map vev),.hole,.hole]⟩:=Ir (f:=vev) (x:=e) hcs rfl (by simp only[go_sem,seval]) (by decide) (by decide) (by decide)
    have g2:oi 9 1 4 80 [kZ,.hole,kO,kV s 8 6 5,bR,.vec 4 s.vs (s.ss.map y8),.vec 5 (s.vc+1) (cs.map vev),.hole,.vec 5 s.ve (s.ev.map vev),.hole,.hole] (I (.au 5 s.vs s.ls)) (I (.list Eh 4 [aR v.1]))=I ⟨.au 5 (s.vs+1) (s.ls+1),Eh,El,[kZ,.hole,kO,kV s 8 6 5,bR,.vec 4 (s.vs+1) (ss.map y8),.vec 5 (s.vc+1) (cs.map vev),.hole,.vec 5 s.ve (s.ev.map vev),.hole,.hole]⟩:=Ir (f:=y8) (x:=v.1) xl rfl (by simp only[go_sem,seval]) (by decide) (by decide) (by decide)
    have g3:oi 11 0 5 88 [kZ,.hole,kO,.cells [(.au 8 s.ve s.ev.length,Eh),(.au 6 (s.vc+1) (s.lc+1),Eh),(.au 5 (s.vs+1) (s.ls+1),Eh)],bR,.vec 4 (s.vs+1) (ss.map y8),.vec 5 (s.vc+1) (cs.map vev),.hole,.vec 5 s.ve (s.ev.map vev),.hole,.hole,.hole] (I (.au 8 s.ve s.ev.length)) (I (.list Eh 5 [aE e]))=I ⟨.au 8 (s.ve+1) (s.ev.length+1),Eh,El,[kZ,.hole,kO,.cells [(.au 8 s.ve s.ev.length,Eh),(.au 6 (s.vc+1) (s.lc+1),Eh),(.au 5 (s.vs+1) (s.ls+1),Eh)],bR,.vec 4 (s.vs+1) (ss.map y8),.vec 5 (s.vc+1) (cs.map vev),.hole,.vec 5 (s.ve+1) (ev.map vev),.hole,.hole,.hole]⟩:=Ir (f:=vev) (x:=e) gC rfl (by simp only[go_sem,seval]) (by decide) (by decide) (by decide)
    refine⟨[kZ,.hole,kO,.cells [(.au 8 (s.ve+1) (s.ev.length+1),Eh),(.au 6 (s.vc+1) (s.lc+1),Eh),(.au 5 (s.vs+1) (s.ls+1),Eh)],bR,.vec 4 (s.vs+1) (ss.map y8),.vec 5 (s.vc+1) (cs.map vev),.hole,.vec 5 (s.ve+1) (ev.map vev),.hole,.hole,.hole],?_,?_⟩
    ·rw[zh (show pr.bH 65=I iA from rfl) (by simp)]
     simp only[go_sem,seval,iA,h1,h2,w1,wa,w2,h3,g1,g2,g3]<;>rfl
    ·simp only[hln]
     simp only[go_sem,seval]<;>rfl
   ·cases h
    refine⟨[kZ,.hole,kO,kV s 8 6 5,bR,.vec 4 s.vs (s.ss.map y8),.vec 5 s.vc (s.cs.map vev),.hole,.vec 5 s.ve (s.ev.map vev)],?_,sB rfl⟩
    rw[zh (show pr.bH 65=I iA from rfl) (by simp)]
    simp only[go_sem,seval,iA,h1,h2,w1,wa,w2,h3]<;>rfl
 ·cases h
  refine⟨[kZ,.hole,kO,kV s 8 6 5,bR,.vec 4 s.vs (s.ss.map y8),.vec 5 s.vc (s.cs.map vev),.hole,.vec 5 s.ve (s.ev.map vev)],?_,sB rfl⟩
  rw[zh (show pr.bH 65=I iA from rfl) (by simp)]
  simp only[go_sem,seval,iA,h1]<;>rfl
theorem js3:zg pr (X pr) 48 [.ptr 3 0] [kZ,.hole,kO,bR,bR,.vec 4 0 [aZ]]=I (aZ,Eh,[kZ,.hole,kO,bR,bR,.vec 4 0 [aZ],kZ]):=by
 have g1:∀h:j8,jL 4 h (I (.au 5 0 1)) (I (Iv (j9 .i64 0)))=I ⟨.dk 5 0 0,Eh,El,h⟩:=fun h=>(yH (l:=[eI]) (x:=eI) rfl).1
 have g2:fN 7 (I []) En 4 [kZ,.hole,kO,bR,bR,.vec 4 0 [aZ],kZ] (I (.dk 5 0 0))=I ⟨aZ,Eh,El,[kZ,.hole,kO,bR,bR,.vec 4 0 [aZ],kZ]⟩:=rfl
 rw[zh (show pr.bH 48=I sC from rfl) (by simp)]
 simp only[go_sem,seval,sC,g1,g2]<;>rfl
theorem js2 {e:ql}{q}(h:HA e=I q):∃hh,zg pr (X pr) 65 [.ptr 3 0,aE e] [kZ,.hole,kO,bR,bR,.vec 4 0 [aZ]]=I (Iv q.1,Eh,hh)∧yx 6 (Iv q.1) hh=(match q.2 with
  |none=>[kZ,.hole,kO,bR,bR,.vec 4 0 [aZ]]
  |some v=>[kZ,.hole,kO,kV v 8 6 5,bR,.vec 4 v.vs (v.ss.map y8),.vec 5 v.vc (v.cs.map vev),.hole,.vec 5 v.ve (v.ev.map vev)]):=by
 unfold HA at h
 rcases j6 h with⟨h1,h⟩|⟨h1,h⟩
 ·rcases j6 h with⟨h2,h⟩|⟨h2,h⟩
  ·obtain⟨e1,k1,h⟩:=jy h
   obtain⟨e2,k3,h⟩:=jy h
   obtain⟨e3,k4,h⟩:=jy h
   have w1:=fB k1
   have w2:=fB k3
   have w3:jz pr (X pr) 51 [.list Eh 1 [Iv e1,Iv e2]]=I (Iv e3,Eh):=lK k4
   rcases j6 h with⟨h4,h⟩|⟨h4,h⟩
   ·cases h
   ·cases h
    refine⟨[kZ,.hole,kO,bR,bR,.vec 4 0 [aZ]],?_,sB rfl⟩
    rw[zh (show pr.bH 65=I iA from rfl) (by simp)]
    simp only[go_sem,seval,iA,h1,h2,w1,w2,w3,h4,jju,zf8,zaa]<;>rfl
  ·obtain⟨v,k2,h⟩:=jy h
   have w1:=js3
   have wa:yx 6 (aZ) [kZ,.hole,kO,bR,bR,.vec 4 0 [aZ],kZ]=[kZ,.hole,kO,bR,bR,.vec 4 0 [aZ]]:=by simp only[go_sem,seval]<;>rfl
   have w2:jz pr (X pr) 121 [aZ,aE e]=I (.az [aR v.1,Iv v.2],Eh):=jpg k2
   rcases j6 h with⟨h3,h⟩|⟨h3,h⟩
   ·cases h
    have g1:oi 6 0 5 88 [kZ,.hole,kO,bR,bR,.vec 4 0 [aZ],.hole,.hole] (I (Nl)) (I (.list Eh 5 [aE e]))=I ⟨.au 6 0 1,Eh,El,[kZ,.hole,kO,bR,bR,.vec 4 0 [aZ],.vec 5 0 [aE e],.hole]⟩:=by apply q11<;>first|rfl|decide|(simp only[go_sem,seval]<;>done)|simp
    have g2:oi 6 1 4 80 [kZ,.hole,kO,bR,bR,.vec 4 0 [aZ],.vec 5 0 [aE e],.hole] (I (.au 5 0 1)) (I (.list Eh 4 [aR v.1]))=I ⟨.au 5 1 2,Eh,El,[kZ,.hole,kO,bR,bR,.vec 4 1 [aZ,aR v.1],.vec 5 0 [aE e],.hole]⟩:=Ir (f:=y8) (l:=[eI]) (l':=[eI,v.1]) (x:=v.1) rfl rfl (by simp only[go_sem,seval]) (by decide) (by decide) (by decide)
    have g3:oi 8 0 5 88 [kZ,.hole,kO,.cells [(Nl,Eh),(.au 6 0 1,Eh),(.au 5 1 2,Eh)],bR,.vec 4 1 [aZ,aR v.1],.vec 5 0 [aE e],.hole,.hole] (I (Nl)) (I (.list Eh 5 [aE e]))=I ⟨.au 8 0 1,Eh,El,[kZ,.hole,kO,.cells [(Nl,Eh),(.au 6 0 1,Eh),(.au 5 1 2,Eh)],bR,.vec 4 1 [aZ,aR v.1],.vec 5 0 [aE e],.hole,.vec 5 0 [aE e]]⟩:=by apply q11<;>first|rfl|decide|(simp only[go_sem,seval]<;>done)|simp
    refine⟨[kZ,.hole,kO,.cells [(.au 8 0 1,Eh),(.au 6 0 1,Eh),(.au 5 1 2,Eh)],bR,.vec 4 1 [aZ,aR v.1],.vec 5 0 [aE e],.hole,.vec 5 0 [aE e]],?_,?_⟩
    ·rw[zh (show pr.bH 65=I iA from rfl) (by simp)]
     simp only[go_sem,seval,iA,h1,h2,w1,wa,w2,h3,g1,g2,g3,jju]<;>rfl
    ·simp only[go_sem,seval,(show ∀k b v l,k≤b→below k (.au b v l)=Eh from fun k b v l h=>by rw[q8a];exact dF (by omega))]<;>rfl
   ·cases h
    refine⟨[kZ,.hole,kO,bR,bR,.vec 4 0 [aZ]],?_,sB rfl⟩
    rw[zh (show pr.bH 65=I iA from rfl) (by simp)]
    simp only[go_sem,seval,iA,h1,h2,w1,wa,w2,h3]<;>rfl
 ·cases h
  refine⟨[kZ,.hole,kO,bR,bR,.vec 4 0 [aZ]],?_,sB rfl⟩
  rw[zh (show pr.bH 65=I iA from rfl) (by simp)]
  simp only[go_sem,seval,iA,h1]<;>rfl
def ng:Option HV→j8
 |none=>[kZ,.hole,kO,bR,bR,.vec 4 0 [aZ]]
 |some v=>[kZ,.hole,kO,kV v 8 6 5,bR,.vec 4 v.vs (v.ss.map y8),.vec 5 v.vc (v.cs.map vev),.hole,.vec 5 v.ve (v.ev.map vev)]
def oI (l:Option (List ql))(x:Int×Option HV):qh:=⟨[(2,.ptr 2 0,Eh),(5,.ptr 3 0,Eh),(14,sl 5 vev l,Eh),(15,Lv l,Eh),(16,Iv x.1,Eh)],ng x.2⟩
def vj (l:Option (List ql)):(Int×Int×Option HV)⊕(Int×Option HV)→qo×qh
 | .inl d=>(.ret,⟨[(2,.ptr 2 0,Eh),(3,Iv d.1,Eh),(4,Iv d.2.1,Eh)],ng d.2.2⟩)
 | .inr d=>(.exit 0,⟨[(2,.ptr 2 0,Eh),(5,.ptr 3 0,Eh),(14,sl 5 vev l,Eh),(15,Lv l,Eh),(16,Iv d.1,Eh),(17,.bool Eh,Eh)],ng d.2⟩)
theorem j52 (l:Option (List ql))(x:Int×Option HV)(r)(h:A4 l x=I r):y5 pr py (oI l) (vj l) x r:=by
 rcases x with⟨i,o⟩
 unfold A4 at h
 rcases j6 h with⟨h1,h⟩|⟨h1,h⟩
 ·obtain⟨e,h2,h⟩:=jy h
  obtain⟨c,h3,h⟩:=jy h
  have w1:jz pr (X pr) 11 [aE e]=I (Iv c,Eh):=W11 h3
  rcases j6 h with⟨h4,h⟩|⟨h4,h⟩
  ·obtain⟨e2,h5,h⟩:=jy h
   obtain⟨q,h6,h⟩:=jy h
   have w2:jz pr (X pr) 66 [aE e]=I (aE e2,Eh):=W66 h5
   rcases o with _|s
   ·obtain⟨hh,w3,wa⟩:=js2 (e:=e2) h6
    rcases q with⟨q1,q2⟩
    rcases q2 with _|v
    ·simp only at wa
     rcases j6 h with⟨h7,h⟩|⟨h7,h⟩
     ·cases h
      exact DW (bK:=oI l (j9 .i64 (i+1),El)) (by simp only[go_sem,seval,py,oI,ng,h1,ky h2,w1,h4,w2,w3,wa,h7]<;>rfl) (GF (Nat.le_refl _))
     ·cases h
      exact z6 (by simp only[go_sem,seval,py,oI,ng,h1,ky h2,w1,h4,w2,w3,wa,h7,vj]<;>rfl)
    ·simp only at wa
     rcases j6 h with⟨h7,h⟩|⟨h7,h⟩
     ·cases h
      exact DW (bK:=oI l (j9 .i64 (i+1),I v)) (by simp only[go_sem,seval,py,oI,ng,h1,ky h2,w1,h4,w2,w3,wa,h7]<;>rfl) (jl2 rfl)
     ·cases h
      exact z6 (by simp only[go_sem,seval,py,oI,ng,h1,ky h2,w1,h4,w2,w3,wa,h7,vj]<;>rfl)
   ·obtain⟨q0,h8,h9⟩:=jy h6
    cases h9
    obtain⟨hh,w3,wa⟩:=jwa (e:=e2) h8
    rcases j6 h with⟨h7,h⟩|⟨h7,h⟩
    ·cases h
     exact DW (bK:=oI l (j9 .i64 (i+1),I q0.2)) (by simp only[go_sem,seval,py,oI,ng,h1,ky h2,w1,h4,w2,w3,wa,h7]<;>rfl) (GF (Nat.le_refl _))
    ·cases h
     exact z6 (by simp only[go_sem,seval,py,oI,ng,h1,ky h2,w1,h4,w2,w3,wa,h7,vj]<;>rfl)
  ·cases h
   rcases o with _|s
   ·exact z6 (by simp only[go_sem,seval,py,oI,ng,h1,ky h2,w1,h4,vj]<;>rfl)
   ·exact z6 (by simp only[go_sem,seval,py,oI,ng,h1,ky h2,w1,h4,vj]<;>rfl)
 ·cases h
  exact z6 (by simp only[go_sem,seval,py,oI,h1,vj]<;>rfl)
theorem j4k:zg pr (X pr) 96 [] [kZ,.hole,kO,.hole]=I (.agg [Nl,Nl,.au 5 0 1],Eh,[kZ,.hole,kO,.hole,bR,.vec 4 0 [aZ]]):=by
 have Iu:za pr (X pr) 5 El [(1,aZ,Eh),(0,.ptr 4 0,Eh)] [kZ,.hole,kO,.hole,kO,.hole] (.ic 0 4 1 [Iv 0,Nl,Nl,Nl] [(0,.tmp 1)])=I ⟨.au 5 0 1,Eh,El,[kZ,.hole,kO,.hole,kO,.vec 4 0 [aZ]]⟩:=rfl
 rw[zh (show pr.bH 96=I Iw from rfl) (by simp)]
 simp only[go_sem,seval,Iw,Iu]<;>rfl
def yI:Option HV→j8
 |none=>[kZ,.hole,bR,bR,bR,.vec 4 0 [aZ]]
 |some v=>[kZ,.hole,kV v 8 6 5,kV v 8 6 5,bR,.vec 4 v.vs (v.ss.map y8),.vec 5 v.vc (v.cs.map vev),.hole,.vec 5 v.ve (v.ev.map vev)]
def Bj:Option HV→qa
 |none=>.agg [Nl,Nl,.au 5 0 1]
 |some v=>.agg [.au 8 v.ve v.ev.length,.au 6 v.vc v.lc,.au 5 v.vs v.ls]
def vk:(Int × Int)⊕Option HV→qa
 | .inl x=>.az [.agg [Nl,Nl,Nl],Iv x.1,Iv x.2]
 | .inr o=>.az [Bj o,Iv 0,Iv 0]
def wC:(Int × Int)⊕Option HV→j8
 | .inl _=>[kZ,.hole]
 | .inr o=>yI o
theorem jz7 {l:Option (List ql)}{r}(h:f47 l=I r):∃hh,zg pr (X pr) 47 [sl 5 vev l] [kZ,.hole]=I (vk r,Eh,hh)∧yx 2 (vk r) hh=wC r:=by
 unfold f47 at h
 rcases j6 h with⟨h1,h⟩|⟨h1,h⟩
 ·cases h
  refine⟨[kZ,.hole,kO],?_,?_⟩
  ·rw[zh (show pr.bH 47=I pz from rfl) (by simp)]
   simp only[go_sem,seval,pz,h1]<;>rfl
  ·simp only[go_sem,seval,vk,wC]<;>rfl
 ·obtain⟨d,h2,h⟩:=jy h
  have w:=j4k
  have wa:yx 4 (.agg [Nl,Nl,.au 5 0 1]) [kZ,.hole,kO,.hole,bR,.vec 4 0 [aZ]]=[kZ,.hole,kO,.hole,bR,.vec 4 0 [aZ]]:=by simp only[go_sem,seval]<;>rfl
  have wl:X pr (.loop py) ⟨[(2,.ptr 2 0,Eh),(5,.ptr 3 0,Eh),(14,sl 5 vev l,Eh),(15,Lv l,Eh),(16,Iv 0,Eh)],[kZ,.hole,kO,bR,bR,.vec 4 0 [aZ]]⟩=I (vj l d):=kl (j52 l) (fun d=>by rcases d with d|d<;>(intro hh;cases hh)) h2
  rcases d with⟨d1,d2,d3⟩|⟨d1,d2⟩
  ·cases h
   simp only[vj]at wl
   rcases d3 with _|v
   ·refine⟨[kZ,.hole,kO,bR,bR,.vec 4 0 [aZ]],?_,?_⟩
    ·simp only[ng]at wl
     rw[zh (show pr.bH 47=I pz from rfl) (by simp)]
     simp only[go_sem,seval,pz,h1,w,wa,wl]<;>rfl
    ·simp only[go_sem,seval,vk,wC]<;>rfl
   ·refine⟨[kZ,.hole,kO,kV v 8 6 5,bR,.vec 4 v.vs (v.ss.map y8),.vec 5 v.vc (v.cs.map vev),.hole,.vec 5 v.ve (v.ev.map vev)],?_,?_⟩
    ·simp only[ng]at wl
     rw[zh (show pr.bH 47=I pz from rfl) (by simp)]
     simp only[go_sem,seval,pz,h1,w,wa,wl]<;>rfl
    ·simp only[go_sem,seval,vk,wC]<;>rfl
  ·cases h
   simp only[vj]at wl
   refine⟨yI d2,?_,?_⟩
   ·rw[zh (show pr.bH 47=I pz from rfl) (by simp)]
    rcases d2 with _|v
    ·simp only[ng]at wl
     simp only[go_sem,seval,pz,h1,w,wa,wl,Bj,yI]<;>rfl
    ·simp only[ng]at wl
     simp only[go_sem,seval,pz,h1,w,wa,wl,Bj,yI]<;>rfl
   ·rcases d2 with _|v
    ·simp only[go_sem,seval,vk,wC,Bj,yI]<;>rfl
    ·simp only[go_sem,seval,vk,wC,Bj,yI]<;>rfl
end Go.Z
namespace Go.Z
open Go Go.Abs Go.W
theorem jua:zg pr (X pr) 48 [.ptr 1 0] [kZ,bR,bR,bR,bR,.vec 4 0 [aZ]]=I (aZ,Eh,[kZ,bR,bR,bR,bR,.vec 4 0 [aZ],kZ]):=by
 have g1:∀h:j8,jL 4 h (I (.au 5 0 1)) (I (Iv (j9 .i64 0)))=I ⟨.dk 5 0 0,Eh,El,h⟩:=fun h=>(yH (l:=[eI]) (x:=eI) rfl).1
 have g2:fN 7 (I []) En 4 [kZ,bR,bR,bR,bR,.vec 4 0 [aZ],kZ] (I (.dk 5 0 0))=I ⟨aZ,Eh,El,[kZ,bR,bR,bR,bR,.vec 4 0 [aZ],kZ]⟩:=rfl
 rw[zh (show pr.bH 48=I sC from rfl) (by simp)]
 simp only[go_sem,seval,sC,g1,g2]<;>rfl
theorem j3u {s:HV}{r:qc}(hx:zq (s.ss.take s.ls) (j9 .i64 ((s.ls:Int)-1))=I r):zg pr (X pr) 48 [.ptr 1 0] [kZ,kV s 8 6 5,kV s 8 6 5,kV s 8 6 5,bR,.vec 4 s.vs (s.ss.map y8),.vec 5 s.vc (s.cs.map vev),.hole,.vec 5 s.ve (s.ev.map vev)]=I (aR r,Eh,[kZ,kV s 8 6 5,kV s 8 6 5,kV s 8 6 5,bR,.vec 4 s.vs (s.ss.map y8),.vec 5 s.vc (s.cs.map vev),.hole,.vec 5 s.ve (s.ev.map vev),kR r.day r.aq r.ae r.units]):=by
 have g1:∀h:j8,jL 4 h (I (.au 5 s.vs s.ls)) (I (Iv (j9 .i64 ((s.ls:Int)-1))))=I ⟨.dk 5 s.vs ((j9 .i64 ((s.ls:Int)-1)).toNat*4),Eh,El,h⟩:=fun h=>(yH hx).1
 have g2:fN 10 (I []) En 4 [kZ,kV s 8 6 5,kV s 8 6 5,kV s 8 6 5,bR,.vec 4 s.vs (s.ss.map y8),.vec 5 s.vc (s.cs.map vev),.hole,.vec 5 s.ve (s.ev.map vev),kZ] (I (.dk 5 s.vs ((j9 .i64 ((s.ls:Int)-1)).toNat*4)))=I ⟨aR r,Eh,El,[kZ,kV s 8 6 5,kV s 8 6 5,kV s 8 6 5,bR,.vec 4 s.vs (s.ss.map y8),.vec 5 s.vc (s.cs.map vev),.hole,.vec 5 s.ve (s.ev.map vev),kZ]⟩:=jbd jjk rfl rfl (yH (sz:=4) (b:=0) (v:=0) (h:=[]) hx).2
 rw[zh (show pr.bH 48=I sC from rfl) (by simp)]
 simp only[go_sem,seval,sC,g1,g2]<;>rfl
def jrt:Option HV→Option qc
 |none=>I eI
 |some s=>zq (s.ss.take s.ls) (j9 .i64 ((s.ls:Int)-1))
def f9 (l:Option (List ql)):Option (qc×Int×Int):=jx (f47 l) fun r=>match r with
 | .inl x=>cond (decide (x.2=0)) El (I (eI,x.1,x.2))
 | .inr o=>jx (jrt o) fun r=>I (r,0,0)
theorem W9 {l:Option (List ql)}{r}(h:f9 l=I r):jz pr (X pr) 9 [sl 5 vev l]=I (.az [aR r.1,Iv r.2.1,Iv r.2.2],Eh):=by
 unfold f9 at h
 obtain⟨x,h1,h⟩:=jy h
 obtain⟨hh,w,wa⟩:=jz7 h1
 rcases x with x|o
 ·rcases j6 h with⟨h2,h⟩|⟨h2,h⟩
  ·cases h
  ·cases h
   simp only[vk,wC]at w wa
   have this:∃hh,zg pr (X pr) 9 [sl 5 vev l] []=I (.az [aZ,Iv x.1,Iv x.2],Eh,hh):=by
    rw[zh (show pr.bH 9=I c9 from rfl) (by simp)]
    simp only[go_sem,seval,c9,w,wa,h2]
    exact⟨_,rfl⟩
   obtain⟨hh,this⟩:=this
   exact k9 rfl this (by first|rfl|simp only[go_sem,seval]) (by first|rfl|simp only[go_sem,seval])
 ·obtain⟨r,h2,h⟩:=jy h
  cases h
  rcases o with _|v
  ·cases h2
   simp only[vk,wC,yI,Bj]at w wa
   have w2:=jua
   have wb:yx 6 (aZ) [kZ,bR,bR,bR,bR,.vec 4 0 [aZ],kZ]=[kZ,bR,bR,bR,bR,.vec 4 0 [aZ]]:=by simp only[go_sem,seval]<;>rfl
   have this:∃hh,zg pr (X pr) 9 [sl 5 vev l] []=I (.az [aZ,Iv 0,Iv 0],Eh,hh):=by
    rw[zh (show pr.bH 9=I c9 from rfl) (by simp)]
    simp only[go_sem,seval,c9,w,wa,w2,wb]
    exact⟨_,rfl⟩
   obtain⟨hh,this⟩:=this
   exact k9 rfl this (by first|rfl|simp only[go_sem,seval]) (by first|rfl|simp only[go_sem,seval])
  ·simp only[vk,wC,yI,Bj]at w wa
   have w2:=j3u (s:=v) h2
   have wb:yx 9 (aR r) [kZ,kV v 8 6 5,kV v 8 6 5,kV v 8 6 5,bR,.vec 4 v.vs (v.ss.map y8),.vec 5 v.vc (v.cs.map vev),.hole,.vec 5 v.ve (v.ev.map vev),kR r.day r.aq r.ae r.units]=[kZ,kV v 8 6 5,kV v 8 6 5,kV v 8 6 5,bR,.vec 4 v.vs (v.ss.map y8),.vec 5 v.vc (v.cs.map vev),.hole,.vec 5 v.ve (v.ev.map vev)]:=by simp only[go_sem,seval]<;>rfl
   have this:∃hh,zg pr (X pr) 9 [sl 5 vev l] []=I (.az [aR r,Iv 0,Iv 0],Eh,hh):=by
    rw[zh (show pr.bH 9=I c9 from rfl) (by simp)]
    simp only[go_sem,seval,c9,w,wa,w2,wb]
    exact⟨_,rfl⟩
   obtain⟨hh,this⟩:=this
   exact k9 rfl this (by first|rfl|simp only[go_sem,seval]) (by first|rfl|simp only[go_sem,seval])
end Go.Z
end
