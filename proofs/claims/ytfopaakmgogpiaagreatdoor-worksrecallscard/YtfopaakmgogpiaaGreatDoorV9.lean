/- Chapter 10. -/
import Derived.Test.YtfopaakmgogpiaaGreatDoorV8
import Derived.Test.YtfopaakmgogpiaaGreatDoorW14
set_option linter.unusedVariables false
set_option linter.unusedSimpArgs false
set_option maxRecDepth 100000
set_option maxHeartbeats 4000000
noncomputable section
open Option renaming some→I,none→Ek
open Bool renaming false→Eh,true→En
namespace Go.Z
open Go Go.Abs Go.W
@[go_sem] theorem zao {b v l}:(qa.au b v l).flat=[.au b v l]:=rfl
@[go_sem] theorem zk2 {b v l}:zd (.au b v l)=En:=rfl
@[go_sem] theorem j97 {b v l}:qa.ct (.au b v l)=Eh:=rfl
theorem zfr:∀ x:ql,(vev x).flat.length=5:=fun _=>rfl
theorem jlh:∀ x:qc,(y9 x).flat.length=4:=fun _=>rfl
section
variable {h:za}{α:Type}
theorem zz {sz b v len:Nat}{l:List α}{i x}(hx:zn (l.take len) i=I x):jS sz h (I (.au b v len)) (I (Iv i))=I ⟨.dl b v (i.toNat*sz),Eh,Ek,h⟩∧l[i.toNat]?=I x:=by
 unfold zn at hx
 split at hx
 ·rename_i hi
  have h2:=(List.getElem?_eq_some_iff.1 hx).1
  rw[List.length_take]at h2
  have h3:i.toNat<len:=by omega
  refine⟨?_,?_⟩
  ·have:=jb1 (sz:=sz) (h:=h) (b:=b) (v:=v) (k:=.i64) h3
   rw[Int.toNat_of_nonneg hi]at this
   exact this
  ·rw[List.getElem?_take,if_pos h3]at hx
   exact hx
 ·cases hx
theorem jvk {sz b v len:Nat}{i}(hi:0≤i)(hl:i≤(len:Int)):rE sz h (I (.au b v len)) Ek (I (I (Iv i)))=I ⟨.au b v i.toNat,Eh,Ek,h⟩:=by
 have:rO len len (I (I (Iv i)))=I i.toNat:=by
  simp only[rO,zX]
  cases i with
  |ofNat n=>
   have h1:((n:Nat):Int)≤(len:Int):=hl
   have h2:n≤len:=by omega
   simp only[Nat.ble_eq_true_of_le h2,cT]
   rfl
  |negSucc n=>omega
 simp only[rE,this]
 rfl
def rK (xs:List α)(len:Nat)(x:α):Option (List α):=if len≤xs.length∧len+1≤1073741824 then I (xs.take len++[x])else Ek
theorem JL {h0 b v len r sz bytes:Nat}{c:Bool}{f:α→qa}{l l':List α}{x}(hp:rK l len x=I l')(hb:h[b]?=I (.vec sz v (l.map f)))(hx:zr 0 [f x]=En)(hz:0<sz)(Vj:bytes≤4096)(hr:r<1000):
  oE h0 r sz bytes h (I (.au b v len)) (I (.list c sz [f x]))=I ⟨.au b (v+1) (len+1),Eh,Ek,h.set b (.vec sz (v+1) (l'.map f))⟩:=by
 unfold rK at hp
 split at hp
 ·rename_i hl
  cases hp
  have:=jco (h:=h) (h0:=h0) (c:=c) (ys:=[f x]) hb (by rw[List.length_map];exact hl.1) (by simpa using hl.2) Vj hz hx hr
  rw[this]
  simp[List.map_take]
 ·cases hp
end
structure HV where
 ev:List ql
 ve:Nat
 cs:List ql
 lc:Nat
 vc:Nat
 ss:List qc
 ls:Nat
 vs:Nat
abbrev kV (v:HV)(a b c:Nat):qn:=.cells [(.au a v.ve v.ev.length,Eh),(.au b v.vc v.lc,Eh),(.au c v.vs v.ls,Eh)]
theorem jmh {n st}(h:ko n (st.heap.take n)=Eh):gc n st=st:=by
 unfold gc
 rw[h,Bool.and_false,cond_false]
 cases Nat.ble st.heap.length n<;>rfl
theorem q09 {α:Type}{l l':List α}{x}(h:rK l l.length x=I l'):l'.length=l.length+1:=by
 unfold rK at h
 split at h
 ·cases h;simp
 ·cases h
def IL (s:HV)(e:ql):Option (Int×HV):=
 cond (decide (e.number=j6 .i64 ((s.ev.length:Int)+1)))
  (cond (decide (e.kind=([117,110,100,111]:List UInt8)))
   (jw (f53 (decide ((s.lc:Int)=0)) 12) fun e1=>
   cond (decide (0<(s.lc:Int)))
    (jw (zn (s.cs.take s.lc) (max 0 (j6 .i64 ((s.lc:Int)-1)))) fun x=>
    jw (f53 (decide (x.kind=([115,104,105,112]:List UInt8))) 19) fun e2=>
    jw (f51 (I [e1,e2])) fun e3=>
    cond (decide (e3=0))
     (cond (decide (0≤j6 .i64 ((s.lc:Int)-1)∧j6 .i64 ((s.lc:Int)-1)≤(s.lc:Int)∧s.lc≤s.ls))
      (jw (rK s.ev s.ev.length e) fun ev=>I (0,{ s with ev:=ev,ve:=s.ve+1,lc:=(j6 .i64 ((s.lc:Int)-1)).toNat,ls:=s.lc }))
      Ek)
     (I (e3,s)))
    (jw (f53 Eh 19) fun e2=>jw (f51 (I [e1,e2])) fun e3=>cond (decide (e3=0)) Ek (I (e3,s))))
   (jw (zn (s.ss.take s.ls) (j6 .i64 ((s.ls:Int)-1))) fun r=>
   jw (f121 r e) fun v=>
   cond (decide (v.2=0))
    (jw (rK s.cs s.lc e) fun cs=>jw (rK s.ss s.ls v.1) fun ss=>jw (rK s.ev s.ev.length e) fun ev=>
    I (0,{ ev:=ev,ve:=s.ve+1,cs:=cs,lc:=s.lc+1,vc:=s.vc+1,ss:=ss,ls:=s.ls+1,vs:=s.vs+1 }))
    (I (v.2,s))))
  (I (11,s))
theorem jlo:decide (((([]:List qa).length:Nat):Int)=0)=En:=rfl
theorem zir:decide ((0:Int)<((([]:List qa).length:Nat):Int))=Eh:=rfl
theorem zf1:decide ((0:Int)<((0:Nat):Int))=Eh:=rfl
def eG:qc:=⟨0,Ek,Ek,Ek⟩
def IK (e:ql):Option (Int×Option HV):=
 cond (decide (e.number=j6 .i64 1))
  (cond (decide (e.kind=([117,110,100,111]:List UInt8)))
   (jw (f53 En 12) fun e1=>jw (f53 Eh 19) fun e2=>jw (f51 (I [e1,e2])) fun e3=>cond (decide (e3=0)) Ek (I (e3,Ek)))
   (jw (f121 eG e) fun v=>
   cond (decide (v.2=0))
    (I (0,I { ev:=[e],ve:=0,cs:=[e],lc:=1,vc:=0,ss:=[eG,v.1],ls:=2,vs:=1 }))
    (I (v.2,Ek))))
  (I (11,Ek))
def Pb (s:Option HV)(e:ql):Option (Int×Option HV):=match s with
 |none=>IK e
 |some s=>jw (IL s e) fun q=>I (q.1,I q.2)
def Bz (l:Option (List ql))(x:Int×Option HV):Option ((Int×Option HV)⊕((Int×Int×Option HV)⊕(Int×Option HV))):=
 cond (decide (x.1<((l.getD []).length:Int)))
  (jw (zn (l.getD []) x.1) fun e=>
  jw (f11 e) fun c=>
  cond (decide (c=0))
   (jw (f66 e) fun e2=>
   jw (Pb x.2 e2) fun q=>
   cond (decide (q.1=0))
    (I (.inl (j6 .i64 (x.1+1),q.2)))
    (I (.inr (.inl (j6 .i64 (x.1+1),q.1,q.2)))))
   (I (.inr (.inl (j6 .i64 (x.1+1),c,x.2)))))
  (I (.inr (.inr x)))
def f47 (l:Option (List ql)):Option ((Int×Int)⊕Option HV):=
 cond (decide (1000<((l.getD []).length:Int)))
  (I (.inl (0,5)))
  (jw (aY (Bz l) (0,Ek)) fun d=>match d with
  | .inl d=>I (.inl (d.1,d.2.1))
  | .inr d=>I (.inr d.2))
theorem j5w {s:HV}{r:qc}(hx:zn (s.ss.take s.ls) (j6 .i64 ((s.ls:Int)-1))=I r):ze pr (X pr) 48 [.ptr 3 0] [kZ,.hole,kO,kV s 8 6 5,bR,.vec 4 s.vs (s.ss.map y9),.vec 5 s.vc (s.cs.map vev),.hole,.vec 5 s.ve (s.ev.map vev)]=I (aR r,Eh,[kZ,.hole,kO,kV s 8 6 5,bR,.vec 4 s.vs (s.ss.map y9),.vec 5 s.vc (s.cs.map vev),.hole,.vec 5 s.ve (s.ev.map vev),kR r.day r.ar r.ae r.units]):=by
 have g1:∀h:za,jS 4 h (I (.au 5 s.vs s.ls)) (I (Iv (j6 .i64 ((s.ls:Int)-1))))=I ⟨.dl 5 s.vs ((j6 .i64 ((s.ls:Int)-1)).toNat*4),Eh,Ek,h⟩:=fun h=>(zz hx).1
 have g2:fO 10 (I []) En 4 [kZ,.hole,kO,kV s 8 6 5,bR,.vec 4 s.vs (s.ss.map y9),.vec 5 s.vc (s.cs.map vev),.hole,.vec 5 s.ve (s.ev.map vev),kZ] (I (.dl 5 s.vs ((j6 .i64 ((s.ls:Int)-1)).toNat*4)))=I ⟨aR r,Eh,Ek,[kZ,.hole,kO,kV s 8 6 5,bR,.vec 4 s.vs (s.ss.map y9),.vec 5 s.vc (s.cs.map vev),.hole,.vec 5 s.ve (s.ev.map vev),kZ]⟩:=jdk jlh rfl rfl (zz (sz:=4) (b:=0) (v:=0) (h:=[]) hx).2
 rw[zf (show pr.bB 48=I sS from rfl) (by simp)]
 simp only[go_sem,seval,sS,g1,g2]<;>rfl
theorem j72 {s:HV}{e:ql}{q}(h:IL s e=I q):∃hh,ze pr (X pr) 65 [.ptr 3 0,aE e] [kZ,.hole,kO,kV s 8 6 5,bR,.vec 4 s.vs (s.ss.map y9),.vec 5 s.vc (s.cs.map vev),.hole,.vec 5 s.ve (s.ev.map vev)]=I (Iv q.1,Eh,hh)∧y5 9 (Iv q.1) hh=[kZ,.hole,kO,.cells [(.au 8 q.2.ve q.2.ev.length,Eh),(.au 6 q.2.vc q.2.lc,Eh),(.au 5 q.2.vs q.2.ls,Eh)],bR,.vec 4 q.2.vs (q.2.ss.map y9),.vec 5 q.2.vc (q.2.cs.map vev),.hole,.vec 5 q.2.ve (q.2.ev.map vev)]:=by
 unfold IL at h
 rcases jz h with⟨h1,h⟩|⟨h1,h⟩
 ·rcases jz h with⟨h2,h⟩|⟨h2,h⟩
  ·obtain⟨e1,k1,h⟩:=jx h
   have w1:=fC k1
   rcases jz h with⟨h3,h⟩|⟨h3,h⟩
   ·obtain⟨x,k2,h⟩:=jx h
    obtain⟨e2,k3,h⟩:=jx h
    obtain⟨e3,k4,h⟩:=jx h
    have w2:=fC k3
    have w3:jy pr (X pr) 51 [.list Eh 1 [Iv e1,Iv e2]]=I (Iv e3,Eh):=lV k4
    have g1:∀h:za,jS 5 h (I (.au 6 s.vc s.lc)) (I (Iv (max 0 (j6 .i64 ((s.lc:Int)-1)))))=I ⟨.dl 6 s.vc ((max 0 (j6 .i64 ((s.lc:Int)-1))).toNat*5),Eh,Ek,h⟩:=fun h=>(zz k2).1
    have g2:fO 9 Ek Eh 1 [kZ,.hole,kO,kV s 8 6 5,bR,.vec 4 s.vs (s.ss.map y9),.vec 5 s.vc (s.cs.map vev),.hole,.vec 5 s.ve (s.ev.map vev)] (I (.dl 6 s.vc ((max 0 (j6 .i64 ((s.lc:Int)-1))).toNat*5+1)))=I ⟨.str x.kind,Eh,Ek,[kZ,.hole,kO,kV s 8 6 5,bR,.vec 4 s.vs (s.ss.map y9),.vec 5 s.vc (s.cs.map vev),.hole,.vec 5 s.ve (s.ev.map vev)]⟩:=jrx (f:=vev) (o:=1) zfr rfl rfl (zz (sz:=4) (b:=0) (v:=0) (h:=[]) k2).2 rfl
    rcases jz h with⟨h4,h⟩|⟨h4,h⟩
    ·rcases jz h with⟨h5,h⟩|⟨_,h⟩
     ·obtain⟨ev,gA,h⟩:=jx h
      cases h
      have c5:=of_decide_eq_true h5
      have hln:ev.length=s.ev.length+1:=q09 gA
      have g3:∀h:za,rE 5 h (I (.au 6 s.vc s.lc)) Ek (I (I (Iv (j6 .i64 ((s.lc:Int)-1)))))=I ⟨.au 6 s.vc (j6 .i64 ((s.lc:Int)-1)).toNat,Eh,Ek,h⟩:=fun h=>jvk c5.1 c5.2.1
      have g4:∀h:za,rE 4 h (I (.au 5 s.vs s.ls)) Ek (I (I (Iv (s.lc:Int))))=I ⟨.au 5 s.vs s.lc,Eh,Ek,h⟩:=fun h=>jvk (by omega) (by have:=c5.2.2;omega)
      have g5:oE 9 0 5 88 [kZ,.hole,kO,.cells [(.au 8 s.ve s.ev.length,Eh),(.au 6 s.vc (j6 .i64 ((s.lc:Int)-1)).toNat,Eh),(.au 5 s.vs s.lc,Eh)],bR,.vec 4 s.vs (s.ss.map y9),.vec 5 s.vc (s.cs.map vev),.hole,.vec 5 s.ve (s.ev.map vev),.hole] (I (.au 8 s.ve s.ev.length)) (I (.list Eh 5 [aE e]))=I ⟨.au 8 (s.ve+1) (s.ev.length+1),Eh,Ek,[kZ,.hole,kO,.cells [(.au 8 s.ve s.ev.length,Eh),(.au 6 s.vc (j6 .i64 ((s.lc:Int)-1)).toNat,Eh),(.au 5 s.vs s.lc,Eh)],bR,.vec 4 s.vs (s.ss.map y9),.vec 5 s.vc (s.cs.map vev),.hole,.vec 5 (s.ve+1) (ev.map vev),.hole]⟩:=JL (f:=vev) (x:=e) gA rfl (by simp only[go_sem,seval]) (by decide) (by decide) (by decide)
      refine⟨[kZ,.hole,kO,.cells [(.au 8 (s.ve+1) (s.ev.length+1),Eh),(.au 6 s.vc (j6 .i64 ((s.lc:Int)-1)).toNat,Eh),(.au 5 s.vs s.lc,Eh)],bR,.vec 4 s.vs (s.ss.map y9),.vec 5 s.vc (s.cs.map vev),.hole,.vec 5 (s.ve+1) (ev.map vev),.hole],?_,?_⟩
      ·rw[zf (show pr.bB 65=I iz from rfl) (by simp)]
       simp only[go_sem,seval,iz,h1,h2,w1,h3,g1,g2,w2,w3,h4,g3,g4,g5]<;>rfl
      ·simp only[hln]
       simp only[go_sem,seval]<;>rfl
     ·cases h
    ·cases h
     refine⟨[kZ,.hole,kO,kV s 8 6 5,bR,.vec 4 s.vs (s.ss.map y9),.vec 5 s.vc (s.cs.map vev),.hole,.vec 5 s.ve (s.ev.map vev)],?_,sR rfl⟩
     rw[zf (show pr.bB 65=I iz from rfl) (by simp)]
     simp only[go_sem,seval,iz,h1,h2,w1,h3,g1,g2,w2,w3,h4]<;>rfl
   ·obtain⟨e2,k3,h⟩:=jx h
    obtain⟨e3,k4,h⟩:=jx h
    have w2:=fC k3
    have w3:jy pr (X pr) 51 [.list Eh 1 [Iv e1,Iv e2]]=I (Iv e3,Eh):=lV k4
    rcases jz h with⟨h4,h⟩|⟨h4,h⟩
    ·cases h
    ·cases h
     refine⟨[kZ,.hole,kO,kV s 8 6 5,bR,.vec 4 s.vs (s.ss.map y9),.vec 5 s.vc (s.cs.map vev),.hole,.vec 5 s.ve (s.ev.map vev)],?_,sR rfl⟩
     rw[zf (show pr.bB 65=I iz from rfl) (by simp)]
     simp only[go_sem,seval,iz,h1,h2,w1,h3,w2,w3,h4]<;>rfl
  ·obtain⟨r,k1,h⟩:=jx h
   obtain⟨v,k2,h⟩:=jx h
   have w1:=j5w k1
   have wa:y5 9 (aR r) [kZ,.hole,kO,kV s 8 6 5,bR,.vec 4 s.vs (s.ss.map y9),.vec 5 s.vc (s.cs.map vev),.hole,.vec 5 s.ve (s.ev.map vev),kR r.day r.ar r.ae r.units]=[kZ,.hole,kO,kV s 8 6 5,bR,.vec 4 s.vs (s.ss.map y9),.vec 5 s.vc (s.cs.map vev),.hole,.vec 5 s.ve (s.ev.map vev)]:=by simp only[go_sem,seval]<;>rfl
   have w2:jy pr (X pr) 121 [aR r,aE e]=I (.ay [aR v.1,Iv v.2],Eh):=jsx k2
   rcases jz h with⟨h3,h⟩|⟨h3,h⟩
   ·obtain⟨cs,hcs,h⟩:=jx h
    obtain⟨ss,xH,h⟩:=jx h
    obtain⟨ev,gA,h⟩:=jx h
    cases h
    have hln:ev.length=s.ev.length+1:=q09 gA
    have g1:oE 9 0 5 88 [kZ,.hole,kO,kV s 8 6 5,bR,.vec 4 s.vs (s.ss.map y9),.vec 5 s.vc (s.cs.map vev),.hole,.vec 5 s.ve (s.ev.map vev),.hole,.hole] (I (.au 6 s.vc s.lc)) (I (.list Eh 5 [aE e]))=I ⟨.au 6 (s.vc+1) (s.lc+1),Eh,Ek,[kZ,.hole,kO,kV s 8 6 5,bR,.vec 4 s.vs (s.ss.map y9),.vec 5 (s.vc+1) (cs.map vev),.hole,.vec 5 s.ve (s.ev.map vev),.hole,.hole]⟩:=JL (f:=vev) (x:=e) hcs rfl (by simp only[go_sem,seval]) (by decide) (by decide) (by decide)
    have g2:oE 9 1 4 80 [kZ,.hole,kO,kV s 8 6 5,bR,.vec 4 s.vs (s.ss.map y9),.vec 5 (s.vc+1) (cs.map vev),.hole,.vec 5 s.ve (s.ev.map vev),.hole,.hole] (I (.au 5 s.vs s.ls)) (I (.list Eh 4 [aR v.1]))=I ⟨.au 5 (s.vs+1) (s.ls+1),Eh,Ek,[kZ,.hole,kO,kV s 8 6 5,bR,.vec 4 (s.vs+1) (ss.map y9),.vec 5 (s.vc+1) (cs.map vev),.hole,.vec 5 s.ve (s.ev.map vev),.hole,.hole]⟩:=JL (f:=y9) (x:=v.1) xH rfl (by simp only[go_sem,seval]) (by decide) (by decide) (by decide)
    have g3:oE 11 0 5 88 [kZ,.hole,kO,.cells [(.au 8 s.ve s.ev.length,Eh),(.au 6 (s.vc+1) (s.lc+1),Eh),(.au 5 (s.vs+1) (s.ls+1),Eh)],bR,.vec 4 (s.vs+1) (ss.map y9),.vec 5 (s.vc+1) (cs.map vev),.hole,.vec 5 s.ve (s.ev.map vev),.hole,.hole,.hole] (I (.au 8 s.ve s.ev.length)) (I (.list Eh 5 [aE e]))=I ⟨.au 8 (s.ve+1) (s.ev.length+1),Eh,Ek,[kZ,.hole,kO,.cells [(.au 8 s.ve s.ev.length,Eh),(.au 6 (s.vc+1) (s.lc+1),Eh),(.au 5 (s.vs+1) (s.ls+1),Eh)],bR,.vec 4 (s.vs+1) (ss.map y9),.vec 5 (s.vc+1) (cs.map vev),.hole,.vec 5 (s.ve+1) (ev.map vev),.hole,.hole,.hole]⟩:=JL (f:=vev) (x:=e) gA rfl (by simp only[go_sem,seval]) (by decide) (by decide) (by decide)
    refine⟨[kZ,.hole,kO,.cells [(.au 8 (s.ve+1) (s.ev.length+1),Eh),(.au 6 (s.vc+1) (s.lc+1),Eh),(.au 5 (s.vs+1) (s.ls+1),Eh)],bR,.vec 4 (s.vs+1) (ss.map y9),.vec 5 (s.vc+1) (cs.map vev),.hole,.vec 5 (s.ve+1) (ev.map vev),.hole,.hole,.hole],?_,?_⟩
    ·rw[zf (show pr.bB 65=I iz from rfl) (by simp)]
     simp only[go_sem,seval,iz,h1,h2,w1,wa,w2,h3,g1,g2,g3]<;>rfl
    ·simp only[hln]
     simp only[go_sem,seval]<;>rfl
   ·cases h
    refine⟨[kZ,.hole,kO,kV s 8 6 5,bR,.vec 4 s.vs (s.ss.map y9),.vec 5 s.vc (s.cs.map vev),.hole,.vec 5 s.ve (s.ev.map vev)],?_,sR rfl⟩
    rw[zf (show pr.bB 65=I iz from rfl) (by simp)]
    simp only[go_sem,seval,iz,h1,h2,w1,wa,w2,h3]<;>rfl
 ·cases h
  refine⟨[kZ,.hole,kO,kV s 8 6 5,bR,.vec 4 s.vs (s.ss.map y9),.vec 5 s.vc (s.cs.map vev),.hole,.vec 5 s.ve (s.ev.map vev)],?_,sR rfl⟩
  rw[zf (show pr.bB 65=I iz from rfl) (by simp)]
  simp only[go_sem,seval,iz,h1]<;>rfl
theorem jur:ze pr (X pr) 48 [.ptr 3 0] [kZ,.hole,kO,bR,bR,.vec 4 0 [aZ]]=I (aZ,Eh,[kZ,.hole,kO,bR,bR,.vec 4 0 [aZ],kZ]):=by
 have g1:∀h:za,jS 4 h (I (.au 5 0 1)) (I (Iv (j6 .i64 0)))=I ⟨.dl 5 0 0,Eh,Ek,h⟩:=fun h=>(zz (l:=[eG]) (x:=eG) rfl).1
 have g2:fO 7 (I []) En 4 [kZ,.hole,kO,bR,bR,.vec 4 0 [aZ],kZ] (I (.dl 5 0 0))=I ⟨aZ,Eh,Ek,[kZ,.hole,kO,bR,bR,.vec 4 0 [aZ],kZ]⟩:=rfl
 rw[zf (show pr.bB 48=I sS from rfl) (by simp)]
 simp only[go_sem,seval,sS,g1,g2]<;>rfl
theorem jv5 {e:ql}{q}(h:IK e=I q):∃hh,ze pr (X pr) 65 [.ptr 3 0,aE e] [kZ,.hole,kO,bR,bR,.vec 4 0 [aZ]]=I (Iv q.1,Eh,hh)∧y5 6 (Iv q.1) hh=(match q.2 with
  |none=>[kZ,.hole,kO,bR,bR,.vec 4 0 [aZ]]
  |some v=>[kZ,.hole,kO,kV v 8 6 5,bR,.vec 4 v.vs (v.ss.map y9),.vec 5 v.vc (v.cs.map vev),.hole,.vec 5 v.ve (v.ev.map vev)]):=by
 unfold IK at h
 rcases jz h with⟨h1,h⟩|⟨h1,h⟩
 ·rcases jz h with⟨h2,h⟩|⟨h2,h⟩
  ·obtain⟨e1,k1,h⟩:=jx h
   obtain⟨e2,k3,h⟩:=jx h
   obtain⟨e3,k4,h⟩:=jx h
   have w1:=fC k1
   have w2:=fC k3
   have w3:jy pr (X pr) 51 [.list Eh 1 [Iv e1,Iv e2]]=I (Iv e3,Eh):=lV k4
   rcases jz h with⟨h4,h⟩|⟨h4,h⟩
   ·cases h
   ·cases h
    refine⟨[kZ,.hole,kO,bR,bR,.vec 4 0 [aZ]],?_,sR rfl⟩
    rw[zf (show pr.bB 65=I iz from rfl) (by simp)]
    simp only[go_sem,seval,iz,h1,h2,w1,w2,w3,h4,jlo,zir,zf1]<;>rfl
  ·obtain⟨v,k2,h⟩:=jx h
   have w1:=jur
   have wa:y5 6 (aZ) [kZ,.hole,kO,bR,bR,.vec 4 0 [aZ],kZ]=[kZ,.hole,kO,bR,bR,.vec 4 0 [aZ]]:=by simp only[go_sem,seval]<;>rfl
   have w2:jy pr (X pr) 121 [aZ,aE e]=I (.ay [aR v.1,Iv v.2],Eh):=jsx k2
   rcases jz h with⟨h3,h⟩|⟨h3,h⟩
   ·cases h
    have g1:oE 6 0 5 88 [kZ,.hole,kO,bR,bR,.vec 4 0 [aZ],.hole,.hole] (I (Nl)) (I (.list Eh 5 [aE e]))=I ⟨.au 6 0 1,Eh,Ek,[kZ,.hole,kO,bR,bR,.vec 4 0 [aZ],.vec 5 0 [aE e],.hole]⟩:=by apply q5t<;>first|rfl|decide|(simp only[go_sem,seval]<;>done)|simp
    have g2:oE 6 1 4 80 [kZ,.hole,kO,bR,bR,.vec 4 0 [aZ],.vec 5 0 [aE e],.hole] (I (.au 5 0 1)) (I (.list Eh 4 [aR v.1]))=I ⟨.au 5 1 2,Eh,Ek,[kZ,.hole,kO,bR,bR,.vec 4 1 [aZ,aR v.1],.vec 5 0 [aE e],.hole]⟩:=JL (f:=y9) (l:=[eG]) (l':=[eG,v.1]) (x:=v.1) rfl rfl (by simp only[go_sem,seval]) (by decide) (by decide) (by decide)
    have g3:oE 8 0 5 88 [kZ,.hole,kO,.cells [(Nl,Eh),(.au 6 0 1,Eh),(.au 5 1 2,Eh)],bR,.vec 4 1 [aZ,aR v.1],.vec 5 0 [aE e],.hole,.hole] (I (Nl)) (I (.list Eh 5 [aE e]))=I ⟨.au 8 0 1,Eh,Ek,[kZ,.hole,kO,.cells [(Nl,Eh),(.au 6 0 1,Eh),(.au 5 1 2,Eh)],bR,.vec 4 1 [aZ,aR v.1],.vec 5 0 [aE e],.hole,.vec 5 0 [aE e]]⟩:=by apply q5t<;>first|rfl|decide|(simp only[go_sem,seval]<;>done)|simp
    refine⟨[kZ,.hole,kO,.cells [(.au 8 0 1,Eh),(.au 6 0 1,Eh),(.au 5 1 2,Eh)],bR,.vec 4 1 [aZ,aR v.1],.vec 5 0 [aE e],.hole,.vec 5 0 [aE e]],?_,?_⟩
    ·rw[zf (show pr.bB 65=I iz from rfl) (by simp)]
     simp only[go_sem,seval,iz,h1,h2,w1,wa,w2,h3,g1,g2,g3,jlo]<;>rfl
    ·simp only[go_sem,seval,(show ∀k b v l,k≤b→below k (.au b v l)=Eh from fun k b v l h=>by rw[q9a];exact dF (by omega))]<;>rfl
   ·cases h
    refine⟨[kZ,.hole,kO,bR,bR,.vec 4 0 [aZ]],?_,sR rfl⟩
    rw[zf (show pr.bB 65=I iz from rfl) (by simp)]
    simp only[go_sem,seval,iz,h1,h2,w1,wa,w2,h3]<;>rfl
 ·cases h
  refine⟨[kZ,.hole,kO,bR,bR,.vec 4 0 [aZ]],?_,sR rfl⟩
  rw[zf (show pr.bB 65=I iz from rfl) (by simp)]
  simp only[go_sem,seval,iz,h1]<;>rfl
def nz:Option HV→za
 |none=>[kZ,.hole,kO,bR,bR,.vec 4 0 [aZ]]
 |some v=>[kZ,.hole,kO,kV v 8 6 5,bR,.vec 4 v.vs (v.ss.map y9),.vec 5 v.vc (v.cs.map vev),.hole,.vec 5 v.ve (v.ev.map vev)]
def oX (l:Option (List ql))(x:Int×Option HV):qg:=⟨[(2,.ptr 2 0,Eh),(5,.ptr 3 0,Eh),(14,sl 5 vev l,Eh),(15,Lv l,Eh),(16,Iv x.1,Eh)],nz x.2⟩
def vE (l:Option (List ql)):(Int×Int×Option HV)⊕(Int×Option HV)→qi×qg
 | .inl d=>(.ret,⟨[(2,.ptr 2 0,Eh),(3,Iv d.1,Eh),(4,Iv d.2.1,Eh)],nz d.2.2⟩)
 | .inr d=>(.exit 0,⟨[(2,.ptr 2 0,Eh),(5,.ptr 3 0,Eh),(14,sl 5 vev l,Eh),(15,Lv l,Eh),(16,Iv d.1,Eh),(17,.bool Eh,Eh)],nz d.2⟩)
theorem j1d (l:Option (List ql))(x:Int×Option HV)(r)(h:Bz l x=I r):yr pr pN (oX l) (vE l) x r:=by
 rcases x with⟨i,o⟩
 unfold Bz at h
 rcases jz h with⟨h1,h⟩|⟨h1,h⟩
 ·obtain⟨e,h2,h⟩:=jx h
  obtain⟨c,h3,h⟩:=jx h
  have w1:jy pr (X pr) 11 [aE e]=I (Iv c,Eh):=W11 h3
  rcases jz h with⟨h4,h⟩|⟨h4,h⟩
  ·obtain⟨e2,h5,h⟩:=jx h
   obtain⟨q,h6,h⟩:=jx h
   have w2:jy pr (X pr) 66 [aE e]=I (aE e2,Eh):=W66 h5
   rcases o with _|s
   ·obtain⟨hh,w3,wa⟩:=jv5 (e:=e2) h6
    rcases q with⟨q1,q2⟩
    rcases q2 with _|v
    ·simp only at wa
     rcases jz h with⟨h7,h⟩|⟨h7,h⟩
     ·cases h
      exact kN (bF:=oX l (j6 .i64 (i+1),Ek)) (by simp only[go_sem,seval,pN,oX,nz,h1,yx h2,w1,h4,w2,w3,wa,h7]<;>rfl) (lj (Nat.le_refl _))
     ·cases h
      exact zu (by simp only[go_sem,seval,pN,oX,nz,h1,yx h2,w1,h4,w2,w3,wa,h7,vE]<;>rfl)
    ·simp only at wa
     rcases jz h with⟨h7,h⟩|⟨h7,h⟩
     ·cases h
      exact kN (bF:=oX l (j6 .i64 (i+1),I v)) (by simp only[go_sem,seval,pN,oX,nz,h1,yx h2,w1,h4,w2,w3,wa,h7]<;>rfl) (jmh rfl)
     ·cases h
      exact zu (by simp only[go_sem,seval,pN,oX,nz,h1,yx h2,w1,h4,w2,w3,wa,h7,vE]<;>rfl)
   ·obtain⟨q0,h8,h9⟩:=jx h6
    cases h9
    obtain⟨hh,w3,wa⟩:=j72 (e:=e2) h8
    rcases jz h with⟨h7,h⟩|⟨h7,h⟩
    ·cases h
     exact kN (bF:=oX l (j6 .i64 (i+1),I q0.2)) (by simp only[go_sem,seval,pN,oX,nz,h1,yx h2,w1,h4,w2,w3,wa,h7]<;>rfl) (lj (Nat.le_refl _))
    ·cases h
     exact zu (by simp only[go_sem,seval,pN,oX,nz,h1,yx h2,w1,h4,w2,w3,wa,h7,vE]<;>rfl)
  ·cases h
   rcases o with _|s
   ·exact zu (by simp only[go_sem,seval,pN,oX,nz,h1,yx h2,w1,h4,vE]<;>rfl)
   ·exact zu (by simp only[go_sem,seval,pN,oX,nz,h1,yx h2,w1,h4,vE]<;>rfl)
 ·cases h
  exact zu (by simp only[go_sem,seval,pN,oX,h1,vE]<;>rfl)
theorem j4h:ze pr (X pr) 96 [] [kZ,.hole,kO,.hole]=I (.agg [Nl,Nl,.au 5 0 1],Eh,[kZ,.hole,kO,.hole,bR,.vec 4 0 [aZ]]):=by
 have JM:j8 pr (X pr) 5 Ek [(1,aZ,Eh),(0,.ptr 4 0,Eh)] [kZ,.hole,kO,.hole,kO,.hole] (.ia 0 4 1 [Iv 0,Nl,Nl,Nl] [(0,.tmp 1)])=I ⟨.au 5 0 1,Eh,Ek,[kZ,.hole,kO,.hole,kO,.vec 4 0 [aZ]]⟩:=rfl
 rw[zf (show pr.bB 96=I JN from rfl) (by simp)]
 simp only[go_sem,seval,JN,JM]<;>rfl
def zA:Option HV→za
 |none=>[kZ,.hole,bR,bR,bR,.vec 4 0 [aZ]]
 |some v=>[kZ,.hole,kV v 8 6 5,kV v 8 6 5,bR,.vec 4 v.vs (v.ss.map y9),.vec 5 v.vc (v.cs.map vev),.hole,.vec 5 v.ve (v.ev.map vev)]
def BT:Option HV→qa
 |none=>.agg [Nl,Nl,.au 5 0 1]
 |some v=>.agg [.au 8 v.ve v.ev.length,.au 6 v.vc v.lc,.au 5 v.vs v.ls]
def vF:(Int × Int)⊕Option HV→qa
 | .inl x=>.ay [.agg [Nl,Nl,Nl],Iv x.1,Iv x.2]
 | .inr o=>.ay [BT o,Iv 0,Iv 0]
def wQ:(Int × Int)⊕Option HV→za
 | .inl _=>[kZ,.hole]
 | .inr o=>zA o
theorem j29 {l r}(h:f47 l=I r):∃hh,ze pr (X pr) 47 [sl 5 vev l] [kZ,.hole]=I (vF r,Eh,hh)∧y5 2 (vF r) hh=wQ r:=by
 unfold f47 at h
 rcases jz h with⟨h1,h⟩|⟨h1,h⟩
 ·cases h
  refine⟨[kZ,.hole,kO],?_,?_⟩
  ·rw[zf (show pr.bB 47=I pO from rfl) (by simp)]
   simp only[go_sem,seval,pO,h1]<;>rfl
  ·simp only[go_sem,seval,vF,wQ]<;>rfl
 ·obtain⟨d,h2,h⟩:=jx h
  have w:=j4h
  have wa:y5 4 (.agg [Nl,Nl,.au 5 0 1]) [kZ,.hole,kO,.hole,bR,.vec 4 0 [aZ]]=[kZ,.hole,kO,.hole,bR,.vec 4 0 [aZ]]:=by simp only[go_sem,seval]<;>rfl
  have wl:X pr (.loop pN) ⟨[(2,.ptr 2 0,Eh),(5,.ptr 3 0,Eh),(14,sl 5 vev l,Eh),(15,Lv l,Eh),(16,Iv 0,Eh)],[kZ,.hole,kO,bR,bR,.vec 4 0 [aZ]]⟩=I (vE l d):=y8 (j1d l) (fun d=>by rcases d with d|d<;>(intro hh;cases hh)) h2
  rcases d with⟨d1,d2,d3⟩|⟨d1,d2⟩
  ·cases h
   simp only[vE]at wl
   rcases d3 with _|v
   ·refine⟨[kZ,.hole,kO,bR,bR,.vec 4 0 [aZ]],?_,?_⟩
    ·simp only[nz]at wl
     rw[zf (show pr.bB 47=I pO from rfl) (by simp)]
     simp only[go_sem,seval,pO,h1,w,wa,wl]<;>rfl
    ·simp only[go_sem,seval,vF,wQ]<;>rfl
   ·refine⟨[kZ,.hole,kO,kV v 8 6 5,bR,.vec 4 v.vs (v.ss.map y9),.vec 5 v.vc (v.cs.map vev),.hole,.vec 5 v.ve (v.ev.map vev)],?_,?_⟩
    ·simp only[nz]at wl
     rw[zf (show pr.bB 47=I pO from rfl) (by simp)]
     simp only[go_sem,seval,pO,h1,w,wa,wl]<;>rfl
    ·simp only[go_sem,seval,vF,wQ]<;>rfl
  ·cases h
   simp only[vE]at wl
   refine⟨zA d2,?_,?_⟩
   ·rw[zf (show pr.bB 47=I pO from rfl) (by simp)]
    rcases d2 with _|v
    ·simp only[nz]at wl
     simp only[go_sem,seval,pO,h1,w,wa,wl,BT,zA]<;>rfl
    ·simp only[nz]at wl
     simp only[go_sem,seval,pO,h1,w,wa,wl,BT,zA]<;>rfl
   ·rcases d2 with _|v
    ·simp only[go_sem,seval,vF,wQ,BT,zA]<;>rfl
    ·simp only[go_sem,seval,vF,wQ,BT,zA]<;>rfl
end Go.Z
namespace Go.Z
open Go Go.Abs Go.W
theorem jvt:ze pr (X pr) 48 [.ptr 1 0] [kZ,bR,bR,bR,bR,.vec 4 0 [aZ]]=I (aZ,Eh,[kZ,bR,bR,bR,bR,.vec 4 0 [aZ],kZ]):=by
 have g1:∀h:za,jS 4 h (I (.au 5 0 1)) (I (Iv (j6 .i64 0)))=I ⟨.dl 5 0 0,Eh,Ek,h⟩:=fun h=>(zz (l:=[eG]) (x:=eG) rfl).1
 have g2:fO 7 (I []) En 4 [kZ,bR,bR,bR,bR,.vec 4 0 [aZ],kZ] (I (.dl 5 0 0))=I ⟨aZ,Eh,Ek,[kZ,bR,bR,bR,bR,.vec 4 0 [aZ],kZ]⟩:=rfl
 rw[zf (show pr.bB 48=I sS from rfl) (by simp)]
 simp only[go_sem,seval,sS,g1,g2]<;>rfl
theorem j77 {s r}(hx:zn (s.ss.take s.ls) (j6 .i64 ((s.ls:Int)-1))=I r):ze pr (X pr) 48 [.ptr 1 0] [kZ,kV s 8 6 5,kV s 8 6 5,kV s 8 6 5,bR,.vec 4 s.vs (s.ss.map y9),.vec 5 s.vc (s.cs.map vev),.hole,.vec 5 s.ve (s.ev.map vev)]=I (aR r,Eh,[kZ,kV s 8 6 5,kV s 8 6 5,kV s 8 6 5,bR,.vec 4 s.vs (s.ss.map y9),.vec 5 s.vc (s.cs.map vev),.hole,.vec 5 s.ve (s.ev.map vev),kR r.day r.ar r.ae r.units]):=by
 have g1:∀h:za,jS 4 h (I (.au 5 s.vs s.ls)) (I (Iv (j6 .i64 ((s.ls:Int)-1))))=I ⟨.dl 5 s.vs ((j6 .i64 ((s.ls:Int)-1)).toNat*4),Eh,Ek,h⟩:=fun h=>(zz hx).1
 have g2:fO 10 (I []) En 4 [kZ,kV s 8 6 5,kV s 8 6 5,kV s 8 6 5,bR,.vec 4 s.vs (s.ss.map y9),.vec 5 s.vc (s.cs.map vev),.hole,.vec 5 s.ve (s.ev.map vev),kZ] (I (.dl 5 s.vs ((j6 .i64 ((s.ls:Int)-1)).toNat*4)))=I ⟨aR r,Eh,Ek,[kZ,kV s 8 6 5,kV s 8 6 5,kV s 8 6 5,bR,.vec 4 s.vs (s.ss.map y9),.vec 5 s.vc (s.cs.map vev),.hole,.vec 5 s.ve (s.ev.map vev),kZ]⟩:=jdk jlh rfl rfl (zz (sz:=4) (b:=0) (v:=0) (h:=[]) hx).2
 rw[zf (show pr.bB 48=I sS from rfl) (by simp)]
 simp only[go_sem,seval,sS,g1,g2]<;>rfl
def jr5:Option HV→Option qc
 |none=>I eG
 |some s=>zn (s.ss.take s.ls) (j6 .i64 ((s.ls:Int)-1))
def f9 (l:Option (List ql)):Option (qc×Int×Int):=jw (f47 l) fun r=>match r with
 | .inl x=>cond (decide (x.2=0)) Ek (I (eG,x.1,x.2))
 | .inr o=>jw (jr5 o) fun r=>I (r,0,0)
theorem W9 {l r}(h:f9 l=I r):jy pr (X pr) 9 [sl 5 vev l]=I (.ay [aR r.1,Iv r.2.1,Iv r.2.2],Eh):=by
 unfold f9 at h
 obtain⟨x,h1,h⟩:=jx h
 obtain⟨hh,w,wa⟩:=j29 h1
 rcases x with x|o
 ·rcases jz h with⟨h2,h⟩|⟨h2,h⟩
  ·cases h
  ·cases h
   simp only[vF,wQ]at w wa
   have this:∃hh,ze pr (X pr) 9 [sl 5 vev l] []=I (.ay [aZ,Iv x.1,Iv x.2],Eh,hh):=by
    rw[zf (show pr.bB 9=I c9 from rfl) (by simp)]
    simp only[go_sem,seval,c9,w,wa,h2]
    exact⟨_,rfl⟩
   obtain⟨hh,this⟩:=this
   exact kr rfl this (by first|rfl|simp only[go_sem,seval]) (by first|rfl|simp only[go_sem,seval])
 ·obtain⟨r,h2,h⟩:=jx h
  cases h
  rcases o with _|v
  ·cases h2
   simp only[vF,wQ,zA,BT]at w wa
   have w2:=jvt
   have wb:y5 6 (aZ) [kZ,bR,bR,bR,bR,.vec 4 0 [aZ],kZ]=[kZ,bR,bR,bR,bR,.vec 4 0 [aZ]]:=by simp only[go_sem,seval]<;>rfl
   have this:∃hh,ze pr (X pr) 9 [sl 5 vev l] []=I (.ay [aZ,Iv 0,Iv 0],Eh,hh):=by
    rw[zf (show pr.bB 9=I c9 from rfl) (by simp)]
    simp only[go_sem,seval,c9,w,wa,w2,wb]
    exact⟨_,rfl⟩
   obtain⟨hh,this⟩:=this
   exact kr rfl this (by first|rfl|simp only[go_sem,seval]) (by first|rfl|simp only[go_sem,seval])
  ·simp only[vF,wQ,zA,BT]at w wa
   have w2:=j77 (s:=v) h2
   have wb:y5 9 (aR r) [kZ,kV v 8 6 5,kV v 8 6 5,kV v 8 6 5,bR,.vec 4 v.vs (v.ss.map y9),.vec 5 v.vc (v.cs.map vev),.hole,.vec 5 v.ve (v.ev.map vev),kR r.day r.ar r.ae r.units]=[kZ,kV v 8 6 5,kV v 8 6 5,kV v 8 6 5,bR,.vec 4 v.vs (v.ss.map y9),.vec 5 v.vc (v.cs.map vev),.hole,.vec 5 v.ve (v.ev.map vev)]:=by simp only[go_sem,seval]<;>rfl
   have this:∃hh,ze pr (X pr) 9 [sl 5 vev l] []=I (.ay [aR r,Iv 0,Iv 0],Eh,hh):=by
    rw[zf (show pr.bB 9=I c9 from rfl) (by simp)]
    simp only[go_sem,seval,c9,w,wa,w2,wb]
    exact⟨_,rfl⟩
   obtain⟨hh,this⟩:=this
   exact kr rfl this (by first|rfl|simp only[go_sem,seval]) (by first|rfl|simp only[go_sem,seval])
end Go.Z
end
