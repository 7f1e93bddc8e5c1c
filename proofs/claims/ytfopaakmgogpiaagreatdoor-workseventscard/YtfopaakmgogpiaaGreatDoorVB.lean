/- Chapter 10. -/
import Derived.Test.YtfopaakmgogpiaaGreatDoorV9
set_option linter.unusedVariables false
set_option linter.unusedSimpArgs false
set_option maxRecDepth 100000
set_option maxHeartbeats 4000000
open Bool renaming false→I
open Option renaming some→Ef,none→En
namespace Go.Z
open Go Go.Abs Go.W
theorem jos:zf pr (X pr) 48 [.ptr 2 0] [.hole,kO,bg,bg,.vec 4 0 [aZ]]=Ef (aZ,I,[.hole,kO,bg,bg,.vec 4 0 [aZ],kZ]):=by
 have g1:∀h:j8,gE 4 h (Ef (.ak 4 0 1)) (Ef (Iv (j6 .i64 0)))=Ef ⟨.cJ 4 0 0,I,En,h⟩:=fun h=>(kX (l:=[dq]) (x:=dq) rfl).1
 have g2:eH 6 (Ef []) true 4 [.hole,kO,bg,bg,.vec 4 0 [aZ],kZ] (Ef (.cJ 4 0 0))=Ef ⟨aZ,I,En,[.hole,kO,bg,bg,.vec 4 0 [aZ],kZ]⟩:=rfl
 rw[zd (show pr.bj 48=Ef kI from rfl) (by simp)]
 simp only[go_sem,seval,kI,g1,g2]<;>rfl
theorem jo5 {e:ql}{q}(h:vP e=Ef q):∃hh,zf pr (X pr) 65 [.ptr 2 0,aE e] [.hole,kO,bg,bg,.vec 4 0 [aZ]]=Ef (Iv q.1,I,hh)∧yi 5 (Iv q.1) hh=(match q.2 with
  |none=>[.hole,kO,bg,bg,.vec 4 0 [aZ]]
  |some v=>[.hole,kO,kV v 7 5 4,bg,.vec 4 v.vs (v.ss.map ya),.vec 5 v.vc (v.cs.map vev),.hole,.vec 5 v.ve (v.ev.map vev)]):=by
 unfold vP at h
 rcases jz h with⟨h1,h⟩|⟨h1,h⟩
 ·rcases jz h with⟨h2,h⟩|⟨h2,h⟩
  ·obtain⟨e1,k1,h⟩:=jx h
   obtain⟨e2,k3,h⟩:=jx h
   obtain⟨e3,k4,h⟩:=jx h
   have w1:=ei k1
   have w2:=ei k3
   have w3:jy pr (X pr) 51 [.list I 1 [Iv e1,Iv e2]]=Ef (Iv e3,I):=iw k4
   rcases jz h with⟨h4,h⟩|⟨h4,h⟩
   ·cases h
   ·cases h
    refine⟨[.hole,kO,bg,bg,.vec 4 0 [aZ]],?_,kW rfl⟩
    rw[zd (show pr.bj 65=Ef cQ from rfl) (by simp)]
    simp only[go_sem,seval,cQ,h1,h2,w1,w2,w3,h4,Eo,Wr,Ws]<;>rfl
  ·obtain⟨v,k2,h⟩:=jx h
   have w1:=jos
   have wa:yi 5 (aZ) [.hole,kO,bg,bg,.vec 4 0 [aZ],kZ]=[.hole,kO,bg,bg,.vec 4 0 [aZ]]:=by simp only[go_sem,seval]<;>rfl
   have w2:jy pr (X pr) 121 [aZ,aE e]=Ef (.aB [aR v.1,Iv v.2],I):=Ek k2
   rcases jz h with⟨h3,h⟩|⟨h3,h⟩
   ·cases h
    have g1:gi 5 0 5 88 [.hole,kO,bg,bg,.vec 4 0 [aZ],.hole,.hole] (Ef (Nl)) (Ef (.list I 5 [aE e]))=Ef ⟨.ak 5 0 1,I,En,[.hole,kO,bg,bg,.vec 4 0 [aZ],.vec 5 0 [aE e],.hole]⟩:=by apply DS<;>first|rfl|decide|(simp only[go_sem,seval]<;>done)|simp
    have g2:gi 5 1 4 80 [.hole,kO,bg,bg,.vec 4 0 [aZ],.vec 5 0 [aE e],.hole] (Ef (.ak 4 0 1)) (Ef (.list I 4 [aR v.1]))=Ef ⟨.ak 4 1 2,I,En,[.hole,kO,bg,bg,.vec 4 1 [aZ,aR v.1],.vec 5 0 [aE e],.hole]⟩:=np (f:=ya) (l:=[dq]) (l':=[dq,v.1]) (x:=v.1) rfl rfl (by simp only[go_sem,seval]) (by decide) (by decide) (by decide)
    have g3:gi 7 0 5 88 [.hole,kO,.cells [(Nl,I),(.ak 5 0 1,I),(.ak 4 1 2,I)],bg,.vec 4 1 [aZ,aR v.1],.vec 5 0 [aE e],.hole,.hole] (Ef (Nl)) (Ef (.list I 5 [aE e]))=Ef ⟨.ak 7 0 1,I,En,[.hole,kO,.cells [(Nl,I),(.ak 5 0 1,I),(.ak 4 1 2,I)],bg,.vec 4 1 [aZ,aR v.1],.vec 5 0 [aE e],.hole,.vec 5 0 [aE e]]⟩:=by apply DS<;>first|rfl|decide|(simp only[go_sem,seval]<;>done)|simp
    refine⟨[.hole,kO,.cells [(.ak 7 0 1,I),(.ak 5 0 1,I),(.ak 4 1 2,I)],bg,.vec 4 1 [aZ,aR v.1],.vec 5 0 [aE e],.hole,.vec 5 0 [aE e]],?_,?_⟩
    ·rw[zd (show pr.bj 65=Ef cQ from rfl) (by simp)]
     simp only[go_sem,seval,cQ,h1,h2,w1,wa,w2,h3,g1,g2,g3,Eo]<;>rfl
    ·simp only[go_sem,seval,(show ∀k b v l,k≤b→below k (.ak b v l)=I from fun k b v l h=>by rw[qvi];exact dF (by omega))]<;>rfl
   ·cases h
    refine⟨[.hole,kO,bg,bg,.vec 4 0 [aZ]],?_,kW rfl⟩
    rw[zd (show pr.bj 65=Ef cQ from rfl) (by simp)]
    simp only[go_sem,seval,cQ,h1,h2,w1,wa,w2,h3]<;>rfl
 ·cases h
  refine⟨[.hole,kO,bg,bg,.vec 4 0 [aZ]],?_,kW rfl⟩
  rw[zd (show pr.bj 65=Ef cQ from rfl) (by simp)]
  simp only[go_sem,seval,cQ,h1]<;>rfl
theorem j3h {s:HV}{r:qc}(hx:zo (s.ss.take s.ls) (j6 .i64 ((s.ls:Int)-1))=Ef r):zf pr (X pr) 48 [.ptr 2 0] [.hole,kO,kV s 7 5 4,bg,.vec 4 s.vs (s.ss.map ya),.vec 5 s.vc (s.cs.map vev),.hole,.vec 5 s.ve (s.ev.map vev)]=Ef (aR r,I,[.hole,kO,kV s 7 5 4,bg,.vec 4 s.vs (s.ss.map ya),.vec 5 s.vc (s.cs.map vev),.hole,.vec 5 s.ve (s.ev.map vev),kR r.day r.au r.ae r.units]):=by
 have g1:∀h:j8,gE 4 h (Ef (.ak 4 s.vs s.ls)) (Ef (Iv (j6 .i64 ((s.ls:Int)-1))))=Ef ⟨.cJ 4 s.vs ((j6 .i64 ((s.ls:Int)-1)).toNat*4),I,En,h⟩:=fun h=>(kX hx).1
 have g2:eH 9 (Ef []) true 4 [.hole,kO,kV s 7 5 4,bg,.vec 4 s.vs (s.ss.map ya),.vec 5 s.vc (s.cs.map vev),.hole,.vec 5 s.ve (s.ev.map vev),kZ] (Ef (.cJ 4 s.vs ((j6 .i64 ((s.ls:Int)-1)).toNat*4)))=Ef ⟨aR r,I,En,[.hole,kO,kV s 7 5 4,bg,.vec 4 s.vs (s.ss.map ya),.vec 5 s.vc (s.cs.map vev),.hole,.vec 5 s.ve (s.ev.map vev),kZ]⟩:=Nc NT rfl rfl (kX (sz:=4) (b:=0) (v:=0) (h:=[]) hx).2
 rw[zd (show pr.bj 48=Ef kI from rfl) (by simp)]
 simp only[go_sem,seval,kI,g1,g2]<;>rfl
theorem jyk {s:HV}{e:ql}{q}(h:vQ s e=Ef q):∃hh,zf pr (X pr) 65 [.ptr 2 0,aE e] [.hole,kO,kV s 7 5 4,bg,.vec 4 s.vs (s.ss.map ya),.vec 5 s.vc (s.cs.map vev),.hole,.vec 5 s.ve (s.ev.map vev)]=Ef (Iv q.1,I,hh)∧yi 8 (Iv q.1) hh=[.hole,kO,.cells [(.ak 7 q.2.ve q.2.ev.length,I),(.ak 5 q.2.vc q.2.lc,I),(.ak 4 q.2.vs q.2.ls,I)],bg,.vec 4 q.2.vs (q.2.ss.map ya),.vec 5 q.2.vc (q.2.cs.map vev),.hole,.vec 5 q.2.ve (q.2.ev.map vev)]:=by
 unfold vQ at h
 rcases jz h with⟨h1,h⟩|⟨h1,h⟩
 ·rcases jz h with⟨h2,h⟩|⟨h2,h⟩
  ·obtain⟨e1,k1,h⟩:=jx h
   have w1:=ei k1
   rcases jz h with⟨h3,h⟩|⟨h3,h⟩
   ·obtain⟨x,k2,h⟩:=jx h
    obtain⟨e2,k3,h⟩:=jx h
    obtain⟨e3,k4,h⟩:=jx h
    have w2:=ei k3
    have w3:jy pr (X pr) 51 [.list I 1 [Iv e1,Iv e2]]=Ef (Iv e3,I):=iw k4
    have g1:∀h:j8,gE 5 h (Ef (.ak 5 s.vc s.lc)) (Ef (Iv (max 0 (j6 .i64 ((s.lc:Int)-1)))))=Ef ⟨.cJ 5 s.vc ((max 0 (j6 .i64 ((s.lc:Int)-1))).toNat*5),I,En,h⟩:=fun h=>(kX k2).1
    have g2:eH 8 En I 1 [.hole,kO,kV s 7 5 4,bg,.vec 4 s.vs (s.ss.map ya),.vec 5 s.vc (s.cs.map vev),.hole,.vec 5 s.ve (s.ev.map vev)] (Ef (.cJ 5 s.vc ((max 0 (j6 .i64 ((s.lc:Int)-1))).toNat*5+1)))=Ef ⟨.str x.kind,I,En,[.hole,kO,kV s 7 5 4,bg,.vec 4 s.vs (s.ss.map ya),.vec 5 s.vc (s.cs.map vev),.hole,.vec 5 s.ve (s.ev.map vev)]⟩:=UM (f:=vev) (o:=1) Wq rfl rfl (kX (sz:=4) (b:=0) (v:=0) (h:=[]) k2).2 rfl
    rcases jz h with⟨h4,h⟩|⟨h4,h⟩
    ·rcases jz h with⟨h5,h⟩|⟨_,h⟩
     ·obtain⟨ev,eg,h⟩:=jx h
      cases h
      have c5:=of_decide_eq_true h5
      have hln:ev.length=s.ev.length+1:=Em eg
      have g3:∀h:j8,mQ 5 h (Ef (.ak 5 s.vc s.lc)) En (Ef (Ef (Iv (j6 .i64 ((s.lc:Int)-1)))))=Ef ⟨.ak 5 s.vc (j6 .i64 ((s.lc:Int)-1)).toNat,I,En,h⟩:=fun h=>El c5.1 c5.2.1
      have g4:∀h:j8,mQ 4 h (Ef (.ak 4 s.vs s.ls)) En (Ef (Ef (Iv (s.lc:Int))))=Ef ⟨.ak 4 s.vs s.lc,I,En,h⟩:=fun h=>El (by omega) (by have:=c5.2.2;omega)
      have g5:gi 8 0 5 88 [.hole,kO,.cells [(.ak 7 s.ve s.ev.length,I),(.ak 5 s.vc (j6 .i64 ((s.lc:Int)-1)).toNat,I),(.ak 4 s.vs s.lc,I)],bg,.vec 4 s.vs (s.ss.map ya),.vec 5 s.vc (s.cs.map vev),.hole,.vec 5 s.ve (s.ev.map vev),.hole] (Ef (.ak 7 s.ve s.ev.length)) (Ef (.list I 5 [aE e]))=Ef ⟨.ak 7 (s.ve+1) (s.ev.length+1),I,En,[.hole,kO,.cells [(.ak 7 s.ve s.ev.length,I),(.ak 5 s.vc (j6 .i64 ((s.lc:Int)-1)).toNat,I),(.ak 4 s.vs s.lc,I)],bg,.vec 4 s.vs (s.ss.map ya),.vec 5 s.vc (s.cs.map vev),.hole,.vec 5 (s.ve+1) (ev.map vev),.hole]⟩:=np (f:=vev) (x:=e) eg rfl (by simp only[go_sem,seval]) (by decide) (by decide) (by decide)
      refine⟨[.hole,kO,.cells [(.ak 7 (s.ve+1) (s.ev.length+1),I),(.ak 5 s.vc (j6 .i64 ((s.lc:Int)-1)).toNat,I),(.ak 4 s.vs s.lc,I)],bg,.vec 4 s.vs (s.ss.map ya),.vec 5 s.vc (s.cs.map vev),.hole,.vec 5 (s.ve+1) (ev.map vev),.hole],?_,?_⟩
      ·rw[zd (show pr.bj 65=Ef cQ from rfl) (by simp)]
       simp only[go_sem,seval,cQ,h1,h2,w1,h3,g1,g2,w2,w3,h4,g3,g4,g5]<;>rfl
      ·simp only[hln]
       simp only[go_sem,seval]<;>rfl
     ·cases h
    ·cases h
     refine⟨[.hole,kO,kV s 7 5 4,bg,.vec 4 s.vs (s.ss.map ya),.vec 5 s.vc (s.cs.map vev),.hole,.vec 5 s.ve (s.ev.map vev)],?_,kW rfl⟩
     rw[zd (show pr.bj 65=Ef cQ from rfl) (by simp)]
     simp only[go_sem,seval,cQ,h1,h2,w1,h3,g1,g2,w2,w3,h4]<;>rfl
   ·obtain⟨e2,k3,h⟩:=jx h
    obtain⟨e3,k4,h⟩:=jx h
    have w2:=ei k3
    have w3:jy pr (X pr) 51 [.list I 1 [Iv e1,Iv e2]]=Ef (Iv e3,I):=iw k4
    rcases jz h with⟨h4,h⟩|⟨h4,h⟩
    ·cases h
    ·cases h
     refine⟨[.hole,kO,kV s 7 5 4,bg,.vec 4 s.vs (s.ss.map ya),.vec 5 s.vc (s.cs.map vev),.hole,.vec 5 s.ve (s.ev.map vev)],?_,kW rfl⟩
     rw[zd (show pr.bj 65=Ef cQ from rfl) (by simp)]
     simp only[go_sem,seval,cQ,h1,h2,w1,h3,w2,w3,h4]<;>rfl
  ·obtain⟨r,k1,h⟩:=jx h
   obtain⟨v,k2,h⟩:=jx h
   have w1:=j3h k1
   have wa:yi 8 (aR r) [.hole,kO,kV s 7 5 4,bg,.vec 4 s.vs (s.ss.map ya),.vec 5 s.vc (s.cs.map vev),.hole,.vec 5 s.ve (s.ev.map vev),kR r.day r.au r.ae r.units]=[.hole,kO,kV s 7 5 4,bg,.vec 4 s.vs (s.ss.map ya),.vec 5 s.vc (s.cs.map vev),.hole,.vec 5 s.ve (s.ev.map vev)]:=by simp only[go_sem,seval]<;>rfl
   have w2:jy pr (X pr) 121 [aR r,aE e]=Ef (.aB [aR v.1,Iv v.2],I):=Ek k2
   rcases jz h with⟨h3,h⟩|⟨h3,h⟩
   ·obtain⟨cs,hcs,h⟩:=jx h
    obtain⟨ss,oZ,h⟩:=jx h
    obtain⟨ev,eg,h⟩:=jx h
    cases h
    have hln:ev.length=s.ev.length+1:=Em eg
    have g1:gi 8 0 5 88 [.hole,kO,kV s 7 5 4,bg,.vec 4 s.vs (s.ss.map ya),.vec 5 s.vc (s.cs.map vev),.hole,.vec 5 s.ve (s.ev.map vev),.hole,.hole] (Ef (.ak 5 s.vc s.lc)) (Ef (.list I 5 [aE e]))=Ef ⟨.ak 5 (s.vc+1) (s.lc+1),I,En,[.hole,kO,kV s 7 5 4,bg,.vec 4 s.vs (s.ss.map ya),.vec 5 (s.vc+1) (cs.map vev),.hole,.vec 5 s.ve (s.ev.map vev),.hole,.hole]⟩:=np (f:=vev) (x:=e) hcs rfl (by simp only[go_sem,seval]) (by decide) (by decide) (by decide)
    have g2:gi 8 1 4 80 [.hole,kO,kV s 7 5 4,bg,.vec 4 s.vs (s.ss.map ya),.vec 5 (s.vc+1) (cs.map vev),.hole,.vec 5 s.ve (s.ev.map vev),.hole,.hole] (Ef (.ak 4 s.vs s.ls)) (Ef (.list I 4 [aR v.1]))=Ef ⟨.ak 4 (s.vs+1) (s.ls+1),I,En,[.hole,kO,kV s 7 5 4,bg,.vec 4 (s.vs+1) (ss.map ya),.vec 5 (s.vc+1) (cs.map vev),.hole,.vec 5 s.ve (s.ev.map vev),.hole,.hole]⟩:=np (f:=ya) (x:=v.1) oZ rfl (by simp only[go_sem,seval]) (by decide) (by decide) (by decide)
    have g3:gi 10 0 5 88 [.hole,kO,.cells [(.ak 7 s.ve s.ev.length,I),(.ak 5 (s.vc+1) (s.lc+1),I),(.ak 4 (s.vs+1) (s.ls+1),I)],bg,.vec 4 (s.vs+1) (ss.map ya),.vec 5 (s.vc+1) (cs.map vev),.hole,.vec 5 s.ve (s.ev.map vev),.hole,.hole,.hole] (Ef (.ak 7 s.ve s.ev.length)) (Ef (.list I 5 [aE e]))=Ef ⟨.ak 7 (s.ve+1) (s.ev.length+1),I,En,[.hole,kO,.cells [(.ak 7 s.ve s.ev.length,I),(.ak 5 (s.vc+1) (s.lc+1),I),(.ak 4 (s.vs+1) (s.ls+1),I)],bg,.vec 4 (s.vs+1) (ss.map ya),.vec 5 (s.vc+1) (cs.map vev),.hole,.vec 5 (s.ve+1) (ev.map vev),.hole,.hole,.hole]⟩:=np (f:=vev) (x:=e) eg rfl (by simp only[go_sem,seval]) (by decide) (by decide) (by decide)
    refine⟨[.hole,kO,.cells [(.ak 7 (s.ve+1) (s.ev.length+1),I),(.ak 5 (s.vc+1) (s.lc+1),I),(.ak 4 (s.vs+1) (s.ls+1),I)],bg,.vec 4 (s.vs+1) (ss.map ya),.vec 5 (s.vc+1) (cs.map vev),.hole,.vec 5 (s.ve+1) (ev.map vev),.hole,.hole,.hole],?_,?_⟩
    ·rw[zd (show pr.bj 65=Ef cQ from rfl) (by simp)]
     simp only[go_sem,seval,cQ,h1,h2,w1,wa,w2,h3,g1,g2,g3]<;>rfl
    ·simp only[hln]
     simp only[go_sem,seval]<;>rfl
   ·cases h
    refine⟨[.hole,kO,kV s 7 5 4,bg,.vec 4 s.vs (s.ss.map ya),.vec 5 s.vc (s.cs.map vev),.hole,.vec 5 s.ve (s.ev.map vev)],?_,kW rfl⟩
    rw[zd (show pr.bj 65=Ef cQ from rfl) (by simp)]
    simp only[go_sem,seval,cQ,h1,h2,w1,wa,w2,h3]<;>rfl
 ·cases h
  refine⟨[.hole,kO,kV s 7 5 4,bg,.vec 4 s.vs (s.ss.map ya),.vec 5 s.vc (s.cs.map vev),.hole,.vec 5 s.ve (s.ev.map vev)],?_,kW rfl⟩
  rw[zd (show pr.bj 65=Ef cQ from rfl) (by simp)]
  simp only[go_sem,seval,cQ,h1]<;>rfl
def nu:Option HV→j8
 |none=>[.hole,kO,bg,bg,.vec 4 0 [aZ]]
 |some v=>[.hole,kO,kV v 7 5 4,bg,.vec 4 v.vs (v.ss.map ya),.vec 5 v.vc (v.cs.map vev),.hole,.vec 5 v.ve (v.ev.map vev)]
def oM (l:Option (List ql))(x:Int×Option HV):qg:=⟨[(2,.ptr 1 0,I),(5,.ptr 2 0,I),(14,sl 5 vev l,I),(15,Lv l,I),(16,Iv x.1,I)],nu x.2⟩
def uX (l:Option (List ql)):(Int×Int×Option HV)⊕(Int×Option HV)→qo×qg
 | .inl d=>(.ret,⟨[(2,.ptr 1 0,I),(3,Iv d.1,I),(4,Iv d.2.1,I)],nu d.2.2⟩)
 | .inr d=>(.exit 0,⟨[(2,.ptr 1 0,I),(5,.ptr 2 0,I),(14,sl 5 vev l,I),(15,Lv l,I),(16,Iv d.1,I),(17,.bool I,I)],nu d.2⟩)
theorem j61 (l:Option (List ql))(x:Int×Option HV)(r)(h:vR l x=Ef r):yp pr iy (oM l) (uX l) x r:=by
 rcases x with⟨i,o⟩
 unfold vR at h
 rcases jz h with⟨h1,h⟩|⟨h1,h⟩
 ·obtain⟨e,h2,h⟩:=jx h
  obtain⟨c,h3,h⟩:=jx h
  have w1:jy pr (X pr) 11 [aE e]=Ef (Iv c,I):=NU h3
  rcases jz h with⟨h4,h⟩|⟨h4,h⟩
  ·obtain⟨e2,h5,h⟩:=jx h
   obtain⟨q,h6,h⟩:=jx h
   have w2:jy pr (X pr) 66 [aE e]=Ef (aE e2,I):=Wt h5
   rcases o with _|s
   ·obtain⟨hh,w3,wa⟩:=jo5 (e:=e2) h6
    rcases q with⟨q1,q2⟩
    rcases q2 with _|v
    ·simp only at wa
     rcases jz h with⟨h7,h⟩|⟨h7,h⟩
     ·cases h
      exact vG (bL:=oM l (j6 .i64 (i+1),En)) (by simp only[go_sem,seval,iy,oM,nu,h1,kc h2,w1,h4,w2,w3,wa,h7]<;>rfl) (Ap (Nat.le_refl _))
     ·cases h
      exact zw (by simp only[go_sem,seval,iy,oM,nu,h1,kc h2,w1,h4,w2,w3,wa,h7,uX]<;>rfl)
    ·simp only at wa
     rcases jz h with⟨h7,h⟩|⟨h7,h⟩
     ·cases h
      exact vG (bL:=oM l (j6 .i64 (i+1),Ef v)) (by simp only[go_sem,seval,iy,oM,nu,h1,kc h2,w1,h4,w2,w3,wa,h7]<;>rfl) (q6r rfl)
     ·cases h
      exact zw (by simp only[go_sem,seval,iy,oM,nu,h1,kc h2,w1,h4,w2,w3,wa,h7,uX]<;>rfl)
   ·obtain⟨q0,h8,h9⟩:=jx h6
    cases h9
    obtain⟨hh,w3,wa⟩:=jyk (e:=e2) h8
    rcases jz h with⟨h7,h⟩|⟨h7,h⟩
    ·cases h
     exact vG (bL:=oM l (j6 .i64 (i+1),Ef q0.2)) (by simp only[go_sem,seval,iy,oM,nu,h1,kc h2,w1,h4,w2,w3,wa,h7]<;>rfl) (Ap (Nat.le_refl _))
    ·cases h
     exact zw (by simp only[go_sem,seval,iy,oM,nu,h1,kc h2,w1,h4,w2,w3,wa,h7,uX]<;>rfl)
  ·cases h
   rcases o with _|s
   ·exact zw (by simp only[go_sem,seval,iy,oM,nu,h1,kc h2,w1,h4,uX]<;>rfl)
   ·exact zw (by simp only[go_sem,seval,iy,oM,nu,h1,kc h2,w1,h4,uX]<;>rfl)
 ·cases h
  exact zw (by simp only[go_sem,seval,iy,oM,h1,uX]<;>rfl)
theorem j2r:zf pr (X pr) 96 [] [.hole,kO,.hole]=Ef (.agg [Nl,Nl,.ak 4 0 1],I,[.hole,kO,.hole,bg,.vec 4 0 [aZ]]):=by
 have sn:j9 pr (X pr) 4 En [(1,aZ,I),(0,.ptr 3 0,I)] [.hole,kO,.hole,kO,.hole] (.gI 0 4 1 [Iv 0,Nl,Nl,Nl] [(0,.tmp 1)])=Ef ⟨.ak 4 0 1,I,En,[.hole,kO,.hole,kO,.vec 4 0 [aZ]]⟩:=rfl
 rw[zd (show pr.bj 96=Ef Be from rfl) (by simp)]
 simp only[go_sem,seval,Be,sn]<;>rfl
def uY:Option HV→j8
 |none=>[.hole,bg,bg,bg,.vec 4 0 [aZ]]
 |some v=>[.hole,kV v 7 5 4,kV v 7 5 4,bg,.vec 4 v.vs (v.ss.map ya),.vec 5 v.vc (v.cs.map vev),.hole,.vec 5 v.ve (v.ev.map vev)]
def iK:Option HV→qa
 |none=>.agg [Nl,Nl,.ak 4 0 1]
 |some v=>.agg [.ak 7 v.ve v.ev.length,.ak 5 v.vc v.lc,.ak 4 v.vs v.ls]
def oi:(Int × Int)⊕Option HV→qa
 | .inl x=>.aB [.agg [Nl,Nl,Nl],Iv x.1,Iv x.2]
 | .inr o=>.aB [iK o,Iv 0,Iv 0]
def su:(Int × Int)⊕Option HV→j8
 | .inl _=>[.hole]
 | .inr o=>uY o
theorem j34 {l:Option (List ql)}{r}(h:f47 l=Ef r):∃hh,zf pr (X pr) 47 [sl 5 vev l] [.hole]=Ef (oi r,I,hh)∧yi 1 (oi r) hh=su r:=by
 unfold f47 at h
 rcases jz h with⟨h1,h⟩|⟨h1,h⟩
 ·cases h
  refine⟨[.hole,kO],?_,?_⟩
  ·rw[zd (show pr.bj 47=Ef iX from rfl) (by simp)]
   simp only[go_sem,seval,iX,h1]<;>rfl
  ·simp only[go_sem,seval,oi,su]<;>rfl
 ·obtain⟨d,h2,h⟩:=jx h
  have w:=j2r
  have wa:yi 3 (.agg [Nl,Nl,.ak 4 0 1]) [.hole,kO,.hole,bg,.vec 4 0 [aZ]]=[.hole,kO,.hole,bg,.vec 4 0 [aZ]]:=by simp only[go_sem,seval]<;>rfl
  have wl:X pr (.loop iy) ⟨[(2,.ptr 1 0,I),(5,.ptr 2 0,I),(14,sl 5 vev l,I),(15,Lv l,I),(16,Iv 0,I)],[.hole,kO,bg,bg,.vec 4 0 [aZ]]⟩=Ef (uX l d):=y7 (j61 l) (fun d=>by rcases d with d|d<;>(intro hh;cases hh)) h2
  rcases d with⟨d1,d2,d3⟩|⟨d1,d2⟩
  ·cases h
   simp only[uX]at wl
   rcases d3 with _|v
   ·refine⟨[.hole,kO,bg,bg,.vec 4 0 [aZ]],?_,?_⟩
    ·simp only[nu]at wl
     rw[zd (show pr.bj 47=Ef iX from rfl) (by simp)]
     simp only[go_sem,seval,iX,h1,w,wa,wl]<;>rfl
    ·simp only[go_sem,seval,oi,su]<;>rfl
   ·refine⟨[.hole,kO,kV v 7 5 4,bg,.vec 4 v.vs (v.ss.map ya),.vec 5 v.vc (v.cs.map vev),.hole,.vec 5 v.ve (v.ev.map vev)],?_,?_⟩
    ·simp only[nu]at wl
     rw[zd (show pr.bj 47=Ef iX from rfl) (by simp)]
     simp only[go_sem,seval,iX,h1,w,wa,wl]<;>rfl
    ·simp only[go_sem,seval,oi,su]<;>rfl
  ·cases h
   simp only[uX]at wl
   refine⟨uY d2,?_,?_⟩
   ·rw[zd (show pr.bj 47=Ef iX from rfl) (by simp)]
    rcases d2 with _|v
    ·simp only[nu]at wl
     simp only[go_sem,seval,iX,h1,w,wa,wl,iK,uY]<;>rfl
    ·simp only[nu]at wl
     simp only[go_sem,seval,iX,h1,w,wa,wl,iK,uY]<;>rfl
   ·rcases d2 with _|v
    ·simp only[go_sem,seval,oi,su,iK,uY]<;>rfl
    ·simp only[go_sem,seval,oi,su,iK,uY]<;>rfl
theorem jlb:zf pr (X pr) 48 [.ptr 0 0] [bg,bg,bg,bg,.vec 4 0 [aZ]]=Ef (aZ,I,[bg,bg,bg,bg,.vec 4 0 [aZ],kZ]):=by
 have g1:∀h:j8,gE 4 h (Ef (.ak 4 0 1)) (Ef (Iv (j6 .i64 0)))=Ef ⟨.cJ 4 0 0,I,En,h⟩:=fun h=>(kX (l:=[dq]) (x:=dq) rfl).1
 have g2:eH 6 (Ef []) true 4 [bg,bg,bg,bg,.vec 4 0 [aZ],kZ] (Ef (.cJ 4 0 0))=Ef ⟨aZ,I,En,[bg,bg,bg,bg,.vec 4 0 [aZ],kZ]⟩:=rfl
 rw[zd (show pr.bj 48=Ef kI from rfl) (by simp)]
 simp only[go_sem,seval,kI,g1,g2]<;>rfl
theorem jnn {e:ql}{q}(h:vP e=Ef q):∃hh,zf pr (X pr) 65 [.ptr 0 0,aE e] [bg,bg,bg,bg,.vec 4 0 [aZ]]=Ef (Iv q.1,I,hh):=by
 unfold vP at h
 rcases jz h with⟨h1,h⟩|⟨h1,h⟩
 ·rcases jz h with⟨h2,h⟩|⟨h2,h⟩
  ·obtain⟨e1,k1,h⟩:=jx h
   obtain⟨e2,k3,h⟩:=jx h
   obtain⟨e3,k4,h⟩:=jx h
   have w1:=ei k1
   have w2:=ei k3
   have w3:jy pr (X pr) 51 [.list I 1 [Iv e1,Iv e2]]=Ef (Iv e3,I):=iw k4
   rcases jz h with⟨h4,h⟩|⟨h4,h⟩
   ·cases h
   ·cases h
    refine⟨[bg,bg,bg,bg,.vec 4 0 [aZ]],?_⟩
    rw[zd (show pr.bj 65=Ef cQ from rfl) (by simp)]
    simp only[go_sem,seval,cQ,h1,h2,w1,w2,w3,h4,Eo,Wr,Ws]<;>rfl
  ·obtain⟨v,k2,h⟩:=jx h
   have w1:=jlb
   have wa:yi 5 (aZ) [bg,bg,bg,bg,.vec 4 0 [aZ],kZ]=[bg,bg,bg,bg,.vec 4 0 [aZ]]:=by simp only[go_sem,seval]<;>rfl
   have w2:jy pr (X pr) 121 [aZ,aE e]=Ef (.aB [aR v.1,Iv v.2],I):=Ek k2
   rcases jz h with⟨h3,h⟩|⟨h3,h⟩
   ·cases h
    have g1:gi 5 0 5 88 [bg,bg,bg,bg,.vec 4 0 [aZ],.hole,.hole] (Ef (Nl)) (Ef (.list I 5 [aE e]))=Ef ⟨.ak 5 0 1,I,En,[bg,bg,bg,bg,.vec 4 0 [aZ],.vec 5 0 [aE e],.hole]⟩:=by apply DS<;>first|rfl|decide|(simp only[go_sem,seval]<;>done)|simp
    have g2:gi 5 1 4 80 [bg,bg,bg,bg,.vec 4 0 [aZ],.vec 5 0 [aE e],.hole] (Ef (.ak 4 0 1)) (Ef (.list I 4 [aR v.1]))=Ef ⟨.ak 4 1 2,I,En,[bg,bg,bg,bg,.vec 4 1 [aZ,aR v.1],.vec 5 0 [aE e],.hole]⟩:=np (f:=ya) (l:=[dq]) (l':=[dq,v.1]) (x:=v.1) rfl rfl (by simp only[go_sem,seval]) (by decide) (by decide) (by decide)
    have g3:gi 7 0 5 88 [.cells [(Nl,I),(.ak 5 0 1,I),(.ak 4 1 2,I)],bg,bg,bg,.vec 4 1 [aZ,aR v.1],.vec 5 0 [aE e],.hole,.hole] (Ef (Nl)) (Ef (.list I 5 [aE e]))=Ef ⟨.ak 7 0 1,I,En,[.cells [(Nl,I),(.ak 5 0 1,I),(.ak 4 1 2,I)],bg,bg,bg,.vec 4 1 [aZ,aR v.1],.vec 5 0 [aE e],.hole,.vec 5 0 [aE e]]⟩:=by apply DS<;>first|rfl|decide|(simp only[go_sem,seval]<;>done)|simp
    refine⟨[.cells [(.ak 7 0 1,I),(.ak 5 0 1,I),(.ak 4 1 2,I)],bg,bg,bg,.vec 4 1 [aZ,aR v.1],.vec 5 0 [aE e],.hole,.vec 5 0 [aE e]],?_⟩
    rw[zd (show pr.bj 65=Ef cQ from rfl) (by simp)]
    simp only[go_sem,seval,cQ,h1,h2,w1,wa,w2,h3,g1,g2,g3,Eo]<;>rfl
   ·cases h
    refine⟨[bg,bg,bg,bg,.vec 4 0 [aZ]],?_⟩
    rw[zd (show pr.bj 65=Ef cQ from rfl) (by simp)]
    simp only[go_sem,seval,cQ,h1,h2,w1,wa,w2,h3]<;>rfl
 ·cases h
  refine⟨[bg,bg,bg,bg,.vec 4 0 [aZ]],?_⟩
  rw[zd (show pr.bj 65=Ef cQ from rfl) (by simp)]
  simp only[go_sem,seval,cQ,h1]<;>rfl
theorem jn8 {s:HV}{r:qc}(hx:zo (s.ss.take s.ls) (j6 .i64 ((s.ls:Int)-1))=Ef r):zf pr (X pr) 48 [.ptr 0 0] [kV s 7 5 4,kV s 7 5 4,kV s 7 5 4,bg,.vec 4 s.vs (s.ss.map ya),.vec 5 s.vc (s.cs.map vev),.hole,.vec 5 s.ve (s.ev.map vev)]=Ef (aR r,I,[kV s 7 5 4,kV s 7 5 4,kV s 7 5 4,bg,.vec 4 s.vs (s.ss.map ya),.vec 5 s.vc (s.cs.map vev),.hole,.vec 5 s.ve (s.ev.map vev),kR r.day r.au r.ae r.units]):=by
 have g1:∀h:j8,gE 4 h (Ef (.ak 4 s.vs s.ls)) (Ef (Iv (j6 .i64 ((s.ls:Int)-1))))=Ef ⟨.cJ 4 s.vs ((j6 .i64 ((s.ls:Int)-1)).toNat*4),I,En,h⟩:=fun h=>(kX hx).1
 have g2:eH 9 (Ef []) true 4 [kV s 7 5 4,kV s 7 5 4,kV s 7 5 4,bg,.vec 4 s.vs (s.ss.map ya),.vec 5 s.vc (s.cs.map vev),.hole,.vec 5 s.ve (s.ev.map vev),kZ] (Ef (.cJ 4 s.vs ((j6 .i64 ((s.ls:Int)-1)).toNat*4)))=Ef ⟨aR r,I,En,[kV s 7 5 4,kV s 7 5 4,kV s 7 5 4,bg,.vec 4 s.vs (s.ss.map ya),.vec 5 s.vc (s.cs.map vev),.hole,.vec 5 s.ve (s.ev.map vev),kZ]⟩:=Nc NT rfl rfl (kX (sz:=4) (b:=0) (v:=0) (h:=[]) hx).2
 rw[zd (show pr.bj 48=Ef kI from rfl) (by simp)]
 simp only[go_sem,seval,kI,g1,g2]<;>rfl
theorem jop {s:HV}{e:ql}{q}(h:vQ s e=Ef q):∃hh,zf pr (X pr) 65 [.ptr 0 0,aE e] [kV s 7 5 4,kV s 7 5 4,kV s 7 5 4,bg,.vec 4 s.vs (s.ss.map ya),.vec 5 s.vc (s.cs.map vev),.hole,.vec 5 s.ve (s.ev.map vev)]=Ef (Iv q.1,I,hh):=by
 unfold vQ at h
 rcases jz h with⟨h1,h⟩|⟨h1,h⟩
 ·rcases jz h with⟨h2,h⟩|⟨h2,h⟩
  ·obtain⟨e1,k1,h⟩:=jx h
   have w1:=ei k1
   rcases jz h with⟨h3,h⟩|⟨h3,h⟩
   ·obtain⟨x,k2,h⟩:=jx h
    obtain⟨e2,k3,h⟩:=jx h
    obtain⟨e3,k4,h⟩:=jx h
    have w2:=ei k3
    have w3:jy pr (X pr) 51 [.list I 1 [Iv e1,Iv e2]]=Ef (Iv e3,I):=iw k4
    have g1:∀h:j8,gE 5 h (Ef (.ak 5 s.vc s.lc)) (Ef (Iv (max 0 (j6 .i64 ((s.lc:Int)-1)))))=Ef ⟨.cJ 5 s.vc ((max 0 (j6 .i64 ((s.lc:Int)-1))).toNat*5),I,En,h⟩:=fun h=>(kX k2).1
    have g2:eH 8 En I 1 [kV s 7 5 4,kV s 7 5 4,kV s 7 5 4,bg,.vec 4 s.vs (s.ss.map ya),.vec 5 s.vc (s.cs.map vev),.hole,.vec 5 s.ve (s.ev.map vev)] (Ef (.cJ 5 s.vc ((max 0 (j6 .i64 ((s.lc:Int)-1))).toNat*5+1)))=Ef ⟨.str x.kind,I,En,[kV s 7 5 4,kV s 7 5 4,kV s 7 5 4,bg,.vec 4 s.vs (s.ss.map ya),.vec 5 s.vc (s.cs.map vev),.hole,.vec 5 s.ve (s.ev.map vev)]⟩:=UM (f:=vev) (o:=1) Wq rfl rfl (kX (sz:=4) (b:=0) (v:=0) (h:=[]) k2).2 rfl
    rcases jz h with⟨h4,h⟩|⟨h4,h⟩
    ·rcases jz h with⟨h5,h⟩|⟨_,h⟩
     ·obtain⟨ev,eg,h⟩:=jx h
      cases h
      have c5:=of_decide_eq_true h5
      have hln:ev.length=s.ev.length+1:=Em eg
      have g3:∀h:j8,mQ 5 h (Ef (.ak 5 s.vc s.lc)) En (Ef (Ef (Iv (j6 .i64 ((s.lc:Int)-1)))))=Ef ⟨.ak 5 s.vc (j6 .i64 ((s.lc:Int)-1)).toNat,I,En,h⟩:=fun h=>El c5.1 c5.2.1
      have g4:∀h:j8,mQ 4 h (Ef (.ak 4 s.vs s.ls)) En (Ef (Ef (Iv (s.lc:Int))))=Ef ⟨.ak 4 s.vs s.lc,I,En,h⟩:=fun h=>El (by omega) (by have:=c5.2.2;omega)
      have g5:gi 8 0 5 88 [.cells [(.ak 7 s.ve s.ev.length,I),(.ak 5 s.vc (j6 .i64 ((s.lc:Int)-1)).toNat,I),(.ak 4 s.vs s.lc,I)],kV s 7 5 4,kV s 7 5 4,bg,.vec 4 s.vs (s.ss.map ya),.vec 5 s.vc (s.cs.map vev),.hole,.vec 5 s.ve (s.ev.map vev),.hole] (Ef (.ak 7 s.ve s.ev.length)) (Ef (.list I 5 [aE e]))=Ef ⟨.ak 7 (s.ve+1) (s.ev.length+1),I,En,[.cells [(.ak 7 s.ve s.ev.length,I),(.ak 5 s.vc (j6 .i64 ((s.lc:Int)-1)).toNat,I),(.ak 4 s.vs s.lc,I)],kV s 7 5 4,kV s 7 5 4,bg,.vec 4 s.vs (s.ss.map ya),.vec 5 s.vc (s.cs.map vev),.hole,.vec 5 (s.ve+1) (ev.map vev),.hole]⟩:=np (f:=vev) (x:=e) eg rfl (by simp only[go_sem,seval]) (by decide) (by decide) (by decide)
      refine⟨[.cells [(.ak 7 (s.ve+1) (s.ev.length+1),I),(.ak 5 s.vc (j6 .i64 ((s.lc:Int)-1)).toNat,I),(.ak 4 s.vs s.lc,I)],kV s 7 5 4,kV s 7 5 4,bg,.vec 4 s.vs (s.ss.map ya),.vec 5 s.vc (s.cs.map vev),.hole,.vec 5 (s.ve+1) (ev.map vev),.hole],?_⟩
      rw[zd (show pr.bj 65=Ef cQ from rfl) (by simp)]
      simp only[go_sem,seval,cQ,h1,h2,w1,h3,g1,g2,w2,w3,h4,g3,g4,g5]<;>rfl
     ·cases h
    ·cases h
     refine⟨[kV s 7 5 4,kV s 7 5 4,kV s 7 5 4,bg,.vec 4 s.vs (s.ss.map ya),.vec 5 s.vc (s.cs.map vev),.hole,.vec 5 s.ve (s.ev.map vev)],?_⟩
     rw[zd (show pr.bj 65=Ef cQ from rfl) (by simp)]
     simp only[go_sem,seval,cQ,h1,h2,w1,h3,g1,g2,w2,w3,h4]<;>rfl
   ·obtain⟨e2,k3,h⟩:=jx h
    obtain⟨e3,k4,h⟩:=jx h
    have w2:=ei k3
    have w3:jy pr (X pr) 51 [.list I 1 [Iv e1,Iv e2]]=Ef (Iv e3,I):=iw k4
    rcases jz h with⟨h4,h⟩|⟨h4,h⟩
    ·cases h
    ·cases h
     refine⟨[kV s 7 5 4,kV s 7 5 4,kV s 7 5 4,bg,.vec 4 s.vs (s.ss.map ya),.vec 5 s.vc (s.cs.map vev),.hole,.vec 5 s.ve (s.ev.map vev)],?_⟩
     rw[zd (show pr.bj 65=Ef cQ from rfl) (by simp)]
     simp only[go_sem,seval,cQ,h1,h2,w1,h3,w2,w3,h4]<;>rfl
  ·obtain⟨r,k1,h⟩:=jx h
   obtain⟨v,k2,h⟩:=jx h
   have w1:=jn8 k1
   have wa:yi 8 (aR r) [kV s 7 5 4,kV s 7 5 4,kV s 7 5 4,bg,.vec 4 s.vs (s.ss.map ya),.vec 5 s.vc (s.cs.map vev),.hole,.vec 5 s.ve (s.ev.map vev),kR r.day r.au r.ae r.units]=[kV s 7 5 4,kV s 7 5 4,kV s 7 5 4,bg,.vec 4 s.vs (s.ss.map ya),.vec 5 s.vc (s.cs.map vev),.hole,.vec 5 s.ve (s.ev.map vev)]:=by simp only[go_sem,seval]<;>rfl
   have w2:jy pr (X pr) 121 [aR r,aE e]=Ef (.aB [aR v.1,Iv v.2],I):=Ek k2
   rcases jz h with⟨h3,h⟩|⟨h3,h⟩
   ·obtain⟨cs,hcs,h⟩:=jx h
    obtain⟨ss,oZ,h⟩:=jx h
    obtain⟨ev,eg,h⟩:=jx h
    cases h
    have hln:ev.length=s.ev.length+1:=Em eg
    have g1:gi 8 0 5 88 [kV s 7 5 4,kV s 7 5 4,kV s 7 5 4,bg,.vec 4 s.vs (s.ss.map ya),.vec 5 s.vc (s.cs.map vev),.hole,.vec 5 s.ve (s.ev.map vev),.hole,.hole] (Ef (.ak 5 s.vc s.lc)) (Ef (.list I 5 [aE e]))=Ef ⟨.ak 5 (s.vc+1) (s.lc+1),I,En,[kV s 7 5 4,kV s 7 5 4,kV s 7 5 4,bg,.vec 4 s.vs (s.ss.map ya),.vec 5 (s.vc+1) (cs.map vev),.hole,.vec 5 s.ve (s.ev.map vev),.hole,.hole]⟩:=np (f:=vev) (x:=e) hcs rfl (by simp only[go_sem,seval]) (by decide) (by decide) (by decide)
    have g2:gi 8 1 4 80 [kV s 7 5 4,kV s 7 5 4,kV s 7 5 4,bg,.vec 4 s.vs (s.ss.map ya),.vec 5 (s.vc+1) (cs.map vev),.hole,.vec 5 s.ve (s.ev.map vev),.hole,.hole] (Ef (.ak 4 s.vs s.ls)) (Ef (.list I 4 [aR v.1]))=Ef ⟨.ak 4 (s.vs+1) (s.ls+1),I,En,[kV s 7 5 4,kV s 7 5 4,kV s 7 5 4,bg,.vec 4 (s.vs+1) (ss.map ya),.vec 5 (s.vc+1) (cs.map vev),.hole,.vec 5 s.ve (s.ev.map vev),.hole,.hole]⟩:=np (f:=ya) (x:=v.1) oZ rfl (by simp only[go_sem,seval]) (by decide) (by decide) (by decide)
    have g3:gi 10 0 5 88 [.cells [(.ak 7 s.ve s.ev.length,I),(.ak 5 (s.vc+1) (s.lc+1),I),(.ak 4 (s.vs+1) (s.ls+1),I)],kV s 7 5 4,kV s 7 5 4,bg,.vec 4 (s.vs+1) (ss.map ya),.vec 5 (s.vc+1) (cs.map vev),.hole,.vec 5 s.ve (s.ev.map vev),.hole,.hole,.hole] (Ef (.ak 7 s.ve s.ev.length)) (Ef (.list I 5 [aE e]))=Ef ⟨.ak 7 (s.ve+1) (s.ev.length+1),I,En,[.cells [(.ak 7 s.ve s.ev.length,I),(.ak 5 (s.vc+1) (s.lc+1),I),(.ak 4 (s.vs+1) (s.ls+1),I)],kV s 7 5 4,kV s 7 5 4,bg,.vec 4 (s.vs+1) (ss.map ya),.vec 5 (s.vc+1) (cs.map vev),.hole,.vec 5 (s.ve+1) (ev.map vev),.hole,.hole,.hole]⟩:=np (f:=vev) (x:=e) eg rfl (by simp only[go_sem,seval]) (by decide) (by decide) (by decide)
    refine⟨[.cells [(.ak 7 (s.ve+1) (s.ev.length+1),I),(.ak 5 (s.vc+1) (s.lc+1),I),(.ak 4 (s.vs+1) (s.ls+1),I)],kV s 7 5 4,kV s 7 5 4,bg,.vec 4 (s.vs+1) (ss.map ya),.vec 5 (s.vc+1) (cs.map vev),.hole,.vec 5 (s.ve+1) (ev.map vev),.hole,.hole,.hole],?_⟩
    rw[zd (show pr.bj 65=Ef cQ from rfl) (by simp)]
    simp only[go_sem,seval,cQ,h1,h2,w1,wa,w2,h3,g1,g2,g3]<;>rfl
   ·cases h
    refine⟨[kV s 7 5 4,kV s 7 5 4,kV s 7 5 4,bg,.vec 4 s.vs (s.ss.map ya),.vec 5 s.vc (s.cs.map vev),.hole,.vec 5 s.ve (s.ev.map vev)],?_⟩
    rw[zd (show pr.bj 65=Ef cQ from rfl) (by simp)]
    simp only[go_sem,seval,cQ,h1,h2,w1,wa,w2,h3]<;>rfl
 ·cases h
  refine⟨[kV s 7 5 4,kV s 7 5 4,kV s 7 5 4,bg,.vec 4 s.vs (s.ss.map ya),.vec 5 s.vc (s.cs.map vev),.hole,.vec 5 s.ve (s.ev.map vev)],?_⟩
  rw[zd (show pr.bj 65=Ef cQ from rfl) (by simp)]
  simp only[go_sem,seval,cQ,h1]<;>rfl
noncomputable def f15 (l:Option (List ql))(e:ql):Option Int:=jw (f47 l) fun r=>jw (f11 e) fun c=>jw (f53 (decide (1000≤((l.getD []).length:Int))) 5) fun k=>match r with
 | .inl x=>jw (f51 (Ef [x.2,c,k])) fun e1=>cond (decide (e1=0)) En (Ef e1)
 | .inr o=>jw (f51 (Ef [0,c,k])) fun e1=>cond (decide (e1=0)) (jw (f66 e) fun e2=>jw (Ho o e2) fun q=>Ef q.1) (Ef e1)
theorem W15 {l:Option (List ql)}{e:ql}{r}(h:f15 l e=Ef r):jy pr (X pr) 15 [sl 5 vev l,aE e]=Ef (Iv r,I):=by
 unfold f15 at h
 obtain⟨x,h1,h⟩:=jx h
 obtain⟨c,h2,h⟩:=jx h
 obtain⟨k,h3,h⟩:=jx h
 obtain⟨hh,w,wa⟩:=j34 h1
 have w1:jy pr (X pr) 11 [aE e]=Ef (Iv c,I):=NU h2
 have w2:=ei h3
 suffices this:∃hh,zf pr (X pr) 15 [sl 5 vev l,aE e] []=Ef (Iv r,I,hh) by
  obtain⟨hh,this⟩:=this
  exact ko rfl this (by first|rfl|simp only[go_sem,seval]) (by first|rfl|simp only[go_sem,seval])
 rcases x with x|o
 ·obtain⟨e1,h4,h⟩:=jx h
  have w3:jy pr (X pr) 51 [.list I 1 [Iv x.2,Iv c,Iv k]]=Ef (Iv e1,I):=iw h4
  rcases jz h with⟨h5,h⟩|⟨h5,h⟩
  ·cases h
  ·cases h
   simp only[oi,su]at w wa
   rw[zd (show pr.bj 15=Ef oN from rfl) (by simp)]
   simp only[go_sem,seval,oN,w,wa,w1,w2,w3,h5]
   exact⟨_,rfl⟩
 ·obtain⟨e1,h4,h⟩:=jx h
  have w3:jy pr (X pr) 51 [.list I 1 [Iv 0,Iv c,Iv k]]=Ef (Iv e1,I):=iw h4
  rcases jz h with⟨h5,h⟩|⟨h5,h⟩
  ·obtain⟨e2,h6,h⟩:=jx h
   obtain⟨q,h7,h⟩:=jx h
   cases h
   have w4:jy pr (X pr) 66 [aE e]=Ef (aE e2,I):=Wt h6
   rcases o with _|v
   ·simp only[oi,su,uY,iK]at w wa
    obtain⟨h8,w5⟩:=jnn (e:=e2) h7
    rw[zd (show pr.bj 15=Ef oN from rfl) (by simp)]
    simp only[go_sem,seval,oN,w,wa,w1,w2,w3,h5,w4,w5]
    exact⟨_,rfl⟩
   ·simp only[oi,su,uY,iK]at w wa
    obtain⟨q0,h9,iW⟩:=jx h7
    cases iW
    obtain⟨h8,w5⟩:=jop (e:=e2) h9
    rw[zd (show pr.bj 15=Ef oN from rfl) (by simp)]
    simp only[go_sem,seval,oN,w,wa,w1,w2,w3,h5,w4,w5]
    exact⟨_,rfl⟩
  ·cases h
   rcases o with _|v
   ·simp only[oi,su,uY,iK]at w wa
    rw[zd (show pr.bj 15=Ef oN from rfl) (by simp)]
    simp only[go_sem,seval,oN,w,wa,w1,w2,w3,h5]
    exact⟨_,rfl⟩
   ·simp only[oi,su,uY,iK]at w wa
    rw[zd (show pr.bj 15=Ef oN from rfl) (by simp)]
    simp only[go_sem,seval,oN,w,wa,w1,w2,w3,h5]
    exact⟨_,rfl⟩
end Go.Z
