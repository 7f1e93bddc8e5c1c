/- Chapter 10. -/
import Derived.Test.YtfopaakmgogpiaaGreatDoorV9
set_option linter.unusedVariables false
set_option linter.unusedSimpArgs false
set_option maxRecDepth 100000
set_option maxHeartbeats 4000000
namespace Go.Z
open Go Go.Abs Go.W
theorem jod:zf pr (X pr) 48 [.ptr 2 0] [.hole,kO,kP4,kP4,.vec 4 0 [aZ]]=some (aZ,false,[.hole,kO,kP4,kP4,.vec 4 0 [aZ],kZ]):=by
 have g1:∀h:j8,qcq 4 h (some (.vref 4 0 1)) (some (Iv (j6 .i64 0)))=some ⟨.vel 4 0 0,false,none,h⟩:=fun h=>(qfb (l:=[zreg]) (x:=zreg) rfl).1
 have g2:qas 6 (some []) true 4 [.hole,kO,kP4,kP4,.vec 4 0 [aZ],kZ] (some (.vel 4 0 0))=some ⟨aZ,false,none,[.hole,kO,kP4,kP4,.vec 4 0 [aZ],kZ]⟩:=rfl
 rw[zd (show pr.fns 48=some c48 from rfl) (by simp)]
 simp only[go_sem,seval,c48,g1,g2]<;>rfl
theorem jui {e:ql}{q}(h:qjy e=some q):∃hh,zf pr (X pr) 65 [.ptr 2 0,aE e] [.hole,kO,kP4,kP4,.vec 4 0 [aZ]]=some (Iv q.1,false,hh)∧yi 5 (Iv q.1) hh=(match q.2 with
  |none=>[.hole,kO,kP4,kP4,.vec 4 0 [aZ]]
  |some v=>[.hole,kO,kV v 7 5 4,kP4,.vec 4 v.vs (v.ss.map yb),.vec 5 v.vc (v.cs.map vev),.hole,.vec 5 v.ve (v.ev.map vev)]):=by
 unfold qjy at h
 rcases jz h with⟨h1,h⟩|⟨h1,h⟩
 ·rcases jz h with⟨h2,h⟩|⟨h2,h⟩
  ·obtain⟨e1,k1,h⟩:=jx h
   obtain⟨e2,k3,h⟩:=jx h
   obtain⟨e3,k4,h⟩:=jx h
   have w1:=W53 k1
   have w2:=W53 k3
   have w3:jy pr (X pr) 51 [.list false 1 [Iv e1,Iv e2]]=some (Iv e3,false):=W51 k4
   rcases jz h with⟨h4,h⟩|⟨h4,h⟩
   ·cases h
   ·cases h
    refine⟨[.hole,kO,kP4,kP4,.vec 4 0 [aZ]],?_,qaa rfl⟩
    rw[zd (show pr.fns 65=some c65 from rfl) (by simp)]
    simp only[go_sem,seval,c65,h1,h2,w1,w2,w3,h4,qto,je1,jij]<;>rfl
  ·obtain⟨v,k2,h⟩:=jx h
   have w1:=jod
   have wa:yi 5 (aZ) [.hole,kO,kP4,kP4,.vec 4 0 [aZ],kZ]=[.hole,kO,kP4,kP4,.vec 4 0 [aZ]]:=by simp only[go_sem,seval]<;>rfl
   have w2:jy pr (X pr) 121 [aZ,aE e]=some (.tup [aR v.1,Iv v.2],false):=qyv k2
   rcases jz h with⟨h3,h⟩|⟨h3,h⟩
   ·cases h
    have g1:qbg 5 0 5 88 [.hole,kO,kP4,kP4,.vec 4 0 [aZ],.hole,.hole] (some (Nl)) (some (.list false 5 [aE e]))=some ⟨.vref 5 0 1,false,none,[.hole,kO,kP4,kP4,.vec 4 0 [aZ],.vec 5 0 [aE e],.hole]⟩:=by z8 qic<;>first|rfl|decide|(simp only[go_sem,seval]<;>done)|simp
    have g2:qbg 5 1 4 80 [.hole,kO,kP4,kP4,.vec 4 0 [aZ],.vec 5 0 [aE e],.hole] (some (.vref 4 0 1)) (some (.list false 4 [aR v.1]))=some ⟨.vref 4 1 2,false,none,[.hole,kO,kP4,kP4,.vec 4 1 [aZ,aR v.1],.vec 5 0 [aE e],.hole]⟩:=qe0 (f:=yb) (l:=[zreg]) (l':=[zreg,v.1]) (x:=v.1) rfl rfl (by simp only[go_sem,seval]) (by decide) (by decide) (by decide)
    have g3:qbg 7 0 5 88 [.hole,kO,.cells [(Nl,false),(.vref 5 0 1,false),(.vref 4 1 2,false)],kP4,.vec 4 1 [aZ,aR v.1],.vec 5 0 [aE e],.hole,.hole] (some (Nl)) (some (.list false 5 [aE e]))=some ⟨.vref 7 0 1,false,none,[.hole,kO,.cells [(Nl,false),(.vref 5 0 1,false),(.vref 4 1 2,false)],kP4,.vec 4 1 [aZ,aR v.1],.vec 5 0 [aE e],.hole,.vec 5 0 [aE e]]⟩:=by z8 qic<;>first|rfl|decide|(simp only[go_sem,seval]<;>done)|simp
    refine⟨[.hole,kO,.cells [(.vref 7 0 1,false),(.vref 5 0 1,false),(.vref 4 1 2,false)],kP4,.vec 4 1 [aZ,aR v.1],.vec 5 0 [aE e],.hole,.vec 5 0 [aE e]],?_,?_⟩
    ·rw[zd (show pr.fns 65=some c65 from rfl) (by simp)]
     simp only[go_sem,seval,c65,h1,h2,w1,wa,w2,h3,g1,g2,g3,qto]<;>rfl
    ·simp only[go_sem,seval,(show ∀k b v l,k≤b→below k (.vref b v l)=false from fun k b v l h=>by rw[qxv];exact dF (by omega))]<;>rfl
   ·cases h
    refine⟨[.hole,kO,kP4,kP4,.vec 4 0 [aZ]],?_,qaa rfl⟩
    rw[zd (show pr.fns 65=some c65 from rfl) (by simp)]
    simp only[go_sem,seval,c65,h1,h2,w1,wa,w2,h3]<;>rfl
 ·cases h
  refine⟨[.hole,kO,kP4,kP4,.vec 4 0 [aZ]],?_,qaa rfl⟩
  rw[zd (show pr.fns 65=some c65 from rfl) (by simp)]
  simp only[go_sem,seval,c65,h1]<;>rfl
theorem j1t {s:HV}{r:qc}(hx:zo (s.ss.take s.ls) (j6 .i64 ((s.ls:Int)-1))=some r):zf pr (X pr) 48 [.ptr 2 0] [.hole,kO,kV s 7 5 4,kP4,.vec 4 s.vs (s.ss.map yb),.vec 5 s.vc (s.cs.map vev),.hole,.vec 5 s.ve (s.ev.map vev)]=some (aR r,false,[.hole,kO,kV s 7 5 4,kP4,.vec 4 s.vs (s.ss.map yb),.vec 5 s.vc (s.cs.map vev),.hole,.vec 5 s.ve (s.ev.map vev),kR r.day r.lots r.products r.units]):=by
 have g1:∀h:j8,qcq 4 h (some (.vref 4 s.vs s.ls)) (some (Iv (j6 .i64 ((s.ls:Int)-1))))=some ⟨.vel 4 s.vs ((j6 .i64 ((s.ls:Int)-1)).toNat*4),false,none,h⟩:=fun h=>(qfb hx).1
 have g2:qas 9 (some []) true 4 [.hole,kO,kV s 7 5 4,kP4,.vec 4 s.vs (s.ss.map yb),.vec 5 s.vc (s.cs.map vev),.hole,.vec 5 s.ve (s.ev.map vev),kZ] (some (.vel 4 s.vs ((j6 .i64 ((s.ls:Int)-1)).toNat*4)))=some ⟨aR r,false,none,[.hole,kO,kV s 7 5 4,kP4,.vec 4 s.vs (s.ss.map yb),.vec 5 s.vc (s.cs.map vev),.hole,.vec 5 s.ve (s.ev.map vev),kZ]⟩:=qvx q1g rfl rfl (qfb (sz:=4) (b:=0) (v:=0) (h:=[]) hx).2
 rw[zd (show pr.fns 48=some c48 from rfl) (by simp)]
 simp only[go_sem,seval,c48,g1,g2]<;>rfl
theorem jwb {s:HV}{e:ql}{q}(h:qpg s e=some q):∃hh,zf pr (X pr) 65 [.ptr 2 0,aE e] [.hole,kO,kV s 7 5 4,kP4,.vec 4 s.vs (s.ss.map yb),.vec 5 s.vc (s.cs.map vev),.hole,.vec 5 s.ve (s.ev.map vev)]=some (Iv q.1,false,hh)∧yi 8 (Iv q.1) hh=[.hole,kO,.cells [(.vref 7 q.2.ve q.2.ev.length,false),(.vref 5 q.2.vc q.2.lc,false),(.vref 4 q.2.vs q.2.ls,false)],kP4,.vec 4 q.2.vs (q.2.ss.map yb),.vec 5 q.2.vc (q.2.cs.map vev),.hole,.vec 5 q.2.ve (q.2.ev.map vev)]:=by
 unfold qpg at h
 rcases jz h with⟨h1,h⟩|⟨h1,h⟩
 ·rcases jz h with⟨h2,h⟩|⟨h2,h⟩
  ·obtain⟨e1,k1,h⟩:=jx h
   have w1:=W53 k1
   rcases jz h with⟨h3,h⟩|⟨h3,h⟩
   ·obtain⟨x,k2,h⟩:=jx h
    obtain⟨e2,k3,h⟩:=jx h
    obtain⟨e3,k4,h⟩:=jx h
    have w2:=W53 k3
    have w3:jy pr (X pr) 51 [.list false 1 [Iv e1,Iv e2]]=some (Iv e3,false):=W51 k4
    have g1:∀h:j8,qcq 5 h (some (.vref 5 s.vc s.lc)) (some (Iv (max 0 (j6 .i64 ((s.lc:Int)-1)))))=some ⟨.vel 5 s.vc ((max 0 (j6 .i64 ((s.lc:Int)-1))).toNat*5),false,none,h⟩:=fun h=>(qfb k2).1
    have g2:qas 8 none false 1 [.hole,kO,kV s 7 5 4,kP4,.vec 4 s.vs (s.ss.map yb),.vec 5 s.vc (s.cs.map vev),.hole,.vec 5 s.ve (s.ev.map vev)] (some (.vel 5 s.vc ((max 0 (j6 .i64 ((s.lc:Int)-1))).toNat*5+1)))=some ⟨.str x.kind,false,none,[.hole,kO,kV s 7 5 4,kP4,.vec 4 s.vs (s.ss.map yb),.vec 5 s.vc (s.cs.map vev),.hole,.vec 5 s.ve (s.ev.map vev)]⟩:=q4k (f:=vev) (o:=1) jht rfl rfl (qfb (sz:=4) (b:=0) (v:=0) (h:=[]) k2).2 rfl
    rcases jz h with⟨h4,h⟩|⟨h4,h⟩
    ·rcases jz h with⟨h5,h⟩|⟨_,h⟩
     ·obtain⟨ev,hev,h⟩:=jx h
      cases h
      have c5:=of_decide_eq_true h5
      have hln:ev.length=s.ev.length+1:=qg6 hev
      have g3:∀h:j8,qgu 5 h (some (.vref 5 s.vc s.lc)) none (some (some (Iv (j6 .i64 ((s.lc:Int)-1)))))=some ⟨.vref 5 s.vc (j6 .i64 ((s.lc:Int)-1)).toNat,false,none,h⟩:=fun h=>qyz c5.1 c5.2.1
      have g4:∀h:j8,qgu 4 h (some (.vref 4 s.vs s.ls)) none (some (some (Iv (s.lc:Int))))=some ⟨.vref 4 s.vs s.lc,false,none,h⟩:=fun h=>qyz (by omega) (by have:=c5.2.2;omega)
      have g5:qbg 8 0 5 88 [.hole,kO,.cells [(.vref 7 s.ve s.ev.length,false),(.vref 5 s.vc (j6 .i64 ((s.lc:Int)-1)).toNat,false),(.vref 4 s.vs s.lc,false)],kP4,.vec 4 s.vs (s.ss.map yb),.vec 5 s.vc (s.cs.map vev),.hole,.vec 5 s.ve (s.ev.map vev),.hole] (some (.vref 7 s.ve s.ev.length)) (some (.list false 5 [aE e]))=some ⟨.vref 7 (s.ve+1) (s.ev.length+1),false,none,[.hole,kO,.cells [(.vref 7 s.ve s.ev.length,false),(.vref 5 s.vc (j6 .i64 ((s.lc:Int)-1)).toNat,false),(.vref 4 s.vs s.lc,false)],kP4,.vec 4 s.vs (s.ss.map yb),.vec 5 s.vc (s.cs.map vev),.hole,.vec 5 (s.ve+1) (ev.map vev),.hole]⟩:=qe0 (f:=vev) (x:=e) hev rfl (by simp only[go_sem,seval]) (by decide) (by decide) (by decide)
      refine⟨[.hole,kO,.cells [(.vref 7 (s.ve+1) (s.ev.length+1),false),(.vref 5 s.vc (j6 .i64 ((s.lc:Int)-1)).toNat,false),(.vref 4 s.vs s.lc,false)],kP4,.vec 4 s.vs (s.ss.map yb),.vec 5 s.vc (s.cs.map vev),.hole,.vec 5 (s.ve+1) (ev.map vev),.hole],?_,?_⟩
      ·rw[zd (show pr.fns 65=some c65 from rfl) (by simp)]
       simp only[go_sem,seval,c65,h1,h2,w1,h3,g1,g2,w2,w3,h4,g3,g4,g5]<;>rfl
      ·simp only[hln]
       simp only[go_sem,seval]<;>rfl
     ·cases h
    ·cases h
     refine⟨[.hole,kO,kV s 7 5 4,kP4,.vec 4 s.vs (s.ss.map yb),.vec 5 s.vc (s.cs.map vev),.hole,.vec 5 s.ve (s.ev.map vev)],?_,qaa rfl⟩
     rw[zd (show pr.fns 65=some c65 from rfl) (by simp)]
     simp only[go_sem,seval,c65,h1,h2,w1,h3,g1,g2,w2,w3,h4]<;>rfl
   ·obtain⟨e2,k3,h⟩:=jx h
    obtain⟨e3,k4,h⟩:=jx h
    have w2:=W53 k3
    have w3:jy pr (X pr) 51 [.list false 1 [Iv e1,Iv e2]]=some (Iv e3,false):=W51 k4
    rcases jz h with⟨h4,h⟩|⟨h4,h⟩
    ·cases h
    ·cases h
     refine⟨[.hole,kO,kV s 7 5 4,kP4,.vec 4 s.vs (s.ss.map yb),.vec 5 s.vc (s.cs.map vev),.hole,.vec 5 s.ve (s.ev.map vev)],?_,qaa rfl⟩
     rw[zd (show pr.fns 65=some c65 from rfl) (by simp)]
     simp only[go_sem,seval,c65,h1,h2,w1,h3,w2,w3,h4]<;>rfl
  ·obtain⟨r,k1,h⟩:=jx h
   obtain⟨v,k2,h⟩:=jx h
   have w1:=j1t k1
   have wa:yi 8 (aR r) [.hole,kO,kV s 7 5 4,kP4,.vec 4 s.vs (s.ss.map yb),.vec 5 s.vc (s.cs.map vev),.hole,.vec 5 s.ve (s.ev.map vev),kR r.day r.lots r.products r.units]=[.hole,kO,kV s 7 5 4,kP4,.vec 4 s.vs (s.ss.map yb),.vec 5 s.vc (s.cs.map vev),.hole,.vec 5 s.ve (s.ev.map vev)]:=by simp only[go_sem,seval]<;>rfl
   have w2:jy pr (X pr) 121 [aR r,aE e]=some (.tup [aR v.1,Iv v.2],false):=qyv k2
   rcases jz h with⟨h3,h⟩|⟨h3,h⟩
   ·obtain⟨cs,hcs,h⟩:=jx h
    obtain⟨ss,hss,h⟩:=jx h
    obtain⟨ev,hev,h⟩:=jx h
    cases h
    have hln:ev.length=s.ev.length+1:=qg6 hev
    have g1:qbg 8 0 5 88 [.hole,kO,kV s 7 5 4,kP4,.vec 4 s.vs (s.ss.map yb),.vec 5 s.vc (s.cs.map vev),.hole,.vec 5 s.ve (s.ev.map vev),.hole,.hole] (some (.vref 5 s.vc s.lc)) (some (.list false 5 [aE e]))=some ⟨.vref 5 (s.vc+1) (s.lc+1),false,none,[.hole,kO,kV s 7 5 4,kP4,.vec 4 s.vs (s.ss.map yb),.vec 5 (s.vc+1) (cs.map vev),.hole,.vec 5 s.ve (s.ev.map vev),.hole,.hole]⟩:=qe0 (f:=vev) (x:=e) hcs rfl (by simp only[go_sem,seval]) (by decide) (by decide) (by decide)
    have g2:qbg 8 1 4 80 [.hole,kO,kV s 7 5 4,kP4,.vec 4 s.vs (s.ss.map yb),.vec 5 (s.vc+1) (cs.map vev),.hole,.vec 5 s.ve (s.ev.map vev),.hole,.hole] (some (.vref 4 s.vs s.ls)) (some (.list false 4 [aR v.1]))=some ⟨.vref 4 (s.vs+1) (s.ls+1),false,none,[.hole,kO,kV s 7 5 4,kP4,.vec 4 (s.vs+1) (ss.map yb),.vec 5 (s.vc+1) (cs.map vev),.hole,.vec 5 s.ve (s.ev.map vev),.hole,.hole]⟩:=qe0 (f:=yb) (x:=v.1) hss rfl (by simp only[go_sem,seval]) (by decide) (by decide) (by decide)
    have g3:qbg 10 0 5 88 [.hole,kO,.cells [(.vref 7 s.ve s.ev.length,false),(.vref 5 (s.vc+1) (s.lc+1),false),(.vref 4 (s.vs+1) (s.ls+1),false)],kP4,.vec 4 (s.vs+1) (ss.map yb),.vec 5 (s.vc+1) (cs.map vev),.hole,.vec 5 s.ve (s.ev.map vev),.hole,.hole,.hole] (some (.vref 7 s.ve s.ev.length)) (some (.list false 5 [aE e]))=some ⟨.vref 7 (s.ve+1) (s.ev.length+1),false,none,[.hole,kO,.cells [(.vref 7 s.ve s.ev.length,false),(.vref 5 (s.vc+1) (s.lc+1),false),(.vref 4 (s.vs+1) (s.ls+1),false)],kP4,.vec 4 (s.vs+1) (ss.map yb),.vec 5 (s.vc+1) (cs.map vev),.hole,.vec 5 (s.ve+1) (ev.map vev),.hole,.hole,.hole]⟩:=qe0 (f:=vev) (x:=e) hev rfl (by simp only[go_sem,seval]) (by decide) (by decide) (by decide)
    refine⟨[.hole,kO,.cells [(.vref 7 (s.ve+1) (s.ev.length+1),false),(.vref 5 (s.vc+1) (s.lc+1),false),(.vref 4 (s.vs+1) (s.ls+1),false)],kP4,.vec 4 (s.vs+1) (ss.map yb),.vec 5 (s.vc+1) (cs.map vev),.hole,.vec 5 (s.ve+1) (ev.map vev),.hole,.hole,.hole],?_,?_⟩
    ·rw[zd (show pr.fns 65=some c65 from rfl) (by simp)]
     simp only[go_sem,seval,c65,h1,h2,w1,wa,w2,h3,g1,g2,g3]<;>rfl
    ·simp only[hln]
     simp only[go_sem,seval]<;>rfl
   ·cases h
    refine⟨[.hole,kO,kV s 7 5 4,kP4,.vec 4 s.vs (s.ss.map yb),.vec 5 s.vc (s.cs.map vev),.hole,.vec 5 s.ve (s.ev.map vev)],?_,qaa rfl⟩
    rw[zd (show pr.fns 65=some c65 from rfl) (by simp)]
    simp only[go_sem,seval,c65,h1,h2,w1,wa,w2,h3]<;>rfl
 ·cases h
  refine⟨[.hole,kO,kV s 7 5 4,kP4,.vec 4 s.vs (s.ss.map yb),.vec 5 s.vc (s.cs.map vev),.hole,.vec 5 s.ve (s.ev.map vev)],?_,qaa rfl⟩
  rw[zd (show pr.fns 65=some c65 from rfl) (by simp)]
  simp only[go_sem,seval,c65,h1]<;>rfl
def HP1:Option HV→j8
 |none=>[.hole,kO,kP4,kP4,.vec 4 0 [aZ]]
 |some v=>[.hole,kO,kV v 7 5 4,kP4,.vec 4 v.vs (v.ss.map yb),.vec 5 v.vc (v.cs.map vev),.hole,.vec 5 v.ve (v.ev.map vev)]
def qep (l:Option (List ql))(x:Int×Option HV):qg:=⟨[(2,.ptr 1 0,false),(5,.ptr 2 0,false),(14,sl 5 vev l,false),(15,Lv l,false),(16,Iv x.1,false)],HP1 x.2⟩
def qgm (l:Option (List ql)):(Int×Int×Option HV)⊕(Int×Option HV)→qo×qg
 | .inl d=>(.ret,⟨[(2,.ptr 1 0,false),(3,Iv d.1,false),(4,Iv d.2.1,false)],HP1 d.2.2⟩)
 | .inr d=>(.exit 0,⟨[(2,.ptr 1 0,false),(5,.ptr 2 0,false),(14,sl 5 vev l,false),(15,Lv l,false),(16,Iv d.1,false),(17,.bool false,false)],HP1 d.2⟩)
theorem jy0 (l:Option (List ql))(x:Int×Option HV)(r)(h:s47 l x=some r):yq pr qb4 (qep l) (qgm l) x r:=by
 rcases x with⟨i,o⟩
 unfold s47 at h
 rcases jz h with⟨h1,h⟩|⟨h1,h⟩
 ·obtain⟨e,h2,h⟩:=jx h
  obtain⟨c,h3,h⟩:=jx h
  have w1:jy pr (X pr) 11 [aE e]=some (Iv c,false):=W11 h3
  rcases jz h with⟨h4,h⟩|⟨h4,h⟩
  ·obtain⟨e2,h5,h⟩:=jx h
   obtain⟨q,h6,h⟩:=jx h
   have w2:jy pr (X pr) 66 [aE e]=some (aE e2,false):=W66 h5
   rcases o with _|s
   ·obtain⟨hh,w3,wa⟩:=jui (e:=e2) h6
    rcases q with⟨q1,q2⟩
    rcases q2 with _|v
    ·simp only at wa
     rcases jz h with⟨h7,h⟩|⟨h7,h⟩
     ·cases h
      exact qex (st':=qep l (j6 .i64 (i+1),none)) (by simp only[go_sem,seval,qb4,qep,HP1,h1,ke h2,w1,h4,w2,w3,wa,h7]<;>rfl) (qh3 (Nat.le_refl _))
     ·cases h
      exact zw (by simp only[go_sem,seval,qb4,qep,HP1,h1,ke h2,w1,h4,w2,w3,wa,h7,qgm]<;>rfl)
    ·simp only at wa
     rcases jz h with⟨h7,h⟩|⟨h7,h⟩
     ·cases h
      exact qex (st':=qep l (j6 .i64 (i+1),some v)) (by simp only[go_sem,seval,qb4,qep,HP1,h1,ke h2,w1,h4,w2,w3,wa,h7]<;>rfl) (q6l rfl)
     ·cases h
      exact zw (by simp only[go_sem,seval,qb4,qep,HP1,h1,ke h2,w1,h4,w2,w3,wa,h7,qgm]<;>rfl)
   ·obtain⟨q0,h8,h9⟩:=jx h6
    cases h9
    obtain⟨hh,w3,wa⟩:=jwb (e:=e2) h8
    rcases jz h with⟨h7,h⟩|⟨h7,h⟩
    ·cases h
     exact qex (st':=qep l (j6 .i64 (i+1),some q0.2)) (by simp only[go_sem,seval,qb4,qep,HP1,h1,ke h2,w1,h4,w2,w3,wa,h7]<;>rfl) (qh3 (Nat.le_refl _))
    ·cases h
     exact zw (by simp only[go_sem,seval,qb4,qep,HP1,h1,ke h2,w1,h4,w2,w3,wa,h7,qgm]<;>rfl)
  ·cases h
   rcases o with _|s
   ·exact zw (by simp only[go_sem,seval,qb4,qep,HP1,h1,ke h2,w1,h4,qgm]<;>rfl)
   ·exact zw (by simp only[go_sem,seval,qb4,qep,HP1,h1,ke h2,w1,h4,qgm]<;>rfl)
 ·cases h
  exact zw (by simp only[go_sem,seval,qb4,qep,h1,qgm]<;>rfl)
theorem j5a:zf pr (X pr) 96 [] [.hole,kO,.hole]=some (.agg [Nl,Nl,.vref 4 0 1],false,[.hole,kO,.hole,kP4,.vec 4 0 [aZ]]):=by
 have vlit1:j9 pr (X pr) 4 none [(1,aZ,false),(0,.ptr 3 0,false)] [.hole,kO,.hole,kO,.hole] (.vlit 0 4 1 [Iv 0,Nl,Nl,Nl] [(0,.tmp 1)])=some ⟨.vref 4 0 1,false,none,[.hole,kO,.hole,kO,.vec 4 0 [aZ]]⟩:=rfl
 rw[zd (show pr.fns 96=some c96 from rfl) (by simp)]
 simp only[go_sem,seval,c96,vlit1]<;>rfl
def HQ1:Option HV→j8
 |none=>[.hole,kP4,kP4,kP4,.vec 4 0 [aZ]]
 |some v=>[.hole,kV v 7 5 4,kV v 7 5 4,kP4,.vec 4 v.vs (v.ss.map yb),.vec 5 v.vc (v.cs.map vev),.hole,.vec 5 v.ve (v.ev.map vev)]
def hv1:Option HV→qa
 |none=>.agg [Nl,Nl,.vref 4 0 1]
 |some v=>.agg [.vref 7 v.ve v.ev.length,.vref 5 v.vc v.lc,.vref 4 v.vs v.ls]
def rs1:(Int × Int)⊕Option HV→qa
 | .inl x=>.tup [.agg [Nl,Nl,Nl],Iv x.1,Iv x.2]
 | .inr o=>.tup [hv1 o,Iv 0,Iv 0]
def HR1:(Int × Int)⊕Option HV→j8
 | .inl _=>[.hole]
 | .inr o=>HQ1 o
theorem j35 {l:Option (List ql)}{r}(h:f47 l=some r):∃hh,zf pr (X pr) 47 [sl 5 vev l] [.hole]=some (rs1 r,false,hh)∧yi 1 (rs1 r) hh=HR1 r:=by
 unfold f47 at h
 rcases jz h with⟨h1,h⟩|⟨h1,h⟩
 ·cases h
  refine⟨[.hole,kO],?_,?_⟩
  ·rw[zd (show pr.fns 47=some c47 from rfl) (by simp)]
   simp only[go_sem,seval,c47,h1]<;>rfl
  ·simp only[go_sem,seval,rs1,HR1]<;>rfl
 ·obtain⟨d,h2,h⟩:=jx h
  have w:=j5a
  have wa:yi 3 (.agg [Nl,Nl,.vref 4 0 1]) [.hole,kO,.hole,kP4,.vec 4 0 [aZ]]=[.hole,kO,.hole,kP4,.vec 4 0 [aZ]]:=by simp only[go_sem,seval]<;>rfl
  have wl:X pr (.loop qb4) ⟨[(2,.ptr 1 0,false),(5,.ptr 2 0,false),(14,sl 5 vev l,false),(15,Lv l,false),(16,Iv 0,false)],[.hole,kO,kP4,kP4,.vec 4 0 [aZ]]⟩=some (qgm l d):=y8 (jy0 l) (fun d=>by rcases d with d|d<;>(intro hh;cases hh)) h2
  rcases d with⟨d1,d2,d3⟩|⟨d1,d2⟩
  ·cases h
   simp only[qgm]at wl
   rcases d3 with _|v
   ·refine⟨[.hole,kO,kP4,kP4,.vec 4 0 [aZ]],?_,?_⟩
    ·simp only[HP1]at wl
     rw[zd (show pr.fns 47=some c47 from rfl) (by simp)]
     simp only[go_sem,seval,c47,h1,w,wa,wl]<;>rfl
    ·simp only[go_sem,seval,rs1,HR1]<;>rfl
   ·refine⟨[.hole,kO,kV v 7 5 4,kP4,.vec 4 v.vs (v.ss.map yb),.vec 5 v.vc (v.cs.map vev),.hole,.vec 5 v.ve (v.ev.map vev)],?_,?_⟩
    ·simp only[HP1]at wl
     rw[zd (show pr.fns 47=some c47 from rfl) (by simp)]
     simp only[go_sem,seval,c47,h1,w,wa,wl]<;>rfl
    ·simp only[go_sem,seval,rs1,HR1]<;>rfl
  ·cases h
   simp only[qgm]at wl
   refine⟨HQ1 d2,?_,?_⟩
   ·rw[zd (show pr.fns 47=some c47 from rfl) (by simp)]
    rcases d2 with _|v
    ·simp only[HP1]at wl
     simp only[go_sem,seval,c47,h1,w,wa,wl,hv1,HQ1]<;>rfl
    ·simp only[HP1]at wl
     simp only[go_sem,seval,c47,h1,w,wa,wl,hv1,HQ1]<;>rfl
   ·rcases d2 with _|v
    ·simp only[go_sem,seval,rs1,HR1,hv1,HQ1]<;>rfl
    ·simp only[go_sem,seval,rs1,HR1,hv1,HQ1]<;>rfl
theorem jko:zf pr (X pr) 48 [.ptr 0 0] [kP4,kP4,kP4,kP4,.vec 4 0 [aZ]]=some (aZ,false,[kP4,kP4,kP4,kP4,.vec 4 0 [aZ],kZ]):=by
 have g1:∀h:j8,qcq 4 h (some (.vref 4 0 1)) (some (Iv (j6 .i64 0)))=some ⟨.vel 4 0 0,false,none,h⟩:=fun h=>(qfb (l:=[zreg]) (x:=zreg) rfl).1
 have g2:qas 6 (some []) true 4 [kP4,kP4,kP4,kP4,.vec 4 0 [aZ],kZ] (some (.vel 4 0 0))=some ⟨aZ,false,none,[kP4,kP4,kP4,kP4,.vec 4 0 [aZ],kZ]⟩:=rfl
 rw[zd (show pr.fns 48=some c48 from rfl) (by simp)]
 simp only[go_sem,seval,c48,g1,g2]<;>rfl
theorem jl5 {e:ql}{q}(h:qjy e=some q):∃hh,zf pr (X pr) 65 [.ptr 0 0,aE e] [kP4,kP4,kP4,kP4,.vec 4 0 [aZ]]=some (Iv q.1,false,hh):=by
 unfold qjy at h
 rcases jz h with⟨h1,h⟩|⟨h1,h⟩
 ·rcases jz h with⟨h2,h⟩|⟨h2,h⟩
  ·obtain⟨e1,k1,h⟩:=jx h
   obtain⟨e2,k3,h⟩:=jx h
   obtain⟨e3,k4,h⟩:=jx h
   have w1:=W53 k1
   have w2:=W53 k3
   have w3:jy pr (X pr) 51 [.list false 1 [Iv e1,Iv e2]]=some (Iv e3,false):=W51 k4
   rcases jz h with⟨h4,h⟩|⟨h4,h⟩
   ·cases h
   ·cases h
    refine⟨[kP4,kP4,kP4,kP4,.vec 4 0 [aZ]],?_⟩
    rw[zd (show pr.fns 65=some c65 from rfl) (by simp)]
    simp only[go_sem,seval,c65,h1,h2,w1,w2,w3,h4,qto,je1,jij]<;>rfl
  ·obtain⟨v,k2,h⟩:=jx h
   have w1:=jko
   have wa:yi 5 (aZ) [kP4,kP4,kP4,kP4,.vec 4 0 [aZ],kZ]=[kP4,kP4,kP4,kP4,.vec 4 0 [aZ]]:=by simp only[go_sem,seval]<;>rfl
   have w2:jy pr (X pr) 121 [aZ,aE e]=some (.tup [aR v.1,Iv v.2],false):=qyv k2
   rcases jz h with⟨h3,h⟩|⟨h3,h⟩
   ·cases h
    have g1:qbg 5 0 5 88 [kP4,kP4,kP4,kP4,.vec 4 0 [aZ],.hole,.hole] (some (Nl)) (some (.list false 5 [aE e]))=some ⟨.vref 5 0 1,false,none,[kP4,kP4,kP4,kP4,.vec 4 0 [aZ],.vec 5 0 [aE e],.hole]⟩:=by z8 qic<;>first|rfl|decide|(simp only[go_sem,seval]<;>done)|simp
    have g2:qbg 5 1 4 80 [kP4,kP4,kP4,kP4,.vec 4 0 [aZ],.vec 5 0 [aE e],.hole] (some (.vref 4 0 1)) (some (.list false 4 [aR v.1]))=some ⟨.vref 4 1 2,false,none,[kP4,kP4,kP4,kP4,.vec 4 1 [aZ,aR v.1],.vec 5 0 [aE e],.hole]⟩:=qe0 (f:=yb) (l:=[zreg]) (l':=[zreg,v.1]) (x:=v.1) rfl rfl (by simp only[go_sem,seval]) (by decide) (by decide) (by decide)
    have g3:qbg 7 0 5 88 [.cells [(Nl,false),(.vref 5 0 1,false),(.vref 4 1 2,false)],kP4,kP4,kP4,.vec 4 1 [aZ,aR v.1],.vec 5 0 [aE e],.hole,.hole] (some (Nl)) (some (.list false 5 [aE e]))=some ⟨.vref 7 0 1,false,none,[.cells [(Nl,false),(.vref 5 0 1,false),(.vref 4 1 2,false)],kP4,kP4,kP4,.vec 4 1 [aZ,aR v.1],.vec 5 0 [aE e],.hole,.vec 5 0 [aE e]]⟩:=by z8 qic<;>first|rfl|decide|(simp only[go_sem,seval]<;>done)|simp
    refine⟨[.cells [(.vref 7 0 1,false),(.vref 5 0 1,false),(.vref 4 1 2,false)],kP4,kP4,kP4,.vec 4 1 [aZ,aR v.1],.vec 5 0 [aE e],.hole,.vec 5 0 [aE e]],?_⟩
    rw[zd (show pr.fns 65=some c65 from rfl) (by simp)]
    simp only[go_sem,seval,c65,h1,h2,w1,wa,w2,h3,g1,g2,g3,qto]<;>rfl
   ·cases h
    refine⟨[kP4,kP4,kP4,kP4,.vec 4 0 [aZ]],?_⟩
    rw[zd (show pr.fns 65=some c65 from rfl) (by simp)]
    simp only[go_sem,seval,c65,h1,h2,w1,wa,w2,h3]<;>rfl
 ·cases h
  refine⟨[kP4,kP4,kP4,kP4,.vec 4 0 [aZ]],?_⟩
  rw[zd (show pr.fns 65=some c65 from rfl) (by simp)]
  simp only[go_sem,seval,c65,h1]<;>rfl
theorem jr4 {s:HV}{r:qc}(hx:zo (s.ss.take s.ls) (j6 .i64 ((s.ls:Int)-1))=some r):zf pr (X pr) 48 [.ptr 0 0] [kV s 7 5 4,kV s 7 5 4,kV s 7 5 4,kP4,.vec 4 s.vs (s.ss.map yb),.vec 5 s.vc (s.cs.map vev),.hole,.vec 5 s.ve (s.ev.map vev)]=some (aR r,false,[kV s 7 5 4,kV s 7 5 4,kV s 7 5 4,kP4,.vec 4 s.vs (s.ss.map yb),.vec 5 s.vc (s.cs.map vev),.hole,.vec 5 s.ve (s.ev.map vev),kR r.day r.lots r.products r.units]):=by
 have g1:∀h:j8,qcq 4 h (some (.vref 4 s.vs s.ls)) (some (Iv (j6 .i64 ((s.ls:Int)-1))))=some ⟨.vel 4 s.vs ((j6 .i64 ((s.ls:Int)-1)).toNat*4),false,none,h⟩:=fun h=>(qfb hx).1
 have g2:qas 9 (some []) true 4 [kV s 7 5 4,kV s 7 5 4,kV s 7 5 4,kP4,.vec 4 s.vs (s.ss.map yb),.vec 5 s.vc (s.cs.map vev),.hole,.vec 5 s.ve (s.ev.map vev),kZ] (some (.vel 4 s.vs ((j6 .i64 ((s.ls:Int)-1)).toNat*4)))=some ⟨aR r,false,none,[kV s 7 5 4,kV s 7 5 4,kV s 7 5 4,kP4,.vec 4 s.vs (s.ss.map yb),.vec 5 s.vc (s.cs.map vev),.hole,.vec 5 s.ve (s.ev.map vev),kZ]⟩:=qvx q1g rfl rfl (qfb (sz:=4) (b:=0) (v:=0) (h:=[]) hx).2
 rw[zd (show pr.fns 48=some c48 from rfl) (by simp)]
 simp only[go_sem,seval,c48,g1,g2]<;>rfl
theorem jss {s:HV}{e:ql}{q}(h:qpg s e=some q):∃hh,zf pr (X pr) 65 [.ptr 0 0,aE e] [kV s 7 5 4,kV s 7 5 4,kV s 7 5 4,kP4,.vec 4 s.vs (s.ss.map yb),.vec 5 s.vc (s.cs.map vev),.hole,.vec 5 s.ve (s.ev.map vev)]=some (Iv q.1,false,hh):=by
 unfold qpg at h
 rcases jz h with⟨h1,h⟩|⟨h1,h⟩
 ·rcases jz h with⟨h2,h⟩|⟨h2,h⟩
  ·obtain⟨e1,k1,h⟩:=jx h
   have w1:=W53 k1
   rcases jz h with⟨h3,h⟩|⟨h3,h⟩
   ·obtain⟨x,k2,h⟩:=jx h
    obtain⟨e2,k3,h⟩:=jx h
    obtain⟨e3,k4,h⟩:=jx h
    have w2:=W53 k3
    have w3:jy pr (X pr) 51 [.list false 1 [Iv e1,Iv e2]]=some (Iv e3,false):=W51 k4
    have g1:∀h:j8,qcq 5 h (some (.vref 5 s.vc s.lc)) (some (Iv (max 0 (j6 .i64 ((s.lc:Int)-1)))))=some ⟨.vel 5 s.vc ((max 0 (j6 .i64 ((s.lc:Int)-1))).toNat*5),false,none,h⟩:=fun h=>(qfb k2).1
    have g2:qas 8 none false 1 [kV s 7 5 4,kV s 7 5 4,kV s 7 5 4,kP4,.vec 4 s.vs (s.ss.map yb),.vec 5 s.vc (s.cs.map vev),.hole,.vec 5 s.ve (s.ev.map vev)] (some (.vel 5 s.vc ((max 0 (j6 .i64 ((s.lc:Int)-1))).toNat*5+1)))=some ⟨.str x.kind,false,none,[kV s 7 5 4,kV s 7 5 4,kV s 7 5 4,kP4,.vec 4 s.vs (s.ss.map yb),.vec 5 s.vc (s.cs.map vev),.hole,.vec 5 s.ve (s.ev.map vev)]⟩:=q4k (f:=vev) (o:=1) jht rfl rfl (qfb (sz:=4) (b:=0) (v:=0) (h:=[]) k2).2 rfl
    rcases jz h with⟨h4,h⟩|⟨h4,h⟩
    ·rcases jz h with⟨h5,h⟩|⟨_,h⟩
     ·obtain⟨ev,hev,h⟩:=jx h
      cases h
      have c5:=of_decide_eq_true h5
      have hln:ev.length=s.ev.length+1:=qg6 hev
      have g3:∀h:j8,qgu 5 h (some (.vref 5 s.vc s.lc)) none (some (some (Iv (j6 .i64 ((s.lc:Int)-1)))))=some ⟨.vref 5 s.vc (j6 .i64 ((s.lc:Int)-1)).toNat,false,none,h⟩:=fun h=>qyz c5.1 c5.2.1
      have g4:∀h:j8,qgu 4 h (some (.vref 4 s.vs s.ls)) none (some (some (Iv (s.lc:Int))))=some ⟨.vref 4 s.vs s.lc,false,none,h⟩:=fun h=>qyz (by omega) (by have:=c5.2.2;omega)
      have g5:qbg 8 0 5 88 [.cells [(.vref 7 s.ve s.ev.length,false),(.vref 5 s.vc (j6 .i64 ((s.lc:Int)-1)).toNat,false),(.vref 4 s.vs s.lc,false)],kV s 7 5 4,kV s 7 5 4,kP4,.vec 4 s.vs (s.ss.map yb),.vec 5 s.vc (s.cs.map vev),.hole,.vec 5 s.ve (s.ev.map vev),.hole] (some (.vref 7 s.ve s.ev.length)) (some (.list false 5 [aE e]))=some ⟨.vref 7 (s.ve+1) (s.ev.length+1),false,none,[.cells [(.vref 7 s.ve s.ev.length,false),(.vref 5 s.vc (j6 .i64 ((s.lc:Int)-1)).toNat,false),(.vref 4 s.vs s.lc,false)],kV s 7 5 4,kV s 7 5 4,kP4,.vec 4 s.vs (s.ss.map yb),.vec 5 s.vc (s.cs.map vev),.hole,.vec 5 (s.ve+1) (ev.map vev),.hole]⟩:=qe0 (f:=vev) (x:=e) hev rfl (by simp only[go_sem,seval]) (by decide) (by decide) (by decide)
      refine⟨[.cells [(.vref 7 (s.ve+1) (s.ev.length+1),false),(.vref 5 s.vc (j6 .i64 ((s.lc:Int)-1)).toNat,false),(.vref 4 s.vs s.lc,false)],kV s 7 5 4,kV s 7 5 4,kP4,.vec 4 s.vs (s.ss.map yb),.vec 5 s.vc (s.cs.map vev),.hole,.vec 5 (s.ve+1) (ev.map vev),.hole],?_⟩
      rw[zd (show pr.fns 65=some c65 from rfl) (by simp)]
      simp only[go_sem,seval,c65,h1,h2,w1,h3,g1,g2,w2,w3,h4,g3,g4,g5]<;>rfl
     ·cases h
    ·cases h
     refine⟨[kV s 7 5 4,kV s 7 5 4,kV s 7 5 4,kP4,.vec 4 s.vs (s.ss.map yb),.vec 5 s.vc (s.cs.map vev),.hole,.vec 5 s.ve (s.ev.map vev)],?_⟩
     rw[zd (show pr.fns 65=some c65 from rfl) (by simp)]
     simp only[go_sem,seval,c65,h1,h2,w1,h3,g1,g2,w2,w3,h4]<;>rfl
   ·obtain⟨e2,k3,h⟩:=jx h
    obtain⟨e3,k4,h⟩:=jx h
    have w2:=W53 k3
    have w3:jy pr (X pr) 51 [.list false 1 [Iv e1,Iv e2]]=some (Iv e3,false):=W51 k4
    rcases jz h with⟨h4,h⟩|⟨h4,h⟩
    ·cases h
    ·cases h
     refine⟨[kV s 7 5 4,kV s 7 5 4,kV s 7 5 4,kP4,.vec 4 s.vs (s.ss.map yb),.vec 5 s.vc (s.cs.map vev),.hole,.vec 5 s.ve (s.ev.map vev)],?_⟩
     rw[zd (show pr.fns 65=some c65 from rfl) (by simp)]
     simp only[go_sem,seval,c65,h1,h2,w1,h3,w2,w3,h4]<;>rfl
  ·obtain⟨r,k1,h⟩:=jx h
   obtain⟨v,k2,h⟩:=jx h
   have w1:=jr4 k1
   have wa:yi 8 (aR r) [kV s 7 5 4,kV s 7 5 4,kV s 7 5 4,kP4,.vec 4 s.vs (s.ss.map yb),.vec 5 s.vc (s.cs.map vev),.hole,.vec 5 s.ve (s.ev.map vev),kR r.day r.lots r.products r.units]=[kV s 7 5 4,kV s 7 5 4,kV s 7 5 4,kP4,.vec 4 s.vs (s.ss.map yb),.vec 5 s.vc (s.cs.map vev),.hole,.vec 5 s.ve (s.ev.map vev)]:=by simp only[go_sem,seval]<;>rfl
   have w2:jy pr (X pr) 121 [aR r,aE e]=some (.tup [aR v.1,Iv v.2],false):=qyv k2
   rcases jz h with⟨h3,h⟩|⟨h3,h⟩
   ·obtain⟨cs,hcs,h⟩:=jx h
    obtain⟨ss,hss,h⟩:=jx h
    obtain⟨ev,hev,h⟩:=jx h
    cases h
    have hln:ev.length=s.ev.length+1:=qg6 hev
    have g1:qbg 8 0 5 88 [kV s 7 5 4,kV s 7 5 4,kV s 7 5 4,kP4,.vec 4 s.vs (s.ss.map yb),.vec 5 s.vc (s.cs.map vev),.hole,.vec 5 s.ve (s.ev.map vev),.hole,.hole] (some (.vref 5 s.vc s.lc)) (some (.list false 5 [aE e]))=some ⟨.vref 5 (s.vc+1) (s.lc+1),false,none,[kV s 7 5 4,kV s 7 5 4,kV s 7 5 4,kP4,.vec 4 s.vs (s.ss.map yb),.vec 5 (s.vc+1) (cs.map vev),.hole,.vec 5 s.ve (s.ev.map vev),.hole,.hole]⟩:=qe0 (f:=vev) (x:=e) hcs rfl (by simp only[go_sem,seval]) (by decide) (by decide) (by decide)
    have g2:qbg 8 1 4 80 [kV s 7 5 4,kV s 7 5 4,kV s 7 5 4,kP4,.vec 4 s.vs (s.ss.map yb),.vec 5 (s.vc+1) (cs.map vev),.hole,.vec 5 s.ve (s.ev.map vev),.hole,.hole] (some (.vref 4 s.vs s.ls)) (some (.list false 4 [aR v.1]))=some ⟨.vref 4 (s.vs+1) (s.ls+1),false,none,[kV s 7 5 4,kV s 7 5 4,kV s 7 5 4,kP4,.vec 4 (s.vs+1) (ss.map yb),.vec 5 (s.vc+1) (cs.map vev),.hole,.vec 5 s.ve (s.ev.map vev),.hole,.hole]⟩:=qe0 (f:=yb) (x:=v.1) hss rfl (by simp only[go_sem,seval]) (by decide) (by decide) (by decide)
    have g3:qbg 10 0 5 88 [.cells [(.vref 7 s.ve s.ev.length,false),(.vref 5 (s.vc+1) (s.lc+1),false),(.vref 4 (s.vs+1) (s.ls+1),false)],kV s 7 5 4,kV s 7 5 4,kP4,.vec 4 (s.vs+1) (ss.map yb),.vec 5 (s.vc+1) (cs.map vev),.hole,.vec 5 s.ve (s.ev.map vev),.hole,.hole,.hole] (some (.vref 7 s.ve s.ev.length)) (some (.list false 5 [aE e]))=some ⟨.vref 7 (s.ve+1) (s.ev.length+1),false,none,[.cells [(.vref 7 s.ve s.ev.length,false),(.vref 5 (s.vc+1) (s.lc+1),false),(.vref 4 (s.vs+1) (s.ls+1),false)],kV s 7 5 4,kV s 7 5 4,kP4,.vec 4 (s.vs+1) (ss.map yb),.vec 5 (s.vc+1) (cs.map vev),.hole,.vec 5 (s.ve+1) (ev.map vev),.hole,.hole,.hole]⟩:=qe0 (f:=vev) (x:=e) hev rfl (by simp only[go_sem,seval]) (by decide) (by decide) (by decide)
    refine⟨[.cells [(.vref 7 (s.ve+1) (s.ev.length+1),false),(.vref 5 (s.vc+1) (s.lc+1),false),(.vref 4 (s.vs+1) (s.ls+1),false)],kV s 7 5 4,kV s 7 5 4,kP4,.vec 4 (s.vs+1) (ss.map yb),.vec 5 (s.vc+1) (cs.map vev),.hole,.vec 5 (s.ve+1) (ev.map vev),.hole,.hole,.hole],?_⟩
    rw[zd (show pr.fns 65=some c65 from rfl) (by simp)]
    simp only[go_sem,seval,c65,h1,h2,w1,wa,w2,h3,g1,g2,g3]<;>rfl
   ·cases h
    refine⟨[kV s 7 5 4,kV s 7 5 4,kV s 7 5 4,kP4,.vec 4 s.vs (s.ss.map yb),.vec 5 s.vc (s.cs.map vev),.hole,.vec 5 s.ve (s.ev.map vev)],?_⟩
    rw[zd (show pr.fns 65=some c65 from rfl) (by simp)]
    simp only[go_sem,seval,c65,h1,h2,w1,wa,w2,h3]<;>rfl
 ·cases h
  refine⟨[kV s 7 5 4,kV s 7 5 4,kV s 7 5 4,kP4,.vec 4 s.vs (s.ss.map yb),.vec 5 s.vc (s.cs.map vev),.hole,.vec 5 s.ve (s.ev.map vev)],?_⟩
  rw[zd (show pr.fns 65=some c65 from rfl) (by simp)]
  simp only[go_sem,seval,c65,h1]<;>rfl
noncomputable def f15 (l:Option (List ql))(e:ql):Option Int:=jw (f47 l) fun r=>jw (f11 e) fun c=>jw (f53 (decide (1000≤((l.getD []).length:Int))) 5) fun k=>match r with
 | .inl x=>jw (f51 (some [x.2,c,k])) fun e1=>cond (decide (e1=0)) none (some e1)
 | .inr o=>jw (f51 (some [0,c,k])) fun e1=>cond (decide (e1=0)) (jw (f66 e) fun e2=>jw (q1s o e2) fun q=>some q.1) (some e1)
theorem W15 {l:Option (List ql)}{e:ql}{r}(h:f15 l e=some r):jy pr (X pr) 15 [sl 5 vev l,aE e]=some (Iv r,false):=by
 unfold f15 at h
 obtain⟨x,h1,h⟩:=jx h
 obtain⟨c,h2,h⟩:=jx h
 obtain⟨k,h3,h⟩:=jx h
 obtain⟨hh,w,wa⟩:=j35 h1
 have w1:jy pr (X pr) 11 [aE e]=some (Iv c,false):=W11 h2
 have w2:=W53 h3
 suffices this:∃hh,zf pr (X pr) 15 [sl 5 vev l,aE e] []=some (Iv r,false,hh) by
  obtain⟨hh,this⟩:=this
  exact kq rfl this (by first|rfl|simp only[go_sem,seval]) (by first|rfl|simp only[go_sem,seval])
 rcases x with x|o
 ·obtain⟨e1,h4,h⟩:=jx h
  have w3:jy pr (X pr) 51 [.list false 1 [Iv x.2,Iv c,Iv k]]=some (Iv e1,false):=W51 h4
  rcases jz h with⟨h5,h⟩|⟨h5,h⟩
  ·cases h
  ·cases h
   simp only[rs1,HR1]at w wa
   rw[zd (show pr.fns 15=some c15 from rfl) (by simp)]
   simp only[go_sem,seval,c15,w,wa,w1,w2,w3,h5]
   exact⟨_,rfl⟩
 ·obtain⟨e1,h4,h⟩:=jx h
  have w3:jy pr (X pr) 51 [.list false 1 [Iv 0,Iv c,Iv k]]=some (Iv e1,false):=W51 h4
  rcases jz h with⟨h5,h⟩|⟨h5,h⟩
  ·obtain⟨e2,h6,h⟩:=jx h
   obtain⟨q,h7,h⟩:=jx h
   cases h
   have w4:jy pr (X pr) 66 [aE e]=some (aE e2,false):=W66 h6
   rcases o with _|v
   ·simp only[rs1,HR1,HQ1,hv1]at w wa
    obtain⟨h8,w5⟩:=jl5 (e:=e2) h7
    rw[zd (show pr.fns 15=some c15 from rfl) (by simp)]
    simp only[go_sem,seval,c15,w,wa,w1,w2,w3,h5,w4,w5]
    exact⟨_,rfl⟩
   ·simp only[rs1,HR1,HQ1,hv1]at w wa
    obtain⟨q0,h9,h10⟩:=jx h7
    cases h10
    obtain⟨h8,w5⟩:=jss (e:=e2) h9
    rw[zd (show pr.fns 15=some c15 from rfl) (by simp)]
    simp only[go_sem,seval,c15,w,wa,w1,w2,w3,h5,w4,w5]
    exact⟨_,rfl⟩
  ·cases h
   rcases o with _|v
   ·simp only[rs1,HR1,HQ1,hv1]at w wa
    rw[zd (show pr.fns 15=some c15 from rfl) (by simp)]
    simp only[go_sem,seval,c15,w,wa,w1,w2,w3,h5]
    exact⟨_,rfl⟩
   ·simp only[rs1,HR1,HQ1,hv1]at w wa
    rw[zd (show pr.fns 15=some c15 from rfl) (by simp)]
    simp only[go_sem,seval,c15,w,wa,w1,w2,w3,h5]
    exact⟨_,rfl⟩
end Go.Z
