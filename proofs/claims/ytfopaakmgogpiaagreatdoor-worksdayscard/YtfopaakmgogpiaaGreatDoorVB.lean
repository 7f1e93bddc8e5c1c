/- Chapter 10. -/
import Derived.Test.YtfopaakmgogpiaaGreatDoorV9
set_option maxRecDepth 100000
set_option maxHeartbeats 4000000
open Bool renaming false→I
open Option renaming some→En,none→E1
namespace Go.Z
open Go Go.Abs Go.W
theorem jtq:zg pr (X pr) 48 [.ptr 1 0] [kO,.cells [(Nl,I),(Nl,I),(.ak 3 0 1,I)],.cells [(Nl,I),(Nl,I),(.ak 3 0 1,I)],.vec 4 0 [aZ]]=En (aZ,I,[kO,.cells [(Nl,I),(Nl,I),(.ak 3 0 1,I)],.cells [(Nl,I),(Nl,I),(.ak 3 0 1,I)],.vec 4 0 [aZ],kZ]):=by
 have g1:∀h:j8,kL 4 h (En (.ak 3 0 1)) (En (Iv (j9 .i64 0)))=En ⟨.dq 3 0 0,I,E1,h⟩:=fun h=>(H5 (l:=[eM]) (x:=eM) rfl).1
 have g2:gd 5 (En []) true 4 [kO,.cells [(Nl,I),(Nl,I),(.ak 3 0 1,I)],.cells [(Nl,I),(Nl,I),(.ak 3 0 1,I)],.vec 4 0 [aZ],kZ] (En (.dq 3 0 0))=En ⟨aZ,I,E1,[kO,.cells [(Nl,I),(Nl,I),(.ak 3 0 1,I)],.cells [(Nl,I),(Nl,I),(.ak 3 0 1,I)],.vec 4 0 [aZ],kZ]⟩:=rfl
 rw[zh (show pr.bL 48=En A0 from rfl) (by simp)]
 simp only[go_sem,seval,A0,g1,g2]<;>rfl
theorem jt7 {e:qm}{q}(h:G9 e=En q):∃hh,zg pr (X pr) 65 [.ptr 1 0,aE e] [kO,.cells [(Nl,I),(Nl,I),(.ak 3 0 1,I)],.cells [(Nl,I),(Nl,I),(.ak 3 0 1,I)],.vec 4 0 [aZ]]=En (Iv q.1,I,hh)∧yq 4 (Iv q.1) hh=(match q.2 with
  |none=>[kO,.cells [(Nl,I),(Nl,I),(.ak 3 0 1,I)],.cells [(Nl,I),(Nl,I),(.ak 3 0 1,I)],.vec 4 0 [aZ]]
  |some v=>[kO,kV v 6 4 3,.cells [(Nl,I),(Nl,I),(.ak 3 0 1,I)],.vec 4 v.vs (v.ss.map y6),.vec 5 v.vc (v.cs.map vev),.hole,.vec 5 v.ve (v.ev.map vev)]):=by
 unfold G9 at h
 rcases j6 h with⟨h1,h⟩|⟨h1,h⟩
 ·rcases j6 h with⟨h2,h⟩|⟨h2,h⟩
  ·obtain⟨e1,k1,h⟩:=jy h
   obtain⟨e2,k3,h⟩:=jy h
   obtain⟨e3,k4,h⟩:=jy h
   have w1:=gp k1
   have w2:=gp k3
   have w3:jz pr (X pr) 51 [.list I 1 [Iv e1,Iv e2]]=En (Iv e3,I):=l5 k4
   rcases j6 h with⟨h4,h⟩|⟨h4,h⟩
   ·cases h
   ·cases h
    refine⟨[kO,.cells [(Nl,I),(Nl,I),(.ak 3 0 1,I)],.cells [(Nl,I),(Nl,I),(.ak 3 0 1,I)],.vec 4 0 [aZ]],?_,sg rfl⟩
    rw[zh (show pr.bL 65=En iy from rfl) (by simp)]
    simp only[go_sem,seval,iy,h1,h2,w1,w2,w3,h4,jju,zf0,zb8]<;>rfl
  ·obtain⟨v,k2,h⟩:=jy h
   have w1:=jtq
   have wa:yq 4 (aZ) [kO,.cells [(Nl,I),(Nl,I),(.ak 3 0 1,I)],.cells [(Nl,I),(Nl,I),(.ak 3 0 1,I)],.vec 4 0 [aZ],kZ]=[kO,.cells [(Nl,I),(Nl,I),(.ak 3 0 1,I)],.cells [(Nl,I),(Nl,I),(.ak 3 0 1,I)],.vec 4 0 [aZ]]:=by simp only[go_sem,seval]<;>rfl
   have w2:jz pr (X pr) 121 [aZ,aE e]=En (.aC [aR v.1,Iv v.2],I):=juf k2
   rcases j6 h with⟨h3,h⟩|⟨h3,h⟩
   ·cases h
    have g1:n8 4 0 5 88 [kO,.cells [(Nl,I),(Nl,I),(.ak 3 0 1,I)],.cells [(Nl,I),(Nl,I),(.ak 3 0 1,I)],.vec 4 0 [aZ],.hole,.hole] (En (Nl)) (En (.list I 5 [aE e]))=En ⟨.ak 4 0 1,I,E1,[kO,.cells [(Nl,I),(Nl,I),(.ak 3 0 1,I)],.cells [(Nl,I),(Nl,I),(.ak 3 0 1,I)],.vec 4 0 [aZ],.vec 5 0 [aE e],.hole]⟩:=by apply q20<;>first|rfl|decide|(simp only[go_sem,seval]<;>done)|simp
    have g2:n8 4 1 4 80 [kO,.cells [(Nl,I),(Nl,I),(.ak 3 0 1,I)],.cells [(Nl,I),(Nl,I),(.ak 3 0 1,I)],.vec 4 0 [aZ],.vec 5 0 [aE e],.hole] (En (.ak 3 0 1)) (En (.list I 4 [aR v.1]))=En ⟨.ak 3 1 2,I,E1,[kO,.cells [(Nl,I),(Nl,I),(.ak 3 0 1,I)],.cells [(Nl,I),(Nl,I),(.ak 3 0 1,I)],.vec 4 1 [aZ,aR v.1],.vec 5 0 [aE e],.hole]⟩:=H6 (f:=y6) (l:=[eM]) (l':=[eM,v.1]) (x:=v.1) rfl rfl (by simp only[go_sem,seval]) (by decide) (by decide) (by decide)
    have g3:n8 6 0 5 88 [kO,.cells [(Nl,I),(.ak 4 0 1,I),(.ak 3 1 2,I)],.cells [(Nl,I),(Nl,I),(.ak 3 0 1,I)],.vec 4 1 [aZ,aR v.1],.vec 5 0 [aE e],.hole,.hole] (En (Nl)) (En (.list I 5 [aE e]))=En ⟨.ak 6 0 1,I,E1,[kO,.cells [(Nl,I),(.ak 4 0 1,I),(.ak 3 1 2,I)],.cells [(Nl,I),(Nl,I),(.ak 3 0 1,I)],.vec 4 1 [aZ,aR v.1],.vec 5 0 [aE e],.hole,.vec 5 0 [aE e]]⟩:=by apply q20<;>first|rfl|decide|(simp only[go_sem,seval]<;>done)|simp
    refine⟨[kO,.cells [(.ak 6 0 1,I),(.ak 4 0 1,I),(.ak 3 1 2,I)],.cells [(Nl,I),(Nl,I),(.ak 3 0 1,I)],.vec 4 1 [aZ,aR v.1],.vec 5 0 [aE e],.hole,.vec 5 0 [aE e]],?_,?_⟩
    ·rw[zh (show pr.bL 65=En iy from rfl) (by simp)]
     simp only[go_sem,seval,iy,h1,h2,w1,wa,w2,h3,g1,g2,g3,jju]<;>rfl
    ·simp only[go_sem,seval,(show ∀k b v l,k≤b→below k (.ak b v l)=I from fun k b v l h=>by rw[jai];exact dF (by omega))]<;>rfl
   ·cases h
    refine⟨[kO,.cells [(Nl,I),(Nl,I),(.ak 3 0 1,I)],.cells [(Nl,I),(Nl,I),(.ak 3 0 1,I)],.vec 4 0 [aZ]],?_,sg rfl⟩
    rw[zh (show pr.bL 65=En iy from rfl) (by simp)]
    simp only[go_sem,seval,iy,h1,h2,w1,wa,w2,h3]<;>rfl
 ·cases h
  refine⟨[kO,.cells [(Nl,I),(Nl,I),(.ak 3 0 1,I)],.cells [(Nl,I),(Nl,I),(.ak 3 0 1,I)],.vec 4 0 [aZ]],?_,sg rfl⟩
  rw[zh (show pr.bL 65=En iy from rfl) (by simp)]
  simp only[go_sem,seval,iy,h1]<;>rfl
theorem j4g {s:HV}{r:qc}(hx:zp (s.ss.take s.ls) (j9 .i64 ((s.ls:Int)-1))=En r):zg pr (X pr) 48 [.ptr 1 0] [kO,kV s 6 4 3,.cells [(Nl,I),(Nl,I),(.ak 3 0 1,I)],.vec 4 s.vs (s.ss.map y6),.vec 5 s.vc (s.cs.map vev),.hole,.vec 5 s.ve (s.ev.map vev)]=En (aR r,I,[kO,kV s 6 4 3,.cells [(Nl,I),(Nl,I),(.ak 3 0 1,I)],.vec 4 s.vs (s.ss.map y6),.vec 5 s.vc (s.cs.map vev),.hole,.vec 5 s.ve (s.ev.map vev),kR r.day r.au r.ae r.units]):=by
 have g1:∀h:j8,kL 4 h (En (.ak 3 s.vs s.ls)) (En (Iv (j9 .i64 ((s.ls:Int)-1))))=En ⟨.dq 3 s.vs ((j9 .i64 ((s.ls:Int)-1)).toNat*4),I,E1,h⟩:=fun h=>(H5 hx).1
 have g2:gd 8 (En []) true 4 [kO,kV s 6 4 3,.cells [(Nl,I),(Nl,I),(.ak 3 0 1,I)],.vec 4 s.vs (s.ss.map y6),.vec 5 s.vc (s.cs.map vev),.hole,.vec 5 s.ve (s.ev.map vev),kZ] (En (.dq 3 s.vs ((j9 .i64 ((s.ls:Int)-1)).toNat*4)))=En ⟨aR r,I,E1,[kO,kV s 6 4 3,.cells [(Nl,I),(Nl,I),(.ak 3 0 1,I)],.vec 4 s.vs (s.ss.map y6),.vec 5 s.vc (s.cs.map vev),.hole,.vec 5 s.ve (s.ev.map vev),kZ]⟩:=jrv j11 rfl rfl (H5 (sz:=4) (b:=0) (v:=0) (h:=[]) hx).2
 rw[zh (show pr.bL 48=En A0 from rfl) (by simp)]
 simp only[go_sem,seval,A0,g1,g2]<;>rfl
theorem j4u {s:HV}{e:qm}{q}(h:Hc s e=En q):∃hh,zg pr (X pr) 65 [.ptr 1 0,aE e] [kO,kV s 6 4 3,.cells [(Nl,I),(Nl,I),(.ak 3 0 1,I)],.vec 4 s.vs (s.ss.map y6),.vec 5 s.vc (s.cs.map vev),.hole,.vec 5 s.ve (s.ev.map vev)]=En (Iv q.1,I,hh)∧yq 7 (Iv q.1) hh=[kO,.cells [(.ak 6 q.2.ve q.2.ev.length,I),(.ak 4 q.2.vc q.2.lc,I),(.ak 3 q.2.vs q.2.ls,I)],.cells [(Nl,I),(Nl,I),(.ak 3 0 1,I)],.vec 4 q.2.vs (q.2.ss.map y6),.vec 5 q.2.vc (q.2.cs.map vev),.hole,.vec 5 q.2.ve (q.2.ev.map vev)]:=by
 unfold Hc at h
 rcases j6 h with⟨h1,h⟩|⟨h1,h⟩
 ·rcases j6 h with⟨h2,h⟩|⟨h2,h⟩
  ·obtain⟨e1,k1,h⟩:=jy h
   have w1:=gp k1
   rcases j6 h with⟨h3,h⟩|⟨h3,h⟩
   ·obtain⟨x,k2,h⟩:=jy h
    obtain⟨e2,k3,h⟩:=jy h
    obtain⟨e3,k4,h⟩:=jy h
    have w2:=gp k3
    have w3:jz pr (X pr) 51 [.list I 1 [Iv e1,Iv e2]]=En (Iv e3,I):=l5 k4
    have g1:∀h:j8,kL 5 h (En (.ak 4 s.vc s.lc)) (En (Iv (max 0 (j9 .i64 ((s.lc:Int)-1)))))=En ⟨.dq 4 s.vc ((max 0 (j9 .i64 ((s.lc:Int)-1))).toNat*5),I,E1,h⟩:=fun h=>(H5 k2).1
    have g2:gd 7 E1 I 1 [kO,kV s 6 4 3,.cells [(Nl,I),(Nl,I),(.ak 3 0 1,I)],.vec 4 s.vs (s.ss.map y6),.vec 5 s.vc (s.cs.map vev),.hole,.vec 5 s.ve (s.ev.map vev)] (En (.dq 4 s.vc ((max 0 (j9 .i64 ((s.lc:Int)-1))).toNat*5+1)))=En ⟨.str x.kind,I,E1,[kO,kV s 6 4 3,.cells [(Nl,I),(Nl,I),(.ak 3 0 1,I)],.vec 4 s.vs (s.ss.map y6),.vec 5 s.vc (s.cs.map vev),.hole,.vec 5 s.ve (s.ev.map vev)]⟩:=jn3 (f:=vev) (o:=1) zhn rfl rfl (H5 (sz:=4) (b:=0) (v:=0) (h:=[]) k2).2 rfl
    rcases j6 h with⟨h4,h⟩|⟨h4,h⟩
    ·rcases j6 h with⟨h5,h⟩|⟨_,h⟩
     ·obtain⟨ev,gB,h⟩:=jy h
      cases h
      have c5:=of_decide_eq_true h5
      have hln:ev.length=s.ev.length+1:=qz3 gB
      have g3:∀h:j8,qG 5 h (En (.ak 4 s.vc s.lc)) E1 (En (En (Iv (j9 .i64 ((s.lc:Int)-1)))))=En ⟨.ak 4 s.vc (j9 .i64 ((s.lc:Int)-1)).toNat,I,E1,h⟩:=fun h=>jqp c5.1 c5.2.1
      have g4:∀h:j8,qG 4 h (En (.ak 3 s.vs s.ls)) E1 (En (En (Iv (s.lc:Int))))=En ⟨.ak 3 s.vs s.lc,I,E1,h⟩:=fun h=>jqp (by omega) (by have:=c5.2.2;omega)
      have g5:n8 7 0 5 88 [kO,.cells [(.ak 6 s.ve s.ev.length,I),(.ak 4 s.vc (j9 .i64 ((s.lc:Int)-1)).toNat,I),(.ak 3 s.vs s.lc,I)],.cells [(Nl,I),(Nl,I),(.ak 3 0 1,I)],.vec 4 s.vs (s.ss.map y6),.vec 5 s.vc (s.cs.map vev),.hole,.vec 5 s.ve (s.ev.map vev),.hole] (En (.ak 6 s.ve s.ev.length)) (En (.list I 5 [aE e]))=En ⟨.ak 6 (s.ve+1) (s.ev.length+1),I,E1,[kO,.cells [(.ak 6 s.ve s.ev.length,I),(.ak 4 s.vc (j9 .i64 ((s.lc:Int)-1)).toNat,I),(.ak 3 s.vs s.lc,I)],.cells [(Nl,I),(Nl,I),(.ak 3 0 1,I)],.vec 4 s.vs (s.ss.map y6),.vec 5 s.vc (s.cs.map vev),.hole,.vec 5 (s.ve+1) (ev.map vev),.hole]⟩:=H6 (f:=vev) (x:=e) gB rfl (by simp only[go_sem,seval]) (by decide) (by decide) (by decide)
      refine⟨[kO,.cells [(.ak 6 (s.ve+1) (s.ev.length+1),I),(.ak 4 s.vc (j9 .i64 ((s.lc:Int)-1)).toNat,I),(.ak 3 s.vs s.lc,I)],.cells [(Nl,I),(Nl,I),(.ak 3 0 1,I)],.vec 4 s.vs (s.ss.map y6),.vec 5 s.vc (s.cs.map vev),.hole,.vec 5 (s.ve+1) (ev.map vev),.hole],?_,?_⟩
      ·rw[zh (show pr.bL 65=En iy from rfl) (by simp)]
       simp only[go_sem,seval,iy,h1,h2,w1,h3,g1,g2,w2,w3,h4,g3,g4,g5]<;>rfl
      ·simp only[hln]
       simp only[go_sem,seval]<;>rfl
     ·cases h
    ·cases h
     refine⟨[kO,kV s 6 4 3,.cells [(Nl,I),(Nl,I),(.ak 3 0 1,I)],.vec 4 s.vs (s.ss.map y6),.vec 5 s.vc (s.cs.map vev),.hole,.vec 5 s.ve (s.ev.map vev)],?_,sg rfl⟩
     rw[zh (show pr.bL 65=En iy from rfl) (by simp)]
     simp only[go_sem,seval,iy,h1,h2,w1,h3,g1,g2,w2,w3,h4]<;>rfl
   ·obtain⟨e2,k3,h⟩:=jy h
    obtain⟨e3,k4,h⟩:=jy h
    have w2:=gp k3
    have w3:jz pr (X pr) 51 [.list I 1 [Iv e1,Iv e2]]=En (Iv e3,I):=l5 k4
    rcases j6 h with⟨h4,h⟩|⟨h4,h⟩
    ·cases h
    ·cases h
     refine⟨[kO,kV s 6 4 3,.cells [(Nl,I),(Nl,I),(.ak 3 0 1,I)],.vec 4 s.vs (s.ss.map y6),.vec 5 s.vc (s.cs.map vev),.hole,.vec 5 s.ve (s.ev.map vev)],?_,sg rfl⟩
     rw[zh (show pr.bL 65=En iy from rfl) (by simp)]
     simp only[go_sem,seval,iy,h1,h2,w1,h3,w2,w3,h4]<;>rfl
  ·obtain⟨r,k1,h⟩:=jy h
   obtain⟨v,k2,h⟩:=jy h
   have w1:=j4g k1
   have wa:yq 7 (aR r) [kO,kV s 6 4 3,.cells [(Nl,I),(Nl,I),(.ak 3 0 1,I)],.vec 4 s.vs (s.ss.map y6),.vec 5 s.vc (s.cs.map vev),.hole,.vec 5 s.ve (s.ev.map vev),kR r.day r.au r.ae r.units]=[kO,kV s 6 4 3,.cells [(Nl,I),(Nl,I),(.ak 3 0 1,I)],.vec 4 s.vs (s.ss.map y6),.vec 5 s.vc (s.cs.map vev),.hole,.vec 5 s.ve (s.ev.map vev)]:=by simp only[go_sem,seval]<;>rfl
   have w2:jz pr (X pr) 121 [aR r,aE e]=En (.aC [aR v.1,Iv v.2],I):=juf k2
   rcases j6 h with⟨h3,h⟩|⟨h3,h⟩
   ·obtain⟨cs,hcs,h⟩:=jy h
    obtain⟨ss,wM,h⟩:=jy h
    obtain⟨ev,gB,h⟩:=jy h
    cases h
    have hln:ev.length=s.ev.length+1:=qz3 gB
    have g1:n8 7 0 5 88 [kO,kV s 6 4 3,.cells [(Nl,I),(Nl,I),(.ak 3 0 1,I)],.vec 4 s.vs (s.ss.map y6),.vec 5 s.vc (s.cs.map vev),.hole,.vec 5 s.ve (s.ev.map vev),.hole,.hole] (En (.ak 4 s.vc s.lc)) (En (.list I 5 [aE e]))=En ⟨.ak 4 (s.vc+1) (s.lc+1),I,E1,[kO,kV s 6 4 3,.cells [(Nl,I),(Nl,I),(.ak 3 0 1,I)],.vec 4 s.vs (s.ss.map y6),.vec 5 (s.vc+1) (cs.map vev),.hole,.vec 5 s.ve (s.ev.map vev),.hole,.hole]⟩:=H6 (f:=vev) (x:=e) hcs rfl (by simp only[go_sem,seval]) (by decide) (by decide) (by decide)
    have g2:n8 7 1 4 80 [kO,kV s 6 4 3,.cells [(Nl,I),(Nl,I),(.ak 3 0 1,I)],.vec 4 s.vs (s.ss.map y6),.vec 5 (s.vc+1) (cs.map vev),.hole,.vec 5 s.ve (s.ev.map vev),.hole,.hole] (En (.ak 3 s.vs s.ls)) (En (.list I 4 [aR v.1]))=En ⟨.ak 3 (s.vs+1) (s.ls+1),I,E1,[kO,kV s 6 4 3,.cells [(Nl,I),(Nl,I),(.ak 3 0 1,I)],.vec 4 (s.vs+1) (ss.map y6),.vec 5 (s.vc+1) (cs.map vev),.hole,.vec 5 s.ve (s.ev.map vev),.hole,.hole]⟩:=H6 (f:=y6) (x:=v.1) wM rfl (by simp only[go_sem,seval]) (by decide) (by decide) (by decide)
    have g3:n8 9 0 5 88 [kO,.cells [(.ak 6 s.ve s.ev.length,I),(.ak 4 (s.vc+1) (s.lc+1),I),(.ak 3 (s.vs+1) (s.ls+1),I)],.cells [(Nl,I),(Nl,I),(.ak 3 0 1,I)],.vec 4 (s.vs+1) (ss.map y6),.vec 5 (s.vc+1) (cs.map vev),.hole,.vec 5 s.ve (s.ev.map vev),.hole,.hole,.hole] (En (.ak 6 s.ve s.ev.length)) (En (.list I 5 [aE e]))=En ⟨.ak 6 (s.ve+1) (s.ev.length+1),I,E1,[kO,.cells [(.ak 6 s.ve s.ev.length,I),(.ak 4 (s.vc+1) (s.lc+1),I),(.ak 3 (s.vs+1) (s.ls+1),I)],.cells [(Nl,I),(Nl,I),(.ak 3 0 1,I)],.vec 4 (s.vs+1) (ss.map y6),.vec 5 (s.vc+1) (cs.map vev),.hole,.vec 5 (s.ve+1) (ev.map vev),.hole,.hole,.hole]⟩:=H6 (f:=vev) (x:=e) gB rfl (by simp only[go_sem,seval]) (by decide) (by decide) (by decide)
    refine⟨[kO,.cells [(.ak 6 (s.ve+1) (s.ev.length+1),I),(.ak 4 (s.vc+1) (s.lc+1),I),(.ak 3 (s.vs+1) (s.ls+1),I)],.cells [(Nl,I),(Nl,I),(.ak 3 0 1,I)],.vec 4 (s.vs+1) (ss.map y6),.vec 5 (s.vc+1) (cs.map vev),.hole,.vec 5 (s.ve+1) (ev.map vev),.hole,.hole,.hole],?_,?_⟩
    ·rw[zh (show pr.bL 65=En iy from rfl) (by simp)]
     simp only[go_sem,seval,iy,h1,h2,w1,wa,w2,h3,g1,g2,g3]<;>rfl
    ·simp only[hln]
     simp only[go_sem,seval]<;>rfl
   ·cases h
    refine⟨[kO,kV s 6 4 3,.cells [(Nl,I),(Nl,I),(.ak 3 0 1,I)],.vec 4 s.vs (s.ss.map y6),.vec 5 s.vc (s.cs.map vev),.hole,.vec 5 s.ve (s.ev.map vev)],?_,sg rfl⟩
    rw[zh (show pr.bL 65=En iy from rfl) (by simp)]
    simp only[go_sem,seval,iy,h1,h2,w1,wa,w2,h3]<;>rfl
 ·cases h
  refine⟨[kO,kV s 6 4 3,.cells [(Nl,I),(Nl,I),(.ak 3 0 1,I)],.vec 4 s.vs (s.ss.map y6),.vec 5 s.vc (s.cs.map vev),.hole,.vec 5 s.ve (s.ev.map vev)],?_,sg rfl⟩
  rw[zh (show pr.bL 65=En iy from rfl) (by simp)]
  simp only[go_sem,seval,iy,h1]<;>rfl
def nc:Option HV→j8
 |none=>[kO,.cells [(Nl,I),(Nl,I),(.ak 3 0 1,I)],.cells [(Nl,I),(Nl,I),(.ak 3 0 1,I)],.vec 4 0 [aZ]]
 |some v=>[kO,kV v 6 4 3,.cells [(Nl,I),(Nl,I),(.ak 3 0 1,I)],.vec 4 v.vs (v.ss.map y6),.vec 5 v.vc (v.cs.map vev),.hole,.vec 5 v.ve (v.ev.map vev)]
def oB (l:Option (List qm))(x:Int×Option HV):qg:=⟨[(2,.ptr 0 0,I),(5,.ptr 1 0,I),(14,sl 5 vev l,I),(15,Lv l,I),(16,Iv x.1,I)],nc x.2⟩
def uP (l:Option (List qm)):(Int×Int×Option HV)⊕(Int×Option HV)→qo×qg
 | .inl d=>(.ret,⟨[(2,.ptr 0 0,I),(3,Iv d.1,I),(4,Iv d.2.1,I)],nc d.2.2⟩)
 | .inr d=>(.exit 0,⟨[(2,.ptr 0 0,I),(5,.ptr 1 0,I),(14,sl 5 vev l,I),(15,Lv l,I),(16,Iv d.1,I),(17,.bool I,I)],nc d.2⟩)
theorem jy6 (l:Option (List qm))(x:Int×Option HV)(r)(h:AF l x=En r):yo pr ph (oB l) (uP l) x r:=by
 rcases x with⟨i,o⟩
 unfold AF at h
 rcases j6 h with⟨h1,h⟩|⟨h1,h⟩
 ·obtain⟨e,h2,h⟩:=jy h
  obtain⟨c,h3,h⟩:=jy h
  have w1:jz pr (X pr) 11 [aE e]=En (Iv c,I):=W11 h3
  rcases j6 h with⟨h4,h⟩|⟨h4,h⟩
  ·obtain⟨e2,h5,h⟩:=jy h
   obtain⟨q,h6,h⟩:=jy h
   have w2:jz pr (X pr) 66 [aE e]=En (aE e2,I):=W66 h5
   rcases o with _|s
   ·obtain⟨hh,w3,wa⟩:=jt7 (e:=e2) h6
    rcases q with⟨q1,q2⟩
    rcases q2 with _|v
    ·simp only at wa
     rcases j6 h with⟨h7,h⟩|⟨h7,h⟩
     ·cases h
      exact DC (bJ:=oB l (j9 .i64 (i+1),E1)) (by simp only[go_sem,seval,ph,oB,nc,h1,ko h2,w1,h4,w2,w3,wa,h7]<;>rfl) (Gc (Nat.le_refl _))
     ·cases h
      exact zy (by simp only[go_sem,seval,ph,oB,nc,h1,ko h2,w1,h4,w2,w3,wa,h7,uP]<;>rfl)
    ·simp only at wa
     rcases j6 h with⟨h7,h⟩|⟨h7,h⟩
     ·cases h
      exact DC (bJ:=oB l (j9 .i64 (i+1),En v)) (by simp only[go_sem,seval,ph,oB,nc,h1,ko h2,w1,h4,w2,w3,wa,h7]<;>rfl) (jl7 rfl)
     ·cases h
      exact zy (by simp only[go_sem,seval,ph,oB,nc,h1,ko h2,w1,h4,w2,w3,wa,h7,uP]<;>rfl)
   ·obtain⟨q0,h8,h9⟩:=jy h6
    cases h9
    obtain⟨hh,w3,wa⟩:=j4u (e:=e2) h8
    rcases j6 h with⟨h7,h⟩|⟨h7,h⟩
    ·cases h
     exact DC (bJ:=oB l (j9 .i64 (i+1),En q0.2)) (by simp only[go_sem,seval,ph,oB,nc,h1,ko h2,w1,h4,w2,w3,wa,h7]<;>rfl) (Gc (Nat.le_refl _))
    ·cases h
     exact zy (by simp only[go_sem,seval,ph,oB,nc,h1,ko h2,w1,h4,w2,w3,wa,h7,uP]<;>rfl)
  ·cases h
   rcases o with _|s
   ·exact zy (by simp only[go_sem,seval,ph,oB,nc,h1,ko h2,w1,h4,uP]<;>rfl)
   ·exact zy (by simp only[go_sem,seval,ph,oB,nc,h1,ko h2,w1,h4,uP]<;>rfl)
 ·cases h
  exact zy (by simp only[go_sem,seval,ph,oB,h1,uP]<;>rfl)
theorem jxr:zg pr (X pr) 96 [] [kO,.hole]=En (.agg [Nl,Nl,.ak 3 0 1],I,[kO,.hole,.cells [(Nl,I),(Nl,I),(.ak 3 0 1,I)],.vec 4 0 [aZ]]):=by
 have H7:za pr (X pr) 3 E1 [(1,aZ,I),(0,.ptr 2 0,I)] [kO,.hole,kO,.hole] (.hO 0 4 1 [Iv 0,Nl,Nl,Nl] [(0,.tmp 1)])=En ⟨.ak 3 0 1,I,E1,[kO,.hole,kO,.vec 4 0 [aZ]]⟩:=rfl
 rw[zh (show pr.bL 96=En H8 from rfl) (by simp)]
 simp only[go_sem,seval,H8,H7]<;>rfl
def D7:Option HV→j8
 |none=>[.cells [(Nl,I),(Nl,I),(.ak 3 0 1,I)],.cells [(Nl,I),(Nl,I),(.ak 3 0 1,I)],.cells [(Nl,I),(Nl,I),(.ak 3 0 1,I)],.vec 4 0 [aZ]]
 |some v=>[kV v 6 4 3,kV v 6 4 3,.cells [(Nl,I),(Nl,I),(.ak 3 0 1,I)],.vec 4 v.vs (v.ss.map y6),.vec 5 v.vc (v.cs.map vev),.hole,.vec 5 v.ve (v.ev.map vev)]
def fF:Option HV→qa
 |none=>.agg [Nl,Nl,.ak 3 0 1]
 |some v=>.agg [.ak 6 v.ve v.ev.length,.ak 4 v.vc v.lc,.ak 3 v.vs v.ls]
def pi:(Int × Int)⊕Option HV→qa
 | .inl x=>.aC [.agg [Nl,Nl,Nl],Iv x.1,Iv x.2]
 | .inr o=>.aC [fF o,Iv 0,Iv 0]
def D8:(Int × Int)⊕Option HV→j8
 | .inl _=>[]
 | .inr o=>D7 o
theorem j3g {l:Option (List qm)}{r}(h:f47 l=En r):∃hh,zg pr (X pr) 47 [sl 5 vev l] []=En (pi r,I,hh)∧yq 0 (pi r) hh=D8 r:=by
 unfold f47 at h
 rcases j6 h with⟨h1,h⟩|⟨h1,h⟩
 ·cases h
  refine⟨[kO],?_,?_⟩
  ·rw[zh (show pr.bL 47=En pj from rfl) (by simp)]
   simp only[go_sem,seval,pj,h1]<;>rfl
  ·simp only[go_sem,seval,pi,D8]<;>rfl
 ·obtain⟨d,h2,h⟩:=jy h
  have w:=jxr
  have wa:yq 2 (.agg [Nl,Nl,.ak 3 0 1]) [kO,.hole,.cells [(Nl,I),(Nl,I),(.ak 3 0 1,I)],.vec 4 0 [aZ]]=[kO,.hole,.cells [(Nl,I),(Nl,I),(.ak 3 0 1,I)],.vec 4 0 [aZ]]:=by simp only[go_sem,seval]<;>rfl
  have wl:X pr (.loop ph) ⟨[(2,.ptr 0 0,I),(5,.ptr 1 0,I),(14,sl 5 vev l,I),(15,Lv l,I),(16,Iv 0,I)],[kO,.cells [(Nl,I),(Nl,I),(.ak 3 0 1,I)],.cells [(Nl,I),(Nl,I),(.ak 3 0 1,I)],.vec 4 0 [aZ]]⟩=En (uP l d):=yz (jy6 l) (fun d=>by rcases d with d|d<;>(intro hh;cases hh)) h2
  rcases d with⟨d1,d2,d3⟩|⟨d1,d2⟩
  ·cases h
   simp only[uP]at wl
   rcases d3 with _|v
   ·refine⟨[kO,.cells [(Nl,I),(Nl,I),(.ak 3 0 1,I)],.cells [(Nl,I),(Nl,I),(.ak 3 0 1,I)],.vec 4 0 [aZ]],?_,?_⟩
    ·simp only[nc]at wl
     rw[zh (show pr.bL 47=En pj from rfl) (by simp)]
     simp only[go_sem,seval,pj,h1,w,wa,wl]<;>rfl
    ·simp only[go_sem,seval,pi,D8]<;>rfl
   ·refine⟨[kO,kV v 6 4 3,.cells [(Nl,I),(Nl,I),(.ak 3 0 1,I)],.vec 4 v.vs (v.ss.map y6),.vec 5 v.vc (v.cs.map vev),.hole,.vec 5 v.ve (v.ev.map vev)],?_,?_⟩
    ·simp only[nc]at wl
     rw[zh (show pr.bL 47=En pj from rfl) (by simp)]
     simp only[go_sem,seval,pj,h1,w,wa,wl]<;>rfl
    ·simp only[go_sem,seval,pi,D8]<;>rfl
  ·cases h
   simp only[uP]at wl
   refine⟨D7 d2,?_,?_⟩
   ·rw[zh (show pr.bL 47=En pj from rfl) (by simp)]
    rcases d2 with _|v
    ·simp only[nc]at wl
     simp only[go_sem,seval,pj,h1,w,wa,wl,fF,D7]<;>rfl
    ·simp only[nc]at wl
     simp only[go_sem,seval,pj,h1,w,wa,wl,fF,D7]<;>rfl
   ·rcases d2 with _|v
    ·simp only[go_sem,seval,pi,D8,fF,D7]<;>rfl
    ·simp only[go_sem,seval,pi,D8,fF,D7]<;>rfl
theorem Wk {α:Type}{f:α→qa}{hp:j8}{b v len sz:Nat}{l:List α}(hb:hp[b]?=En (.vec sz v (l.map f)))(hl:len≤l.length):fT hp (.ak b v len)=En (sl sz f (En (l.take len))):=by
 simp only[fT,hb,Nat.beq_refl,Bool.true_and,Nat.ble_eq_true_of_le (show len≤(l.map f).length by rw[List.length_map];exact hl),cT]
 rw[←List.map_take]
 rfl
structure ju where
 ev:Option (List qm)
 ct:Option (List qm)
 st:Option (List qc)
noncomputable def NF (l:Option (List qm)):Option (ju×Int×Int):=jx (f47 l) fun r=>match r with
 | .inl x=>En (⟨E1,E1,E1⟩,x.1,x.2)
 | .inr E1=>En (⟨E1,E1,En [eM]⟩,0,0)
 | .inr (En v)=>cond (decide (v.lc≤v.cs.length∧v.ls≤v.ss.length)) (En (⟨En v.ev,En (v.cs.take v.lc),En (v.ss.take v.ls)⟩,0,0)) E1
theorem zfp {l:Option (List qm)}{r}(h:NF l=En r):jz pr (X pr) 47 [sl 5 vev l]=En (.aC [.agg [sl 5 vev r.1.ev,sl 5 vev r.1.ct,sl 4 y6 r.1.st],Iv r.2.1,Iv r.2.2],I):=by
 unfold NF at h
 obtain⟨x,h1,h⟩:=jy h
 obtain⟨hh,w,wa⟩:=j3g h1
 rcases x with x|o|v
 ·cases h
  exact ky rfl w (v':=.aC [.agg [Nl,Nl,Nl],Iv x.1,Iv x.2]) (by simp only[go_sem,seval,pi]<;>rfl) (by first|rfl|simp only[go_sem,seval])
 ·cases h
  have hq:hh=[.cells [(Nl,I),(Nl,I),(.ak 3 0 1,I)],.cells [(Nl,I),(Nl,I),(.ak 3 0 1,I)],.cells [(Nl,I),(Nl,I),(.ak 3 0 1,I)],.vec 4 0 [aZ]]:=by
   have:yq 0 (pi (.inr E1)) hh=hh:=by
    simp only[yq]
    cases Nat.ble hh.length 0<;>rfl
   rw[this]at wa
   exact wa
  subst hq
  exact ky rfl w (v':=.aC [.agg [Nl,Nl,sl 4 y6 (En [eM])],Iv 0,Iv 0]) (by simp only[go_sem,seval,pi,fF]<;>rfl) (by first|rfl|simp only[go_sem,seval])
 ·rcases j6 h with⟨h2,h⟩|⟨_,h⟩
  ·cases h
   have h3:=of_decide_eq_true h2
   have hq:hh=[kV v 6 4 3,kV v 6 4 3,.cells [(Nl,I),(Nl,I),(.ak 3 0 1,I)],.vec 4 v.vs (v.ss.map y6),.vec 5 v.vc (v.cs.map vev),.hole,.vec 5 v.ve (v.ev.map vev)]:=by
    have:yq 0 (pi (.inr (En v))) hh=hh:=by
     simp only[yq]
     cases Nat.ble hh.length 0<;>rfl
    rw[this]at wa
    exact wa
   subst hq
   have f1:fT [kV v 6 4 3,kV v 6 4 3,.cells [(Nl,I),(Nl,I),(.ak 3 0 1,I)],.vec 4 v.vs (v.ss.map y6),.vec 5 v.vc (v.cs.map vev),.hole,.vec 5 v.ve (v.ev.map vev)] (.ak 6 v.ve v.ev.length)=En (sl 5 vev (En v.ev)):=by
    have:=Wk (f:=vev) (l:=v.ev) (hp:=[kV v 6 4 3,kV v 6 4 3,.cells [(Nl,I),(Nl,I),(.ak 3 0 1,I)],.vec 4 v.vs (v.ss.map y6),.vec 5 v.vc (v.cs.map vev),.hole,.vec 5 v.ve (v.ev.map vev)]) (b:=6) (v:=v.ve) rfl (Nat.le_refl _)
    rw[List.take_length]at this
    exact this
   have f2:fT [kV v 6 4 3,kV v 6 4 3,.cells [(Nl,I),(Nl,I),(.ak 3 0 1,I)],.vec 4 v.vs (v.ss.map y6),.vec 5 v.vc (v.cs.map vev),.hole,.vec 5 v.ve (v.ev.map vev)] (.ak 4 v.vc v.lc)=En (sl 5 vev (En (v.cs.take v.lc))):=Wk (f:=vev) rfl h3.1
   have f3:fT [kV v 6 4 3,kV v 6 4 3,.cells [(Nl,I),(Nl,I),(.ak 3 0 1,I)],.vec 4 v.vs (v.ss.map y6),.vec 5 v.vc (v.cs.map vev),.hole,.vec 5 v.ve (v.ev.map vev)] (.ak 3 v.vs v.ls)=En (sl 4 y6 (En (v.ss.take v.ls))):=Wk (f:=y6) rfl h3.2
   exact ky rfl w (v':=.aC [.agg [sl 5 vev (En v.ev),sl 5 vev (En (v.cs.take v.lc)),sl 4 y6 (En (v.ss.take v.ls))],Iv 0,Iv 0]) (by simp only[go_sem,seval,pi,fF,f1,f2,f3]<;>rfl) (by first|rfl|simp only[go_sem,seval])
  ·cases h
end Go.Z
