/- Sessions on any heap. -/
import Derived.Test.YtlhfdilpecnjeaaGreatDoorPS
import Derived.Test.YtlhfdilpecnjeaaGreatDoorS5
set_option linter.unusedVariables false
set_option linter.unusedSimpArgs false
set_option maxRecDepth 100000
set_option maxHeartbeats 4000000
noncomputable section
open Option renaming some->En,none->Ia
open Bool renaming false->E6,true->H3,and_eq_true->H9,false_or->Ij,and_false->I3,and_true->I5
open List renaming append_nil->Ha,length_append->Hb,append_assoc->Hc,set_append_left->H4,getElem?_set->Ib,set_comm->If,set_set->Ik,getElem?_append_right->Ip,getElem?_eq_some_iff->Iq,getElem?_append_left->Iw,length_set->Ix,map_cons->Iy,find?->I2
open Nat renaming add_zero->H8,lt_succ_of_lt->Ic,lt_irrefl->Ig,sub_self->Il,blt_eq->I1
namespace Go.Z
open Go Go.Abs Go.W
section
variable {H:qf}
theorem Ad {p cs}(h:qw H p=En cs):p<H.length:=by
 unfold qw at h;rcases Nat.lt_or_ge p H.length with hl|hl
 .exact hl
 .rw[List.getElem?_eq_none hl]at h;cases h
theorem jiz {p:Nat}{b:aK}(h:H[p]?=En b):p<H.length:=(Iq.1 h).1
theorem CL {p cs}(h:qw H p=En cs)(L:qf):qw (H++L) p=En cs:=by
 have:=Ad h;unfold qw at h ⊢;rw[Iw this];exact h
theorem oz {p:Nat}{b:aK}(h:H[p]?=En b)(L:qf):(H++L)[p]?=En b:=by
 rw[Iw (jiz h)];exact h
theorem rW (L:qf)(i:Nat):qw (H++L) (H.length+i)=qw L i:=by
 unfold qw;rw[Ip (by omega),show H.length+i-H.length=i by omega]
theorem vK (L:qf):qw (H++L) H.length=qw L 0:=rW L 0
theorem yx (L:qf)(i:Nat):(H++L)[H.length+i]?=L[i]?:=by
 rw[Ip (by omega),show H.length+i-H.length=i by omega]
theorem oA (L:qf):(H++L)[H.length]?=L[0]?:=yx L 0
theorem iF (L:qf)(i:Nat)(x:aK):(H++L).set (H.length+i) x=H++L.set i x:=by
 rw[List.set_append_right _ _ (by omega),show H.length+i-H.length=i by omega]
theorem nM (L:qf)(x:aK):(H++L).set H.length x=H++L.set 0 x:=iF L 0 x
theorem gF {n i k:Nat}:decide (n+i<n+k)=decide (i<k):=decide_eq_decide.2 (by omega)
theorem gG {n k:Nat}:decide (n<n+k)=decide (0<k):=decide_eq_decide.2 (by omega)
theorem G1 {p:Nat}{cs}(h:H[p]?=En (.cells cs)):qw H p=En cs:=by unfold qw;rw[h]
end
theorem PY {H:qf}{p c:Nat}{x0 x1:AVal×Bool}{vs ls:Nat}{ss:List aw}{r:aw}(hp:qw H p=En [x0,x1,(.ay c vs ls,E6)])(hc:H[c]?=En (.vec 4 vs (ss.map z6)))(Q:qm (ss.take ls) (qd .i64 ((ls:Int)-1))=En r):
  ai pr (X pr) 103 [.ptr p 0] H=En (aR r,E6,H++[kR r.day r.az r.ah r.units]):=by
 have bg:=Ad hp;have hlc:=jiz hc;have g0:=CL hp;have g1:∀h:qf,mr 4 h (En (.ay c vs ls)) (En (Iv (qd .i64 ((ls:Int)-1))))=En ⟨.dT c vs ((qd .i64 ((ls:Int)-1)).toNat*4),E6,Ia,h⟩:=fun h=>(G2 Q).1;have g2:gT (H.length+1) (En []) H3 4 (H++[kZ]) (En (.dT c vs ((qd .i64 ((ls:Int)-1)).toNat*4)))=En ⟨aR r,E6,Ia,H++[kZ]⟩:=jhs j61 (oz hc _) (by simp[sj,zf,pG,oI,I1.mpr (show c<H.length+1 by omega)]) (G2 (sz:=4) (b:=0) (v:=0) (h:=[]) Q).2;rw[qg (show pr.br 103=En CM from rfl) (by simp)]
 have Y9:p<H.length+1:=by omega
 simp only[go_sem,seval,CM,g0,g1,g2,Y9,Hb,H8,gF,gG,rW,vK,yx,oA,iF,nM]<;>rfl
def cL (H:qf)(p a b c:Nat)(P A B C:aK):qf:=(((H.set p P).set a A).set b B).set c C
structure D4 (H:qf)(p a b c:Nat):Prop where
 lp:p<H.length
 la:a<H.length
 lb:b<H.length
 lc:c<H.length
 pa:p≠a
 pb:p≠b
 pc:p≠c
 ab:a≠b
 ac:a≠c
 bc:b≠c
section
variable {H:qf}{p a b c:Nat}{P A B C:aK}
@[go_sem] theorem oB:(cL H p a b c P A B C).length=H.length:=by simp[cL]
theorem xn (D:D4 H p a b c):(cL H p a b c P A B C)[p]?=En P:=by
 have:=D.lp;simp[cL,Ib,D.pa.symm,D.pb.symm,D.pc.symm,this]
theorem j1x (D:D4 H p a b c):(cL H p a b c P A B C)[a]?=En A:=by
 have:=D.la;simp[cL,Ib,D.ab.symm,D.ac.symm,this]
theorem Za (D:D4 H p a b c):(cL H p a b c P A B C)[b]?=En B:=by
 have:=D.lb;simp[cL,Ib,D.bc.symm,this]
theorem Zb (D:D4 H p a b c):(cL H p a b c P A B C)[c]?=En C:=by
 have:=D.lc;simp[cL,Ib,this]
theorem CN (D:D4 H p a b c){x}:(cL H p a b c P A B C).set p x=cL H p a b c x A B C:=by
 unfold cL;rw[If _ _ D.pc.symm,If _ _ D.pb.symm,If _ _ D.pa.symm,Ik]
theorem zhd (D:D4 H p a b c){x}:(cL H p a b c P A B C).set a x=cL H p a b c P x B C:=by
 unfold cL;rw[If _ _ D.ac.symm,If _ _ D.ab.symm,Ik]
theorem zkm (D:D4 H p a b c){x}:(cL H p a b c P A B C).set b x=cL H p a b c P A x C:=by
 unfold cL;rw[If _ _ D.bc.symm,Ik]
theorem j44 (D:D4 H p a b c){x}:(cL H p a b c P A B C).set c x=cL H p a b c P A B x:=by
 unfold cL;rw[Ik]
theorem j5l (D:D4 H p a b c)(L:qf):(cL H p a b c P A B C++L)[p]?=En P:=oz (xn D) L
theorem jq3 (D:D4 H p a b c)(L:qf):(cL H p a b c P A B C++L)[a]?=En A:=oz (j1x D) L
theorem j8p (D:D4 H p a b c)(L:qf):(cL H p a b c P A B C++L)[b]?=En B:=oz (Za D) L
theorem j9f (D:D4 H p a b c)(L:qf):(cL H p a b c P A B C++L)[c]?=En C:=oz (Zb D) L
theorem G4 (D:D4 H p a b c)(L:qf){x}:(cL H p a b c P A B C++L).set p x=cL H p a b c x A B C++L:=by
 rw[H4 _ _ (by rw[oB];exact D.lp),CN D]
theorem jq2 (D:D4 H p a b c)(L:qf){x}:(cL H p a b c P A B C++L).set a x=cL H p a b c P x B C++L:=by
 rw[H4 _ _ (by rw[oB];exact D.la),zhd D]
theorem j6n (D:D4 H p a b c)(L:qf){x}:(cL H p a b c P A B C++L).set b x=cL H p a b c P A x C++L:=by
 rw[H4 _ _ (by rw[oB];exact D.lb),zkm D]
theorem j5r (D:D4 H p a b c)(L:qf){x}:(cL H p a b c P A B C++L).set c x=cL H p a b c P A B x++L:=by
 rw[H4 _ _ (by rw[oB];exact D.lc),j44 D]
theorem CO (D:D4 H p a b c){cs}:qw (cL H p a b c (.cells cs) A B C) p=En cs:=by unfold qw;rw[xn D]
theorem G5 (D:D4 H p a b c){cs}(L:qf):qw (cL H p a b c (.cells cs) A B C++L) p=En cs:=by unfold qw;rw[j5l D]
theorem CP (L:qf)(i:Nat):qw (cL H p a b c P A B C++L) (H.length+i)=qw L i:=by
 have:=rW (H:=cL H p a b c P A B C) L i;rwa [oB]at this
theorem CQ (L:qf)(i:Nat):(cL H p a b c P A B C++L)[H.length+i]?=L[i]?:=by
 have:=yx (H:=cL H p a b c P A B C) L i;rwa [oB]at this
theorem CR (L:qf)(i:Nat)(x:aK):(cL H p a b c P A B C++L).set (H.length+i) x=cL H p a b c P A B C++L.set i x:=by
 have:=iF (H:=cL H p a b c P A B C) L i x;rwa [oB]at this
theorem G6 (L:qf):qw (cL H p a b c P A B C++L) H.length=qw L 0:=CP L 0
theorem G7 (L:qf):(cL H p a b c P A B C++L)[H.length]?=L[0]?:=CQ L 0
theorem G8 (L:qf)(x:aK):(cL H p a b c P A B C++L).set H.length x=cL H p a b c P A B C++L.set 0 x:=CR L 0 x
theorem CS {n:Nat}{x:aK}(M:zn n x=H3):∀ {H:qf} {i:Nat},qr n H=H3->qr n (H.set i x)=H3
 | [],i,h=>h
 |y::H,0,h=>by
  simp only[qr,H9,List.set_cons_zero]at h ⊢;exact⟨M,h.2⟩
 |y::H,i+1,h=>by
  simp only[qr,H9,List.set_cons_succ]at h ⊢;exact⟨h.1,CS M h.2⟩
theorem KQ {n:Nat}(h:qr n H=H3)(Y:zn n P=H3)(I:zn n A=H3)(h3:zn n B=H3)(h4:zn n C=H3):qr n (cL H p a b c P A B C)=H3:=
 CS h4 (CS h3 (CS I (CS Y h)))
end
theorem G9 {n a b c x1 x2 y1 y2 z1 z2:Nat}(ha:a<n)(hb:b<n)(hc:c<n):zn n (.cells [(.ay a x1 x2,E6),(.ay b y1 y2,E6),(.ay c z1 z2,E6)])=H3:=by
 simp[zn,zw,vj,ha,hb,hc]
abbrev sH (H:qf)(p a b c:Nat)(s:HV):qf:=cL H p a b c (kV s a b c) (.vec 5 s.ve (s.ev.map vev)) (.vec 5 s.vc (s.cs.map vev)) (.vec 4 s.vs (s.ss.map z6))
end Go.Z
namespace Go.Z
open Go Go.Abs Go.W
theorem jrn {H:qf}{p a b c:Nat}(D:D4 H p a b c)(hB:qr H.length H=H3){s:HV}{e:GEv}{q}(h:B3 s e=En q):∃hh,ai pr (X pr) 42 [.ptr p 0,aE e] (cL H p a b c (kV s a b c) (.vec 5 s.ve (s.ev.map vev)) (.vec 5 s.vc (s.cs.map vev)) (.vec 4 s.vs (s.ss.map z6)))=En (Iv q.1,E6,hh)/\qy H.length (Iv q.1) hh=(cL H p a b c (.cells [(.ay a q.2.ve q.2.ev.length,E6),(.ay b q.2.vc q.2.lc,E6),(.ay c q.2.vs q.2.ls,E6)]) (.vec 5 q.2.ve (q.2.ev.map vev)) (.vec 5 q.2.vc (q.2.cs.map vev)) (.vec 4 q.2.vs (q.2.ss.map z6))):=by
 have dQ:p<H.length+1:=Ic D.lp;have dW:p<H.length+2:=Ic dQ;have tO:p<H.length+3:=Ic dW;unfold B3 at h;rcases qc h with⟨Y,h⟩|⟨Y,h⟩
 .rcases qc h with⟨I,h⟩|⟨I,h⟩
  .obtain⟨e1,k1,h⟩:=qb h;have w1:=dE k1;rcases qc h with⟨h3,h⟩|⟨h3,h⟩
   .obtain⟨x,k2,h⟩:=qb h;obtain⟨e2,k3,h⟩:=qb h;obtain⟨e3,k4,h⟩:=qb h;have w2:=dE k3;have w3:ae pr (X pr) 35 [.list E6 1 [Iv e1,Iv e2]]=En (Iv e3,E6):=fY k4;have g1:∀h:qf,mr 5 h (En (.ay b s.vc s.lc)) (En (Iv (max 0 (qd .i64 ((s.lc:Int)-1)))))=En ⟨.dT b s.vc ((max 0 (qd .i64 ((s.lc:Int)-1))).toNat*5),E6,Ia,h⟩:=fun h=>(G2 k2).1;have g2:gT H.length Ia E6 1 (cL H p a b c (kV s a b c) (.vec 5 s.ve (s.ev.map vev)) (.vec 5 s.vc (s.cs.map vev)) (.vec 4 s.vs (s.ss.map z6))) (En (.dT b s.vc ((max 0 (qd .i64 ((s.lc:Int)-1))).toNat*5+1)))=En ⟨.str x.kind,E6,Ia,(cL H p a b c (kV s a b c) (.vec 5 s.ve (s.ev.map vev)) (.vec 5 s.vc (s.cs.map vev)) (.vec 4 s.vs (s.ss.map z6)))⟩:=jyz (f:=vev) (o:=1) jv4 (Za D) rfl (G2 (sz:=4) (b:=0) (v:=0) (h:=[]) k2).2 rfl;rcases qc h with⟨h4,h⟩|⟨h4,h⟩
    .rcases qc h with⟨h5,h⟩|⟨_,h⟩
     .obtain⟨ev,eR,h⟩:=qb h;cases h;have dv:=of_decide_eq_true h5;have Io:ev.length=s.ev.length+1:=q4j eR;have g3:∀h:qf,pU 5 h (En (.ay b s.vc s.lc)) Ia (En (En (Iv (qd .i64 ((s.lc:Int)-1)))))=En ⟨.ay b s.vc (qd .i64 ((s.lc:Int)-1)).toNat,E6,Ia,h⟩:=fun h=>jv2 dv.1 dv.2.1;have g4:∀h:qf,pU 4 h (En (.ay c s.vs s.ls)) Ia (En (En (Iv (s.lc:Int))))=En ⟨.ay c s.vs s.lc,E6,Ia,h⟩:=fun h=>jv2 (by omega) (by have:=dv.2.2;omega);have g5:pT H.length 0 5 88 (cL H p a b c (.cells [(.ay a s.ve s.ev.length,E6),(.ay b s.vc (qd .i64 ((s.lc:Int)-1)).toNat,E6),(.ay c s.vs s.lc,E6)]) (.vec 5 s.ve (s.ev.map vev)) (.vec 5 s.vc (s.cs.map vev)) (.vec 4 s.vs (s.ss.map z6))++[.hole]) (En (.ay a s.ve s.ev.length)) (En (.list E6 5 [aE e]))=En ⟨.ay a (s.ve+1) (s.ev.length+1),E6,Ia,(cL H p a b c (.cells [(.ay a s.ve s.ev.length,E6),(.ay b s.vc (qd .i64 ((s.lc:Int)-1)).toNat,E6),(.ay c s.vs s.lc,E6)]) (.vec 5 (s.ve+1) (ev.map vev)) (.vec 5 s.vc (s.cs.map vev)) (.vec 4 s.vs (s.ss.map z6))++[.hole])⟩:=(KR (f:=vev) (x:=e) eR (jq3 D _) (by simp only[go_sem,seval]) (by decide) (by decide) (by decide)).trans (by rw[jq2 D]);refine⟨(cL H p a b c (.cells [(.ay a (s.ve+1) (s.ev.length+1),E6),(.ay b s.vc (qd .i64 ((s.lc:Int)-1)).toNat,E6),(.ay c s.vs s.lc,E6)]) (.vec 5 (s.ve+1) (ev.map vev)) (.vec 5 s.vc (s.cs.map vev)) (.vec 4 s.vs (s.ss.map z6))++[.hole]),?_,?_⟩
      .rw[qg (show pr.br 42=En jU from rfl) (by simp)];simp only[go_sem,seval,jU,Y,I,w1,h3,g1,g2,w2,w3,h4,g3,g4,g5,xn D,CO D,G5 D,CN D,G4 D,CP,G6,CQ,G7,CR,G8,gF,gG,H8,Hb,Hc,D.lp,dQ,dW,tO]<;>rfl
      .simp only[Io];exact qQ oB rfl (KQ hB (G9 D.la D.lb D.lc) rfl rfl rfl)
     .cases h
    .cases h;refine⟨(cL H p a b c (kV s a b c) (.vec 5 s.ve (s.ev.map vev)) (.vec 5 s.vc (s.cs.map vev)) (.vec 4 s.vs (s.ss.map z6))),?_,z9 oB⟩;rw[qg (show pr.br 42=En jU from rfl) (by simp)];simp only[go_sem,seval,jU,Y,I,w1,h3,g1,g2,w2,w3,h4,xn D,CO D,G5 D,CN D,G4 D,CP,G6,CQ,G7,CR,G8,gF,gG,H8,Hb,Hc,D.lp,dQ,dW,tO]<;>rfl
   .obtain⟨e2,k3,h⟩:=qb h;obtain⟨e3,k4,h⟩:=qb h;have w2:=dE k3;have w3:ae pr (X pr) 35 [.list E6 1 [Iv e1,Iv e2]]=En (Iv e3,E6):=fY k4;rcases qc h with⟨h4,h⟩|⟨h4,h⟩
    .cases h
    .cases h;refine⟨(cL H p a b c (kV s a b c) (.vec 5 s.ve (s.ev.map vev)) (.vec 5 s.vc (s.cs.map vev)) (.vec 4 s.vs (s.ss.map z6))),?_,z9 oB⟩;rw[qg (show pr.br 42=En jU from rfl) (by simp)];simp only[go_sem,seval,jU,Y,I,w1,h3,w2,w3,h4,xn D,CO D,G5 D,CN D,G4 D,CP,G6,CQ,G7,CR,G8,gF,gG,H8,Hb,Hc,D.lp,dQ,dW,tO]<;>rfl
  .obtain⟨r,k1,h⟩:=qb h;obtain⟨v,k2,h⟩:=qb h;have w1:=PY (H:=sH H p a b c s) (x0:=(.ay a s.ve s.ev.length,E6)) (x1:=(.ay b s.vc s.lc,E6)) (vs:=s.vs) (ls:=s.ls) (ss:=s.ss) (CO D) (Zb D) k1;have wa:qy H.length (aR r) (cL H p a b c (kV s a b c) (.vec 5 s.ve (s.ev.map vev)) (.vec 5 s.vc (s.cs.map vev)) (.vec 4 s.vs (s.ss.map z6))++[kR r.day r.az r.ah r.units])=(cL H p a b c (kV s a b c) (.vec 5 s.ve (s.ev.map vev)) (.vec 5 s.vc (s.cs.map vev)) (.vec 4 s.vs (s.ss.map z6))):=qQ oB (by simp only[go_sem,seval]) (KQ hB (G9 D.la D.lb D.lc) rfl rfl rfl);have w2:ae pr (X pr) 129 [aR r,aE e]=En (.aJ [aR v.1,Iv v.2],E6):=j24 k2;rcases qc h with⟨h3,h⟩|⟨h3,h⟩
   .obtain⟨cs,hcs,h⟩:=qb h;obtain⟨ss,wu,h⟩:=qb h;obtain⟨ev,eR,h⟩:=qb h;cases h;have Io:ev.length=s.ev.length+1:=q4j eR;have g1:pT H.length 0 5 88 (cL H p a b c (kV s a b c) (.vec 5 s.ve (s.ev.map vev)) (.vec 5 s.vc (s.cs.map vev)) (.vec 4 s.vs (s.ss.map z6))++[.hole,.hole]) (En (.ay b s.vc s.lc)) (En (.list E6 5 [aE e]))=En ⟨.ay b (s.vc+1) (s.lc+1),E6,Ia,(cL H p a b c (kV s a b c) (.vec 5 s.ve (s.ev.map vev)) (.vec 5 (s.vc+1) (cs.map vev)) (.vec 4 s.vs (s.ss.map z6))++[.hole,.hole])⟩:=(KR (f:=vev) (x:=e) hcs (j8p D _) (by simp only[go_sem,seval]) (by decide) (by decide) (by decide)).trans (by rw[j6n D]);have g2:pT H.length 1 4 80 (cL H p a b c (kV s a b c) (.vec 5 s.ve (s.ev.map vev)) (.vec 5 (s.vc+1) (cs.map vev)) (.vec 4 s.vs (s.ss.map z6))++[.hole,.hole]) (En (.ay c s.vs s.ls)) (En (.list E6 4 [aR v.1]))=En ⟨.ay c (s.vs+1) (s.ls+1),E6,Ia,(cL H p a b c (kV s a b c) (.vec 5 s.ve (s.ev.map vev)) (.vec 5 (s.vc+1) (cs.map vev)) (.vec 4 (s.vs+1) (ss.map z6))++[.hole,.hole])⟩:=(KR (f:=z6) (x:=v.1) wu (j9f D _) (by simp only[go_sem,seval]) (by decide) (by decide) (by decide)).trans (by rw[j5r D]);have g3:pT (H.length+2) 0 5 88 (cL H p a b c (.cells [(.ay a s.ve s.ev.length,E6),(.ay b (s.vc+1) (s.lc+1),E6),(.ay c (s.vs+1) (s.ls+1),E6)]) (.vec 5 s.ve (s.ev.map vev)) (.vec 5 (s.vc+1) (cs.map vev)) (.vec 4 (s.vs+1) (ss.map z6))++[.hole,.hole,.hole]) (En (.ay a s.ve s.ev.length)) (En (.list E6 5 [aE e]))=En ⟨.ay a (s.ve+1) (s.ev.length+1),E6,Ia,(cL H p a b c (.cells [(.ay a s.ve s.ev.length,E6),(.ay b (s.vc+1) (s.lc+1),E6),(.ay c (s.vs+1) (s.ls+1),E6)]) (.vec 5 (s.ve+1) (ev.map vev)) (.vec 5 (s.vc+1) (cs.map vev)) (.vec 4 (s.vs+1) (ss.map z6))++[.hole,.hole,.hole])⟩:=(KR (f:=vev) (x:=e) eR (jq3 D _) (by simp only[go_sem,seval]) (by decide) (by decide) (by decide)).trans (by rw[jq2 D]);refine⟨(cL H p a b c (.cells [(.ay a (s.ve+1) (s.ev.length+1),E6),(.ay b (s.vc+1) (s.lc+1),E6),(.ay c (s.vs+1) (s.ls+1),E6)]) (.vec 5 (s.ve+1) (ev.map vev)) (.vec 5 (s.vc+1) (cs.map vev)) (.vec 4 (s.vs+1) (ss.map z6))++[.hole,.hole,.hole]),?_,?_⟩
    .rw[qg (show pr.br 42=En jU from rfl) (by simp)];simp only[go_sem,seval,jU,Y,I,w1,wa,w2,h3,g1,g2,g3,xn D,CO D,G5 D,CN D,G4 D,CP,G6,CQ,G7,CR,G8,gF,gG,H8,Hb,Hc,D.lp,dQ,dW,tO]<;>rfl
    .simp only[Io];exact qQ oB rfl (KQ hB (G9 D.la D.lb D.lc) rfl rfl rfl)
   .cases h;refine⟨(cL H p a b c (kV s a b c) (.vec 5 s.ve (s.ev.map vev)) (.vec 5 s.vc (s.cs.map vev)) (.vec 4 s.vs (s.ss.map z6))),?_,z9 oB⟩;rw[qg (show pr.br 42=En jU from rfl) (by simp)];simp only[go_sem,seval,jU,Y,I,w1,wa,w2,h3,xn D,CO D,G5 D,CN D,G4 D,CP,G6,CQ,G7,CR,G8,gF,gG,H8,Hb,Hc,D.lp,dQ,dW,tO]<;>rfl
 .cases h;refine⟨(cL H p a b c (kV s a b c) (.vec 5 s.ve (s.ev.map vev)) (.vec 5 s.vc (s.cs.map vev)) (.vec 4 s.vs (s.ss.map z6))),?_,z9 oB⟩;rw[qg (show pr.br 42=En jU from rfl) (by simp)];simp only[go_sem,seval,jU,Y,xn D,CO D,G5 D,CN D,G4 D,CP,G6,CQ,G7,CR,G8,gF,gG,H8,Hb,Hc,D.lp,dQ,dW,tO]<;>rfl
end Go.Z
namespace Go.Z
open Go Go.Abs Go.W
def dV (H:qf)(p c:Nat)(P C:aK):qf:=(H.set p P).set c C
structure D2 (H:qf)(p c:Nat):Prop where
 lp:p<H.length
 lc:c<H.length
 pc:p≠c
section
variable {H:qf}{p c:Nat}{P C:aK}
@[go_sem] theorem qR:(dV H p c P C).length=H.length:=by simp[dV]
theorem Zc (D:D2 H p c):(dV H p c P C)[p]?=En P:=by
 have:=D.lp;simp[dV,Ib,D.pc.symm,this]
theorem jre (D:D2 H p c):(dV H p c P C)[c]?=En C:=by
 have:=D.lc;simp[dV,Ib,this]
theorem KS (D:D2 H p c){x}:(dV H p c P C).set p x=dV H p c x C:=by
 unfold dV;rw[If _ _ D.pc.symm,Ik]
theorem j4r (D:D2 H p c){x}:(dV H p c P C).set c x=dV H p c P x:=by
 unfold dV;rw[Ik]
theorem jkd (D:D2 H p c)(L:qf):(dV H p c P C++L)[p]?=En P:=oz (Zc D) L
theorem jj7 (D:D2 H p c)(L:qf):(dV H p c P C++L)[c]?=En C:=oz (jre D) L
theorem PZ (D:D2 H p c)(L:qf){x}:(dV H p c P C++L).set p x=dV H p c x C++L:=by
 rw[H4 _ _ (by rw[qR];exact D.lp),KS D]
theorem j08 (D:D2 H p c)(L:qf){x}:(dV H p c P C++L).set c x=dV H p c P x++L:=by
 rw[H4 _ _ (by rw[qR];exact D.lc),j4r D]
theorem KT (D:D2 H p c){cs}:qw (dV H p c (.cells cs) C) p=En cs:=by unfold qw;rw[Zc D]
theorem P0 (D:D2 H p c){cs}(L:qf):qw (dV H p c (.cells cs) C++L) p=En cs:=by unfold qw;rw[jkd D]
theorem bc2 (L:qf)(i:Nat):qw (dV H p c P C++L) (H.length+i)=qw L i:=by
 have:=rW (H:=dV H p c P C) L i;rwa [qR]at this
theorem CT (L:qf)(i:Nat):(dV H p c P C++L)[H.length+i]?=L[i]?:=by
 have:=yx (H:=dV H p c P C) L i;rwa [qR]at this
theorem Hd (L:qf)(i:Nat)(x:aK):(dV H p c P C++L).set (H.length+i) x=dV H p c P C++L.set i x:=by
 have:=iF (H:=dV H p c P C) L i x;rwa [qR]at this
theorem P4 (L:qf):qw (dV H p c P C++L) H.length=qw L 0:=bc2 L 0
theorem KU (L:qf):(dV H p c P C++L)[H.length]?=L[0]?:=CT L 0
theorem P5 (L:qf)(x:aK):(dV H p c P C++L).set H.length x=dV H p c P C++L.set 0 x:=Hd L 0 x
theorem nb2 {L:qf}{k r:Nat}{x:aK}(h:L[k+r]?=En .hole):aO (H.length+k) (dV H p c P C++L) r x=En (dV H p c P C++L.set (k+r) x):=by
 unfold aO;rw[Nat.add_assoc,CT,h,Hd]
theorem jh8 {n:Nat}(h:qr n H=H3)(Y:zn n P=H3)(h4:zn n C=H3):qr n (dV H p c P C)=H3:=
 CS h4 (CS Y h)
theorem KW {n:Nat}{x:aK}(M:zn n x=E6):∀ {H:qf} {i:Nat},H[i]?=En x->qr n H=E6
 | [],i,h=>by simp at h
 |y::H,0,h=>by
  simp only[List.getElem?_cons_zero,En.injEq]at h;simp only[qr,h,M,Bool.false_and]
 |y::H,i+1,h=>by
  simp only[List.getElem?_cons_succ]at h;simp only[qr,KW M h,I3]
theorem jbh {n:Nat}{v:AVal}{x:aK}{h t:qf}{i:Nat}(hn:h.length=n)(hi:h[i]?=En x)(M:zn n x=E6):qy n v (h++t)=h++t:=by
 unfold qy
 have ht:(h++t).take n=h:=by rw[<-hn,List.take_left'];rfl
 rw[ht,KW M hi,I3];cases Nat.ble (h++t).length n<;>rfl
end
abbrev kP (c:Nat):aK:=.cells [(Nl,E6),(Nl,E6),(.ay c 0 1,E6)]
abbrev rX (H:qf)(p c:Nat):qf:=dV H p c (kP c) (.vec 4 0 [aZ])
abbrev rY (H:qf)(p c:Nat)(v:HV):qf:=dV H p c (kV v (H.length+2) H.length c) (.vec 4 v.vs (v.ss.map z6))++[.vec 5 v.vc (v.cs.map vev),.hole,.vec 5 v.ve (v.ev.map vev)]
theorem jja {H:qf}{p c:Nat}(D:D2 H p c)(hB:qr H.length H=H3){e:GEv}{q}(h:B2 e=En q):∃hh,ai pr (X pr) 42 [.ptr p 0,aE e] (rX H p c)=En (Iv q.1,E6,hh)/\qy H.length (Iv q.1) hh=(match q.2 with
  |none=>rX H p c
  |some v=>rY H p c v):=by
 have dQ:p<H.length+1:=Ic D.lp;have dW:p<H.length+2:=Ic dQ;have tO:p<H.length+3:=Ic dW;unfold B2 at h;rcases qc h with⟨Y,h⟩|⟨Y,h⟩
 .rcases qc h with⟨I,h⟩|⟨I,h⟩
  .obtain⟨e1,k1,h⟩:=qb h;obtain⟨e2,k3,h⟩:=qb h;obtain⟨e3,k4,h⟩:=qb h;have w1:=dE k1;have w2:=dE k3;have w3:ae pr (X pr) 35 [.list E6 1 [Iv e1,Iv e2]]=En (Iv e3,E6):=fY k4;rcases qc h with⟨h4,h⟩|⟨h4,h⟩
   .cases h
   .cases h;refine⟨rX H p c,?_,z9 qR⟩;rw[qg (show pr.br 42=En jU from rfl) (by simp)];simp only[go_sem,seval,jU,Y,I,w1,w2,w3,h4,Zd,zkb,j3f,KT D,P0 D,KS D,PZ D,bc2,P4,CT,KU,Hd,P5,gF,gG,H8,Hb,Hc,D.lp,dQ,dW,tO]<;>rfl
  .obtain⟨v,k2,h⟩:=qb h;have w1:=PY (H:=rX H p c) (x0:=(Nl,E6)) (x1:=(Nl,E6)) (vs:=0) (ls:=1) (ss:=[dY]) (r:=dY) (KT D) (jre D) rfl;have wa:qy H.length (aR dY) (rX H p c++[kR dY.day dY.az dY.ah dY.units])=rX H p c:=qQ qR rfl (jh8 hB (by simp only[zn,zw,vj,D.lc,decide_true,I5];rfl) rfl);have w2:ae pr (X pr) 129 [aR dY,aE e]=En (.aJ [aR v.1,Iv v.2],E6):=j24 k2;rcases qc h with⟨h3,h⟩|⟨h3,h⟩
   .cases h
    have g1:pT H.length 0 5 88 (rX H p c++[.hole,.hole]) (En (Nl)) (En (.list E6 5 [aE e]))=En ⟨.ay H.length 0 1,E6,Ia,rX H p c++[.vec 5 0 [aE e],.hole]⟩:=by
     exact q7h (by simp) (by decide) (by decide) (by simp) (by simp only[go_sem,seval]) (by decide) (nb2 (k:=0) (r:=0) rfl)
    have g2:pT H.length 1 4 80 (rX H p c++[.vec 5 0 [aE e],.hole]) (En (.ay c 0 1)) (En (.list E6 4 [aR v.1]))=En ⟨.ay c 1 2,E6,Ia,dV H p c (kP c) (.vec 4 1 [aZ,aR v.1])++[.vec 5 0 [aE e],.hole]⟩:=(KR (f:=z6) (l:=[dY]) (l':=[dY,v.1]) (x:=v.1) rfl (jj7 D _) (by simp only[go_sem,seval]) (by decide) (by decide) (by decide)).trans (by rw[j08 D];rfl)
    have g3:pT (H.length+2) 0 5 88 (dV H p c (.cells [(Nl,E6),(.ay H.length 0 1,E6),(.ay c 1 2,E6)]) (.vec 4 1 [aZ,aR v.1])++[.vec 5 0 [aE e],.hole,.hole]) (En (Nl)) (En (.list E6 5 [aE e]))=En ⟨.ay (H.length+2) 0 1,E6,Ia,dV H p c (.cells [(Nl,E6),(.ay H.length 0 1,E6),(.ay c 1 2,E6)]) (.vec 4 1 [aZ,aR v.1])++[.vec 5 0 [aE e],.hole,.vec 5 0 [aE e]]⟩:=by
     exact q7h (by simp) (by decide) (by decide) (by simp) (by simp only[go_sem,seval]) (by decide) (nb2 (k:=2) (r:=0) rfl)
    refine⟨rY H p c { ev:=[e],ve:=0,cs:=[e],lc:=1,vc:=0,ss:=[dY,v.1],ls:=2,vs:=1 },?_,?_⟩
    .rw[qg (show pr.br 42=En jU from rfl) (by simp)];simp only[go_sem,seval,jU,Y,I,w1,wa,w2,h3,g1,g2,g3,Zd,KT D,P0 D,KS D,PZ D,bc2,P4,CT,KU,Hd,P5,gF,gG,H8,Hb,Hc,D.lp,dQ,dW,tO]<;>rfl
    .exact jbh qR (Zc D) (by simp[zn,zw,vj])
   .cases h;refine⟨rX H p c,?_,z9 qR⟩;rw[qg (show pr.br 42=En jU from rfl) (by simp)];simp only[go_sem,seval,jU,Y,I,w1,wa,w2,h3,Zd,KT D,P0 D,KS D,PZ D,bc2,P4,CT,KU,Hd,P5,gF,gG,H8,Hb,Hc,D.lp,dQ,dW,tO]<;>rfl
 .cases h;refine⟨rX H p c,?_,z9 qR⟩;rw[qg (show pr.br 42=En jU from rfl) (by simp)];simp only[go_sem,seval,jU,Y,KT D,P0 D,KS D,PZ D,bc2,P4,CT,KU,Hd,P5,gF,gG,H8,Hb,Hc,D.lp,dQ,dW,tO]<;>rfl
end Go.Z
namespace Go.Z
open Go Go.Abs Go.W
@[go_sem] theorem zbq {n h b o}:Jt 1 n h (En (.ptr b o))=En ⟨.bool n,E6,Ia,h⟩:=by cases n<;>rfl
def j7h (l:List GEv)(V:(ak GEv)×Int×Bool):Option (((ak GEv)×Int×Bool)⊕(((ak GEv)×Bool×Int))):=
 cond (decide (V.2.1<(l.length:Int)))
  (qa (qm l V.2.1) fun dj=>
  qa (f46 dj) fun dL=>
  cond V.2.2
   (qa (bC V.1 [dL]) fun fj=>
   En (.inl (fj,qd .i64 (V.2.1+1),H3)))
   (cond V.1.isNone
    (qa (bC V.1 [dL]) fun v20=>
    En (.inl (v20,qd .i64 (V.2.1+1),H3)))
    (Ia)))
  (En (.inr (V.1,V.2.2,V.2.1)))
section
variable {H:qf}{a v:Nat}{l:List GEv}
theorem jup (ha:H[a]?=En (.vec 5 v (l.map vev))){i:Int}{x:GEv}(M:qm l i=En x):
  (∀h:qf,mr 5 h (En (.ay a v l.length)) (En (Iv i))=En ⟨.dT a v (i.toNat*5),E6,Ia,h⟩)/\gT H.length Ia H3 5 H (En (.dT a v (i.toNat*5)))=En ⟨aE x,E6,Ia,H⟩:=by
 have fp:qm (l.take l.length) i=En x:=by rw[List.take_length];exact M
 exact⟨fun h=>(G2 fp).1,jhs jv4 ha rfl (G2 (sz:=5) (b:=0) (v:=0) (h:=[]) fp).2⟩
def zh6 (l:List GEv):Option ((ak GEv)×Bool):=
 qa (bq (j7h l) (Ia,0,E6)) fun d=>
 En (d.1,d.2.1)
end
end Go.Z
namespace Go.Z
open Go Go.Abs Go.W
theorem jp6 {H:qf}{O:GEv}{r}(h:f49 O=En r):ai aB (X aB) 49 [aE O] H=En (.str r,E6,H):=by
 unfold f49 at h;obtain⟨v1,I,h⟩:=qb h;have gE:ae aB (X aB) 135 [.agg [.int .i64 O.number,.str O.kind,sl 1 jf O.names,sl 1 jt O.values,.str O.text]]=En (.str v1,E6):=j0m I;obtain⟨v3,h4,h⟩:=qb h;obtain⟨v5,h6,h⟩:=qb h;have qG:ae aB (X aB) 136 [.str v1]=En (.str v5,E6):=YC h6;obtain⟨v7,h8,h⟩:=qb h;obtain⟨v9,et,h⟩:=qb h;have Q:v9=r:=En.inj h;subst Q;rw[qg (show aB.br 49=En KC from rfl) (by simp)];simp only[go_sem,seval,KC,gE,ym h4,qG,ym h8,ym et,Ha]<;>rfl
def He (l:List GEv)(V:(ak aj)×Int×Bool):Option (((ak aj)×Int×Bool)⊕(((ak aj)×Bool×Int))):=
 cond (decide (V.2.1<(l.length:Int)))
  (qa (qm l V.2.1) fun dj=>
  qa (f49 dj) fun dL=>
  cond V.2.2
   (qa (bC V.1 [dL]) fun fj=>
   En (.inl (fj,qd .i64 (V.2.1+1),H3)))
   (cond V.1.isNone
    (qa (bC V.1 [dL]) fun v20=>
    En (.inl (v20,qd .i64 (V.2.1+1),H3)))
    (Ia)))
  (En (.inr (V.1,V.2.2,V.2.1)))
section
variable {H:qf}{a v:Nat}{l:List GEv}
def Hf (H:qf)(a v:Nat)(l:List GEv)(V:(ak aj)×Int×Bool):bn:=⟨[(1,.fn (.func 49) [] [],E6),(5,sl 1 jf V.1,V.2.2),(8,.ay a v l.length,E6),(9,.int .i64 (l.length:Int),E6),(10,Iv V.2.1,E6)],H⟩
def P6 (H:qf)(a v:Nat)(l:List GEv)(d:((ak aj)×Bool×Int)):jb×bn:=(.exit 0,⟨[(1,.fn (.func 49) [] [],E6),(5,sl 1 jf d.1,d.2.1),(8,.ay a v l.length,E6),(9,.int .i64 (l.length:Int),E6),(10,Iv d.2.2,E6),(11,.bool E6,E6)],H⟩)
theorem j6t (ha:H[a]?=En (.vec 5 v (l.map vev)))(V:(ak aj)×Int×Bool)(r)(h:He l V=En r):jy aB Ae (Hf H a v l) (P6 H a v l) V r:=by
 unfold He at h;rcases qc h with⟨Y,h⟩|⟨Y,h⟩
 .obtain⟨x,I,h⟩:=qb h;obtain⟨y,h3,h⟩:=qb h;obtain⟨g1,g2⟩:=jup ha I;have g3:=jp6 (H:=H) h3;have g4:qy H.length (.str y) H=H:=z9 rfl;rcases qc h with⟨h4,h⟩|⟨h4,h⟩
  .obtain⟨z,h5,h⟩:=qb h;cases h;exact kp (bP:=Hf H a v l (z,qd .i64 (V.2.1+1),H3)) (by simp only[go_sem,seval,Ae,Hf,Y,g1,g2,g3,g4,h4,q02 h5]<;>rfl) (jQ (Nat.le_refl _))
  .rcases qc h with⟨h5,h⟩|⟨h5,h⟩
   .obtain⟨z,h6,h⟩:=qb h;cases h;exact kp (bP:=Hf H a v l (z,qd .i64 (V.2.1+1),H3)) (by simp only[go_sem,seval,Ae,Hf,Y,g1,g2,g3,g4,h4,h5,jek h6 h5]<;>rfl) (jQ (Nat.le_refl _))
   .cases h
 .cases h;exact qu (by simp only[go_sem,seval,Ae,Hf,Y,P6]<;>rfl)
def P7 (l:List GEv):Option ((ak aj)×Bool):=
 qa (bq (He l) (Ia,0,E6)) fun d=>
 En (d.1,d.2.1)
theorem ziy (ha:H[a]?=En (.vec 5 v (l.map vev))){r}(h:P7 l=En r):ai aB (X aB) 48 [.ay a v l.length,.fn (.func 49) [] []] H=En (sl 1 jf r.1,r.2,H):=by
 unfold P7 at h;obtain⟨d,Y,h⟩:=qb h;cases h;have wl:X aB (.loop Ae) ⟨[(1,.fn (.func 49) [] [],E6),(5,.list H3 0 [],E6),(8,.ay a v l.length,E6),(9,.int .i64 (l.length:Int),E6),(10,Iv 0,E6)],H⟩=En (P6 H a v l d):=lT (j6t ha) (fun d hh=>by cases hh) Y;simp only[P6]at wl;rw[qg (show aB.br 48=En KX from rfl) (by simp)];simp only[go_sem,seval,KX,wl]<;>rfl
def f13 (l:List GEv):Option aj:=qa (P7 l) fun r=>f47 r.1 []
theorem j75 {p:Nat}{x1 x2:AVal×Bool}(hp:qw H p=En [(.ay a v l.length,E6),x1,x2])(ha:H[a]?=En (.vec 5 v (l.map vev))){r}(h:f13 l=En r):ai aB (X aB) 13 [.ptr p 0] H=En (.str r,E6,H):=by
 have bg:=Ad hp;unfold f13 at h;obtain⟨q,Y,h⟩:=qb h;have w:=ziy ha Y;have wa:qy H.length (sl 1 jf q.1) H=H:=z9 rfl;have wj:=GJ h;rw[qg (show aB.br 13=En KY from rfl) (by simp)];simp only[go_sem,seval,KY,hp,bg,w,wa,wj,Ha]<;>rfl
theorem j7e {p:Nat}{x1 x2:AVal×Bool}(hp:qw H p=En [(Nl,E6),x1,x2]):ai aB (X aB) 13 [.ptr p 0] H=En (.str [],E6,H):=by
 have bg:=Ad hp
 have w:ai aB (X aB) 48 [Nl,.fn (.func 49) [] []] H=En (Nl,E6,H):=by
  have wl:X aB (.loop Ae) ⟨[(1,.fn (.func 49) [] [],E6),(5,.list H3 0 [],E6),(8,Nl,E6),(9,.int .i64 0,E6),(10,Iv 0,E6)],H⟩=En (.exit 0,⟨[(1,.fn (.func 49) [] [],E6),(5,.list H3 0 [],E6),(8,Nl,E6),(9,.int .i64 0,E6),(10,Iv 0,E6),(11,.bool E6,E6)],H⟩):=by
   rw[jcd];simp only[go_sem,seval,Ae,j3f]<;>rfl
  rw[qg (show aB.br 48=En KX from rfl) (by simp)];simp only[go_sem,seval,KX,wl]<;>rfl
 have wa:qy H.length Nl H=H:=z9 rfl;have wj:ae aB (X aB) 47 [Nl,.str []]=En (.str [],E6):=GJ (l:=none) (p:=[]) rfl;rw[qg (show aB.br 13=En KY from rfl) (by simp)];simp only[go_sem,seval,KY,hp,bg,w,wa,wj,Ha]<;>rfl
end
end Go.Z
namespace Go.Z
open Go Go.Abs Go.W
section
variable {H:qf}{r:aw}{n:aj}
def f87 (r:aw)(n:aj):Option (ak aj×Bool):=qa (f69 r n) fun i=>qa (qm (r.units.getD []) i) fun u=>f61 u
def f88 (r:aw)(n:aj):Option (ak aj×Bool):=f89 r n
def f90 (r:aw)(n:aj):Option (ak aj×Bool):=qa (f69 r n) fun i=>qa (qm (r.units.getD []) i) fun u=>f91 r u
def f92 (r:aw)(n:aj):Option (ak aj×Bool):=qa (f93 r n) fun k=>qa (f43 k) fun s=>En (En [s],H3)
def f94 (r:aw)(n:aj):Option (ak aj×Bool):=qa (f95 r n) fun i=>qa (qm (r.ah.getD []) i) fun p=>qa (f96 p) fun v=>qa (f43 v) fun s=>En (En [s],H3)
def f97 (r:aw)(n:aj):Option (ak aj×Bool):=qa (KK r.units) fun v=>f65 v.1
def f99 (r:aw)(n:aj):Option (ak aj×Bool):=qa (f101 r.az) fun v=>f167 v.1
theorem zir {q}(h:f87 r n=En q):ai aB (X aB) 87 [aR r,.str n] H=En (sl 1 jf q.1,q.2,H):=by
 unfold f87 at h;obtain⟨i,Y,h⟩:=qb h;obtain⟨u,I,h⟩:=qb h;have w1:=aF.ae (tP Y);have w2:=aF.ae (W61 h);rw[qg (show aB.br 87=En Ze from rfl) (by simp)];simp only[go_sem,seval,Ze,w1,jm I,w2,Ha]<;>rfl
theorem zd4 {q}(h:f88 r n=En q):ai aB (X aB) 88 [aR r,.str n] H=En (sl 1 jf q.1,q.2,H):=by
 have w1:=aF.ae (W89 h);rw[qg (show aB.br 88=En Zf from rfl) (by simp)];simp only[go_sem,seval,Zf,w1,Ha]<;>rfl
theorem zif {q}(h:f90 r n=En q):ai aB (X aB) 90 [aR r,.str n] H=En (sl 1 jf q.1,q.2,H):=by
 unfold f90 at h;obtain⟨i,Y,h⟩:=qb h;obtain⟨u,I,h⟩:=qb h;have w1:=aF.ae (tP Y);have w2:=aF.ae (W91 h);rw[qg (show aB.br 90=En Zg from rfl) (by simp)];simp only[go_sem,seval,Zg,w1,jm I,w2,Ha]<;>rfl
theorem zfx {q}(h:f92 r n=En q):ai aB (X aB) 92 [aR r,.str n] H=En (sl 1 jf q.1,q.2,H):=by
 unfold f92 at h;obtain⟨k,Y,h⟩:=qb h;obtain⟨s,I,h⟩:=qb h;cases h;have w1:=aF.ae (W93 Y);have w2:=Kz I;rw[qg (show aB.br 92=En Zh from rfl) (by simp)];simp only[go_sem,seval,Zh,w1,w2,Ha]<;>rfl
theorem zkh {q}(h:f94 r n=En q):ai aB (X aB) 94 [aR r,.str n] H=En (sl 1 jf q.1,q.2,H):=by
 unfold f94 at h;obtain⟨i,Y,h⟩:=qb h;obtain⟨p,I,h⟩:=qb h;obtain⟨v,h3,h⟩:=qb h;obtain⟨s,h4,h⟩:=qb h;cases h;have w1:=aF.ae (rZ Y);have w2:=aF.ae (Zi h3);have w3:=Kz h4;rw[qg (show aB.br 94=En Zj from rfl) (by simp)];simp only[go_sem,seval,Zj,w1,jm I,w2,w3,Ha]<;>rfl
theorem zij {q}(h:f97 r n=En q):ai aB (X aB) 97 [aR r,.str n] H=En (sl 1 jf q.1,q.2,H):=by
 unfold f97 at h;obtain⟨v,Y,h⟩:=qb h;have w1:=aF.ae (zg4 Y);have w2:=aF.ae (W65 h);rw[qg (show aB.br 97=En Zk from rfl) (by simp)];simp only[go_sem,seval,Zk,w1,w2,Ha]<;>rfl
theorem zgh {o:ak ji}{q}(h:f167 o=En q):ae pr (X pr) 100 [sl 5 je o]=En (sl 1 jf q.1,q.2):=by
 have w1:=zfs h;refine yq CU ?_;simp only[go_sem,seval,CU,w1];exact⟨_,rfl⟩
theorem zc4 {q}(h:f99 r n=En q):ai aB (X aB) 99 [aR r,.str n] H=En (sl 1 jf q.1,q.2,H):=by
 unfold f99 at h;obtain⟨v,Y,h⟩:=qb h;have w1:=aF.ae (jw5 Y);have w2:=aF.ae (zgh h);rw[qg (show aB.br 99=En Zl from rfl) (by simp)];simp only[go_sem,seval,Zl,w1,w2,Ha]<;>rfl
theorem j0y {k:Int}{q}(h:f104 r k n=En q):ai aB (X aB) 104 [aR r,.int .i32 k,.str n] H=En (.bool q,E6,H):=by
 unfold f104 at h;rcases qc h with⟨g1,h⟩|⟨g1,h⟩
 .obtain⟨v,Y,h⟩:=qb h;have w1:=aF.ae (CV Y);cases h;rw[qg (show aB.br 104=En jF from rfl) (by simp)];simp only[go_sem,seval,jF,g1,w1,Ha]<;>rfl
 .rcases qc h with⟨g2,h⟩|⟨g2,h⟩
  .obtain⟨v,Y,h⟩:=qb h;have w1:=aF.ae (rZ Y);cases h;rw[qg (show aB.br 104=En jF from rfl) (by simp)];simp only[go_sem,seval,jF,g1,g2,w1,Ha]<;>rfl
  .rcases qc h with⟨g3,h⟩|⟨g3,h⟩
   .obtain⟨v,Y,h⟩:=qb h;have w1:=aF.ae (tP Y);cases h;rw[qg (show aB.br 104=En jF from rfl) (by simp)];simp only[go_sem,seval,jF,g1,g2,g3,w1,Ha]<;>rfl
   .cases h;rw[qg (show aB.br 104=En jF from rfl) (by simp)];simp only[go_sem,seval,jF,g1,g2,g3,Ha]<;>rfl
end
end Go.Z
namespace Go.Z
open Go Go.Abs Go.W
def fk:List (aj×Int×Nat):=[([108,111,116,115],117,87),([117,110,105,116,115],108,88),([109,105,115,115,105,110,103],117,90),([115,116,111,99,107],107,92),([118,101,114,115,105,111,110],112,94),([115,104,105,112,112,101,100],0,97),([104,101,108,100],0,99)]
def lW (x:aj):Option (aj×Int×Nat):=fk.find? fun f=>decide (x=f.1)
def KZ (x:aj):Int:=match lW x with
 |some f=>f.2.1|none=>0
def CW (x:aj):AVal:=match lW x with
 |some f=>fnv f.2.2|none=>.cu
def CX (x:aj):Bool:=(lW x).isSome
theorem jid:jp=fk.map fun f=>(.str f.1,.agg [.int .i32 f.2.1,fnv f.2.2]):=rfl
theorem q4t (x:aj):∀(l:List (aj×Int×Nat)) (n:Nat),(za .str (.str x) (l.map fun f=>(.str f.1,.agg [.int .i32 f.2.1,fnv f.2.2])) n=En Ia/\l.find? (fun f=>decide (x=f.1))=Ia)\/∃i f,za .str (.str x) (l.map fun f=>(.str f.1,.agg [.int .i32 f.2.1,fnv f.2.2])) n=En (En (i,.agg [.int .i32 f.2.1,fnv f.2.2]))/\l.find? (fun f=>decide (x=f.1))=En f
 | [],n=>.inl ⟨rfl,rfl⟩
 |f::l,n=>by
  have he:nq .str (.str x) (.str f.1)=En (decide (x=f.1)):=by
   show En (x == f.1)=_;by_cases M:x=f.1<;>simp[M]
  by_cases M:x=f.1
  .refine .inr ⟨n,f,?_,?_⟩
   .simp only[Iy,za,he,decide_eq_true M]
   .simp[I2,M]
  .rcases q4t x l (n+1)with⟨Y,I⟩|⟨i,g,Y,I⟩
   .exact .inl ⟨by simp only[Iy,za,he,M,decide_false];exact Y,by simp only[I2,M,decide_false];exact I⟩
   .exact .inr ⟨i,g,by simp only[Iy,za,he,M,decide_false];exact Y,by simp only[I2,M,decide_false];exact I⟩
@[go_sem] theorem zlk:aB.maps 37=En jp:=rfl
theorem Hg {h:qf}(x:aj):tj h (.agg [.int .i32 0,.cu]) (za .str (.str x) jp 0)=En ⟨.aJ [.agg [.int .i32 (KZ x),CW x],.bool (CX x)],E6,Ia,h⟩:=by
 rw[jid];rcases q4t x fk 0 with⟨Y,I⟩|⟨i,f,Y,I⟩
 .rw[Y];simp only[tj,KZ,CW,CX,lW,I];rfl
 .rw[Y];simp only[tj,KZ,CW,CX,lW,I];rfl
@[go_sem] theorem zlw {x}:qk (CW x)=H3:=by
 unfold CW;split
 .rename_i f _;simp only[fnv];cases Nat.beq f.2.2 0<;>rfl
 .rfl
abbrev Ans:=aw->aj->Option (ak aj×Bool)
def Af (k:Nat):Ans:=match k with
 |87=>f87|88=>f88|90=>f90|92=>f92|94=>f94|97=>f97|99=>f99
 |_=>fun _ _=>Ia
theorem Zm {k:Nat}{H:qf}{r:aw}{n:aj}{q}(h:Af k r n=En q):ai aB (X aB) k [aR r,.str n] H=En (sl 1 jf q.1,q.2,H):=by
 unfold Af at h;split at h
 .exact zir h
 .exact zd4 h
 .exact zif h
 .exact zfx h
 .exact zkh h
 .exact zij h
 .exact zc4 h
 .cases h
def CY (r:aw)(role:Int)(k:Nat)(o:ak aj):Option (aj×Int):=
 cond (decide (((o.getD []).length:Int)=(if role=0 then 1 else 2)))
  (qa (f63 o []) fun e=>
  cond e (En ([],26))
   (qa (qm (o.getD []) (qd .i64 (if role=0 then 0 else 1))) fun name=>
   qa (f104 r role name) fun kn=>
   qa (f36 (!kn) 10) fun e1=>
   qa (cond (decide (role=107)) (qa (f105 name) fun i=>En (!i)) (En E6)) fun b2=>
   qa (f36 b2 8) fun e2=>
   qa (f35 (En [e1,e2])) fun e3=>
   cond (decide (e3=0))
    (qa (Af k r name) fun q=>
    qa (f47 q.1 [32]) fun s=>
    En (cond (decide (s=[])) [110,111,110,101] s,0))
    (En ([],e3))))
  (En ([],26))
theorem j5o {H L:qf}{p k:Nat}{role:Int}{o:ak aj}{r:aw}(hn:ai aB (X aB) 103 [.ptr p 0] H=En (aR r,E6,H++L))(hB:qr H.length H=H3){q}(h:CY r role k o=En q):
  ai aB (X aB) 38 [.ptr p 0,.agg [.int .i32 role,.fn (.func k) [] []],sl 1 jf o] H=En (.aJ [.str q.1,Iv q.2],E6,H):=by
 have wa:qy H.length (aR r) (H++L)=H:=qQ rfl (by simp only[go_sem,seval]) hB;unfold CY at h;by_cases Q:role=0
 .have iO:decide (role=0)=H3:=decide_eq_true Q;have hk:decide (role=107)=E6:=decide_eq_false (by omega);simp only[if_pos Q]at h;rcases qc h with⟨Y,h⟩|⟨Y,h⟩
  .obtain⟨e,I,h⟩:=qb h;have w2:=aF.ae (Py I);rcases qc h with⟨h3,h⟩|⟨h3,h⟩
   .cases h;rw[h3]at w2;rw[qg (show aB.br 38=En hH from rfl) (by simp)];simp only[go_sem,seval,hH,iO,Y,w2,Ha]<;>rfl
   .rw[h3]at w2;obtain⟨name,h4,h⟩:=qb h;obtain⟨kn,h5,h⟩:=qb h;obtain⟨e1,h6,h⟩:=qb h;rw[hk,cond_false,qi]at h;obtain⟨e2,h8,h⟩:=qb h;obtain⟨e3,h9,h⟩:=qb h;have w5:=j0y (H:=H) h5;have vL:qy H.length (.bool kn) H=H:=z9 rfl;have w6:=aF.ae (dE h6);have w8:=aF.ae (dE h8);have w9:ae aB (X aB) 35 [.list E6 1 [Iv e1,Iv e2]]=En (Iv e3,E6):=aF.ae (fY h9);rcases qc h with⟨et,h⟩|⟨et,h⟩
    .obtain⟨a,fK,h⟩:=qb h;obtain⟨s,kG,h⟩:=qb h;have jG:=Zm (H:=H) fK;have nf:qy H.length (sl 1 jf a.1) H=H:=z9 rfl;have vI:=GJ kG;cases h;cases gv:decide (s=[])
     .rw[qg (show aB.br 38=En hH from rfl) (by simp)];simp only[go_sem,seval,hH,iO,Y,w2,hn,wa,jm h4,w5,vL,w6,hk,w8,w9,et,jG,nf,vI,gv,Ha]<;>rfl
     .rw[qg (show aB.br 38=En hH from rfl) (by simp)];simp only[go_sem,seval,hH,iO,Y,w2,hn,wa,jm h4,w5,vL,w6,hk,w8,w9,et,jG,nf,vI,gv,Ha]<;>rfl
    .cases h;rw[qg (show aB.br 38=En hH from rfl) (by simp)];simp only[go_sem,seval,hH,iO,Y,w2,hn,wa,jm h4,w5,vL,w6,hk,w8,w9,et,Ha]<;>rfl
  .cases h;rw[qg (show aB.br 38=En hH from rfl) (by simp)];simp only[go_sem,seval,hH,iO,Y,Ha]<;>rfl
 .have iO:decide (role=0)=E6:=decide_eq_false Q;simp only[if_neg Q]at h;rcases qc h with⟨Y,h⟩|⟨Y,h⟩
  .obtain⟨e,I,h⟩:=qb h;have w2:=aF.ae (Py I);rcases qc h with⟨h3,h⟩|⟨h3,h⟩
   .cases h;rw[h3]at w2;rw[qg (show aB.br 38=En hH from rfl) (by simp)];simp only[go_sem,seval,hH,iO,Y,w2,Ha]<;>rfl
   .rw[h3]at w2;obtain⟨name,h4,h⟩:=qb h;obtain⟨kn,h5,h⟩:=qb h;obtain⟨e1,h6,h⟩:=qb h;have w5:=j0y (H:=H) h5;have vL:qy H.length (.bool kn) H=H:=z9 rfl;have w6:=aF.ae (dE h6)
    cases hk:decide (role=107)with
    |true=>
     rw[hk]at h;obtain⟨b2,h7,h⟩:=qb h;obtain⟨i,h71,h7⟩:=qb h7;obtain⟨e2,h8,h⟩:=qb h;obtain⟨e3,h9,h⟩:=qb h;have hb:=En.inj h7;rw[<-hb]at h8;have w7:=aF.ae (jxw h71);have w8:=aF.ae (dE h8);have w9:ae aB (X aB) 35 [.list E6 1 [Iv e1,Iv e2]]=En (Iv e3,E6):=aF.ae (fY h9);rcases qc h with⟨et,h⟩|⟨et,h⟩
     .obtain⟨a,fK,h⟩:=qb h;obtain⟨s,kG,h⟩:=qb h;have jG:=Zm (H:=H) fK;have nf:qy H.length (sl 1 jf a.1) H=H:=z9 rfl;have vI:=GJ kG;cases h;cases gv:decide (s=[])
      .rw[qg (show aB.br 38=En hH from rfl) (by simp)];simp only[go_sem,seval,hH,iO,Y,w2,hn,wa,jm h4,w5,vL,w6,hk,w7,w8,w9,et,jG,nf,vI,gv,Ha]<;>rfl
      .rw[qg (show aB.br 38=En hH from rfl) (by simp)];simp only[go_sem,seval,hH,iO,Y,w2,hn,wa,jm h4,w5,vL,w6,hk,w7,w8,w9,et,jG,nf,vI,gv,Ha]<;>rfl
     .cases h;rw[qg (show aB.br 38=En hH from rfl) (by simp)];simp only[go_sem,seval,hH,iO,Y,w2,hn,wa,jm h4,w5,vL,w6,hk,w7,w8,w9,et,Ha]<;>rfl
    |false=>
     rw[hk,cond_false,qi]at h;obtain⟨e2,h8,h⟩:=qb h;obtain⟨e3,h9,h⟩:=qb h;have w8:=aF.ae (dE h8);have w9:ae aB (X aB) 35 [.list E6 1 [Iv e1,Iv e2]]=En (Iv e3,E6):=aF.ae (fY h9);rcases qc h with⟨et,h⟩|⟨et,h⟩
     .obtain⟨a,fK,h⟩:=qb h;obtain⟨s,kG,h⟩:=qb h;have jG:=Zm (H:=H) fK;have nf:qy H.length (sl 1 jf a.1) H=H:=z9 rfl;have vI:=GJ kG;cases h;cases gv:decide (s=[])
      .rw[qg (show aB.br 38=En hH from rfl) (by simp)];simp only[go_sem,seval,hH,iO,Y,w2,hn,wa,jm h4,w5,vL,w6,hk,w8,w9,et,jG,nf,vI,gv,Ha]<;>rfl
      .rw[qg (show aB.br 38=En hH from rfl) (by simp)];simp only[go_sem,seval,hH,iO,Y,w2,hn,wa,jm h4,w5,vL,w6,hk,w8,w9,et,jG,nf,vI,gv,Ha]<;>rfl
     .cases h;rw[qg (show aB.br 38=En hH from rfl) (by simp)];simp only[go_sem,seval,hH,iO,Y,w2,hn,wa,jm h4,w5,vL,w6,hk,w8,w9,et,Ha]<;>rfl
  .cases h;rw[qg (show aB.br 38=En hH from rfl) (by simp)];simp only[go_sem,seval,hH,iO,Y,Ha]<;>rfl
end Go.Z
namespace Go.Z
open Go Go.Abs Go.W
abbrev fm:aK:=.map jp
abbrev iT:aK:=.map jd
theorem jtd:∀ f∈fk,Nat.beq f.2.2 0=E6:=by decide
theorem jsr {w:aj}{q}(h:lW w=En q):CW w=.fn (.func q.2.2) [] []/\KZ w=q.2.1/\CX w=H3:=by
 refine⟨?_,?_,?_⟩
 .have hm:=List.mem_of_find?_eq_some (show fk.find? (fun f=>decide (w=f.1))=En q from h);simp only[CW,h,fnv,jtd q hm,cond_false]
 .simp only[KZ,h]
 .simp only[CX,h];rfl
theorem K0 {w:aj}(h:lW w=Ia):CX w=E6:=by simp only[CX,h];rfl
section
variable {H:qf}{p:Nat}{e0 x1 x2:AVal×Bool}{n:Nat}{line:aj}{e1 e2 e3:Int}{l:ak aj}{w:aj}
theorem jwd (k1:f36 (decide (4096<(line.length:Int))) 27=En e1)(k2:f36 (decide (line=[])) 26=En e2)(k3:f35 (En [e1,e2])=En e3)(h3:decide (e3=0)=E6):
  ai aB (X aB) 10 [.ptr p 0,.str line] H=En (.aJ [.str [],Iv e3],E6,H):=by
 have w1:=aF.ae (dE k1);have w2:=aF.ae (dE k2);have w3:ae aB (X aB) 35 [.list E6 1 [Iv e1,Iv e2]]=En (Iv e3,E6):=aF.ae (fY k3);rw[qg (show aB.br 10=En oC from rfl) (by simp)];simp only[go_sem,seval,oC,w1,w2,w3,h3,Ha]<;>rfl
section
variable (k1:f36 (decide (4096<(line.length:Int))) 27=En e1)(k2:f36 (decide (line=[])) 26=En e2)(k3:f35 (En [e1,e2])=En e3)(h3:decide (e3=0)=H3)(k4:f19 line [32]=En l)(k5:qm (l.getD []) 0=En w)
include k1 k2 k3 h3 k4 k5
theorem jsf {q r L a}(kq:lW w=En q)(hn:ai aB (X aB) 103 [.ptr p 0] (H++[fm])=En (aR r,E6,(H++[fm])++L))(hB:qr (H++[fm]).length (H++[fm])=H3)(ka:CY r q.2.1 q.2.2 l=En a):
  ai aB (X aB) 10 [.ptr p 0,.str line] H=En (.aJ [.str a.1,Iv a.2],E6,H++[fm]):=by
 have w1:=aF.ae (dE k1);have w2:=aF.ae (dE k2);have w3:ae aB (X aB) 35 [.list E6 1 [Iv e1,Iv e2]]=En (Iv e3,E6):=aF.ae (fY k3);have w4:=zO k4;obtain⟨q1,q2,q3⟩:=jsr kq;have wk:=j5o hn hB ka;have wa:qy (H++[fm]).length (.aJ [.str a.1,Iv a.2]) (H++[fm])=H++[fm]:=z9 rfl;rw[qg (show aB.br 10=En oC from rfl) (by simp)];simp only[go_sem,seval,oC,w1,w2,w3,h3,w4,jm k5,Hg,q1,q2,q3,yx,oA,iF,nM,gF,gG,H8,Il,Ig,decide_false,decide_true,Ij,wk,wa,Ha]<;>rfl
theorem jr8 (kq:lW w=Ia)(kf:mC w=E6):ai aB (X aB) 10 [.ptr p 0,.str line] H=En (.aJ [.str [],Iv 13],E6,H++[fm,iT]):=by
 have w1:=aF.ae (dE k1);have w2:=aF.ae (dE k2);have w3:ae aB (X aB) 35 [.list E6 1 [Iv e1,Iv e2]]=En (Iv e3,E6):=aF.ae (fY k3);have w4:=zO k4;have q3:=K0 kq;rw[qg (show aB.br 10=En oC from rfl) (by simp)];simp only[go_sem,seval,oC,w1,w2,w3,h3,w4,jm k5,Hg,q3,tn,kf,yx,oA,iF,nM,gF,gG,H8,Il,Ig,decide_false,decide_true,Ij,Hb,Hc,Ha]<;>rfl
section
variable (hp:qw H p=En [e0,x1,x2])(hl:∀h,vb 1 h (En e0.1)=En ⟨Iv (n:Int),E6,Ia,h⟩)(kq:lW w=Ia)(kf:mC w=H3){x:GEv×Bool}(k6:f40 l (qd .i64 ((n:Int)+1))=En x){e4 e5 e6:Int}
  (k7:f36 (!x.2) 26=En e4) (k8:f36 (decide (1000<=(n:Int))) 5=En e5) (k9:f35 (En [e4,e5])=En e6)
include hp hl kq kf k6 k7 k8 k9
theorem jon (h6:decide (e6=0)=E6):ai aB (X aB) 10 [.ptr p 0,.str line] H=En (.aJ [.str [],Iv e6],E6,H++[fm,iT]):=by
 have w1:=aF.ae (dE k1);have w2:=aF.ae (dE k2);have w3:ae aB (X aB) 35 [.list E6 1 [Iv e1,Iv e2]]=En (Iv e3,E6):=aF.ae (fY k3);have w4:=zO k4;have q3:=K0 kq;have w6:=KE k6;have w7:=aF.ae (dE k7);have w8:=aF.ae (dE k8);have w9:ae aB (X aB) 35 [.list E6 1 [Iv e4,Iv e5]]=En (Iv e6,E6):=aF.ae (fY k9);have g0:=CL hp;have bg:=Ad hp
 have dW:p<H.length+2:=by omega
 rw[qg (show aB.br 10=En oC from rfl) (by simp)];simp only[go_sem,seval,oC,w1,w2,w3,h3,w4,jm k5,Hg,q3,tn,kf,yx,oA,iF,nM,gF,gG,H8,Il,Ig,decide_false,decide_true,Ij,Hb,Hc,Ha,g0,dW,hl,w6,w7,w8,w9,h6]<;>rfl
section
variable (h6:decide (e6=0)=H3){c:Int}(Ag:f41 x.1=En c)
include h6 Ag
theorem jl4 (hc:decide (c=0)=E6):ai aB (X aB) 10 [.ptr p 0,.str line] H=En (.aJ [.str [],Iv c],E6,H++[fm,iT]):=by
 have w1:=aF.ae (dE k1);have w2:=aF.ae (dE k2);have w3:ae aB (X aB) 35 [.list E6 1 [Iv e1,Iv e2]]=En (Iv e3,E6):=aF.ae (fY k3);have w4:=zO k4;have q3:=K0 kq;have w6:=KE k6;have w7:=aF.ae (dE k7);have w8:=aF.ae (dE k8);have w9:ae aB (X aB) 35 [.list E6 1 [Iv e4,Iv e5]]=En (Iv e6,E6):=aF.ae (fY k9);have K1:ae aB (X aB) 41 [aE x.1]=En (Iv c,E6):=aF.ae (KD Ag);have g0:=CL hp;have bg:=Ad hp
 have dW:p<H.length+2:=by omega
 rw[qg (show aB.br 10=En oC from rfl) (by simp)];simp only[go_sem,seval,oC,w1,w2,w3,h3,w4,jm k5,Hg,q3,tn,kf,yx,oA,iF,nM,gF,gG,H8,Il,Ig,decide_false,decide_true,Ij,Hb,Hc,Ha,g0,dW,hl,w6,w7,w8,w9,h6,K1,hc]<;>rfl
section
variable (hc:decide (c=0)=H3){q:Int}{hh H2:qf}(ka:ai aB (X aB) 42 [.ptr p 0,aE x.1] (H++[fm,iT])=En (Iv q,E6,hh))(kw:qy (H.length+2) (Iv q) hh=H2)
include hc ka kw
theorem jy4 (hq:decide (q=0)=E6):ai aB (X aB) 10 [.ptr p 0,.str line] H=En (.aJ [.str [],Iv q],E6,H2):=by
 have w1:=aF.ae (dE k1);have w2:=aF.ae (dE k2);have w3:ae aB (X aB) 35 [.list E6 1 [Iv e1,Iv e2]]=En (Iv e3,E6):=aF.ae (fY k3);have w4:=zO k4;have q3:=K0 kq;have w6:=KE k6;have w7:=aF.ae (dE k7);have w8:=aF.ae (dE k8);have w9:ae aB (X aB) 35 [.list E6 1 [Iv e4,Iv e5]]=En (Iv e6,E6):=aF.ae (fY k9);have K1:ae aB (X aB) 41 [aE x.1]=En (Iv c,E6):=aF.ae (KD Ag);have g0:=CL hp;have bg:=Ad hp
 have dW:p<H.length+2:=by omega
 rw[qg (show aB.br 10=En oC from rfl) (by simp)];simp only[go_sem,seval,oC,w1,w2,w3,h3,w4,jm k5,Hg,q3,tn,kf,yx,oA,iF,nM,gF,gG,H8,Il,Ig,decide_false,decide_true,Ij,Hb,Hc,Ha,g0,dW,hl,w6,w7,w8,w9,h6,K1,hc,ka,kw,hq]<;>rfl
theorem jt0 (hq:decide (q=0)=H3){s t:aj}(Zn:f43 x.1.number=En s)(Zo:gZ ([100,111,110,101,32]:aj) s=En t):ai aB (X aB) 10 [.ptr p 0,.str line] H=En (.aJ [.str t,Iv 0],E6,H2):=by
 have w1:=aF.ae (dE k1);have w2:=aF.ae (dE k2);have w3:ae aB (X aB) 35 [.list E6 1 [Iv e1,Iv e2]]=En (Iv e3,E6):=aF.ae (fY k3);have w4:=zO k4;have q3:=K0 kq;have w6:=KE k6;have w7:=aF.ae (dE k7);have w8:=aF.ae (dE k8);have w9:ae aB (X aB) 35 [.list E6 1 [Iv e4,Iv e5]]=En (Iv e6,E6):=aF.ae (fY k9);have K1:ae aB (X aB) 41 [aE x.1]=En (Iv c,E6):=aF.ae (KD Ag);have jG:=Kz Zn;have g0:=CL hp;have bg:=Ad hp
 have dW:p<H.length+2:=by omega
 rw[qg (show aB.br 10=En oC from rfl) (by simp)];simp only[go_sem,seval,oC,w1,w2,w3,h3,w4,jm k5,Hg,q3,tn,kf,yx,oA,iF,nM,gF,gG,H8,Il,Ig,decide_false,decide_true,Ij,Hb,Hc,Ha,g0,dW,hl,w6,w7,w8,w9,h6,K1,hc,ka,kw,hq,jG,ym Zo]<;>rfl
end
end
end
end
end
end Go.Z
namespace Go.Z
open Go Go.Abs Go.W
theorem Hh {b n m:Nat}(h:n<=m)(hb:Nat.blt b n=H3):Nat.blt b m=H3:=I1.mpr (Nat.lt_of_lt_of_le (I1.mp hb) h)
mutual
theorem Hj {n m:Nat}(h:n<=m):∀x,Abs.below n x=H3->Abs.below m x=H3
 | .ms ..,hb=>by simp only[Abs.below]at hb ⊢;exact Hh h hb
 | .ptr ..,hb=>by simp only[Abs.below]at hb ⊢;exact Hh h hb
 | .map ..,hb=>by simp only[Abs.below]at hb ⊢;exact Hh h hb
 | .ay ..,hb=>by simp only[Abs.below]at hb ⊢;exact Hh h hb
 | .dT ..,hb=>by simp only[Abs.below]at hb ⊢;exact Hh h hb
 | .aq v,hb=>by simp only[Abs.below]at hb ⊢;exact Hj h v hb
 | .list _ _ xs,hb=>by simp only[Abs.below]at hb ⊢;exact Hk h xs hb
 | .agg cs,hb=>by simp only[Abs.below]at hb ⊢;exact Hk h cs hb
 | .aJ vs,hb=>by simp only[Abs.below]at hb ⊢;exact Hk h vs hb
 | .fn f fs cs,hb=>by
  have Y:=Hk h fs;have I:=Hk h cs
  cases f<;>simp only[Abs.below,H9]at hb ⊢<;>first|exact⟨⟨Hh h hb.1.1,Y hb.1.2⟩,I hb.2⟩|exact⟨Y hb.1,I hb.2⟩
 | .bool _,_=>rfl| .int _ _,_=>rfl| .str _,_=>rfl| .b6,_=>rfl| .b8,_=>rfl| .cu,_=>rfl| .undef,_=>rfl| .any,_=>rfl| .cW _,_=>rfl
theorem Hk {n m:Nat}(h:n<=m):∀xs,qo n xs=H3->qo m xs=H3
 | [],_=>rfl
 |x::xs,hb=>by
  simp only[qo,H9]at hb ⊢;exact⟨Hj h x hb.1,Hk h xs hb.2⟩
end
theorem qmz {n m:Nat}(h:n<=m):∀ {cs},zw n cs=H3->zw m cs=H3
 | [],_=>rfl
 |(v,_)::cs,hb=>by
  simp only[zw,H9]at hb ⊢;exact⟨Hj h v hb.1,qmz h hb.2⟩
theorem qkx {n m:Nat}(h:n<=m):∀ {cs},kr n cs=H3->kr m cs=H3
 | [],_=>rfl
 |(k,v)::cs,hb=>by
  simp only[kr,H9]at hb ⊢;exact⟨⟨Hj h k hb.1.1,Hj h v hb.1.2⟩,qkx h hb.2⟩
theorem qr6 {n m:Nat}(h:n<=m):∀ {cs},mF n cs=H3->mF m cs=H3
 | [],_=>rfl
 |(_,v,_)::cs,hb=>by
  simp only[mF,H9]at hb ⊢;exact⟨Hj h v hb.1,qr6 h hb.2⟩
theorem q47 {n m:Nat}(h:n<=m):∀ {x},zn n x=H3->zn m x=H3
 | .hole,_=>rfl| .cells cs,hb=>qmz h hb| .map es,hb=>qkx h hb| .iter _ _,_=>rfl| .fZ ..,_=>rfl| .dead,_=>rfl| .vec ..,_=>rfl| .loop l,hb=>qr6 h hb
theorem K3 {n m:Nat}(h:n<=m):∀ {H},qr n H=H3->qr m H=H3
 | [],_=>rfl
 |x::H,hb=>by
  simp only[qr,H9]at hb ⊢;exact⟨q47 h hb.1,K3 h hb.2⟩
theorem Zp {n:Nat}:∀ {H L:qf},qr n (H++L)=(qr n H&&qr n L)
 | [],L=>by simp[qr]
 |x::H,L=>by simp only[List.cons_append,qr,Zp (H:=H),Bool.and_assoc]
theorem grown {H L:qf}(hB:qr H.length H=H3)(hL:qr (H++L).length L=H3):qr (H++L).length (H++L)=H3:=by
 rw[Zp,hL,I5];exact K3 (by rw[Hb];omega) hB
theorem Hl {H:qf}{i:Nat}{x:aK}(h:H[i]?=En x):H.set i x=H:=by
 obtain⟨Y,I⟩:=Iq.1 h;rw[<-I];exact List.set_getElem_self Y
structure jH (H:qf)(p a b c:Nat)(s:HV):Prop where
 d:D4 H p a b c
 hp:H[p]?=En (kV s a b c)
 ha:H[a]?=En (.vec 5 s.ve (s.ev.map vev))
 hb:H[b]?=En (.vec 5 s.vc (s.cs.map vev))
 hc:H[c]?=En (.vec 4 s.vs (s.ss.map z6))
 lX:qr H.length H=H3
structure fC (H:qf)(p c:Nat):Prop where
 d:D2 H p c
 hp:H[p]?=En (kP c)
 hc:H[c]?=En (.vec 4 0 [aZ])
 lX:qr H.length H=H3
section
variable {H L:qf}{p a b c:Nat}{s:HV}
theorem jH.eq (S:jH H p a b c s):sH H p a b c s=H:=by
 show(((H.set p _).set a _).set b _).set c _=H;rw[Hl S.hp,Hl S.ha,Hl S.hb,Hl S.hc]
theorem fC.eq (S:fC H p c):rX H p c=H:=by
 show(H.set p _).set c _=H;rw[Hl S.hp,Hl S.hc]
theorem D4.app (D:D4 H p a b c)(L:qf):D4 (H++L) p a b c:=by
 obtain⟨Y,I,h3,h4,h5,h6,h7,h8,h9,et⟩:=D
 constructor<;>first|assumption|(rw[Hb];omega)
theorem D2.app (D:D2 H p c)(L:qf):D2 (H++L) p c:=by
 obtain⟨Y,I,h3⟩:=D
 constructor<;>first|assumption|(rw[Hb];omega)
theorem jH.app (S:jH H p a b c s)(hL:qr (H++L).length L=H3):jH (H++L) p a b c s:=
 ⟨S.d.app L,oz S.hp L,oz S.ha L,oz S.hb L,oz S.hc L,grown S.lX hL⟩
theorem fC.app (S:fC H p c)(hL:qr (H++L).length L=H3):fC (H++L) p c:=
 ⟨S.d.app L,oz S.hp L,oz S.hc L,grown S.lX hL⟩
theorem jrs (D:D4 H p a b c){P A B C:aK}:cL (H++L) p a b c P A B C=cL H p a b c P A B C++L:=by
 unfold cL;rw[H4 _ _ D.lp,H4 _ _ (by rw[Ix];exact D.la),H4 _ _ (by simp only[Ix];exact D.lb),H4 _ _ (by simp only[Ix];exact D.lc)]
theorem K4 {P A B C:aK}:(cL H p a b c P A B C).length=H.length:=oB
theorem jH.hZ (D:D4 H p a b c)(hB:qr H.length H=H3):jH (sH H p a b c s) p a b c s:=by
 refine⟨?_,xn D,j1x D,Za D,Zb D,?_⟩
 .obtain⟨Y,I,h3,h4,h5,h6,h7,h8,h9,et⟩:=D
  constructor<;>first|assumption|(rw[K4];assumption)
 .rw[K4];exact KQ hB (G9 D.la D.lb D.lc) rfl rfl rfl
theorem jH.first (D:D2 H p c)(hB:qr H.length H=H3):jH (rY H p c s) p (H.length+2) H.length c s:=by
 have hlen:(rY H p c s).length=H.length+3:=by simp[rY,Hb,qR]
 refine⟨?_,jkd D _,?_,?_,jj7 D _,?_⟩
 .have Y:=D.lp;have I:=D.lc;have h3:=D.pc
  constructor<;>first|exact h3|(rw[hlen];omega)|omega
 .exact CT _ 2
 .exact KU _
 .rw[hlen];show qr (H.length+3) (dV H p c _ _++_)=H3;rw[Zp];have I:=D.lc;have hk:zn (H.length+3) (kV s (H.length+2) H.length c)=H3:=G9 (by omega) (by omega) (by omega);rw[jh8 (K3 (by omega) hB) hk rfl];rfl
end
structure SS where
 H:qf
 p:Nat
 a:Nat
 b:Nat
 c:Nat
 v:Option HV
def SS.ok (S:SS):Prop:=match S.v with
 |none=>fC S.H S.p S.c|some s=>jH S.H S.p S.a S.b S.c s
def SS.next (S:SS)(o:Option HV):SS:=match S.v,o with
 |some _,En s=>{ S with H:=sH S.H S.p S.a S.b S.c s,v:=En s }|none,En s=>{ H:=rY (S.H++[fm,iT]) S.p S.c s,p:=S.p,a:=S.H.length+4,b:=S.H.length+2,c:=S.c,v:=En s }|_,Ia=>S
def hJ:Option HV->List GEv
 |none=>[]|some s=>s.ev
def vM (o:Option HV)(line:aj):Option (aj×Int×Option HV):=
 qa (f36 (decide (4096<(line.length:Int))) 27) fun e1=>
 qa (f36 (decide (line=[])) 26) fun e2=>
 qa (f35 (En [e1,e2])) fun e3=>
 cond (decide (e3=0))
  (qa (f19 line [32]) fun l=>
  qa (qm (l.getD []) 0) fun w=>
  match lW w with
  |some q=>qa (OO o) fun r=>qa (CY r q.2.1 q.2.2 l) fun a=>En (a.1,a.2,o)
  |none=>cond (mC w)
    (qa (f40 l (qd .i64 (((hJ o).length:Int)+1))) fun x=>
    qa (f36 (!x.2) 26) fun e4=>
    qa (f36 (decide (1000<=((hJ o).length:Int))) 5) fun e5=>
    qa (f35 (En [e4,e5])) fun e6=>
    cond (decide (e6=0))
     (qa (f41 x.1) fun c=>
     cond (decide (c=0))
      (qa (tA o x.1) fun q=>
      cond (decide (q.1=0))
       (qa (f43 x.1.number) fun s=>
       qa (gZ ([100,111,110,101,32]:aj) s) fun t=>En (t,0,q.2))
       (En ([],q.1,q.2)))
      (En ([],c,o)))
     (En ([],e6,o)))
    (En ([],13,o)))
  (En ([],e3,o))
theorem Zq {n:Nat}:qr n [fm,iT]=H3:=by
 refine K3 (Nat.zero_le n) ?_;rfl
theorem jet {n:Nat}:qr n [fm]=H3:=by
 refine K3 (Nat.zero_le n) ?_;rfl
end Go.Z
end
