/- Chapter 10. -/
import Derived.Test.YtfopaakmgogpiaaGreatDoorW10
import Derived.Test.YtfopaakmgogpiaaGreatDoorW15
set_option maxRecDepth 100000
set_option maxHeartbeats 4000000
noncomputable section
open Bool renaming false→I,cond_eq_ite→E1
open Nat renaming eq_of_beq_eq_true→En,beq→E3
open Option renaming some→E2,none→E4
namespace Go.Z
open Go Go.Abs Go.W
def f117 (a1:qm)(aO:Int)(aK:Option (List qj))(aI:Option (List qi))(az:Option (List qe)):Option (Int×(Option (List qe))):=
 jx (zp (a1.names.getD []) 0) fun v1=>
 jx (f93 (⟨aO,aK,aI,az⟩) v1) fun v3=>
 jx (zp (az.getD []) v3) fun v5=>
 jx (f75 (⟨aO,aK,aI,az⟩) v5) fun v7=>
 cond (decide (v7=0))
  (jx (Vm az v3) fun v10=>
  E2 (0,v10))
  (E2 (v7,az))
theorem zbf {a1:qm}{aO:Int}{aK:Option (List qj)}{aI:Option (List qi)}{az:Option (List qe)}{x1:qn}{x2:qn}{x3:qn}{r}(h:f117 a1 aO aK aI az=E2 r):zg pr (X pr) 117 [.ptr 0 0,aE a1] [kR aO aK aI az,x1,x2,x3]=E2 (Iv r.1,I,[kR aO aK aI r.2,x1,x2,x3]):=by
 unfold f117 at h
 rw[zh (show pr.bL 117=E2 rZ from rfl) (by simp)]
 repeat' first|(replace h:=jy h;obtain⟨d,g,h⟩:=h;with_reducible first|replace g:=xS g|replace g:=W75 g|replace g:=jds g|skip)|(replace h:=j6 h;rcases h with⟨g,h⟩|⟨g,h⟩)|fail
 all_goals (cases h<;>(simp only[go_sem,seval,rZ,zn, *]<;>rfl))
end Go.Z
namespace Go.Z
open Go Go.Abs Go.W
def Ax (a0:qc)(a1:qm):Option (Option (Nat)⊕(Nat⊕Nat)):=
 cond (decide (0<(yt a1.kind).length))
  (cond (decide (((zf (yt a1.kind) 0).1:Int)=45))
   (E2 (.inl (E2 (0+(zf (yt a1.kind) 0).2))))
   (jx (zp (a1.names.getD []) (0:Int)) fun pg=>
   jx (f202 a0 ((zf (yt a1.kind) 0).1:Int) pg) fun xQ=>
   cond xQ
    (E2 (.inl (E2 (0+(zf (yt a1.kind) 0).2))))
    (E2 (.inr (.inl (0+(zf (yt a1.kind) 0).2))))))
  (E2 (.inr (.inr 0)))
def vE (a0:qc)(a1:qm)(s0:Nat):Option (Option (Nat)⊕(Nat⊕Nat)):=
 cond (decide (s0<(yt a1.kind).length))
  (cond (decide (((zf (yt a1.kind) s0).1:Int)=45))
   (E2 (.inl (E2 (s0+(zf (yt a1.kind) s0).2))))
   (jx (zp (a1.names.getD []) (s0:Int)) fun xR=>
   jx (f202 a0 ((zf (yt a1.kind) s0).1:Int) xR) fun rX=>
   cond rX
    (E2 (.inl (E2 (s0+(zf (yt a1.kind) s0).2))))
    (E2 (.inr (.inl (s0+(zf (yt a1.kind) s0).2))))))
  (E2 (.inr (.inr s0)))
def DX (a0:qc)(a1:qm):Option (Nat)→Option (Option (Nat)⊕(Nat⊕Nat))
 |none=>Ax a0 a1
 |some x=>vE a0 a1 x
def H4 (a0:qc)(a1:qm)(s0:Nat):qg:=⟨[(2,.ptr 0 0,I),(3,.ah (aE a1),I),(4,.ptr 1 0,I),(6,.ah (.agg [.str (yt a1.kind),Iv (mP a1.kind),lz a1.kind]),I),(24,.ptr 3 0,I),(41,.bool I,I)],[.cells [(Iv a0.day,I),(sl 5 z8 a0.au,I),(sl 4 zt a0.ae,I),(sl 8 bh a0.units,I)],kZ,.map ya,.iter (yt a1.kind) s0]⟩
def xT (a0:qc)(a1:qm):Option (Nat)→qg
 |none=>⟨[(2,.ptr 0 0,I),(3,.ah (aE a1),I),(4,.ptr 1 0,I),(6,.ah (.agg [.str (yt a1.kind),Iv (mP a1.kind),lz a1.kind]),I),(24,.ptr 3 0,I)],[.cells [(Iv a0.day,I),(sl 5 z8 a0.au,I),(sl 4 zt a0.ae,I),(sl 8 bh a0.units,I)],kZ,.map ya,.iter (yt a1.kind) 0]⟩
 |some x=>H4 a0 a1 x
def xU (a0:qc)(a1:qm):Nat⊕Nat→qo×qg
 | .inl d=>(.ret,⟨[(4,.ptr 1 0,I),(5,Iv 10,I)],[.cells [(Iv a0.day,I),(sl 5 z8 a0.au,I),(sl 4 zt a0.ae,I),(sl 8 bh a0.units,I)],kZ,.map ya,.iter (yt a1.kind) d]⟩)
 | .inr d=>(.exit 0,⟨[(2,.ptr 0 0,I),(3,.ah (aE a1),I),(4,.ptr 1 0,I),(6,.ah (.agg [.str (yt a1.kind),Iv (mP a1.kind),lz a1.kind]),I),(24,.ptr 3 0,I),(25,.aC [.bool I],I),(26,.bool I,I)],[.cells [(Iv a0.day,I),(sl 5 z8 a0.au,I),(sl 4 zt a0.ae,I),(sl 8 bh a0.units,I)],kZ,.map ya,.iter (yt a1.kind) d]⟩)
theorem jln (a0:qc)(a1:qm)(r)(h:Ax a0 a1=E2 r):yo pr sd (xT a0 a1) (xU a0 a1) E4 r:=by
 unfold Ax at h
 repeat' first|(replace h:=jy h;obtain⟨d,g,h⟩:=h;with_reducible first|replace g:=jpz g|skip)|(replace h:=j6 h;rcases h with⟨g,h⟩|⟨g,h⟩)|fail
 all_goals (cases h<;>(first|(refine zy ?_;simp only[go_sem,seval,sd,xT,H4,xe,zn,xU, *]<;>rfl)|(refine yh ?_;simp only[go_sem,seval,sd,xT,H4,xe,zn,xU, *]<;>rfl)))
theorem jma (a0:qc)(a1:qm)(s0:Nat)(r)(h:vE a0 a1 s0=E2 r):yo pr sd (xT a0 a1) (xU a0 a1) (E2 s0) r:=by
 unfold vE at h
 repeat' first|(replace h:=jy h;obtain⟨d,g,h⟩:=h;with_reducible first|replace g:=jpz g|skip)|(replace h:=j6 h;rcases h with⟨g,h⟩|⟨g,h⟩)|fail
 all_goals (cases h<;>(first|(refine zy ?_;simp only[go_sem,seval,sd,xT,H4,xe,zn,xU, *]<;>rfl)|(refine yh ?_;simp only[go_sem,seval,sd,xT,H4,xe,zn,xU, *]<;>rfl)))
theorem jtg (a0:qc)(a1:qm):∀(x:Option (Nat)) (r) (h:DX a0 a1 x=E2 r),yo pr sd (xT a0 a1) (xU a0 a1) x r
 |none,r,h=>jln a0 a1 r h
 |some x,r,h=>jma a0 a1 x r h
theorem jbb (a0:qc)(a1:qm){s0:Option (Nat)}{d}(h:bf (DX a0 a1) s0=E2 d):X pr (.loop sd) (xT a0 a1 s0)=E2 (xU a0 a1 d):=yz (jtg a0 a1) (fun d=>by rcases d with d|d<;>(intro hh;cases hh)) h
def eL (k:Nat)(a0:qc)(a1:qm):Option (Int×qc):=
 bif E3 k 105 then jx (f105 a1 a0.day a0.au a0.ae a0.units) fun v=>E2 (v.1,{ a0 with au:=v.2.1 })else
 bif E3 k 106 then jx (f106 a1 a0.day a0.au a0.ae a0.units) fun v=>E2 (v.1,{ a0 with ae:=v.2.1 })else
 bif E3 k 107 then jx (f107 a1 a0.day a0.au a0.ae a0.units) fun v=>E2 (v.1,{ a0 with ae:=v.2 })else
 bif E3 k 108 then jx (f108 a1 a0.day a0.au a0.ae a0.units) fun v=>E2 (v.1,{ a0 with ae:=v.2 })else
 bif E3 k 109 then jx (f109 a1 a0.day a0.au a0.ae a0.units) fun v=>E2 (v.1,{ a0 with ae:=v.2 })else
 bif E3 k 110 then jx (f110 a1 a0.day a0.au a0.ae a0.units) fun v=>E2 (v.1,{ a0 with units:=v.2.1 })else
 bif E3 k 112 then jx (f112 a1 a0.day a0.au a0.ae a0.units) fun v=>E2 (v.1,{ a0 with units:=v.2 })else
 bif E3 k 113 then jx (f113 a1 a0.day a0.au a0.ae a0.units) fun v=>E2 (v.1,{ a0 with units:=v.2 })else
 bif E3 k 114 then jx (f114 a1 a0.day a0.au a0.ae a0.units) fun v=>E2 (v.1,{ a0 with units:=v.2 })else
 bif E3 k 115 then jx (f115 a1 a0.day a0.au a0.ae a0.units) fun v=>E2 (v.1,{ a0 with au:=v.2 })else
 bif E3 k 116 then jx (f116 a1 a0.day a0.au a0.ae a0.units) fun v=>E2 (v.1,{ a0 with au:=v.2 })else
 bif E3 k 117 then jx (f117 a1 a0.day a0.au a0.ae a0.units) fun v=>E2 (v.1,{ a0 with units:=v.2 })else
 bif E3 k 118 then jx (f118 a1 a0.day a0.au a0.ae a0.units) fun v=>E2 (v.1,{ a0 with units:=v.2 })else
 bif E3 k 111 then jx (f111 a1 a0.day a0.au a0.ae a0.units) fun v=>E2 (v.1,{ a0 with au:=v.2.1,units:=v.2.2 })else E4
theorem jgd {k:Nat}{a0:qc}{a1:qm}{x1 x2 x3:qn}{v}(h:eL k a0 a1=E2 v):
  (∃w1 w2 w3:Bool,zg pr (X pr) k [.ptr 0 0,aE a1] [.cells [(Iv a0.day,I),(sl 5 z8 a0.au,I),(sl 4 zt a0.ae,I),(sl 8 bh a0.units,I)],x1,x2,x3]=E2 (Iv v.1,I,[.cells [(Iv v.2.day,I),(sl 5 z8 v.2.au,w1),(sl 4 zt v.2.ae,w2),(sl 8 bh v.2.units,w3)],x1,x2,x3])∧v.2.day=a0.day) ∨
  (v.1=0∧v.2.day=a0.day∧∃(n:Nat) (b:qn) (cs:List (qa×Bool)),zg pr (X pr) k [.ptr 0 0,aE a1] [.cells [(Iv a0.day,I),(sl 5 z8 a0.au,I),(sl 4 zt a0.ae,I),(sl 8 bh a0.units,I)],x1,x2,x3]=E2 (Iv 0,I,[.cells [(Iv v.2.day,I),(sl 5 z8 v.2.au,I),(sl 4 zt v.2.ae,I),(.ms 5 0 n,I)],x1,x2,x3,b,.cells cs])∧cs.map (·.1)=yu bh (v.2.units.getD [])∧n=(v.2.units.getD []).length∧0<n∧v.2.units.isSome=true):=by
 unfold eL at h
 rw[E1]at h
 split at h
 ·rename_i hk
  rw[En hk]
  obtain⟨y,hy,h⟩:=jy h
  cases h
  exact .inl ⟨y.2.2,I,I,zat hy,rfl⟩
 rw[E1]at h
 split at h
 ·rename_i hk
  rw[En hk]
  obtain⟨y,hy,h⟩:=jy h
  cases h
  exact .inl ⟨I,y.2.2,I,zcn hy,rfl⟩
 rw[E1]at h
 split at h
 ·rename_i hk
  rw[En hk]
  obtain⟨y,hy,h⟩:=jy h
  cases h
  exact .inl ⟨I,I,I,za4 hy,rfl⟩
 rw[E1]at h
 split at h
 ·rename_i hk
  rw[En hk]
  obtain⟨y,hy,h⟩:=jy h
  cases h
  exact .inl ⟨I,I,I,zdk hy,rfl⟩
 rw[E1]at h
 split at h
 ·rename_i hk
  rw[En hk]
  obtain⟨y,hy,h⟩:=jy h
  cases h
  exact .inl ⟨I,I,I,j9s hy,rfl⟩
 rw[E1]at h
 split at h
 ·rename_i hk
  rw[En hk]
  obtain⟨y,hy,h⟩:=jy h
  cases h
  exact .inl ⟨I,I,y.2.2,zhv hy,rfl⟩
 rw[E1]at h
 split at h
 ·rename_i hk
  rw[En hk]
  obtain⟨y,hy,h⟩:=jy h
  cases h
  exact .inl ⟨I,I,I,j9q hy,rfl⟩
 rw[E1]at h
 split at h
 ·rename_i hk
  rw[En hk]
  obtain⟨y,hy,h⟩:=jy h
  cases h
  exact .inl ⟨I,I,I,zc2 hy,rfl⟩
 rw[E1]at h
 split at h
 ·rename_i hk
  rw[En hk]
  obtain⟨y,hy,h⟩:=jy h
  cases h
  exact .inl ⟨I,I,I,ze1 hy,rfl⟩
 rw[E1]at h
 split at h
 ·rename_i hk
  rw[En hk]
  obtain⟨y,hy,h⟩:=jy h
  cases h
  exact .inl ⟨I,I,I,zcr hy,rfl⟩
 rw[E1]at h
 split at h
 ·rename_i hk
  rw[En hk]
  obtain⟨y,hy,h⟩:=jy h
  cases h
  exact .inl ⟨I,I,I,zaz hy,rfl⟩
 rw[E1]at h
 split at h
 ·rename_i hk
  rw[En hk]
  obtain⟨y,hy,h⟩:=jy h
  cases h
  exact .inl ⟨I,I,I,zbf hy,rfl⟩
 rw[E1]at h
 split at h
 ·rename_i hk
  rw[En hk]
  obtain⟨y,hy,h⟩:=jy h
  cases h
  exact .inl ⟨I,I,I,zav hy,rfl⟩
 rw[E1]at h
 split at h
 ·rename_i hk
  rw[En hk]
  obtain⟨y,hy,h⟩:=jy h
  cases h
  rcases zhh (x1:=x1) (x2:=x2) (x3:=x3) hy with⟨h1,h2,h3⟩|⟨h1,n,b,cs,h2,h3,h4,h5⟩
  ·refine .inl ⟨I,I,I,?_,rfl⟩
   rcases y with⟨y1,y2⟩
   cases h2
   exact h3
  ·refine .inr ⟨h1,rfl,n,b,cs,h2,h3,h4,h5,?_⟩
   show y.2.2.isSome=true
   cases hu:y.2.2 with
   |some _=>rfl
   |none=>rw[hu]at h4;simp at h4;omega
 ·cases h
def G3 (x:List UInt8):Nat:=match od x with
 |some f=>f.2.2.2
 |none=>0
theorem jf0 (x:List UInt8):lz x=fnv (G3 x):=by
 unfold lz G3
 cases od x<;>rfl
theorem jh6 {k:Nat}{a0:qc}{a1:qm}{v}(h:eL k a0 a1=E2 v):fnv k=.fn (.func k) [] []:=by
 cases hk:E3 k 0 with
 |false=>simp only[fnv,hk,cond_false]
 |true=>rw[En hk]at h;cases h
def f121 (a0:qc)(a1:qm):Option (qc×Int):=
 jx (zp (a1.values.getD []) 0) fun v1=>
 cond (decide (v1<a0.day))
  (E2 (⟨0,E4,E4,E4⟩,20))
  (jx (bf (DX a0 a1) E4) fun d48=>match d48 with
   | .inl d50=>
    E2 (⟨0,E4,E4,E4⟩,10)
   | .inr d51=>
    jx (eL (G3 a1.kind) a0 a1) fun v=>
    cond (decide (v.1=0))
     (E2 ({ v.2 with day:=v1 },0))
     (E2 (⟨0,E4,E4,E4⟩,v.1)))
theorem juf {a0:qc}{a1:qm}{r}(h:f121 a0 a1=E2 r):jz pr (X pr) 121 [aR a0,aE a1]=E2 (.aC [aR r.1,Iv r.2],I):=by
 unfold f121 at h
 obtain⟨v1,h2,h⟩:=jy h
 rcases j6 h with⟨h3,h⟩|⟨h3,h⟩
 ·have hr:(⟨0,E4,E4,E4⟩,20)=r:=E2.inj h
  subst hr
  have this:∃hh,zg pr (X pr) 121 [aR a0,aE a1] []=E2 (.aC [aZ,Iv 20],I,hh):=by
   rw[zh (show pr.bL 121=E2 gm from rfl) (by simp)]
   simp only[go_sem,seval,gm,ko h2,h3]
   exact⟨_,rfl⟩
  obtain⟨hh,this⟩:=this
  exact ky rfl this (by first|rfl|simp only[go_sem,seval]) (by first|rfl|simp only[go_sem,seval])
 ·obtain⟨d48,NV,h⟩:=jy h
  rcases d48 with d50|d51
  ·have oA:X pr (.loop sd) ⟨[(2,.ptr 0 0,I),(3,.ah (aE a1),I),(4,.ptr 1 0,I),(6,.ah (.agg [.str (yt a1.kind),Iv (mP a1.kind),lz a1.kind]),I),(24,.ptr 3 0,I)],[kR a0.day a0.au a0.ae a0.units,kZ,.map ya,.iter (yt a1.kind) 0]⟩=E2 (.ret,⟨[(4,.ptr 1 0,I),(5,Iv 10,I)],[kR a0.day a0.au a0.ae a0.units,kZ,.map ya,.iter (yt a1.kind) d50]⟩):=jbb a0 a1 NV
   have hr:(⟨0,E4,E4,E4⟩,10)=r:=E2.inj h
   subst hr
   have this:∃hh,zg pr (X pr) 121 [aR a0,aE a1] []=E2 (.aC [aZ,Iv 10],I,hh):=by
    rw[zh (show pr.bL 121=E2 gm from rfl) (by simp)]
    simp only[go_sem,seval,gm,ko h2,h3,Nn,oA]
    exact⟨_,rfl⟩
   obtain⟨hh,this⟩:=this
   exact ky rfl this (by first|rfl|simp only[go_sem,seval]) (by first|rfl|simp only[go_sem,seval])
  ·have oA:X pr (.loop sd) ⟨[(2,.ptr 0 0,I),(3,.ah (aE a1),I),(4,.ptr 1 0,I),(6,.ah (.agg [.str (yt a1.kind),Iv (mP a1.kind),lz a1.kind]),I),(24,.ptr 3 0,I)],[kR a0.day a0.au a0.ae a0.units,kZ,.map ya,.iter (yt a1.kind) 0]⟩=E2 (.exit 0,⟨[(2,.ptr 0 0,I),(3,.ah (aE a1),I),(4,.ptr 1 0,I),(6,.ah (.agg [.str (yt a1.kind),Iv (mP a1.kind),lz a1.kind]),I),(24,.ptr 3 0,I),(25,.aC [.bool I],I),(26,.bool I,I)],[kR a0.day a0.au a0.ae a0.units,kZ,.map ya,.iter (yt a1.kind) d51]⟩):=jbb a0 a1 NV
   obtain⟨v,hv,h⟩:=jy h
   have hfn:lz a1.kind=.fn (.func (G3 a1.kind)) [] []:=by rw[jf0];exact jh6 hv
   simp only[hfn]at oA
   have af:∀(n:Int) (b:qn),yq 4 (Iv n) [b,kZ,.map ya,.iter (yt a1.kind) d51]=[b,kZ,.map ya,.iter (yt a1.kind) d51]:=fun _ _=>sg rfl
   rcases jgd (x1:=kZ) (x2:=.map ya) (x3:=.iter (yt a1.kind) d51) hv with⟨w1,w2,w3,g,hd⟩|⟨h0,hd,n,b,cs,g,g2,hn,gL,hs⟩
   ·rcases j6 h with⟨h5,h⟩|⟨h5,h⟩
    ·cases h
     have this:∃hh,zg pr (X pr) 121 [aR a0,aE a1] []=E2 (.aC [aG v1 v.2.au v.2.ae v.2.units,Iv 0],I,hh):=by
      rw[zh (show pr.bL 121=E2 gm from rfl) (by simp)]
      simp only[go_sem,seval,gm,ko h2,h3,Nn,oA,hfn,g,af,h5]
      exact⟨_,rfl⟩
     obtain⟨hh,this⟩:=this
     exact ky rfl this (by first|rfl|simp only[go_sem,seval]) (by first|rfl|simp only[go_sem,seval])
    ·cases h
     have this:∃hh,zg pr (X pr) 121 [aR a0,aE a1] []=E2 (.aC [aZ,Iv v.1],I,hh):=by
      rw[zh (show pr.bL 121=E2 gm from rfl) (by simp)]
      simp only[go_sem,seval,gm,ko h2,h3,Nn,oA,hfn,g,af,h5]
      exact⟨_,rfl⟩
     obtain⟨hh,this⟩:=this
     exact ky rfl this (by first|rfl|simp only[go_sem,seval]) (by first|rfl|simp only[go_sem,seval])
   ·have h5:decide (v.1=0)=true:=dT h0
    rw[h5]at h
    cases h
    have ab:∀(n:Int) (c:qn),yq 4 (Iv n) [c,kZ,.map ya,.iter (yt a1.kind) d51,b,.cells cs]=(bif oG 4 c&&kh 4 [kZ,.map ya,.iter (yt a1.kind) d51]then [c,kZ,.map ya,.iter (yt a1.kind) d51]else [c,kZ,.map ya,.iter (yt a1.kind) d51,b,.cells cs]):=fun _ _=>rfl
    have this:zg pr (X pr) 121 [aR a0,aE a1] []=E2 (.aC [.agg [Iv v1,sl 5 z8 v.2.au,sl 4 zt v.2.ae,.ms 5 0 n],Iv 0],I,[.cells [(Iv v1,I),(sl 5 z8 v.2.au,I),(sl 4 zt v.2.ae,I),(.ms 5 0 n,I)],.cells [(Iv v1,I),(sl 5 z8 v.2.au,I),(sl 4 zt v.2.ae,I),(.ms 5 0 n,I)],.map ya,.iter (yt a1.kind) d51,b,.cells cs]):=by
     rw[zh (show pr.bL 121=E2 gm from rfl) (by simp)]
     simp only[go_sem,seval,gm,ko h2,h3,Nn,oA,hfn,g,(show ∀n,below 4 (.ms 5 0 n)=I from fun _=>rfl),Bool.false_and,Bool.and_false,cond_false]<;>rfl
    have fz:fT [.cells [(Iv v1,I),(sl 5 z8 v.2.au,I),(sl 4 zt v.2.ae,I),(.ms 5 0 n,I)],.cells [(Iv v1,I),(sl 5 z8 v.2.au,I),(sl 4 zt v.2.ae,I),(.ms 5 0 n,I)],.map ya,.iter (yt a1.kind) d51,b,.cells cs] (.ms 5 0 n)=E2 (sl 8 bh v.2.units):=by
     have hu:v.2.units=E2 (v.2.units.getD []):=by cases hq:v.2.units with
      |some _=>rfl
      |none=>rw[hq]at hs;cases hs
     rw[hn]at gL ⊢
     rw[hu]
     exact uN dE gL g2
    refine ky rfl this (v':=.aC [aG v1 v.2.au v.2.ae v.2.units,Iv 0]) ?_ (by first|rfl|simp only[go_sem,seval])
    simp only[go_sem,seval,fz]<;>rfl
end Go.Z
end
