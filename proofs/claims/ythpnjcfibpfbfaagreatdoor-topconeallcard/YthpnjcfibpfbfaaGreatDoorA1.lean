/- Chapter 4. -/
import Derived.Test.YthpnjcfibpfbfaaGreatDoorCA
set_option linter.unusedVariables false
set_option linter.unusedSimpArgs false
set_option maxRecDepth 100000
set_option maxHeartbeats 4000000
noncomputable section
namespace Go.Z
open Go Go.Abs
def f55 (a0:Bool)(a1:Int):Option Int:=
 cond a0
  (some a1)
  (some 0)
theorem W55 {a0:Bool}{a1:Int}{r}(h:f55 a0 a1=some r):qd pr (X pr) 55 [.bool a0,.int .i64 a1]=some (.int .i64 r,false):=by
 unfold f55 at h
 rcases qr h with⟨h1,h⟩|⟨h1,h⟩
 ·have hr:a1=r:=Option.some.inj h
  subst hr
  refine jg rfl ?_ (fun _=>by first|rfl|simp only[go_sem,seval]) (by first|rfl|simp only[go_sem,seval])
  rw[qm (show pr.fns 55=some c55 from rfl) (by simp)]
  simp only[go_sem,seval,c55,h1]
  exact⟨_,rfl⟩
 ·have hr:0=r:=Option.some.inj h
  subst hr
  refine jg rfl ?_ (fun _=>by first|rfl|simp only[go_sem,seval]) (by first|rfl|simp only[go_sem,seval])
  rw[qm (show pr.fns 55=some c55 from rfl) (by simp)]
  simp only[go_sem,seval,c55,h1]
  exact⟨_,rfl⟩
def qgl (a0:Option (List Int))(s0:Int):Option (Int⊕(Int⊕Int)):=
 cond (decide (s0<((a0.getD []).length:Int)))
  (qh (qgs (a0.getD []) s0) fun v10=>
  cond (decide (v10=0))
   (some (.inl (qa .i64 (s0+1))))
   (some (.inr (.inl v10))))
  (some (.inr (.inr s0)))
def qhh (a0:Option (List Int))(s0:Int):ASt:=⟨[(5,sl 1 y6 a0,false),(6,.int .i64 ((a0.getD []).length:Int),false),(7,.int .i64 s0,false)],[]⟩
def qjp (a0:Option (List Int)):Int⊕Int→jo×ASt
 | .inl d=>(.ret,⟨[(2,.int .i64 d,false)],[]⟩)
 | .inr d=>(.exit 0,⟨[(5,sl 1 y6 a0,false),(6,.int .i64 ((a0.getD []).length:Int),false),(7,.int .i64 d,false),(8,.bool false,false)],[]⟩)
theorem q7u (a0:Option (List Int))(s0:Int)(r)(h:qgl a0 s0=some r):qbm pr qfe (qhh a0) (qjp a0) s0 r:=by
 unfold qgl at h
 rcases qr h with⟨h9,h⟩|⟨h9,h⟩
 ·obtain⟨v10,h11,h⟩:=qc h
  rcases qr h with⟨h12,h⟩|⟨h12,h⟩
  ·cases h
   exact zz (st':=⟨[(5,sl 1 y6 a0,false),(6,.int .i64 ((a0.getD []).length:Int),false),(7,.int .i64 (qa .i64 (s0+1)),false)],[]⟩) (by simp only[go_sem,seval,qfe,qhh,h9,yn h11,h12]<;>rfl) (qc1 (Nat.le_refl _))
  ·cases h
   exact zi (by simp only[go_sem,seval,qfe,qhh,h9,yn h11,h12,qjp]<;>rfl)
 ·cases h
  exact zi (by simp only[go_sem,seval,qfe,qhh,h9,qjp]<;>rfl)
theorem qw6 (a0:Option (List Int)){s0:Int}{d}(h:itO (qgl a0) s0=some d):X pr (.loop qfe) (qhh a0 s0)=some (qjp a0 d):=qd6 (q7u a0) (fun d=>by rcases d with d|d<;>(intro hh;cases hh)) h
def f53 (a0:Option (List Int)):Option Int:=
 qh (itO (qgl a0) 0) fun d13=>match d13 with
  | .inl d15=>
   some d15
  | .inr d16=>
   some 0
theorem W53 {a0:Option (List Int)}{r}(h:f53 a0=some r):qd pr (X pr) 53 [sl 1 y6 a0]=some (.int .i64 r,false):=by
 unfold f53 at h
 obtain⟨d13,h14,h⟩:=qc h
 rcases d13 with d15|d16
 ·have wh14:X pr (.loop qfe) ⟨[(5,sl 1 y6 a0,false),(6,.int .i64 ((a0.getD []).length:Int),false),(7,.int .i64 0,false)],[]⟩=some (.ret,⟨[(2,.int .i64 d15,false)],[]⟩):=qw6 a0 h14
  have hr:d15=r:=Option.some.inj h
  subst hr
  refine jg rfl ?_ (fun _=>by first|rfl|simp only[go_sem,seval]) (by first|rfl|simp only[go_sem,seval])
  rw[qm (show pr.fns 53=some c53 from rfl) (by simp)]
  simp only[go_sem,seval,c53,wh14]
  exact⟨_,rfl⟩
 ·have wh14:X pr (.loop qfe) ⟨[(5,sl 1 y6 a0,false),(6,.int .i64 ((a0.getD []).length:Int),false),(7,.int .i64 0,false)],[]⟩=some (.exit 0,⟨[(5,sl 1 y6 a0,false),(6,.int .i64 ((a0.getD []).length:Int),false),(7,.int .i64 d16,false),(8,.bool false,false)],[]⟩):=qw6 a0 h14
  have hr:0=r:=Option.some.inj h
  subst hr
  refine jg rfl ?_ (fun _=>by first|rfl|simp only[go_sem,seval]) (by first|rfl|simp only[go_sem,seval])
  rw[qm (show pr.fns 53=some c53 from rfl) (by simp)]
  simp only[go_sem,seval,c53,wh14]
  exact⟨_,rfl⟩
def f85 (a0:Int)(a1:Int)(a2:Int):Option Int:=
 cond (decide (a0<a1))
  (qh (f55 true 3) fun v2=>
  some v2)
  (qh (f55 (decide (a2<a0)) 3) fun v4=>
  some v4)
theorem W85 {a0:Int}{a1:Int}{a2:Int}{r}(h:f85 a0 a1 a2=some r):qd pr (X pr) 85 [.int .i64 a0,.int .i64 a1,.int .i64 a2]=some (.int .i64 r,false):=by
 unfold f85 at h
 rcases qr h with⟨h1,h⟩|⟨h1,h⟩
 ·obtain⟨v2,h3,h⟩:=qc h
  have hr:v2=r:=Option.some.inj h
  subst hr
  refine jg rfl ?_ (fun _=>by first|rfl|simp only[go_sem,seval]) (by first|rfl|simp only[go_sem,seval])
  rw[qm (show pr.fns 85=some c85 from rfl) (by simp)]
  simp only[go_sem,seval,c85,h1,W55 h3]
  exact⟨_,rfl⟩
 ·obtain⟨v4,h5,h⟩:=qc h
  have wh5:qd pr (X pr) 55 [.bool (decide (a2<a0)),.int .i64 3]=some (.int .i64 v4,false):=W55 h5
  have hr:v4=r:=Option.some.inj h
  subst hr
  refine jg rfl ?_ (fun _=>by first|rfl|simp only[go_sem,seval]) (by first|rfl|simp only[go_sem,seval])
  rw[qm (show pr.fns 85=some c85 from rfl) (by simp)]
  simp only[go_sem,seval,c85,h1,wh5]
  exact⟨_,rfl⟩
def qbh (a0:Bool)(a1:Int):Option Int:=
 cond a0
  (some a1)
  (some 0)
theorem yq {a0:Bool}{a1:Int}{r}(h:qbh a0 a1=some r):qd pr (X pr) 130 [.bool a0,.int .i64 a1]=some (.int .i64 r,false):=by
 unfold qbh at h
 rcases qr h with⟨h1,h⟩|⟨h1,h⟩
 ·have hr:a1=r:=Option.some.inj h
  subst hr
  refine jg rfl ?_ (fun _=>by first|rfl|simp only[go_sem,seval]) (by first|rfl|simp only[go_sem,seval])
  rw[qm (show pr.fns 130=some c130 from rfl) (by simp)]
  simp only[go_sem,seval,c130,h1]
  exact⟨_,rfl⟩
 ·have hr:0=r:=Option.some.inj h
  subst hr
  refine jg rfl ?_ (fun _=>by first|rfl|simp only[go_sem,seval]) (by first|rfl|simp only[go_sem,seval])
  rw[qm (show pr.fns 130=some c130 from rfl) (by simp)]
  simp only[go_sem,seval,c130,h1]
  exact⟨_,rfl⟩
def qb6 (a0:Int)(a1:Int)(a2:Int):Option Int:=
 cond (decide (a0<a1))
  (qh (qbh true 3) fun v2=>
  some v2)
  (qh (qbh (decide (a2<a0)) 3) fun v4=>
  some v4)
theorem qew {a0:Int}{a1:Int}{a2:Int}{r}(h:qb6 a0 a1 a2=some r):qd pr (X pr) 131 [.int .i64 a0,.int .i64 a1,.int .i64 a2]=some (.int .i64 r,false):=by
 unfold qb6 at h
 rcases qr h with⟨h1,h⟩|⟨h1,h⟩
 ·obtain⟨v2,h3,h⟩:=qc h
  have hr:v2=r:=Option.some.inj h
  subst hr
  refine jg rfl ?_ (fun _=>by first|rfl|simp only[go_sem,seval]) (by first|rfl|simp only[go_sem,seval])
  rw[qm (show pr.fns 131=some c131 from rfl) (by simp)]
  simp only[go_sem,seval,c131,h1,yq h3]
  exact⟨_,rfl⟩
 ·obtain⟨v4,h5,h⟩:=qc h
  have wh5:qd pr (X pr) 130 [.bool (decide (a2<a0)),.int .i64 3]=some (.int .i64 v4,false):=yq h5
  have hr:v4=r:=Option.some.inj h
  subst hr
  refine jg rfl ?_ (fun _=>by first|rfl|simp only[go_sem,seval]) (by first|rfl|simp only[go_sem,seval])
  rw[qm (show pr.fns 131=some c131 from rfl) (by simp)]
  simp only[go_sem,seval,c131,h1,wh5]
  exact⟨_,rfl⟩
def qex (a0:Option (List Int))(s0:Int):Option (Int⊕(Int⊕Int)):=
 cond (decide (s0<((a0.getD []).length:Int)))
  (qh (qgs (a0.getD []) s0) fun v10=>
  cond (decide (v10=0))
   (some (.inl (qa .i64 (s0+1))))
   (some (.inr (.inl v10))))
  (some (.inr (.inr s0)))
def qf1 (a0:Option (List Int))(s0:Int):ASt:=⟨[(5,sl 1 y6 a0,false),(6,.int .i64 ((a0.getD []).length:Int),false),(7,.int .i64 s0,false)],[]⟩
def qim (a0:Option (List Int)):Int⊕Int→jo×ASt
 | .inl d=>(.ret,⟨[(2,.int .i64 d,false)],[]⟩)
 | .inr d=>(.exit 0,⟨[(5,sl 1 y6 a0,false),(6,.int .i64 ((a0.getD []).length:Int),false),(7,.int .i64 d,false),(8,.bool false,false)],[]⟩)
theorem q16 (a0:Option (List Int))(s0:Int)(r)(h:qex a0 s0=some r):qbm pr qdt (qf1 a0) (qim a0) s0 r:=by
 unfold qex at h
 rcases qr h with⟨h9,h⟩|⟨h9,h⟩
 ·obtain⟨v10,h11,h⟩:=qc h
  rcases qr h with⟨h12,h⟩|⟨h12,h⟩
  ·cases h
   exact zz (st':=⟨[(5,sl 1 y6 a0,false),(6,.int .i64 ((a0.getD []).length:Int),false),(7,.int .i64 (qa .i64 (s0+1)),false)],[]⟩) (by simp only[go_sem,seval,qdt,qf1,h9,yn h11,h12]<;>rfl) (qc1 (Nat.le_refl _))
  ·cases h
   exact zi (by simp only[go_sem,seval,qdt,qf1,h9,yn h11,h12,qim]<;>rfl)
 ·cases h
  exact zi (by simp only[go_sem,seval,qdt,qf1,h9,qim]<;>rfl)
theorem que (a0:Option (List Int)){s0:Int}{d}(h:itO (qex a0) s0=some d):X pr (.loop qdt) (qf1 a0 s0)=some (qim a0 d):=qd6 (q16 a0) (fun d=>by rcases d with d|d<;>(intro hh;cases hh)) h
def qcr (a0:Option (List Int)):Option Int:=
 qh (itO (qex a0) 0) fun d13=>match d13 with
  | .inl d15=>
   some d15
  | .inr d16=>
   some 0
theorem qgp {a0:Option (List Int)}{r}(h:qcr a0=some r):qd pr (X pr) 103 [sl 1 y6 a0]=some (.int .i64 r,false):=by
 unfold qcr at h
 obtain⟨d13,h14,h⟩:=qc h
 rcases d13 with d15|d16
 ·have wh14:X pr (.loop qdt) ⟨[(5,sl 1 y6 a0,false),(6,.int .i64 ((a0.getD []).length:Int),false),(7,.int .i64 0,false)],[]⟩=some (.ret,⟨[(2,.int .i64 d15,false)],[]⟩):=que a0 h14
  have hr:d15=r:=Option.some.inj h
  subst hr
  refine jg rfl ?_ (fun _=>by first|rfl|simp only[go_sem,seval]) (by first|rfl|simp only[go_sem,seval])
  rw[qm (show pr.fns 103=some c103 from rfl) (by simp)]
  simp only[go_sem,seval,c103,wh14]
  exact⟨_,rfl⟩
 ·have wh14:X pr (.loop qdt) ⟨[(5,sl 1 y6 a0,false),(6,.int .i64 ((a0.getD []).length:Int),false),(7,.int .i64 0,false)],[]⟩=some (.exit 0,⟨[(5,sl 1 y6 a0,false),(6,.int .i64 ((a0.getD []).length:Int),false),(7,.int .i64 d16,false),(8,.bool false,false)],[]⟩):=que a0 h14
  have hr:0=r:=Option.some.inj h
  subst hr
  refine jg rfl ?_ (fun _=>by first|rfl|simp only[go_sem,seval]) (by first|rfl|simp only[go_sem,seval])
  rw[qm (show pr.fns 103=some c103 from rfl) (by simp)]
  simp only[go_sem,seval,c103,wh14]
  exact⟨_,rfl⟩
def qk3 (a0:Int):Option Int:=
 qh (qb6 a0 1 8) fun v1=>
 some v1
theorem qrg {a0:Int}{r}(h:qk3 a0=some r):qd pr (X pr) 104 [.int .i64 a0]=some (.int .i64 r,false):=by
 unfold qk3 at h
 obtain⟨v1,h2,h⟩:=qc h
 have hr:v1=r:=Option.some.inj h
 subst hr
 refine jg rfl ?_ (fun _=>by first|rfl|simp only[go_sem,seval]) (by first|rfl|simp only[go_sem,seval])
 rw[qm (show pr.fns 104=some c104 from rfl) (by simp)]
 simp only[go_sem,seval,c104,qew h2]
 exact⟨_,rfl⟩
def f61 (a0:Int):Option Int:=
 qh (f85 a0 1 8) fun v1=>
 some v1
theorem W61 {a0:Int}{r}(h:f61 a0=some r):qd pr (X pr) 61 [.int .i64 a0]=some (.int .i64 r,false):=by
 unfold f61 at h
 obtain⟨v1,h2,h⟩:=qc h
 have hr:v1=r:=Option.some.inj h
 subst hr
 refine jg rfl ?_ (fun _=>by first|rfl|simp only[go_sem,seval]) (by first|rfl|simp only[go_sem,seval])
 rw[qm (show pr.fns 61=some c61 from rfl) (by simp)]
 simp only[go_sem,seval,c61,W85 h2]
 exact⟨_,rfl⟩
def qgh (a0:Option (List GEl))(s0:Int):Option (Int⊕((Int×(List UInt8)×Int×Int)⊕(Int×(List UInt8)×Int×Int)⊕(Int×(List UInt8)×Int×Int)⊕(Int×(List UInt8)×Int×Int)⊕(Int×(List UInt8)×Int×Int)⊕Int)):=
 cond (decide (s0<((a0.getD []).length:Int)))
  (qh (qgs (a0.getD []) s0) fun v151=>
  cond (decide (v151.kind=([98,108,111,99,107]:List UInt8)))
   (qh (qbh false 13) fun v154=>
   qh (qb6 v151.a 0 8) fun v156=>
   qh (qb6 v151.b 0 8) fun v158=>
   cond (decide (v151.a=0))
    (qh (qbh (decide (v151.b=0)) 6) fun v161=>
    qh (qcr (some [v154,v156,v158,v161])) fun v163=>
    cond (decide (v163=0))
     (some (.inl (qa .i64 (s0+1))))
     (some (.inr (.inl (v163,v151.kind,v151.a,v151.b)))))
    (qh (qbh false 6) fun v166=>
    qh (qcr (some [v154,v156,v158,v166])) fun v168=>
    cond (decide (v168=0))
     (some (.inl (qa .i64 (s0+1))))
     (some (.inr (.inl (v168,v151.kind,v151.a,v151.b))))))
   (cond (decide (v151.kind=([115,101,114,105,101,115]:List UInt8)))
    (qh (qbh false 13) fun v172=>
    qh (qb6 v151.a 0 8) fun v174=>
    qh (qb6 v151.b 0 8) fun v176=>
    qh (qbh false 6) fun v178=>
    qh (qcr (some [v172,v174,v176,v178])) fun v180=>
    cond (decide (v180=0))
     (some (.inl (qa .i64 (s0+1))))
     (some (.inr (.inr (.inl (v180,v151.kind,v151.a,v151.b))))))
    (cond (decide (v151.kind=([115,104,117,110,116]:List UInt8)))
     (qh (qbh false 13) fun v184=>
     qh (qb6 v151.a 0 8) fun v186=>
     qh (qb6 v151.b 0 8) fun v188=>
     qh (qbh false 6) fun v190=>
     qh (qcr (some [v184,v186,v188,v190])) fun v192=>
     cond (decide (v192=0))
      (some (.inl (qa .i64 (s0+1))))
      (some (.inr (.inr (.inr (.inl (v192,v151.kind,v151.a,v151.b)))))))
     (cond (decide (v151.kind=([116,114,97,112]:List UInt8)))
      (qh (qbh false 13) fun v196=>
      qh (qb6 v151.a 0 8) fun v198=>
      qh (qb6 v151.b 0 8) fun v200=>
      cond (decide (v151.a=0))
       (qh (qbh (decide (v151.b=0)) 6) fun v203=>
       qh (qcr (some [v196,v198,v200,v203])) fun v205=>
       cond (decide (v205=0))
        (some (.inl (qa .i64 (s0+1))))
        (some (.inr (.inr (.inr (.inr (.inl (v205,v151.kind,v151.a,v151.b))))))))
       (qh (qbh false 6) fun v208=>
       qh (qcr (some [v196,v198,v200,v208])) fun v210=>
       cond (decide (v210=0))
        (some (.inl (qa .i64 (s0+1))))
        (some (.inr (.inr (.inr (.inr (.inl (v210,v151.kind,v151.a,v151.b)))))))))
      (qh (qbh true 13) fun v213=>
      qh (qb6 v151.a 0 8) fun v215=>
      qh (qb6 v151.b 0 8) fun v217=>
      qh (qbh false 6) fun v219=>
      qh (qcr (some [v213,v215,v217,v219])) fun v221=>
      cond (decide (v221=0))
       (some (.inl (qa .i64 (s0+1))))
       (some (.inr (.inr (.inr (.inr (.inr (.inl (v221,v151.kind,v151.a,v151.b)))))))))))))
  (some (.inr (.inr (.inr (.inr (.inr (.inr s0)))))))
def za (a0:Option (List GEl))(s0:Int):ASt:=⟨[(11,sl 3 vel a0,false),(12,.int .i64 ((a0.getD []).length:Int),false),(13,.int .i64 s0,false)],[]⟩
def qbw (a0:Option (List GEl)):(Int×(List UInt8)×Int×Int)⊕(Int×(List UInt8)×Int×Int)⊕(Int×(List UInt8)×Int×Int)⊕(Int×(List UInt8)×Int×Int)⊕(Int×(List UInt8)×Int×Int)⊕Int→jo×ASt
 | .inl d=>(.ret,⟨[(2,.int .i64 d.1,false)],[.cells [(.str d.2.1,false),(.int .i64 d.2.2.1,false),(.int .i64 d.2.2.2,false)],.map ji,.cells [(.str ([116,114,97,112]:List UInt8),false),(.bool true,false),(.fn (.func 153) [] [],false)]]⟩)
 | .inr (.inl d)=>(.ret,⟨[(2,.int .i64 d.1,false)],[.cells [(.str d.2.1,false),(.int .i64 d.2.2.1,false),(.int .i64 d.2.2.2,false)],.map ji,.cells [(.str ([115,104,117,110,116]:List UInt8),false),(.bool false,false),(.fn (.func 154) [] [],false)]]⟩)
 | .inr (.inr (.inl d))=>(.ret,⟨[(2,.int .i64 d.1,false)],[.cells [(.str d.2.1,false),(.int .i64 d.2.2.1,false),(.int .i64 d.2.2.2,false)],.map ji,.cells [(.str ([115,101,114,105,101,115]:List UInt8),false),(.bool false,false),(.fn (.func 155) [] [],false)]]⟩)
 | .inr (.inr (.inr (.inl d)))=>(.ret,⟨[(2,.int .i64 d.1,false)],[.cells [(.str d.2.1,false),(.int .i64 d.2.2.1,false),(.int .i64 d.2.2.2,false)],.map ji,.cells [(.str ([98,108,111,99,107]:List UInt8),false),(.bool true,false),(.fn (.func 156) [] [],false)]]⟩)
 | .inr (.inr (.inr (.inr (.inl d))))=>(.ret,⟨[(2,.int .i64 d.1,false)],[.cells [(.str d.2.1,false),(.int .i64 d.2.2.1,false),(.int .i64 d.2.2.2,false)],.map ji,.cells [(.str [],false),(.bool false,false),(.nilfn,false)]]⟩)
 | .inr (.inr (.inr (.inr (.inr d))))=>(.exit 0,⟨[(11,sl 3 vel a0,false),(12,.int .i64 ((a0.getD []).length:Int),false),(13,.int .i64 d,false),(14,.bool false,false)],[]⟩)
theorem q5f (a0:Option (List GEl))(s0:Int)(r)(h:qgh a0 s0=some r):qbm pr yl (za a0) (qbw a0) s0 r:=by
 unfold qgh at h
 rcases qr h with⟨h150,h⟩|⟨h150,h⟩
 ·obtain⟨v151,h152,h⟩:=qc h
  rcases qr h with⟨h153,h⟩|⟨h153,h⟩
  ·obtain⟨v154,h155,h⟩:=qc h
   obtain⟨v156,h157,h⟩:=qc h
   have wh157:qd pr (X pr) 131 [.int .i64 v151.a,.int .i64 0,.int .i64 8]=some (.int .i64 v156,false):=qew h157
   obtain⟨v158,h159,h⟩:=qc h
   have wh159:qd pr (X pr) 131 [.int .i64 v151.b,.int .i64 0,.int .i64 8]=some (.int .i64 v158,false):=qew h159
   rcases qr h with⟨h160,h⟩|⟨h160,h⟩
   ·obtain⟨v161,h162,h⟩:=qc h
    have wh162:qd pr (X pr) 130 [.bool (decide (v151.b=0)),.int .i64 6]=some (.int .i64 v161,false):=yq h162
    obtain⟨v163,h164,h⟩:=qc h
    have wh164:qd pr (X pr) 103 [.list false 1 [.int .i64 v154,.int .i64 v156,.int .i64 v158,.int .i64 v161]]=some (.int .i64 v163,false):=qgp h164
    rcases qr h with⟨h165,h⟩|⟨h165,h⟩
    ·cases h
     exact zz (st':=⟨[(11,sl 3 vel a0,false),(12,.int .i64 ((a0.getD []).length:Int),false),(13,.int .i64 (qa .i64 (s0+1)),false)],[]++[.cells [(.str v151.kind,false),(.int .i64 v151.a,false),(.int .i64 v151.b,false)],.map ji,.cells [(.str ([116,114,97,112]:List UInt8),false),(.bool true,false),(.fn (.func 153) [] [],false)]]⟩) (by simp only[go_sem,seval,yl,za,h150,yn h152,h153,qjq h153,yq h155,wh157,wh159,h160,wh162,wh164,h165]<;>rfl) (qai rfl rfl (by first|simp only[go_sem,seval,za]|rfl) (by first|simp only[go_sem,seval,za]|rfl))
    ·cases h
     exact zi (by simp only[go_sem,seval,yl,za,h150,yn h152,h153,qjq h153,yq h155,wh157,wh159,h160,wh162,wh164,h165,qbw]<;>rfl)
   ·obtain⟨v166,h167,h⟩:=qc h
    obtain⟨v168,h169,h⟩:=qc h
    have wh169:qd pr (X pr) 103 [.list false 1 [.int .i64 v154,.int .i64 v156,.int .i64 v158,.int .i64 v166]]=some (.int .i64 v168,false):=qgp h169
    rcases qr h with⟨h170,h⟩|⟨h170,h⟩
    ·cases h
     exact zz (st':=⟨[(11,sl 3 vel a0,false),(12,.int .i64 ((a0.getD []).length:Int),false),(13,.int .i64 (qa .i64 (s0+1)),false)],[]++[.cells [(.str v151.kind,false),(.int .i64 v151.a,false),(.int .i64 v151.b,false)],.map ji,.cells [(.str ([116,114,97,112]:List UInt8),false),(.bool true,false),(.fn (.func 153) [] [],false)]]⟩) (by simp only[go_sem,seval,yl,za,h150,yn h152,h153,qjq h153,yq h155,wh157,wh159,h160,yq h167,wh169,h170]<;>rfl) (qai rfl rfl (by first|simp only[go_sem,seval,za]|rfl) (by first|simp only[go_sem,seval,za]|rfl))
    ·cases h
     exact zi (by simp only[go_sem,seval,yl,za,h150,yn h152,h153,qjq h153,yq h155,wh157,wh159,h160,yq h167,wh169,h170,qbw]<;>rfl)
  ·rcases qr h with⟨h171,h⟩|⟨h171,h⟩
   ·obtain⟨v172,h173,h⟩:=qc h
    obtain⟨v174,h175,h⟩:=qc h
    have wh175:qd pr (X pr) 131 [.int .i64 v151.a,.int .i64 0,.int .i64 8]=some (.int .i64 v174,false):=qew h175
    obtain⟨v176,h177,h⟩:=qc h
    have wh177:qd pr (X pr) 131 [.int .i64 v151.b,.int .i64 0,.int .i64 8]=some (.int .i64 v176,false):=qew h177
    obtain⟨v178,h179,h⟩:=qc h
    obtain⟨v180,h181,h⟩:=qc h
    have wh181:qd pr (X pr) 103 [.list false 1 [.int .i64 v172,.int .i64 v174,.int .i64 v176,.int .i64 v178]]=some (.int .i64 v180,false):=qgp h181
    rcases qr h with⟨h182,h⟩|⟨h182,h⟩
    ·cases h
     exact zz (st':=⟨[(11,sl 3 vel a0,false),(12,.int .i64 ((a0.getD []).length:Int),false),(13,.int .i64 (qa .i64 (s0+1)),false)],[]++[.cells [(.str v151.kind,false),(.int .i64 v151.a,false),(.int .i64 v151.b,false)],.map ji,.cells [(.str ([115,104,117,110,116]:List UInt8),false),(.bool false,false),(.fn (.func 154) [] [],false)]]⟩) (by simp only[go_sem,seval,yl,za,h150,yn h152,h153,h171,qre h153 h171,yq h173,wh175,wh177,yq h179,wh181,h182]<;>rfl) (qai rfl rfl (by first|simp only[go_sem,seval,za]|rfl) (by first|simp only[go_sem,seval,za]|rfl))
    ·cases h
     exact zi (by simp only[go_sem,seval,yl,za,h150,yn h152,h153,h171,qre h153 h171,yq h173,wh175,wh177,yq h179,wh181,h182,qbw]<;>rfl)
   ·rcases qr h with⟨h183,h⟩|⟨h183,h⟩
    ·obtain⟨v184,h185,h⟩:=qc h
     obtain⟨v186,h187,h⟩:=qc h
     have wh187:qd pr (X pr) 131 [.int .i64 v151.a,.int .i64 0,.int .i64 8]=some (.int .i64 v186,false):=qew h187
     obtain⟨v188,h189,h⟩:=qc h
     have wh189:qd pr (X pr) 131 [.int .i64 v151.b,.int .i64 0,.int .i64 8]=some (.int .i64 v188,false):=qew h189
     obtain⟨v190,h191,h⟩:=qc h
     obtain⟨v192,h193,h⟩:=qc h
     have wh193:qd pr (X pr) 103 [.list false 1 [.int .i64 v184,.int .i64 v186,.int .i64 v188,.int .i64 v190]]=some (.int .i64 v192,false):=qgp h193
     rcases qr h with⟨h194,h⟩|⟨h194,h⟩
     ·cases h
      exact zz (st':=⟨[(11,sl 3 vel a0,false),(12,.int .i64 ((a0.getD []).length:Int),false),(13,.int .i64 (qa .i64 (s0+1)),false)],[]++[.cells [(.str v151.kind,false),(.int .i64 v151.a,false),(.int .i64 v151.b,false)],.map ji,.cells [(.str ([115,101,114,105,101,115]:List UInt8),false),(.bool false,false),(.fn (.func 155) [] [],false)]]⟩) (by simp only[go_sem,seval,yl,za,h150,yn h152,h153,h171,h183,qst h153 h171 h183,yq h185,wh187,wh189,yq h191,wh193,h194]<;>rfl) (qai rfl rfl (by first|simp only[go_sem,seval,za]|rfl) (by first|simp only[go_sem,seval,za]|rfl))
     ·cases h
      exact zi (by simp only[go_sem,seval,yl,za,h150,yn h152,h153,h171,h183,qst h153 h171 h183,yq h185,wh187,wh189,yq h191,wh193,h194,qbw]<;>rfl)
    ·rcases qr h with⟨h195,h⟩|⟨h195,h⟩
     ·obtain⟨v196,h197,h⟩:=qc h
      obtain⟨v198,h199,h⟩:=qc h
      have wh199:qd pr (X pr) 131 [.int .i64 v151.a,.int .i64 0,.int .i64 8]=some (.int .i64 v198,false):=qew h199
      obtain⟨v200,h201,h⟩:=qc h
      have wh201:qd pr (X pr) 131 [.int .i64 v151.b,.int .i64 0,.int .i64 8]=some (.int .i64 v200,false):=qew h201
      rcases qr h with⟨h202,h⟩|⟨h202,h⟩
      ·obtain⟨v203,h204,h⟩:=qc h
       have wh204:qd pr (X pr) 130 [.bool (decide (v151.b=0)),.int .i64 6]=some (.int .i64 v203,false):=yq h204
       obtain⟨v205,h206,h⟩:=qc h
       have wh206:qd pr (X pr) 103 [.list false 1 [.int .i64 v196,.int .i64 v198,.int .i64 v200,.int .i64 v203]]=some (.int .i64 v205,false):=qgp h206
       rcases qr h with⟨h207,h⟩|⟨h207,h⟩
       ·cases h
        exact zz (st':=⟨[(11,sl 3 vel a0,false),(12,.int .i64 ((a0.getD []).length:Int),false),(13,.int .i64 (qa .i64 (s0+1)),false)],[]++[.cells [(.str v151.kind,false),(.int .i64 v151.a,false),(.int .i64 v151.b,false)],.map ji,.cells [(.str ([98,108,111,99,107]:List UInt8),false),(.bool true,false),(.fn (.func 156) [] [],false)]]⟩) (by simp only[go_sem,seval,yl,za,h150,yn h152,h153,h171,h183,h195,qj2 h153 h171 h183 h195,yq h197,wh199,wh201,h202,wh204,wh206,h207]<;>rfl) (qai rfl rfl (by first|simp only[go_sem,seval,za]|rfl) (by first|simp only[go_sem,seval,za]|rfl))
       ·cases h
        exact zi (by simp only[go_sem,seval,yl,za,h150,yn h152,h153,h171,h183,h195,qj2 h153 h171 h183 h195,yq h197,wh199,wh201,h202,wh204,wh206,h207,qbw]<;>rfl)
      ·obtain⟨v208,h209,h⟩:=qc h
       obtain⟨v210,h211,h⟩:=qc h
       have wh211:qd pr (X pr) 103 [.list false 1 [.int .i64 v196,.int .i64 v198,.int .i64 v200,.int .i64 v208]]=some (.int .i64 v210,false):=qgp h211
       rcases qr h with⟨h212,h⟩|⟨h212,h⟩
       ·cases h
        exact zz (st':=⟨[(11,sl 3 vel a0,false),(12,.int .i64 ((a0.getD []).length:Int),false),(13,.int .i64 (qa .i64 (s0+1)),false)],[]++[.cells [(.str v151.kind,false),(.int .i64 v151.a,false),(.int .i64 v151.b,false)],.map ji,.cells [(.str ([98,108,111,99,107]:List UInt8),false),(.bool true,false),(.fn (.func 156) [] [],false)]]⟩) (by simp only[go_sem,seval,yl,za,h150,yn h152,h153,h171,h183,h195,qj2 h153 h171 h183 h195,yq h197,wh199,wh201,h202,yq h209,wh211,h212]<;>rfl) (qai rfl rfl (by first|simp only[go_sem,seval,za]|rfl) (by first|simp only[go_sem,seval,za]|rfl))
       ·cases h
        exact zi (by simp only[go_sem,seval,yl,za,h150,yn h152,h153,h171,h183,h195,qj2 h153 h171 h183 h195,yq h197,wh199,wh201,h202,yq h209,wh211,h212,qbw]<;>rfl)
     ·obtain⟨v213,h214,h⟩:=qc h
      obtain⟨v215,h216,h⟩:=qc h
      have wh216:qd pr (X pr) 131 [.int .i64 v151.a,.int .i64 0,.int .i64 8]=some (.int .i64 v215,false):=qew h216
      obtain⟨v217,h218,h⟩:=qc h
      have wh218:qd pr (X pr) 131 [.int .i64 v151.b,.int .i64 0,.int .i64 8]=some (.int .i64 v217,false):=qew h218
      obtain⟨v219,h220,h⟩:=qc h
      obtain⟨v221,h222,h⟩:=qc h
      have wh222:qd pr (X pr) 103 [.list false 1 [.int .i64 v213,.int .i64 v215,.int .i64 v217,.int .i64 v219]]=some (.int .i64 v221,false):=qgp h222
      rcases qr h with⟨h223,h⟩|⟨h223,h⟩
      ·cases h
       exact zz (st':=⟨[(11,sl 3 vel a0,false),(12,.int .i64 ((a0.getD []).length:Int),false),(13,.int .i64 (qa .i64 (s0+1)),false)],[]++[.cells [(.str v151.kind,false),(.int .i64 v151.a,false),(.int .i64 v151.b,false)],.map ji,.cells [(.str [],false),(.bool false,false),(.nilfn,false)]]⟩) (by simp only[go_sem,seval,yl,za,h150,yn h152,h153,h171,h183,h195,qxl h153 h171 h183 h195,yq h214,wh216,wh218,yq h220,wh222,h223]<;>rfl) (qai rfl rfl (by first|simp only[go_sem,seval,za]|rfl) (by first|simp only[go_sem,seval,za]|rfl))
      ·cases h
       exact zi (by simp only[go_sem,seval,yl,za,h150,yn h152,h153,h171,h183,h195,qxl h153 h171 h183 h195,yq h214,wh216,wh218,yq h220,wh222,h223,qbw]<;>rfl)
 ·cases h
  exact zi (by simp only[go_sem,seval,yl,za,h150,qbw]<;>rfl)
theorem qir (a0:Option (List GEl)){s0:Int}{d}(h:itO (qgh a0) s0=some d):X pr (.loop yl) (za a0 s0)=some (qbw a0 d):=qd6 (q5f a0) (fun d=>by rcases d with d|d|d|d|d|d<;>(intro hh;cases hh)) h
def f96 (a0:Option (List GEl)):Option Int:=
 cond (decide (5<((a0.getD []).length:Int)))
  (some 5)
  (qh (itO (qgh a0) 0) fun d224=>match d224 with
   | .inl d226=>
    some d226.1
   | .inr (.inl d227)=>
    some d227.1
   | .inr (.inr (.inl d228))=>
    some d228.1
   | .inr (.inr (.inr (.inl d229)))=>
    some d229.1
   | .inr (.inr (.inr (.inr (.inl d230))))=>
    some d230.1
   | .inr (.inr (.inr (.inr (.inr d231))))=>
    some 0)
theorem W96 {a0:Option (List GEl)}{r}(h:f96 a0=some r):qd pr (X pr) 96 [sl 3 vel a0]=some (.int .i64 r,false):=by
 unfold f96 at h
 rcases qr h with⟨h1,h⟩|⟨h1,h⟩
 ·have hr:5=r:=Option.some.inj h
  subst hr
  refine jg rfl ?_ (fun _=>by first|rfl|simp only[go_sem,seval]) (by first|rfl|simp only[go_sem,seval])
  rw[qm (show pr.fns 96=some c96 from rfl) (by simp)]
  simp only[go_sem,seval,c96,h1]
  exact⟨_,rfl⟩
 ·obtain⟨d224,h225,h⟩:=qc h
  rcases d224 with d226|d227|d228|d229|d230|d231
  ·have wh225:X pr (.loop yl) ⟨[(11,sl 3 vel a0,false),(12,.int .i64 ((a0.getD []).length:Int),false),(13,.int .i64 0,false)],[]⟩=some (.ret,⟨[(2,.int .i64 d226.1,false)],[.cells [(.str d226.2.1,false),(.int .i64 d226.2.2.1,false),(.int .i64 d226.2.2.2,false)],.map ji,.cells [(.str ([116,114,97,112]:List UInt8),false),(.bool true,false),(.fn (.func 153) [] [],false)]]⟩):=qir a0 h225
   have hr:d226.1=r:=Option.some.inj h
   subst hr
   refine jg rfl ?_ (fun _=>by first|rfl|simp only[go_sem,seval]) (by first|rfl|simp only[go_sem,seval])
   rw[qm (show pr.fns 96=some c96 from rfl) (by simp)]
   simp only[go_sem,seval,c96,h1,wh225]
   exact⟨_,rfl⟩
  ·have wh225:X pr (.loop yl) ⟨[(11,sl 3 vel a0,false),(12,.int .i64 ((a0.getD []).length:Int),false),(13,.int .i64 0,false)],[]⟩=some (.ret,⟨[(2,.int .i64 d227.1,false)],[.cells [(.str d227.2.1,false),(.int .i64 d227.2.2.1,false),(.int .i64 d227.2.2.2,false)],.map ji,.cells [(.str ([115,104,117,110,116]:List UInt8),false),(.bool false,false),(.fn (.func 154) [] [],false)]]⟩):=qir a0 h225
   have hr:d227.1=r:=Option.some.inj h
   subst hr
   refine jg rfl ?_ (fun _=>by first|rfl|simp only[go_sem,seval]) (by first|rfl|simp only[go_sem,seval])
   rw[qm (show pr.fns 96=some c96 from rfl) (by simp)]
   simp only[go_sem,seval,c96,h1,wh225]
   exact⟨_,rfl⟩
  ·have wh225:X pr (.loop yl) ⟨[(11,sl 3 vel a0,false),(12,.int .i64 ((a0.getD []).length:Int),false),(13,.int .i64 0,false)],[]⟩=some (.ret,⟨[(2,.int .i64 d228.1,false)],[.cells [(.str d228.2.1,false),(.int .i64 d228.2.2.1,false),(.int .i64 d228.2.2.2,false)],.map ji,.cells [(.str ([115,101,114,105,101,115]:List UInt8),false),(.bool false,false),(.fn (.func 155) [] [],false)]]⟩):=qir a0 h225
   have hr:d228.1=r:=Option.some.inj h
   subst hr
   refine jg rfl ?_ (fun _=>by first|rfl|simp only[go_sem,seval]) (by first|rfl|simp only[go_sem,seval])
   rw[qm (show pr.fns 96=some c96 from rfl) (by simp)]
   simp only[go_sem,seval,c96,h1,wh225]
   exact⟨_,rfl⟩
  ·have wh225:X pr (.loop yl) ⟨[(11,sl 3 vel a0,false),(12,.int .i64 ((a0.getD []).length:Int),false),(13,.int .i64 0,false)],[]⟩=some (.ret,⟨[(2,.int .i64 d229.1,false)],[.cells [(.str d229.2.1,false),(.int .i64 d229.2.2.1,false),(.int .i64 d229.2.2.2,false)],.map ji,.cells [(.str ([98,108,111,99,107]:List UInt8),false),(.bool true,false),(.fn (.func 156) [] [],false)]]⟩):=qir a0 h225
   have hr:d229.1=r:=Option.some.inj h
   subst hr
   refine jg rfl ?_ (fun _=>by first|rfl|simp only[go_sem,seval]) (by first|rfl|simp only[go_sem,seval])
   rw[qm (show pr.fns 96=some c96 from rfl) (by simp)]
   simp only[go_sem,seval,c96,h1,wh225]
   exact⟨_,rfl⟩
  ·have wh225:X pr (.loop yl) ⟨[(11,sl 3 vel a0,false),(12,.int .i64 ((a0.getD []).length:Int),false),(13,.int .i64 0,false)],[]⟩=some (.ret,⟨[(2,.int .i64 d230.1,false)],[.cells [(.str d230.2.1,false),(.int .i64 d230.2.2.1,false),(.int .i64 d230.2.2.2,false)],.map ji,.cells [(.str [],false),(.bool false,false),(.nilfn,false)]]⟩):=qir a0 h225
   have hr:d230.1=r:=Option.some.inj h
   subst hr
   refine jg rfl ?_ (fun _=>by first|rfl|simp only[go_sem,seval]) (by first|rfl|simp only[go_sem,seval])
   rw[qm (show pr.fns 96=some c96 from rfl) (by simp)]
   simp only[go_sem,seval,c96,h1,wh225]
   exact⟨_,rfl⟩
  ·have wh225:X pr (.loop yl) ⟨[(11,sl 3 vel a0,false),(12,.int .i64 ((a0.getD []).length:Int),false),(13,.int .i64 0,false)],[]⟩=some (.exit 0,⟨[(11,sl 3 vel a0,false),(12,.int .i64 ((a0.getD []).length:Int),false),(13,.int .i64 d231,false),(14,.bool false,false)],[]⟩):=qir a0 h225
   have hr:0=r:=Option.some.inj h
   subst hr
   refine jg rfl ?_ (fun _=>by first|rfl|simp only[go_sem,seval]) (by first|rfl|simp only[go_sem,seval])
   rw[qm (show pr.fns 96=some c96 from rfl) (by simp)]
   simp only[go_sem,seval,c96,h1,wh225]
   exact⟨_,rfl⟩
end Go.Z
end
