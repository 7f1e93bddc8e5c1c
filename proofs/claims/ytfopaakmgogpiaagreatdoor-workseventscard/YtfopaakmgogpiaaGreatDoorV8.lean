/- Chapter 10. -/
import Derived.Test.YtfopaakmgogpiaaGreatDoorW10
import Derived.Test.YtfopaakmgogpiaaGreatDoorW15
import Derived.Test.YtfopaakmgogpiaaGreatDoorAbsL
import Derived.Test.YtfopaakmgogpiaaGreatDoorCA
set_option linter.unusedVariables false
set_option linter.unusedSimpArgs false
set_option maxRecDepth 100000
set_option maxHeartbeats 4000000
namespace Go.Z
open Go Go.Abs Go.W
noncomputable def f117 (a1:GEv) (c0_0:Int) (c0_1:Option (List qt)) (c0_2:Option (List GProd)) (c0_3:Option (List GUn)):Option (Int × (Option (List GUn))):=
 qa (qw (a1.names.getD []) 0) fun v1=>
 qa (f93 (⟨c0_0,c0_1,c0_2,c0_3⟩) v1) fun v3=>
 qa (qw (c0_3.getD []) v3) fun v5=>
 qa (f75 (⟨c0_0,c0_1,c0_2,c0_3⟩) v5) fun v7=>
 cond (decide (v7=0))
  (qa (jen c0_3 v3) fun v10=>
  some (0,v10))
  (some (v7,c0_3))
theorem j8w {a1:GEv} {c0_0:Int} {c0_1:Option (List qt)} {c0_2:Option (List GProd)} {c0_3:Option (List GUn)} {x1:ABox} {x2:ABox} {x3:ABox} {r} (h:f117 a1 c0_0 c0_1 c0_2 c0_3=some r):qn pr (X pr) 117 [.ptr 0 0,aE a1] [kR c0_0 c0_1 c0_2 c0_3,x1,x2,x3]=some (Iv r.1,false,[kR c0_0 c0_1 c0_2 r.2,x1,x2,x3]):=by
 unfold f117 at h
 rw [qk (show pr.fns 117=some c117 from rfl) (by simp)]
 repeat' first | (replace h:=qb h; obtain ⟨d,g,h⟩:=h; with_reducible first | replace g:=W93 g | replace g:=W75 g | replace g:=jca g | skip) | (replace h:=qd h; rcases h with ⟨g,h⟩ | ⟨g,h⟩) | fail
 all_goals (cases h <;> (simp only [go_sem,seval,c117,qv,*] <;> rfl))
end Go.Z
namespace Go.Z
open Go Go.Abs Go.W
noncomputable def qg4 (a0:GReg) (a1:GEv):Option (Option (Nat) ⊕ (Nat ⊕ Nat)):=
 cond (decide (0 < (j8 a1.kind).length))
  (cond (decide (((qo (j8 a1.kind) 0).1:Int)=45))
   (some (.inl (some (0 + (qo (j8 a1.kind) 0).2))))
   (qa (qw (a1.names.getD []) (0:Int)) fun v43=>
   qa (f202 a0 ((qo (j8 a1.kind) 0).1:Int) v43) fun v45=>
   cond v45
    (some (.inl (some (0 + (qo (j8 a1.kind) 0).2))))
    (some (.inr (.inl (0 + (qo (j8 a1.kind) 0).2))))))
  (some (.inr (.inr 0)))
noncomputable def qet (a0:GReg) (a1:GEv) (s0:Nat):Option (Option (Nat) ⊕ (Nat ⊕ Nat)):=
 cond (decide (s0 < (j8 a1.kind).length))
  (cond (decide (((qo (j8 a1.kind) s0).1:Int)=45))
   (some (.inl (some (s0 + (qo (j8 a1.kind) s0).2))))
   (qa (qw (a1.names.getD []) (s0:Int)) fun v36=>
   qa (f202 a0 ((qo (j8 a1.kind) s0).1:Int) v36) fun v38=>
   cond v38
    (some (.inl (some (s0 + (qo (j8 a1.kind) s0).2))))
    (some (.inr (.inl (s0 + (qo (j8 a1.kind) s0).2))))))
  (some (.inr (.inr s0)))
noncomputable def qmc (a0:GReg) (a1:GEv):Option (Nat)→Option (Option (Nat) ⊕ (Nat ⊕ Nat))
 | none=>qg4 a0 a1
 | some x=>qet a0 a1 x
def qjb (a0:GReg) (a1:GEv) (s0:Nat):ASt:=⟨[(2,.ptr 0 0,false),(3,.vptr (aE a1),false),(4,.ptr 1 0,false),(6,.vptr (.agg [.str (j8 a1.kind),Iv (qbx a1.kind),qd8 a1.kind]),false),(24,.ptr 3 0,false),(41,.bool false,false)],[.cells [(Iv a0.day,false),(sl 5 jg a0.lots,false),(sl 4 qz a0.products,false),(sl 8 vun a0.units,false)],kZ,.map ji,.iter (j8 a1.kind) s0]⟩
def qfw (a0:GReg) (a1:GEv):Option (Nat)→ASt
 | none=>⟨[(2,.ptr 0 0,false),(3,.vptr (aE a1),false),(4,.ptr 1 0,false),(6,.vptr (.agg [.str (j8 a1.kind),Iv (qbx a1.kind),qd8 a1.kind]),false),(24,.ptr 3 0,false)],[.cells [(Iv a0.day,false),(sl 5 jg a0.lots,false),(sl 4 qz a0.products,false),(sl 8 vun a0.units,false)],kZ,.map ji,.iter (j8 a1.kind) 0]⟩
 | some x=>qjb a0 a1 x
def qfo (a0:GReg) (a1:GEv):Nat ⊕ Nat→jd × ASt
 | .inl d=>(.ret,⟨[(4,.ptr 1 0,false),(5,Iv 10,false)],[.cells [(Iv a0.day,false),(sl 5 jg a0.lots,false),(sl 4 qz a0.products,false),(sl 8 vun a0.units,false)],kZ,.map ji,.iter (j8 a1.kind) d]⟩)
 | .inr d=>(.exit 0,⟨[(2,.ptr 0 0,false),(3,.vptr (aE a1),false),(4,.ptr 1 0,false),(6,.vptr (.agg [.str (j8 a1.kind),Iv (qbx a1.kind),qd8 a1.kind]),false),(24,.ptr 3 0,false),(25,.tup [.bool false],false),(26,.bool false,false)],[.cells [(Iv a0.day,false),(sl 5 jg a0.lots,false),(sl 4 qz a0.products,false),(sl 8 vun a0.units,false)],kZ,.map ji,.iter (j8 a1.kind) d]⟩)
theorem jkq (a0:GReg) (a1:GEv) (r) (h:qg4 a0 a1=some r):jy pr qeb (qfw a0 a1) (qfo a0 a1) none r:=by
 unfold qg4 at h
 repeat' first | (replace h:=qb h; obtain ⟨d,g,h⟩:=h; with_reducible first | replace g:=jqp g | skip) | (replace h:=qd h; rcases h with ⟨g,h⟩ | ⟨g,h⟩) | fail
 all_goals (cases h <;> (first | (refine jb ?_; simp only [go_sem,seval,qeb,qfw,qjb,qhl,qv,qfo,*] <;> rfl) | (refine js ?_; simp only [go_sem,seval,qeb,qfw,qjb,qhl,qv,qfo,*] <;> rfl)))
theorem jkh (a0:GReg) (a1:GEv) (s0:Nat) (r) (h:qet a0 a1 s0=some r):jy pr qeb (qfw a0 a1) (qfo a0 a1) (some s0) r:=by
 unfold qet at h
 repeat' first | (replace h:=qb h; obtain ⟨d,g,h⟩:=h; with_reducible first | replace g:=jqp g | skip) | (replace h:=qd h; rcases h with ⟨g,h⟩ | ⟨g,h⟩) | fail
 all_goals (cases h <;> (first | (refine jb ?_; simp only [go_sem,seval,qeb,qfw,qjb,qhl,qv,qfo,*] <;> rfl) | (refine js ?_; simp only [go_sem,seval,qeb,qfw,qjb,qhl,qv,qfo,*] <;> rfl)))
theorem jnu (a0:GReg) (a1:GEv):∀ (x:Option (Nat)) (r) (h:qmc a0 a1 x=some r),jy pr qeb (qfw a0 a1) (qfo a0 a1) x r
 | none,r,h=>jkq a0 a1 r h
 | some x,r,h=>jkh a0 a1 x r h
theorem q99 (a0:GReg) (a1:GEv) {s0:Option (Nat)} {d} (h:itO (qmc a0 a1) s0=some d):X pr (.loop qeb) (qfw a0 a1 s0)=some (qfo a0 a1 d):=zf (jnu a0 a1) (fun d=>by rcases d with d|d <;> (intro hh; cases hh)) h
noncomputable def k9 (k:Nat) (a0:GReg) (a1:GEv):Option (Int × GReg):=
 bif Nat.beq k 105 then qa (f105 a1 a0.day a0.lots a0.products a0.units) fun v=>some (v.1,{ a0 with lots:=v.2.1 }) else
 bif Nat.beq k 106 then qa (f106 a1 a0.day a0.lots a0.products a0.units) fun v=>some (v.1,{ a0 with products:=v.2.1 }) else
 bif Nat.beq k 107 then qa (f107 a1 a0.day a0.lots a0.products a0.units) fun v=>some (v.1,{ a0 with products:=v.2 }) else
 bif Nat.beq k 108 then qa (f108 a1 a0.day a0.lots a0.products a0.units) fun v=>some (v.1,{ a0 with products:=v.2 }) else
 bif Nat.beq k 109 then qa (f109 a1 a0.day a0.lots a0.products a0.units) fun v=>some (v.1,{ a0 with products:=v.2 }) else
 bif Nat.beq k 110 then qa (f110 a1 a0.day a0.lots a0.products a0.units) fun v=>some (v.1,{ a0 with units:=v.2.1 }) else
 bif Nat.beq k 112 then qa (f112 a1 a0.day a0.lots a0.products a0.units) fun v=>some (v.1,{ a0 with units:=v.2 }) else
 bif Nat.beq k 113 then qa (f113 a1 a0.day a0.lots a0.products a0.units) fun v=>some (v.1,{ a0 with units:=v.2 }) else
 bif Nat.beq k 114 then qa (f114 a1 a0.day a0.lots a0.products a0.units) fun v=>some (v.1,{ a0 with units:=v.2 }) else
 bif Nat.beq k 115 then qa (f115 a1 a0.day a0.lots a0.products a0.units) fun v=>some (v.1,{ a0 with lots:=v.2 }) else
 bif Nat.beq k 116 then qa (f116 a1 a0.day a0.lots a0.products a0.units) fun v=>some (v.1,{ a0 with lots:=v.2 }) else
 bif Nat.beq k 117 then qa (f117 a1 a0.day a0.lots a0.products a0.units) fun v=>some (v.1,{ a0 with units:=v.2 }) else
 bif Nat.beq k 118 then qa (f118 a1 a0.day a0.lots a0.products a0.units) fun v=>some (v.1,{ a0 with units:=v.2 }) else
 bif Nat.beq k 111 then qa (f111 a1 a0.day a0.lots a0.products a0.units) fun v=>some (v.1,{ a0 with lots:=v.2.1,units:=v.2.2 }) else none
theorem jf3 {k:Nat} {a0:GReg} {a1:GEv} {x1 x2 x3:ABox} {v} (h:k9 k a0 a1=some v):
  (∃ w1 w2 w3:Bool,qn pr (X pr) k [.ptr 0 0,aE a1] [.cells [(Iv a0.day,false),(sl 5 jg a0.lots,false),(sl 4 qz a0.products,false),(sl 8 vun a0.units,false)],x1,x2,x3]=some (Iv v.1,false,[.cells [(Iv v.2.day,false),(sl 5 jg v.2.lots,w1),(sl 4 qz v.2.products,w2),(sl 8 vun v.2.units,w3)],x1,x2,x3])∧v.2.day=a0.day) ∨
  (v.1=0∧v.2.day=a0.day∧∃ (n:Nat) (b:ABox) (cs:List (AVal × Bool)),qn pr (X pr) k [.ptr 0 0,aE a1] [.cells [(Iv a0.day,false),(sl 5 jg a0.lots,false),(sl 4 qz a0.products,false),(sl 8 vun a0.units,false)],x1,x2,x3]=some (Iv 0,false,[.cells [(Iv v.2.day,false),(sl 5 jg v.2.lots,false),(sl 4 qz v.2.products,false),(.ms 5 0 n,false)],x1,x2,x3,b,.cells cs])∧cs.map (·.1)=za vun (v.2.units.getD [])∧n=(v.2.units.getD []).length∧0 < n∧v.2.units.isSome=true):=by
 unfold k9 at h
 rw [Bool.cond_eq_ite] at h
 split at h
 ·rename_i hk
  rw [Nat.eq_of_beq_eq_true hk]
  obtain ⟨y,hy,h⟩:=qb h
  cases h
  exact .inl ⟨y.2.2,false,false,zam hy,rfl⟩
 rw [Bool.cond_eq_ite] at h
 split at h
 ·rename_i hk
  rw [Nat.eq_of_beq_eq_true hk]
  obtain ⟨y,hy,h⟩:=qb h
  cases h
  exact .inl ⟨false,y.2.2,false,zc3 hy,rfl⟩
 rw [Bool.cond_eq_ite] at h
 split at h
 ·rename_i hk
  rw [Nat.eq_of_beq_eq_true hk]
  obtain ⟨y,hy,h⟩:=qb h
  cases h
  exact .inl ⟨false,false,false,zd8 hy,rfl⟩
 rw [Bool.cond_eq_ite] at h
 split at h
 ·rename_i hk
  rw [Nat.eq_of_beq_eq_true hk]
  obtain ⟨y,hy,h⟩:=qb h
  cases h
  exact .inl ⟨false,false,false,zbd hy,rfl⟩
 rw [Bool.cond_eq_ite] at h
 split at h
 ·rename_i hk
  rw [Nat.eq_of_beq_eq_true hk]
  obtain ⟨y,hy,h⟩:=qb h
  cases h
  exact .inl ⟨false,false,false,j9d hy,rfl⟩
 rw [Bool.cond_eq_ite] at h
 split at h
 ·rename_i hk
  rw [Nat.eq_of_beq_eq_true hk]
  obtain ⟨y,hy,h⟩:=qb h
  cases h
  exact .inl ⟨false,false,y.2.2,zcg hy,rfl⟩
 rw [Bool.cond_eq_ite] at h
 split at h
 ·rename_i hk
  rw [Nat.eq_of_beq_eq_true hk]
  obtain ⟨y,hy,h⟩:=qb h
  cases h
  exact .inl ⟨false,false,false,j8x hy,rfl⟩
 rw [Bool.cond_eq_ite] at h
 split at h
 ·rename_i hk
  rw [Nat.eq_of_beq_eq_true hk]
  obtain ⟨y,hy,h⟩:=qb h
  cases h
  exact .inl ⟨false,false,false,zdq hy,rfl⟩
 rw [Bool.cond_eq_ite] at h
 split at h
 ·rename_i hk
  rw [Nat.eq_of_beq_eq_true hk]
  obtain ⟨y,hy,h⟩:=qb h
  cases h
  exact .inl ⟨false,false,false,j81 hy,rfl⟩
 rw [Bool.cond_eq_ite] at h
 split at h
 ·rename_i hk
  rw [Nat.eq_of_beq_eq_true hk]
  obtain ⟨y,hy,h⟩:=qb h
  cases h
  exact .inl ⟨false,false,false,j9r hy,rfl⟩
 rw [Bool.cond_eq_ite] at h
 split at h
 ·rename_i hk
  rw [Nat.eq_of_beq_eq_true hk]
  obtain ⟨y,hy,h⟩:=qb h
  cases h
  exact .inl ⟨false,false,false,zea hy,rfl⟩
 rw [Bool.cond_eq_ite] at h
 split at h
 ·rename_i hk
  rw [Nat.eq_of_beq_eq_true hk]
  obtain ⟨y,hy,h⟩:=qb h
  cases h
  exact .inl ⟨false,false,false,j8w hy,rfl⟩
 rw [Bool.cond_eq_ite] at h
 split at h
 ·rename_i hk
  rw [Nat.eq_of_beq_eq_true hk]
  obtain ⟨y,hy,h⟩:=qb h
  cases h
  exact .inl ⟨false,false,false,zd7 hy,rfl⟩
 rw [Bool.cond_eq_ite] at h
 split at h
 ·rename_i hk
  rw [Nat.eq_of_beq_eq_true hk]
  obtain ⟨y,hy,h⟩:=qb h
  cases h
  rcases zcc (x1:=x1) (x2:=x2) (x3:=x3) hy with ⟨h1,h2,h3⟩ | ⟨h1,n,b,cs,h2,h3,h4,h5⟩
  ·refine .inl ⟨false,false,false,?_,rfl⟩
   rcases y with ⟨y1,y2⟩
   cases h2
   exact h3
  ·refine .inr ⟨h1,rfl,n,b,cs,h2,h3,h4,h5,?_⟩
   show y.2.2.isSome=true
   cases hu:y.2.2 with
   | some _=>rfl
   | none=>rw [hu] at h4; simp at h4; omega
 ·cases h
def qv4 (x:List UInt8):Nat:=match qde x with
 | some f=>f.2.2.2
 | none=>0
theorem je7 (x:List UInt8):qd8 x=fnv (qv4 x):=by
 unfold qd8 qv4
 cases qde x <;> rfl
theorem jdq {k:Nat} {a0:GReg} {a1:GEv} {v} (h:k9 k a0 a1=some v):fnv k=.fn (.func k) [] []:=by
 cases hk:Nat.beq k 0 with
 | false=>simp only [fnv,hk,cond_false]
 | true=>rw [Nat.eq_of_beq_eq_true hk] at h; cases h
noncomputable def f121 (a0:GReg) (a1:GEv):Option (GReg × Int):=
 qa (qw (a1.values.getD []) 0) fun v1=>
 cond (decide (v1 < a0.day))
  (some (⟨0,none,none,none⟩,20))
  (qa (itO (qmc a0 a1) none) fun d48=>match d48 with
   | .inl d50=>
    some (⟨0,none,none,none⟩,10)
   | .inr d51=>
    qa (k9 (qv4 a1.kind) a0 a1) fun v=>
    cond (decide (v.1=0))
     (some ({ v.2 with day:=v1 },0))
     (some (⟨0,none,none,none⟩,v.1)))
theorem qxo {a0:GReg} {a1:GEv} {r} (h:f121 a0 a1=some r):qc pr (X pr) 121 [aR a0,aE a1]=some (.tup [aR r.1,Iv r.2],false):=by
 unfold f121 at h
 obtain ⟨v1,h2,h⟩:=qb h
 rcases qd h with ⟨h3,h⟩ | ⟨h3,h⟩
 ·have hr:(⟨0,none,none,none⟩,20)=r:=Option.some.inj h
  subst hr
  have this:∃ hh,qn pr (X pr) 121 [aR a0,aE a1] []=some (.tup [aZ,Iv 20],false,hh):=by
   rw [qk (show pr.fns 121=some c121 from rfl) (by simp)]
   simp only [go_sem,seval,c121,zj h2,h3]
   exact ⟨_,rfl⟩
  obtain ⟨hh,this⟩:=this
  exact zu rfl this (by first | rfl | simp only [go_sem,seval]) (by first | rfl | simp only [go_sem,seval])
 ·obtain ⟨d48,h49,h⟩:=qb h
  rcases d48 with d50 | d51
  ·have wh49:X pr (.loop qeb) ⟨[(2,.ptr 0 0,false),(3,.vptr (aE a1),false),(4,.ptr 1 0,false),(6,.vptr (.agg [.str (j8 a1.kind),Iv (qbx a1.kind),qd8 a1.kind]),false),(24,.ptr 3 0,false)],[kR a0.day a0.lots a0.products a0.units,kZ,.map ji,.iter (j8 a1.kind) 0]⟩=some (.ret,⟨[(4,.ptr 1 0,false),(5,Iv 10,false)],[kR a0.day a0.lots a0.products a0.units,kZ,.map ji,.iter (j8 a1.kind) d50]⟩):=q99 a0 a1 h49
   have hr:(⟨0,none,none,none⟩,10)=r:=Option.some.inj h
   subst hr
   have this:∃ hh,qn pr (X pr) 121 [aR a0,aE a1] []=some (.tup [aZ,Iv 10],false,hh):=by
    rw [qk (show pr.fns 121=some c121 from rfl) (by simp)]
    simp only [go_sem,seval,c121,zj h2,h3,qt8,wh49]
    exact ⟨_,rfl⟩
   obtain ⟨hh,this⟩:=this
   exact zu rfl this (by first | rfl | simp only [go_sem,seval]) (by first | rfl | simp only [go_sem,seval])
  ·have wh49:X pr (.loop qeb) ⟨[(2,.ptr 0 0,false),(3,.vptr (aE a1),false),(4,.ptr 1 0,false),(6,.vptr (.agg [.str (j8 a1.kind),Iv (qbx a1.kind),qd8 a1.kind]),false),(24,.ptr 3 0,false)],[kR a0.day a0.lots a0.products a0.units,kZ,.map ji,.iter (j8 a1.kind) 0]⟩=some (.exit 0,⟨[(2,.ptr 0 0,false),(3,.vptr (aE a1),false),(4,.ptr 1 0,false),(6,.vptr (.agg [.str (j8 a1.kind),Iv (qbx a1.kind),qd8 a1.kind]),false),(24,.ptr 3 0,false),(25,.tup [.bool false],false),(26,.bool false,false)],[kR a0.day a0.lots a0.products a0.units,kZ,.map ji,.iter (j8 a1.kind) d51]⟩):=q99 a0 a1 h49
   obtain ⟨v,hv,h⟩:=qb h
   have hfn:qd8 a1.kind=.fn (.func (qv4 a1.kind)) [] []:=by rw [je7]; exact jdq hv
   simp only [hfn] at wh49
   have af:∀ (n:Int) (b:ABox),jr 4 (Iv n) [b,kZ,.map ji,.iter (j8 a1.kind) d51]=[b,kZ,.map ji,.iter (j8 a1.kind) d51]:=fun _ _=>ya rfl
   rcases jf3 (x1:=kZ) (x2:=.map ji) (x3:=.iter (j8 a1.kind) d51) hv with ⟨w1,w2,w3,g,hd⟩ | ⟨h0,hd,n,b,cs,g,g2,hn,hpos,hs⟩
   ·rcases qd h with ⟨h5,h⟩ | ⟨h5,h⟩
    ·cases h
     have this:∃ hh,qn pr (X pr) 121 [aR a0,aE a1] []=some (.tup [aG v1 v.2.lots v.2.products v.2.units,Iv 0],false,hh):=by
      rw [qk (show pr.fns 121=some c121 from rfl) (by simp)]
      simp only [go_sem,seval,c121,zj h2,h3,qt8,wh49,hfn,g,af,h5]
      exact ⟨_,rfl⟩
     obtain ⟨hh,this⟩:=this
     exact zu rfl this (by first | rfl | simp only [go_sem,seval]) (by first | rfl | simp only [go_sem,seval])
    ·cases h
     have this:∃ hh,qn pr (X pr) 121 [aR a0,aE a1] []=some (.tup [aZ,Iv v.1],false,hh):=by
      rw [qk (show pr.fns 121=some c121 from rfl) (by simp)]
      simp only [go_sem,seval,c121,zj h2,h3,qt8,wh49,hfn,g,af,h5]
      exact ⟨_,rfl⟩
     obtain ⟨hh,this⟩:=this
     exact zu rfl this (by first | rfl | simp only [go_sem,seval]) (by first | rfl | simp only [go_sem,seval])
   ·have h5:decide (v.1=0)=true:=decide_eq_true h0
    rw [h5] at h
    cases h
    have ab:∀ (n:Int) (c:ABox),jr 4 (Iv n) [c,kZ,.map ji,.iter (j8 a1.kind) d51,b,.cells cs]=(bif qbn 4 c && zn 4 [kZ,.map ji,.iter (j8 a1.kind) d51] then [c,kZ,.map ji,.iter (j8 a1.kind) d51] else [c,kZ,.map ji,.iter (j8 a1.kind) d51,b,.cells cs]):=fun _ _=>rfl
    have this:qn pr (X pr) 121 [aR a0,aE a1] []=some (.tup [.agg [Iv v1,sl 5 jg v.2.lots,sl 4 qz v.2.products,.ms 5 0 n],Iv 0],false,[.cells [(Iv v1,false),(sl 5 jg v.2.lots,false),(sl 4 qz v.2.products,false),(.ms 5 0 n,false)],.cells [(Iv v1,false),(sl 5 jg v.2.lots,false),(sl 4 qz v.2.products,false),(.ms 5 0 n,false)],.map ji,.iter (j8 a1.kind) d51,b,.cells cs]):=by
     rw [qk (show pr.fns 121=some c121 from rfl) (by simp)]
     simp only [go_sem,seval,c121,zj h2,h3,qt8,wh49,hfn,g,(show ∀ n,below 4 (.ms 5 0 n)=false from fun _=>rfl),Bool.false_and,Bool.and_false,cond_false] <;> rfl
    have fz:kf [.cells [(Iv v1,false),(sl 5 jg v.2.lots,false),(sl 4 qz v.2.products,false),(.ms 5 0 n,false)],.cells [(Iv v1,false),(sl 5 jg v.2.lots,false),(sl 4 qz v.2.products,false),(.ms 5 0 n,false)],.map ji,.iter (j8 a1.kind) d51,b,.cells cs] (.ms 5 0 n)=some (sl 8 vun v.2.units):=by
     have hu:v.2.units=some (v.2.units.getD []):=by cases hq:v.2.units with
      | some _=>rfl
      | none=>rw [hq] at hs; cases hs
     rw [hn] at hpos ⊢
     rw [hu]
     exact qcv E_un hpos g2
    refine zu rfl this (v':=.tup [aG v1 v.2.lots v.2.products v.2.units,Iv 0]) ?_ (by first | rfl | simp only [go_sem,seval])
    simp only [go_sem,seval,fz] <;> rfl
end Go.Z
