/- Chapter 10. -/
import Derived.Test.YtfopaakmgogpiaaGreatDoorCA
import Derived.Test.YtfopaakmgogpiaaGreatDoorAbsL
set_option linter.unusedVariables false
set_option linter.unusedSimpArgs false
set_option maxRecDepth 100000
set_option maxHeartbeats 4000000
namespace Go.Z
open Go Go.Abs Go.W
noncomputable def f53 (a0:Bool) (a1:Int):Option Int:=
 cond a0
  (some a1)
  (some 0)
theorem W53 {a0:Bool} {a1:Int} {r} (h:f53 a0 a1=some r):qc pr (X pr) 53 [.bool a0,Iv a1]=some (Iv r,false):=by
 unfold f53 at h
 refine zg c53 ?_
 repeat' first | (replace h:=qd h; rcases h with ⟨g,h⟩ | ⟨g,h⟩) | fail
 all_goals (cases h <;> (simp only [go_sem,seval,c53,*]; exact ⟨_,rfl⟩))
noncomputable def qob (a0:Option (List Int)) (s0:Int):Option (Int ⊕ (Int ⊕ Int)):=
 cond (decide (s0 < ((a0.getD []).length:Int)))
  (qa (qw (a0.getD []) s0) fun v10=>
  cond (decide (v10=0))
   (some (.inl (qe .i64 (s0 + 1))))
   (some (.inr (.inl v10))))
  (some (.inr (.inr s0)))
def qqu (a0:Option (List Int)) (s0:Int):ASt:=⟨[(5,sl 1 zw a0,false),(6,Lv a0,false),(7,Iv s0,false)],[]⟩
def qow (a0:Option (List Int)):Int ⊕ Int→jd × ASt
 | .inl d=>(.ret,⟨[(2,Iv d,false)],[]⟩)
 | .inr d=>(.exit 0,⟨[(5,sl 1 zw a0,false),(6,Lv a0,false),(7,Iv d,false),(8,.bool false,false)],[]⟩)
theorem jyc (a0:Option (List Int)) (s0:Int) (r) (h:qob a0 s0=some r):jy pr qut (qqu a0) (qow a0) s0 r:=by
 unfold qob at h
 repeat' first | (replace h:=qb h; obtain ⟨d,g,h⟩:=h) | (replace h:=qd h; rcases h with ⟨g,h⟩ | ⟨g,h⟩) | fail
 all_goals (cases h <;> (first | (refine jb ?_; simp only [go_sem,seval,qut,qqu,qv,qow,*] <;> rfl) | (refine js ?_; simp only [go_sem,seval,qut,qqu,qv,qow,*] <;> rfl)))
theorem j4z (a0:Option (List Int)) {s0:Int} {d} (h:itO (qob a0) s0=some d):X pr (.loop qut) (qqu a0 s0)=some (qow a0 d):=zf (jyc a0) (fun d=>by rcases d with d|d <;> (intro hh; cases hh)) h
noncomputable def f51 (a0:Option (List Int)):Option Int:=
 qa (itO (qob a0) 0) fun d13=>match d13 with
  | .inl d15=>
   some d15
  | .inr d16=>
   some 0
theorem W51 {a0:Option (List Int)} {r} (h:f51 a0=some r):qc pr (X pr) 51 [sl 1 zw a0]=some (Iv r,false):=by
 unfold f51 at h
 refine zg c51 ?_
 repeat' first | (replace h:=qb h; obtain ⟨d,g,h⟩:=h; with_reducible first | (replace g:=j4z a0 g; rcases d with d | d <;> dsimp only [qqu,qow,zi] at g h) | skip) | (replace h:=qd h; rcases h with ⟨g,h⟩ | ⟨g,h⟩) | fail
 all_goals (cases h <;> (simp only [go_sem,seval,c51,*]; exact ⟨_,rfl⟩))
noncomputable def f52 (a0:Int) (a1:Int) (a2:Int):Option Int:=
 cond (decide (a0 < a1))
  (qa (f53 true 3) fun v2=>
  some v2)
  (qa (f53 (decide (a2 < a0)) 3) fun v4=>
  some v4)
theorem W52 {a0:Int} {a1:Int} {a2:Int} {r} (h:f52 a0 a1 a2=some r):qc pr (X pr) 52 [Iv a0,Iv a1,Iv a2]=some (Iv r,false):=by
 unfold f52 at h
 refine zg c52 ?_
 repeat' first | (replace h:=qb h; obtain ⟨d,g,h⟩:=h; with_reducible first | replace g:=W53 g | skip) | (replace h:=qd h; rcases h with ⟨g,h⟩ | ⟨g,h⟩) | fail
 all_goals (cases h <;> (simp only [go_sem,seval,c52,*]; exact ⟨_,rfl⟩))
noncomputable def qke (a0:List UInt8) (s0:Int):Option (Int ⊕ (Unit ⊕ Int)):=
 cond (decide (s0 < (a0.length:Int)))
  (qa (qw a0 s0) fun v70=>
  cond (decide (65≤(v70.toNat:Int)))
   (cond (decide ((v70.toNat:Int)≤90))
    (cond (decide (48≤(v70.toNat:Int)))
     (cond (decide ((v70.toNat:Int)≤57))
      (some (.inl (qe .i64 (s0 + 1))))
      (some (.inl (qe .i64 (s0 + 1)))))
     (some (.inl (qe .i64 (s0 + 1)))))
    (cond (decide (97≤(v70.toNat:Int)))
     (cond (decide (48≤(v70.toNat:Int)))
      (cond (decide ((v70.toNat:Int)≤57))
       (cond (decide ((v70.toNat:Int)≤122))
        (some (.inl (qe .i64 (s0 + 1))))
        (cond (decide (s0=0))
         (some (.inr (.inl ())))
         (some (.inl (qe .i64 (s0 + 1))))))
       (cond (decide ((v70.toNat:Int)≤122))
        (some (.inl (qe .i64 (s0 + 1))))
        (cond (decide (s0=0))
         (some (.inr (.inl ())))
         (cond (decide ((v70.toNat:Int)=95))
          (some (.inl (qe .i64 (s0 + 1))))
          (some (.inr (.inl ())))))))
      (cond (decide ((v70.toNat:Int)≤122))
       (some (.inl (qe .i64 (s0 + 1))))
       (cond (decide (s0=0))
        (some (.inr (.inl ())))
        (cond (decide ((v70.toNat:Int)=95))
         (some (.inl (qe .i64 (s0 + 1))))
         (some (.inr (.inl ())))))))
     (cond (decide (48≤(v70.toNat:Int)))
      (cond (decide ((v70.toNat:Int)≤57))
       (cond (decide (s0=0))
        (some (.inr (.inl ())))
        (some (.inl (qe .i64 (s0 + 1)))))
       (cond (decide (s0=0))
        (some (.inr (.inl ())))
        (cond (decide ((v70.toNat:Int)=95))
         (some (.inl (qe .i64 (s0 + 1))))
         (some (.inr (.inl ()))))))
      (cond (decide (s0=0))
       (some (.inr (.inl ())))
       (cond (decide ((v70.toNat:Int)=95))
        (some (.inl (qe .i64 (s0 + 1))))
        (some (.inr (.inl ()))))))))
   (cond (decide (97≤(v70.toNat:Int)))
    (cond (decide (48≤(v70.toNat:Int)))
     (cond (decide ((v70.toNat:Int)≤57))
      (cond (decide ((v70.toNat:Int)≤122))
       (some (.inl (qe .i64 (s0 + 1))))
       (cond (decide (s0=0))
        (some (.inr (.inl ())))
        (some (.inl (qe .i64 (s0 + 1))))))
      (cond (decide ((v70.toNat:Int)≤122))
       (some (.inl (qe .i64 (s0 + 1))))
       (cond (decide (s0=0))
        (some (.inr (.inl ())))
        (cond (decide ((v70.toNat:Int)=95))
         (some (.inl (qe .i64 (s0 + 1))))
         (some (.inr (.inl ())))))))
     (cond (decide ((v70.toNat:Int)≤122))
      (some (.inl (qe .i64 (s0 + 1))))
      (cond (decide (s0=0))
       (some (.inr (.inl ())))
       (cond (decide ((v70.toNat:Int)=95))
        (some (.inl (qe .i64 (s0 + 1))))
        (some (.inr (.inl ())))))))
    (cond (decide (48≤(v70.toNat:Int)))
     (cond (decide ((v70.toNat:Int)≤57))
      (cond (decide (s0=0))
       (some (.inr (.inl ())))
       (some (.inl (qe .i64 (s0 + 1)))))
      (cond (decide (s0=0))
       (some (.inr (.inl ())))
       (cond (decide ((v70.toNat:Int)=95))
        (some (.inl (qe .i64 (s0 + 1))))
        (some (.inr (.inl ()))))))
     (cond (decide (s0=0))
      (some (.inr (.inl ())))
      (cond (decide ((v70.toNat:Int)=95))
       (some (.inl (qe .i64 (s0 + 1))))
       (some (.inr (.inl ()))))))))
  (some (.inr (.inr s0)))
def qq4 (a0:List UInt8) (s0:Int):ASt:=⟨[(0,.str a0,false),(3,Iv s0,false)],[]⟩
def qrj (a0:List UInt8):Unit ⊕ Int→jd × ASt
 | .inl d=>(.ret,⟨[(2,.bool false,false)],[]⟩)
 | .inr d=>(.exit 0,⟨[(0,.str a0,false),(3,Iv d,false),(17,.bool false,false)],[]⟩)
theorem j3d (a0:List UInt8) (s0:Int) (r) (h:qke a0 s0=some r):jy pr qu9 (qq4 a0) (qrj a0) s0 r:=by
 unfold qke at h
 repeat' first | (replace h:=qb h; obtain ⟨d,g,h⟩:=h) | (replace h:=qd h; rcases h with ⟨g,h⟩ | ⟨g,h⟩) | fail
 all_goals (cases h <;> (first | (refine jb ?_; simp only [go_sem,seval,qu9,qq4,q0k,qrj,*] <;> rfl) | (refine js ?_; simp only [go_sem,seval,qu9,qq4,q0k,qrj,*] <;> rfl)))
theorem j0e (a0:List UInt8) {s0:Int} {d} (h:itO (qke a0) s0=some d):X pr (.loop qu9) (qq4 a0 s0)=some (qrj a0 d):=zf (j3d a0) (fun d=>by rcases d with d|d <;> (intro hh; cases hh)) h
noncomputable def f26 (a0:List UInt8):Option Bool:=
 cond (decide ((a0.length:Int)=0))
  (some false)
  (cond (decide (24 < (a0.length:Int)))
   (some false)
   (qa (itO (qke a0) 0) fun d112=>match d112 with
    | .inl d114=>
     some false
    | .inr d115=>
     some true))
theorem W26 {a0:List UInt8} {r} (h:f26 a0=some r):qc pr (X pr) 26 [.str a0]=some (.bool r,false):=by
 unfold f26 at h
 refine zg c26 ?_
 repeat' first | (replace h:=qb h; obtain ⟨d,g,h⟩:=h; with_reducible first | (replace g:=j0e a0 g; rcases d with d | d <;> dsimp only [qq4,qrj,zi] at g h) | skip) | (replace h:=qd h; rcases h with ⟨g,h⟩ | ⟨g,h⟩) | fail
 all_goals (cases h <;> (simp only [go_sem,seval,c26,*]; exact ⟨_,rfl⟩))
noncomputable def qhj (a0:List UInt8):Option (Option (Nat) ⊕ (Nat ⊕ Nat)):=
 cond (decide (0 < a0.length))
  (cond (decide (65≤((qo a0 0).1:Int)))
   (cond (decide (((qo a0 0).1:Int)≤90))
    (cond (decide (48≤((qo a0 0).1:Int)))
     (cond (decide (((qo a0 0).1:Int)≤57))
      (some (.inl (some (0 + (qo a0 0).2))))
      (some (.inl (some (0 + (qo a0 0).2)))))
     (some (.inl (some (0 + (qo a0 0).2)))))
    (cond (decide (97≤((qo a0 0).1:Int)))
     (cond (decide (48≤((qo a0 0).1:Int)))
      (cond (decide (((qo a0 0).1:Int)≤57))
       (cond (decide (((qo a0 0).1:Int)≤122))
        (some (.inl (some (0 + (qo a0 0).2))))
        (some (.inr (.inl (0 + (qo a0 0).2)))))
       (cond (decide (((qo a0 0).1:Int)≤122))
        (some (.inl (some (0 + (qo a0 0).2))))
        (some (.inr (.inl (0 + (qo a0 0).2))))))
      (cond (decide (((qo a0 0).1:Int)≤122))
       (some (.inl (some (0 + (qo a0 0).2))))
       (some (.inr (.inl (0 + (qo a0 0).2))))))
     (cond (decide (48≤((qo a0 0).1:Int)))
      (cond (decide (((qo a0 0).1:Int)≤57))
       (some (.inr (.inl (0 + (qo a0 0).2))))
       (some (.inr (.inl (0 + (qo a0 0).2)))))
      (some (.inr (.inl (0 + (qo a0 0).2)))))))
   (cond (decide (97≤((qo a0 0).1:Int)))
    (cond (decide (48≤((qo a0 0).1:Int)))
     (cond (decide (((qo a0 0).1:Int)≤57))
      (cond (decide (((qo a0 0).1:Int)≤122))
       (some (.inl (some (0 + (qo a0 0).2))))
       (some (.inr (.inl (0 + (qo a0 0).2)))))
      (cond (decide (((qo a0 0).1:Int)≤122))
       (some (.inl (some (0 + (qo a0 0).2))))
       (some (.inr (.inl (0 + (qo a0 0).2))))))
     (cond (decide (((qo a0 0).1:Int)≤122))
      (some (.inl (some (0 + (qo a0 0).2))))
      (some (.inr (.inl (0 + (qo a0 0).2))))))
    (cond (decide (48≤((qo a0 0).1:Int)))
     (cond (decide (((qo a0 0).1:Int)≤57))
      (some (.inr (.inl (0 + (qo a0 0).2))))
      (some (.inr (.inl (0 + (qo a0 0).2)))))
     (some (.inr (.inl (0 + (qo a0 0).2)))))))
  (some (.inr (.inr 0)))
noncomputable def qhs (a0:List UInt8) (s0:Nat):Option (Option (Nat) ⊕ (Nat ⊕ Nat)):=
 cond (decide (s0 < a0.length))
  (cond (decide (65≤((qo a0 s0).1:Int)))
   (cond (decide (((qo a0 s0).1:Int)≤90))
    (cond (decide (48≤((qo a0 s0).1:Int)))
     (cond (decide (((qo a0 s0).1:Int)≤57))
      (some (.inl (some (s0 + (qo a0 s0).2))))
      (some (.inl (some (s0 + (qo a0 s0).2)))))
     (some (.inl (some (s0 + (qo a0 s0).2)))))
    (cond (decide (97≤((qo a0 s0).1:Int)))
     (cond (decide (48≤((qo a0 s0).1:Int)))
      (cond (decide (((qo a0 s0).1:Int)≤57))
       (cond (decide (((qo a0 s0).1:Int)≤122))
        (some (.inl (some (s0 + (qo a0 s0).2))))
        (cond (decide ((s0:Int)=0))
         (some (.inr (.inl (s0 + (qo a0 s0).2))))
         (some (.inl (some (s0 + (qo a0 s0).2))))))
       (cond (decide (((qo a0 s0).1:Int)≤122))
        (some (.inl (some (s0 + (qo a0 s0).2))))
        (cond (decide ((s0:Int)=0))
         (some (.inr (.inl (s0 + (qo a0 s0).2))))
         (cond (decide (((qo a0 s0).1:Int)=95))
          (some (.inl (some (s0 + (qo a0 s0).2))))
          (some (.inr (.inl (s0 + (qo a0 s0).2))))))))
      (cond (decide (((qo a0 s0).1:Int)≤122))
       (some (.inl (some (s0 + (qo a0 s0).2))))
       (cond (decide ((s0:Int)=0))
        (some (.inr (.inl (s0 + (qo a0 s0).2))))
        (cond (decide (((qo a0 s0).1:Int)=95))
         (some (.inl (some (s0 + (qo a0 s0).2))))
         (some (.inr (.inl (s0 + (qo a0 s0).2))))))))
     (cond (decide (48≤((qo a0 s0).1:Int)))
      (cond (decide (((qo a0 s0).1:Int)≤57))
       (cond (decide ((s0:Int)=0))
        (some (.inr (.inl (s0 + (qo a0 s0).2))))
        (some (.inl (some (s0 + (qo a0 s0).2)))))
       (cond (decide ((s0:Int)=0))
        (some (.inr (.inl (s0 + (qo a0 s0).2))))
        (cond (decide (((qo a0 s0).1:Int)=95))
         (some (.inl (some (s0 + (qo a0 s0).2))))
         (some (.inr (.inl (s0 + (qo a0 s0).2)))))))
      (cond (decide ((s0:Int)=0))
       (some (.inr (.inl (s0 + (qo a0 s0).2))))
       (cond (decide (((qo a0 s0).1:Int)=95))
        (some (.inl (some (s0 + (qo a0 s0).2))))
        (some (.inr (.inl (s0 + (qo a0 s0).2)))))))))
   (cond (decide (97≤((qo a0 s0).1:Int)))
    (cond (decide (48≤((qo a0 s0).1:Int)))
     (cond (decide (((qo a0 s0).1:Int)≤57))
      (cond (decide (((qo a0 s0).1:Int)≤122))
       (some (.inl (some (s0 + (qo a0 s0).2))))
       (cond (decide ((s0:Int)=0))
        (some (.inr (.inl (s0 + (qo a0 s0).2))))
        (some (.inl (some (s0 + (qo a0 s0).2))))))
      (cond (decide (((qo a0 s0).1:Int)≤122))
       (some (.inl (some (s0 + (qo a0 s0).2))))
       (cond (decide ((s0:Int)=0))
        (some (.inr (.inl (s0 + (qo a0 s0).2))))
        (cond (decide (((qo a0 s0).1:Int)=95))
         (some (.inl (some (s0 + (qo a0 s0).2))))
         (some (.inr (.inl (s0 + (qo a0 s0).2))))))))
     (cond (decide (((qo a0 s0).1:Int)≤122))
      (some (.inl (some (s0 + (qo a0 s0).2))))
      (cond (decide ((s0:Int)=0))
       (some (.inr (.inl (s0 + (qo a0 s0).2))))
       (cond (decide (((qo a0 s0).1:Int)=95))
        (some (.inl (some (s0 + (qo a0 s0).2))))
        (some (.inr (.inl (s0 + (qo a0 s0).2))))))))
    (cond (decide (48≤((qo a0 s0).1:Int)))
     (cond (decide (((qo a0 s0).1:Int)≤57))
      (cond (decide ((s0:Int)=0))
       (some (.inr (.inl (s0 + (qo a0 s0).2))))
       (some (.inl (some (s0 + (qo a0 s0).2)))))
      (cond (decide ((s0:Int)=0))
       (some (.inr (.inl (s0 + (qo a0 s0).2))))
       (cond (decide (((qo a0 s0).1:Int)=95))
        (some (.inl (some (s0 + (qo a0 s0).2))))
        (some (.inr (.inl (s0 + (qo a0 s0).2)))))))
     (cond (decide ((s0:Int)=0))
      (some (.inr (.inl (s0 + (qo a0 s0).2))))
      (cond (decide (((qo a0 s0).1:Int)=95))
       (some (.inl (some (s0 + (qo a0 s0).2))))
       (some (.inr (.inl (s0 + (qo a0 s0).2)))))))))
  (some (.inr (.inr s0)))
noncomputable def qvp (a0:List UInt8):Option (Nat)→Option (Option (Nat) ⊕ (Nat ⊕ Nat))
 | none=>qhj a0
 | some x=>qhs a0 x
def qmp (a0:List UInt8) (s0:Nat):ASt:=⟨[(0,.str a0,false),(8,.ptr 0 0,false),(46,.bool false,false)],[.iter a0 s0]⟩
def qf7 (a0:List UInt8):Option (Nat)→ASt
 | none=>⟨[(0,.str a0,false),(8,.ptr 0 0,false)],[.iter a0 0]⟩
 | some x=>qmp a0 x
def qgi (a0:List UInt8):Nat ⊕ Nat→jd × ASt
 | .inl d=>(.ret,⟨[(2,.bool false,false)],[.iter a0 d]⟩)
 | .inr d=>(.exit 0,⟨[(0,.str a0,false),(8,.ptr 0 0,false),(9,.tup [.bool false],false),(10,.bool false,false)],[.iter a0 d]⟩)
theorem jmu (a0:List UInt8) (r) (h:qhj a0=some r):jy pr qif (qf7 a0) (qgi a0) none r:=by
 unfold qhj at h
 repeat' first | (replace h:=qd h; rcases h with ⟨g,h⟩ | ⟨g,h⟩) | fail
 all_goals (cases h <;> (first | (refine jb ?_; simp only [go_sem,seval,qif,qf7,qmp,qhl,qgi,*] <;> rfl) | (refine js ?_; simp only [go_sem,seval,qif,qf7,qmp,qhl,qgi,*] <;> rfl)))
theorem jmt (a0:List UInt8) (s0:Nat) (r) (h:qhs a0 s0=some r):jy pr qif (qf7 a0) (qgi a0) (some s0) r:=by
 unfold qhs at h
 repeat' first | (replace h:=qd h; rcases h with ⟨g,h⟩ | ⟨g,h⟩) | fail
 all_goals (cases h <;> (first | (refine jb ?_; simp only [go_sem,seval,qif,qf7,qmp,qhl,qgi,*] <;> rfl) | (refine js ?_; simp only [go_sem,seval,qif,qf7,qmp,qhl,qgi,*] <;> rfl)))
theorem j4e (a0:List UInt8):∀ (x:Option (Nat)) (r) (h:qvp a0 x=some r),jy pr qif (qf7 a0) (qgi a0) x r
 | none,r,h=>jmu a0 r h
 | some x,r,h=>jmt a0 x r h
theorem jvf (a0:List UInt8) {s0:Option (Nat)} {d} (h:itO (qvp a0) s0=some d):X pr (.loop qif) (qf7 a0 s0)=some (qgi a0 d):=zf (j4e a0) (fun d=>by rcases d with d|d <;> (intro hh; cases hh)) h
noncomputable def f56 (a0:List UInt8):Option Bool:=
 qa (itO (qvp a0) none) fun d192=>match d192 with
  | .inl d194=>
   some false
  | .inr d195=>
   cond (decide (a0=[]))
    (some false)
    (some (decide ((a0.length:Int)≤24)))
theorem W56 {a0:List UInt8} {r} (h:f56 a0=some r):qc pr (X pr) 56 [.str a0]=some (.bool r,false):=by
 unfold f56 at h
 refine zg c56 ?_
 repeat' first | (replace h:=qb h; obtain ⟨d,g,h⟩:=h; with_reducible first | (replace g:=jvf a0 g; rcases d with d | d <;> dsimp only [qf7,qgi,zi] at g h) | skip) | (replace h:=qd h; rcases h with ⟨g,h⟩ | ⟨g,h⟩) | fail
 all_goals (cases h <;> (simp only [go_sem,seval,c56,*]; exact ⟨_,rfl⟩))
end Go.Z
namespace Go.Z
open Go Go.Abs Go.W
noncomputable def qxa (a0:List UInt8):Option Int:=
 qa (f56 a0) fun v1=>
 qa (f53 (!v1) 8) fun v3=>
 some v3
theorem zar (hp:qf) {a0:List UInt8} {r} (h:qxa a0=some r):qn pr (X pr) 55 [.str a0] hp=some (Iv r,false,hp):=by
 unfold qxa at h
 obtain ⟨v1,h2,h⟩:=qb h
 have wh2:qc pr (X pr) 56 [.str a0]=some (.bool v1,false):=W56 h2
 obtain ⟨v3,h4,h⟩:=qb h
 have wh4:qc pr (X pr) 53 [.bool (!v1),Iv 8]=some (Iv v3,false):=W53 h4
 have hr:v3=r:=Option.some.inj h
 subst hr
 rw [qk (show pr.fns 55=some c55 from rfl) (by simp)]
 simp only [go_sem,seval,c55,wh2,wh4] <;> rfl
noncomputable def qw1 (a0:Int):Option Int:=
 qa (f52 a0 0 999999999) fun v1=>
 some v1
theorem zf3 (hp:qf) {a0:Int} {r} (h:qw1 a0=some r):qn pr (X pr) 58 [Iv a0] hp=some (Iv r,false,hp):=by
 unfold qw1 at h
 obtain ⟨v1,h2,h⟩:=qb h
 have wh2:qc pr (X pr) 52 [Iv a0,Iv 0,Iv 999999999]=some (Iv v1,false):=W52 h2
 have hr:v1=r:=Option.some.inj h
 subst hr
 rw [qk (show pr.fns 58=some c58 from rfl) (by simp)]
 simp only [go_sem,seval,c58,wh2] <;> rfl
noncomputable def qwb (a0:Option (List (List UInt8))) (s0:(Option (List Int)) × Int × Bool):Option (((Option (List Int)) × Int × Bool) ⊕ (((Option (List Int)) × Bool × Int))):=
 cond (decide (s0.2.1 < ((a0.getD []).length:Int)))
  (qa (qw (a0.getD []) s0.2.1) fun v18=>
  qa (qxa v18) fun v20=>
  cond s0.2.2
   (qa (apO s0.1 [v20]) fun v23=>
   some (.inl (v23,qe .i64 (s0.2.1 + 1),true)))
   (cond s0.1.isNone
    (qa (apO s0.1 [v20]) fun v26=>
    some (.inl (v26,qe .i64 (s0.2.1 + 1),true)))
    (none)))
  (some (.inr (s0.1,s0.2.2,s0.2.1)))
def qqz (a0:Option (List (List UInt8))) (s0:(Option (List Int)) × Int × Bool):ASt:=⟨[(1,.fn (.func 55) [] [],false),(5,sl 1 zw s0.1,s0.2.2),(8,sl 1 ye a0,false),(9,Lv a0,false),(10,Iv s0.2.1,false)],[]⟩
def qqx (a0:Option (List (List UInt8))) (d:((Option (List Int)) × Bool × Int)):jd × ASt:=(.exit 0,⟨[(1,.fn (.func 55) [] [],false),(5,sl 1 zw d.1,d.2.1),(8,sl 1 ye a0,false),(9,Lv a0,false),(10,Iv d.2.2,false),(11,.bool false,false)],[]⟩)
theorem j3m (a0:Option (List (List UInt8))) (s0:(Option (List Int)) × Int × Bool) (r) (h:qwb a0 s0=some r):jy pr qt9 (qqz a0) (qqx a0) s0 r:=by
 unfold qwb at h
 repeat' first | (replace h:=qb h; obtain ⟨d,g,h⟩:=h; with_reducible first | replace g:=zar [] g | replace g:=q5h g | skip) | (replace h:=qd h; rcases h with ⟨g,h⟩ | ⟨g,h⟩) | fail
 all_goals (cases h <;> (first | (refine jb ?_; simp only [go_sem,seval,qt9,qqz,qv,qqx,*] <;> rfl) | (refine js ?_; simp only [go_sem,seval,qt9,qqz,qv,qqx,*] <;> rfl)))
theorem j30 (a0:Option (List (List UInt8))) {s0:(Option (List Int)) × Int × Bool} {d} (h:itO (qwb a0) s0=some d):X pr (.loop qt9) (qqz a0 s0)=some (qqx a0 d):=zf (j3m a0) (fun d hh=>by cases hh) h
noncomputable def f54 (a0:Option (List (List UInt8))):Option ((Option (List Int)) × Bool):=
 qa (itO (qwb a0) (none,0,false)) fun d28=>
 some (d28.1,d28.2.1)
theorem W54 {a0:Option (List (List UInt8))} {r} (h:f54 a0=some r):qc pr (X pr) 54 [sl 1 ye a0,.fn (.func 55) [] []]=some (sl 1 zw r.1,r.2):=by
 unfold f54 at h
 refine kg c54 ?_
 repeat' first | (replace h:=qb h; obtain ⟨d,g,h⟩:=h; with_reducible first | (replace g:=j30 a0 g; dsimp only [qqz,qqx,zi] at g h) | skip) | (replace h:=qd h; rcases h with ⟨g,h⟩ | ⟨g,h⟩) | fail
 all_goals (cases h <;> (simp only [go_sem,seval,c54,*]; exact ⟨_,rfl⟩))
noncomputable def qu5 (a0:Option (List Int)) (s0:(Option (List Int)) × Int × Bool):Option (((Option (List Int)) × Int × Bool) ⊕ (((Option (List Int)) × Bool × Int))):=
 cond (decide (s0.2.1 < ((a0.getD []).length:Int)))
  (qa (qw (a0.getD []) s0.2.1) fun v18=>
  qa (qw1 v18) fun v20=>
  cond s0.2.2
   (qa (apO s0.1 [v20]) fun v23=>
   some (.inl (v23,qe .i64 (s0.2.1 + 1),true)))
   (cond s0.1.isNone
    (qa (apO s0.1 [v20]) fun v26=>
    some (.inl (v26,qe .i64 (s0.2.1 + 1),true)))
    (none)))
  (some (.inr (s0.1,s0.2.2,s0.2.1)))
def qp4 (a0:Option (List Int)) (s0:(Option (List Int)) × Int × Bool):ASt:=⟨[(1,.fn (.func 58) [] [],false),(5,sl 1 zw s0.1,s0.2.2),(8,sl 1 zw a0,false),(9,Lv a0,false),(10,Iv s0.2.1,false)],[]⟩
def qpr (a0:Option (List Int)) (d:((Option (List Int)) × Bool × Int)):jd × ASt:=(.exit 0,⟨[(1,.fn (.func 58) [] [],false),(5,sl 1 zw d.1,d.2.1),(8,sl 1 zw a0,false),(9,Lv a0,false),(10,Iv d.2.2,false),(11,.bool false,false)],[]⟩)
theorem jy4 (a0:Option (List Int)) (s0:(Option (List Int)) × Int × Bool) (r) (h:qu5 a0 s0=some r):jy pr qu0 (qp4 a0) (qpr a0) s0 r:=by
 unfold qu5 at h
 repeat' first | (replace h:=qb h; obtain ⟨d,g,h⟩:=h; with_reducible first | replace g:=zf3 [] g | replace g:=q5h g | skip) | (replace h:=qd h; rcases h with ⟨g,h⟩ | ⟨g,h⟩) | fail
 all_goals (cases h <;> (first | (refine jb ?_; simp only [go_sem,seval,qu0,qp4,qv,qpr,*] <;> rfl) | (refine js ?_; simp only [go_sem,seval,qu0,qp4,qv,qpr,*] <;> rfl)))
theorem jzo (a0:Option (List Int)) {s0:(Option (List Int)) × Int × Bool} {d} (h:itO (qu5 a0) s0=some d):X pr (.loop qu0) (qp4 a0 s0)=some (qpr a0 d):=zf (jy4 a0) (fun d hh=>by cases hh) h
noncomputable def f57 (a0:Option (List Int)):Option ((Option (List Int)) × Bool):=
 qa (itO (qu5 a0) (none,0,false)) fun d28=>
 some (d28.1,d28.2.1)
theorem W57 {a0:Option (List Int)} {r} (h:f57 a0=some r):qc pr (X pr) 57 [sl 1 zw a0,.fn (.func 58) [] []]=some (sl 1 zw r.1,r.2):=by
 unfold f57 at h
 refine kg c57 ?_
 repeat' first | (replace h:=qb h; obtain ⟨d,g,h⟩:=h; with_reducible first | (replace g:=jzo a0 g; dsimp only [qp4,qpr,zi] at g h) | skip) | (replace h:=qd h; rcases h with ⟨g,h⟩ | ⟨g,h⟩) | fail
 all_goals (cases h <;> (simp only [go_sem,seval,c57,*]; exact ⟨_,rfl⟩))
noncomputable def f122 (a0:Option (List (List UInt8))):Option ((Option (List (List UInt8))) × Bool):=
 cond a0.isNone
  (some (none,false))
  (qa (apO (some []) (a0.getD [])) fun v2=>
  some (v2,true))
theorem zfg {a0:Option (List (List UInt8))} {r} (h:f122 a0=some r):qc pr (X pr) 122 [sl 1 ye a0]=some (sl 1 ye r.1,r.2):=by
 unfold f122 at h
 refine kg c122 ?_
 repeat' first | (replace h:=qb h; obtain ⟨d,g,h⟩:=h) | (replace h:=qd h; rcases h with ⟨g,h⟩ | ⟨g,h⟩) | fail
 all_goals (cases h <;> (simp only [go_sem,seval,c122,ke,*]; exact ⟨_,rfl⟩))
noncomputable def f123 (a0:Option (List Int)):Option ((Option (List Int)) × Bool):=
 cond a0.isNone
  (some (none,false))
  (qa (apO (some []) (a0.getD [])) fun v2=>
  some (v2,true))
theorem j7m {a0:Option (List Int)} {r} (h:f123 a0=some r):qc pr (X pr) 123 [sl 1 zw a0]=some (sl 1 zw r.1,r.2):=by
 unfold f123 at h
 refine kg c123 ?_
 repeat' first | (replace h:=qb h; obtain ⟨d,g,h⟩:=h) | (replace h:=qd h; rcases h with ⟨g,h⟩ | ⟨g,h⟩) | fail
 all_goals (cases h <;> (simp only [go_sem,seval,c123,ke,*]; exact ⟨_,rfl⟩))
noncomputable def f66 (a0:GEv):Option GEv:=
 qa (f122 a0.names) fun v1=>
 qa (f123 a0.values) fun v3=>
 cond v1.2
  (cond v3.2
   (some (⟨a0.number,a0.kind,v1.1,v3.1,a0.text⟩))
   (some (⟨a0.number,a0.kind,v1.1,v3.1,a0.text⟩)))
  (cond v3.2
   (some (⟨a0.number,a0.kind,v1.1,v3.1,a0.text⟩))
   (some (⟨a0.number,a0.kind,v1.1,v3.1,a0.text⟩)))
theorem W66 {a0:GEv} {r} (h:f66 a0=some r):qc pr (X pr) 66 [aE a0]=some (aE r,false):=by
 unfold f66 at h
 refine zg c66 ?_
 repeat' first | (replace h:=qb h; obtain ⟨d,g,h⟩:=h; with_reducible first | replace g:=zfg g | replace g:=j7m g | skip) | (replace h:=qd h; rcases h with ⟨g,h⟩ | ⟨g,h⟩) | fail
 all_goals (cases h <;> (simp only [go_sem,seval,c66,*]; exact ⟨_,rfl⟩))
end Go.Z
