/-
  The tests that a unit fails: the runs.
-/
import Derived.Test.YtlonjmhacojkjaaGreatDoorL8
import Derived.Test.YtlonjmhacojkjaaGreatDoorAbsH
import Derived.KernelRfl
set_option linter.unusedVariables false
set_option linter.unusedSimpArgs false
set_option maxRecDepth 100000
namespace Go.Z
open Go Go.Abs
def failsB (x y v:Int):Bool:=decide (v < x) || decide (y < v)
def loM (m:GMask) (t:Nat):Int:=(m.least.getD []).getD t 0
def hiM (m:GMask) (t:Nat):Int:=(m.most.getD []).getD t 0
def failsAt (m:GMask) (t:Nat) (v:Int):Bool:=failsB (loM m t) (hiM m t) v
def failsL (m:GMask):Nat→List Int→List Int
 | _,[]=>[]
 | i,v::l=>if failsAt m i v=true then (i:Int)::failsL m (i + 1) l else failsL m (i + 1) l
theorem loM_get {m:GMask} {t:Nat} (h:t < (m.least.getD []).length):(m.least.getD [])[t]?=some (loM m t):=by
 simp [loM,List.getD_eq_getElem?_getD,List.getElem?_eq_getElem h]
theorem hiM_get {m:GMask} {t:Nat} (h:t < (m.most.getD []).length):(m.most.getD [])[t]?=some (hiM m t):=by
 simp [hiM,List.getD_eq_getElem?_getD,List.getElem?_eq_getElem h]
theorem runL_fails (m:GMask):∀ (l:List Int) (i:Nat) (s:List Int),runL (δ:=Empty) (fun i s v=>.inl (if failsAt m i v=true then s++[(i:Int)] else s)) i s l=.inl (s++failsL m i l)
 | [],i,s=>by simp [runL,failsL]
 | v::l,i,s=>by
  simp only [runL,failsL]
  rw [runL_fails m l (i + 1)]
  by_cases h:failsAt m i v=true
  ·simp [h]
  ·simp [h]
theorem I71 (m:GMask) (t:Nat) (v:Int) (h1:t < (m.least.getD []).length) (h2:t < (m.most.getD []).length):
  callIso pr (X pr) 71 [.agg [sl 1 vint m.least,sl 1 vint m.most],.int .i64 (t:Int),.int .i64 v]=some (.bool (failsAt m t v),false):=by
 have:∃ hh,callFn pr (X pr) 71 [.agg [sl 1 vint m.least,sl 1 vint m.most],.int .i64 (t:Int),.int .i64 v] []=some (.bool (failsAt m t v),false,hh):=by
  rw [callFn_at (show pr.fns 71=some c71 from rfl) (by simp)]
  by_cases hlt:v < loM m t
  ·simp only [go_sem,seval,c71,idx_sl (loM_get h1),hlt,failsAt,failsB]
   exact ⟨_,rfl⟩
  ·simp only [go_sem,seval,c71,idx_sl (loM_get h1),idx_sl (hiM_get h2),hlt,failsAt,failsB]
   exact ⟨_,rfl⟩
 obtain ⟨hh,this⟩:=this
 exact callIso_of rfl this rfl rfl
abbrev uBox (u:GUnit):ABox:=.cells [(.str u.serial,false),(sl 1 vint u.values,false)]
theorem l49 (m:GMask) (u:GUnit) (hn:(u.values.getD []).length≤1073741824) (h1:(u.values.getD []).length=(m.least.getD []).length) (h2:(u.values.getD []).length=(m.most.getD []).length):
  X pr (.loop c49_0) ⟨[(2,.ptr 0 0,false),(5,.list true 0 [],false),(9,sl 1 vint u.values,false),(10,.int .i64 ((u.values.getD []).length:Int),false),(11,.int .i64 0,false)],[mBox m,uBox u]⟩ =
   some (.exit 0,⟨[(2,.ptr 0 0,false),(5,acc 1 vint (failsL m 0 (u.values.getD [])),accO (failsL m 0 (u.values.getD []))),(9,sl 1 vint u.values,false),(10,.int .i64 ((u.values.getD []).length:Int),false),(11,.int .i64 ((u.values.getD []).length:Int),false),(12,.bool false,false)],[mBox m,uBox u]⟩):=by
 have:=X_loop_list (p:=pr) (c:=c49_0) (δ:=Empty) (u.values.getD []) (fun i (s:List Int)=>⟨[(2,.ptr 0 0,false),(5,acc 1 vint s,accO s),(9,sl 1 vint u.values,false),(10,.int .i64 ((u.values.getD []).length:Int),false),(11,.int .i64 (i:Int),false)],[mBox m,uBox u]⟩)
  (fun i s v=>.inl (if failsAt m i v=true then s++[(i:Int)] else s))
  (fun s=>(.exit 0,⟨[(2,.ptr 0 0,false),(5,acc 1 vint s,accO s),(9,sl 1 vint u.values,false),(10,.int .i64 ((u.values.getD []).length:Int),false),(11,.int .i64 ((u.values.getD []).length:Int),false),(12,.bool false,false)],[mBox m,uBox u]⟩))
  (fun d=>nomatch d) (fun i s=>s.length≤i) [] (fun _ h=>by cases h) (fun d=>nomatch d) ?_ ?_ (Nat.le_refl _)
 ·rw [Int.natCast_zero,runL_fails,List.nil_append] at this
  exact this
 ·intro s _
  have hlt:¬ (((u.values.getD []).length:Int) < ((u.values.getD []).length:Int)):=by omega
  simp only [go_sem,seval,c49_0,hlt]
 ·intro i s v hx hi hs
  have hlt:(i:Int) < ((u.values.getD []).length:Int):=by omega
  have hw:=wrap_succ hi (by omega)
  have hf:=I71 m i v (by omega) (by omega)
  by_cases hb:failsAt m i v=true
  ·refine stepL_in (s':=s++[(i:Int)]) (by simp only [if_pos hb]) (by simp; omega) ?_ (gc_same (Nat.le_refl _))
   cases s with
   | nil=>
    simp only [go_sem,seval,c49_0,mBox,uBox,hlt,idx_sl hx,hf,hb,hw,acc_cons,accO_cons]
    rfl
   | cons a s=>
    have h9:s.length≤1073741822:=by simp at hs; omega
    simp only [go_sem,seval,c49_0,mBox,uBox,hlt,idx_sl hx,hf,hb,hw,acc_cons,accO_cons,List.length_map,h9,List.map_append]
    rfl
  ·have hb':failsAt m i v=false:=by simpa using hb
   refine stepL_in (s':=s) (by simp only [if_neg hb]) (by omega) ?_ (gc_same (Nat.le_refl _))
   simp only [go_sem,seval,c49_0,mBox,uBox,hlt,idx_sl hx,hf,hb',hw]
theorem I49 (m:GMask) (u:GUnit) (hn:(u.values.getD []).length≤1073741824) (h1:(u.values.getD []).length=(m.least.getD []).length) (h2:(u.values.getD []).length=(m.most.getD []).length):
  callIso pr (X pr) 49 [.agg [sl 1 vint m.least,sl 1 vint m.most],.agg [.str u.serial,sl 1 vint u.values]]=some (sl 1 vint (nonNil (failsL m 0 (u.values.getD []))),accO (failsL m 0 (u.values.getD []))):=by
 have hl:=l49 m u hn h1 h2
 simp only [mBox,uBox,acc_sl] at hl
 have:∃ hh,callFn pr (X pr) 49 [.agg [sl 1 vint m.least,sl 1 vint m.most],.agg [.str u.serial,sl 1 vint u.values]] []=some (sl 1 vint (nonNil (failsL m 0 (u.values.getD []))),accO (failsL m 0 (u.values.getD [])),hh):=by
  rw [callFn_at (show pr.fns 49=some c49 from rfl) (by simp)]
  simp only [go_sem,seval,c49,hl]
  exact ⟨_,rfl⟩
 obtain ⟨hh,this⟩:=this
 exact callIso_sl rfl this below_ints
def testedE (m:GMask) (u:GUnit):Int:=firstNZ [maskE m,unitE u,whenE (!decide (((u.values.getD []).length:Int)=((m.least.getD []).length:Int))) 2]
theorem I48 (m:GMask) (u:GUnit) (hm:(m.least.getD []).length≤1073741824) (hu:sizeU u):
  callIso pr (X pr) 48 [.agg [sl 1 vint m.least,sl 1 vint m.most],.agg [.str u.serial,sl 1 vint u.values]]=some (.int .i64 (testedE m u),false):=by
 have:∃ hh,callFn pr (X pr) 48 [.agg [sl 1 vint m.least,sl 1 vint m.most],.agg [.str u.serial,sl 1 vint u.values]] []=some (.int .i64 (testedE m u),false,hh):=by
  rw [callFn_at (show pr.fns 48=some c48 from rfl) (by simp)]
  simp only [go_sem,seval,c48,I70 m hm,I50 u hu,I43,I41_3]
  exact ⟨_,rfl⟩
 obtain ⟨hh,this⟩:=this
 exact callIso_of rfl this rfl rfl
theorem testedE_mask {m:GMask} {u:GUnit} (h:testedE m u=0):maskE m=0:=by
 by_cases hh:maskE m=0
 ·exact hh
 ·simp only [testedE,firstNZ,if_neg hh] at h; exact h
theorem testedE_unit {m:GMask} {u:GUnit} (h:testedE m u=0):unitE u=0:=by
 have hm:=testedE_mask h
 by_cases hh:unitE u=0
 ·exact hh
 ·simp only [testedE,firstNZ,hm,if_true,if_neg hh] at h; exact absurd h hh
theorem testedE_len {m:GMask} {u:GUnit} (h:testedE m u=0):(u.values.getD []).length=(m.least.getD []).length:=by
 have hm:=testedE_mask h
 have hu:=testedE_unit h
 by_cases hh:((u.values.getD []).length:Int)=((m.least.getD []).length:Int)
 ·omega
 ·exfalso
  revert h
  simp [testedE,firstNZ,hm,hu,whenE,hh]
def failuresM (m:GMask) (u:GUnit):Option (List Int):=if testedE m u=0 then nonNil (failsL m 0 (u.values.getD [])) else none
theorem I13 (m:GMask) (u:GUnit) (hm:(m.least.getD []).length≤1073741824) (hu:sizeU u):
  callIso pr (X pr) 13 [.agg [sl 1 vint m.least,sl 1 vint m.most],.agg [.str u.serial,sl 1 vint u.values]]=some (.tup [sl 1 vint (failuresM m u),.int .i64 (testedE m u)],false):=by
 have:∃ hh,callFn pr (X pr) 13 [.agg [sl 1 vint m.least,sl 1 vint m.most],.agg [.str u.serial,sl 1 vint u.values]] []=some (.tup [sl 1 vint (failuresM m u),.int .i64 (testedE m u)],false,hh):=by
  rw [callFn_at (show pr.fns 13=some c13 from rfl) (by simp)]
  by_cases hz:testedE m u=0
  ·have h1:=testedE_len hz
   have h2:=maskE_len (testedE_mask hz)
   have h100:=I49 m u hu.2 h1 (by omega)
   have hf:failuresM m u=nonNil (failsL m 0 (u.values.getD [])):=if_pos hz
   rw [hf]
   simp only [go_sem,seval,c13,I48 m u hm hu,hz,h100]
   exact ⟨_,rfl⟩
  ·have hf:failuresM m u=none:=if_neg hz
   rw [hf]
   simp only [go_sem,seval,c13,I48 m u hm hu,hz]
   exact ⟨_,rfl⟩
 obtain ⟨hh,this⟩:=this
 exact callIso_of rfl this (by simp only [go_sem,seval]) (by simp only [go_sem,seval])
end Go.Z
/-
 Grades: the runs.
-/
namespace Go.Z
open Go Go.Abs
@[go_sem] theorem u_neg {k:IntKind} {x:Int}:unOpA .neg (.int k x)=some (.int k (wrapF k (0 - x))):=rfl
theorem firstNZ_zero:∀ {l:List Int},firstNZ l=0→∀ x∈l,x=0
 | y::l,h,x,hx=>by
  simp only [firstNZ] at h
  by_cases hy:y=0
  ·rw [if_pos hy] at h
   cases hx with
   | head=>exact hy
   | tail _ hx=>exact firstNZ_zero h x hx
  ·rw [if_neg hy] at h; exact absurd h hy
theorem checkRange_zero {n lo hi:Int} (h:checkRange n lo hi=0):lo≤n∧n≤hi:=by
 unfold checkRange at h
 by_cases h1:n < lo
 ·rw [if_pos h1] at h; cases h
 ·rw [if_neg h1] at h
  by_cases h2:hi < n
  ·rw [if_pos h2] at h; cases h
  ·omega
theorem checkEach_zero {lo hi:Int}:∀ {l:List Int},checkEach lo hi l=0→∀ x∈l,lo≤x∧x≤hi
 | y::l,h,x,hx=>by
  simp only [checkEach] at h
  by_cases hy:checkRange y lo hi=0
  ·rw [if_pos hy] at h
   cases hx with
   | head=>exact checkRange_zero hy
   | tail _ hx=>exact checkEach_zero h x hx
  ·rw [if_neg hy] at h; cases h
theorem whenE_zero {b:Bool} {e:Int} (he:e ≠ 0) (h:whenE b e=0):b=false:=by
 cases b with
 | false=>rfl
 | true=>exact absurd h he
theorem unitE_at {u:GUnit} (h:unitE u=0):∀ v∈u.values.getD [],-100000≤v∧v≤100000:=by
 unfold unitE at h
 exact checkEach_zero (firstNZ_zero h _ (by simp))
end Go.Z
/-
 Ratios and yields: the runs.
-/
namespace Go.Z
open Go Go.Abs
def eqsR (ks:List Kd) (neq:Bool) (h:Heap) (x y:Option AVal):Option ORes:=match x,y with
  | some (.agg a),some (.agg b)=>bif Nat.beq a.length ks.length && Nat.beq b.length ks.length then (match eqCells ks a b with
   | some t=>val h (.bool (bif neq then !t else t))
   | none=>none) else none
  | _,_=>none
@[go_sem] theorem s_eqs {p:AProg} {xc:XC} {h0:Nat} {al:Option (List Nat)} {e:Env} {h:Heap} {ks:List Kd} {neq:Bool} {x y:AOpd}:stepOp p xc h0 al e h (.eqs ks neq x y)=eqsR ks neq h (evalO e x) (evalO e y):=rfl
@[go_sem] theorem eqs2 {h:Heap} {a b c d:Int}:eqsR [.int,.int] false h (some (.agg [.int .i64 a,.int .i64 b])) (some (.agg [.int .i64 c,.int .i64 d]))=some ⟨.bool (decide (a=c) && decide (b=d)),false,none,h⟩:=by
 show (match eqCells [.int,.int] [.int .i64 a,.int .i64 b] [.int .i64 c,.int .i64 d] with | some t=>val h (.bool (bif false then !t else t)) | none=>none)=_
 have:eqCells [.int,.int] [.int .i64 a,.int .i64 b] [.int .i64 c,.int .i64 d]=some (decide (a=c) && decide (b=d)):=by
  have e:∀ x y:Int,(x == y)=decide (x=y):=fun x y=>by by_cases h:x=y <;> simp [h]
  simp only [eqCells,eqCell,e,decide_true,cond_true]
  by_cases h1:a=c <;> by_cases h2:b=d <;> simp [h1,h2]
 rw [this]
 rfl
end Go.Z
/-
 Binomials: that the numbers of ways are Pascal's,and Vandermonde's sum.
-/
namespace Go.Z
open Go Go.Abs
def conv (f g:Nat→Nat):Nat→Nat
 | 0=>f 0 * g 0
 | s + 1=>f 0 * g (s + 1) + conv (fun k=>f (k + 1)) g s
end Go.Z
/-
 Decisions,both: the runs.
-/
namespace Go.Z
open Go Go.Abs
def vbool (b:Bool):AVal:=.bool b
@[go_sem] theorem loadR_vbool {h0:Nat} {al:Option (List Nat)} {h:Heap} {b:Bool}:loadR h0 al false 1 h (some (.vptr (vbool b)))=some ⟨.bool b,false,none,h⟩:=rfl
@[go_sem] theorem below_bools {n z:Nat} {l:Option (List Bool)}:below n (sl z vbool l)=true:=below_sl fun _=>rfl
end Go.Z
