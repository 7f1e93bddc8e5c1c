/-
  Copies, comparisons, sizes: their runs.
-/
import Derived.Test.YtlonjmhacojkjaaGreatDoorL1
import Derived.Test.YtlonjmhacojkjaaGreatDoorAbsL
set_option linter.unusedVariables false
set_option linter.unusedSimpArgs false
set_option maxRecDepth 100000
namespace Go.Z
open Go Go.Abs
structure GUnit where
 serial:List UInt8
 values:Option (List Int)
structure GMask where
 least:Option (List Int)
 most:Option (List Int)
def vunit (u:GUnit):AVal:=.agg [.str u.serial,sl 1 vint u.values]
@[go_sem] theorem flat_vunit {u:GUnit}:(vunit u).flat=[.str u.serial,sl 1 vint u.values]:=rfl
theorem below_vunit {n:Nat} (u:GUnit):below n (vunit u)=true:=by simp only [vunit,go_sem]
@[go_sem] theorem below_units {n:Nat} {l:Option (List GUnit)}:below n (sl 2 vunit l)=true:=below_sl below_vunit
def ownI (o:Option (List Int)):Option (List Int):=some (o.getD [])
end Go.Z
/-
 Lists of units; comparisons; sizes; names: their runs.
-/
namespace Go.Z
open Go Go.Abs
attribute [go_sem] below_vunit
def acc {α:Type} (z:Nat) (f:α→AVal) (l:List α):AVal:=match l with
 | []=>.list true 0 []
 | a::l=>.list false z ((a::l).map f)
def accO {α:Type} (l:List α):Bool:=!l.isEmpty
def nonNil {α:Type} (l:List α):Option (List α):=match l with
 | []=>none
 | a::l=>some (a::l)
theorem acc_sl {α:Type} {z:Nat} {f:α→AVal} (l:List α):acc z f l=sl z f (nonNil l):=by cases l <;> rfl
@[go_sem] theorem acc_nil {α:Type} {z:Nat} {f:α→AVal}:acc z f []=.list true 0 []:=rfl
@[go_sem] theorem accO_nil {α:Type}:accO (α:=α) []=false:=rfl
theorem accO_map {α β:Type} (f:α→β) (l:List α):accO (l.map f)=accO l:=by cases l <;> rfl
theorem callIso_sl {α:Type} {p:AProg} {xc:XC} {h:Heap} {k z:Nat} {args:List AVal} {f:α→AVal} {l:Option (List α)} {o:Bool} (hp:p.prims k=none) (hc:callFn p xc k args []=some (sl z f l,o,h)) (hv:below 0 (sl z f l)=true):callIso p xc k args=some (sl z f l,o):=by
 rw [callIso_of hp hc frzR_sl hv,isList_sl,Bool.and_true]
theorem runL_eq {γ:Type} [DecidableEq γ]:∀ (a b:List γ),a.length=b.length→∀ i,runL (δ:=Unit) (fun _ _ xy=>if xy.1=xy.2 then .inl () else .inr ()) i () (a.zip b)=if a=b then .inl () else .inr ()
 | [],[],_,_=>rfl
 | [],_::_,h,_=>by cases h
 | _::_,[],h,_=>by cases h
 | x::a,y::b,h,i=>by
  simp only [List.zip_cons_cons,runL]
  by_cases hxy:x=y
  ·simp only [hxy,if_true]
   rw [runL_eq a b (by simpa using h)]
   simp
  ·simp [hxy]
theorem below_acc {α:Type} {n z:Nat} {f:α→AVal} (hf:∀ x,below n (f x)=true) (l:List α):below n (acc z f l)=true:=by
 rw [acc_sl]; exact below_sl hf
@[go_sem] theorem apRes_f {n:Bool} {z:Nat} {xs:List AVal} {y:AVal} {ys:List AVal}:apRes n z xs (y::ys)=.list false z (xs++y::ys):=by
 cases n <;> rfl
@[go_sem] theorem belowEnv_nil {n:Nat}:belowEnv n []=true:=rfl
@[go_sem] theorem belowEnv_cons {n t:Nat} {v:AVal} {o:Bool} {e:Env}:belowEnv n ((t,v,o)::e)=(below n v && belowEnv n e):=rfl
def ownU (u:GUnit):GUnit:=⟨u.serial,ownI u.values⟩
@[go_sem] theorem loadR_vunit {h0:Nat} {al:Option (List Nat)} {h:Heap} {u:GUnit}:loadR h0 al true 2 h (some (.vptr (vunit u)))=some ⟨.agg [.str u.serial,sl 1 vint u.values],false,none,h⟩:=rfl
theorem runL_map {α β δ:Type} (f:α→β):∀ (l:List α) (i:Nat) (s:List β),runL (δ:=δ) (fun _ s u=>.inl (s++[f u])) i s l=.inl (s++l.map f)
 | [],i,s=>by simp [runL]
 | x::l,i,s=>by simp only [runL]; rw [runL_map f l (i + 1)]; simp
theorem l8 (a b:Option (List Int)) (hn:(a.getD []).length≤1073741824) (he:(a.getD []).length=(b.getD []).length) (h:Heap):
  X pr (.loop c8_0) ⟨[(0,sl 1 vint a,false),(1,sl 1 vint b,false),(5,.int .i64 0,false)],h⟩ =
   some (if a.getD []=b.getD [] then (.exit 0,⟨[(0,sl 1 vint a,false),(1,sl 1 vint b,false),(5,.int .i64 ((a.getD []).length:Int),false),(14,.bool false,false)],h⟩) else (.ret,⟨[(4,.bool false,false)],h⟩)):=by
 have:=X_loop_list (p:=pr) (c:=c8_0) ((a.getD []).zip (b.getD [])) (fun i (_:Unit)=>⟨[(0,sl 1 vint a,false),(1,sl 1 vint b,false),(5,.int .i64 (i:Int),false)],h⟩)
  (fun _ _ xy=>if xy.1=xy.2 then .inl () else .inr ()) (fun _=>(.exit 0,⟨[(0,sl 1 vint a,false),(1,sl 1 vint b,false),(5,.int .i64 ((a.getD []).length:Int),false),(14,.bool false,false)],h⟩))
  (fun (_:Unit)=>(.ret,⟨[(4,.bool false,false)],h⟩)) (fun _ _=>True) () (fun _ h=>by cases h) (fun _ h=>by cases h) ?_ ?_ trivial
 ·rw [Int.natCast_zero] at this
  rw [this,runL_eq _ _ he]
  by_cases hab:a.getD []=b.getD [] <;> simp [hab,outL]
 ·intro s _
  have hz:((a.getD []).zip (b.getD [])).length=(a.getD []).length:=by rw [List.length_zip]; omega
  have hlt:¬ (((a.getD []).length:Int) < ((a.getD []).length:Int)):=by omega
  simp only [hz]
  simp only [go_sem,seval,c8_0,hlt]
 ·intro i s xy hx hi _
  rw [List.length_zip] at hi
  have hlt:(i:Int) < ((a.getD []).length:Int):=by omega
  obtain ⟨x,y⟩:=xy
  obtain ⟨hxa,hxb⟩:(a.getD [])[i]?=some x∧(b.getD [])[i]?=some y:=by
   rw [List.getElem?_zip_eq_some] at hx; exact hx
  have hw:=wrap_succ (show i < (a.getD []).length by omega) (by omega)
  unfold stepL
  by_cases hxy:x=y
  ·simp only [hxy,if_true]
   refine ⟨trivial,_,?_,gc_same (Nat.le_refl _)⟩
   subst hxy
   simp only [go_sem,seval,c8_0,hlt,idx_sl hxa,idx_sl hxb,hw]
  ·simp only [hxy,if_false]
   simp only [go_sem,seval,c8_0,hlt,idx_sl hxa,idx_sl hxb,hxy]
theorem I8 (a b:Option (List Int)) (hn:(a.getD []).length≤1073741824):callIso pr (X pr) 8 [sl 1 vint a,sl 1 vint b]=some (.bool (decide (a.getD []=b.getD [])),false):=by
 have:callFn pr (X pr) 8 [sl 1 vint a,sl 1 vint b] []=some (.bool (decide (a.getD []=b.getD [])),false,[]):=by
  rw [callFn_at (show pr.fns 8=some c8 from rfl) (by simp)]
  by_cases he:(a.getD []).length=(b.getD []).length
  ·have hl:=l8 a b hn he []
   have he':((a.getD []).length:Int)=((b.getD []).length:Int):=by omega
   by_cases hab:a.getD []=b.getD []
   ·simp only [hab,if_true] at hl
    simp only [go_sem,seval,c8,he',hl,hab]
   ·simp only [hab,if_false] at hl
    simp only [go_sem,seval,c8,he',hl,hab]
  ·have he':¬ ((a.getD []).length:Int)=((b.getD []).length:Int):=by omega
   have hab:¬ a.getD []=b.getD []:=fun hab=>he (by rw [hab])
   simp only [go_sem,seval,c8,he',hab]
 exact callIso_of rfl this rfl rfl
end Go.Z
