/-
  Copies, comparisons, sizes: their runs.
-/
import Derived.Test.YtbjckbpblomblaaL1
import Derived.Test.YtbjckbpblomblaaAbsL
set_option linter.unusedVariables false
set_option linter.unusedSimpArgs false
set_option maxRecDepth 100000
namespace Go.Z
open Go Go.Abs
structure GUnit where
 serial:List UInt8
 values:Option (List Int)
def vunit (u:GUnit):AVal:=.agg [.str u.serial,sl 1 vint u.values]
@[go_sem] theorem flat_vunit {u:GUnit}:(vunit u).flat=[.str u.serial,sl 1 vint u.values]:=rfl
theorem below_vunit {n:Nat} (u:GUnit):below n (vunit u)=true:=by simp only [vunit,go_sem]
@[go_sem] theorem below_units {n:Nat} {l:Option (List GUnit)}:below n (sl 2 vunit l)=true:=below_sl below_vunit
def ownI (o:Option (List Int)):Option (List Int):=some (o.getD [])
end Go.Z
/-
 Lists of units; comparisons; sizes; names: their runs.
-/
namespace Go.Z
open Go Go.Abs
attribute [go_sem] below_vunit
def acc {α:Type} (z:Nat) (f:α→AVal) (l:List α):AVal:=match l with
 | []=>.list true 0 []
 | a::l=>.list false z ((a::l).map f)
def accO {α:Type} (l:List α):Bool:=!l.isEmpty
def nonNil {α:Type} (l:List α):Option (List α):=match l with
 | []=>none
 | a::l=>some (a::l)
theorem acc_sl {α:Type} {z:Nat} {f:α→AVal} (l:List α):acc z f l=sl z f (nonNil l):=by cases l <;> rfl
@[go_sem] theorem acc_nil {α:Type} {z:Nat} {f:α→AVal}:acc z f []=.list true 0 []:=rfl
@[go_sem] theorem accO_nil {α:Type}:accO (α:=α) []=false:=rfl
theorem accO_map {α β:Type} (f:α→β) (l:List α):accO (l.map f)=accO l:=by cases l <;> rfl
theorem callIso_sl {α:Type} {p:AProg} {xc:XC} {h:Heap} {k z:Nat} {args:List AVal} {f:α→AVal} {l:Option (List α)} {o:Bool} (hp:p.prims k=none) (hc:callFn p xc k args []=some (sl z f l,o,h)) (hv:below 0 (sl z f l)=true):callIso p xc k args=some (sl z f l,o):=by
 rw [callIso_of hp hc frzR_sl hv,isList_sl,Bool.and_true]
theorem below_acc {α:Type} {n z:Nat} {f:α→AVal} (hf:∀ x,below n (f x)=true) (l:List α):below n (acc z f l)=true:=by
 rw [acc_sl]; exact below_sl hf
@[go_sem] theorem apRes_f {n:Bool} {z:Nat} {xs:List AVal} {y:AVal} {ys:List AVal}:apRes n z xs (y::ys)=.list false z (xs++y::ys):=by
 cases n <;> rfl
@[go_sem] theorem belowEnv_nil {n:Nat}:belowEnv n []=true:=rfl
@[go_sem] theorem belowEnv_cons {n t:Nat} {v:AVal} {o:Bool} {e:Env}:belowEnv n ((t,v,o)::e)=(below n v && belowEnv n e):=rfl
def ownU (u:GUnit):GUnit:=⟨u.serial,ownI u.values⟩
@[go_sem] theorem loadR_vunit {h0:Nat} {al:Option (List Nat)} {h:Heap} {u:GUnit}:loadR h0 al true 2 h (some (.vptr (vunit u)))=some ⟨.agg [.str u.serial,sl 1 vint u.values],false,none,h⟩:=rfl
theorem runL_map {α β δ:Type} (f:α→β):∀ (l:List α) (i:Nat) (s:List β),runL (δ:=δ) (fun _ s u=>.inl (s++[f u])) i s l=.inl (s++l.map f)
 | [],i,s=>by simp [runL]
 | x::l,i,s=>by simp only [runL]; rw [runL_map f l (i + 1)]; simp
end Go.Z
