/-
  Contracts as functions, for the printed walks: lists of numbers.
-/
import Derived.Test.YtoljkienfmckjaaGreatDoorG0m
import Derived.Test.YtoljkienfmckjaaGreatDoorG0b
import Derived.Test.YtoljkienfmckjaaGreatDoorL8
import Derived.Test.YtoljkienfmckjaaGreatDoorL14
import Derived.Test.YtoljkienfmckjaaGreatDoorL5
import Derived.Test.YtoljkienfmckjaaGreatDoorG0
set_option linter.unusedVariables false
set_option linter.unusedSimpArgs false
set_option maxRecDepth 100000
namespace Go.Z
open Go Go.Abs
noncomputable def E5:Option Bool:=some true
theorem WE5 {r} (h:E5=some r):callIso pr (X pr) 5 []=some (.bool r,false):=by cases h; exact I5
noncomputable def E23 (a b:Option (List Int)):Option Bool:=exO ((a.getD []).length≤1073741824) (decide (a.getD []=b.getD []))
theorem WE23 {a b r} (h:E23 a b=some r):callIso pr (X pr) 23 [sl 1 vint a,sl 1 vint b]=some (.bool r,false):=by obtain ⟨h1,rfl⟩:=exO_some h; exact I23 _ _ h1
end Go.Z
/-
 Contracts as functions,for the printed walks: pairs of units.
-/
namespace Go.Z
open Go Go.Abs
structure GPair where
 a:Int
 b:Int
def vpair (p:GPair):AVal:=.agg [.int .i64 p.a,.int .i64 p.b]
@[go_sem] theorem flat_vpair {p:GPair}:(vpair p).flat=[.int .i64 p.a,.int .i64 p.b]:=rfl
@[go_sem] theorem below_vpair {n:Nat} (p:GPair):below n (vpair p)=true:=rfl
@[go_sem] theorem below_pairs {n:Nat} {l:Option (List GPair)}:below n (sl 2 vpair l)=true:=below_sl fun _=>rfl
@[go_sem] theorem loadR_vpair {h0:Nat} {al:Option (List Nat)} {h:Heap} {p:GPair}:loadR h0 al true 2 h (some (.vptr (vpair p)))=some ⟨.agg [.int .i64 p.a,.int .i64 p.b],false,none,h⟩:=rfl
@[go_sem] theorem indexArr_vpair0 {h:Heap} {k:IntKind} {p:GPair}:indexArrR false 2 1 h (some (.vptr (vpair p))) (some (.int k 0))=some ⟨.vptr (.int .i64 p.a),false,none,h⟩:=rfl
@[go_sem] theorem indexArr_vpair1 {h:Heap} {k:IntKind} {p:GPair}:indexArrR false 2 1 h (some (.vptr (vpair p))) (some (.int k 1))=some ⟨.vptr (.int .i64 p.b),false,none,h⟩:=rfl
noncomputable def E10 (o:Option (List GUnit)):Option Int:=exO ((o.getD []).length≤1073741824∧∀ u∈o.getD [],sizeU u) (unitsE (o.getD []))
theorem WE36 {o r} (h:E10 o=some r):callIso pr (X pr) 36 [sl 2 vunit o]=some (.int .i64 r,false):=by obtain ⟨⟨h1,h2⟩,rfl⟩:=exO_some h; exact I36 _ h1 h2
noncomputable def E8 (o:Option (List GUnit)):Option (Option (List GUnit)):=exO ((o.getD []).length≤1073741824∧∀ u∈o.getD [],okLen u) (nonNil ((o.getD []).map ownU))
theorem WE8 {o r} (h:E8 o=some r):callIso pr (X pr) 8 [sl 2 vunit o]=some (sl 2 vunit r,accO (o.getD [])):=by obtain ⟨⟨h1,h2⟩,rfl⟩:=exO_some h; exact I8 _ h1 h2
end Go.Z
/-
 LineTutte: the reference's check of units of any size.
-/
namespace Go.Z
open Go Go.Abs
noncomputable def E10w (o:Option (List GUnit)):Option Int:=exO ((o.getD []).length≤1073741824∧∀ u∈o.getD [],sizeW u) (unitsE (o.getD []))
theorem WE10w {o r} (h:E10w o=some r):callIso pr (X pr) 10 [sl 2 vunit o]=some (.int .i64 r,false):=by obtain ⟨⟨h1,h2⟩,rfl⟩:=exO_some h; exact I10w _ h1 h2
end Go.Z
