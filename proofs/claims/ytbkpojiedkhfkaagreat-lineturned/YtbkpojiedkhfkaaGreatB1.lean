/-
  Contracts as functions, for the printed walks: lists of numbers.
-/
import Derived.Test.YtbkpojiedkhfkaaGreatG0m
import Derived.Test.YtbkpojiedkhfkaaGreatG0b
import Derived.Test.YtbkpojiedkhfkaaGreatL8
import Derived.Test.YtbkpojiedkhfkaaGreatL14
set_option linter.unusedVariables false
set_option linter.unusedSimpArgs false
set_option maxRecDepth 100000
namespace Go.Z
open Go Go.Abs
noncomputable def E14:Option Bool:=some true
theorem WE14 {r} (h:E14=some r):callIso pr (X pr) 14 []=some (.bool r,false):=by cases h; exact I14
noncomputable def E24 (b:Bool) (e:Int):Option Int:=some (whenE b e)
theorem WE89 {b e r} (h:E24 b e=some r):callIso pr (X pr) 89 [.bool b,.int .i64 e]=some (.int .i64 r,false):=by cases h; exact I89 ..
noncomputable def E94 (o:Option (List Int)):Option Int:=exO ((o.getD []).length≤9223372036854775807∧o ≠ none) (firstNZ (o.getD []))
theorem WE87 {o r} (h:E94 o=some r):callIso pr (X pr) 87 [sl 1 vint o]=some (.int .i64 r,false):=by
 obtain ⟨h1,rfl⟩:=exO_some h
 cases o with
 | none=>exact absurd rfl h1.2
 | some l=>exact I87 l h1.1
end Go.Z
/-
 Work and benches: functions that mirror the runs,and the runs (printed by walk.py).
-/
set_option maxHeartbeats 4000000
namespace Go.Z
open Go Go.Abs
end Go.Z
/-
 Bounds,sorting,schedules: functions that mirror the runs,and the runs (printed by walk.py).
-/
namespace Go.Z
open Go Go.Abs
end Go.Z
/-
 The best schedule: the search that leaves out what cannot be better,and the one that tries all,find the same.
-/
namespace Go.Z
open Go Go.Abs
theorem idxM_at {n:Nat} {l:List Int} {i:Nat} (h:i < n):idxM n l (i:Int)=l[i]?:=by
 unfold idxM; rw [if_pos ⟨by omega,by omega⟩]; simp
end Go.Z
/-
 The best schedule: both searches.
-/
namespace Go.Z
open Go Go.Abs
theorem range_atN {n i t:Nat} (h:(List.range n)[i]?=some t):t=i∧i < n:=by
 obtain ⟨h1,h2⟩:=List.getElem?_eq_some_iff.1 h
 rw [List.length_range] at h1
 exact ⟨by simpa using h2.symm,h1⟩
theorem ap_one {α:Type} (l:List α) (x:α) (h:l.length + 1≤1073741824):apO (some l) [x]=some (some (l++[x])):=by
 unfold apO apS
 simp [h]
end Go.Z
