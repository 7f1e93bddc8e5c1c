/-
  Comparisons of structs.
-/
import Derived.Test.YtlonjmhacojkjaaGreatDoorG0
import Derived.Test.YtlonjmhacojkjaaGreatDoorL14
set_option linter.unusedVariables false
set_option linter.unusedSimpArgs false
namespace Go.Z
open Go Go.Abs
@[go_sem] theorem eqs2q {h:Heap} {a b c d:Int}:eqsR [.int,.int] true h (some (.agg [.int .i64 a,.int .i64 b])) (some (.agg [.int .i64 c,.int .i64 d]))=some ⟨.bool (!(decide (a=c) && decide (b=d))),false,none,h⟩:=by
 show (match eqCells [.int,.int] [.int .i64 a,.int .i64 b] [.int .i64 c,.int .i64 d] with | some t=>val h (.bool (bif true then !t else t)) | none=>none)=_
 have:eqCells [.int,.int] [.int .i64 a,.int .i64 b] [.int .i64 c,.int .i64 d]=some (decide (a=c) && decide (b=d)):=by
  have e:∀ x y:Int,(x == y)=decide (x=y):=fun x y=>by by_cases h:x=y <;> simp [h]
  simp only [eqCells,eqCell,e,decide_true,cond_true]
  by_cases h1:a=c <;> by_cases h2:b=d <;> simp [h1,h2]
 rw [this]
 rfl
@[go_sem] theorem eqs3p {h:Heap} {a0 a1 a2 b1000 b1001 b1002:Int}:eqsR [.int,.int,.int] false h (some (.agg [.int .i64 a0,.int .i64 a1,.int .i64 a2])) (some (.agg [.int .i64 b1000,.int .i64 b1001,.int .i64 b1002]))=some ⟨.bool (decide (a0=b1000) && decide (a1=b1001) && decide (a2=b1002)),false,none,h⟩:=by
 show (match eqCells [.int,.int,.int] [.int .i64 a0,.int .i64 a1,.int .i64 a2] [.int .i64 b1000,.int .i64 b1001,.int .i64 b1002] with | some t=>val h (.bool (bif false then !t else t)) | none=>none)=_
 have:eqCells [.int,.int,.int] [.int .i64 a0,.int .i64 a1,.int .i64 a2] [.int .i64 b1000,.int .i64 b1001,.int .i64 b1002]=some (decide (a0=b1000) && decide (a1=b1001) && decide (a2=b1002)):=by
  have e:∀ x y:Int,(x == y)=decide (x=y):=fun x y=>by by_cases h:x=y <;> simp [h]
  simp only [eqCells,eqCell,e,decide_true,cond_true]
  by_cases h0:a0=b1000 <;> by_cases h1:a1=b1001 <;> by_cases h2:a2=b1002 <;> simp [h0,h1,h2]
 rw [this]
 rfl
@[go_sem] theorem eqs3n {h:Heap} {a0 a1 a2 b1000 b1001 b1002:Int}:eqsR [.int,.int,.int] true h (some (.agg [.int .i64 a0,.int .i64 a1,.int .i64 a2])) (some (.agg [.int .i64 b1000,.int .i64 b1001,.int .i64 b1002]))=some ⟨.bool (!(decide (a0=b1000) && decide (a1=b1001) && decide (a2=b1002))),false,none,h⟩:=by
 show (match eqCells [.int,.int,.int] [.int .i64 a0,.int .i64 a1,.int .i64 a2] [.int .i64 b1000,.int .i64 b1001,.int .i64 b1002] with | some t=>val h (.bool (bif true then !t else t)) | none=>none)=_
 have:eqCells [.int,.int,.int] [.int .i64 a0,.int .i64 a1,.int .i64 a2] [.int .i64 b1000,.int .i64 b1001,.int .i64 b1002]=some (decide (a0=b1000) && decide (a1=b1001) && decide (a2=b1002)):=by
  have e:∀ x y:Int,(x == y)=decide (x=y):=fun x y=>by by_cases h:x=y <;> simp [h]
  simp only [eqCells,eqCell,e,decide_true,cond_true]
  by_cases h0:a0=b1000 <;> by_cases h1:a1=b1001 <;> by_cases h2:a2=b1002 <;> simp [h0,h1,h2]
 rw [this]
 rfl
@[go_sem] theorem eqs4p {h:Heap} {a0 a1 a2 a3 b1000 b1001 b1002 b1003:Int}:eqsR [.int,.int,.int,.int] false h (some (.agg [.int .i64 a0,.int .i64 a1,.int .i64 a2,.int .i64 a3])) (some (.agg [.int .i64 b1000,.int .i64 b1001,.int .i64 b1002,.int .i64 b1003]))=some ⟨.bool (decide (a0=b1000) && decide (a1=b1001) && decide (a2=b1002) && decide (a3=b1003)),false,none,h⟩:=by
 show (match eqCells [.int,.int,.int,.int] [.int .i64 a0,.int .i64 a1,.int .i64 a2,.int .i64 a3] [.int .i64 b1000,.int .i64 b1001,.int .i64 b1002,.int .i64 b1003] with | some t=>val h (.bool (bif false then !t else t)) | none=>none)=_
 have:eqCells [.int,.int,.int,.int] [.int .i64 a0,.int .i64 a1,.int .i64 a2,.int .i64 a3] [.int .i64 b1000,.int .i64 b1001,.int .i64 b1002,.int .i64 b1003]=some (decide (a0=b1000) && decide (a1=b1001) && decide (a2=b1002) && decide (a3=b1003)):=by
  have e:∀ x y:Int,(x == y)=decide (x=y):=fun x y=>by by_cases h:x=y <;> simp [h]
  simp only [eqCells,eqCell,e,decide_true,cond_true]
  by_cases h0:a0=b1000 <;> by_cases h1:a1=b1001 <;> by_cases h2:a2=b1002 <;> by_cases h3:a3=b1003 <;> simp [h0,h1,h2,h3]
 rw [this]
 rfl
@[go_sem] theorem eqs4n {h:Heap} {a0 a1 a2 a3 b1000 b1001 b1002 b1003:Int}:eqsR [.int,.int,.int,.int] true h (some (.agg [.int .i64 a0,.int .i64 a1,.int .i64 a2,.int .i64 a3])) (some (.agg [.int .i64 b1000,.int .i64 b1001,.int .i64 b1002,.int .i64 b1003]))=some ⟨.bool (!(decide (a0=b1000) && decide (a1=b1001) && decide (a2=b1002) && decide (a3=b1003))),false,none,h⟩:=by
 show (match eqCells [.int,.int,.int,.int] [.int .i64 a0,.int .i64 a1,.int .i64 a2,.int .i64 a3] [.int .i64 b1000,.int .i64 b1001,.int .i64 b1002,.int .i64 b1003] with | some t=>val h (.bool (bif true then !t else t)) | none=>none)=_
 have:eqCells [.int,.int,.int,.int] [.int .i64 a0,.int .i64 a1,.int .i64 a2,.int .i64 a3] [.int .i64 b1000,.int .i64 b1001,.int .i64 b1002,.int .i64 b1003]=some (decide (a0=b1000) && decide (a1=b1001) && decide (a2=b1002) && decide (a3=b1003)):=by
  have e:∀ x y:Int,(x == y)=decide (x=y):=fun x y=>by by_cases h:x=y <;> simp [h]
  simp only [eqCells,eqCell,e,decide_true,cond_true]
  by_cases h0:a0=b1000 <;> by_cases h1:a1=b1001 <;> by_cases h2:a2=b1002 <;> by_cases h3:a3=b1003 <;> simp [h0,h1,h2,h3]
 rw [this]
 rfl
end Go.Z
