/-
  The abstract program is the given one; what plain data comes in.
-/
import Derived.Test.YtoljkienfmckjaaGreatDoorL2
import Derived.Test.YtoljkienfmckjaaGreatDoorZWI
import Derived.Test.YtoljkienfmckjaaGreatDoorZP
import Derived.Test.YtoljkienfmckjaaGreatDoorAbsH
import Derived.Test.YtoljkienfmckjaaGreatDoorRows
import Derived.WalkKit
import Derived.ProofKit
set_option linter.unusedVariables false
set_option linter.unusedSimpArgs false
set_option maxRecDepth 100000
namespace Go.Z
open Go Go.Abs Go.Proofs
theorem enters_of {k:Nat} {f:AFun} (h:Is k f):Enters Tryz.prog k:=by
 obtain ⟨fn,hh,h1,h2⟩:=h
 obtain ⟨c,g1,g2,g3,g4,g5⟩:=cFun_inv h2
 exact ⟨fn,h1,g5,by rw [g1]; rfl⟩
theorem enters_tree {k:Nat} (h:(tree.find k).isSome=true):Enters Tryz.prog k:=by
 obtain ⟨f,hf⟩:=Option.isSome_iff_exists.1 h
 exact enters_of (FTree.find_all all hf)
theorem tab_in:∀ (t:List (Nat × List Row)),(t.all fun p=>(tree.find p.1).isSome)=true→∀ k l,lookTab t k=some l→(tree.find k).isSome=true
 | (j,m)::t,h,k,l,hk=>by
  simp only [List.all_cons,Bool.and_eq_true] at h
  simp only [lookTab,Bool.cond_eq_ite] at hk
  split at hk
  ·next hb=>rw [← Nat.eq_of_beq_eq_true hb]; exact h.1
  ·exact tab_in t h.2 k l hk
theorem awakeIso:IsoCall Tryz.prog 5 [] (.bool true) false:=
 iso_of_run (progOk_tab ok0 (tabOk ok0) fun k l hk=>enters_tree (tab_in tabL (by kernel_rfl) k l hk)) awakeRun
theorem okPr:ProgOk Tryz.prog pr where
 fn:=ok0.fn
 prim:=by
  intro k f hf
  have:k=5∧f=awakeT:=by
   simp only [pr,FTree.prog,Bool.cond_eq_ite] at hf
   split at hf
   ·next hb=>exact ⟨Nat.eq_of_beq_eq_true hb,by simpa using hf.symm⟩
   ·cases hf
  obtain ⟨rfl,rfl⟩:=this
  refine ⟨enters_tree (by kernel_rfl),?_⟩
  intro args v o hv _ _
  cases args with
  | nil=>cases hv; exact awakeIso
  | cons a l=>cases hv
 mixed:=ok0.mixed
theorem flat_one {y:AVal} (h:y.isAgg=false):y.flat=[y]:=by
 cases y <;> first | rfl | cases h
theorem agg_flat {y:AVal} (h:y.isAgg=true):y=.agg y.flat:=by
 cases y <;> first | rfl | cases h
end Go.Z
