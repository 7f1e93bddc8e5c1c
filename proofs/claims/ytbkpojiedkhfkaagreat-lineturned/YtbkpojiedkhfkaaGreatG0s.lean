/-
  Lists of truth values.
-/
import Derived.Test.YtbkpojiedkhfkaaGreatG0
import Derived.Test.YtbkpojiedkhfkaaGreatG0m
import Derived.Test.YtbkpojiedkhfkaaGreatL14
import Derived.Test.YtbkpojiedkhfkaaGreatAbsH
set_option linter.unusedVariables false
set_option linter.unusedSimpArgs false
namespace Go.Z
open Go Go.Abs
end Go.Z
/-
 Runs with ghost places: loops; boxes of truth values; a box that is shut,a list that is thawed.
-/
set_option maxRecDepth 100000
namespace Go.Z
open Go Go.Abs
section
variable {p:AProg} {xc:XC} {h0:Nat} {al:Option (List Nat)} {e:Env} {h:Heap}
theorem thaw_ints {s:Nat} {env:Env} {l:List Int} (hs:Abs.look s env=some (sl 1 vint (some l),true)) (he:(env.all fun y=>Nat.beq y.1 s || plainV y.2.1)=true):
  thawAt s ⟨env,[]⟩=some ⟨(s,.ms 0 0 l.length,false)::env,[.cells (icl l)]⟩:=by
 unfold thawAt
 have hs':Abs.look s env=some (.list false 1 (l.map vint),true):=hs
 simp only [hs']
 have h1:((l.map vint).all plainV)=true:=by
  rw [List.all_eq_true]; intro x hx
  obtain ⟨b,_,rfl⟩:=List.mem_map.1 hx
  rfl
 have h2:Nat.beq 1 1=true:=rfl
 simp only [h1,h2,he,Bool.and_self,cond_true,List.length_map]
 have h3:cellsOf (l.map vint)=icl l:=by unfold icl cellsOf; rw [List.map_map]; rfl
 rw [h3]
end
noncomputable def withP (p:AProg) (more:Prims) (op:Nat→Bool):AProg:={ fns:=p.fns,prims:=fun k=>bif op k then none else match more k with
 | some f=>some f
 | none=>bif (p.fns k).isSome || (p.prims k).isSome then some fun args=>callIso p (X p) k args else none }
theorem callIso_known {p:AProg} {xc:XC} {k:Nat} {args:List AVal} {r:AVal × Bool} (h:callIso p xc k args=some r):((p.fns k).isSome || (p.prims k).isSome)=true:=by
 unfold callIso at h
 split at h
 ·rename_i f hf; simp [hf]
 ·split at h
  ·rename_i hc
   unfold callFn at hc
   split at hc
   ·rename_i f hf; simp [hf]
   ·cases hc
  ·cases h
theorem withP_call {p:AProg} {more:Prims} {op:Nat→Bool} {k:Nat} (ho:op k=false) (hm:more k=none) {xc:XC} {args:List AVal} {v:AVal} {o:Bool} (h:callIso p (X p) k args=some (v,o)) (hv:pureV v=true):callIso (withP p more op) xc k args=some (v,o):=by
 have hk:=callIso_known h
 unfold callIso
 have:(withP p more op).prims k=some fun args=>callIso p (X p) k args:=by simp only [withP,ho,cond_false,hm,hk,cond_true]
 rw [this]
 simp only [h,hv,cond_true]
theorem withP_more {p:AProg} {more:Prims} {op:Nat→Bool} {k:Nat} {f:List AVal→Option (AVal × Bool)} (ho:op k=false) (hm:more k=some f) {xc:XC} {args:List AVal} {v:AVal} {o:Bool} (h:f args=some (v,o)) (hv:pureV v=true):callIso (withP p more op) xc k args=some (v,o):=by
 unfold callIso
 have:(withP p more op).prims k=some f:=by simp only [withP,ho,cond_false,hm]
 rw [this]
 simp only [h,hv,cond_true]
theorem withP_ok {P:Program} {p:AProg} {more:Prims} {op:Nat→Bool} (hp:ProgOk P p) (hm:∀ k f,more k=some f→Enters P k∧∀ args v o,f args=some (v,o)→pureV v=true→belowL 0 args=true→IsoCall P k args v o):ProgOk P (withP p more op) where
 fn:=hp.fn
 prim:=by
  intro k f hf
  cases ho:op k with
  | true=>
   have:(withP p more op).prims k=none:=by simp only [withP,ho,cond_true]
   rw [this] at hf; cases hf
  | false=>
  cases hmk:more k with
  | some g=>
   have:(withP p more op).prims k=some g:=by simp only [withP,ho,cond_false,hmk]
   rw [this] at hf
   cases hf
   exact hm k _ hmk
  | none=>
   cases hk:((p.fns k).isSome || (p.prims k).isSome) with
   | false=>
    have:(withP p more op).prims k=none:=by simp only [withP,ho,hmk,hk,cond_false]
    rw [this] at hf; cases hf
   | true=>
    have:(withP p more op).prims k=some fun args=>callIso p (X p) k args:=by simp only [withP,ho,cond_false,hmk,hk,cond_true]
    rw [this] at hf
    cases hf
    refine ⟨?_,fun args v o h _ hb=>callX_ok hp h hb⟩
    simp only [Bool.or_eq_true] at hk
    rcases hk with h | h
    ·obtain ⟨af,ha⟩:=Option.isSome_iff_exists.1 h
     exact hp.enters ha
    ·obtain ⟨g,hg⟩:=Option.isSome_iff_exists.1 h
     exact (hp.prim k g hg).1
 mixed:=hp.mixed
end Go.Z
