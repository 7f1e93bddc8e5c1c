/-
  Contracts as functions, for the printed walks: masks, tests, grades.
-/
import Derived.Test.YtlonjmhacojkjaaGreatDoorG0b
import Derived.Test.YtlonjmhacojkjaaGreatDoorL5
import Derived.Test.YtlonjmhacojkjaaGreatDoorL8
import Derived.Test.YtlonjmhacojkjaaGreatDoorL14
set_option linter.unusedVariables false
set_option linter.unusedSimpArgs false
set_option maxRecDepth 100000
namespace Go.Z
open Go Go.Abs
def maskOk (m:GMask):Prop:=(m.least.getD []).length≤1073741824∧(m.most.getD []).length≤1073741824
def unitsOk (o:Option (List GUnit)):Prop:=(o.getD []).length≤1073741824∧∀ u∈o.getD [],sizeU u
noncomputable def E12 (o:Option (List GUnit)) (g:Int):Option (GMask × Int):=exO (unitsOk o) (learnM (o.getD []) g,learnE (o.getD []) g)
theorem WE12 {o g r} (h:E12 o g=some r):callIso pr (X pr) 12 [sl 2 vunit o,.int .i64 g]=some (.tup [.agg [sl 1 vint r.1.least,sl 1 vint r.1.most],.int .i64 r.2],false):=by obtain ⟨⟨h1,h2⟩,rfl⟩:=exO_some h; exact I12 _ _ h1 h2
end Go.Z
/-
 Contracts as functions,for the printed walks: narrowed masks,tests,grades,yields.
-/
namespace Go.Z
open Go Go.Abs
noncomputable def E13 (m:GMask) (u:GUnit):Option (Option (List Int) × Int):=exO (maskOk m∧sizeU u) (failuresM m u,testedE m u)
theorem WE13 {m u r} (h:E13 m u=some r):callIso pr (X pr) 13 [.agg [sl 1 vint m.least,sl 1 vint m.most],.agg [.str u.serial,sl 1 vint u.values]]=some (.tup [sl 1 vint r.1,.int .i64 r.2],false):=by obtain ⟨⟨h1,h2⟩,rfl⟩:=exO_some h; exact I13 _ _ h1.1 h2
end Go.Z
/-
 Golden units: the masks that are learned from them (no program in sight).
-/
namespace Go.Z
open Go Go.Abs
theorem foldl_min_le:∀ (l:List Int) (a:Int),l.foldl min a≤a∧(∀ v∈l,l.foldl min a≤v)∧(l.foldl min a=a∨l.foldl min a∈l)
 | [],a=>⟨Int.le_refl _,by simp,.inl rfl⟩
 | x::l,a=>by
  obtain ⟨h1,h2,h3⟩:=foldl_min_le l (min a x)
  simp only [List.foldl_cons]
  refine ⟨by omega,fun v hv=>?_,?_⟩
  ·rcases List.mem_cons.1 hv with rfl | hv
   ·omega
   ·exact h2 v hv
  ·rcases h3 with h3 | h3
   ·rcases Int.le_total a x with hax | hax
    ·left; rw [h3]; omega
    ·right; rw [h3,show min a x=x by omega]; exact List.mem_cons_self ..
   ·exact .inr (List.mem_cons_of_mem _ h3)
theorem foldl_max_le:∀ (l:List Int) (a:Int),a≤l.foldl max a∧(∀ v∈l,v≤l.foldl max a)∧(l.foldl max a=a∨l.foldl max a∈l)
 | [],a=>⟨Int.le_refl _,by simp,.inl rfl⟩
 | x::l,a=>by
  obtain ⟨h1,h2,h3⟩:=foldl_max_le l (max a x)
  simp only [List.foldl_cons]
  refine ⟨by omega,fun v hv=>?_,?_⟩
  ·rcases List.mem_cons.1 hv with rfl | hv
   ·omega
   ·exact h2 v hv
  ·rcases h3 with h3 | h3
   ·rcases Int.le_total a x with hax | hax
    ·right; rw [h3,show max a x=x by omega]; exact List.mem_cons_self ..
    ·left; rw [h3]; omega
   ·exact .inr (List.mem_cons_of_mem _ h3)
theorem minL_le {l:List Int} {v:Int} (h:v∈l):minL l≤v:=by
 cases l with
 | nil=>cases h
 | cons x l=>
  obtain ⟨h1,h2,_⟩:=foldl_min_le l x
  rcases List.mem_cons.1 h with rfl | h
  ·exact h1
  ·exact h2 v h
theorem minL_mem {l:List Int} (h:l ≠ []):minL l∈l:=by
 cases l with
 | nil=>exact absurd rfl h
 | cons x l=>
  obtain ⟨_,_,h3⟩:=foldl_min_le l x
  rcases h3 with h3 | h3
  ·exact List.mem_cons.2 (.inl h3)
  ·exact List.mem_cons.2 (.inr h3)
theorem le_maxL {l:List Int} {v:Int} (h:v∈l):v≤maxL l:=by
 cases l with
 | nil=>cases h
 | cons x l=>
  obtain ⟨h1,h2,_⟩:=foldl_max_le l x
  rcases List.mem_cons.1 h with rfl | h
  ·exact h1
  ·exact h2 v h
theorem maxL_mem {l:List Int} (h:l ≠ []):maxL l∈l:=by
 cases l with
 | nil=>exact absurd rfl h
 | cons x l=>
  obtain ⟨_,_,h3⟩:=foldl_max_le l x
  rcases h3 with h3 | h3
  ·exact List.mem_cons.2 (.inl h3)
  ·exact List.mem_cons.2 (.inr h3)
theorem stepU_unit {n0:Int} {seen:List (List UInt8)} {u:GUnit} (h:stepU n0 seen u=0):unitE u=0:=firstNZ_zero h _ (List.mem_cons_self ..)
theorem firstU_unit {n0:Int}:∀ {l:List GUnit} {seen:List (List UInt8)},firstU n0 seen l=0→∀ u∈l,unitE u=0
 | x::l,seen,h,u,hu=>by
  simp only [firstU] at h
  by_cases hz:stepU n0 seen x=0
  ·rw [if_pos hz] at h
   rcases List.mem_cons.1 hu with rfl | hu
   ·exact stepU_unit hz
   ·exact firstU_unit h u hu
  ·rw [if_neg hz] at h; exact absurd h hz
theorem units_unit {l:List GUnit} (h:unitsE l=0):∀ u∈l,unitE u=0:=by
 unfold unitsE at h
 split at h
 ·exact firstU_unit h
 ·cases h
theorem unit_sizes {u:GUnit} (h:unitE u=0):u.serial.length≤24∧1≤(u.values.getD []).length∧(u.values.getD []).length≤16:=by
 unfold unitE at h
 have h1:=whenE_zero (by decide) (firstNZ_zero h _ (List.mem_cons_self ..))
 have h2:=whenE_zero (by decide) (firstNZ_zero h _ (List.mem_cons_of_mem _ (List.mem_cons_self ..)))
 have h3:=whenE_zero (by decide) (firstNZ_zero h _ (List.mem_cons_of_mem _ (List.mem_cons_of_mem _ (List.mem_cons_self ..))))
 simp only [isName,Bool.not_eq_false',Bool.and_eq_true,decide_eq_true_eq] at h1
 simp only [decide_eq_false_iff_not] at h2 h3
 exact ⟨h1.1.2,by omega,by omega⟩
theorem units_lenN {l:List GUnit} (h:unitsE l=0) (hne:l ≠ []):1≤lenN l∧lenN l≤16:=by
 cases l with
 | nil=>exact absurd rfl hne
 | cons u l=>
  obtain ⟨_,h2,h3⟩:=unit_sizes (units_unit h u (List.mem_cons_self ..))
  exact ⟨h2,h3⟩
def winU (l:List GUnit):Prop:=∀ u∈l,∀ v∈u.values.getD [],-90000≤v∧v≤90000
theorem valU_mem {t:Nat} {u:GUnit} (h:t < (u.values.getD []).length):valU t u∈u.values.getD []:=List.mem_of_getElem? (valU_get h)
theorem col_ne {t:Nat} {l:List GUnit} (h:l ≠ []):col t l ≠ []:=by unfold col; simpa using h
theorem col_win {l:List GUnit} (hu:unitsE l=0) (hw:winU l) {t:Nat} (ht:t < lenN l):∀ v∈col t l,-90000≤v∧v≤90000:=by
 intro v hv
 obtain ⟨u,hu',rfl⟩:=List.mem_map.1 hv
 exact hw u hu' _ (valU_mem (by rw [units_len hu u hu']; exact ht))
def goldM (l:List GUnit) (g:Int):GMask:=⟨some ((List.range (lenN l)).map fun t=>minL (col t l) - g),some ((List.range (lenN l)).map fun t=>maxL (col t l) + g)⟩
theorem nonNil_some {α:Type} {l:List α} (h:l ≠ []):nonNil l=some l:=by cases l <;> first | exact absurd rfl h | rfl
theorem gold_eq {l:List GUnit} {g:Int} (hu:unitsE l=0) (hne:l ≠ []) (hw:winU l) (h0:0≤g) (h1:g≤255):learnedM l g=goldM l g:=by
 obtain ⟨n1,n2⟩:=units_lenN hu hne
 unfold learnedM goldM
 have hn:∀ f:Nat→Int,(List.range (lenN l)).map f ≠ []:=fun f hh=>by
  have:=congrArg List.length hh
  simp at this; omega
 rw [nonNil_some (hn _),nonNil_some (hn _)]
 have e1:(List.range (lenN l)).map (fun t=>loF g (col t l))=(List.range (lenN l)).map fun t=>minL (col t l) - g:=
  List.map_congr_left fun t ht=>by
   have:=col_win hu hw (List.mem_range.1 ht) _ (minL_mem (col_ne hne))
   unfold loF
   rw [wrapF_i64 (by omega) (by omega)]; omega
 have e2:(List.range (lenN l)).map (fun t=>hiF g (col t l))=(List.range (lenN l)).map fun t=>maxL (col t l) + g:=
  List.map_congr_left fun t ht=>by
   have:=col_win hu hw (List.mem_range.1 ht) _ (maxL_mem (col_ne hne))
   unfold hiF
   rw [wrapF_i64 (by omega) (by omega)]; omega
 rw [e1,e2]
theorem learn_ok {l:List GUnit} {g:Int} (hu:unitsE l=0) (hne:l ≠ []) (h0:0≤g) (h1:g≤255):learnE l g=0:=by
 unfold learnE
 have e1:checkRange g 0 100000=0:=by unfold checkRange; rw [if_neg (by omega),if_neg (by omega)]
 have e2:¬ (l.length:Int)=0:=by have:=List.length_pos_iff.2 hne; omega
 simp [hu,hne,e1,e2,firstNZ,whenE]
theorem learnM_gold {l:List GUnit} {g:Int} (hu:unitsE l=0) (hne:l ≠ []) (hw:winU l) (h0:0≤g) (h1:g≤255):learnM l g=goldM l g:=by
 unfold learnM
 rw [if_pos (learn_ok hu hne h0 h1),gold_eq hu hne hw h0 h1]
@[simp] theorem gold_least (l:List GUnit) (g:Int):(goldM l g).least.getD []=(List.range (lenN l)).map fun t=>minL (col t l) - g:=rfl
@[simp] theorem gold_most (l:List GUnit) (g:Int):(goldM l g).most.getD []=(List.range (lenN l)).map fun t=>maxL (col t l) + g:=rfl
theorem gold_lo {l:List GUnit} {g:Int} {t:Nat} (h:t < lenN l):loM (goldM l g) t=minL (col t l) - g:=by
 simp [loM,List.getD_eq_getElem?_getD,h]
theorem gold_hi {l:List GUnit} {g:Int} {t:Nat} (h:t < lenN l):hiM (goldM l g) t=maxL (col t l) + g:=by
 simp [hiM,List.getD_eq_getElem?_getD,h]
theorem min_le_max {l:List GUnit} (hne:l ≠ []) (t:Nat):minL (col t l)≤maxL (col t l):=minL_le (maxL_mem (col_ne hne))
theorem firstNZ_all:∀ {l:List Int},(∀ x∈l,x=0)→firstNZ l=0
 | [],_=>rfl
 | x::l,h=>by
  simp only [firstNZ]
  rw [if_pos (h x (List.mem_cons_self ..))]
  exact firstNZ_all fun y hy=>h y (List.mem_cons_of_mem _ hy)
theorem gold_mask {l:List GUnit} {g:Int} (hu:unitsE l=0) (hne:l ≠ []) (hw:winU l) (h0:0≤g) (h1:g≤255):maskE (goldM l g)=0:=by
 obtain ⟨n1,n2⟩:=units_lenN hu hne
 have hA:maskA (goldM l g)=0:=by
  unfold maskA
  have e1:¬ lenN l=0:=by omega
  have e2:¬ (16:Int) < ((lenN l:Nat):Int):=by omega
  simp [e1,e2,firstNZ,whenE]
 unfold maskE
 rw [if_pos hA]
 apply firstNZ_all
 intro x hx
 obtain ⟨⟨a,b⟩,hab,rfl⟩:=List.mem_map.1 hx
 obtain ⟨i,hi⟩:=List.getElem?_of_mem hab
 rw [List.getElem?_zip_eq_some] at hi
 obtain ⟨ha,hb⟩:=hi
 simp only [gold_least,gold_most,List.getElem?_map] at ha hb
 obtain ⟨t,ht,ha⟩:=Option.map_eq_some_iff.1 ha
 obtain ⟨t',ht',hb⟩:=Option.map_eq_some_iff.1 hb
 rw [ht] at ht'
 cases ht'
 have htl:t < lenN l:=List.mem_range.1 (List.mem_of_getElem? ht)
 have b1001:=col_win hu hw htl _ (minL_mem (col_ne hne))
 have b1002:=col_win hu hw htl _ (maxL_mem (col_ne hne))
 have b1003:=min_le_max hne t
 apply firstNZ_all
 intro y hy
 simp only [List.mem_cons,List.not_mem_nil,or_false] at hy
 rcases hy with rfl | rfl | rfl
 ·unfold checkRange; rw [if_neg (by omega),if_neg (by omega)]
 ·unfold checkRange; rw [if_neg (by omega),if_neg (by omega)]
 ·have:¬ b < a:=by omega
  simp [whenE,this]
theorem gold_in {l:List GUnit} {g:Int} {u:GUnit} (hu:unitsE l=0) (hm:u∈l) (h0:0≤g) {t:Nat} (ht:t < lenN l):loM (goldM l g) t≤valU t u∧valU t u≤hiM (goldM l g) t:=by
 rw [gold_lo ht,gold_hi ht]
 have h1:=minL_le (l:=col t l) (List.mem_map_of_mem (f:=valU t) hm)
 have h2:=le_maxL (l:=col t l) (List.mem_map_of_mem (f:=valU t) hm)
 omega
theorem failsL_nil {m:GMask}:∀ (l:List Int) (i:Nat),(∀ (j:Nat) (v:Int),l[j]?=some v→loM m (i + j)≤v∧v≤hiM m (i + j))→failsL m i l=[]
 | [],_,_=>rfl
 | v::l,i,h=>by
  have h0:=h 0 v rfl
  rw [Nat.add_zero] at h0
  have:failsAt m i v=false:=by
   simp only [failsAt,failsB,Bool.or_eq_false_iff,decide_eq_false_iff_not]
   omega
  simp only [failsL,this]
  rw [if_neg (by decide)]
  exact failsL_nil l (i + 1) fun j w hw=>by
   have:=h (j + 1) w (by simpa using hw)
   rwa [show i + (j + 1)=i + 1 + j by omega] at this
theorem gold_fails {l:List GUnit} {g:Int} {u:GUnit} (hu:unitsE l=0) (hm:u∈l) (h0:0≤g):failsL (goldM l g) 0 (u.values.getD [])=[]:=by
 refine failsL_nil _ _ fun j v hv=>?_
 have hj:j < (u.values.getD []).length:=(List.getElem?_eq_some_iff.1 hv).1
 have e:valU j u=v:=by have:=valU_get hj; rw [hv] at this; cases this; rfl
 have:=gold_in hu hm h0 (t:=j) (by rw [← units_len hu u hm]; exact hj)
 rw [e] at this
 rw [Nat.zero_add]; exact this
end Go.Z
