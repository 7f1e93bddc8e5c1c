/-
  LinePairs: the reference's search: its run to a depth (the list of what is used is shut before it is handed on).
-/
import Derived.Test.YtbjckbpblomblaaR1
import Derived.Test.YtbjckbpblomblaaLG
import Derived.Test.YtbjckbpblomblaaG0m
import Derived.Test.YtbjckbpblomblaaG0
import Derived.Test.YtbjckbpblomblaaL14
import Derived.Test.YtbjckbpblomblaaR5
import Derived.Test.YtbjckbpblomblaaQ1
set_option linter.unusedVariables false
set_option linter.unusedSimpArgs false
set_option maxRecDepth 100000
set_option maxHeartbeats 4000000
namespace Go.Z
open Go Go.Abs Go.Proofs
abbrev Arg3:=Option (List GUnit) × Option (List Bool) × Option (List GPair)
def E1003 (x:Arg3):List AVal:=[sl 2 vunit x.1,sl 1 vbool x.2.1,sl 2 vpair x.2.2]
abbrev Rec3:=Option (List GUnit)→Option (List Bool)→Option (List GPair)→Option (Option (List GPair) × Int)
section
variable {q:AProg} {rec:Rec3} (hrec:∀ {x:Arg3} {r},rec x.1 x.2.1 x.2.2=some r→callIso q (X q) 1123 (E1003 x)=some (.tup [sl 2 vpair r.1,.int .i64 r.2],false))
 (h71:∀ {o op r},f1071 o op=some r→callIso q (X q) 1071 [sl 2 vunit o,sl 2 vpair op]=some (.int .i64 r,false))
end
end Go.Z
/-
 LinePairs: the reference's search finds the best of all,too.
-/
namespace Go.Z
open Go Go.Abs
def lf:Nat→List Bool→List Int
 | _,[]=>[]
 | i,true::us=>lf (i + 1) us
 | i,false::us=>(i:Int)::lf (i + 1) us
theorem lf_in:∀ (us:List Bool) (i:Nat),∀ x∈lf i us,(i:Int)≤x∧x < (i:Int) + us.length
 | [],i,x,h=>by cases h
 | true::us,i,x,h=>by
  have:=lf_in us (i + 1) x h
  simp only [List.length_cons]; omega
 | false::us,i,x,h=>by
  simp only [lf,List.mem_cons] at h
  simp only [List.length_cons]
  rcases h with rfl | h
  ·omega
  ·have:=lf_in us (i + 1) x h
   omega
theorem lf_nodup:∀ (us:List Bool) (i:Nat),(lf i us).Nodup
 | [],i=>List.nodup_nil
 | true::us,i=>lf_nodup us (i + 1)
 | false::us,i=>by
  refine List.nodup_cons.2 ⟨fun h=>?_,lf_nodup us (i + 1)⟩
  have:=(lf_in us (i + 1) _ h).1
  omega
theorem lf_ok (us:List Bool):LeftOk us.length (lf 0 us):=⟨lf_nodup us 0,fun x hx=>by have:=lf_in us 0 x hx; omega⟩
theorem lf_all:∀ (n i:Nat),lf i (List.replicate n false)=(List.range' i n).map fun (t:Nat)=>(t:Int)
 | 0,i=>rfl
 | n + 1,i=>by
  rw [List.replicate_succ,List.range'_succ,List.map_cons,← lf_all n (i + 1)]
  rfl
def allI (n:Nat):List Int:=lf 0 (List.replicate n false)
theorem allI_len (n:Nat):(allI n).length=n:=by unfold allI; rw [lf_all]; simp
theorem allI_ok (n:Nat):LeftOk n (allI n):=by
 have:=lf_ok (List.replicate n false)
 rw [List.length_replicate] at this
 exact this
theorem f22_eq {o:Option (List GUnit)} {l:List GUnit} (h:o.getD []=l) (hn:l.length≤1000):∃ b,f22 o=some (nonNil (allI l.length),b):=by
 have hlen:(List.range l.length).length=l.length:=List.length_range
 have key:=itO_list (δ:=Option (List Int) × Bool × Int) (ε:=Empty) (List.range l.length) (s22_0 o) (fun i (s:List Int)=>(nonNil s,(i:Int),accO s)) (fun _ s t=>.inl (s++[(t:Int)])) (fun s=>(nonNil s,accO s,(l.length:Int))) (fun d=>nomatch d) (fun i s=>s.length≤i) [] ?_ ?_ (Nat.le_refl _)
 ·have hr:runL (δ:=Empty) (fun _ (s:List Int) (t:Nat)=>.inl (s++[(t:Int)])) 0 [] (List.range l.length)=.inl (allI l.length):=by
   rw [show (fun (_:Nat) (s:List Int) (t:Nat)=>(Sum.inl (s++[(t:Int)]):List Int ⊕ Empty))=fun _ s t=>.inl ((fun (s:List Int) (t:Nat)=>s++[(t:Int)]) s t) from rfl,runL_fold]
   congr 1
   have:∀ (l:List Nat) (s:List Int),l.foldl (fun (s:List Int) (t:Nat)=>s++[(t:Int)]) s=s++l.map fun (i:Nat)=>(i:Int):=by
    intro l
    induction l with
    | nil=>intro s; simp
    | cons t l ih=>intro s; rw [List.foldl_cons,ih]; simp
   rw [this,List.nil_append]
   unfold allI
   rw [lf_all,List.range_eq_range']
  rw [hr,Int.natCast_zero] at key
  unfold f22
  rw [show ((none:Option (List Int)),(0:Int),false)=(nonNil [],0,accO ([]:List Int)) from rfl,key]
  exact ⟨_,rfl⟩
 ·intro s _
  rw [hlen]
  unfold s22_0
  simp [h]
 ·intro i s t ht hi hs
  obtain ⟨rfl,hi'⟩:=range_atN ht
  have hlt:(t:Int) < (l.length:Int):=by omega
  refine ⟨by rw [List.length_append,List.length_singleton]; omega,?_⟩
  unfold s22_0
  simp only [h,hlt,decide_true,cond_true,wrap_nat (show t < 9223372036854775807 by omega)]
  rw [growG _ _ _ (by omega)]
  simp [accO]
def pairsE (l:List GUnit):Int:=firstNZ [unitsE l,whenE (!decide ((l.length:Int).tmod 2=0)) 35,whenE (decide (8 < (l.length:Int))) 23]
theorem pairsE_ok {l:List GUnit} (h:pairsE l=0):unitsE l=0∧∃ m,l.length=2 * m∧m≤4:=by
 have h1:=firstNZ_zero h _ (List.mem_cons_self ..)
 have h2:=whenE_zero (by decide) (firstNZ_zero h _ (List.mem_cons_of_mem _ (List.mem_cons_self ..)))
 have h3:=whenE_zero (by decide) (firstNZ_zero h _ (List.mem_cons_of_mem _ (List.mem_cons_of_mem _ (List.mem_cons_self ..))))
 simp only [Bool.not_eq_eq_eq_not,Bool.not_false,decide_eq_true_eq,decide_eq_false_iff_not] at h2 h3
 refine ⟨h1,l.length / 2,?_,?_⟩
 ·have:(l.length:Int).tmod 2=((l.length % 2:Nat):Int):=rfl
  omega
 ·omega
theorem f7_eq {o:Option (List GUnit)} {l:List GUnit} (h:o.getD []=l) (hn:l.length≤1000) (e22:E4 o=some (unitsE l)):
  if pairsE l=0 then ∃ b w,f7 o=some (b,w,0)∧b.getD []=(bestP l (l.length / 2) (allI l.length) []).1∧w=(bestP l (l.length / 2) (allI l.length) []).2 else f7 o=some (none,0,pairsE l):=by
 have hrem:remO (l.length:Int) 2=some ((l.length:Int).tmod 2):=by unfold remO; rw [if_neg (by decide)]
 have hun:f7 o=cond (decide (pairsE l=0)) (obind (f22 o) fun v12=>obind (f21 10 v12.1 none o none false 0 false) fun v14=>some (v14.1,v14.2.1,0)) (some (none,0,pairsE l)):=by
  unfold f7
  simp only [e22,obind_at,h,hrem,E58,E12_3]
  rfl
 rw [hun]
 split
 ·next hz=>
  obtain ⟨h1,m,hm,hm4⟩:=pairsE_ok hz
  have hu:=units_ok h1
  obtain ⟨b,h112⟩:=f22_eq h hn
  have hg:(nonNil (allI l.length)).getD []=allI l.length:=nonNil_get' _
  obtain ⟨best',own',worst',found',e,r⟩:=f21_eq hu h m 10 (by omega) (nonNil (allI l.length)) none none none false 0 false (by rw [hg]; exact allI_ok _) (by rw [hg,allI_len]; exact hm) (fun q hq=>by cases hq) (by simp; omega) ⟨rfl,rfl,rfl⟩
  rw [hg] at r
  simp only [hz,decide_true,cond_true,h112,obind_at,e]
  rw [show l.length / 2=m by omega]
  exact ⟨best',worst',rfl,r.2.1,r.2.2⟩
 ·next hz=>
  simp only [hz,decide_false,cond_false]
end Go.Z
