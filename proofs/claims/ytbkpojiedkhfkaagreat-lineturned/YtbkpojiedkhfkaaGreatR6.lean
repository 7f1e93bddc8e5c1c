/-
  LinePairs: the law: a function that mirrors the run, and the run (printed by walk.py; prP there is prP).
-/
import Derived.Test.YtbkpojiedkhfkaaGreatQ6
import Derived.Test.YtbkpojiedkhfkaaGreatQ1
import Derived.Test.YtbkpojiedkhfkaaGreatL8
set_option linter.unusedVariables false
set_option linter.unusedSimpArgs false
set_option maxRecDepth 100000
set_option maxHeartbeats 4000000
namespace Go.Z
open Go Go.Abs
end Go.Z
/-
 LinePairs: its law holds of the function that mirrors the run.
-/
namespace Go.Z
open Go Go.Abs
theorem dAt_own (l:List GUnit) (i j:Int):dAt (l.map ownU) i j=dAt l i j:=by
 unfold dAt
 rw [List.getElem?_map,List.getElem?_map]
 cases l[i.toNat]? with
 | none=>rfl
 | some u=>
  cases l[j.toNat]? with
  | none=>rfl
  | some w=>rfl
theorem worstP_own (l:List GUnit) (p:List GPair):worstP (l.map ownU) p=worstP l p:=by
 unfold worstP
 have:(fun (s:Int) (q:GPair)=>max s (dAt (l.map ownU) q.a q.b))=fun s q=>max s (dAt l q.a q.b):=by funext s q; rw [dAt_own]
 rw [this]
theorem bestP_own (l:List GUnit):∀ (m:Nat) (left:List Int) (p:List GPair),bestP (l.map ownU) m left p=bestP l m left p
 | 0,left,p=>by unfold bestP; rw [worstP_own]
 | m + 1,left,p=>by
  unfold bestP
  have:(fun (st:Option PSch) (b:Int)=>updG st (bestP (l.map ownU) m (left.tail.filter fun x=>x != b) (p++[⟨left.headD 0,b⟩])))=fun st b=>updG st (bestP l m (left.tail.filter fun x=>x != b) (p++[⟨left.headD 0,b⟩])):=by
   funext st b; rw [bestP_own l m]
  rw [this]
theorem radius_own (l:List GUnit):(l.map ownU).map (radius (l.map ownU))=l.map (radius l):=by
 rw [List.map_map]
 apply List.map_congr_left
 intro u _
 show ((l.map ownU).map (diffU (ownU u))).foldl max 0=(l.map (diffU u)).foldl max 0
 rw [List.map_map]
 rfl
def diffE (a b:GUnit):Int:=firstNZ [unitE a,unitE b,whenE (!decide (((a.values.getD []).length:Int)=((b.values.getD []).length:Int))) 2]
theorem diffE_ok {a b:GUnit} (h:diffE a b=0):UnitOk a∧UnitOk b∧(a.values.getD []).length=(b.values.getD []).length:=by
 have h1:=firstNZ_zero h _ (List.mem_cons_self ..)
 have h2:=firstNZ_zero h _ (List.mem_cons_of_mem _ (List.mem_cons_self ..))
 have h3:=whenE_zero (by decide) (firstNZ_zero h _ (List.mem_cons_of_mem _ (List.mem_cons_of_mem _ (List.mem_cons_self ..))))
 simp only [Bool.not_eq_eq_eq_not,Bool.not_false,decide_eq_true_eq] at h3
 exact ⟨unit_ok h1,unit_ok h2,by omega⟩
theorem short_size {u:GUnit} (h:shortU u=true):u.serial.length≤60∧(u.values.getD []).length≤17:=by
 unfold shortU at h
 simpa using h
theorem two_units {u w:GUnit} (hu:shortU u=true) (hw:shortU w=true):
  E32 u=some (ownU u)∧f59 (ownU u) (ownU w)=some (if diffE u w=0 then (diffU u w,0) else (0,diffE u w))∧f67 u w=some (diffE u w)∧(diffE u w=0→f68 u w=some (diffU u w)):=by
 obtain ⟨s1,s2⟩:=short_size hu
 obtain ⟨s3,s4⟩:=short_size hw
 have e97:∀ {x:GUnit},x.serial.length≤60→(x.values.getD []).length≤17→E97 x=some (unitE x):=fun h1 h2=>exO_of ⟨by omega,by omega⟩
 have ed:diffE (ownU u) (ownU w)=diffE u w:=rfl
 have ev:∀ x:GUnit,(ownU x).values.getD []=x.values.getD []:=fun _=>rfl
 refine ⟨exO_of (show (u.values.getD []).length≤1073741824 by omega),?_,?_,?_⟩
 ·unfold f59
  simp only [e97 (show (ownU u).serial.length≤60 from s1) (show ((ownU u).values.getD []).length≤17 from s2),e97 (show (ownU w).serial.length≤60 from s3) (show ((ownU w).values.getD []).length≤17 from s4),obind_at,E24,E94_3]
  rw [show firstNZ [unitE (ownU u),unitE (ownU w),whenE (!decide ((((ownU u).values.getD []).length:Int)=(((ownU w).values.getD []).length:Int))) 2]=diffE u w from rfl]
  by_cases hz:diffE u w=0
  ·obtain ⟨o1,o2,o3⟩:=diffE_ok hz
   have h115:=f115_eq (a:=ownU u) (b:=ownU w) ⟨o1.len,o1.val⟩ ⟨o2.len,o2.val⟩ o3
   simp only [hz,decide_true,cond_true,h115,obind_at,if_true]
   rfl
  ·simp only [hz,decide_false,cond_false,if_false]
 ·unfold f67
  simp only [e97 s1 s2,e97 s3 s4,obind_at,E24,E94_3]
  rfl
 ·intro hz
  obtain ⟨o1,o2,o3⟩:=diffE_ok hz
  rw [f68_f115,f115_eq o1 o2 o3]
def typE (l:List GUnit):Int:=firstNZ [unitsE l,whenE (decide ((l.length:Int)=0)) 12]
theorem typE_ok {l:List GUnit} (h:typE l=0):unitsE l=0∧l ≠ []:=by
 have h1:=firstNZ_zero h _ (List.mem_cons_self ..)
 have h2:=whenE_zero (by decide) (firstNZ_zero h _ (List.mem_cons_of_mem _ (List.mem_cons_self ..)))
 simp only [decide_eq_false_iff_not] at h2
 exact ⟨h1,fun e=>h2 (by rw [e]; rfl)⟩
theorem f57_eq {o:Option (List GUnit)} {l:List GUnit} (h:o.getD []=l) (hn:l.length≤1000) (e22:E22 o=some (unitsE l)):
  if typE l=0 then ∃ k:Nat,f57 o=some ((k:Int),0)∧FirstMin (l.map (radius l)) k else f57 o=some (0,typE l):=by
 have e94:∀ a b,E94 (some [a,b])=some (firstNZ [a,b]):=fun a b=>exO_of ⟨by simp,by simp⟩
 have hun:f57 o=cond (decide (typE l=0)) (obind (f90a o o) fun v8=>obind (E92 v8.1) fun v10=>obind (f116 v8.1 v10) fun v12=>some (v12,(0:Int))) (some (0,typE l)):=by
  unfold f57
  simp only [e22,obind_at,h,E24,e94]
  rfl
 rw [hun]
 split
 ·next hz=>
  obtain ⟨h1,hne⟩:=typE_ok hz
  obtain ⟨k,_,h3,h4⟩:=typical_eq h h (units_ok h1) hn hne
  refine ⟨k,?_,h3⟩
  simp only [hz,decide_true,cond_true]
  exact h4
 ·next hz=>simp only [hz,decide_false,cond_false]
end Go.Z
