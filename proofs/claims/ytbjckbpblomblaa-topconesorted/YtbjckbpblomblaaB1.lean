/-
  Contracts as functions, for the printed walks: lists of numbers.
-/
import Derived.Test.YtbjckbpblomblaaG0m
import Derived.Test.YtbjckbpblomblaaG0b
import Derived.Test.YtbjckbpblomblaaL8
import Derived.Test.YtbjckbpblomblaaL14
set_option linter.unusedVariables false
set_option linter.unusedSimpArgs false
set_option maxRecDepth 100000
namespace Go.Z
open Go Go.Abs
noncomputable def E5:Option Bool:=some true
theorem WE5 {r} (h:E5=some r):callIso pr (X pr) 5 []=some (.bool r,false):=by cases h; exact I5
noncomputable def E49 (n lo hi:Int):Option Int:=some (checkRange n lo hi)
theorem WE43 {n lo hi r} (h:E49 n lo hi=some r):callIso pr (X pr) 43 [.int .i64 n,.int .i64 lo,.int .i64 hi]=some (.int .i64 r,false):=by cases h; exact I43 ..
noncomputable def E58 (b:Bool) (e:Int):Option Int:=some (whenE b e)
theorem WE20 {b e r} (h:E58 b e=some r):callIso pr (X pr) 20 [.bool b,.int .i64 e]=some (.int .i64 r,false):=by cases h; exact I20 ..
noncomputable def E12 (o:Option (List Int)):Option Int:=exO ((o.getD []).length≤9223372036854775807∧o ≠ none) (firstNZ (o.getD []))
theorem WE18 {o r} (h:E12 o=some r):callIso pr (X pr) 18 [sl 1 vint o]=some (.int .i64 r,false):=by
 obtain ⟨h1,rfl⟩:=exO_some h
 cases o with
 | none=>exact absurd rfl h1.2
 | some l=>exact I18 l h1.1
def E46n (o:Option (List Int)):Option Unit:=if o.isNone then some () else none
theorem WE46n {o r} (h:E46n o=some r):callIso pr (X pr) 46 [sl 1 vint o]=some (.list true 0 [],false):=by
 cases o with
 | some l=>cases h
 | none=>
  have:callFn pr (X pr) 46 [sl 1 vint (none:Option (List Int))] []=some (.list true 0 [],false,[]):=by
   rw [callFn_at (show pr.fns 46=some c46 from rfl) (by simp)]
   simp only [go_sem,seval,c46,Option.isNone_none]
  exact callIso_of rfl this rfl rfl
noncomputable def E46 (o:Option (List Int)):Option (Option (List Int)):=exO ((o.getD []).length≤1073741824∧o ≠ none) o
theorem WE46 {o r} (h:E46 o=some r):callIso pr (X pr) 46 [sl 1 vint o]=some (sl 1 vint r,true):=by
 obtain ⟨h1,rfl⟩:=exO_some h
 cases o with
 | none=>exact absurd rfl h1.2
 | some l=>
  have hl:l.length≤1073741824:=h1.1
  have:callFn pr (X pr) 46 [sl 1 vint (some l)] []=some (.list false 1 (l.map vint),true,[]):=by
   rw [callFn_at (show pr.fns 46=some c46 from rfl) (by simp)]
   simp only [go_sem,seval,c46,Option.isNone_some,Option.getD_some,List.length_map,Nat.zero_add,hl]
  exact callIso_of rfl this rfl (by simp only [go_sem,seval])
end Go.Z
/-
 Bounds,sorting,schedules: functions that mirror the runs,and the runs (printed by walk.py).
-/
set_option maxHeartbeats 4000000
namespace Go.Z
open Go Go.Abs
noncomputable def s6_1 (v1:List Int) (s1000:Int × (List Int)) (s1001:Int × (List Int)):Option ((Int × (List Int)) ⊕ ((Int × (List Int)))):=
 cond (decide (0 < s1001.1))
  (obind (idxM v1.length s1001.2 s1001.1) fun v78=>
  obind (idxM v1.length s1001.2 (wrapF .i64 (s1001.1 - 1))) fun v80=>
  cond (decide (v80 < v78))
   (obind (idxM v1.length (s1001.2.set s1001.1.toNat v80) (wrapF .i64 (s1001.1 - 1))) fun v83=>
   some (.inl (wrapF .i64 (s1001.1 - 1),(s1001.2.set s1001.1.toNat v80).set (wrapF .i64 (s1001.1 - 1)).toNat v78)))
   (some (.inr (s1001.1,s1001.2))))
  (some (.inr (s1001.1,s1001.2)))
def St6_1 (v1:List Int) (s1000:Int × (List Int)) (s1001:Int × (List Int)):ASt:=⟨[(3,.ms 0 0 v1.length,false),(4,.int .i64 s1000.1,false),(5,.int .i64 s1001.1,false)],[.cells (icl s1001.2)]⟩
def Ex6_1 (v1:List Int) (s1000:Int × (List Int)) (d:(Int × (List Int))):AExit × ASt:=(.exit 2,⟨[(3,.ms 0 0 v1.length,false),(4,.int .i64 s1000.1,false),(5,.int .i64 d.1,false),(29,.bool false,false)],[.cells (icl d.2)]⟩)
theorem b6_1 (v1:List Int) (s1000:Int × (List Int)) (s1001:Int × (List Int)) (r) (h:s6_1 v1 s1000 s1001=some r):stepO pr c6_1 (St6_1 v1 s1000) (Ex6_1 v1 s1000) s1001 r:=by
 unfold s6_1 at h
 rcases cond_split h with ⟨h77,h⟩ | ⟨h77,h⟩
 ·obtain ⟨v78,h79,h⟩:=obind_some h
  obtain ⟨v80,h81,h⟩:=obind_some h
  rcases cond_split h with ⟨h82,h⟩ | ⟨h82,h⟩
  ·obtain ⟨v83,h84,h⟩:=obind_some h
   cases h
   exact stepO_in (st':=⟨[(3,.ms 0 0 v1.length,false),(4,.int .i64 s1000.1,false),(5,.int .i64 (wrapF .i64 (s1001.1 - 1)),false)],[.cells (icl ((s1001.2.set s1001.1.toNat v80).set (wrapF .i64 (s1001.1 - 1)).toNat v78))]⟩) (by simp only [go_sem,seval,c6_1,St6_1,h77,idx_ms_O h79,ld_ms_O h79,st_ms_O h79,idx_ms_O h81,ld_ms_O h81,st_ms_O h81,h82,idx_ms_O h84,ld_ms_O h84,st_ms_O h84] <;> rfl) (gc_same (Nat.le_refl _))
  ·cases h
   exact stepO_out (by simp only [go_sem,seval,c6_1,St6_1,h77,idx_ms_O h79,ld_ms_O h79,st_ms_O h79,idx_ms_O h81,ld_ms_O h81,st_ms_O h81,h82,Ex6_1] <;> rfl)
 ·cases h
  exact stepO_out (by simp only [go_sem,seval,c6_1,St6_1,h77,Ex6_1] <;> rfl)
theorem l6_1 (v1:List Int) (s1000:Int × (List Int)) {s1001:Int × (List Int)} {d} (h:itO (s6_1 v1 s1000) s1001=some d):X pr (.loop c6_1) (St6_1 v1 s1000 s1001)=some (Ex6_1 v1 s1000 d):=X_itO (b6_1 v1 s1000) (fun d hh=>by cases hh) h
noncomputable def s6_0 (v1:List Int) (s1000:Int × (List Int)):Option ((Int × (List Int)) ⊕ ((Int × (List Int)))):=
 cond (decide (s1000.1 < (v1.length:Int)))
  (obind (itO (s6_1 v1 s1000) (s1000.1,s1000.2)) fun d85=>
  some (.inl (wrapF .i64 (s1000.1 + 1),d85.2)))
  (some (.inr (s1000.1,s1000.2)))
def St6_0 (v1:List Int) (s1000:Int × (List Int)):ASt:=⟨[(3,.ms 0 0 v1.length,false),(4,.int .i64 s1000.1,false)],[.cells (icl s1000.2)]⟩
def Ex6_0 (v1:List Int) (d:(Int × (List Int))):AExit × ASt:=(.exit 0,⟨[(3,.ms 0 0 v1.length,false),(4,.int .i64 d.1,false),(12,.bool false,false)],[.cells (icl d.2)]⟩)
theorem b6_0 (v1:List Int) (s1000:Int × (List Int)) (r) (h:s6_0 v1 s1000=some r):stepO pr c6_0 (St6_0 v1) (Ex6_0 v1) s1000 r:=by
 unfold s6_0 at h
 rcases cond_split h with ⟨h60,h⟩ | ⟨h60,h⟩
 ·obtain ⟨d85,h86,h⟩:=obind_some h
  have wh86:X pr (.loop c6_1) ⟨[(3,.ms 0 0 v1.length,false),(4,.int .i64 s1000.1,false),(5,.int .i64 s1000.1,false)],[.cells (icl s1000.2)]⟩=some (.exit 2,⟨[(3,.ms 0 0 v1.length,false),(4,.int .i64 s1000.1,false),(5,.int .i64 d85.1,false),(29,.bool false,false)],[.cells (icl d85.2)]⟩):=l6_1 v1 s1000 h86
  cases h
  exact stepO_in (st':=⟨[(3,.ms 0 0 v1.length,false),(4,.int .i64 (wrapF .i64 (s1000.1 + 1)),false)],[.cells (icl d85.2)]⟩) (by simp only [go_sem,seval,c6_0,St6_0,h60,wh86] <;> rfl) (gc_same (Nat.le_refl _))
 ·cases h
  exact stepO_out (by simp only [go_sem,seval,c6_0,St6_0,h60,Ex6_0] <;> rfl)
theorem l6_0 (v1:List Int) {s1000:Int × (List Int)} {d} (h:itO (s6_0 v1) s1000=some d):X pr (.loop c6_0) (St6_0 v1 s1000)=some (Ex6_0 v1 d):=X_itO (b6_0 v1) (fun d hh=>by cases hh) h
noncomputable def f6 (a0:Option (List Int)):Option (Option (List Int)):=
 obind (capO (a0.getD [])) fun v1=>
 obind (itO (s6_0 v1) (0,v1)) fun d87=>
 obind (takeM v1.length d87.2) fun v89=>
 some (some v89)
theorem W6 {a0:Option (List Int)} {r} (h:f6 a0=some r):callIso pr (X pr) 6 [sl 1 vint a0]=some (sl 1 vint r,false):=by
 unfold f6 at h
 obtain ⟨v1,h2,h⟩:=obind_some h
 obtain ⟨d87,h88,h⟩:=obind_some h
 have wh88:X pr (.loop c6_0) ⟨[(3,.ms 0 0 v1.length,false),(4,.int .i64 0,false)],[.cells (icl v1)]⟩=some (.exit 0,⟨[(3,.ms 0 0 v1.length,false),(4,.int .i64 d87.1,false),(12,.bool false,false)],[.cells (icl d87.2)]⟩):=l6_0 v1 h88
 obtain ⟨v89,h90,h⟩:=obind_some h
 have hr:some v89=r:=Option.some.inj h
 subst hr
 have this:callFn pr (X pr) 6 [sl 1 vint a0] []=some (.ms 0 0 v1.length,false,[.cells (icl d87.2)]):=by
  rw [callFn_at (show pr.fns 6=some c6 from rfl) (by simp)]
  simp only [go_sem,seval,c6,appB_O h2,wh88,frz_ms_O h90]
 exact callIso_of rfl this (by simp only [go_sem,seval,frz_ms_O h90] <;> rfl) (by simp only [go_sem,seval])
end Go.Z
/-
 The best schedule: the search that leaves out what cannot be better,and the one that tries all,find the same.
-/
namespace Go.Z
open Go Go.Abs
theorem idxM_at {n:Nat} {l:List Int} {i:Nat} (h:i < n):idxM n l (i:Int)=l[i]?:=by
 unfold idxM; rw [if_pos ⟨by omega,by omega⟩]; simp
end Go.Z
/-
 The best schedule: both searches.
-/
namespace Go.Z
open Go Go.Abs
theorem range_atN {n i t:Nat} (h:(List.range n)[i]?=some t):t=i∧i < n:=by
 obtain ⟨h1,h2⟩:=List.getElem?_eq_some_iff.1 h
 rw [List.length_range] at h1
 exact ⟨by simpa using h2.symm,h1⟩
theorem ap_one {α:Type} (l:List α) (x:α) (h:l.length + 1≤1073741824):apO (some l) [x]=some (some (l++[x])):=by
 unfold apO apS
 simp [h]
end Go.Z
/-
 Sorting,and the bound of work: both.
-/
namespace Go.Z
open Go Go.Abs
def swapL (e:List Int) (j:Nat):List Int:=(e.set (j + 1) (e.getD j 0)).set j (e.getD (j + 1) 0)
theorem swap_len (e:List Int) (j:Nat):(swapL e j).length=e.length:=by simp [swapL]
theorem swap_at {e:List Int} {j i:Nat} (h:j + 1 < e.length):(swapL e j).getD i 0=if i=j then e.getD (j + 1) 0 else if i=j + 1 then e.getD j 0 else e.getD i 0:=by
 unfold swapL
 simp only [List.getD_eq_getElem?_getD,List.getElem?_set,List.length_set]
 by_cases h1:i=j
 ·subst h1; simp [show i < e.length by omega]
 ·by_cases h2:i=j + 1
  ·subst h2; simp [h]
  ·have h1':¬ j=i:=fun hh=>h1 hh.symm
   have h2':¬ j + 1=i:=fun hh=>h2 hh.symm
   simp [h1,h2,h1',h2']
def sink:Nat→List Int→List Int
 | 0,e=>e
 | j + 1,e=>if e.getD j 0 < e.getD (j + 1) 0 then sink j (swapL e j) else e
theorem sink_len:∀ (j:Nat) (e:List Int),(sink j e).length=e.length
 | 0,_=>rfl
 | j + 1,e=>by
  unfold sink
  split
  ·rw [sink_len j,swap_len]
  ·rfl
structure Desc (j m:Nat) (e:List Int):Prop where
 rest:∀ a b,a < b→b≤m→a ≠ j→b ≠ j→e.getD b 0≤e.getD a 0
 here:∀ b,j < b→b≤m→e.getD b 0≤e.getD j 0
theorem sink_desc {m:Nat}:∀ (j:Nat) (e:List Int),j≤m→m < e.length→Desc j m e→∀ a b,a < b→b≤m→(sink j e).getD b 0≤(sink j e).getD a 0
 | 0,e,_,_,h,a,b,hab,hb=>by
  show e.getD b 0≤e.getD a 0
  by_cases ha:a=0
  ·subst ha; exact h.here b hab hb
  ·exact h.rest a b hab hb ha (by omega)
 | j + 1,e,hj,hm,h,a,b,hab,hb=>by
  unfold sink
  by_cases hlt:e.getD j 0 < e.getD (j + 1) 0
  ·rw [if_pos hlt]
   refine sink_desc j (swapL e j) (by omega) (by rw [swap_len]; exact hm) ⟨?_,?_⟩ a b hab hb
   ·intro a b hab hb ha hbj
    rw [swap_at (by omega),swap_at (by omega),if_neg hbj,if_neg ha]
    by_cases hb1:b=j + 1
    ·subst hb1
     rw [if_pos rfl,if_neg (by omega)]
     exact h.rest a j (by omega) (by omega) (by omega) (by omega)
    ·rw [if_neg hb1]
     by_cases ha1:a=j + 1
     ·subst ha1
      rw [if_pos rfl]
      exact h.rest j b (by omega) hb (by omega) hb1
     ·rw [if_neg ha1]
      exact h.rest a b hab hb ha1 hb1
   ·intro b hb hbm
    rw [swap_at (by omega),swap_at (by omega),if_pos rfl,if_neg (by omega)]
    by_cases hb1:b=j + 1
    ·subst hb1; rw [if_pos rfl]; omega
    ·rw [if_neg hb1]
     exact h.here b (by omega) hbm
  ·rw [if_neg hlt]
   by_cases ha:a=j + 1
   ·subst ha; exact h.here b hab hb
   ·by_cases hb1:b=j + 1
    ·subst hb1
     by_cases haj:a=j
     ·subst haj; omega
     ·have:=h.rest a j (by omega) (by omega) (by omega) (by omega)
      omega
    ·exact h.rest a b hab hb ha hb1
theorem wrap_pred {j:Nat} (h:j < 1000):wrapF .i64 (((j + 1:Nat):Int) - 1)=(j:Int):=by
 rw [wrapF_i64 (by omega) (by omega)]; omega
theorem in132 (v:List Int) (t0:Int × List Int) (hv:v.length≤100):∀ (j:Nat) (e:List Int),e.length=v.length→j < v.length→∃ i,itO (s6_1 v t0) ((j:Int),e)=some (i,sink j e)
 | 0,e,he,hj=>by
  refine ⟨0,?_⟩
  rw [Int.natCast_zero]
  exact itO_out rfl
 | j + 1,e,he,hj=>by
  have hlt:(0:Int) < ((j + 1:Nat):Int):=by omega
  have g1:e[j + 1]?=some (e.getD (j + 1) 0):=by rw [List.getD_eq_getElem?_getD,List.getElem?_eq_getElem (by omega)]; rfl
  have g2:e[j]?=some (e.getD j 0):=by rw [List.getD_eq_getElem?_getD,List.getElem?_eq_getElem (by omega)]; rfl
  have hw:=wrap_pred (j:=j) (by omega)
  by_cases h:e.getD j 0 < e.getD (j + 1) 0
  ·obtain ⟨i,hi⟩:=in132 v t0 hv j (swapL e j) (by rw [swap_len]; exact he) (by omega)
   refine ⟨i,?_⟩
   have g3:(e.set (j + 1) (e.getD j 0))[j]?=some (e.getD j 0):=by
    rw [List.getElem?_set_ne (by omega)]; exact g2
   have hs:s6_1 v t0 (((j + 1:Nat):Int),e)=some (.inl ((j:Int),swapL e j)):=by
    unfold s6_1
    simp only [hlt,decide_true,cond_true,idxM_at hj,g1,obind_at,hw,idxM_at (show j < v.length by omega),g2,h,Int.toNat_natCast,g3]
    rfl
   rw [itO_in hs,hi]
   simp only [sink,h,if_true]
  ·refine ⟨((j + 1:Nat):Int),?_⟩
   refine itO_out ?_
   unfold s6_1
   simp only [hlt,decide_true,cond_true,idxM_at hj,g1,obind_at,hw,idxM_at (show j < v.length by omega),g2,h,decide_false,cond_false,sink,if_false]
def sortTo (w:List Int):Nat→List Int
 | 0=>w
 | i + 1=>sink i (sortTo w i)
theorem sortTo_len (w:List Int):∀ i,(sortTo w i).length=w.length
 | 0=>rfl
 | i + 1=>by rw [sortTo,sink_len,sortTo_len w i]
theorem out132 (v:List Int) (hv:v.length≤100):∀ (k i:Nat),i + k=v.length→∃ d,itO (s6_0 v) ((i:Int),sortTo v i)=some (d,sortTo v v.length)
 | 0,i,hi=>by
  have:i=v.length:=by omega
  subst this
  exact ⟨(v.length:Int),itO_out (by unfold s6_0; simp)⟩
 | k + 1,i,hi=>by
  obtain ⟨d,hd⟩:=out132 v hv k (i + 1) (by omega)
  refine ⟨d,?_⟩
  obtain ⟨j,hj⟩:=in132 v ((i:Int),sortTo v i) hv i (sortTo v i) (sortTo_len v i) (by omega)
  have hlt:(i:Int) < (v.length:Int):=by omega
  have hs:s6_0 v ((i:Int),sortTo v i)=some (.inl (((i + 1:Nat):Int),sortTo v (i + 1))):=by
   unfold s6_0
   simp only [hlt,decide_true,cond_true,hj,obind_at,wrap_nat (show i < 9223372036854775807 by omega)]
   rfl
  rw [itO_in hs,hd]
theorem f6_eq {o:Option (List Int)} (h:(o.getD []).length≤100):f6 o=some (some (sortTo (o.getD []) (o.getD []).length)):=by
 unfold f6
 have hc:capO (o.getD [])=some (o.getD []):=by unfold capO; rw [if_pos (by omega)]
 obtain ⟨d,hd⟩:=out132 (o.getD []) h (o.getD []).length 0 (by omega)
 have e0:sortTo (o.getD []) 0=o.getD []:=rfl
 rw [e0,Int.natCast_zero] at hd
 have ht:takeM (o.getD []).length (sortTo (o.getD []) (o.getD []).length)=some (sortTo (o.getD []) (o.getD []).length):=by
  unfold takeM
  rw [sortTo_len,if_pos (Nat.le_refl _),List.take_of_length_le (by rw [sortTo_len]; omega)]
 simp only [hc,obind_at,hd,ht]
theorem sortTo_desc (w:List Int):∀ i,i≤w.length→∀ a b,a < b→b < i→(sortTo w i).getD b 0≤(sortTo w i).getD a 0
 | 0,_,a,b,_,hb=>absurd hb (by omega)
 | i + 1,h,a,b,hab,hb=>by
  have ih:=sortTo_desc w i (by omega)
  rw [sortTo]
  refine sink_desc (m:=i) i (sortTo w i) (Nat.le_refl _) (by rw [sortTo_len]; omega) ⟨?_,?_⟩ a b hab (by omega)
  ·intro a b hab hb ha hbi
   exact ih a b hab (by omega)
  ·intro b h1 h2
   omega
end Go.Z
/-
 LineLoads: the bound: whatever the order; no schedule ends before it.
-/
namespace Go.Z
open Go Go.Abs
theorem getD_lt {l:List Int} {i:Nat} (h:i < l.length):l.getD i 0=l[i]:=by
 rw [List.getD_eq_getElem?_getD,List.getElem?_eq_getElem h]; rfl
theorem swap_perm {e:List Int} {j:Nat} (h:j + 1 < e.length):(swapL e j).Perm e:=by
 unfold swapL
 rw [getD_lt h,getD_lt (show j < e.length by omega)]
 exact List.set_set_perm (as:=e) (i:=j + 1) (j:=j) h (by omega)
theorem sink_perm:∀ (j:Nat) (e:List Int),j < e.length→(sink j e).Perm e
 | 0,e,_=>List.Perm.refl _
 | j + 1,e,h=>by
  unfold sink
  split
  ·exact (sink_perm j (swapL e j) (by rw [swap_len]; omega)).trans (swap_perm h)
  ·exact List.Perm.refl _
theorem sortTo_perm (w:List Int):∀ i,i≤w.length→(sortTo w i).Perm w
 | 0,_=>List.Perm.refl _
 | i + 1,h=>(sink_perm i (sortTo w i) (by rw [sortTo_len]; omega)).trans (sortTo_perm w i (by omega))
theorem sorted_pair (w:List Int):(sortTo w w.length).Pairwise fun a b=>b≤a:=by
 rw [List.pairwise_iff_getElem]
 intro i j hi hj hij
 have h:=sortTo_desc w w.length (Nat.le_refl _) i j hij (by rw [sortTo_len] at hj; exact hj)
 rw [getD_lt hi,getD_lt hj] at h
 exact h
end Go.Z
