/-
  The best schedule: both searches.
-/
import Derived.Test.YtlonjmhacojkjaaGreatDoorR1
import Derived.Test.YtlonjmhacojkjaaGreatDoorG0m
import Derived.Test.YtlonjmhacojkjaaGreatDoorR2
import Derived.Test.YtlonjmhacojkjaaGreatDoorL14
import Derived.Test.YtlonjmhacojkjaaGreatDoorZL
set_option linter.unusedVariables false
set_option linter.unusedSimpArgs false
set_option maxRecDepth 100000
namespace Go.Z
open Go Go.Abs
theorem range_atN {n i t:Nat} (h:(List.range n)[i]?=some t):t=i∧i < n:=by
 obtain ⟨h1,h2⟩:=List.getElem?_eq_some_iff.1 h
 rw [List.length_range] at h1
 exact ⟨by simpa using h2.symm,h1⟩
theorem ap_one {α:Type} (l:List α) (x:α) (h:l.length + 1≤1073741824):apO (some l) [x]=some (some (l++[x])):=by
 unfold apO apS
 simp [h]
end Go.Z
/-
 LinePairs: differences,worst differences,the best of pairings.
-/
namespace Go.Z
open Go Go.Abs
section
variable {β ι:Type}
def updG (st:Option (β × Int)) (r:β × Int):Option (β × Int):=match st with
 | none=>some r
 | some s=>if r.2 < s.2 then some r else some s
theorem updG_some (st:Option (β × Int)) (r:β × Int):∃ s,updG st r=some s:=by
 cases st with
 | none=>exact ⟨r,rfl⟩
 | some s=>unfold updG; simp only []; split <;> exact ⟨_,rfl⟩
theorem updG_updG (st:Option (β × Int)) (a b:β × Int):updG (updG st a) b=match updG (some a) b with
  | some x=>updG st x
  | none=>st:=by
 cases st with
 | none=>
  obtain ⟨s,hs⟩:=updG_some (some a) b
  show updG (some a) b=_
  rw [hs]; rfl
 | some s=>
  simp only [updG]
  by_cases h1:a.2 < s.2
  ·rw [if_pos h1]
   simp only []
   by_cases h2:b.2 < a.2
   ·rw [if_pos h2]; simp only []; rw [if_pos (show b.2 < s.2 by omega)]
   ·rw [if_neg h2]; simp only []; rw [if_pos h1]
  ·rw [if_neg h1]
   simp only []
   by_cases h2:b.2 < a.2
   ·rw [if_pos h2]
   ·rw [if_neg h2]; simp only []; rw [if_neg h1,if_neg (show ¬ b.2 < s.2 by omega)]
theorem foldG_some (r:ι→β × Int):∀ (l:List ι) (a:β × Int),∃ s,l.foldl (fun st b=>updG st (r b)) (some a)=some s
 | [],a=>⟨a,rfl⟩
 | b::l,a=>by
  obtain ⟨s,hs⟩:=updG_some (some a) (r b)
  rw [List.foldl_cons,hs]
  exact foldG_some r l s
theorem foldG_upd (r:ι→β × Int):∀ (l:List ι) (st:Option (β × Int)) (a:β × Int),l.foldl (fun st b=>updG st (r b)) (updG st a)=match l.foldl (fun st b=>updG st (r b)) (some a) with
  | some x=>updG st x
  | none=>st
 | [],st,a=>rfl
 | b::l,st,a=>by
  rw [List.foldl_cons,List.foldl_cons,updG_updG]
  obtain ⟨s,hs⟩:=updG_some (some a) (r b)
  rw [hs]
  exact foldG_upd r l st s
theorem foldG_low (r:ι→β × Int) (e:Int):∀ (l:List ι) (a:β × Int),(∀ b∈l,e≤(r b).2)→e≤a.2→∀ s,l.foldl (fun st b=>updG st (r b)) (some a)=some s→e≤s.2
 | [],a,_,ha,s,hs=>by cases hs; exact ha
 | b::l,a,h,ha,s,hs=>by
  rw [List.foldl_cons] at hs
  have hb:=h b (List.mem_cons_self ..)
  have:updG (some a) (r b)=some (if (r b).2 < a.2 then r b else a):=by
   unfold updG; simp only []; split <;> rfl
  rw [this] at hs
  exact foldG_low r e l _ (fun c hc=>h c (List.mem_cons_of_mem _ hc)) (by split <;> assumption) s hs
theorem foldG_ne (r:ι→β × Int) (d:β × Int) {l:List ι} (hl:l ≠ []) (st:Option (β × Int)):l.foldl (fun st b=>updG st (r b)) st=updG st ((l.foldl (fun st b=>updG st (r b)) none).getD d):=by
 cases l with
 | nil=>exact absurd rfl hl
 | cons b l=>
  rw [List.foldl_cons,List.foldl_cons,foldG_upd]
  have e:updG none (r b)=some (r b):=rfl
  rw [e]
  obtain ⟨s,hs⟩:=foldG_some r l (r b)
  rw [hs]; rfl
end
theorem growG {α β:Type} (s:List α) (x:α) (F:Option (List α)→Option β) (hs:s.length≤100000):
  cond (accO s) (obind (apO (nonNil s) [x]) F) (cond (nonNil s).isNone (obind (apO (nonNil s) [x]) F) none)=F (nonNil (s++[x])):=by
 cases s with
 | nil=>rfl
 | cons y s=>
  have:apO (some (y::s)) [x]=some (some ((y::s)++[x])):=ap_one _ _ (by omega)
  simp only [nonNil,accO,List.isEmpty_cons,Bool.not_false,cond_true,this,obind_at]
  rfl
theorem nonNil_get' {α:Type} (l:List α):(nonNil l).getD []=l:=by cases l <;> rfl
theorem nonNil_snoc {α:Type} (s:List α) (x:α):nonNil (s++[x])=some (s++[x]):=by cases s <;> rfl
def stepD (s:Int) (vw:Int × Int):Int:=max (max s (vw.1 - vw.2)) (vw.2 - vw.1)
def diffU (a b:GUnit):Int:=((a.values.getD []).zip (b.values.getD [])).foldl stepD 0
structure UnitOk (u:GUnit):Prop where
 len:(u.values.getD []).length≤16
 val:∀ v∈u.values.getD [],-100000≤v∧v≤100000
theorem unit_ok {u:GUnit} (h:unitE u=0):UnitOk u:=by
 refine ⟨?_,unitE_at h⟩
 have:=whenE_zero (by decide) (firstNZ_zero h _ (List.mem_cons_of_mem _ (List.mem_cons_of_mem _ (List.mem_cons_self ..))))
 simp only [decide_eq_false_iff_not] at this
 omega
theorem zip_vals {a b:GUnit} (ha:UnitOk a) (hb:UnitOk b):∀ vw∈(a.values.getD []).zip (b.values.getD []),-100000≤vw.1∧vw.1≤100000∧-100000≤vw.2∧vw.2≤100000:=by
 intro vw h
 have h1:=ha.val _ (List.of_mem_zip h).1
 have h2:=hb.val _ (List.of_mem_zip h).2
 omega
theorem f51_eq {a b:GUnit} (ha:UnitOk a) (hb:UnitOk b) (hl:(a.values.getD []).length=(b.values.getD []).length):f51 a b=some (diffU a b):=by
 have hlen:=ha.len
 have hzl:((a.values.getD []).zip (b.values.getD [])).length=(a.values.getD []).length:=by rw [List.length_zip]; omega
 have hz:=zip_vals ha hb
 have key:=itO_list (δ:=Int × Int) (ε:=Empty) ((a.values.getD []).zip (b.values.getD [])) (s51_0 a b) (fun i s=>(s,(i:Int))) (fun _ s t=>.inl (stepD s t)) (fun s=>(s,((a.values.getD []).length:Int))) (fun d=>nomatch d) (fun _ s=>0≤s∧s≤200000) 0 ?_ ?_ ⟨by omega,by omega⟩
 ·have hf:runL (δ:=Empty) (fun _ (s:Int) (t:Int × Int)=>.inl (stepD s t)) 0 0 ((a.values.getD []).zip (b.values.getD []))=.inl (diffU a b):=runL_fold stepD _ _ _
  rw [hf,Int.natCast_zero] at key
  unfold f51
  rw [key]; rfl
 ·intro s _
  rw [hzl]
  unfold s51_0
  simp
 ·intro i s vw hi hlt hs
  obtain ⟨x,y⟩:=vw
  rw [List.getElem?_zip_eq_some] at hi
  obtain ⟨hxi,hyi⟩:=hi
  rw [hzl] at hlt
  have hx:=ha.val x (List.mem_of_getElem? hxi)
  have hy:=hb.val y (List.mem_of_getElem? hyi)
  have hi1:((i:Int) < ((a.values.getD []).length:Int)):=by omega
  have hwi:wrapF .i64 ((i:Int) + 1)=((i + 1:Nat):Int):=wrap_nat (by omega)
  dsimp only
  refine ⟨by unfold stepD; dsimp only; omega,?_⟩
  unfold s51_0
  simp only [hi1,decide_true,cond_true,idxO_nat,hxi,hyi,obind_at,hwi,wrapF_i64 (show -9223372036854775808≤x - y by omega) (by omega),wrapF_i64 (show -9223372036854775808≤y - x by omega) (by omega)]
  rfl
structure UnitsOk (l:List GUnit):Prop where
 ok:∀ u∈l,UnitOk u
 same:∀ u∈l,∀ w∈l,(u.values.getD []).length=(w.values.getD []).length
theorem firstU_each {n0:Int}:∀ {l:List GUnit} {seen:List (List UInt8)},firstU n0 seen l=0→∀ u∈l,unitE u=0∧lenU u=n0
 | x::l,seen,h,u,hu=>by
  unfold firstU at h
  by_cases hz:stepU n0 seen x=0
  ·rw [if_pos hz] at h
   rcases List.mem_cons.1 hu with rfl | hu
   ·refine ⟨firstNZ_zero hz _ (List.mem_cons_self ..),?_⟩
    have:=whenE_zero (by decide) (firstNZ_zero hz _ (List.mem_cons_of_mem _ (List.mem_cons_self ..)))
    simpa using this
   ·exact firstU_each h u hu
  ·rw [if_neg hz] at h; exact absurd h hz
theorem units_each {l:List GUnit} (h:unitsE l=0):∀ u∈l,unitE u=0∧lenU u=len0 l:=by
 unfold unitsE at h
 split at h
 ·exact firstU_each h
 ·cases h
theorem units_ok {l:List GUnit} (h:unitsE l=0):UnitsOk l:=by
 have h1:=units_each h
 refine ⟨fun u hu=>unit_ok (h1 u hu).1,fun u hu w hw=>?_⟩
 have e1:=(h1 u hu).2
 have e2:=(h1 w hw).2
 unfold lenU at e1 e2
 omega
def dAt (l:List GUnit) (i j:Int):Int:=match l[i.toNat]?,l[j.toNat]? with
 | some u,some w=>diffU u w
 | _,_=>0
theorem d_at {l:List GUnit} (h:UnitsOk l) {i j:Int} (hi:0≤i) (hin:i < (l.length:Int)) (hj:0≤j) (hjn:j < (l.length:Int)):∃ u w,idxO l i=some u∧idxO l j=some w∧f51 u w=some (dAt l i j):=by
 have h1:i.toNat < l.length:=by omega
 have h2:j.toNat < l.length:=by omega
 refine ⟨l[i.toNat],l[j.toNat],by unfold idxO; rw [if_pos hi]; exact List.getElem?_eq_getElem h1,by unfold idxO; rw [if_pos hj]; exact List.getElem?_eq_getElem h2,?_⟩
 rw [f51_eq (h.ok _ (List.getElem_mem h1)) (h.ok _ (List.getElem_mem h2)) (h.same _ (List.getElem_mem h1) _ (List.getElem_mem h2))]
 unfold dAt
 rw [List.getElem?_eq_getElem h1,List.getElem?_eq_getElem h2]
def worstP (l:List GUnit) (p:List GPair):Int:=p.foldl (fun s q=>max s (dAt l q.a q.b)) 0
def PairsIn (n:Nat) (p:List GPair):Prop:=∀ q∈p,0≤q.a∧q.a < (n:Int)∧0≤q.b∧q.b < (n:Int)
theorem worstP_snoc (l:List GUnit) (p:List GPair) (q:GPair):worstP l (p++[q])=max (worstP l p) (dAt l q.a q.b):=by
 unfold worstP; rw [List.foldl_append]; rfl
theorem f95_eq {o:Option (List GUnit)} {op:Option (List GPair)} {l:List GUnit} {p:List GPair} (h:o.getD []=l) (h2:op.getD []=p) (hu:UnitsOk l) (hp:PairsIn l.length p) (hn:p.length≤1000):f95 op o=some (nonNil (p.map fun q=>dAt l q.a q.b),accO (p.map fun q=>dAt l q.a q.b)):=by
 have key:=itO_list (δ:=Option (List Int) × Bool × Int) (ε:=Empty) p (s95_0 op o) (fun i (s:List Int)=>(nonNil s,(i:Int),accO s)) (fun _ s (q:GPair)=>.inl (s++[dAt l q.a q.b])) (fun s=>(nonNil s,accO s,(p.length:Int))) (fun d=>nomatch d) (fun i s=>s.length≤i) [] ?_ ?_ (Nat.le_refl _)
 ·have hf:runL (δ:=Empty) (fun _ (s:List Int) (q:GPair)=>.inl (s++[dAt l q.a q.b])) 0 [] p=.inl (p.map fun q=>dAt l q.a q.b):=by
   rw [show (fun (_:Nat) (s:List Int) (q:GPair)=>(Sum.inl (s++[dAt l q.a q.b]):List Int ⊕ Empty))=fun _ s q=>.inl ((fun (s:List Int) (q:GPair)=>s++[dAt l q.a q.b]) s q) from rfl,runL_fold]
   congr 1
   have:∀ (p:List GPair) (s:List Int),p.foldl (fun (s:List Int) (q:GPair)=>s++[dAt l q.a q.b]) s=s++p.map fun q=>dAt l q.a q.b:=by
    intro p
    induction p with
    | nil=>intro s; simp
    | cons t p ih=>intro s; rw [List.foldl_cons,ih]; simp
   simpa using this p []
  rw [hf,Int.natCast_zero] at key
  unfold f95
  rw [show ((none:Option (List Int)),(0:Int),false)=(nonNil [],0,accO ([]:List Int)) from rfl,key]
  simp only [obind_at]
 ·intro s _
  unfold s95_0
  simp [h2]
 ·intro i s q hi hlt hs
  obtain ⟨p1,p2,p3,p4⟩:=hp q (List.mem_of_getElem? hi)
  obtain ⟨u,w,e1,e2,e3⟩:=d_at hu p1 p2 p3 p4
  have hi1:((i:Int) < (p.length:Int)):=by omega
  have e146:f96 q o q.a q.b=some (dAt l q.a q.b):=by
   unfold f96
   simp only [h,e1,e2,obind_at,e3]
  refine ⟨by rw [List.length_append,List.length_singleton]; omega,?_⟩
  unfold s95_0
  simp only [h2,hi1,decide_true,cond_true,idxO_nat,hi,obind_at,e146,wrap_nat (show i < 9223372036854775807 by omega)]
  rw [growG _ _ _ (by omega)]
  simp [accO]
theorem maxL_snoc (l:List Int) (x:Int):maxL (l++[x])=match l with
  | []=>x
  | y::t=>max (t.foldl max y) x:=by
 cases l with
 | nil=>rfl
 | cons y t=>show (t++[x]).foldl max y=_; rw [List.foldl_append]; rfl
theorem foldmax_comm:∀ (t:List Int) (a b:Int),t.foldl max (max a b)=max a (t.foldl max b)
 | [],a,b=>rfl
 | x::t,a,b=>by rw [List.foldl_cons,List.foldl_cons,← foldmax_comm t a (max b x)]; congr 1; omega
theorem f75_eq {o:Option (List GUnit)} {op:Option (List GPair)} {l:List GUnit} {p:List GPair} (h:o.getD []=l) (h2:op.getD []=p) (hu:UnitsOk l) (hp:PairsIn l.length p) (hn:p.length≤1000):f75 o op=some (worstP l p):=by
 have hw:worstP l p=maxL ((p.map fun q=>dAt l q.a q.b)++[0]):=by
  rw [maxL_snoc]
  have e:worstP l p=(p.map fun q=>dAt l q.a q.b).foldl max 0:=by unfold worstP; rw [List.foldl_map]
  rw [e]
  cases hm:p.map fun q=>dAt l q.a q.b with
  | nil=>rfl
  | cons y t=>
   rw [List.foldl_cons]
   have:max (0:Int) y=max 0 y:=rfl
   rw [foldmax_comm]
   simp only []
   omega
 unfold f75
 rw [f95_eq h h2 hu hp hn]
 simp only [obind_at]
 rw [growG _ _ _ (by rw [List.length_map]; omega),nonNil_snoc]
 have e93:E47 (some ((p.map fun q=>dAt l q.a q.b)++[0]))=some (maxL ((p.map fun q=>dAt l q.a q.b)++[0])):=exO_of ⟨by simp; omega,by simp⟩
 rw [e93,hw]; rfl
end Go.Z
/-
 LinePairs: the best of all pairings that begin so.
-/
namespace Go.Z
open Go Go.Abs
abbrev PSch:=List GPair × Int
def bestP (l:List GUnit):Nat→List Int→List GPair→PSch
 | 0,_,p=>(p,worstP l p)
 | n + 1,left,p=>(left.tail.foldl (fun st b=>updG st (bestP l n (left.tail.filter fun x=>x != b) (p++[⟨left.headD 0,b⟩]))) none).getD (p,0)
theorem filter_ne {t:List Int} (h:t.Nodup) {i:Nat} (hi:i < t.length):t.take i++t.drop (i + 1)=t.filter fun x=>x != t[i]:=by
 induction t generalizing i with
 | nil=>simp at hi
 | cons x t ih=>
  have hx:=(List.nodup_cons.1 h).1
  cases i with
  | zero=>
   simp only [List.take_zero,List.nil_append,List.getElem_cons_zero,Nat.zero_add,List.drop_succ_cons,List.drop_zero]
   rw [List.filter_cons]
   simp only [bne_self_eq_false,Bool.false_eq_true,if_false]
   symm
   rw [List.filter_eq_self]
   intro y hy
   have:y ≠ x:=fun e=>hx (e ▸ hy)
   simp [this]
  | succ i=>
   have hi':i < t.length:=by simpa using hi
   simp only [List.take_succ_cons,List.cons_append,List.drop_succ_cons,List.getElem_cons_succ]
   rw [List.filter_cons]
   have:x ≠ t[i]:=fun e=>hx (e ▸ List.getElem_mem hi')
   have hb:(x != t[i])=true:=by simp [this]
   rw [if_pos hb,← ih (List.nodup_cons.1 h).2 hi']
theorem filter_len {t:List Int} (h:t.Nodup) {b:Int} (hb:b∈t):(t.filter fun x=>x != b).length + 1=t.length:=by
 obtain ⟨i,hi,rfl⟩:=List.getElem_of_mem hb
 rw [← filter_ne h hi,List.length_append,List.length_take,List.length_drop]
 omega
structure LeftOk (n:Nat) (left:List Int):Prop where
 nd:left.Nodup
 ins:∀ x∈left,0≤x∧x < (n:Int)
theorem LeftOk.next {n:Nat} {left:List Int} (h:LeftOk n left) (b:Int):LeftOk n (left.tail.filter fun x=>x != b):=
 ⟨(h.nd.sublist (List.tail_sublist _)).sublist (List.filter_sublist ..),fun x hx=>h.ins x (List.mem_of_mem_tail (List.mem_filter.1 hx).1)⟩
theorem LeftOk.tail {n:Nat} {left:List Int} (h:LeftOk n left):left.tail.Nodup:=h.nd.sublist (List.tail_sublist _)
theorem LeftOk.head {n:Nat} {left:List Int} (h:LeftOk n left) (hne:left ≠ []):0≤left.headD 0∧left.headD 0 < (n:Int):=by
 cases left with
 | nil=>exact absurd rfl hne
 | cons a t=>exact h.ins a (List.mem_cons_self ..)
theorem next_len {n m:Nat} {left:List Int} (h:LeftOk n left) (hl:left.length=2 * (m + 1)) {b:Int} (hb:b∈left.tail):(left.tail.filter fun x=>x != b).length=2 * m:=by
 have:=filter_len h.tail hb
 rw [List.length_tail] at this
 omega
theorem pairs_in {n:Nat} {left:List Int} {p:List GPair} {b:Int} (h:LeftOk n left) (hp:PairsIn n p) (hb:b∈left.tail):PairsIn n (p++[⟨left.headD 0,b⟩]):=by
 have hne:left ≠ []:=by rintro rfl; simp at hb
 have h1:=h.head hne
 have h2:=h.ins b (List.mem_of_mem_tail hb)
 intro q hq
 rcases List.mem_append.1 hq with hq | hq
 ·exact hp q hq
 ·simp only [List.mem_singleton] at hq
  subst hq
  exact ⟨h1.1,h1.2,h2.1,h2.2⟩
theorem bestP_fold {l:List GUnit} {m:Nat} {left:List Int} {p:List GPair} (hl:left.length=2 * (m + 1)) (st:Option PSch):
  left.tail.foldl (fun st b=>updG st (bestP l m (left.tail.filter fun x=>x != b) (p++[⟨left.headD 0,b⟩]))) st=updG st (bestP l (m + 1) left p):=by
 have hne:left.tail ≠ []:=by intro h; have:=List.length_tail (l:=left); rw [h] at this; simp at this; omega
 exact foldG_ne (fun b=>bestP l m (left.tail.filter fun x=>x != b) (p++[⟨left.headD 0,b⟩])) (p,0) hne st
theorem bestP_low {l:List GUnit} (hu:UnitsOk l) {n:Nat}:∀ (m:Nat) (left:List Int) (p:List GPair),LeftOk n left→left.length=2 * m→worstP l p≤(bestP l m left p).2
 | 0,_,p,_,_=>Int.le_refl _
 | m + 1,left,p,hk,hl=>by
  have h:=bestP_fold (l:=l) (p:=p) hl none
  have hb:∀ b∈left.tail,worstP l p≤(bestP l m (left.tail.filter fun x=>x != b) (p++[⟨left.headD 0,b⟩])).2:=fun b hb=>by
   have:=bestP_low hu m _ (p++[⟨left.headD 0,b⟩]) (hk.next b) (next_len hk hl hb)
   rw [worstP_snoc] at this
   omega
  cases ht:left.tail with
  | nil=>have:=List.length_tail (l:=left); rw [ht] at this; simp at this; omega
  | cons b t=>
   rw [ht] at h hb
   rw [List.foldl_cons] at h
   exact foldG_low (fun b'=>bestP l m ((b::t).filter fun x=>x != b') (p++[⟨left.headD 0,b'⟩])) (worstP l p) t _ (fun c hc=>hb c (List.mem_cons_of_mem _ hc)) (hb b (List.mem_cons_self ..)) _ h
end Go.Z
/-
 LinePairs: pairings are checked,both ways.
-/
namespace Go.Z
open Go Go.Abs
theorem E17_3 (a b c:Int):E17 (some [a,b,c])=some (firstNZ [a,b,c]):=exO_of ⟨by simp,by simp⟩
end Go.Z
/-
 LinePairs: the search that leaves out what cannot be better finds the best of all.
-/
namespace Go.Z
open Go Go.Abs
theorem ap_app {α:Type} (l m:List α) (h:l.length + m.length≤1073741824):apO (some l) m=some (some (l++m)):=by
 unfold apO apS
 simp [h]
theorem f77_two {x y:Option (List Int)} (hx:(x.getD []).length≤1000) (hy:(y.getD []).length≤1000):∃ r,f77 (some [x,y])=some r∧r.1.getD []=x.getD []++y.getD []:=by
 have w1:wrapF .i64 ((0:Int) + ((x.getD []).length:Int))=((x.getD []).length:Int):=by rw [wrapF_i64 (by omega) (by omega)]; omega
 have w2:wrapF .i64 (((x.getD []).length:Int) + ((y.getD []).length:Int))=((x.getD []).length:Int) + ((y.getD []).length:Int):=wrapF_i64 (by omega) (by omega)
 have i1:wrapF .i64 ((0:Int) + 1)=1:=by decide
 have i2:wrapF .i64 ((1:Int) + 1)=2:=by decide
 have n1:¬ ((x.getD []).length:Int) < 0:=by omega
 have n2:¬ ((x.getD []).length:Int) + ((y.getD []).length:Int) < 0:=by omega
 have g0:idxO [x,y] 0=some x:=rfl
 have g1:idxO [x,y] 1=some y:=rfl
 have l1000:decide ((0:Int) < (([x,y]:List (Option (List Int))).length:Int))=true:=rfl
 have l1001:decide ((1:Int) < (([x,y]:List (Option (List Int))).length:Int))=true:=rfl
 have l1002:decide ((2:Int) < (([x,y]:List (Option (List Int))).length:Int))=false:=rfl
 have a0:s77_0 (some [x,y]) (0,0)=some (.inl (((x.getD []).length:Int),1)):=by
  unfold s77_0
  simp only [Option.getD_some,l1000,cond_true,g0,obind_at,w1,i1,n1,decide_false,cond_false]
 have a1:s77_0 (some [x,y]) (((x.getD []).length:Int),1)=some (.inl (((x.getD []).length:Int) + ((y.getD []).length:Int),2)):=by
  unfold s77_0
  simp only [Option.getD_some,l1001,cond_true,g1,obind_at,w2,i2,n2,decide_false,cond_false]
 have a2:s77_0 (some [x,y]) (((x.getD []).length:Int) + ((y.getD []).length:Int),2)=some (.inr (((x.getD []).length:Int) + ((y.getD []).length:Int),2)):=by
  unfold s77_0
  simp only [Option.getD_some,l1002,cond_false]
 unfold f77
 rw [itO_in a0,itO_in a1,itO_out a2]
 have e152:E97 none (((x.getD []).length:Int) + ((y.getD []).length:Int))=some (if ((x.getD []).length:Int) + ((y.getD []).length:Int)=0 then (none,false) else (some [],true)):=exO_of ⟨rfl,by omega,by omega⟩
 simp only [obind_at,e152]
 have b1002:∀ s b,s77_1 (some [x,y]) (s,2,b)=some (.inr (s,b,2)):=by
  intro s b
  unfold s77_1
  simp only [Option.getD_some,l1002,cond_false]
 by_cases hz:((x.getD []).length:Int) + ((y.getD []).length:Int)=0
 ·have hx0:x.getD []=[]:=List.length_eq_zero_iff.1 (by omega)
  have hy0:y.getD []=[]:=List.length_eq_zero_iff.1 (by omega)
  have an:apO (none:Option (List Int)) []=some none:=rfl
  have b1000:s77_1 (some [x,y]) (none,0,false)=some (.inl (none,1,true)):=by
   unfold s77_1
   simp only [Option.getD_some,l1000,cond_true,g0,obind_at,hx0,an,Option.isNone_none,i1,cond_false]
  have b1001:s77_1 (some [x,y]) (none,1,true)=some (.inl (none,2,true)):=by
   unfold s77_1
   simp only [Option.getD_some,l1001,cond_true,g1,obind_at,hy0,an,i2]
  rw [if_pos hz,itO_in b1000,itO_in b1001,itO_out (b1002 _ _)]
  exact ⟨_,rfl,by rw [hx0,hy0]; rfl⟩
 ·have b1000:s77_1 (some [x,y]) (some [],0,true)=some (.inl (some (x.getD []),1,true)):=by
   unfold s77_1
   simp only [Option.getD_some,l1000,cond_true,g0,obind_at,ap_app [] _ (show ([]:List Int).length + (x.getD []).length≤1073741824 by simp; omega),List.nil_append,i1]
  have b1001:s77_1 (some [x,y]) (some (x.getD []),1,true)=some (.inl (some (x.getD []++y.getD []),2,true)):=by
   unfold s77_1
   simp only [Option.getD_some,l1001,cond_true,g1,obind_at,ap_app _ _ (show (x.getD []).length + (y.getD []).length≤1073741824 by omega),i2]
  rw [if_neg hz,itO_in b1000,itO_in b1001,itO_out (b1002 _ _)]
  exact ⟨_,rfl,rfl⟩
def RelB (st:Option PSch) (best:Option (List GPair)) (worst:Int) (found:Bool):Prop:=match st with
 | none=>found=false∧worst=0∧best=none
 | some s=>found=true∧best.getD []=s.1∧worst=s.2
theorem cut_lh {l:List Int} {k:Nat} (h1:1≤k) (h:k≤l.length):∃ r,cutSO (some l) (some 1) (some (k:Int))=some r∧r.getD []=l.tail.take (k - 1):=by
 refine ⟨some ((l.take k).drop 1),?_,?_⟩
 ·unfold cutSO cutO bndI
  have h2:(1:Int)≤(k:Int):=by omega
  simp [h]
  rw [if_pos h2]
  simp
 ·cases l with
  | nil=>simp
  | cons a l=>
   obtain ⟨j,rfl⟩:∃ j,k=j + 1:=⟨k - 1,by omega⟩
   simp
theorem cut_l {l:List Int} {k:Nat} (h1:1≤k) (h:k < l.length):∃ r,cutSO (some l) (some ((k + 1:Nat):Int)) none=some r∧r.getD []=l.tail.drop k:=by
 refine ⟨some ((l.take l.length).drop (k + 1)),?_,?_⟩
 ·unfold cutSO cutO bndI
  simp only [Option.getD_some]
  have:(0:Int)≤((k + 1:Nat):Int)∧((k + 1:Nat):Int)≤(l.length:Int):=by omega
  simp only [this,and_self,if_true,Option.map_some,Int.toNat_natCast]
 ·cases l with
  | nil=>simp
  | cons a l=>simp
section
variable {l:List GUnit} {o:Option (List GUnit)} {rec:(Option (List Int))→(Option (List GPair))→(Option (List GUnit))→(Option (List GPair))→Bool→Int→Bool→Option ((Option (List GPair)) × Int × Bool × Bool)}
def RecOk (l:List GUnit) (o:Option (List GUnit)) (m:Nat) (rec:(Option (List Int))→(Option (List GPair))→(Option (List GUnit))→(Option (List GPair))→Bool→Int→Bool→Option ((Option (List GPair)) × Int × Bool × Bool)):Prop:=
 ∀ (ol:Option (List Int)) (op:Option (List GPair)) (st:Option PSch) (best:Option (List GPair)) (own:Bool) (worst:Int) (found:Bool),LeftOk l.length (ol.getD [])→(ol.getD []).length=2 * m→PairsIn l.length (op.getD [])→(op.getD []).length + m≤100→RelB st best worst found →
  ∃ best' own' worst' found',rec ol op o best own worst found=some (best',worst',found',own')∧RelB (updG st (bestP l m (ol.getD []) (op.getD []))) best' worst' found'
theorem step111 {m:Nat} (hrec:RecOk l o m rec) {left:List Int} {op:Option (List GPair)} (hk:LeftOk l.length left) (hl:left.length=2 * (m + 1)) (hp:PairsIn l.length (op.getD [])) (hpl:(op.getD []).length + (m + 1)≤100)
  {i:Nat} (hi:i < left.tail.length) {st:Option PSch} {best:Option (List GPair)} {own:Bool} {worst:Int} {found:Bool} (hr:RelB st best worst found):
  ∃ best' own' worst' found',s52_0 (some left) op o rec (left.headD 0) (((i + 1:Nat):Int),best,worst,found,own)=some (.inl (((i + 2:Nat):Int),best',worst',found',own')) ∧
   RelB (updG st (bestP l m (left.tail.filter fun x=>x != left.tail[i]) (op.getD []++[⟨left.headD 0,left.tail[i]⟩]))) best' worst' found':=by
 have htl:left.tail.length=left.length - 1:=List.length_tail
 obtain ⟨c1001,hc1,hg1⟩:=cut_lh (l:=left) (k:=i + 1) (by omega) (by omega)
 obtain ⟨c1002,hc2,hg2⟩:=cut_l (l:=left) (k:=i + 1) (by omega) (by omega)
 have hlt:((i + 1:Nat):Int) < (left.length:Int):=by omega
 have hw:wrapF .i64 (((i + 1:Nat):Int) + 1)=((i + 1 + 1:Nat):Int):=by rw [wrapF_i64 (by omega) (by omega)]; omega
 obtain ⟨r,h139,hrest⟩:=f77_two (x:=c1001) (y:=c1002) (by rw [hg1,List.length_take]; omega) (by rw [hg2,List.length_drop]; omega)
 have hrest':r.1.getD []=left.tail.filter fun x=>x != left.tail[i]:=by
  rw [hrest,hg1,hg2,← filter_ne hk.tail hi]; rfl
 have hb:left.tail[i]∈left.tail:=List.getElem_mem hi
 have hidx:idxO left ((i + 1:Nat):Int)=some left.tail[i]:=by
  rw [idxO_nat]
  cases left with
  | nil=>simp at hi
  | cons a t=>simp at hi ⊢
 have hrec':∀ op':Option (List GPair),op'.getD []=op.getD []++[⟨left.headD 0,left.tail[i]⟩]→∃ best' own' worst' found',rec r.1 op' o best own worst found=some (best',worst',found',own')∧RelB (updG st (bestP l m (left.tail.filter fun x=>x != left.tail[i]) (op.getD []++[⟨left.headD 0,left.tail[i]⟩]))) best' worst' found':=by
  intro op' he
  have:=hrec r.1 op' st best own worst found (by rw [hrest']; exact hk.next _) (by rw [hrest']; exact next_len hk hl hb) (by rw [he]; exact pairs_in hk hp hb) (by rw [he]; simp; omega) hr
  rw [hrest',he] at this
  exact this
 unfold s52_0
 simp only [Option.getD_some,hlt,decide_true,cond_true,hc1,obind_at,hw,hc2,h139,hidx]
 cases op with
 | none=>
  obtain ⟨b',o',w',f',e1,e2⟩:=hrec' (some [⟨left.headD 0,left.tail[i]⟩]) rfl
  refine ⟨b',o',w',f',?_,e2⟩
  simp only [Option.isNone_none,cond_true,E76n,if_true,obind_at,e1]
 | some p=>
  have e138:E76 (some p)=some (some p):=exO_of ⟨by simp at hpl ⊢; omega,by simp⟩
  obtain ⟨b',o',w',f',e1,e2⟩:=hrec' (some (p++[⟨left.headD 0,left.tail[i]⟩])) rfl
  refine ⟨b',o',w',f',?_,e2⟩
  simp only [Option.isNone_some,cond_false,e138,obind_at,ap_one p _ (show p.length + 1≤1073741824 by simp at hpl; omega),e1]
theorem loop111 {m:Nat} (hrec:RecOk l o m rec) {left:List Int} {op:Option (List GPair)} (hk:LeftOk l.length left) (hl:left.length=2 * (m + 1)) (hp:PairsIn l.length (op.getD [])) (hpl:(op.getD []).length + (m + 1)≤100):
  ∀ (j i:Nat) (st:Option PSch) (best:Option (List GPair)) (own:Bool) (worst:Int) (found:Bool),i + j=left.tail.length→RelB st best worst found →
   ∃ best' own' worst' found',itO (s52_0 (some left) op o rec (left.headD 0)) (((i + 1:Nat):Int),best,worst,found,own)=some ((left.length:Int),best',own',worst',found') ∧
    RelB ((left.tail.drop i).foldl (fun st b=>updG st (bestP l m (left.tail.filter fun x=>x != b) (op.getD []++[⟨left.headD 0,b⟩]))) st) best' worst' found'
 | 0,i,st,best,own,worst,found,hi,hr=>by
  have htl:left.tail.length=left.length - 1:=List.length_tail
  have e:((i + 1:Nat):Int)=(left.length:Int):=by omega
  have hd:left.tail.drop i=[]:=List.drop_eq_nil_of_le (by omega)
  refine ⟨best,own,worst,found,?_,by rw [hd]; exact hr⟩
  rw [e]
  refine itO_out ?_
  unfold s52_0
  simp
 | j + 1,i,st,best,own,worst,found,hi,hr=>by
  have hil:i < left.tail.length:=by omega
  obtain ⟨b1001,o1,w1,f1001,e1,r1⟩:=step111 hrec hk hl hp hpl hil (own:=own) hr
  obtain ⟨b1002,o2,w2,f1002,e2,r2⟩:=loop111 hrec hk hl hp hpl j (i + 1) _ b1001 o1 w1 f1001 (by omega) r1
  refine ⟨b1002,o2,w2,f1002,?_,?_⟩
  ·rw [itO_in e1]; exact e2
  ·rw [List.drop_eq_getElem_cons hil,List.foldl_cons]; exact r2
theorem f52_eq (hu:UnitsOk l) (ho:o.getD []=l):∀ (m n:Nat),m < n→RecOk l o m (f52 n)
 | 0,n + 1,_=>by
  intro ol op st best own worst found hk hl hp hpl hr
  have h0:(ol.getD []).length=0:=by omega
  have hv:=f75_eq ho rfl hu hp (by omega)
  have hz:((ol.getD []).length:Int)=0:=by omega
  have hend:∃ b' o',(cond op.isNone (obind (E76n op) fun _=>some (none,worstP l (op.getD []),true,false)) (obind (E76 op) fun v9=>some (v9,worstP l (op.getD []),true,true)))=some (b',worstP l (op.getD []),true,o')∧(b':Option (List GPair)).getD []=op.getD []:=by
   cases op with
   | none=>exact ⟨none,false,by simp only [Option.isNone_none,cond_true,E76n,if_true,obind_at],rfl⟩
   | some p=>
    have e138:E76 (some p)=some (some p):=exO_of ⟨by simp at hpl ⊢; omega,by simp⟩
    exact ⟨some p,true,by simp only [Option.isNone_some,cond_false,e138,obind_at],rfl⟩
  obtain ⟨b',o',he,hb⟩:=hend
  show ∃ best' own' worst' found',F52 (f52 n) ol op o best own worst found=_∧_
  unfold F52
  simp only [hv,obind_at,hz,decide_true,cond_true]
  cases st with
  | none=>
   obtain ⟨rfl,rfl,rfl⟩:=hr
   refine ⟨b',o',worstP l (op.getD []),true,?_,rfl,hb,rfl⟩
   simp only [cond_false]
   exact he
  | some s=>
   obtain ⟨rfl,hbs,rfl⟩:=hr
   simp only [cond_true]
   by_cases hge:s.2≤worstP l (op.getD [])
   ·refine ⟨best,own,s.2,true,by simp only [hge,decide_true,cond_true],?_⟩
    have:updG (some s) (bestP l 0 (ol.getD []) (op.getD []))=some s:=by
     unfold updG bestP; simp only []; rw [if_neg (by omega)]
    rw [this]
    exact ⟨rfl,hbs,rfl⟩
   ·refine ⟨b',o',worstP l (op.getD []),true,?_,?_⟩
    ·simp only [hge,decide_false,cond_false]
     exact he
    ·have:updG (some s) (bestP l 0 (ol.getD []) (op.getD []))=some (op.getD [],worstP l (op.getD [])):=by
      unfold updG bestP; simp only []; rw [if_pos (by omega)]
     rw [this]
     exact ⟨rfl,hb,rfl⟩
 | m + 1,n + 1,hmn=>by
  intro ol op st best own worst found hk hl hp hpl hr
  have hv:=f75_eq ho rfl hu hp (by omega)
  obtain ⟨left,rfl⟩:∃ left,ol=some left:=by
   cases ol with
   | none=>simp at hl
   | some x=>exact ⟨x,rfl⟩
  simp only [Option.getD_some] at hk hl ⊢
  have hz:¬ (left.length:Int)=0:=by omega
  have hrec:=f52_eq hu ho m n (by omega)
  have hidx:idxO left 0=some (left.headD 0):=by
   cases left with
   | nil=>simp at hl
   | cons a t=>rfl
  have hfold:=bestP_fold (l:=l) (p:=op.getD []) hl st
  obtain ⟨b',o',w',f',e1,r1⟩:=loop111 hrec hk hl hp hpl left.tail.length 0 st best own worst found (by omega) hr
  rw [List.drop_zero,hfold] at r1
  show ∃ best' own' worst' found',F52 (f52 n) (some left) op o best own worst found=_∧_
  unfold F52
  simp only [hv,obind_at,Option.getD_some,hz,decide_false,cond_false,hidx]
  have e1':itO (s52_0 (some left) op o (f52 n) (left.headD 0)) (1,best,worst,found,own)=some ((left.length:Int),b',o',w',f'):=e1
  cases st with
  | none=>
   obtain ⟨rfl,rfl,rfl⟩:=hr
   refine ⟨b',o',w',f',?_,r1⟩
   simp only [cond_false]
   rw [show s52_0b=s52_0 from rfl,e1']
   rfl
  | some s=>
   obtain ⟨rfl,hbs,rfl⟩:=hr
   simp only [cond_true]
   by_cases hge:s.2≤worstP l (op.getD [])
   ·refine ⟨best,own,s.2,true,by simp only [hge,decide_true,cond_true],?_⟩
    have hlow:=bestP_low hu (m + 1) left (op.getD []) hk hl
    have:updG (some s) (bestP l (m + 1) left (op.getD []))=some s:=by
     unfold updG; simp only []; rw [if_neg (by omega)]
    rw [this]
    exact ⟨rfl,hbs,rfl⟩
   ·refine ⟨b',o',w',f',?_,r1⟩
    simp only [hge,decide_false,cond_false]
    rw [e1']
    rfl
end
end Go.Z
/-
 LinePairs: the reference's search finds the best of all,too.
-/
namespace Go.Z
open Go Go.Abs
def lf:Nat→List Bool→List Int
 | _,[]=>[]
 | i,true::us=>lf (i + 1) us
 | i,false::us=>(i:Int)::lf (i + 1) us
theorem lf_in:∀ (us:List Bool) (i:Nat),∀ x∈lf i us,(i:Int)≤x∧x < (i:Int) + us.length
 | [],i,x,h=>by cases h
 | true::us,i,x,h=>by
  have:=lf_in us (i + 1) x h
  simp only [List.length_cons]; omega
 | false::us,i,x,h=>by
  simp only [lf,List.mem_cons] at h
  simp only [List.length_cons]
  rcases h with rfl | h
  ·omega
  ·have:=lf_in us (i + 1) x h
   omega
theorem lf_nodup:∀ (us:List Bool) (i:Nat),(lf i us).Nodup
 | [],i=>List.nodup_nil
 | true::us,i=>lf_nodup us (i + 1)
 | false::us,i=>by
  refine List.nodup_cons.2 ⟨fun h=>?_,lf_nodup us (i + 1)⟩
  have:=(lf_in us (i + 1) _ h).1
  omega
theorem lf_ok (us:List Bool):LeftOk us.length (lf 0 us):=⟨lf_nodup us 0,fun x hx=>by have:=lf_in us 0 x hx; omega⟩
theorem lf_all:∀ (n i:Nat),lf i (List.replicate n false)=(List.range' i n).map fun (t:Nat)=>(t:Int)
 | 0,i=>rfl
 | n + 1,i=>by
  rw [List.replicate_succ,List.range'_succ,List.map_cons,← lf_all n (i + 1)]
  rfl
def allI (n:Nat):List Int:=lf 0 (List.replicate n false)
theorem allI_len (n:Nat):(allI n).length=n:=by unfold allI; rw [lf_all]; simp
theorem allI_ok (n:Nat):LeftOk n (allI n):=by
 have:=lf_ok (List.replicate n false)
 rw [List.length_replicate] at this
 exact this
theorem f53_eq {o:Option (List GUnit)} {l:List GUnit} (h:o.getD []=l) (hn:l.length≤1000):∃ b,f53 o=some (nonNil (allI l.length),b):=by
 have hlen:(List.range l.length).length=l.length:=List.length_range
 have key:=itO_list (δ:=Option (List Int) × Bool × Int) (ε:=Empty) (List.range l.length) (s53_0 o) (fun i (s:List Int)=>(nonNil s,(i:Int),accO s)) (fun _ s t=>.inl (s++[(t:Int)])) (fun s=>(nonNil s,accO s,(l.length:Int))) (fun d=>nomatch d) (fun i s=>s.length≤i) [] ?_ ?_ (Nat.le_refl _)
 ·have hr:runL (δ:=Empty) (fun _ (s:List Int) (t:Nat)=>.inl (s++[(t:Int)])) 0 [] (List.range l.length)=.inl (allI l.length):=by
   rw [show (fun (_:Nat) (s:List Int) (t:Nat)=>(Sum.inl (s++[(t:Int)]):List Int ⊕ Empty))=fun _ s t=>.inl ((fun (s:List Int) (t:Nat)=>s++[(t:Int)]) s t) from rfl,runL_fold]
   congr 1
   have:∀ (l:List Nat) (s:List Int),l.foldl (fun (s:List Int) (t:Nat)=>s++[(t:Int)]) s=s++l.map fun (i:Nat)=>(i:Int):=by
    intro l
    induction l with
    | nil=>intro s; simp
    | cons t l ih=>intro s; rw [List.foldl_cons,ih]; simp
   rw [this,List.nil_append]
   unfold allI
   rw [lf_all,List.range_eq_range']
  rw [hr,Int.natCast_zero] at key
  unfold f53
  rw [show ((none:Option (List Int)),(0:Int),false)=(nonNil [],0,accO ([]:List Int)) from rfl,key]
  exact ⟨_,rfl⟩
 ·intro s _
  rw [hlen]
  unfold s53_0
  simp [h]
 ·intro i s t ht hi hs
  obtain ⟨rfl,hi'⟩:=range_atN ht
  have hlt:(t:Int) < (l.length:Int):=by omega
  refine ⟨by rw [List.length_append,List.length_singleton]; omega,?_⟩
  unfold s53_0
  simp only [h,hlt,decide_true,cond_true,wrap_nat (show t < 9223372036854775807 by omega)]
  rw [growG _ _ _ (by omega)]
  simp [accO]
def pairsE (l:List GUnit):Int:=firstNZ [unitsE l,whenE (!decide ((l.length:Int).tmod 2=0)) 35,whenE (decide (8 < (l.length:Int))) 23]
theorem pairsE_ok {l:List GUnit} (h:pairsE l=0):unitsE l=0∧∃ m,l.length=2 * m∧m≤4:=by
 have h1:=firstNZ_zero h _ (List.mem_cons_self ..)
 have h2:=whenE_zero (by decide) (firstNZ_zero h _ (List.mem_cons_of_mem _ (List.mem_cons_self ..)))
 have h3:=whenE_zero (by decide) (firstNZ_zero h _ (List.mem_cons_of_mem _ (List.mem_cons_of_mem _ (List.mem_cons_self ..))))
 simp only [Bool.not_eq_eq_eq_not,Bool.not_false,decide_eq_true_eq,decide_eq_false_iff_not] at h2 h3
 refine ⟨h1,l.length / 2,?_,?_⟩
 ·have:(l.length:Int).tmod 2=((l.length % 2:Nat):Int):=rfl
  omega
 ·omega
theorem f15_eq {o:Option (List GUnit)} {l:List GUnit} (h:o.getD []=l) (hn:l.length≤1000) (e22:E1022 o=some (unitsE l)):
  if pairsE l=0 then ∃ b w,f15 o=some (b,w,0)∧b.getD []=(bestP l (l.length / 2) (allI l.length) []).1∧w=(bestP l (l.length / 2) (allI l.length) []).2 else f15 o=some (none,0,pairsE l):=by
 have hrem:remO (l.length:Int) 2=some ((l.length:Int).tmod 2):=by unfold remO; rw [if_neg (by decide)]
 have hun:f15 o=cond (decide (pairsE l=0)) (obind (f53 o) fun v12=>obind (f52 10 v12.1 none o none false 0 false) fun v14=>some (v14.1,v14.2.1,0)) (some (none,0,pairsE l)):=by
  unfold f15
  simp only [e22,obind_at,h,hrem,E57,E17_3]
  rfl
 rw [hun]
 split
 ·next hz=>
  obtain ⟨h1,m,hm,hm4⟩:=pairsE_ok hz
  have hu:=units_ok h1
  obtain ⟨b,h112⟩:=f53_eq h hn
  have hg:(nonNil (allI l.length)).getD []=allI l.length:=nonNil_get' _
  obtain ⟨best',own',worst',found',e,r⟩:=f52_eq hu h m 10 (by omega) (nonNil (allI l.length)) none none none false 0 false (by rw [hg]; exact allI_ok _) (by rw [hg,allI_len]; exact hm) (fun q hq=>by cases hq) (by simp; omega) ⟨rfl,rfl,rfl⟩
  rw [hg] at r
  simp only [hz,decide_true,cond_true,h112,obind_at,e]
  rw [show l.length / 2=m by omega]
  exact ⟨best',worst',rfl,r.2.1,r.2.2⟩
 ·next hz=>
  simp only [hz,decide_false,cond_false]
end Go.Z
