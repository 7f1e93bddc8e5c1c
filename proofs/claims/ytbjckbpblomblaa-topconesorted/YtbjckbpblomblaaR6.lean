/-
  LinePairs: its law holds of the function that mirrors the run.
-/
import Derived.Test.YtbjckbpblomblaaQ6
import Derived.Test.YtbjckbpblomblaaR5
import Derived.Test.YtbjckbpblomblaaQ1
import Derived.Test.YtbjckbpblomblaaL8
import Derived.Test.YtbjckbpblomblaaU1
set_option linter.unusedVariables false
set_option linter.unusedSimpArgs false
set_option maxRecDepth 100000
namespace Go.Z
open Go Go.Abs
theorem dAt_own (l:List GUnit) (i j:Int):dAt (l.map ownU) i j=dAt l i j:=by
 unfold dAt
 rw [List.getElem?_map,List.getElem?_map]
 cases l[i.toNat]? with
 | none=>rfl
 | some u=>
  cases l[j.toNat]? with
  | none=>rfl
  | some w=>rfl
theorem worstP_own (l:List GUnit) (p:List GPair):worstP (l.map ownU) p=worstP l p:=by
 unfold worstP
 have:(fun (s:Int) (q:GPair)=>max s (dAt (l.map ownU) q.a q.b))=fun s q=>max s (dAt l q.a q.b):=by funext s q; rw [dAt_own]
 rw [this]
theorem bestP_own (l:List GUnit):∀ (m:Nat) (left:List Int) (p:List GPair),bestP (l.map ownU) m left p=bestP l m left p
 | 0,left,p=>by unfold bestP; rw [worstP_own]
 | m + 1,left,p=>by
  unfold bestP
  have:(fun (st:Option PSch) (b:Int)=>updG st (bestP (l.map ownU) m (left.tail.filter fun x=>x != b) (p++[⟨left.headD 0,b⟩])))=fun st b=>updG st (bestP l m (left.tail.filter fun x=>x != b) (p++[⟨left.headD 0,b⟩])):=by
   funext st b; rw [bestP_own l m]
  rw [this]
theorem f9_same {a b:Option (List GPair)} {p:List GPair} (ha:a.getD []=p) (hb:b.getD []=p) (hn:p.length≤1000):f9 a b=some true:=by
 have key:=itO_thru (ε:=Unit) p.length (s9_0 a b) (by unfold s9_0; simp [ha]) (by
  intro i hi
  have hlt:(i:Int) < (p.length:Int):=by omega
  unfold s9_0
  simp only [ha,hb,hlt,decide_true,cond_true,idxO_nat,List.getElem?_eq_getElem hi,obind_at,Bool.and_self,wrap_nat (show i < 9223372036854775807 by omega)])
 unfold f9
 rw [ha,hb,key]
 simp only [decide_true,cond_true,obind_at]
end Go.Z
/-
 LineTurned: units that are valid,in another order,and with other values.
-/
namespace Go.Z
open Go Go.Abs
theorem stepU_zero {n0:Int} {seen:List (List UInt8)} {u:GUnit}:stepU n0 seen u=0↔unitE u=0∧lenU u=n0∧u.serial ∉ seen:=by
 constructor
 ·intro h
  have h1:=firstNZ_zero h _ (List.mem_cons_self ..)
  have h2:=whenE_zero (by decide) (firstNZ_zero h _ (List.mem_cons_of_mem _ (List.mem_cons_self ..)))
  have h3:=whenE_zero (by decide) (firstNZ_zero h _ (List.mem_cons_of_mem _ (List.mem_cons_of_mem _ (List.mem_cons_self ..))))
  exact ⟨h1,by simpa using h2,by simpa using h3⟩
 ·rintro ⟨h1,h2,h3⟩
  unfold stepU
  simp only [h1,h2,h3,decide_true,decide_false,Bool.not_true]
  rfl
theorem firstU_zero {n0:Int}:∀ {l:List GUnit} {seen:List (List UInt8)},firstU n0 seen l=0↔(∀ u∈l,unitE u=0∧lenU u=n0)∧(l.map (·.serial)).Nodup∧∀ u∈l,u.serial ∉ seen
 | [],seen=>by simp [firstU]
 | x::l,seen=>by
  unfold firstU
  rw [List.map_cons,List.nodup_cons]
  by_cases hz:stepU n0 seen x=0
  ·rw [if_pos hz,firstU_zero]
   obtain ⟨z1,z2,z3⟩:=stepU_zero.1 hz
   constructor
   ·rintro ⟨h1,h2,h3⟩
    refine ⟨fun u hu=>?_,⟨fun hm=>?_,h2⟩,fun u hu=>?_⟩
    ·rcases List.mem_cons.1 hu with rfl | hu
     ·exact ⟨z1,z2⟩
     ·exact h1 u hu
    ·obtain ⟨w,hw,e⟩:=List.mem_map.1 hm
     exact h3 w hw (by rw [show w.serial=x.serial from e]; simp)
    ·rcases List.mem_cons.1 hu with rfl | hu
     ·exact z3
     ·exact fun hm=>h3 u hu (List.mem_append_left _ hm)
   ·rintro ⟨h1,⟨h2,h3⟩,h4⟩
    refine ⟨fun u hu=>h1 u (List.mem_cons_of_mem _ hu),h3,fun u hu hm=>?_⟩
    rcases List.mem_append.1 hm with hm | hm
    ·exact h4 u (List.mem_cons_of_mem _ hu) hm
    ·simp only [List.mem_singleton] at hm
     exact h2 (List.mem_map.2 ⟨u,hu,hm⟩)
  ·rw [if_neg hz]
   constructor
   ·intro h; exact absurd h hz
   ·rintro ⟨h1,_,h4⟩
    have:=h1 x (List.mem_cons_self ..)
    exact absurd (stepU_zero.2 ⟨this.1,this.2,h4 x (List.mem_cons_self ..)⟩) hz
theorem unitsE_iff {l:List GUnit}:unitsE l=0↔l.length≤64∧(∀ u∈l,unitE u=0)∧(∀ u∈l,∀ w∈l,lenU u=lenU w)∧(l.map (·.serial)).Nodup:=by
 unfold unitsE
 by_cases h64:l.length≤64
 ·rw [if_pos h64,firstU_zero]
  constructor
  ·rintro ⟨h1,h2,_⟩
   exact ⟨h64,fun u hu=>(h1 u hu).1,fun u hu w hw=>by rw [(h1 u hu).2,(h1 w hw).2],h2⟩
  ·rintro ⟨_,h1,h2,h3⟩
   refine ⟨fun u hu=>⟨h1 u hu,?_⟩,h3,fun u _ hm=>by cases hm⟩
   cases l with
   | nil=>cases hu
   | cons x l=>exact h2 u hu x (List.mem_cons_self ..)
 ·rw [if_neg h64]
  constructor
  ·intro h; cases h
  ·rintro ⟨h,_⟩; exact absurd h h64
theorem unitsE_map {l:List GUnit} {f:GUnit→GUnit} (hs:∀ u,(f u).serial=u.serial) (he:∀ u∈l,unitE (f u)=0) (hl:∀ u,lenU (f u)=lenU u) (h:unitsE l=0):unitsE (l.map f)=0:=by
 rw [unitsE_iff] at h ⊢
 obtain ⟨h1,h2,h3,h4⟩:=h
 refine ⟨by rw [List.length_map]; exact h1,fun u hu=>?_,fun u hu w hw=>?_,?_⟩
 ·obtain ⟨x,hx,rfl⟩:=List.mem_map.1 hu
  exact he x hx
 ·obtain ⟨x,hx,rfl⟩:=List.mem_map.1 hu
  obtain ⟨y,hy,rfl⟩:=List.mem_map.1 hw
  rw [hl,hl]; exact h3 x hx y hy
 ·rw [List.map_map]
  have:((fun u:GUnit=>u.serial) ∘ f)=fun u=>u.serial:=by funext u; exact hs u
  rw [this]; exact h4
theorem checkEach_of {lo hi:Int}:∀ {l:List Int},(∀ x∈l,lo≤x∧x≤hi)→checkEach lo hi l=0
 | [],_=>rfl
 | x::l,h=>by
  have hx:=h x (List.mem_cons_self ..)
  unfold checkEach
  have:checkRange x lo hi=0:=by unfold checkRange; rw [if_neg (by omega),if_neg (by omega)]
  rw [if_pos this]
  exact checkEach_of fun y hy=>h y (List.mem_cons_of_mem _ hy)
def mapU (f:Int→Int) (u:GUnit):GUnit:=⟨u.serial,nonNil ((u.values.getD []).map f)⟩
theorem mapU_vals (f:Int→Int) (u:GUnit):(mapU f u).values.getD []=(u.values.getD []).map f:=nonNil_get' _
theorem mapU_ok {f:Int→Int} {u:GUnit} (h:unitE u=0) (hf:∀ v∈u.values.getD [],-100000≤f v∧f v≤100000):unitE (mapU f u)=0:=by
 have hl:((mapU f u).values.getD []).length=(u.values.getD []).length:=by rw [mapU_vals,List.length_map]
 have hc:checkEach (-100000) 100000 ((mapU f u).values.getD [])=0:=by
  rw [mapU_vals]
  refine checkEach_of fun x hx=>?_
  obtain ⟨v,hv,rfl⟩:=List.mem_map.1 hx
  exact hf v hv
 have h1:=firstNZ_zero h _ (List.mem_cons_self ..)
 have h2:=firstNZ_zero h _ (List.mem_cons_of_mem _ (List.mem_cons_self ..))
 have h3:=firstNZ_zero h _ (List.mem_cons_of_mem _ (List.mem_cons_of_mem _ (List.mem_cons_self ..)))
 unfold unitE
 rw [hl,hc,show (mapU f u).serial=u.serial from rfl,h1,h2,h3]
 rfl
theorem mapU_units {f:Int→Int} {l:List GUnit} (h:unitsE l=0) (hf:∀ u∈l,∀ v∈u.values.getD [],-100000≤f v∧f v≤100000):unitsE (l.map (mapU f))=0:=by
 refine unitsE_map (fun u=>rfl) (fun u hu=>mapU_ok (units_each h u hu).1 (hf u hu)) (fun u=>?_) h
 unfold lenU
 rw [mapU_vals,List.length_map]
theorem fold_mapD {f:Int→Int} (hf:∀ s v w,stepD s (f v,f w)=stepD s (v,w)):∀ (xs ys:List Int) (s:Int),((xs.map f).zip (ys.map f)).foldl stepD s=(xs.zip ys).foldl stepD s
 | [],ys,s=>rfl
 | x::xs,[],s=>rfl
 | x::xs,y::ys,s=>by
  show ((xs.map f).zip (ys.map f)).foldl stepD (stepD s (f x,f y))=(xs.zip ys).foldl stepD (stepD s (x,y))
  rw [hf,fold_mapD hf]
theorem diffU_map {f:Int→Int} (hf:∀ s v w,stepD s (f v,f w)=stepD s (v,w)) (u w:GUnit):diffU (mapU f u) (mapU f w)=diffU u w:=by
 unfold diffU
 rw [mapU_vals,mapU_vals,fold_mapD hf]
theorem dAt_map {f:Int→Int} (hf:∀ s v w,stepD s (f v,f w)=stepD s (v,w)) (l:List GUnit) (i j:Int):dAt (l.map (mapU f)) i j=dAt l i j:=by
 unfold dAt
 rw [List.getElem?_map,List.getElem?_map]
 cases l[i.toNat]? with
 | none=>rfl
 | some u=>
  cases l[j.toNat]? with
  | none=>rfl
  | some w=>exact diffU_map hf u w
theorem bestP_dAt {l l':List GUnit} (h:∀ i j,dAt l' i j=dAt l i j):∀ (m:Nat) (left:List Int) (p:List GPair),bestP l' m left p=bestP l m left p
 | 0,left,p=>by
  unfold bestP worstP
  have:(fun (s:Int) (q:GPair)=>max s (dAt l' q.a q.b))=fun s q=>max s (dAt l q.a q.b):=by funext s q; rw [h]
  rw [this]
 | m + 1,left,p=>by
  unfold bestP
  have:(fun (st:Option PSch) (b:Int)=>updG st (bestP l' m (left.tail.filter fun x=>x != b) (p++[⟨left.headD 0,b⟩])))=fun st b=>updG st (bestP l m (left.tail.filter fun x=>x != b) (p++[⟨left.headD 0,b⟩])):=by
   funext st b; rw [bestP_dAt h m]
  rw [this]
end Go.Z
