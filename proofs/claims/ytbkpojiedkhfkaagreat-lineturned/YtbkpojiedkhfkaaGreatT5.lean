/-
  LineTurned: the law's loops.
-/
import Derived.Test.YtbkpojiedkhfkaaGreatT2
import Derived.Test.YtbkpojiedkhfkaaGreatT3
import Derived.Test.YtbkpojiedkhfkaaGreatD2
set_option linter.unusedVariables false
set_option linter.unusedSimpArgs false
set_option maxRecDepth 100000
namespace Go.Z
open Go Go.Abs
def dU:GUnit:=⟨[],none⟩
theorem s8_1b_eq:@s8_1b=@s8_1:=rfl
theorem accT {α:Type} (s:List α) (x:α):accO (s++[x])=true:=by cases s <;> rfl
theorem map_take {α β:Type} {l:List α} {i:Nat} (hi:i < l.length) (f:α→β):(l.take (i + 1)).map f=(l.take i).map f++[f l[i]]:=by
 rw [List.take_add_one,List.getElem?_eq_getElem hi,List.map_append]; rfl
theorem loop81 {a0:Option (List GUnit)} {a2:Int} {v11:Option (List Int)} {s0:(Option (List GUnit)) × (Option (List GUnit)) × (Option (List GUnit)) × Int × Bool × Bool × Bool} {v253:GUnit} {v260:Option (List GUnit)} {vals:List Int} (hV:v253.values.getD []=vals)
  (hv:∀ v∈vals,-100000≤v∧v≤100000) (hl:vals.length≤16) (h0:0≤a2) (h1:a2≤255):∀ (k i:Nat),i + k=vals.length →
  itO (s8_1 a0 a2 v11 s0 v253 v260) ((i:Int),nonNil ((vals.take i).map fun v=>v + a2),nonNil ((vals.take i).map fun v=>0 - v),accO ((vals.take i).map fun v=>v + a2),accO ((vals.take i).map fun v=>0 - v)) =
   some ((vals.length:Int),nonNil (vals.map fun v=>v + a2),accO (vals.map fun v=>v + a2),nonNil (vals.map fun v=>0 - v),accO (vals.map fun v=>0 - v))
 | 0,i,hi=>by
  have hil:i=vals.length:=by omega
  subst hil
  have:¬ (vals.length:Int) < (vals.length:Int):=by omega
  refine itO_out ?_
  unfold s8_1
  simp only [hV,this,decide_false,cond_false,List.take_length]
 | k + 1,i,hi=>by
  have hil:i < vals.length:=by omega
  have hlt:(i:Int) < (vals.length:Int):=by omega
  have hw:wrapF .i64 ((i:Int) + 1)=((i + 1:Nat):Int):=wrap_nat (by omega)
  have hx:=hv _ (List.getElem_mem hil)
  have hix:idxO vals (i:Int)=some vals[i]:=by rw [idxO_nat,List.getElem?_eq_getElem hil]
  have w1:wrapF .i64 a2=a2:=wrapF_i64 (by omega) (by omega)
  have w2:wrapF .i64 (vals[i] + a2)=vals[i] + a2:=wrapF_i64 (by omega) (by omega)
  have w3:wrapF .i64 (0 - vals[i])=0 - vals[i]:=wrapF_i64 (by omega) (by omega)
  have lt1:∀ f:Int→Int,((vals.take i).map f).length≤100000:=fun f=>by rw [List.length_map,List.length_take]; omega
  have step:s8_1 a0 a2 v11 s0 v253 v260 ((i:Int),nonNil ((vals.take i).map fun v=>v + a2),nonNil ((vals.take i).map fun v=>0 - v),accO ((vals.take i).map fun v=>v + a2),accO ((vals.take i).map fun v=>0 - v)) =
    some (.inl (((i + 1:Nat):Int),nonNil ((vals.take (i + 1)).map fun v=>v + a2),nonNil ((vals.take (i + 1)).map fun v=>0 - v),accO ((vals.take (i + 1)).map fun v=>v + a2),accO ((vals.take (i + 1)).map fun v=>0 - v))):=by
   unfold s8_1
   simp only [hV,hlt,decide_true,cond_true,hix,obind_at,w1,w2,w3,hw]
   rw [growG _ _ _ (lt1 _),growG _ _ _ (lt1 _),map_take hil,map_take hil,accT,accT]
  rw [itO_in step]
  exact loop81 hV hv hl h0 h1 k (i + 1) (by omega)
theorem loop81' {a0:Option (List GUnit)} {a2:Int} {v11:Option (List Int)} {s0:(Option (List GUnit)) × (Option (List GUnit)) × (Option (List GUnit)) × Int × Bool × Bool × Bool} {v253:GUnit} {v260:Option (List GUnit)}
  (hu:UnitOk v253) (h0:0≤a2) (h1:a2≤255):
  itO (s8_1 a0 a2 v11 s0 v253 v260) (0,none,none,false,false)=some (((v253.values.getD []).length:Int),nonNil ((v253.values.getD []).map fun v=>v + a2),accO ((v253.values.getD []).map fun v=>v + a2),nonNil ((v253.values.getD []).map fun v=>0 - v),accO ((v253.values.getD []).map fun v=>0 - v)):=by
 have:=loop81 (a0:=a0) (v11:=v11) (s0:=s0) (v260:=v260) (v253:=v253) rfl hu.val hu.len h0 h1 (v253.values.getD []).length 0 (by omega)
 rw [Int.natCast_zero] at this
 exact this
theorem loop80 {a0:Option (List GUnit)} {a2:Int} {v11:Option (List Int)} {l:List GUnit} {r:List Int} (ho:a0.getD []=l) (hr:v11.getD []=r) (hu:UnitsOk l) (hn:l.length≤64) (hrl:r.length=l.length) (hrm:∀ x∈r,0≤x∧x < (l.length:Int)) (h0:0≤a2) (h1:a2≤255):
  ∀ (k i:Nat),i + k=l.length →
  itO (s8_0 a0 a2 v11) (nonNil ((r.take i).map fun x=>l.getD x.toNat dU),nonNil ((l.take i).map (mapU fun v=>v + a2)),nonNil ((l.take i).map (mapU fun v=>0 - v)),(i:Int),accO ((r.take i).map fun x=>l.getD x.toNat dU),accO ((l.take i).map (mapU fun v=>v + a2)),accO ((l.take i).map (mapU fun v=>0 - v))) =
   some (nonNil (r.map fun x=>l.getD x.toNat dU),accO (r.map fun x=>l.getD x.toNat dU),nonNil (l.map (mapU fun v=>v + a2)),accO (l.map (mapU fun v=>v + a2)),nonNil (l.map (mapU fun v=>0 - v)),accO (l.map (mapU fun v=>0 - v)),(l.length:Int))
 | 0,i,hi=>by
  have hil:i=l.length:=by omega
  subst hil
  have:¬ (l.length:Int) < (l.length:Int):=by omega
  refine itO_out ?_
  unfold s8_0
  simp only [ho,this,decide_false,cond_false,List.take_length]
  rw [← hrl,List.take_length]
 | k + 1,i,hi=>by
  have hil:i < l.length:=by omega
  have hir:i < r.length:=by omega
  have hlt:(i:Int) < (l.length:Int):=by omega
  have hw:wrapF .i64 ((i:Int) + 1)=((i + 1:Nat):Int):=wrap_nat (by omega)
  have hix:idxO l (i:Int)=some l[i]:=by rw [idxO_nat,List.getElem?_eq_getElem hil]
  have hixr:idxO r (i:Int)=some r[i]:=by rw [idxO_nat,List.getElem?_eq_getElem hir]
  have hx:=hrm _ (List.getElem_mem hir)
  have hlx:r[i].toNat < l.length:=by omega
  have hixl:idxO l r[i]=some (l.getD r[i].toNat dU):=by
   unfold idxO
   rw [if_pos hx.1,List.getElem?_eq_getElem hlx,List.getD_eq_getElem?_getD,List.getElem?_eq_getElem hlx]
   rfl
  have lt1:∀ {α:Type} (l':List α) (f:α→GUnit),((l'.take i).map f).length≤100000:=fun l' f=>by rw [List.length_map,List.length_take]; omega
  have l81:=fun (s0:(Option (List GUnit)) × (Option (List GUnit)) × (Option (List GUnit)) × Int × Bool × Bool × Bool) (v260:Option (List GUnit))=>loop81' (a0:=a0) (v11:=v11) (s0:=s0) (v260:=v260) (hu.ok _ (List.getElem_mem hil)) h0 h1
  have m1:∀ f:Int→Int,(⟨l[i].serial,nonNil ((l[i].values.getD []).map f)⟩:GUnit)=mapU f l[i]:=fun f=>rfl
  have step:s8_0 a0 a2 v11 (nonNil ((r.take i).map fun x=>l.getD x.toNat dU),nonNil ((l.take i).map (mapU fun v=>v + a2)),nonNil ((l.take i).map (mapU fun v=>0 - v)),(i:Int),accO ((r.take i).map fun x=>l.getD x.toNat dU),accO ((l.take i).map (mapU fun v=>v + a2)),accO ((l.take i).map (mapU fun v=>0 - v))) =
    some (.inl (nonNil ((r.take (i + 1)).map fun x=>l.getD x.toNat dU),nonNil ((l.take (i + 1)).map (mapU fun v=>v + a2)),nonNil ((l.take (i + 1)).map (mapU fun v=>0 - v)),((i + 1:Nat):Int),accO ((r.take (i + 1)).map fun x=>l.getD x.toNat dU),accO ((l.take (i + 1)).map (mapU fun v=>v + a2)),accO ((l.take (i + 1)).map (mapU fun v=>0 - v)))):=by
   unfold s8_0
   simp only [s8_1b_eq,ho,hr,hlt,decide_true,cond_true,hix,hixr,hixl,obind_at,hw,l81]
   rw [growG _ _ _ (lt1 _ _),growG _ _ _ (lt1 _ _),growG _ _ _ (lt1 _ _),map_take hil,map_take hil,map_take hir,accT,accT,accT,m1,m1]
  rw [itO_in step]
  exact loop80 ho hr hu hn hrl hrm h0 h1 k (i + 1) (by omega)
end Go.Z
/-
 LineTurned: its law holds of the function that mirrors the run.
-/
namespace Go.Z
open Go Go.Abs
theorem unit_serial2 {u:GUnit} (h:unitE u=0):u.serial.length≤24:=by
 have h1:=whenE_zero (by decide) (firstNZ_zero h _ (List.mem_cons_self ..))
 simp only [isName,Bool.not_eq_false',Bool.and_eq_true,decide_eq_true_eq] at h1
 exact h1.1.2
theorem units_leT {l:List GUnit} (h:unitsE l=0):l.length≤64:=(unitsE_iff.1 h).1
theorem valid18 {o:Option (List GUnit)} {x:List GUnit} (ho:o.getD []=x) (hE:unitsE x=0):E18 o=some (nonNil (x.map ownU)):=by
 have hu:=units_ok hE
 have hl:=units_leT hE
 unfold E18
 rw [ho]
 exact exO_of ⟨by omega,fun u hm=>by have:=(hu.ok u hm).len; unfold okLen; omega⟩
theorem valid22 {x:List GUnit} (hE:unitsE x=0):E22 (nonNil (x.map ownU))=some (unitsE (x.map ownU)):=by
 have hE':unitsE (x.map ownU)=0:=by rw [unitsE_own]; exact hE
 have hu':=units_ok hE'
 have hl:=units_leT hE'
 have ho:(nonNil (x.map ownU)).getD []=x.map ownU:=nonNil_get' _
 unfold E22
 rw [ho]
 have hsz:∀ u∈x.map ownU,sizeU u:=by
  intro u hm
  have h1:=(hu'.ok u hm).len
  have h2:=unit_serial2 (units_each hE' u hm).1
  exact ⟨by omega,by omega⟩
 exact exO_of ⟨by omega,hsz⟩
theorem pairsE_valid {x:List GUnit} (hE:unitsE x=0) (h8:x.length≤8):pairsE x=if x.length % 2=0 then 0 else 35:=by
 have h8':¬ (8:Int) < (x.length:Int):=by omega
 have ht:(x.length:Int).tmod 2=((x.length % 2:Nat):Int):=rfl
 unfold pairsE
 rw [hE]
 by_cases h2:x.length % 2=0
 ·have:(x.length:Int).tmod 2=0:=by rw [ht]; omega
  simp only [h2,this,h8',decide_true,decide_false,Bool.not_true,if_true]
  rfl
 ·have:¬ (x.length:Int).tmod 2=0:=by rw [ht]; omega
  simp only [h2,this,h8',decide_false,Bool.not_false,if_false]
  rfl
def bestV (x:List GUnit):Int:=(bestP x (x.length / 2) (allI x.length) []).2
theorem valid56 {x:List GUnit} (hE:unitsE x=0) (h8:x.length≤8):∃ s,f56 (nonNil (x.map ownU))=some s∧s.2.2=pairsE x∧s.2.1=if x.length % 2=0 then bestV x else 0:=by
 have hE':unitsE (x.map ownU)=0:=by rw [unitsE_own]; exact hE
 have ho:(nonNil (x.map ownU)).getD []=x.map ownU:=nonNil_get' _
 have hol:(x.map ownU).length=x.length:=List.length_map ..
 have hp:pairsE (x.map ownU)=pairsE x:=by unfold pairsE; rw [unitsE_own,hol]
 have:=f56_eq ho (by omega) (valid22 hE)
 rw [hp,hol,pairsE_valid hE h8] at this
 by_cases h2:x.length % 2=0
 ·rw [if_pos h2,if_pos rfl] at this
  obtain ⟨b,w,h1,_,h3⟩:=this
  refine ⟨_,h1,?_,?_⟩
  ·rw [pairsE_valid hE h8,if_pos h2]
  ·rw [if_pos h2]
   show w=_
   rw [h3,bestP_own]; rfl
 ·rw [if_neg h2,if_neg (by decide)] at this
  refine ⟨_,this,?_,?_⟩
  ·rw [pairsE_valid hE h8,if_neg h2]
  ·rw [if_neg h2]
theorem typE_valid {x:List GUnit} (hE:unitsE x=0) (hne:x ≠ []):typE x=0:=by
 have h0:¬ (x.length:Int)=0:=fun h=>hne (List.length_eq_zero_iff.1 (by omega))
 unfold typE
 rw [hE]
 simp only [h0,decide_false]
 rfl
theorem valid57 {x:List GUnit} (hE:unitsE x=0) (hne:x ≠ []):∃ k:Nat,f57 (nonNil (x.map ownU))=some ((k:Int),0)∧FirstMin (x.map (radius x)) k:=by
 have hl:=units_leT hE
 have ho:(nonNil (x.map ownU)).getD []=x.map ownU:=nonNil_get' _
 have hol:(x.map ownU).length=x.length:=List.length_map ..
 have ht:typE (x.map ownU)=0:=by unfold typE; rw [unitsE_own,hol]; exact typE_valid hE hne
 have:=f57_eq ho (by omega) (valid22 hE)
 rw [if_pos ht,radius_own] at this
 exact this
theorem valid59 {u w:GUnit} (hu:unitE u=0) (hw:unitE w=0) (hl:(u.values.getD []).length=(w.values.getD []).length):E32 u=some (ownU u)∧f59 (ownU u) (ownU w)=some (diffU u w,0):=by
 have short:∀ {x:GUnit},unitE x=0→shortU x=true:=by
  intro x hx
  have h1:=unit_serial2 hx
  have h2:=(unit_ok hx).len
  unfold shortU
  simp; omega
 have hd:diffE u w=0:=by
  unfold diffE
  have:((u.values.getD []).length:Int)=((w.values.getD []).length:Int):=by omega
  simp only [hu,hw,this,decide_true,Bool.not_true]
  rfl
 obtain ⟨t1,t2,_,_⟩:=two_units (short hu) (short hw)
 rw [if_pos hd] at t2
 exact ⟨t1,t2⟩
theorem f58_eq {u w:GUnit} (hu:UnitOk u) (hw:UnitOk w) (hl:(u.values.getD []).length=(w.values.getD []).length):f58 u w=some (diffU u w):=f115_eq hu hw hl
theorem f54_any (o:Option (List GUnit)) (hn:(o.getD []).length≤64) (hv:∀ u∈o.getD [],(u.values.getD []).length≤16):∃ b,f54 o 90000=some b∧(b=true→∀ u∈o.getD [],∀ v∈u.values.getD [],-90000≤v∧v≤90000):=by
 have w1:wrapF .i64 (0 - 90000)=-90000:=by decide
 have inner:∀ (s0:Int) (u:GUnit),(u.values.getD []).length≤16→(∃ e,itO (s54_1 o 90000 s0 u) 0=some (.inl e))∨(itO (s54_1 o 90000 s0 u) 0=some (.inr ((u.values.getD []).length:Int))∧∀ v∈u.values.getD [],-90000≤v∧v≤90000):=by
  intro s0 u hu
  rcases itO_all (u.values.getD []) (s54_1 o 90000 s0 u) (fun _ v=>-90000≤v∧v≤90000) (by unfold s54_1; simp) (fun i v hv=>by
   have hi:=(List.getElem?_eq_some_iff.1 hv).1
   have hlt:(i:Int) < ((u.values.getD []).length:Int):=by omega
   unfold s54_1
   simp only [hlt,decide_true,cond_true,idxO_nat,hv,obind_at,w1,wrap_nat (show i < 9223372036854775807 by omega)]
   by_cases h1:(90000:Int) < v
   ·right; exact ⟨(),by simp only [h1,decide_true,cond_true]⟩
   ·by_cases h2:v < -90000
    ·right; exact ⟨(),by simp only [h1,h2,decide_true,decide_false,cond_true,cond_false]⟩
    ·left; simp only [h1,h2,decide_false,cond_false]; exact ⟨trivial,by omega,by omega⟩) with ⟨e,he⟩ | ⟨h,hall⟩
  ·exact .inl ⟨e,he⟩
  ·refine .inr ⟨h,fun v hv=>?_⟩
   obtain ⟨i,hi,rfl⟩:=List.getElem_of_mem hv
   exact hall i _ (List.getElem?_eq_getElem hi)
 rcases itO_all (o.getD []) (s54_0 o 90000) (fun _ u=>∀ v∈u.values.getD [],-90000≤v∧v≤90000) (by unfold s54_0; simp) (fun i u hu=>by
  have hi:=(List.getElem?_eq_some_iff.1 hu).1
  have hlt:(i:Int) < ((o.getD []).length:Int):=by omega
  unfold s54_0
  simp only [hlt,decide_true,cond_true,idxO_nat,hu,obind_at,wrap_nat (show i < 9223372036854775807 by omega)]
  rcases inner (i:Int) u (hv u (List.mem_of_getElem? hu)) with ⟨e,he⟩ | ⟨he,hall⟩
  ·right; simp only [he,obind_at]; exact ⟨_,rfl⟩
  ·left; simp only [he,obind_at]; exact ⟨trivial,hall⟩) with ⟨e,he⟩ | ⟨h,hall⟩
 ·refine ⟨false,?_,fun h=>by cases h⟩
  unfold f54
  simp only [he,obind_at]
 ·refine ⟨true,?_,fun _ u hu=>?_⟩
  ·unfold f54
   simp only [h,obind_at]
  ·obtain ⟨i,hi,rfl⟩:=List.getElem_of_mem hu
   exact hall i _ (List.getElem?_eq_getElem hi)
end Go.Z
/-
 LineTurned: its law holds of the function that mirrors the run,the join.
-/
namespace Go.Z
open Go Go.Abs
theorem upto_map (l:List GUnit):(upto l.length).map (fun x=>l.getD x.toNat dU)=l:=by
 apply List.ext_getElem (by simp [upto])
 intro i h1 h2
 simp only [upto,List.getElem_map,List.getElem_range,Int.toNat_natCast]
 rw [List.getD_eq_getElem?_getD,List.getElem?_eq_getElem h2]
 rfl
theorem turned_list {l:List GUnit} {r:List Int} (hr:r.Perm (upto l.length)):(r.map fun x=>l.getD x.toNat dU).Perm l:=by
 have:=hr.map fun x:Int=>l.getD x.toNat dU
 rw [upto_map] at this
 exact this
theorem upto_mem {n:Nat} {x:Int}:x∈upto n↔0≤x∧x < (n:Int):=by
 unfold upto
 rw [List.mem_map]
 constructor
 ·rintro ⟨i,hi,rfl⟩
  have:=List.mem_range.1 hi
  omega
 ·rintro ⟨h1,h2⟩
  exact ⟨x.toNat,List.mem_range.2 (by omega),by omega⟩
theorem upto_nodup (n:Nat):(upto n).Nodup:=List.Pairwise.map _ (fun a b h e=>h (by omega)) List.nodup_range
theorem nodup_at {r:List Int} (h:r.Nodup) {i j:Nat} (hi:i < r.length) (hj:j < r.length) (e:r[i]=r[j]):i=j:=by
 have hp:=List.pairwise_iff_getElem.1 h
 rcases Nat.lt_trichotomy i j with h1 | h1 | h1
 ·exact absurd e (hp i j hi hj h1)
 ·exact h1
 ·exact absurd e.symm (hp j i hj hi h1)
theorem turn_maps {l:List GUnit} {r:List Int} (hr:r.Perm (upto l.length)):∃ s g:Nat→Nat,(∀ i,i < l.length→s i < l.length∧g (s i)=i)∧(∀ y,y < l.length→g y < l.length∧s (g y)=y)∧∀ i,i < l.length→(r.map fun x=>l.getD x.toNat dU)[i]?=l[s i]?:=by
 have hrl:r.length=l.length:=by rw [hr.length_eq,upto_len]
 have hm:∀ x,x∈r↔0≤x∧x < (l.length:Int):=fun x=>by rw [hr.mem_iff,upto_mem]
 have hnd:r.Nodup:=hr.nodup_iff.2 (upto_nodup _)
 have hex:∀ y:Nat,∃ i:Nat,y < l.length→i < l.length∧r[i]?=some (y:Int):=by
  intro y
  by_cases hy:y < l.length
  ·obtain ⟨i,hi,e⟩:=List.getElem_of_mem ((hm (y:Int)).2 ⟨by omega,by omega⟩)
   exact ⟨i,fun _=>⟨by omega,by rw [List.getElem?_eq_getElem hi,e]⟩⟩
  ·exact ⟨0,fun h=>absurd h hy⟩
 let g:Nat→Nat:=fun y=>Classical.choose (hex y)
 have hg:∀ y,y < l.length→g y < l.length∧r[g y]?=some (y:Int):=fun y hy=>Classical.choose_spec (hex y) hy
 have hs:∀ i (h:i < r.length),0≤r[i]∧r[i] < (l.length:Int):=fun i h=>(hm _).1 (List.getElem_mem h)
 have hd:∀ i (h:i < r.length),r.getD i 0=r[i]:=fun i h=>by rw [List.getD_eq_getElem?_getD,List.getElem?_eq_getElem h]; rfl
 refine ⟨fun i=>(r.getD i 0).toNat,g,fun i hi=>?_,fun y hy=>?_,fun i hi=>?_⟩
 ·have hir:i < r.length:=by omega
  have h1:=hs i hir
  dsimp only
  rw [hd i hir]
  have hlt:r[i].toNat < l.length:=by omega
  refine ⟨hlt,?_⟩
  obtain ⟨g1,g2⟩:=hg _ hlt
  have hgr:g r[i].toNat < r.length:=by omega
  rw [List.getElem?_eq_getElem hgr] at g2
  have g3:r[g r[i].toNat]=r[i]:=by have:=Option.some.inj g2; omega
  exact nodup_at hnd hgr hir g3
 ·obtain ⟨g1,g2⟩:=hg y hy
  have hgr:g y < r.length:=by omega
  refine ⟨g1,?_⟩
  dsimp only
  rw [hd _ hgr]
  rw [List.getElem?_eq_getElem hgr] at g2
  have:=Option.some.inj g2
  omega
 ·have hir:i < r.length:=by omega
  have h1:=hs i hir
  have hlt:r[i].toNat < l.length:=by omega
  dsimp only
  rw [hd i hir,List.getElem?_map,List.getElem?_eq_getElem hir,List.getElem?_eq_getElem hlt,Option.map_some,List.getD_eq_getElem?_getD,List.getElem?_eq_getElem hlt]
  rfl
theorem near_len {l:List GUnit} (hu:UnitsOk l) {u w:GUnit} (h1:u∈l) (h2:w∈l):f58 u w=some (diffU u w):=f58_eq (hu.ok u h1) (hu.ok w h2) (hu.same u h1 w h2)
theorem idx_at {α:Type} {l:List α} {i:Nat} (hi:i < l.length):idxO l (i:Int)=some l[i]:=by rw [idxO_nat,List.getElem?_eq_getElem hi]
theorem fold_take {l:List Int} {i:Nat} (hi:i < l.length):(l.take (i + 1)).foldl max 0=max ((l.take i).foldl max 0) l[i]:=by
 rw [List.take_add_one,List.getElem?_eq_getElem hi,List.foldl_append]
 rfl
theorem loop86 {a0:Option (List GUnit)} {l:List GUnit} {d798:Int × Int × Int} (ho:a0.getD []=l) (hu:UnitsOk l) (hn:l.length≤64) {i:Nat} (hi:i < l.length):itO (s8_6 a0 d798 (i:Int)) (0,0)=some (radius l l[i],(l.length:Int)):=by
 have key:∀ (k j:Nat),j + k=l.length→itO (s8_6 a0 d798 (i:Int)) (((l.map (diffU l[i])).take j).foldl max 0,(j:Int))=some (radius l l[i],(l.length:Int)):=by
  intro k
  induction k with
  | zero=>
   intro j hj
   have hjl:j=l.length:=by omega
   subst hjl
   have:¬ (l.length:Int) < (l.length:Int):=by omega
   refine itO_out ?_
   unfold s8_6
   simp only [ho,this,decide_false,cond_false]
   rw [List.take_of_length_le (by simp)]
   rfl
  | succ k ih=>
   intro j hj
   have hjl:j < l.length:=by omega
   have hlt:(j:Int) < (l.length:Int):=by omega
   have hw:wrapF .i64 ((j:Int) + 1)=((j + 1:Nat):Int):=wrap_nat (by omega)
   have step:s8_6 a0 d798 (i:Int) (((l.map (diffU l[i])).take j).foldl max 0,(j:Int))=some (.inl (((l.map (diffU l[i])).take (j + 1)).foldl max 0,((j + 1:Nat):Int))):=by
    unfold s8_6
    simp only [ho,hlt,decide_true,cond_true,idx_at hi,idx_at hjl,obind_at,near_len hu (List.getElem_mem hi) (List.getElem_mem hjl),hw]
    rw [fold_take (by simpa using hjl),List.getElem_map]
   rw [itO_in step]
   exact ih (j + 1) (by omega)
 have:=key l.length 0 (by omega)
 rw [Int.natCast_zero] at this
 exact this
theorem loop84 {a0:Option (List GUnit)} {l:List GUnit} {d395:(Option (List GUnit)) × Bool × (Option (List GUnit)) × Bool × (Option (List GUnit)) × Bool × Int} {v436 v440:Int × Int} {s3:Int × Int × Int} {v675 v681:Int} (ho:a0.getD []=l) (hE:unitsE l=0) {t i:Nat} (ht:t < l.length) (hi:i < l.length) (h436:v436.1=(t:Int)) (hs3:s3.1=(i:Int)):
  itO (s8_4 a0 d395 v436 v440 s3 v675 v681) 0=some (.inr (l.length:Int)):=by
 have hu:=units_ok hE
 have hn:=units_leT hE
 refine itO_thru _ _ ?_ ?_
 ·unfold s8_4; simp [ho]
 ·intro k hk
  have hlt:(k:Int) < (l.length:Int):=by omega
  have hv:=fun {x:Nat} (hx:x < l.length)=>(units_each hE _ (List.getElem_mem hx)).1
  have pair:=fun {x y:Nat} (hx:x < l.length) (hy:y < l.length)=>valid59 (hv hx) (hv hy) (hu.same _ (List.getElem_mem hx) _ (List.getElem_mem hy))
  have b1:=diffU_bounds (hu.ok _ (List.getElem_mem hi)) (hu.ok _ (List.getElem_mem hk))
  have b2:=diffU_bounds (hu.ok _ (List.getElem_mem hi)) (hu.ok _ (List.getElem_mem ht))
  have b3:=diffU_bounds (hu.ok _ (List.getElem_mem ht)) (hu.ok _ (List.getElem_mem hk))
  have tri:=diffU_tri hu (List.getElem_mem hi) (List.getElem_mem hk) (List.getElem_mem ht)
  have hsym:diffU l[k] l[i]=diffU l[i] l[k]:=diffU_self _ _
  have w1:wrapF .i64 (wrapF .i64 (wrapF .i64 (0 + 0) + 0) + 0)=0:=by decide
  have w2:wrapF .i64 (diffU l[i] l[t] + diffU l[t] l[k])=diffU l[i] l[t] + diffU l[t] l[k]:=wrapF_i64 (by omega) (by omega)
  have n1:¬ diffU l[i] l[k] < 0:=by omega
  have n2:¬ diffU l[i] l[t] < 0:=by omega
  have n3:¬ diffU l[t] l[k] < 0:=by omega
  have n4:¬ 1000000 < diffU l[i] l[t]:=by omega
  have n5:¬ 1000000 < diffU l[t] l[k]:=by omega
  have n6:¬ diffU l[i] l[t] + diffU l[t] l[k] < diffU l[i] l[k]:=by omega
  unfold s8_4
  simp only [ho,hs3,h436,hlt,decide_true,cond_true,idx_at hi,idx_at hk,idx_at ht,obind_at,(pair hi hk).1,(pair hk hi).1,(pair ht hk).1,(pair hi hk).2,(pair hk hi).2,(pair hi ht).2,(pair ht hk).2,w1,hsym,n1,n2,n3,n4,n5,w2,n6,decide_false,cond_false,wrap_nat (show k < 9223372036854775807 by omega)]
  by_cases hik:i=k
  ·subst hik
   have h0:diffU l[i] l[i]=0:=diffU_same _
   simp only [h0,decide_true,cond_true]
  ·have hik':¬ (i:Int)=(k:Int):=by omega
   simp only [hik',decide_false,cond_false]
theorem loop83 {a0:Option (List GUnit)} {l T:List GUnit} {d395:(Option (List GUnit)) × Bool × (Option (List GUnit)) × Bool × (Option (List GUnit)) × Bool × Int} {v436 v440:Int × Int} (ho:a0.getD []=l) (hE:unitsE l=0) (hT:d395.1.getD []=T) (hET:unitsE T=0) (hTl:T.length=l.length) {t s:Nat} (ht:t < l.length) (hs:s < l.length) (h436:v436.1=(t:Int)) (h440:v440.1=(s:Int)):
  itO (s8_3 a0 d395 v436 v440) (0,0,0)=some (.inr ((l.length:Int),radius l l[t],radius T (T[s]'(by omega)))):=by
 have hu:=units_ok hE
 have huT:=units_ok hET
 have hn:=units_leT hE
 have hsT:s < T.length:=by omega
 have key:∀ (k j:Nat),j + k=l.length→itO (s8_3 a0 d395 v436 v440) ((j:Int),((l.map (diffU l[t])).take j).foldl max 0,((T.map (diffU T[s])).take j).foldl max 0)=some (.inr ((l.length:Int),radius l l[t],radius T T[s])):=by
  intro k
  induction k with
  | zero=>
   intro j hj
   have hjl:j=l.length:=by omega
   subst hjl
   have:¬ (l.length:Int) < (l.length:Int):=by omega
   refine itO_out ?_
   unfold s8_3
   simp only [ho,this,decide_false,cond_false]
   rw [List.take_of_length_le (by simp),List.take_of_length_le (by simp; omega)]
   rfl
  | succ k ih=>
   intro j hj
   have hjl:j < l.length:=by omega
   have hjT:j < T.length:=by omega
   have hlt:(j:Int) < (l.length:Int):=by omega
   have hw:wrapF .i64 ((j:Int) + 1)=((j + 1:Nat):Int):=wrap_nat (by omega)
   have step:s8_3 a0 d395 v436 v440 ((j:Int),((l.map (diffU l[t])).take j).foldl max 0,((T.map (diffU T[s])).take j).foldl max 0)=some (.inl (((j + 1:Nat):Int),((l.map (diffU l[t])).take (j + 1)).foldl max 0,((T.map (diffU T[s])).take (j + 1)).foldl max 0)):=by
    have l84:=fun (v675 v681:Int)=>loop84 (d395:=d395) (v436:=v436) (v440:=v440) (s3:=((j:Int),((l.map (diffU l[t])).take j).foldl max 0,((T.map (diffU T[s])).take j).foldl max 0)) (v675:=v675) (v681:=v681) ho hE ht hjl h436 rfl
    unfold s8_3
    simp only [ho,hT,h436,h440,hlt,decide_true,cond_true,idx_at ht,idx_at hjl,idx_at hsT,idx_at hjT,obind_at,near_len hu (List.getElem_mem ht) (List.getElem_mem hjl),near_len huT (List.getElem_mem hsT) (List.getElem_mem hjT),l84,hw]
    rw [fold_take (by simpa using hjl),List.getElem_map,fold_take (l:=T.map _) (by simpa using hjT),List.getElem_map]
   rw [itO_in step]
   exact ih (j + 1) (by omega)
 have:=key l.length 0 (by omega)
 rw [Int.natCast_zero] at this
 exact this
theorem radius_least {l:List GUnit} {t:Nat} (ht:t < l.length) (h:FirstMin (l.map (radius l)) t):∀ u∈l,radius l l[t]≤radius l u:=by
 obtain ⟨m,h1,h2⟩:=h
 rw [List.getElem?_map,List.getElem?_eq_getElem ht] at h1
 cases h1
 intro u hu
 obtain ⟨j,hj,rfl⟩:=List.getElem_of_mem hu
 exact (h2 j (radius l l[j]) (by rw [List.getElem?_map,List.getElem?_eq_getElem hj]; rfl)).1
theorem firstMin_lt {R:List Int} {k:Nat} (h:FirstMin R k):k < R.length:=by
 obtain ⟨m,h1,_⟩:=h
 exact (List.getElem?_eq_some_iff.1 h1).1
set_option maxHeartbeats 4000000 in
theorem turned_main {a0:Option (List GUnit)} {l:List GUnit} {a2:Int} {v11:Option (List Int)} {r:List Int} (ho:a0.getD []=l) (hE:unitsE l=0) (h6:l.length≤6) (hb:∀ u∈l,∀ v∈u.values.getD [],-90000≤v∧v≤90000) (hr:v11.getD []=r) (hp:r.Perm (upto l.length)) (h0:0≤a2) (h1:a2≤255):
  (obind (itO (s8_0 a0 a2 v11) (none,none,none,0,false,false,false)) fun d395=>
     obind (E18 a0) fun v397=>
     obind (f56 v397) fun v399=>
     obind (itO (s8_2 a0 d395 v399) 0) fun d426=>match d426 with
      | .inl d428=>
       some false
      | .inr d429=>
       obind (remO ((a0.getD []).length:Int) 2) fun v430=>
       cond (decide (v399.2.2=0) == decide (v430=0))
        (cond (decide (((a0.getD []).length:Int)=0))
         (obind (f57 none) fun v434=>
         some (decide (v434.2=12)))
         (obind (f57 v397) fun v436=>
         obind (E18 d395.1) fun v438=>
         obind (f57 v438) fun v440=>
         cond (decide (v436.2=0))
          (cond (decide (v440.2=0))
           (cond (decide ((min v440.1 v436.1) < 0))
            (some false)
            (cond (decide (((a0.getD []).length:Int)≤(max v440.1 v436.1)))
             (some false)
             (obind (itO (s8_3 a0 d395 v436 v440) (0,0,0)) fun d795=>match d795 with
              | .inl d797=>
               some false
              | .inr d798=>
               obind (itO (s8_5 a0 d798) 0) fun d872=>match d872 with
                | .inl d874=>
                 some false
                | .inr d875=>
                 some (decide (d798.2.1=d798.2.2)))))
           (some false))
          (some false)))
        (some false))=some true:=by
 have hu:=units_ok hE
 have hrl:r.length=l.length:=by rw [hp.length_eq,upto_len]
 have hrm:∀ x∈r,0≤x∧x < (l.length:Int):=fun x hx=>upto_mem.1 (hp.mem_iff.1 hx)
 have e0:=loop80 ho hr hu (by omega) hrl hrm h0 h1 l.length 0 (by omega)
 rw [Int.natCast_zero] at e0
 have e0:itO (s8_0 a0 a2 v11) (none,none,none,0,false,false,false)=_:=e0
 have hTp:=turned_list hp
 generalize hTd:(r.map fun x=>l.getD x.toNat dU)=T at e0 hTp
 generalize hRd:l.map (mapU fun v=>v + a2)=R at e0
 generalize hUd:l.map (mapU fun v=>0 - v)=U at e0
 have hTl:T.length=l.length:=hTp.length_eq
 have hRl:R.length=l.length:=by rw [← hRd,List.length_map]
 have hUl:U.length=l.length:=by rw [← hUd,List.length_map]
 have hET:unitsE T=0:=unitsE_perm hTp hE
 have hER:unitsE R=0:=by rw [← hRd]; exact mapU_units hE fun u hm v hv=>by have:=hb u hm v hv; omega
 have hEU:unitsE U=0:=by rw [← hUd]; exact mapU_units hE fun u hm v hv=>by have:=hb u hm v hv; omega
 have huT:=units_ok hET
 -- the values of the best pairings
 have vT:l.length % 2=0→bestV T=bestV l:=by
  intro h2
  obtain ⟨s,g,q1,q2,q3⟩:=turn_maps hp
  rw [hTd] at q3
  have:=best_turn hu huT hTl h2 q1 q2 q3
  unfold bestV
  rw [hTl]; exact this
 have vR:bestV R=bestV l:=by
  unfold bestV
  rw [hRl,bestP_dAt (l:=l)]
  intro i j
  rw [← hRd]
  exact dAt_map (fun s v w=>by unfold stepD; dsimp only; omega) l i j
 have vU:bestV U=bestV l:=by
  unfold bestV
  rw [hUl,bestP_dAt (l:=l)]
  intro i j
  rw [← hUd]
  exact dAt_map (fun s v w=>by unfold stepD; dsimp only; omega) l i j
 obtain ⟨s0,g1,g2,g3⟩:=valid56 hE (by omega)
 obtain ⟨sT,t1,t2,t3⟩:=valid56 hET (by omega)
 obtain ⟨sR,r1,r2,r3⟩:=valid56 hER (by omega)
 obtain ⟨sU,u1,u2,u3⟩:=valid56 hEU (by omega)
 rw [hTl] at t3; rw [hRl] at r3; rw [hUl] at u3
 have pT:pairsE T=pairsE l:=by rw [pairsE_valid hET (by omega),pairsE_valid hE (by omega),hTl]
 have pR:pairsE R=pairsE l:=by rw [pairsE_valid hER (by omega),pairsE_valid hE (by omega),hRl]
 have pU:pairsE U=pairsE l:=by rw [pairsE_valid hEU (by omega),pairsE_valid hE (by omega),hUl]
 have k1:sT.2.2=s0.2.2∧sT.2.1=s0.2.1:=⟨by rw [t2,g2,pT],by
  rw [t3,g3]
  by_cases h2:l.length % 2=0
  ·rw [if_pos h2,if_pos h2,vT h2]
  ·rw [if_neg h2,if_neg h2]⟩
 have k2:sR.2.2=s0.2.2∧sR.2.1=s0.2.1:=⟨by rw [r2,g2,pR],by rw [r3,g3,vR]⟩
 have k3:sU.2.2=s0.2.2∧sU.2.1=s0.2.1:=⟨by rw [u2,g2,pU],by rw [u3,g3,vU]⟩
 have gn:∀ x:List GUnit,(nonNil x).getD []=x:=fun x=>nonNil_get' x
 have e2:itO (s8_2 a0 (nonNil T,accO T,nonNil R,accO R,nonNil U,accO U,(l.length:Int)) s0) 0=some (.inr ((3:Nat):Int)):=by
  refine itO_thru _ _ ?_ ?_
  ·unfold s8_2; simp
  ·intro i hi
   have hlt:(i:Int) < 3:=by omega
   have hw:wrapF .i64 ((i:Int) + 1)=((i + 1:Nat):Int):=wrap_nat (by omega)
   unfold s8_2
   match i,hi with
   | 0,_=>
    have hx:idxO [nonNil T,nonNil R,nonNil U] ((0:Nat):Int)=some (nonNil T):=rfl
    simp only [hlt,decide_true,cond_true,hx,obind_at,valid18 (gn T) hET,t1,k1.1,k1.2,hw]
   | 1,_=>
    have hx:idxO [nonNil T,nonNil R,nonNil U] ((1:Nat):Int)=some (nonNil R):=rfl
    simp only [hlt,decide_true,cond_true,hx,obind_at,valid18 (gn R) hER,r1,k2.1,k2.2,hw]
   | 2,_=>
    have hx:idxO [nonNil T,nonNil R,nonNil U] ((2:Nat):Int)=some (nonNil U):=rfl
    simp only [hlt,decide_true,cond_true,hx,obind_at,valid18 (gn U) hEU,u1,k3.1,k3.2,hw]
 have hrem:remO (l.length:Int) 2=some ((l.length:Int).tmod 2):=by unfold remO; rw [if_neg (by decide)]
 have hpar:(decide (s0.2.2=0) == decide ((l.length:Int).tmod 2=0))=true:=by
  have ht:(l.length:Int).tmod 2=((l.length % 2:Nat):Int):=rfl
  rw [g2,pairsE_valid hE (by omega),ht]
  by_cases h2:l.length % 2=0
  ·rw [if_pos h2,h2]; rfl
  ·have:¬ ((l.length % 2:Nat):Int)=0:=by omega
   rw [if_neg h2]
   simp only [this,decide_false]
   rfl
 simp only [e0,obind_at,valid18 ho hE,g1,e2,ho,hrem,hpar,cond_true]
 by_cases hz:l=[]
 ·subst hz
  have h57:f57 none=some (0,12):=by
   have e22:E22 (none:Option (List GUnit))=some (unitsE []):=exO_of ⟨by simp,fun u hu=>by cases hu⟩
   have:=f57_eq (o:=none) (l:=[]) rfl (by simp) e22
   rw [if_neg (by decide)] at this
   exact this
  have hz0:(([]:List GUnit).length:Int)=0:=rfl
  simp only [hz0,decide_true,cond_true,h57,obind_at]
 ·have hz0:¬ (l.length:Int)=0:=fun h=>hz (List.length_eq_zero_iff.1 (by omega))
  have hTz:T ≠ []:=fun h=>hz (List.length_eq_zero_iff.1 (by rw [← hTl,h]; rfl))
  obtain ⟨t,f1,f2⟩:=valid57 hE hz
  obtain ⟨s,f3,f4⟩:=valid57 hET hTz
  have htl:t < l.length:=by have:=firstMin_lt f2; simpa using this
  have hsT:s < T.length:=by have:=firstMin_lt f4; simpa using this
  have m1:¬ min (s:Int) (t:Int) < 0:=by omega
  have m2:¬ (l.length:Int)≤max (s:Int) (t:Int):=by omega
  have e3:=loop83 (d395:=(nonNil T,accO T,nonNil R,accO R,nonNil U,accO U,(l.length:Int))) (v436:=((t:Int),0)) (v440:=((s:Int),0)) ho hE (gn T) hET hTl htl (by omega) rfl rfl
  have least:=radius_least htl f2
  have leastT:=radius_least hsT f4
  have e5:itO (s8_5 a0 ((l.length:Int),radius l l[t],radius T T[s])) 0=some (.inr (l.length:Int)):=by
   refine itO_thru _ _ ?_ ?_
   ·unfold s8_5; simp [ho]
   ·intro i hi
    have hlt:(i:Int) < (l.length:Int):=by omega
    have:=least _ (List.getElem_mem hi)
    have hn:¬ radius l l[i] < radius l l[t]:=by omega
    unfold s8_5
    simp only [ho,hlt,decide_true,cond_true,loop86 ho hu (by omega) hi,obind_at,hn,decide_false,cond_false,wrap_nat (show i < 9223372036854775807 by omega)]
  have heq:radius l l[t]=radius T T[s]:=by
   apply Int.le_antisymm
   ·rw [radius_perm hTp]
    exact least _ (hTp.mem_iff.1 (List.getElem_mem hsT))
   ·rw [← radius_perm hTp l[t]]
    exact leastT _ (hTp.mem_iff.2 (List.getElem_mem htl))
  simp only [hz0,decide_false,cond_false,f1,obind_at,valid18 (gn T) hET,f3,decide_true,cond_true,m1,m2,e3,e5]
  rw [decide_eq_true heq]
theorem turned_true (a0:Option (List GUnit)) (a1 a2:Int) (hs:∀ u∈a0.getD [],sizeW u) (hk:0≤a1∧a1≤65535) (h2:0≤a2∧a2≤255):f8 a0 a1 a2=some true:=by
 unfold f8
 simp only [E14,obind_at,cond_true]
 by_cases h6:(6:Int) < ((a0.getD []).length:Int)
 ·simp only [h6,decide_true,cond_true]
 ·have e22:E22w a0=some (unitsE (a0.getD [])):=exO_of ⟨by omega,hs⟩
  simp only [h6,decide_false,cond_false,e22,obind_at]
  by_cases hE:unitsE (a0.getD [])=0
  ·simp only [hE,decide_true,cond_true]
   obtain ⟨b,hb,hwin⟩:=f54_any a0 (by omega) fun u hu=>((units_ok hE).ok u hu).len
   simp only [hb,obind_at]
   cases b with
   | false=>simp only [cond_false]
   | true=>
    have w1:wrapF .i64 a1=a1:=wrapF_i64 (by omega) (by omega)
    have w2:wrapF .i64 (1 + a1)=1 + a1:=wrapF_i64 (by omega) (by omega)
    obtain ⟨v11,q1,q2⟩:∃ v11,E55 (1 + a1) ((a0.getD []).length:Int)=some v11∧(v11.getD []).Perm (upto (a0.getD []).length):=by
     unfold E55
     by_cases hz:((a0.getD []).length:Int)=0
     ·rw [if_pos hz]
      refine ⟨none,rfl,?_⟩
      have:(a0.getD []).length=0:=by omega
      rw [this]
      exact List.Perm.refl _
     ·rw [if_neg hz]
      obtain ⟨r,r1,r2⟩:=draw_perm (a:=1 + a1) (n:=(a0.getD []).length) (by omega) (by omega) (by omega) (by omega)
      exact ⟨some r,by rw [r1]; rfl,r2⟩
    simp only [cond_true,w1,w2,q1,obind_at]
    exact turned_main rfl hE (by omega) (hwin rfl) rfl q2 h2.1 h2.2
  ·simp only [hE,decide_false,cond_false]
theorem I8 (a0:Option (List GUnit)) (a1 a2:Int) (hs:∀ u∈a0.getD [],sizeW u) (hk:0≤a1∧a1≤65535) (h2:0≤a2∧a2≤255):callIso prT (X prT) 8 [sl 2 vunit a0,.int .u16 a1,.int .u8 a2]=some (.bool true,false):=W8 (turned_true a0 a1 a2 hs hk h2)
end Go.Z
