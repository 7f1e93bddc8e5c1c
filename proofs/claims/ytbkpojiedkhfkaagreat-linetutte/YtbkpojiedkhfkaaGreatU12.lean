/-
  LineTutte: the law's own search for a pairing.
-/
import Derived.Test.YtbkpojiedkhfkaaGreatU3
import Derived.Test.YtbkpojiedkhfkaaGreatUA
import Derived.Test.YtbkpojiedkhfkaaGreatQ6
import Derived.Test.YtbkpojiedkhfkaaGreatK4
import Derived.Test.YtbkpojiedkhfkaaGreatUB
set_option linter.unusedVariables false
set_option linter.unusedSimpArgs false
set_option maxRecDepth 100000
namespace Go.Z
open Go Go.Abs
def frB (us:List Bool):Nat→Nat→List Nat
 | 0,_=>[]
 | k + 1,i=>bif us.getD i false then frB us k (i + 1) else i::frB us k (i + 1)
theorem frB_mem {us:List Bool}:∀ {k i x:Nat},x∈frB us k i↔i≤x∧x < i + k∧us.getD x false=false
 | 0,i,x=>by
  constructor
  ·intro h; cases h
  ·rintro ⟨h1,h2,_⟩; omega
 | k + 1,i,x=>by
  unfold frB
  have ih:=frB_mem (us:=us) (k:=k) (i:=i + 1) (x:=x)
  cases hu:us.getD i false with
  | true=>
   rw [cond_true,ih]
   constructor
   ·rintro ⟨h1,h2,h3⟩; exact ⟨by omega,by omega,h3⟩
   ·rintro ⟨h1,h2,h3⟩
    have:x ≠ i:=fun e=>by rw [e,hu] at h3; cases h3
    exact ⟨by omega,by omega,h3⟩
  | false=>
   rw [cond_false,List.mem_cons,ih]
   constructor
   ·rintro (rfl | ⟨h1,h2,h3⟩)
    ·exact ⟨by omega,by omega,hu⟩
    ·exact ⟨by omega,by omega,h3⟩
   ·rintro ⟨h1,h2,h3⟩
    by_cases e:x=i
    ·exact .inl e
    ·exact .inr ⟨by omega,by omega,h3⟩
theorem getD_set (us:List Bool) (b i:Nat) (v:Bool) (hb:b < us.length):(us.set b v).getD i false=if b=i then v else us.getD i false:=by
 rw [List.getD_eq_getElem?_getD,List.getElem?_set,List.getD_eq_getElem?_getD]
 split
 ·first | rfl | (rw [if_pos (by omega)]; rfl)
 ·rfl
theorem frB_set {us:List Bool} {b:Nat} (hb:b < us.length):∀ (k i:Nat),frB (us.set b true) k i=(frB us k i).filter fun x=>!Nat.beq x b
 | 0,i=>rfl
 | k + 1,i=>by
  have ih:=frB_set hb k (i + 1)
  unfold frB
  rw [getD_set us b i true hb]
  by_cases e:b=i
  ·rw [if_pos e,cond_true,ih]
   cases us.getD i false with
   | true=>rfl
   | false=>
    rw [cond_false,List.filter_cons,e,Nat.beq_refl]
    rfl
  ·rw [if_neg e]
   cases us.getD i false with
   | true=>exact ih
   | false=>
    have:Nat.beq i b=false:=by
     cases h:Nat.beq i b with
     | false=>rfl
     | true=>exact absurd (Nat.eq_of_beq_eq_true h).symm e
    rw [cond_false,cond_false,List.filter_cons,this,ih]
    rfl
theorem frB_cons {us:List Bool}:∀ {k i a:Nat} {t:List Nat},frB us k i=a::t→i≤a∧a < i + k∧us.getD a false=false∧t=frB us (i + k - (a + 1)) (a + 1)
 | 0,i,a,t,h=>by cases h
 | k + 1,i,a,t,h=>by
  unfold frB at h
  cases hu:us.getD i false with
  | true=>
   rw [hu,cond_true] at h
   obtain ⟨h1,h2,h3,h4⟩:=frB_cons h
   exact ⟨by omega,by omega,h3,by rw [h4]; congr 1; omega⟩
  | false=>
   rw [hu,cond_false] at h
   injection h with h1 h2
   subst h1
   exact ⟨by omega,by omega,hu,by rw [← h2]; congr 1; omega⟩
def pmB (l:List GUnit) (below:Int):Nat→List Nat→Bool
 | _,[]=>true
 | 0,_::_=>false
 | k + 1,a::t=>t.any fun b=>near l below (a:Int) (b:Int) && pmB l below k (t.filter fun x=>!Nat.beq x b)
section
variable {l:List GUnit} {o:Option (List GUnit)} {below:Int}
theorem first_unused (ho:o.getD []=l) (hl:l.length≤8) {us:List Bool} (hus:us.length=8):∀ (k i:Nat),i + k=l.length→itO (s83_0 o below us) (i:Int)=some (match frB us k i with
  | []=>(l.length:Int)
  | a::_=>(a:Int))
 | 0,i,hi=>by
  refine itO_out ?_
  have:¬ (i:Int) < (l.length:Int):=by omega
  unfold s83_0
  simp only [ho,this,decide_false,cond_false]
  rw [show i=l.length by omega]
  rfl
 | k + 1,i,hi=>by
  have hlt:(i:Int) < (l.length:Int):=by omega
  have hw:wrapF .i64 ((i:Int) + 1)=((i + 1:Nat):Int):=wrap_nat (by omega)
  have hix:idxT 8 us (i:Int)=some (us.getD i false):=by
   unfold idxT
   rw [if_pos ⟨by omega,by omega⟩,Int.toNat_natCast,List.getD_eq_getElem?_getD,List.getElem?_eq_getElem (by omega)]
   rfl
  unfold frB
  cases hu:us.getD i false with
  | true=>
   have:s83_0 o below us (i:Int)=some (.inl ((i + 1:Nat):Int)):=by
    unfold s83_0
    simp only [ho,hlt,decide_true,cond_true,hix,hu,obind_at,hw]
   rw [itO_in this]
   exact first_unused ho hl hus k (i + 1) (by omega)
  | false=>
   have:s83_0 o below us (i:Int)=some (.inr (i:Int)):=by
    unfold s83_0
    simp only [ho,hlt,decide_true,cond_true,hix,hu,obind_at,cond_false]
   exact itO_out this
theorem near_row (hu:UnitsOk l) (ho:o.getD []=l) (hl:l.length≤8) {rec:(Option (List GUnit))→Int→(List Bool)→Option Bool} {us:List Bool} (hus:us.length=8) {a:Nat} (ha:a < l.length) (P:Nat→Bool)
  (hrec:∀ b,a < b→b < l.length→us.getD b false=false→rec o below (us.set b true)=some (P b)):∀ (k i:Nat),i + k=l.length→a < i →
  ∃ d,itO (s83_1 o below rec (a:Int)) ((i:Int),us)=some d∧(match d with
   | .inl _=>(frB us k i).any (fun b=>near l below (a:Int) (b:Int) && P b)=true
   | .inr _=>(frB us k i).any (fun b=>near l below (a:Int) (b:Int) && P b)=false)
 | 0,i,hi,hai=>by
  refine ⟨.inr ((i:Int),us),itO_out ?_,rfl⟩
  have:¬ (i:Int) < (l.length:Int):=by omega
  unfold s83_1
  simp only [ho,this,decide_false,cond_false]
 | k + 1,i,hi,hai=>by
  have hlt:(i:Int) < (l.length:Int):=by omega
  have hw:wrapF .i64 ((i:Int) + 1)=((i + 1:Nat):Int):=wrap_nat (by omega)
  have hixg:∀ u:List Bool,u.length=8→idxT 8 u (i:Int)=some (u.getD i false):=by
   intro u hu8
   unfold idxT
   rw [if_pos ⟨by omega,by omega⟩,Int.toNat_natCast,List.getD_eq_getElem?_getD,List.getElem?_eq_getElem (by omega)]
   rfl
  have hix:=hixg us hus
  have next:=near_row hu ho hl hus ha P hrec k (i + 1) (by omega) (by omega)
  unfold frB
  cases hui:us.getD i false with
  | true=>
   have:s83_1 o below rec (a:Int) ((i:Int),us)=some (.inl (((i + 1:Nat):Int),us)):=by
    unfold s83_1
    simp only [ho,hlt,decide_true,cond_true,hix,hui,obind_at,hw]
   rw [itO_in this,cond_true]
   exact next
  | false=>
   obtain ⟨u,w,e1,e2,e3⟩:=d_at hu (i:=(a:Int)) (j:=(i:Int)) (by omega) (by omega) (by omega) (by omega)
   have e3:f58 u w=some (dAt l (a:Int) (i:Int)):=e3
   rw [cond_false]
   by_cases hn:dAt l (a:Int) (i:Int) < below
   ·have hnear:near l below (a:Int) (i:Int)=true:=decide_eq_true hn
    have hge:¬ below≤dAt l (a:Int) (i:Int):=by omega
    have hl8:lenO 8 (us.set i true)=some (us.set i true):=by unfold lenO; rw [if_pos (by rw [List.length_set]; exact hus)]
    have hr:=hrec i hai (by omega) hui
    have hix2:=hixg (us.set i true) (by rw [List.length_set]; exact hus)
    cases hP:P i with
    | true=>
     have:s83_1 o below rec (a:Int) ((i:Int),us)=some (.inr (.inl (us.set i true))):=by
      unfold s83_1
      simp only [ho,hlt,decide_true,cond_true,hix,hui,obind_at,cond_false,e1,e2,e3,hge,decide_false,Int.toNat_natCast,hl8,hr,hP]
     exact ⟨_,itO_out this,by simp [hnear,hP]⟩
    | false=>
     have hback:(us.set i true).set i false=us:=by
      rw [List.set_set]
      apply List.ext_getElem (by simp)
      intro j h1 h2
      rw [List.getElem_set]
      split
      ·next e=>
       subst e
       rw [List.getD_eq_getElem?_getD,List.getElem?_eq_getElem h2] at hui
       exact hui.symm
      ·rfl
     have:s83_1 o below rec (a:Int) ((i:Int),us)=some (.inl (((i + 1:Nat):Int),us)):=by
      unfold s83_1
      simp only [ho,hlt,decide_true,cond_true,hix,hui,obind_at,cond_false,e1,e2,e3,hge,decide_false,Int.toNat_natCast,hl8,hr,hP,hix2,hback,hw]
     rw [itO_in this]
     obtain ⟨d,h1,h2⟩:=next
     refine ⟨d,h1,?_⟩
     rw [List.any_cons,hP,Bool.and_false,Bool.false_or]
     exact h2
   ·have hnear:near l below (a:Int) (i:Int)=false:=decide_eq_false hn
    have hge:below≤dAt l (a:Int) (i:Int):=by omega
    have:s83_1 o below rec (a:Int) ((i:Int),us)=some (.inl (((i + 1:Nat):Int),us)):=by
     unfold s83_1
     simp only [ho,hlt,decide_true,cond_true,hix,hui,obind_at,cond_false,e1,e2,e3,hge,hw]
    rw [itO_in this]
    obtain ⟨d,h1,h2⟩:=next
    refine ⟨d,h1,?_⟩
    rw [List.any_cons,hnear,Bool.false_and,Bool.false_or]
    exact h2
theorem matched_eq (hu:UnitsOk l) (ho:o.getD []=l) (hl:l.length≤8):∀ (k:Nat) (us:List Bool),us.length=8→(frB us l.length 0).length≤2 * k→f83 (k + 1) o below us=some (pmB l below k (frB us l.length 0))
 | k,us,hus,hk=>by
  show F83 (f83 k) o below us=_
  have hl8:lenO 8 us=some us:=by unfold lenO; rw [if_pos hus]
  have h0:=first_unused (below:=below) ho hl hus l.length 0 (by omega)
  rw [Int.natCast_zero] at h0
  unfold F83
  rw [hl8]
  simp only [obind_at,h0,ho]
  cases hf:frB us l.length 0 with
  | nil=>
   simp only [decide_true,cond_true]
   cases k <;> rfl
  | cons a t=>
   obtain ⟨h1,h2,h3,h4⟩:=frB_cons hf
   have hne:¬ (a:Int)=(l.length:Int):=by omega
   have hix:idxT 8 us (a:Int)=some (us.getD a false):=by
    unfold idxT
    rw [if_pos ⟨by omega,by omega⟩,Int.toNat_natCast,List.getD_eq_getElem?_getD,List.getElem?_eq_getElem (by omega)]
    rfl
   have hw:wrapF .i64 ((a:Int) + 1)=((a + 1:Nat):Int):=wrap_nat (by omega)
   simp only [hne,decide_false,cond_false,hix,obind_at,hw,Int.toNat_natCast]
   cases k with
   | zero=>rw [hf] at hk; simp at hk
   | succ k=>
    have hus':(us.set a true).length=8:=by rw [List.length_set]; exact hus
    have hfa:frB (us.set a true) l.length 0=t:=by
     rw [frB_set (by omega),hf,List.filter_cons,Nat.beq_refl]
     simp only [Bool.not_true,Bool.false_eq_true,if_false]
     rw [List.filter_eq_self]
     intro x hx
     rw [h4] at hx
     have:=(frB_mem.1 hx).1
     cases hb:Nat.beq x a with
     | false=>rfl
     | true=>have:=Nat.eq_of_beq_eq_true hb; omega
    have hta:frB (us.set a true) (l.length - (a + 1)) (a + 1)=t:=by
     rw [frB_set (by omega),List.filter_eq_self.2,h4]
     ·congr 1; omega
     ·intro x hx
      have:=(frB_mem.1 hx).1
      cases hb:Nat.beq x a with
      | false=>rfl
      | true=>have:=Nat.eq_of_beq_eq_true hb; omega
    obtain ⟨d,g1,g2⟩:=near_row hu ho hl (rec:=f83 (k + 1)) hus' (a:=a) (by omega) (fun b=>pmB l below k (t.filter fun x=>!Nat.beq x b)) (fun b hab hbl hb=>by
     have hbt:b∈t:=by rw [← hta]; exact frB_mem.2 ⟨by omega,by omega,hb⟩
     have:=matched_eq hu ho hl k ((us.set a true).set b true) (by rw [List.length_set]; exact hus') (by
      rw [frB_set (by omega),hfa]
      rw [hf] at hk
      simp only [List.length_cons] at hk
      have hlt:(t.filter fun x=>!Nat.beq x b).length < t.length:=by
       rcases Nat.lt_or_ge (t.filter fun x=>!Nat.beq x b).length t.length with h | h
       ·exact h
       ·exfalso
        have he:=(List.filter_sublist (l:=t) (p:=fun x=>!Nat.beq x b)).eq_of_length (Nat.le_antisymm (List.length_filter_le ..) h)
        rw [← he] at hbt
        have:=(List.mem_filter.1 hbt).2
        rw [Nat.beq_refl] at this
        cases this
      omega)
     rw [frB_set (by omega),hfa] at this
     exact this) (l.length - (a + 1)) (a + 1) (by omega) (by omega)
    rw [hta] at g2
    rw [g1]
    cases d with
    | inl x=>simp only [obind_at]; unfold pmB; rw [g2]
    | inr x=>simp only [obind_at]; unfold pmB; rw [g2]
theorem pmB_even:∀ (k:Nat) (t:List Nat),t.length=2 * k→t.Nodup→(pmB l below k t=true↔∃ m∈pmsN k t,∀ q∈m,near l below (q.1:Int) (q.2:Int)=true)
 | 0,t,ht,_=>by
  have h0:t=[]:=List.length_eq_zero_iff.1 (by omega)
  subst h0
  exact ⟨fun _=>⟨[],by simp [pmsN],by simp⟩,fun _=>rfl⟩
 | k + 1,[],ht,_=>by simp at ht
 | k + 1,a::t,ht,hn=>by
  obtain ⟨ha,hnt⟩:=List.nodup_cons.1 hn
  unfold pmB pmsN
  rw [List.any_eq_true]
  have hlen:∀ b∈t,(t.filter fun x=>!Nat.beq x b).length=2 * k:=by
   intro b hb
   have e:(t.filter fun x=>!Nat.beq x b)=t.erase b:=by
    rw [hnt.erase_eq_filter]
    apply List.filter_congr
    intro x _
    cases hx:Nat.beq x b with
    | true=>rw [Nat.eq_of_beq_eq_true hx]; simp
    | false=>
     have:x ≠ b:=fun e=>by rw [e,Nat.beq_refl] at hx; cases hx
     simp [this]
   rw [e,List.length_erase_of_mem hb]
   simp only [List.length_cons] at ht
   omega
  constructor
  ·rintro ⟨b,hb,h⟩
   rw [Bool.and_eq_true] at h
   obtain ⟨m,hm,hh⟩:=(pmB_even k _ (hlen b hb) (hnt.sublist (List.filter_sublist ..))).1 h.2
   refine ⟨(a,b)::m,List.mem_flatMap.2 ⟨b,hb,List.mem_map.2 ⟨m,hm,rfl⟩⟩,fun q hq=>?_⟩
   rcases List.mem_cons.1 hq with rfl | hq
   ·exact h.1
   ·exact hh q hq
  ·rintro ⟨m,hm,hh⟩
   obtain ⟨b,hb,hm⟩:=List.mem_flatMap.1 hm
   obtain ⟨m',hm',rfl⟩:=List.mem_map.1 hm
   refine ⟨b,hb,?_⟩
   rw [Bool.and_eq_true]
   exact ⟨hh (a,b) (List.mem_cons_self ..),(pmB_even k _ (hlen b hb) (hnt.sublist (List.filter_sublist ..))).2 ⟨m',hm',fun q hq=>hh q (List.mem_cons_of_mem _ hq)⟩⟩
end
end Go.Z
/-
 LineTutte: where all are paired with near ones,no set proves.
-/
namespace Go.Z
open Go Go.Abs
section
variable {l:List GUnit} {o':Option (List GUnit)} {below:Int}
theorem pmB_odd:∀ (k:Nat) (t:List Nat),t.length % 2=1→t.Nodup→pmB l below k t=false
 | _,[],ht,_=>by simp at ht
 | 0,_::_,_,_=>rfl
 | k + 1,a::t,ht,hn=>by
  obtain ⟨ha,hnt⟩:=List.nodup_cons.1 hn
  unfold pmB
  rw [List.any_eq_false]
  intro b hb h
  rw [Bool.and_eq_true] at h
  have e:(t.filter fun x=>!Nat.beq x b)=t.erase b:=by
   rw [hnt.erase_eq_filter]
   apply List.filter_congr
   intro x _
   cases hx:Nat.beq x b with
   | true=>rw [Nat.eq_of_beq_eq_true hx]; simp
   | false=>
    have:x ≠ b:=fun e=>by rw [e,Nat.beq_refl] at hx; cases hx
    simp [this]
  have hp:=List.length_pos_of_mem hb
  have:=pmB_odd k (t.filter fun x=>!Nat.beq x b) (by
   rw [e,List.length_erase_of_mem hb]
   simp only [List.length_cons] at ht
   omega) (hnt.sublist (List.filter_sublist ..))
  rw [this] at h
  cases h.2
theorem mate_symm {m:List (Nat × Nat)} {x y:Int} (h:Mate m x y):Mate m y x:=by
 obtain ⟨q,hq,h | h⟩:=h
 ·exact ⟨q,hq,.inr ⟨h.2,h.1⟩⟩
 ·exact ⟨q,hq,.inl ⟨h.2,h.1⟩⟩
structure Paired (l:List GUnit) (below:Int) (m:List (Nat × Nat)):Prop where
 nd:(flatP m).Nodup
 all:∀ x,x∈flatP m↔x < l.length
 near:∀ q∈m,Go.Z.near l below (q.1:Int) (q.2:Int)=true
theorem Paired.mate {m:List (Nat × Nat)} (h:Paired l below m) {x y:Int} (hm:Mate m x y):Go.Z.near l below x y=true:=by
 obtain ⟨q,hq,⟨rfl,rfl⟩ | ⟨rfl,rfl⟩⟩:=hm
 ·exact h.near q hq
 ·rw [near_symm]; exact h.near q hq
set_option maxHeartbeats 1000000 in
theorem loop_few {pm:List (Nat × Nat)} (hu:UnitsOk l) (ho':o'.getD []=l) (hl:l.length≤64) (hpm:Paired l below pm) {set:List Int} (a2:Option (List Int)):
  ∀ (j i:Nat) (m us:List Int),i + j=l.length→m.Nodup→(∀ x∈m,Free l.length set x)→(∀ x∈m,∀ y,Free l.length set y→near l below x y=true→y∈m)→(∀ x∈m,(i:Int)≤x)→us.Nodup→(∀ u∈us,u∈set∧∃ x,x ∉ m∧Free l.length set x∧Mate pm x u)→us.length≤i →
   ∃ (us':List Int),itO (s119_1 o' below a2) ((us.length:Int),(i:Int),m)=some ((us'.length:Int),(l.length:Int),[])∧us'.Nodup∧∀ u∈us',u∈set
 | 0,i,m,us,hi,hm,hmf,hmc,hlow,hus,hum,hul=>by
  have hi2:i=l.length:=by omega
  subst hi2
  have hm0:m=[]:=by
   cases m with
   | nil=>rfl
   | cons x m=>
    have h1:=hmf x (List.mem_cons_self ..)
    have h2:=hlow x (List.mem_cons_self ..)
    unfold Free at h1
    omega
  subst hm0
  exact ⟨us,itO_out (by unfold s119_1; simp [ho']),hus,fun u h=>(hum u h).1⟩
 | j + 1,i,m,us,hi,hm,hmf,hmc,hlow,hus,hum,hul=>by
  have hlt:(i:Int) < (l.length:Int):=by omega
  have hw:wrapF .i64 ((i:Int) + 1)=((i + 1:Nat):Int):=wrap_nat (by omega)
  by_cases him:(i:Int)∈m
  ·have hml:m.length≤l.length:=free_len (s:=set) hm hmf
   obtain ⟨D,m',q1,q2,q3,q4⟩:=part_eq (below:=below) hu ho' (by omega) 70 m (i:Int) (by omega) hm (fun x hx=>⟨(hmf x hx).1,(hmf x hx).2.1⟩) him
   have hrem:∀ x:Nat,remO (x:Int) 2=some ((x % 2:Nat):Int):=fun x=>by unfold remO; rw [if_neg (by decide)]; rfl
   have hclos:∀ x∈m',∀ y,Free l.length set y→near l below x y=true→y∈m':=by
    intro x hx y hy hxy
    obtain ⟨hxm,hxD⟩:=(q4 x).1 hx
    refine (q4 y).2 ⟨hmc x hxm y hy hxy,fun hyD=>hxD ?_⟩
    exact q2.closed y hyD x hxm (by rw [near_symm]; exact hxy)
   have hlow':∀ x∈m',((i + 1:Nat):Int)≤x:=by
    intro x hx
    have h1:=(q4 x).1 hx
    have h2:=hlow x h1.1
    have h3:x ≠ (i:Int):=fun e=>h1.2 (e ▸ q2.has)
    omega
   have hum':∀ u∈us,u∈set∧∃ x,x ∉ m'∧Free l.length set x∧Mate pm x u:=fun u hu'=>by
    obtain ⟨h1,x,h2,h3⟩:=hum u hu'
    exact ⟨h1,x,fun hx=>h2 ((q4 x).1 hx).1,h3⟩
   by_cases hz:D.length % 2=0
   ·have e1:s119_1 o' below a2 ((us.length:Int),(i:Int),m)=some (.inl ((us.length:Int),((i + 1:Nat):Int),m')):=by
     unfold s119_1
     simp only [ho',hlt,decide_true,cond_true,memI_iff.2 him,q1,obind_at,hrem,hw,hz]
     simp
    rw [itO_in e1]
    exact loop_few hu ho' hl hpm a2 j (i + 1) m' us (by omega) q3 (fun x hx=>hmf x ((q4 x).1 hx).1) hclos hlow' hus hum' (by omega)
   ·have h21:D.length % 2=1:=by omega
    obtain ⟨x,y,hxD,hyD,hxy⟩:=odd_leaves hpm.nd q2.nd (fun x hx=>by
     have:=hmf x (q2.ins x hx)
     unfold Free at this
     exact ⟨x.toNat,(hpm.all _).2 (by omega),by omega⟩) h21
    have hnear:=hpm.mate hxy
    have hxm:=q2.ins x hxD
    have hyr:0≤y∧y < (l.length:Int):=by
     obtain ⟨a,b,_,rfl,_,hb⟩:=mate_flat hxy
     have:=(hpm.all b).1 hb
     omega
    have hys:y∈set:=by
     by_cases h:y∈set
     ·exact h
     ·exfalso
      have hym:=hmc x hxm y ⟨hyr.1,hyr.2,h⟩ hnear
      exact hyD (q2.closed x hxD y hym hnear)
    have hyu:y ∉ us:=by
     intro h
     obtain ⟨_,x',h2,_,h4⟩:=hum y h
     have:x=x':=mate_one hpm.nd (mate_symm hxy) (mate_symm h4)
     exact h2 (this ▸ hxm)
    have hne:¬ ((1:Nat):Int)=0:=by decide
    have hw3:wrapF .i64 ((us.length:Int) + 1)=(((y::us).length:Nat):Int):=by rw [wrapF_i64 (by omega) (by omega),List.length_cons]; omega
    have e1:s119_1 o' below a2 ((us.length:Int),(i:Int),m)=some (.inl (((y::us).length:Int),((i + 1:Nat):Int),m')):=by
     unfold s119_1
     simp only [ho',hlt,decide_true,cond_true,memI_iff.2 him,q1,obind_at,hrem,hw,h21,hne,decide_false,cond_false,hw3]
    rw [itO_in e1]
    refine loop_few hu ho' hl hpm a2 j (i + 1) m' (y::us) (by omega) q3 (fun x hx=>hmf x ((q4 x).1 hx).1) hclos hlow' (List.nodup_cons.2 ⟨hyu,hus⟩) (fun u hu'=>?_) (by simp only [List.length_cons]; omega)
    rcases List.mem_cons.1 hu' with rfl | hu'
    ·exact ⟨hys,x,fun hx=>((q4 x).1 hx).2 hxD,hmf x hxm,hxy⟩
    ·exact hum' u hu'
  ·have e1:s119_1 o' below a2 ((us.length:Int),(i:Int),m)=some (.inl ((us.length:Int),((i + 1:Nat):Int),m)):=by
    unfold s119_1
    simp only [ho',hlt,decide_true,cond_true,memI_not.2 him,cond_false,hw]
   rw [itO_in e1]
   refine loop_few hu ho' hl hpm a2 j (i + 1) m us (by omega) hm hmf hmc (fun x hx=>?_) hus hum (by omega)
   have h2:=hlow x hx
   have h3:x ≠ (i:Int):=fun e=>him (e ▸ hx)
   omega
theorem paired_none {pm:List (Nat × Nat)} (hu:UnitsOk l) (ho':o'.getD []=l) (hl:l.length≤64) (hpm:Paired l below pm) {a2:Option (List Int)} (hs:(a2.getD []).length≤64):f119 o' below a2=some false:=by
 obtain ⟨m,e1,m1,m2⟩:=left_eq (below:=below) (l:=l) ho' rfl hl (a2:=a2) rfl hs l.length 0 [] (by omega) List.nodup_nil (fun x=>by
  unfold Free; simp only [List.not_mem_nil,false_iff]; rintro ⟨a,b,c⟩; omega)
 obtain ⟨us,e2,h1,h2⟩:=loop_few hu ho' hl hpm (set:=a2.getD []) a2 l.length 0 m [] (by omega) m1 (fun x hx=>(m2 x).1 hx) (fun x _ y hy _=>(m2 y).2 hy) (fun x hx=>by have:=((m2 x).1 hx).1; omega) List.nodup_nil (by simp) (by simp)
 have hle:=nodup_sub_len h1 h2
 unfold f119
 rw [Int.natCast_zero] at e1 e2
 rw [e1]
 simp only [obind_at,List.length_nil,Int.natCast_zero] at e2 ⊢
 rw [e2]
 have:¬ ((a2.getD []).length:Int) < (us.length:Int):=by omega
 simp only [obind_at,this,decide_false]
theorem pms_paired {m:List (Nat × Nat)} (h2:l.length % 2=0) (hm:m∈pmsN (l.length / 2) (List.range l.length)) (hn:∀ q∈m,near l below (q.1:Int) (q.2:Int)=true):Paired l below m:=by
 obtain ⟨h1,h3⟩:=pms_flat _ _ m hm (by rw [List.length_range]; omega) List.nodup_range
 exact ⟨h1,fun x=>by rw [h3,List.mem_range],hn⟩
end
end Go.Z
/-
 LineTutte: the best pairing's value is below a number where all can be paired with differences below it.
-/
namespace Go.Z
open Go Go.Abs
section
variable {β ι:Type}
theorem foldG_lt (r:ι→β × Int) (e:Int):∀ (l:List ι) (a s:β × Int),l.foldl (fun st b=>updG st (r b)) (some a)=some s→(s.2 < e↔a.2 < e∨∃ b∈l,(r b).2 < e)
 | [],a,s,h=>by cases h; simp
 | b::l,a,s,h=>by
  rw [List.foldl_cons] at h
  have:updG (some a) (r b)=some (if (r b).2 < a.2 then r b else a):=by
   unfold updG; simp only []; split <;> rfl
  rw [this] at h
  rw [foldG_lt r e l _ s h]
  constructor
  ·rintro (h1 | ⟨c,hc,h1⟩)
   ·split at h1
    ·exact .inr ⟨b,List.mem_cons_self ..,h1⟩
    ·exact .inl h1
   ·exact .inr ⟨c,List.mem_cons_of_mem _ hc,h1⟩
  ·rintro (h1 | ⟨c,hc,h1⟩)
   ·left
    split
    ·omega
    ·exact h1
   ·rcases List.mem_cons.1 hc with rfl | hc
    ·left
     split
     ·exact h1
     ·omega
    ·exact .inr ⟨c,hc,h1⟩
end
variable {l:List GUnit} {below:Int}
theorem pmB_succ {k a:Nat} {t:List Nat}:pmB l below (k + 1) (a::t)=t.any fun b=>near l below (a:Int) (b:Int) && pmB l below k (t.filter fun x=>!Nat.beq x b):=rfl
theorem best_lt:∀ (k:Nat) (t:List Nat) (p:List GPair),t.length=2 * k→t.Nodup→((bestP l k (t.map fun (x:Nat)=>(x:Int)) p).2 < below↔worstP l p < below∧pmB l below k t=true)
 | 0,t,p,ht,_=>by
  have h0:t=[]:=List.length_eq_zero_iff.1 (by omega)
  subst h0
  show worstP l p < below↔_
  have:pmB l below 0 []=true:=rfl
  rw [this]; simp
 | k + 1,[],p,ht,_=>by simp at ht
 | k + 1,a::t,p,ht,hn=>by
  obtain ⟨ha,hnt⟩:=List.nodup_cons.1 hn
  have hlen:∀ b∈t,(t.filter fun x=>!Nat.beq x b).length=2 * k:=by
   intro b hb
   have e:(t.filter fun x=>!Nat.beq x b)=t.erase b:=by
    rw [hnt.erase_eq_filter]
    apply List.filter_congr
    intro x _
    cases hx:Nat.beq x b with
    | true=>rw [Nat.eq_of_beq_eq_true hx]; simp
    | false=>
     have:x ≠ b:=fun e=>by rw [e,Nat.beq_refl] at hx; cases hx
     simp [this]
   rw [e,List.length_erase_of_mem hb]
   simp only [List.length_cons] at ht
   omega
  have hfil:∀ b:Nat,((t.map fun (x:Nat)=>(x:Int)).filter fun x=>x != (b:Int))=(t.filter fun x=>!Nat.beq x b).map fun (x:Nat)=>(x:Int):=by
   intro b
   rw [List.filter_map]
   congr 1
   apply List.filter_congr
   intro x _
   show ((x:Int) != (b:Int))=_
   cases hx:Nat.beq x b with
   | true=>rw [Nat.eq_of_beq_eq_true hx]; simp
   | false=>
    have:x ≠ b:=fun e=>by rw [e,Nat.beq_refl] at hx; cases hx
    have:(x:Int) ≠ (b:Int):=fun e=>this (by omega)
    simp [this]
  have ih:∀ b∈t,((bestP l k ((t.map fun (x:Nat)=>(x:Int)).filter fun x=>x != (b:Int)) (p++[⟨(a:Int),(b:Int)⟩])).2 < below↔worstP l p < below∧(near l below (a:Int) (b:Int) && pmB l below k (t.filter fun x=>!Nat.beq x b))=true):=by
   intro b hb
   rw [hfil,best_lt k _ _ (hlen b hb) (hnt.sublist (List.filter_sublist ..)),worstP_snoc,Bool.and_eq_true]
   have:near l below (a:Int) (b:Int)=true↔dAt l (a:Int) (b:Int) < below:=decide_eq_true_iff
   rw [this]
   dsimp only
   constructor
   ·rintro ⟨h1,h2⟩; exact ⟨by omega,by omega,h2⟩
   ·rintro ⟨h1,h2,h3⟩; exact ⟨by omega,h3⟩
  cases t with
  | nil=>simp at ht; omega
  | cons b t=>
   have hb:bestP l (k + 1) ((a::b::t).map fun (x:Nat)=>(x:Int)) p=((t.map fun (x:Nat)=>(x:Int)).foldl (fun st c=>updG st (bestP l k (((b::t).map fun (x:Nat)=>(x:Int)).filter fun x=>x != c) (p++[⟨(a:Int),c⟩]))) (some (bestP l k (((b::t).map fun (x:Nat)=>(x:Int)).filter fun x=>x != (b:Int)) (p++[⟨(a:Int),(b:Int)⟩])))).getD (p,0):=rfl
   obtain ⟨s,hs⟩:=foldG_some (fun c:Int=>bestP l k (((b::t).map fun (x:Nat)=>(x:Int)).filter fun x=>x != c) (p++[⟨(a:Int),c⟩])) (t.map fun (x:Nat)=>(x:Int)) (bestP l k (((b::t).map fun (x:Nat)=>(x:Int)).filter fun x=>x != (b:Int)) (p++[⟨(a:Int),(b:Int)⟩]))
   rw [hb,hs]
   show s.2 < below↔_
   rw [foldG_lt _ below _ _ s hs,ih b (List.mem_cons_self ..)]
   rw [pmB_succ,List.any_cons,Bool.or_eq_true,List.any_eq_true]
   constructor
   ·rintro (⟨h1,h2⟩ | ⟨c,hc,h⟩)
    ·exact ⟨h1,.inl h2⟩
    ·obtain ⟨c',hc',rfl⟩:=List.mem_map.1 hc
     have:=(ih c' (List.mem_cons_of_mem _ hc')).1 h
     exact ⟨this.1,.inr ⟨c',hc',this.2⟩⟩
   ·rintro ⟨h1,h2 | ⟨c,hc,h⟩⟩
    ·exact .inl ⟨h1,h2⟩
    ·exact .inr ⟨(c:Int),List.mem_map.2 ⟨c,hc,rfl⟩,(ih c (List.mem_cons_of_mem _ hc)).2 ⟨h1,h⟩⟩
theorem best_below (h2:l.length % 2=0) (hb:0 < below):(bestP l (l.length / 2) (allI l.length) []).2 < below↔pmB l below (l.length / 2) (List.range l.length)=true:=by
 have ha:allI l.length=(List.range l.length).map fun (x:Nat)=>(x:Int):=by
  unfold allI; rw [lf_all,List.range_eq_range']
 rw [ha,best_lt _ _ _ (by rw [List.length_range]; omega) List.nodup_range]
 have:worstP l []=0:=rfl
 rw [this]
 exact ⟨fun h=>h.2,fun h=>⟨hb,h⟩⟩
end Go.Z
/-
 LineTutte: labels: after as many rounds as there are numbers each has the least number of its part.
-/
namespace Go.Z
open Go Go.Abs
inductive Reach (L:Int→Prop) (adj:Int→Int→Bool):Int→Int→Prop
 | refl (x:Int):Reach L adj x x
 | step {x y z:Int}:Reach L adj x y→L z→adj y z=true→Reach L adj x z
section
variable {L:Int→Prop} {adj:Int→Int→Bool}
theorem Reach.trans {x y z:Int} (h:Reach L adj x y) (h':Reach L adj y z):Reach L adj x z:=by
 induction h' with
 | refl=>exact h
 | step _ hz ha ih=>exact .step ih hz ha
theorem Reach.symm (hs:∀ x y,adj x y=adj y x) {x y:Int} (hx:L x) (h:Reach L adj x y):L y∧Reach L adj y x:=by
 induction h with
 | refl=>exact ⟨hx,.refl _⟩
 | step _ hz ha ih=>
  refine ⟨hz,?_⟩
  exact Reach.trans (.step (.refl _) ih.1 (by rw [hs]; exact ha)) ih.2
structure LabOk (L:Int→Prop) (adj:Int→Int→Bool) (p:Int→Int):Prop where
 ok:∀ x,L x→L (p x)∧Reach L adj x (p x)∧p x≤x
structure Round (L:Int→Prop) (adj:Int→Int→Bool) (p p':Int→Int):Prop where
 down:∀ x,L x→p' x≤p x
 next:∀ x y,L x→L y→adj x y=true→p' y≤p x
def sameL (n:Nat) (p:Int→Int) (set:List Int) (m:Int):List Int:=((List.range n).map fun (x:Nat)=>(x:Int)).filter fun x=>decide (p x=m) && !memI set x
theorem sameL_mem {n:Nat} {p:Int→Int} {set:List Int} {m x:Int}:x∈sameL n p set m↔Free n set x∧p x=m:=by
 unfold sameL Free
 rw [List.mem_filter,List.mem_map,Bool.and_eq_true,Bool.not_eq_eq_eq_not,Bool.not_true,memI_not,decide_eq_true_iff]
 constructor
 ·rintro ⟨⟨a,ha,rfl⟩,h1,h2⟩
  exact ⟨⟨by omega,by have:=List.mem_range.1 ha; omega,h2⟩,h1⟩
 ·rintro ⟨⟨h1,h2,h3⟩,h4⟩
  exact ⟨⟨x.toNat,List.mem_range.2 (by omega),by omega⟩,h4,h3⟩
theorem sameL_nodup {n:Nat} {p:Int→Int} {set:List Int} {m:Int}:(sameL n p set m).Nodup:=by
 unfold sameL
 refine List.Nodup.sublist (List.filter_sublist ..) ?_
 refine List.Pairwise.map _ (fun a b h=>?_) List.nodup_range
 intro e
 exact h (by omega)
theorem rounds_least {n:Nat} {set:List Int} (hs:∀ x y,adj x y=adj y x) {p:Nat→Int→Int} (hok:∀ r,r≤n→LabOk (Free n set) adj (p r)) (hr:∀ r,r < n→Round (Free n set) adj (p r) (p (r + 1))) {m:Int} (hm:Free n set m) (hmin:∀ y,Reach (Free n set) adj m y→m≤y):
  ∀ r,r≤n→(∀ y,Reach (Free n set) adj m y→p r y=m)∨r + 1≤(sameL n (p r) set m).length:=by
 have hlow:∀ r,r≤n→∀ y,Reach (Free n set) adj m y→m≤p r y:=by
  intro r hrn y hy
  have hy':=hy.symm hs hm
  have:=(hok r hrn).ok y hy'.1
  exact hmin _ (hy.trans this.2.1)
 have hmm:∀ r,r≤n→p r m=m:=by
  intro r hrn
  have h1:=hlow r hrn m (.refl _)
  have h2:=((hok r hrn).ok m hm).2.2
  omega
 intro r
 induction r with
 | zero=>
  intro h0
  right
  have:0 < (sameL n (p 0) set m).length:=List.length_pos_of_mem (sameL_mem.2 ⟨hm,hmm 0 h0⟩)
  omega
 | succ r ih=>
  intro hrn
  have hkeep:∀ y,Reach (Free n set) adj m y→p r y=m→p (r + 1) y=m:=by
   intro y hy he
   have h1:=hlow (r + 1) hrn y hy
   have h2:=(hr r (by omega)).down y (hy.symm hs hm).1
   omega
  rcases ih (by omega) with h | h
  ·exact .inl fun y hy=>hkeep y hy (h y hy)
  ·by_cases hc:∀ y z,Reach (Free n set) adj m y→p r y=m→Free n set z→adj y z=true→p r z=m
   ·left
    have hall:∀ y,Reach (Free n set) adj m y→p r y=m:=by
     intro y hy
     induction hy with
     | refl=>exact hmm r (by omega)
     | step h1 hz ha ih2=>exact hc _ _ h1 ih2 hz ha
    exact fun y hy=>hkeep y hy (hall y hy)
   ·right
    obtain ⟨y,hc⟩:=Classical.not_forall.1 hc
    obtain ⟨z,hc⟩:=Classical.not_forall.1 hc
    obtain ⟨hy,hc⟩:=Classical.not_imp.1 hc
    obtain ⟨hpy,hc⟩:=Classical.not_imp.1 hc
    obtain ⟨hz,hc⟩:=Classical.not_imp.1 hc
    obtain ⟨ha,hpz⟩:=Classical.not_imp.1 hc
    have hyL:=(hy.symm hs hm).1
    have hzR:Reach (Free n set) adj m z:=.step hy hz ha
    have hz1:p (r + 1) z=m:=by
     have h1:=(hr r (by omega)).next y z hyL hz ha
     have h2:=hlow (r + 1) hrn z hzR
     omega
    have:=nodup_sub_len (l:=z::sameL n (p r) set m) (m:=sameL n (p (r + 1)) set m) (List.nodup_cons.2 ⟨fun hh=>hpz (sameL_mem.1 hh).2,sameL_nodup⟩) (fun x hx=>by
     rcases List.mem_cons.1 hx with rfl | hx
     ·exact sameL_mem.2 ⟨hz,hz1⟩
     ·obtain ⟨hxf,hxm⟩:=sameL_mem.1 hx
      refine sameL_mem.2 ⟨hxf,hkeep x ?_ hxm⟩
      have:=(hok r (by omega)).ok x hxf
      rw [hxm] at this
      exact (this.2.1.symm hs hxf).2)
    simp only [List.length_cons] at this
    omega
theorem least_of {n:Nat} {set:List Int}:∀ (k:Nat) (x:Int),Free n set x→x≤(k:Int)→∃ m,Reach (Free n set) adj x m∧Free n set m∧∀ y,Reach (Free n set) adj m y→m≤y
 | 0,x,hx,hk=>by
  refine ⟨x,.refl _,hx,fun y hy=>?_⟩
  have:Free n set y:=by
   cases hy with
   | refl=>exact hx
   | step _ hz _=>exact hz
  have:=this.1
  omega
 | k + 1,x,hx,hk=>by
  by_cases h:∀ y,Reach (Free n set) adj x y→x≤y
  ·exact ⟨x,.refl _,hx,h⟩
  ·obtain ⟨y,h⟩:=Classical.not_forall.1 h
   obtain ⟨hy,hlt⟩:=Classical.not_imp.1 h
   have hyf:Free n set y:=by
    cases hy with
    | refl=>exact hx
    | step _ hz _=>exact hz
   obtain ⟨m,h1,h2,h3⟩:=least_of k y hyf (by omega)
   exact ⟨m,hy.trans h1,h2,h3⟩
theorem labels_end {n:Nat} {set:List Int} (hs:∀ x y,adj x y=adj y x) {p:Nat→Int→Int} (hok:∀ r,r≤n→LabOk (Free n set) adj (p r)) (hr:∀ r,r < n→Round (Free n set) adj (p r) (p (r + 1))) {x:Int} (hx:Free n set x):
  p n (p n x)=p n x∧∀ y,Reach (Free n set) adj x y→p n y=p n x:=by
 obtain ⟨m,h1,h2,h3⟩:=least_of (n:=n) (set:=set) (adj:=adj) x.toNat x hx (by have:=hx.1; omega)
 have hall:∀ y,Reach (Free n set) adj m y→p n y=m:=by
  rcases rounds_least hs hok hr h2 h3 n (Nat.le_refl _) with h | h
  ·exact h
  ·exfalso
   have:=free_len (n:=n) (s:=set) (p:=sameL n (p n) set m) sameL_nodup fun x hx=>(sameL_mem.1 hx).1
   omega
 have hmx:=(h1.symm hs hx).2
 have hpx:=hall x hmx
 refine ⟨by rw [hpx]; exact hall m (.refl _),fun y hy=>?_⟩
 rw [hpx]
 exact hall y (hmx.trans hy)
end
end Go.Z
/-
 LineTutte: the law's labels: the rounds.
-/
namespace Go.Z
open Go Go.Abs
def labV (P:List Int) (x:Int):Int:=P.getD x.toNat 0
theorem labV_set {P:List Int} {b:Nat} {v x:Int} (hb:b < P.length) (hx:0≤x):labV (P.set b v) x=if x=(b:Int) then v else labV P x:=by
 unfold labV
 rw [List.getD_eq_getElem?_getD,List.getElem?_set,List.getD_eq_getElem?_getD]
 by_cases h:x=(b:Int)
 ·subst h
  rw [Int.toNat_natCast,if_pos rfl,if_pos rfl]
  first | rfl | (rw [if_pos hb]; rfl)
 ·rw [if_neg h,if_neg (by omega)]
theorem idxM_lab {P:List Int} (hP:P.length=8) {x:Int} (h0:0≤x) (h8:x < 8):idxM 8 P x=some (labV P x):=by
 unfold idxM labV
 rw [if_pos ⟨h0,h8⟩,List.getD_eq_getElem?_getD,List.getElem?_eq_getElem (by omega)]
 rfl
structure Mid (n:Nat) (set:List Int) (adj:Int→Int→Bool) (p0:Int→Int) (done:Int→Int→Prop) (P:List Int):Prop where
 len:P.length=8
 ok:LabOk (Free n set) adj (labV P)
 down:∀ x,Free n set x→labV P x≤p0 x
 next:∀ x y,Free n set x→Free n set y→adj x y=true→done x y→labV P y≤p0 x
section
variable {l:List GUnit} {o:Option (List GUnit)} {below:Int} {a2:Option (List Int)} {set:List Int} {p0:Int→Int}
theorem mid_step (hl:l.length≤8) {done:Int→Int→Prop} {P:List Int} {a b:Nat} (h:Mid l.length set (near l below) p0 done P) (hfa:Free l.length set (a:Int)) (hfb:Free l.length set (b:Int)) (hn:near l below (a:Int) (b:Int)=true):
  Mid l.length set (near l below) p0 (fun x y=>done x y∨(x=(a:Int)∧y=(b:Int))) (P.set b (min (labV P (b:Int)) (labV P (a:Int)))):=by
 have hb:b < P.length:=by have:=hfb.2.1; rw [h.len]; omega
 have hv:∀ x,0≤x→labV (P.set b (min (labV P (b:Int)) (labV P (a:Int)))) x=if x=(b:Int) then min (labV P (b:Int)) (labV P (a:Int)) else labV P x:=fun x hx=>labV_set hb hx
 have oa:=h.ok.ok _ hfa
 have ob:=h.ok.ok _ hfb
 refine ⟨by rw [List.length_set]; exact h.len,⟨fun x hx=>?_⟩,fun x hx=>?_,fun x y hx hy hxy hd=>?_⟩
 ·rw [hv x hx.1]
  by_cases e:x=(b:Int)
  ·subst e
   rw [if_pos rfl]
   rcases Int.le_total (labV P (b:Int)) (labV P (a:Int)) with hm | hm
   ·rw [Int.min_eq_left hm]; exact ob
   ·rw [Int.min_eq_right hm]
    refine ⟨oa.1,?_,by omega⟩
    exact Reach.trans (.step (.refl _) hfa (by rw [near_symm]; exact hn)) oa.2.1
  ·rw [if_neg e]; exact h.ok.ok x hx
 ·rw [hv x hx.1]
  have:=h.down x hx
  by_cases e:x=(b:Int)
  ·subst e; rw [if_pos rfl]; omega
  ·rw [if_neg e]; exact this
 ·rw [hv y hy.1]
  rcases hd with hd | ⟨rfl,rfl⟩
  ·have:=h.next x y hx hy hxy hd
   by_cases e:y=(b:Int)
   ·subst e; rw [if_pos rfl]; omega
   ·rw [if_neg e]; exact this
  ·rw [if_pos rfl]
   have:=h.down _ hx
   omega
theorem Mid.weak {n:Nat} {adj:Int→Int→Bool} {done done':Int→Int→Prop} {P:List Int} (h:Mid n set adj p0 done P) (hd:∀ x y,Free n set x→Free n set y→adj x y=true→done' x y→done x y):Mid n set adj p0 done' P:=
 ⟨h.len,h.ok,h.down,fun x y hx hy ha hh=>h.next x y hx hy ha (hd x y hx hy ha hh)⟩
theorem row84 (hu:UnitsOk l) (ho:o.getD []=l) (hl:l.length≤8) (h2:a2.getD []=set) (hs:set.length≤64) (s1:Int × List Int) {a:Nat} (ha:a < l.length) (Q:List Int) {done:Int→Int→Prop}:∀ (k i:Nat) (P:List Int),i + k=l.length→Mid l.length set (near l below) p0 (fun x y=>done x y∨(x=(a:Int)∧y < (i:Int))) P →
  ∃ P',itO (s84_3 o below a2 s1 ((a:Int),Q)) ((i:Int),P)=some ((l.length:Int),P')∧Mid l.length set (near l below) p0 (fun x y=>done x y∨x=(a:Int)) P'
 | 0,i,P,hi,hP=>by
  have:¬ (i:Int) < (l.length:Int):=by omega
  refine ⟨P,itO_out (by unfold s84_3; simp only [ho,this,decide_false,cond_false]; rw [show i=l.length by omega]),hP.weak fun x y hx hy _ hd=>?_⟩
  rcases hd with hd | hd
  ·exact .inl hd
  ·exact .inr ⟨hd,by have:=hy.2.1; omega⟩
 | k + 1,i,P,hi,hP=>by
  have hlt:(i:Int) < (l.length:Int):=by omega
  have hw:wrapF .i64 ((i:Int) + 1)=((i + 1:Nat):Int):=wrap_nat (by omega)
  have hmem:∀ x,f124 a2 x=some (memI set x):=fun x=>f124_eq h2 (by omega)
  have skip:(Free l.length set (a:Int)→Free l.length set (i:Int)→near l below (a:Int) (i:Int)=true→False)→Mid l.length set (near l below) p0 (fun x y=>done x y∨(x=(a:Int)∧y < ((i + 1:Nat):Int))) P:=fun hno=>hP.weak fun x y hx hy hxy hd=>by
   rcases hd with hd | ⟨rfl,hd⟩
   ·exact .inl hd
   ·refine .inr ⟨rfl,?_⟩
    by_cases e:y=(i:Int)
    ·subst e; exact (hno hx hy hxy).elim
    ·omega
  cases hma:memI set (a:Int) with
  | true=>
   have:s84_3 o below a2 s1 ((a:Int),Q) ((i:Int),P)=some (.inl (((i + 1:Nat):Int),P)):=by
    unfold s84_3
    simp only [ho,hlt,decide_true,cond_true,hmem,hma,obind_at,hw]
   rw [itO_in this]
   exact row84 hu ho hl h2 hs s1 ha Q k (i + 1) P (by omega) (skip fun hf _ _=>hf.2.2 (memI_iff.1 hma))
  | false=>
   cases hmi:memI set (i:Int) with
   | true=>
    have:s84_3 o below a2 s1 ((a:Int),Q) ((i:Int),P)=some (.inl (((i + 1:Nat):Int),P)):=by
     unfold s84_3
     simp only [ho,hlt,decide_true,cond_true,hmem,hma,hmi,cond_false,obind_at,hw]
    rw [itO_in this]
    exact row84 hu ho hl h2 hs s1 ha Q k (i + 1) P (by omega) (skip fun _ hf _=>hf.2.2 (memI_iff.1 hmi))
   | false=>
    obtain ⟨u,w,e1,e2,e3⟩:=d_at hu (i:=(a:Int)) (j:=(i:Int)) (by omega) (by omega) (by omega) (by omega)
    have e3:f58 u w=some (dAt l (a:Int) (i:Int)):=e3
    by_cases hn:dAt l (a:Int) (i:Int) < below
    ·have hfa:Free l.length set (a:Int):=⟨by omega,by omega,memI_not.1 hma⟩
     have hfi:Free l.length set (i:Int):=⟨by omega,by omega,memI_not.1 hmi⟩
     have hst:=mid_step hl hP hfa hfi (decide_eq_true hn)
     have:s84_3 o below a2 s1 ((a:Int),Q) ((i:Int),P)=some (.inl (((i + 1:Nat):Int),P.set i (min (labV P (i:Int)) (labV P (a:Int))))):=by
      unfold s84_3
      simp only [ho,hlt,decide_true,cond_true,hmem,hma,hmi,cond_false,obind_at,hw,e1,e2,e3,hn,idxM_lab hP.len (x:=(i:Int)) (by omega) (by omega),idxM_lab hP.len (x:=(a:Int)) (by omega) (by omega),Int.toNat_natCast]
     rw [itO_in this]
     refine row84 hu ho hl h2 hs s1 ha Q k (i + 1) _ (by omega) (hst.weak fun x y hx hy _ hd=>?_)
     rcases hd with hd | ⟨rfl,hd⟩
     ·exact .inl (.inl hd)
     ·by_cases e:y=(i:Int)
      ·exact .inr ⟨rfl,e⟩
      ·exact .inl (.inr ⟨rfl,by omega⟩)
    ·have:s84_3 o below a2 s1 ((a:Int),Q) ((i:Int),P)=some (.inl (((i + 1:Nat):Int),P)):=by
      unfold s84_3
      simp only [ho,hlt,decide_true,cond_true,hmem,hma,hmi,cond_false,obind_at,hw,e1,e2,e3,hn,decide_false]
     rw [itO_in this]
     exact row84 hu ho hl h2 hs s1 ha Q k (i + 1) P (by omega) (skip fun _ _ h=>hn (of_decide_eq_true h))
theorem round84 (hu:UnitsOk l) (ho:o.getD []=l) (hl:l.length≤8) (h2:a2.getD []=set) (hs:set.length≤64) (s1:Int × List Int):∀ (k i:Nat) (P:List Int),i + k=l.length→Mid l.length set (near l below) p0 (fun x _=>x < (i:Int)) P →
  ∃ P',itO (s84_2 o below a2 s1) ((i:Int),P)=some ((l.length:Int),P')∧Mid l.length set (near l below) p0 (fun _ _=>True) P'
 | 0,i,P,hi,hP=>by
  have:¬ (i:Int) < (l.length:Int):=by omega
  refine ⟨P,itO_out (by unfold s84_2; simp only [ho,this,decide_false,cond_false]; rw [show i=l.length by omega]),hP.weak fun x y hx hy _ _=>by have:=hx.2.1; omega⟩
 | k + 1,i,P,hi,hP=>by
  have hlt:(i:Int) < (l.length:Int):=by omega
  have hw:wrapF .i64 ((i:Int) + 1)=((i + 1:Nat):Int):=wrap_nat (by omega)
  obtain ⟨P',e,hP'⟩:=row84 hu ho hl h2 hs s1 (a:=i) (by omega) P (p0:=p0) (below:=below) (done:=fun x _=>x < (i:Int)) l.length 0 P (by omega) (hP.weak fun x y hx hy _ hd=>by
   rcases hd with hd | ⟨_,hd⟩
   ·exact hd
   ·have:=hy.1; omega)
  rw [Int.natCast_zero] at e
  have:s84_2 o below a2 s1 ((i:Int),P)=some (.inl (((i + 1:Nat):Int),P')):=by
   unfold s84_2
   simp only [ho,hlt,decide_true,cond_true,e,obind_at,hw]
  rw [itO_in this]
  exact round84 hu ho hl h2 hs s1 k (i + 1) P' (by omega) (hP'.weak fun x y hx hy _ hd=>by
   by_cases h:x=(i:Int)
   ·exact .inr h
   ·exact .inl (by omega))
end
end Go.Z
/-
 LineTutte: the law's labels: all rounds.
-/
namespace Go.Z
open Go Go.Abs
structure LabFin (n:Nat) (set:List Int) (adj:Int→Int→Bool) (p:Int→Int):Prop where
 ok:LabOk (Free n set) adj p
 idem:∀ x,Free n set x→p (p x)=p x
 same:∀ x y,Free n set x→Reach (Free n set) adj x y→p y=p x
section
variable {l:List GUnit} {o:Option (List GUnit)} {below:Int} {a2:Option (List Int)} {set:List Int}
theorem rounds84 (hu:UnitsOk l) (ho:o.getD []=l) (hl:l.length≤8) (h2:a2.getD []=set) (hs:set.length≤64):∀ (k r:Nat) (P:List Int) (p:Nat→Int→Int),r + k=l.length→P.length=8→(∀ t,t≤r→LabOk (Free l.length set) (near l below) (p t))→(∀ t,t < r→Round (Free l.length set) (near l below) (p t) (p (t + 1)))→p r=labV P →
  ∃ (P':List Int) (p':Nat→Int→Int),itO (s84_1 o below a2) ((r:Int),P)=some ((l.length:Int),P')∧P'.length=8∧(∀ t,t≤l.length→LabOk (Free l.length set) (near l below) (p' t))∧(∀ t,t < l.length→Round (Free l.length set) (near l below) (p' t) (p' (t + 1)))∧p' l.length=labV P'
 | 0,r,P,p,hr,hP,h3,h4,h5=>by
  have:¬ (r:Int) < (l.length:Int):=by omega
  have hrl:r=l.length:=by omega
  subst hrl
  exact ⟨P,p,itO_out (by unfold s84_1; simp only [ho,this,decide_false,cond_false]),hP,h3,h4,h5⟩
 | k + 1,r,P,p,hr,hP,h3,h4,h5=>by
  have hlt:(r:Int) < (l.length:Int):=by omega
  have hw:wrapF .i64 ((r:Int) + 1)=((r + 1:Nat):Int):=wrap_nat (by omega)
  obtain ⟨P',e,hP'⟩:=round84 (p0:=labV P) hu ho hl h2 hs ((r:Int),P) l.length 0 P (by omega) ⟨hP,by rw [← h5]; exact h3 r (Nat.le_refl _),fun x _=>Int.le_refl _,fun x y hx _ _ hd=>by have:=hx.1; omega⟩
  rw [Int.natCast_zero] at e
  have:s84_1 o below a2 ((r:Int),P)=some (.inl (((r + 1:Nat):Int),P')):=by
   unfold s84_1
   simp only [ho,hlt,decide_true,cond_true,e,obind_at,hw]
  rw [itO_in this]
  refine rounds84 hu ho hl h2 hs k (r + 1) P' (fun t=>if t≤r then p t else labV P') (by omega) hP'.len (fun t ht=>?_) (fun t ht=>?_) ?_
  ·by_cases h:t≤r
   ·simp only [if_pos h]; exact h3 t h
   ·simp only [if_neg h]; exact hP'.ok
  ·have h1:t≤r:=by omega
   simp only [if_pos h1]
   by_cases h:t + 1≤r
   ·simp only [if_pos h]; exact h4 t (by omega)
   ·simp only [if_neg h]
    have:t=r:=by omega
    subst this
    rw [h5]
    exact ⟨hP'.down,fun x y hx hy hxy=>hP'.next x y hx hy hxy trivial⟩
  ·have:¬ r + 1≤r:=by omega
   simp only [if_neg this]
theorem start84 (ho:o.getD []=l) (hl:l.length≤8):∀ (k i:Nat) (P:List Int),i + k=l.length→P.length=8→(∀ x:Nat,x < i→labV P (x:Int)=(x:Int))→∃ P',itO (s84_0 o below a2) ((i:Int),P)=some ((l.length:Int),P')∧P'.length=8∧∀ x:Nat,x < l.length→labV P' (x:Int)=(x:Int)
 | 0,i,P,hi,hP,h=>by
  have:¬ (i:Int) < (l.length:Int):=by omega
  have hil:i=l.length:=by omega
  subst hil
  exact ⟨P,itO_out (by unfold s84_0; simp only [ho,this,decide_false,cond_false]),hP,h⟩
 | k + 1,i,P,hi,hP,h=>by
  have hlt:(i:Int) < (l.length:Int):=by omega
  have hw:wrapF .i64 ((i:Int) + 1)=((i + 1:Nat):Int):=wrap_nat (by omega)
  have:s84_0 o below a2 ((i:Int),P)=some (.inl (((i + 1:Nat):Int),P.set i (i:Int))):=by
   unfold s84_0
   simp only [ho,hlt,decide_true,cond_true,obind_at,hw,idxM_lab hP (x:=(i:Int)) (by omega) (by omega),Int.toNat_natCast]
  rw [itO_in this]
  refine start84 ho hl k (i + 1) _ (by omega) (by rw [List.length_set]; exact hP) fun x hx=>?_
  rw [labV_set (by omega) (by omega)]
  by_cases e:(x:Int)=(i:Int)
  ·rw [if_pos e,e]
  ·rw [if_neg e]; exact h x (by omega)
theorem labels84 (hu:UnitsOk l) (ho:o.getD []=l) (hl:l.length≤8) (h2:a2.getD []=set) (hs:set.length≤64):∃ P Q:List Int,itO (s84_0 o below a2) (0,[0,0,0,0,0,0,0,0])=some ((l.length:Int),P)∧itO (s84_1 o below a2) (0,P)=some ((l.length:Int),Q)∧Q.length=8∧LabFin l.length set (near l below) (labV Q):=by
 obtain ⟨P,e1,p1,p2⟩:=start84 (o:=o) (below:=below) (a2:=a2) ho hl l.length 0 [0,0,0,0,0,0,0,0] (by omega) rfl (fun x hx=>by omega)
 rw [Int.natCast_zero] at e1
 have hval:∀ x,Free l.length set x→labV P x=x:=fun x hx=>by
  have:=p2 x.toNat (by have:=hx.1; have:=hx.2.1; omega)
  rw [show ((x.toNat:Nat):Int)=x by have:=hx.1; omega] at this
  exact this
 obtain ⟨Q,p,e2,q1,q2,q3,q4⟩:=rounds84 (below:=below) hu ho hl h2 hs l.length 0 P (fun _=>labV P) (by omega) p1 (fun t _=>⟨fun x hx=>by rw [hval x hx]; exact ⟨hx,.refl _,Int.le_refl _⟩⟩) (fun t ht=>by omega) rfl
 rw [Int.natCast_zero] at e2
 refine ⟨P,Q,e1,e2,q1,?_⟩
 have hend:=fun x hx=>labels_end (fun x y=>near_symm l below x y) q2 q3 (x:=x) hx
 rw [q4] at hend
 have hok:=q2 l.length (Nat.le_refl _)
 rw [q4] at hok
 exact ⟨hok,fun x hx=>(hend x hx).1,fun x y hx hy=>(hend x hx).2 y hy⟩
end
end Go.Z
/-
 LineTutte: the law's count of odd parts is the product's.
-/
namespace Go.Z
open Go Go.Abs
def parS (f:Nat→Nat):Nat→Nat
 | 0=>0
 | k + 1=>parS f k + f k % 2
theorem parS_le (f:Nat→Nat):∀ k,parS f k≤k
 | 0=>Nat.le_refl _
 | k + 1=>by have:=parS_le f k; unfold parS; omega
theorem parS_tail (f:Nat→Nat) {n:Nat} (h:∀ t,n≤t→f t=0):∀ k,parS f (n + k)=parS f n
 | 0=>rfl
 | k + 1=>by
  show parS f (n + k) + f (n + k) % 2=_
  rw [parS_tail f h k,h (n + k) (by omega)]
  rfl
theorem sameL_succ {n:Nat} {p:Int→Int} {set:List Int} {m:Int}:(sameL (n + 1) p set m).length=(sameL n p set m).length + (if p (n:Int)=m∧(n:Int) ∉ set then 1 else 0):=by
 unfold sameL
 rw [List.range_succ,List.map_append,List.filter_append,List.length_append]
 congr 1
 show (List.filter _ [(n:Int)]).length=_
 rw [List.filter_cons]
 by_cases h1:p (n:Int)=m
 ·by_cases h2:(n:Int)∈set
  ·rw [memI_iff.2 h2]; simp [h1,h2]
  ·rw [memI_not.2 h2]; simp [h1,h2]
 ·simp [h1]
section
variable {l:List GUnit} {o o':Option (List GUnit)} {below:Int} {a2:Option (List Int)} {set:List Int} {Q:List Int}
theorem count84 (ho:o.getD []=l) (hl:l.length≤8) (h2:a2.getD []=set) (hs:set.length≤64) (hQ:Q.length=8) (hf:LabFin l.length set (near l below) (labV Q)) (d:Int):∀ (k i:Nat) (C:List Int),i + k=l.length→C.length=8→(∀ t:Nat,t < 8→labV C (t:Int)=((sameL i (labV Q) set (t:Int)).length:Int)) →
  ∃ C',itO (s84_4 o a2 (d,Q)) ((i:Int),C)=some ((l.length:Int),C')∧C'.length=8∧∀ t:Nat,t < 8→labV C' (t:Int)=((sameL l.length (labV Q) set (t:Int)).length:Int)
 | 0,i,C,hi,hC,h=>by
  have:¬ (i:Int) < (l.length:Int):=by omega
  have hil:i=l.length:=by omega
  subst hil
  exact ⟨C,itO_out (by unfold s84_4; simp only [ho,this,decide_false,cond_false]),hC,h⟩
 | k + 1,i,C,hi,hC,h=>by
  have hlt:(i:Int) < (l.length:Int):=by omega
  have hw:wrapF .i64 ((i:Int) + 1)=((i + 1:Nat):Int):=wrap_nat (by omega)
  have hmem:∀ x,f124 a2 x=some (memI set x):=fun x=>f124_eq h2 (by omega)
  cases hm:memI set (i:Int) with
  | true=>
   have:s84_4 o a2 (d,Q) ((i:Int),C)=some (.inl (((i + 1:Nat):Int),C)):=by
    unfold s84_4
    simp only [ho,hlt,decide_true,cond_true,hmem,hm,obind_at,hw]
   rw [itO_in this]
   refine count84 ho hl h2 hs hQ hf d k (i + 1) C (by omega) hC fun t ht=>?_
   rw [sameL_succ,if_neg (fun hh=>hh.2 (memI_iff.1 hm)),h t ht]
   rfl
  | false=>
   have hfi:Free l.length set (i:Int):=⟨by omega,by omega,memI_not.1 hm⟩
   obtain ⟨g1,g2,g3⟩:=hf.ok.ok _ hfi
   have b0:=g1.1
   have b1:=g1.2.1
   have hle:labV C (labV Q (i:Int))=((sameL i (labV Q) set (labV Q (i:Int))).length:Int):=by
    have:=h (labV Q (i:Int)).toNat (by omega)
    rw [show (((labV Q (i:Int)).toNat:Nat):Int)=labV Q (i:Int) by omega] at this
    exact this
   have hbnd:(sameL i (labV Q) set (labV Q (i:Int))).length≤i:=free_len (s:=set) sameL_nodup fun x hx=>(sameL_mem.1 hx).1
   have hw2:wrapF .i64 (labV C (labV Q (i:Int)) + 1)=labV C (labV Q (i:Int)) + 1:=wrapF_i64 (by omega) (by omega)
   have:s84_4 o a2 (d,Q) ((i:Int),C)=some (.inl (((i + 1:Nat):Int),C.set (labV Q (i:Int)).toNat (labV C (labV Q (i:Int)) + 1))):=by
    unfold s84_4
    simp only [ho,hlt,decide_true,cond_true,hmem,hm,cond_false,obind_at,hw,idxM_lab hQ (x:=(i:Int)) (by omega) (by omega),idxM_lab hC (x:=labV Q (i:Int)) (by omega) (by omega),hw2]
   rw [itO_in this]
   refine count84 ho hl h2 hs hQ hf d k (i + 1) _ (by omega) (by rw [List.length_set]; exact hC) fun t ht=>?_
   rw [labV_set (by omega) (by omega),sameL_succ]
   by_cases e:labV Q (i:Int)=(t:Int)
   ·rw [if_pos (by omega),if_pos ⟨e,memI_not.1 hm⟩,hle,e]
    omega
   ·rw [if_neg (by omega),if_neg (fun hh=>e hh.1),h t ht]
    rfl
theorem sum84 {C:List Int} (hC:C.length=8) (f:Nat→Nat) (hf:∀ t:Nat,t < 8→labV C (t:Int)=(f t:Int)) (dd:Int × List Int) (d:Int):∀ (k i:Nat),i + k=8→itO (s84_5 dd (d,C)) ((parS f i:Int),(i:Int))=some ((parS f 8:Int),(8:Int))
 | 0,i,hi=>by
  have hi8:i=8:=by omega
  subst hi8
  exact itO_out (by unfold s84_5; rfl)
 | k + 1,i,hi=>by
  have hlt:(i:Int) < 8:=by omega
  have hw:wrapF .i64 ((i:Int) + 1)=((i + 1:Nat):Int):=wrap_nat (by omega)
  have hrem:∀ x:Nat,remO (x:Int) 2=some ((x % 2:Nat):Int):=fun x=>by unfold remO; rw [if_neg (by decide)]; rfl
  have hp:=parS_le f i
  have hw2:wrapF .i64 ((parS f i:Int) + ((f i % 2:Nat):Int))=((parS f (i + 1):Nat):Int):=by
   have hs':parS f (i + 1)=parS f i + f i % 2:=rfl
   rw [wrapF_i64 (by omega) (by omega),hs']
   omega
  have:s84_5 dd (d,C) ((parS f i:Int),(i:Int))=some (.inl ((parS f (i + 1):Int),((i + 1:Nat):Int))):=by
   unfold s84_5
   simp only [hlt,decide_true,cond_true,obind_at,idxM_lab hC (x:=(i:Int)) (by omega) (by omega),hf i (by omega),hrem,hw,hw2]
  rw [itO_in this]
  exact sum84 hC f hf dd d k (i + 1) (by omega)
theorem odd_is (hu:UnitsOk l) (ho:o.getD []=l) (hl:l.length≤8) (h2:a2.getD []=set) (hs:set.length≤64):∃ Q:List Int,LabFin l.length set (near l below) (labV Q)∧f84 o below a2=some ((parS (fun t=>(sameL l.length (labV Q) set (t:Int)).length) l.length:Nat):Int):=by
 obtain ⟨P,Q,e1,e2,q1,q2⟩:=labels84 (below:=below) hu ho hl h2 hs
 obtain ⟨C,e3,c1,c2⟩:=count84 ho hl h2 hs q1 q2 (l.length:Int) l.length 0 [0,0,0,0,0,0,0,0] (by omega) rfl (fun t ht=>by
  have:labV [0,0,0,0,0,0,0,0] (t:Int)=0:=by
   have h8:t=0∨t=1∨t=2∨t=3∨t=4∨t=5∨t=6∨t=7:=by omega
   rcases h8 with rfl | rfl | rfl | rfl | rfl | rfl | rfl | rfl <;> rfl
  rw [this]; rfl)
 rw [Int.natCast_zero] at e3
 have e4:=sum84 c1 (fun t=>(sameL l.length (labV Q) set (t:Int)).length) c2 ((l.length:Int),Q) (l.length:Int) 8 0 (by omega)
 refine ⟨Q,q2,?_⟩
 have htail:parS (fun t=>(sameL l.length (labV Q) set (t:Int)).length) 8=parS (fun t=>(sameL l.length (labV Q) set (t:Int)).length) l.length:=by
  have:=parS_tail (fun t=>(sameL l.length (labV Q) set (t:Int)).length) (n:=l.length) (fun t ht=>by
   show (sameL l.length (labV Q) set (t:Int)).length=0
   rw [List.length_eq_zero_iff,List.eq_nil_iff_forall_not_mem]
   intro x hx
   obtain ⟨h1,h3⟩:=sameL_mem.1 hx
   have:=(q2.ok.ok x h1).1.2.1
   omega) (8 - l.length)
  rw [show l.length + (8 - l.length)=8 by omega] at this
  exact this
 have hl8:lenO 8 C=some C:=by unfold lenO; rw [if_pos c1]
 unfold f84
 simp only [e1,e2,e3,obind_at,hl8]
 have e4':itO (s84_5 ((l.length:Int),Q) ((l.length:Int),C)) (0,0)=some ((parS (fun t=>(sameL l.length (labV Q) set (t:Int)).length) 8:Int),(8:Int)):=e4
 rw [← htail,e4']
 rfl
end
end Go.Z
/-
 LineTutte: the law's count of odd parts is the product's,second half.
-/
namespace Go.Z
open Go Go.Abs
section
variable {l:List GUnit} {o o':Option (List GUnit)} {below:Int} {a2:Option (List Int)} {set:List Int} {p:Int→Int}
theorem loop_lab (hu:UnitsOk l) (ho':o'.getD []=l) (hl:l.length≤64) (hf:LabFin l.length set (near l below) p):
  ∀ (j i:Nat) (m:List Int),i + j=l.length→m.Nodup→(∀ x,x∈m↔Free l.length set x∧(i:Int)≤p x) →
   itO (s119_1 o' below a2) ((parS (fun t=>(sameL l.length p set (t:Int)).length) i:Int),(i:Int),m)=some ((parS (fun t=>(sameL l.length p set (t:Int)).length) l.length:Int),(l.length:Int),[])
 | 0,i,m,hi,hm,hmm=>by
  have hi2:i=l.length:=by omega
  subst hi2
  have hm0:m=[]:=by
   rw [List.eq_nil_iff_forall_not_mem]
   intro x hx
   obtain ⟨h1,h2⟩:=(hmm x).1 hx
   have h3:=(hf.ok.ok x h1).1.2.1
   omega
  subst hm0
  exact itO_out (by unfold s119_1; simp [ho'])
 | j + 1,i,m,hi,hm,hmm=>by
  have hlt:(i:Int) < (l.length:Int):=by omega
  have hw:wrapF .i64 ((i:Int) + 1)=((i + 1:Nat):Int):=wrap_nat (by omega)
  have hs':parS (fun t=>(sameL l.length p set (t:Int)).length) (i + 1)=parS (fun t=>(sameL l.length p set (t:Int)).length) i + (sameL l.length p set (i:Int)).length % 2:=rfl
  have hple:=parS_le (fun t=>(sameL l.length p set (t:Int)).length) i
  by_cases him:(i:Int)∈m
  ·obtain ⟨hif,hip⟩:=(hmm _).1 him
   have hpi:p (i:Int)=(i:Int):=by have:=(hf.ok.ok _ hif).2.2; omega
   have hml:m.length≤l.length:=free_len (s:=set) hm fun x hx=>((hmm x).1 hx).1
   obtain ⟨D,m',q1,q2,q3,q4⟩:=part_eq (below:=below) hu ho' (by omega) 70 m (i:Int) (by omega) hm (fun x hx=>⟨((hmm x).1 hx).1.1,((hmm x).1 hx).1.2.1⟩) him
   have hDm:∀ x,x∈D↔x∈sameL l.length p set (i:Int):=by
    intro x
    rw [sameL_mem]
    constructor
    ·intro hx
     have hxf:=((hmm x).1 (q2.ins x hx)).1
     have hr:=q2.least (fun y=>Reach (Free l.length set) (near l below) (i:Int) y) (.refl _) (fun y hy z hz ha=>.step hy ((hmm z).1 hz).1 ha) x hx
     exact ⟨hxf,by rw [hf.same _ _ hif hr,hpi]⟩
    ·rintro ⟨hxf,hxp⟩
     have hr:=(hf.ok.ok x hxf).2.1
     rw [hxp] at hr
     have hr2:=(hr.symm (fun x y=>near_symm l below x y) hxf).2
     have key:∀ y,Reach (Free l.length set) (near l below) (i:Int) y→y∈D:=by
      intro y hy
      induction hy with
      | refl=>exact q2.has
      | step h1 hz ha ih=>
       refine q2.closed _ ih _ ((hmm _).2 ⟨hz,?_⟩) ha
       rw [hf.same _ _ hif (.step h1 hz ha),hpi]
       exact Int.le_refl _
     exact key x hr2
   have hDl:D.length=(sameL l.length p set (i:Int)).length:=len_same q2.nd sameL_nodup hDm
   have hrem:∀ x:Nat,remO (x:Int) 2=some ((x % 2:Nat):Int):=fun x=>by unfold remO; rw [if_neg (by decide)]; rfl
   have e1:s119_1 o' below a2 ((parS (fun t=>(sameL l.length p set (t:Int)).length) i:Int),(i:Int),m)=some (.inl ((parS (fun t=>(sameL l.length p set (t:Int)).length) (i + 1):Int),((i + 1:Nat):Int),m')):=by
    unfold s119_1
    simp only [ho',hlt,decide_true,cond_true,memI_iff.2 him,q1,obind_at,hrem,hw]
    rw [hs',← hDl]
    by_cases hz:D.length % 2=0
    ·rw [hz]; simp
    ·have h21:D.length % 2=1:=by omega
     rw [h21]
     have hne:¬ ((1:Nat):Int)=0:=by decide
     have hw3:wrapF .i64 ((parS (fun t=>(sameL l.length p set (t:Int)).length) i:Int) + 1)=((parS (fun t=>(sameL l.length p set (t:Int)).length) i + 1:Nat):Int):=by rw [wrapF_i64 (by omega) (by omega)]; omega
     simp only [hne,decide_false,cond_false,hw3]
   rw [itO_in e1]
   refine loop_lab hu ho' hl hf j (i + 1) m' (by omega) q3 fun x=>?_
   rw [q4,hDm,hmm,sameL_mem]
   constructor
   ·rintro ⟨⟨h1,h2⟩,h3⟩
    have:p x ≠ (i:Int):=fun e=>h3 ⟨h1,e⟩
    exact ⟨h1,by omega⟩
   ·rintro ⟨h1,h2⟩
    exact ⟨⟨h1,by omega⟩,fun h3=>by have:=h3.2; omega⟩
  ·have hz:(sameL l.length p set (i:Int)).length=0:=by
    rw [List.length_eq_zero_iff,List.eq_nil_iff_forall_not_mem]
    intro x hx
    obtain ⟨h1,h2⟩:=sameL_mem.1 hx
    have h3:=(hf.ok.ok x h1).1
    have h4:=hf.idem x h1
    rw [h2] at h3 h4
    exact him ((hmm _).2 ⟨h3,by rw [h4]; exact Int.le_refl _⟩)
   have e1:s119_1 o' below a2 ((parS (fun t=>(sameL l.length p set (t:Int)).length) i:Int),(i:Int),m)=some (.inl ((parS (fun t=>(sameL l.length p set (t:Int)).length) (i + 1):Int),((i + 1:Nat):Int),m)):=by
    unfold s119_1
    rw [hs',hz]
    simp only [ho',hlt,decide_true,cond_true,memI_not.2 him,cond_false,hw,Nat.zero_mod,Nat.add_zero]
   rw [itO_in e1]
   refine loop_lab hu ho' hl hf j (i + 1) m (by omega) hm fun x=>?_
   rw [hmm]
   constructor
   ·rintro ⟨h1,h2⟩
    refine ⟨h1,?_⟩
    have:p x ≠ (i:Int):=fun e=>by
     have:x∈sameL l.length p set (i:Int):=sameL_mem.2 ⟨h1,e⟩
     have:=List.length_pos_of_mem this
     omega
    omega
   ·rintro ⟨h1,h2⟩
    exact ⟨h1,by omega⟩
theorem odd_decides (hu:UnitsOk l) (ho:o.getD []=l) (ho':o'.getD []=l) (hl:l.length≤8) (hs:(a2.getD []).length≤64):∃ c:Int,f84 o below a2=some c∧f119 o' below a2=some (decide (((a2.getD []).length:Int) < c)):=by
 obtain ⟨Q,hf,e⟩:=odd_is (below:=below) hu ho hl (a2:=a2) rfl hs
 obtain ⟨m,e1,m1,m2⟩:=left_eq (below:=below) (l:=l) ho' rfl (by omega) (a2:=a2) rfl hs l.length 0 [] (by omega) List.nodup_nil (fun x=>by
  unfold Free; simp only [List.not_mem_nil,false_iff]; rintro ⟨a,b,c⟩; omega)
 have e2:=loop_lab (a2:=a2) hu ho' (by omega) hf l.length 0 m (by omega) m1 (fun x=>by
  rw [m2]
  exact ⟨fun h=>⟨h,by have:=(hf.ok.ok x h).1.1; omega⟩,fun h=>h.1⟩)
 refine ⟨_,e,?_⟩
 unfold f119
 rw [Int.natCast_zero] at e1
 rw [e1]
 have e2':itO (s119_1 o' below a2) (0,0,m)=_:=e2
 simp only [obind_at,e2']
end
end Go.Z
/-
 LineTutte: with a lesser number the empty set still proves.
-/
namespace Go.Z
open Go Go.Abs
theorem parS_pos {f:Nat→Nat}:∀ {k:Nat},0 < parS f k→∃ t,t < k∧f t % 2=1
 | 0,h=>by exact absurd h (Nat.lt_irrefl 0)
 | k + 1,h=>by
  have hs':parS f (k + 1)=parS f k + f k % 2:=rfl
  by_cases h1:f k % 2=1
  ·exact ⟨k,by omega,h1⟩
  ·obtain ⟨t,h2,h3⟩:=parS_pos (f:=f) (k:=k) (by omega)
   exact ⟨t,by omega,h3⟩
theorem less_empty {l:List GUnit} {o':Option (List GUnit)} {below below':Int} (hu:UnitsOk l) (ho':o'.getD []=l) (hl:l.length≤8) (hb:below'≤below) (h:f119 o' below none=some true):f119 o' below' none=some true:=by
 obtain ⟨Q,hf,e⟩:=odd_is (below:=below) (a2:=none) hu ho' hl rfl (by simp)
 obtain ⟨c,e1,e2⟩:=odd_decides (below:=below) (a2:=none) hu ho' ho' hl (by simp)
 rw [e] at e1
 rw [h] at e2
 have e1:=Option.some.inj e1
 have e2:=Option.some.inj e2
 have e3:(0:Int) < c:=of_decide_eq_true e2.symm
 obtain ⟨t,ht,hodd⟩:=parS_pos (f:=fun t=>(sameL l.length (labV Q) [] (t:Int)).length) (k:=l.length) (by
  have:((none:Option (List Int)).getD [])=[]:=rfl
  rw [this] at e1
  omega)
 have hodd:(sameL l.length (labV Q) [] (t:Int)).length % 2=1:=hodd
 let col:Nat→Nat:=fun i=>if labV Q (i:Int)=(t:Int) then 1 else 2
 have hfree:∀ i:Nat,i < l.length→Free l.length ([]:List Int) (i:Int):=fun i hi=>⟨by omega,by omega,by simp⟩
 obtain ⟨c',g1,g2⟩:=many_odd (below:=below') (col:=col) hu ho' (by omega) (fun i j hij hj _ _ hne=>by
  cases hn:near l below' (i:Int) (j:Int) with
  | false=>rfl
  | true=>
   exfalso
   have hn2:near l below (i:Int) (j:Int)=true:=by
    have h1:dAt l (i:Int) (j:Int) < below':=of_decide_eq_true hn
    exact decide_eq_true (by omega)
   have:=hf.same (i:Int) (j:Int) (hfree i (by omega)) (.step (.refl _) (hfree j hj) hn2)
   apply hne
   show (if labV Q (i:Int)=(t:Int) then 1 else 2)=(if labV Q (j:Int)=(t:Int) then 1 else 2)
   rw [this]) (a2:=none) (set:=[]) rfl (by simp) (fun i hi=>by
   constructor
   ·intro h0
    exfalso
    have:col i=1∨col i=2:=by
     show (if labV Q (i:Int)=(t:Int) then 1 else 2)=1∨(if labV Q (i:Int)=(t:Int) then 1 else 2)=2
     split
     ·exact .inl rfl
     ·exact .inr rfl
    omega
   ·intro h0; simp at h0) 1
 have hp:pot l.length col [] 1=1:=by
  have hlen:(taken l.length col 1 []).length=(sameL l.length (labV Q) [] (t:Int)).length:=by
   refine len_same taken_nodup sameL_nodup fun x=>?_
   rw [taken_mem,sameL_mem]
   constructor
   ·rintro ⟨h1,h2,h3,_⟩
    refine ⟨⟨h1,h2,by simp⟩,?_⟩
    have h3:(if labV Q ((x.toNat:Nat):Int)=(t:Int) then 1 else 2)=1:=h3
    rw [show ((x.toNat:Nat):Int)=x by omega] at h3
    by_cases hx:labV Q x=(t:Int)
    ·exact hx
    ·rw [if_neg hx] at h3; omega
   ·rintro ⟨⟨h1,h2,_⟩,h3⟩
    refine ⟨h1,h2,?_,by simp⟩
    show (if labV Q ((x.toNat:Nat):Int)=(t:Int) then 1 else 2)=1
    rw [show ((x.toNat:Nat):Int)=x by omega,if_pos h3]
  show 0 + (taken l.length col 1 []).length % 2=1
  rw [hlen]
  omega
 rw [hp] at g2
 rw [g1]
 have:(([]:List Int).length:Int) < c':=by
  rw [List.length_nil]
  omega
 rw [decide_eq_true this]
end Go.Z
/-
 LineTutte: what the product proves and checks of sets in order.
-/
namespace Go.Z
open Go Go.Abs
theorem E94_zz:E94 (some [0,0])=some 0:=by rw [E94_2]; rfl
theorem loop61 {o:Option (List GUnit)} {below:Int} {a2:Option (List Int)} {n:Nat} (ho:(o.getD []).length=n) (hn:n≤64) (hs:SetOk n (a2.getD [])):∀ (k i:Nat),i + k=(a2.getD []).length→itO (s61_0 o below a2) (i:Int)=some (.inr ((a2.getD []).length:Int))
 | 0,i,hi=>by
  have:¬ (i:Int) < ((a2.getD []).length:Int):=by omega
  have hil:i=(a2.getD []).length:=by omega
  refine itO_out ?_
  unfold s61_0
  simp only [this,decide_false,cond_false]
  rw [hil]
 | k + 1,i,hi=>by
  have hl:(a2.getD []).length≤n:=free_len (s:=[]) (hs.asc.imp (fun h e=>by omega)) fun x hx=>⟨(hs.ins x hx).1,(hs.ins x hx).2,by simp⟩
  have hlt:(i:Int) < ((a2.getD []).length:Int):=by omega
  have hw:wrapF .i64 ((i:Int) + 1)=((i + 1:Nat):Int):=wrap_nat (by omega)
  have hx:=hs.ins _ (List.getElem_mem (l:=a2.getD []) (n:=i) (by omega))
  have hix:idxO (a2.getD []) (i:Int)=some ((a2.getD [])[i]'(by omega)):=by rw [idxO_nat,List.getElem?_eq_getElem (by omega)]
  have h1:¬ (a2.getD [])[i]'(by omega) < 0:=by omega
  have h2:¬ (n:Int)≤(a2.getD [])[i]'(by omega):=by omega
  have e0:∀ e:Int,E24 false e=some 0:=fun e=>rfl
  have step:s61_0 o below a2 (i:Int)=some (.inl ((i + 1:Nat):Int)):=by
   unfold s61_0
   by_cases h0:0 < i
   ·have h0':(0:Int) < (i:Int):=by omega
    have hw1:wrapF .i64 ((i:Int) - 1)=((i - 1:Nat):Int):=by rw [wrapF_i64 (by omega) (by omega)]; omega
    have hmx:max (0:Int) ((i - 1:Nat):Int)=((i - 1:Nat):Int):=by omega
    have hix2:idxO (a2.getD []) ((i - 1:Nat):Int)=some ((a2.getD [])[i - 1]'(by omega)):=by rw [idxO_nat,List.getElem?_eq_getElem (by omega)]
    have hlt2:=List.pairwise_iff_getElem.1 hs.asc (i - 1) i (by omega) (by omega) (by omega)
    have h3:¬ (a2.getD [])[i]'(by omega)≤(a2.getD [])[i - 1]'(by omega):=by omega
    simp only [hlt,decide_true,cond_true,hix,obind_at,h1,decide_false,cond_false,ho,h2,e0,h0',hw1,hmx,hix2,h3,E94_zz,hw]
   ·have h0':¬ (0:Int) < (i:Int):=by omega
    simp only [hlt,decide_true,cond_true,hix,obind_at,h1,decide_false,cond_false,ho,h2,e0,h0',E94_zz,hw]
  rw [itO_in step]
  exact loop61 ho hn hs k (i + 1) (by omega)
theorem f61_set {l:List GUnit} {o:Option (List GUnit)} {below:Int} {a2:Option (List Int)} (ho:o.getD []=l) (e22:E22 o=some 0) (hn:l.length≤64) (hb:1≤below∧below≤200001) (hs:SetOk l.length (a2.getD [])) {b:Bool} (h:f119 o below a2=some b):f61 o below a2=some (if b then 0 else 22):=by
 have hl:=loop61 (below:=below) (a2:=a2) (n:=l.length) (o:=o) (by rw [ho]) hn hs (a2.getD []).length 0 (by omega)
 rw [Int.natCast_zero] at hl
 have hc:checkRange below 1 200001=0:=by
  unfold checkRange
  simp only [show ¬ below < 1 by omega,show ¬ below > 200001 by omega,if_false]
  try rfl
 have hf:firstNZ [0,checkRange below 1 200001]=0:=by rw [hc]; rfl
 unfold f61 f117
 simp only [e22,obind_at,E23,E94_2,hf,decide_true,cond_true,hl,h]
 cases b <;> rfl
theorem f60_set {l:List GUnit} {o:Option (List GUnit)} {below:Int} (ho:o.getD []=l) (e22:E22 o=some 0) (hu:UnitsOk l) (hn:l.length≤8) (hb:1≤below∧below≤200001):
  (f60 o below=some (none,7)∧∀ set,SetOk l.length set→∀ a2:Option (List Int),a2.getD []=set→f119 o below a2=some false) ∨
  ∃ x,f60 o below=some (x,0)∧SetOk l.length (x.getD [])∧f119 o below x=some true∧(x.getD []).length≤l.length∧∀ set,SetOk l.length set→set.length < (x.getD []).length→∀ a2:Option (List Int),a2.getD []=set→f119 o below a2=some false:=by
 obtain ⟨y,x,e,e1,_,_⟩:=prove_same (o:=o) (o':=o) (below:=below) ho ho rfl rfl hu hu hn
 have hsp:=prove_spec0 (below:=below) (n:=l.length) (o:=o) (by rw [ho]) hn e1
 have hc:checkRange below 1 200001=0:=by
  unfold checkRange
  rw [if_neg (by omega),if_neg (by omega)]
 have h8:¬ (8:Int) < (l.length:Int):=by omega
 have hun:f60 o below=(match e with
   | .inl _=>some ((none:Option (List Int)),(7:Int))
   | .inr z=>some (z.2,(0:Int))):=by
  have hf:firstNZ [0,whenE false 23,checkRange below 1 200001]=0:=by rw [hc]; rfl
  unfold f60 f117
  simp only [e22,obind_at,ho,E24,E23,E94_3,h8,decide_false,hf,decide_true,cond_true,e1]
  cases e <;> rfl
 rw [hun]
 cases e with
 | inl i=>exact .inl ⟨rfl,hsp⟩
 | inr z=>exact .inr ⟨z.2,rfl,hsp.1,hsp.2.1,hsp.2.2.1,hsp.2.2.2⟩
end Go.Z
/-
 LineTutte: the law's search at its start.
-/
namespace Go.Z
open Go Go.Abs
theorem frB_none:∀ (k i:Nat),frB [false,false,false,false,false,false,false,false] k i=List.range' i k
 | 0,i=>rfl
 | k + 1,i=>by
  have h:([false,false,false,false,false,false,false,false]:List Bool).getD i false=false:=by
   match i with
   | 0 | 1 | 2 | 3 | 4 | 5 | 6 | 7=>rfl
   | i + 8=>rfl
  unfold frB
  rw [h,cond_false,frB_none k (i + 1),List.range'_succ]
theorem matched_start {l:List GUnit} {o:Option (List GUnit)} {below:Int} (hu:UnitsOk l) (ho:o.getD []=l) (hl:l.length≤8):f83 9 o below [false,false,false,false,false,false,false,false]=some (pmB l below 8 (List.range l.length)):=by
 have:=matched_eq (below:=below) hu ho hl 8 [false,false,false,false,false,false,false,false] rfl (by rw [frB_none,List.length_range']; omega)
 rw [frB_none,← List.range_eq_range'] at this
 exact this
theorem pmB_fuel {l:List GUnit} {below:Int}:∀ (k:Nat) (t:List Nat),t.length≤2 * k→pmB l below (k + 1) t=pmB l below k t
 | 0,t,h=>by
  have h0:t=[]:=List.length_eq_zero_iff.1 (by omega)
  subst h0; rfl
 | k + 1,[],h=>rfl
 | k + 1,a::t,h=>by
  rw [pmB_succ,pmB_succ,Bool.eq_iff_iff,List.any_eq_true,List.any_eq_true]
  have hb:∀ b∈t,(t.filter fun x=>!Nat.beq x b).length≤2 * k:=by
   intro b hb
   have hlt:(t.filter fun x=>!Nat.beq x b).length < t.length:=by
    rcases Nat.lt_or_ge (t.filter fun x=>!Nat.beq x b).length t.length with h | h
    ·exact h
    ·exfalso
     have he:=(List.filter_sublist (l:=t) (p:=fun x=>!Nat.beq x b)).eq_of_length (Nat.le_antisymm (List.length_filter_le ..) h)
     rw [← he] at hb
     have:=(List.mem_filter.1 hb).2
     rw [Nat.beq_refl] at this
     cases this
   simp only [List.length_cons] at h
   omega
  constructor
  ·rintro ⟨b,h1,h2⟩; exact ⟨b,h1,by rw [← pmB_fuel k _ (hb b h1)]; exact h2⟩
  ·rintro ⟨b,h1,h2⟩; exact ⟨b,h1,by rw [pmB_fuel k _ (hb b h1)]; exact h2⟩
end Go.Z
/-
 LineTutte: the best pairing is accepted.
-/
namespace Go.Z
open Go Go.Abs
theorem memI_false {l:List Int} {k:Int} (h:k ∉ l):memI l k=false:=by
 unfold memI
 rw [List.contains_eq_mem]
 exact decide_eq_false h
theorem bestP_form {l:List GUnit} {n:Nat}:∀ (m:Nat) (left:List Int) (p:List GPair),LeftOk n left→left.Pairwise (· < ·)→left.length=2 * m →
  ∃ s,(bestP l m left p).1=p++s∧∀ (seen:List Int) (last:Int),(∀ x∈left,x ∉ seen∧last < x)→pairsX (n:Int) seen last s=0
 | 0,left,p,_,_,_=>⟨[],by unfold bestP; simp,fun _ _ _=>rfl⟩
 | m + 1,left,p,hk,ho,hl=>by
  have h:=bestP_fold (l:=l) (p:=p) hl none
  have ih:∀ b∈left.tail,∃ s,(bestP l m (left.tail.filter fun x=>x != b) (p++[⟨left.headD 0,b⟩])).1=p++s∧∀ (seen:List Int) (last:Int),(∀ x∈left,x ∉ seen∧last < x)→pairsX (n:Int) seen last s=0:=by
   intro b hb
   obtain ⟨s,e,hs⟩:=bestP_form (l:=l) m _ (p++[⟨left.headD 0,b⟩]) (hk.next b) ((ho.sublist (List.tail_sublist _)).sublist (List.filter_sublist ..)) (next_len hk hl hb)
   refine ⟨⟨left.headD 0,b⟩::s,by rw [e,List.append_assoc]; rfl,fun seen last hsl=>?_⟩
   cases left with
   | nil=>simp at hb
   | cons a t=>
    have hb:b∈t:=hb
    have hab:a < b:=(List.pairwise_cons.1 ho).1 b hb
    have ha:=hk.ins a (List.mem_cons_self ..)
    have hb2:=hk.ins b (List.mem_cons_of_mem _ hb)
    have hsa:=hsl a (List.mem_cons_self ..)
    have hsb:=hsl b (List.mem_cons_of_mem _ hb)
    have hz:pairX (n:Int) seen last ⟨a,b⟩=0:=by
     unfold pairX
     dsimp only
     rw [memI_false hsa.1,memI_false hsb.1,if_neg (by omega),if_neg (by omega),if_neg (by simp)]
    show pairsX (n:Int) seen last (⟨a,b⟩::s)=0
    unfold pairsX
    rw [if_pos hz]
    refine hs _ _ fun x hx=>?_
    have hxt:=(List.mem_filter.1 hx).1
    have hxb:x ≠ b:=by
     have:=(List.mem_filter.1 hx).2
     intro e
     rw [e] at this
     simp at this
    have hxt:x∈t:=hxt
    have hax:a < x:=(List.pairwise_cons.1 ho).1 x hxt
    have hxs:=hsl x (List.mem_cons_of_mem _ hxt)
    refine ⟨?_,hax⟩
    intro hm
    rcases List.mem_append.1 hm with hm | hm
    ·exact hxs.1 hm
    ·simp only [List.mem_cons,List.not_mem_nil,or_false] at hm
     omega
  cases ht:left.tail with
  | nil=>have:=List.length_tail (l:=left); rw [ht] at this; simp at this; omega
  | cons b t=>
   rw [ht] at h ih
   rw [List.foldl_cons] at h
   rcases foldG_is (fun b'=>bestP l m ((b::t).filter fun x=>x != b') (p++[⟨left.headD 0,b'⟩])) t _ _ h with e | ⟨c,hc,e⟩
   ·have:=ih b (List.mem_cons_self ..)
    rw [e]
    exact this
   ·have:=ih c (List.mem_cons_of_mem _ hc)
    rw [e]
    exact this
theorem allI_asc (n:Nat):(allI n).Pairwise (· < ·):=by
 unfold allI
 rw [lf_all]
 refine List.Pairwise.map _ (fun a b h=>?_) List.pairwise_lt_range'
 omega
theorem best_accepted {l:List GUnit} (hu:UnitsOk l) (h2:l.length % 2=0):pairsX (l.length:Int) [] (-1) (bestP l (l.length / 2) (allI l.length) []).1=0∧(bestP l (l.length / 2) (allI l.length) []).1.length=l.length / 2 ∧
  (bestP l (l.length / 2) (allI l.length) []).2=worstP l (bestP l (l.length / 2) (allI l.length) []).1∧0≤(bestP l (l.length / 2) (allI l.length) []).2∧(bestP l (l.length / 2) (allI l.length) []).2≤200000:=by
 have hlen:(allI l.length).length=2 * (l.length / 2):=by rw [allI_len]; omega
 obtain ⟨s,e,hs⟩:=bestP_form (l:=l) (n:=l.length) (l.length / 2) (allI l.length) [] (allI_ok _) (allI_asc _) hlen
 obtain ⟨g1,g2,g3⟩:=bestP_is (l:=l) (n:=l.length) (l.length / 2) (allI l.length) [] (allI_ok _) hlen (fun q hq=>by cases hq)
 refine ⟨?_,by simpa using g1,g2,?_⟩
 ·rw [e,List.nil_append]
  exact hs _ _ fun x hx=>⟨by simp,by have:=(allI_ok l.length).ins x hx; omega⟩
 ·rw [g2]
  exact worst_bounds hu _
end Go.Z
/-
 LineTutte: its law holds of the function that mirrors the run.
-/
namespace Go.Z
open Go Go.Abs
theorem pmB_own (l:List GUnit) (below:Int):∀ (k:Nat) (t:List Nat),pmB (l.map ownU) below k t=pmB l below k t
 | 0,[]=>rfl
 | 0,_::_=>rfl
 | k + 1,[]=>rfl
 | k + 1,a::t=>by
  rw [pmB_succ,pmB_succ,near_own]
  congr 1
  funext b
  rw [pmB_own l below k]
theorem pmB_more {l:List GUnit} {below:Int} (t:List Nat) (k:Nat) (h:t.length≤2 * k):∀ j,pmB l below (k + j) t=pmB l below k t
 | 0=>rfl
 | j + 1=>by
  rw [show k + (j + 1)=(k + j) + 1 by omega,pmB_fuel (k + j) t (by omega)]
  exact pmB_more t k h j
theorem pmB_half {l:List GUnit} {below:Int} (hl:l.length≤8) (h2:l.length % 2=0):pmB l below 8 (List.range l.length)=pmB l below (l.length / 2) (List.range l.length):=by
 have:=pmB_more (l:=l) (below:=below) (List.range l.length) (l.length / 2) (by rw [List.length_range]; omega) (8 - l.length / 2)
 rw [show l.length / 2 + (8 - l.length / 2)=8 by omega] at this
 exact this
theorem can_sets {l:List GUnit} {o':Option (List GUnit)} {below:Int} (hu:UnitsOk l) (ho':o'.getD []=l) (hl:l.length≤8):
  (pmB l below 8 (List.range l.length)=true∧l.length % 2=0∧∀ a2:Option (List Int),(a2.getD []).length≤64→f119 o' below a2=some false) ∨
  (pmB l below 8 (List.range l.length)=false∧∃ set,SetOk l.length set∧∀ a2:Option (List Int),a2.getD []=set→f119 o' below a2=some true):=by
 have hrl:(List.range l.length).length=l.length:=List.length_range
 cases hc:pmB l below 8 (List.range l.length) with
 | true=>
  left
  have h2:l.length % 2=0:=by
   rcases Nat.mod_two_eq_zero_or_one l.length with h | h
   ·exact h
   ·rw [pmB_odd 8 _ (by rw [hrl]; exact h) List.nodup_range] at hc
    cases hc
  rw [pmB_half hl h2] at hc
  obtain ⟨m,hm,hn⟩:=(pmB_even (l.length / 2) (List.range l.length) (by rw [hrl]; omega) List.nodup_range).1 hc
  have hp:=pms_paired h2 hm hn
  exact ⟨rfl,h2,fun a2 ha=>paired_none hu ho' (by omega) hp ha⟩
 | false=>
  right
  refine ⟨rfl,?_⟩
  rcases tutte_units (below:=below) hu ho' hl with ⟨h2,m,hm,hn⟩ | ⟨set,h1,_,h3⟩
  ·have:=(pmB_even (l.length / 2) (List.range l.length) (by rw [hrl]; omega) List.nodup_range).2 ⟨m,hm,hn⟩
   rw [← pmB_half hl h2,hc] at this
   cases this
  ·exact ⟨set,h1,h3⟩
theorem can_prove {l:List GUnit} {o':Option (List GUnit)} {below:Int} (hu:UnitsOk l) (ho':o'.getD []=l) (hl:l.length≤8) (e22:E22 o'=some 0) (hb:1≤below∧below≤200001):
  (pmB l below 8 (List.range l.length)=true∧l.length % 2=0∧(∀ a2:Option (List Int),(a2.getD []).length≤64→f119 o' below a2=some false)∧f60 o' below=some (none,7)) ∨
  (pmB l below 8 (List.range l.length)=false∧∃ x,f60 o' below=some (x,0)∧SetOk l.length (x.getD [])∧f119 o' below x=some true∧(x.getD []).length≤l.length∧∀ set,SetOk l.length set→set.length < (x.getD []).length→∀ a2:Option (List Int),a2.getD []=set→f119 o' below a2=some false):=by
 rcases can_sets (below:=below) hu ho' hl with ⟨h1,h2,h3⟩ | ⟨h1,set,h2,h3⟩
 ·rcases f60_set ho' e22 hu hl hb with ⟨h4,_⟩ | ⟨x,_,_,h5,h6,_⟩
  ·exact .inl ⟨h1,h2,h3,h4⟩
  ·rw [h3 x (by omega)] at h5
   cases h5
 ·rcases f60_set ho' e22 hu hl hb with ⟨_,h4⟩ | h4
  ·have:=h4 set h2 (some set) rfl
   rw [h3 (some set) rfl] at this
   cases this
  ·exact .inr ⟨h1,h4⟩
theorem odd_decides2 {l l':List GUnit} {o o':Option (List GUnit)} {below:Int} {a2 a2':Option (List Int)} (hu:UnitsOk l) (hu':UnitsOk l') (ho:o.getD []=l) (ho':o'.getD []=l') (hll:l'.length=l.length) (hnear:near l' below=near l below) (hl:l.length≤8) (h2:a2'.getD []=a2.getD []) (hs:(a2.getD []).length≤64):
  ∃ c:Int,f84 o below a2=some c∧f119 o' below a2'=some (decide (((a2.getD []).length:Int) < c)):=by
 obtain ⟨Q,hf,e⟩:=odd_is (below:=below) hu ho hl (a2:=a2) rfl hs
 obtain ⟨m,e1,m1,m2⟩:=left_eq (below:=below) (l:=l) ho' hll (by omega) (a2:=a2') h2 hs l.length 0 [] (by omega) List.nodup_nil (fun x=>by
  unfold Free; simp only [List.not_mem_nil,false_iff]; rintro ⟨a,b,c⟩; omega)
 have hf':LabFin l'.length (a2.getD []) (near l' below) (labV Q):=by rw [hll,hnear]; exact hf
 have e2:=loop_lab (a2:=a2') hu' ho' (by omega) hf' l'.length 0 m (by omega) m1 (fun x=>by
  rw [m2,hll]
  exact ⟨fun h=>⟨h,by have:=(hf.ok.ok x h).1.1; omega⟩,fun h=>h.1⟩)
 rw [hll] at e2
 refine ⟨_,e,?_⟩
 unfold f119
 rw [Int.natCast_zero] at e1
 rw [e1]
 have e2':itO (s119_1 o' below a2') (0,0,m)=_:=e2
 simp only [obind_at,e2',h2]
theorem shr_some (a2:Int) (i:Nat):∃ v,shrO .u8 a2 (i:Int)=some v:=by
 simp only [shrO,shO,binShift]
 have:¬ (i:Int) < 0:=by omega
 simp only [this,decide_false,cond_false]
 exact ⟨_,rfl⟩
theorem SetOk.up {n m:Nat} {set:List Int} (h:SetOk n set) (hnm:n≤m):SetOk m set:=⟨h.asc,fun x hx=>by have:=h.ins x hx; omega⟩
theorem SetOk.snoc {n:Nat} {set:List Int} (h:SetOk n set):SetOk (n + 1) (set++[(n:Int)]):=by
 refine ⟨List.pairwise_append.2 ⟨h.asc,List.pairwise_singleton ..,fun x hx y hy=>?_⟩,fun x hx=>?_⟩
 ·have:=h.ins x hx
  simp only [List.mem_singleton] at hy
  omega
 ·rcases List.mem_append.1 hx with hx | hx
  ·have:=h.ins x hx; omega
  ·simp only [List.mem_singleton] at hx; omega
theorem given_set {a0:Option (List GUnit)} {below a2:Int} {n:Nat} (h0:(a0.getD []).length=n) (hn:n≤64):∀ (k i:Nat) (g:Option (List Int)) (f:Bool),i + k=n→SetOk i (g.getD [])→(g.getD []).length≤i→(f=true∨g=none) →
  ∃ g' f',itO (s13_0 a0 below a2) (g,(i:Int),f)=some (g',f',(n:Int))∧SetOk n (g'.getD [])∧(g'.getD []).length≤n
 | 0,i,g,f,hi,hs,hg,hf=>by
  have hin:i=n:=by omega
  subst hin
  have:¬ (i:Int) < ((a0.getD []).length:Int):=by omega
  exact ⟨g,f,itO_out (by unfold s13_0; simp only [this,decide_false,cond_false]),hs,hg⟩
 | k + 1,i,g,f,hi,hs,hg,hf=>by
  have hlt:(i:Int) < ((a0.getD []).length:Int):=by omega
  have hw:wrapF .i64 ((i:Int) + 1)=((i + 1:Nat):Int):=wrap_nat (by omega)
  obtain ⟨v,hv⟩:=shr_some a2 i
  by_cases hb:bitF .and .u8 v 1=1
  ·obtain ⟨s',e1,e2⟩:=grow_of (a:=g) (i:=(i:Int)) rfl (by omega)
   have step:s13_0 a0 below a2 (g,(i:Int),f)=some (.inl (s',((i + 1:Nat):Int),true)):=by
    unfold s13_0
    rcases hf with rfl | rfl
    ·simp only [hlt,decide_true,cond_true,hv,obind_at,hb,e1,hw]
    ·cases f with
     | true=>simp only [hlt,decide_true,cond_true,hv,obind_at,hb,e1,hw]
     | false=>simp only [hlt,decide_true,cond_true,cond_false,hv,obind_at,hb,e1,hw,Option.isNone_none]
   rw [itO_in step]
   exact given_set h0 hn k (i + 1) s' true (by omega) (by rw [e2]; exact hs.snoc) (by rw [e2]; simp; omega) (.inl rfl)
  ·have step:s13_0 a0 below a2 (g,(i:Int),f)=some (.inl (g,((i + 1:Nat):Int),f)):=by
    unfold s13_0
    simp only [hlt,decide_true,cond_true,hv,obind_at,hb,decide_false,cond_false,hw]
   rw [itO_in step]
   exact given_set h0 hn k (i + 1) g f (by omega) (hs.up (by omega)) (by omega) hf
theorem loop13 {a0:Option (List GUnit)} {below:Int} {p9:Bool} {p10:Option (List Int)} {n:Nat} (ho:(a0.getD []).length=n) (hn:n≤64) (hs:SetOk n (p10.getD [])):∀ (k i:Nat),i + k=(p10.getD []).length→itO (s13_1 a0 below p9 p10) (i:Int)=some (.inr ((p10.getD []).length:Int))∧itO (s13_1b a0 below p9 p10) (i:Int)=some (.inr ((p10.getD []).length:Int))
 | 0,i,hi=>by
  have:¬ (i:Int) < ((p10.getD []).length:Int):=by omega
  have hil:i=(p10.getD []).length:=by omega
  constructor
  ·refine itO_out ?_
   unfold s13_1
   simp only [this,decide_false,cond_false]
   rw [hil]
  ·refine itO_out ?_
   unfold s13_1b
   simp only [this,decide_false,cond_false]
   rw [hil]
 | k + 1,i,hi=>by
  have hl:(p10.getD []).length≤n:=free_len (s:=[]) (hs.asc.imp (fun h e=>by omega)) fun x hx=>⟨(hs.ins x hx).1,(hs.ins x hx).2,by simp⟩
  have hlt:(i:Int) < ((p10.getD []).length:Int):=by omega
  have hw:wrapF .i64 ((i:Int) + 1)=((i + 1:Nat):Int):=wrap_nat (by omega)
  have hx:=hs.ins _ (List.getElem_mem (l:=p10.getD []) (n:=i) (by omega))
  have hix:idxO (p10.getD []) (i:Int)=some ((p10.getD [])[i]'(by omega)):=by rw [idxO_nat,List.getElem?_eq_getElem (by omega)]
  have h1:¬ (p10.getD [])[i]'(by omega) < 0:=by omega
  have h2:¬ (n:Int)≤(p10.getD [])[i]'(by omega):=by omega
  have step:s13_1 a0 below p9 p10 (i:Int)=some (.inl ((i + 1:Nat):Int))∧s13_1b a0 below p9 p10 (i:Int)=some (.inl ((i + 1:Nat):Int)):=by
   unfold s13_1 s13_1b
   by_cases h0:0 < i
   ·have h0':(0:Int) < (i:Int):=by omega
    have hw1:wrapF .i64 ((i:Int) - 1)=((i - 1:Nat):Int):=by rw [wrapF_i64 (by omega) (by omega)]; omega
    have hix2:idxO (p10.getD []) ((i - 1:Nat):Int)=some ((p10.getD [])[i - 1]'(by omega)):=by rw [idxO_nat,List.getElem?_eq_getElem (by omega)]
    have hlt2:=List.pairwise_iff_getElem.1 hs.asc (i - 1) i (by omega) (by omega) (by omega)
    have h3:¬ (p10.getD [])[i]'(by omega)≤(p10.getD [])[i - 1]'(by omega):=by omega
    simp only [hlt,decide_true,cond_true,hix,obind_at,h1,decide_false,cond_false,ho,h2,h0',hw1,hix2,h3,hw,and_self]
   ·have h0':¬ (0:Int) < (i:Int):=by omega
    simp only [hlt,decide_true,cond_true,hix,obind_at,h1,decide_false,cond_false,ho,h2,h0',hw,and_self]
  rw [itO_in step.1,itO_in step.2]
  exact loop13 ho hn hs k (i + 1) (by omega)
theorem rem2 (n:Nat):remO (n:Int) 2=some ((n:Int).tmod 2):=by unfold remO; rw [if_neg (by decide)]
theorem tmod2 (n:Nat):(n:Int).tmod 2=((n % 2:Nat):Int):=rfl
theorem tail9 {a0 w:Option (List GUnit)} {l':List GUnit} {below a2:Int} (e18:E18 a0=some w) (ho:w.getD []=l') (hE:unitsE l'=0) (e22:E22 w=some 0) (hn:l'.length≤8) (hb:1≤below∧below≤200001):
  j13_9 a0 below a2 (pmB l' below 8 (List.range l'.length)) (!decide ((l'.length:Int).tmod 2=0))=some true:=by
 have hu:=units_ok hE
 by_cases h2:l'.length % 2=0
 ·have h2':(l'.length:Int).tmod 2=0:=by rw [tmod2]; omega
  have h8:¬ (8:Int) < (l'.length:Int):=by omega
  have hpE:pairsE l'=0:=by
   unfold pairsE
   rw [hE]
   simp only [h2',h8,decide_true,decide_false,Bool.not_true]
   rfl
  have h56:=f56_eq ho (by omega) (by rw [hE]; exact e22)
  rw [if_pos hpE] at h56
  obtain ⟨b,v,h3,h4,h5⟩:=h56
  obtain ⟨g1,g2,g3,g4,g5⟩:=best_accepted hu h2
  have hap:apO (some []) (b.getD [])=some (some (b.getD [])):=ap_nil _ (by rw [h4,g2]; omega)
  have hsh:shapeE (l'.length:Int) ((b.getD []).length:Int)=0:=by
   unfold shapeE
   rw [h4,g2]
   have:2 * ((l'.length / 2:Nat):Int)=(l'.length:Int):=by omega
   simp only [h2',this,decide_true,Bool.not_true]
   rfl
  have h66:=f66_eq ho (op:=some (b.getD [])) (p:=b.getD []) rfl (by rw [h4,g2]; omega) (by rw [hE]; exact e22)
  rw [if_pos hE,if_pos hsh,h4,if_pos g1] at h66
  rw [← h4,← h5] at g3
  rw [← h5] at g4 g5
  rw [← h4,← g3] at h66
  have hcan:∀ below':Int,0 < below'→pmB l' below' 8 (List.range l'.length)=decide (v < below'):=by
   intro below' hb'
   rw [pmB_half hn h2,Bool.eq_iff_iff,decide_eq_true_iff,h5]
   exact (best_below h2 hb').symm
  have hw1:wrapF .i64 (v + 1)=v + 1:=wrapF_i64 (by omega) (by omega)
  have t1:¬ v < 0:=by omega
  have t2:¬ 200000 < v:=by omega
  have tt:∀ x:Bool,(x == x)=true:=fun x=>by cases x <;> rfl
  rw [hcan below (by omega)]
  unfold j13_9
  simp only [h2',decide_true,Bool.not_true,cond_false,e18,obind_at,h3,hap,h66,cond_true,tt,t1,t2,decide_false]
  unfold j13_12
  simp only [cond_false,e18,obind_at,hw1]
  have h60:f60 w (v + 1)=some (none,7):=by
   rcases can_prove (below:=v + 1) hu ho hn e22 (by omega) with ⟨_,_,_,h⟩ | ⟨h,_⟩
   ·exact h
   ·rw [hcan (v + 1) (by omega)] at h
    have:v < v + 1:=by omega
    rw [decide_eq_true this] at h
    cases h
  simp only [h60,obind_at,decide_true,Bool.not_true]
  unfold j13_14
  simp only [cond_false]
  unfold j13_15
  by_cases hv:v=0
  ·simp only [hv,decide_true,cond_true]
  ·rcases can_prove (below:=v) hu ho hn e22 (by omega) with ⟨h,_⟩ | ⟨_,x,q1,q2,q3,_⟩
   ·rw [hcan v (by omega)] at h
    have:¬ v < v:=by omega
    rw [decide_eq_false this] at h
    cases h
   ·have:=f61_set ho e22 (by omega) (by omega) q2 q3
    simp only [hv,decide_false,cond_false,e18,obind_at,q1,decide_true,cond_true,this,if_true]
 ·have h2':¬ (l'.length:Int).tmod 2=0:=by rw [tmod2]; omega
  have hc:pmB l' below 8 (List.range l'.length)=false:=pmB_odd 8 _ (by rw [List.length_range]; omega) List.nodup_range
  unfold j13_9
  simp only [h2',decide_false,Bool.not_false,cond_true,hc]
theorem unit_serial {u:GUnit} (h:unitE u=0):u.serial.length≤24:=by
 have h1:=whenE_zero (by decide) (firstNZ_zero h _ (List.mem_cons_self ..))
 simp only [isName,Bool.not_eq_false',Bool.and_eq_true,decide_eq_true_eq] at h1
 exact h1.1.2
set_option maxHeartbeats 4000000 in
theorem tutte_main {a0:Option (List GUnit)} {below a2:Int} (hn:(a0.getD []).length≤8) (hE:unitsE (a0.getD [])=0) (hb:1≤below∧below≤200001):j13_1 a0 below a2 false=some true:=by
 generalize hl:a0.getD []=l at hn hE
 have hu:=units_ok hE
 have hE':unitsE (l.map ownU)=0:=by rw [unitsE_own]; exact hE
 have hu':=units_ok hE'
 have e18:E18 a0=some (nonNil (l.map ownU)):=by
  unfold E18
  rw [hl]
  exact exO_of ⟨by omega,fun u hm=>by have:=(hu.ok u hm).len; unfold okLen; omega⟩
 generalize hw:nonNil (l.map ownU)=w at e18
 have ho:w.getD []=l.map ownU:=by rw [← hw]; exact nonNil_get' _
 have hol:(l.map ownU).length=l.length:=List.length_map ..
 have e22:E22 w=some 0:=by
  unfold E22
  rw [ho]
  have hsz:∀ u∈l.map ownU,sizeU u:=by
   intro u hm
   have h1:=(hu'.ok u hm).len
   have h2:=unit_serial (units_each hE' u hm).1
   exact ⟨by omega,by omega⟩
  rw [exO_of ⟨by omega,hsz⟩,hE']
 obtain ⟨g,f,eg,gs,gl⟩:=given_set (a0:=a0) (below:=below) (a2:=a2) (by rw [hl]) (by omega) l.length 0 none false (by omega) ⟨List.Pairwise.nil,by simp⟩ (by simp) (.inr rfl)
 rw [Int.natCast_zero] at eg
 have e62:∀ x:Option (List Int),(x.getD []).length≤8→E62 x=some (ownI x):=fun x hx=>exO_of (by omega)
 have hown:∀ x:Option (List Int),(ownI x).getD []=x.getD []:=fun x=>rfl
 have e83:=matched_start (below:=below) hu hl hn
 have hnear:=near_own l below
 have dec:=fun (x:Option (List Int)) (hx:(x.getD []).length≤64)=>odd_decides2 (o:=a0) (o':=w) (below:=below) (a2:=x) (a2':=ownI x) hu hu' hl ho hol hnear hn (hown x) hx
 have dec0:=fun (x:Option (List Int)) (hx:(x.getD []).length≤64)=>odd_decides2 (o:=a0) (o':=w) (below:=below) (a2:=x) (a2':=x) hu hu' hl ho hol hnear hn rfl hx
 obtain ⟨c,d1,d2⟩:=dec g (by omega)
 have e61:=f61_set ho e22 (by omega) hb (a2:=ownI g) (by rw [hown,hol]; exact gs) d2
 have hcan:pmB l below 8 (List.range l.length)=pmB (l.map ownU) below 8 (List.range (l.map ownU).length):=by rw [pmB_own,hol]
 have t9:=tail9 (a2:=a2) e18 ho hE' e22 (by omega) hb
 rw [← hcan,hol] at t9
 have cp:=can_prove (below:=below) hu' ho (by omega) e22 hb
 rw [← hcan,hol] at cp
 generalize hcg:pmB l below 8 (List.range l.length)=can at e83 t9 cp
 -- from the cut on
 have main:∀ x60:Option (List Int) × Int,f60 w below=some x60→((((g.getD []).length:Int) < c)→can=false)→j13_7 a0 below a2 g f can x60.1 x60.2 (if decide (((g.getD []).length:Int) < c)=true then 0 else 22) false=some true:=by
  intro x60 h60 hgc
  unfold j13_7
  simp only [cond_false]
  unfold j13_8
  rcases cp with ⟨hc,h2,hno,h7⟩ | ⟨hc,x,q1,q2,q3,q4,q5⟩
  ·rw [h7] at h60
   cases h60
   rw [hc] at t9 ⊢
   simp only [cond_true,decide_true,hl,rem2,obind_at]
   exact t9
  ·rw [q1] at h60
   cases h60
   rw [hc] at t9 ⊢
   obtain ⟨c2,d3,d4⟩:=dec x (by omega)
   obtain ⟨c3,d5,d6⟩:=dec0 x (by omega)
   rw [d3] at d5
   cases d5
   rw [d6] at q3
   have hc2:((x.getD []).length:Int) < c2:=of_decide_eq_true (Option.some.inj q3)
   rw [decide_eq_true hc2] at d4
   have e61x:=f61_set ho e22 (by omega) hb (a2:=ownI x) (by rw [hown,hol]; exact q2) d4
   have t1:¬ (l.length:Int) < ((x.getD []).length:Int):=by omega
   have t2:¬ c2≤((x.getD []).length:Int):=by omega
   obtain ⟨lp1,lp2⟩:=loop13 (a0:=a0) (below:=below) (p9:=false) (p10:=x) (n:=l.length) (by rw [hl]) (by omega) q2 (x.getD []).length 0 (by omega)
   rw [Int.natCast_zero] at lp1 lp2
   have hset0:SetOk (l.map ownU).length ((none:Option (List Int)).getD []):=⟨List.Pairwise.nil,by simp⟩
   have tail:(cond (decide (1 < below))
      (obind (f61 w (wrapF .i64 (below - 1)) none) fun v104=>
      cond (decide (v104=0))
       (obind (remO ((a0.getD []).length:Int) 2) fun v107=>
       j13_9 a0 below a2 false (!decide (v107=0)))
       (obind (f61 w below none) fun v109=>
       cond (decide (v109=0))
        (some false)
        (obind (remO ((a0.getD []).length:Int) 2) fun v112=>
        j13_9 a0 below a2 false (!decide (v112=0)))))
      (obind (remO ((a0.getD []).length:Int) 2) fun v114=>
      j13_9 a0 below a2 false (!decide (v114=0))))=some true:=by
    by_cases h1:1 < below
    ·have hw1:wrapF .i64 (below - 1)=below - 1:=wrapF_i64 (by omega) (by omega)
     obtain ⟨ca,_,a2'⟩:=odd_decides2 (o:=a0) (o':=w) (below:=below - 1) (a2:=none) (a2':=none) hu hu' hl ho hol (near_own l _) hn rfl (by simp)
     obtain ⟨cb,_,b2'⟩:=odd_decides2 (o:=a0) (o':=w) (below:=below) (a2:=none) (a2':=none) hu hu' hl ho hol (near_own l _) hn rfl (by simp)
     have ea:=f61_set ho e22 (by omega) (by omega) (a2:=none) hset0 a2'
     have eb:=f61_set ho e22 (by omega) hb (a2:=none) hset0 b2'
     have hless:=fun h=>less_empty (below:=below) (below':=below - 1) hu' ho (by omega) (by omega) h
     rw [a2',b2'] at hless
     simp only [h1,decide_true,cond_true,hw1,ea,eb,obind_at,hl,rem2]
     cases hb1:decide ((((none:Option (List Int)).getD []).length:Int) < ca) with
     | true=>simp only [if_true,decide_true,cond_true]; exact t9
     | false=>
      cases hb2:decide ((((none:Option (List Int)).getD []).length:Int) < cb) with
      | true=>
       rw [hb1,hb2] at hless
       exact absurd (hless rfl) (by simp)
      | false=>
       have n22:¬ (22:Int)=0:=by decide
       simp only [Bool.false_eq_true,if_false,n22,decide_false,cond_false]
       exact t9
    ·simp only [h1,decide_false,cond_false,hl,rem2,obind_at]
     exact t9
   simp only [cond_false,decide_true,cond_true,hl,t1,decide_false,e18,e62 x (by omega),obind_at,e61x,if_true,d3]
   by_cases hlt:((g.getD []).length:Int) < ((x.getD []).length:Int)
   ·have hgn:f119 w below (ownI g)=some false:=q5 (g.getD []) gs (by omega) (ownI g) rfl
    rw [d2] at hgn
    have hgf:decide (((g.getD []).length:Int) < c)=false:=Option.some.inj hgn
    have n22:¬ (22:Int)=0:=by decide
    simp only [hlt,decide_true,cond_true,hgf,Bool.false_eq_true,if_false,n22,decide_false,cond_false,lp1,d3,obind_at,t2]
    rw [hl] at tail
    exact tail
   ·simp only [hlt,decide_false,cond_false,lp2,d3,obind_at,t2]
    rw [hl] at tail
    exact tail
 unfold j13_1
 simp only [cond_false,eg,obind_at,e83,e18]
 obtain ⟨x60,h60⟩:∃ x60,f60 w below=some x60:=by
  rcases cp with ⟨_,_,_,h7⟩ | ⟨_,x,q1,_⟩
  ·exact ⟨_,h7⟩
  ·exact ⟨_,q1⟩
 simp only [h60,obind_at,e62 g (by omega),e61]
 have mm:=main x60 h60
 by_cases hgc:((g.getD []).length:Int) < c
 ·have hcf:can=false:=by
   rcases cp with ⟨_,_,hno,_⟩ | ⟨hc,_⟩
   ·have:=hno (ownI g) (by rw [hown]; omega)
    rw [d2,decide_eq_true hgc] at this
    cases this
   ·exact hc
  have mm:=mm (fun _=>hcf)
  rw [hcf] at mm ⊢
  simp only [hgc,decide_true,if_true] at mm ⊢
  simp only [decide_true,cond_true,d1,obind_at,hgc,beq_self_eq_true]
  exact mm
 ·have mm:=mm (fun h=>absurd h hgc)
  have n22:¬ (22:Int)=0:=by decide
  simp only [hgc,decide_false,Bool.false_eq_true,if_false] at mm ⊢
  simp only [n22,decide_false,decide_true,cond_true,cond_false,d1,obind_at,hgc,beq_self_eq_true]
  exact mm
theorem tutte_true (a0:Option (List GUnit)) (below a2:Int) (hs:∀ u∈a0.getD [],sizeW u):f13 a0 below a2=some true:=by
 have ht:j13_1 a0 below a2 true=some true:=by unfold j13_1; rfl
 unfold f13
 simp only [E14,obind_at,cond_true]
 by_cases h8:(8:Int) < ((a0.getD []).length:Int)
 ·simp only [h8,decide_true,cond_true,ht]
 ·have e22:E22w a0=some (unitsE (a0.getD [])):=exO_of ⟨by omega,hs⟩
  simp only [h8,decide_false,cond_false,e22,obind_at]
  by_cases hE:unitsE (a0.getD [])=0
  ·simp only [hE,decide_true,cond_true,f63,E23,obind_at]
   by_cases hb:checkRange below 1 200001=0
   ·have h1:1≤below∧below≤200001:=by
     unfold checkRange at hb
     split at hb
     ·cases hb
     ·split at hb
      ·cases hb
      ·omega
    simp only [hb,decide_true,Bool.not_true]
    exact tutte_main (by omega) hE h1
   ·simp only [hb,decide_false,Bool.not_false,ht]
  ·simp only [hE,decide_false,cond_false,ht]
theorem I13 (a0:Option (List GUnit)) (below a2:Int) (hs:∀ u∈a0.getD [],sizeW u):callIso pr (X pr) 13 [sl 2 vunit a0,.int .i64 below,.int .u8 a2]=some (.bool true,false):=W13 (tutte_true a0 below a2 hs)
end Go.Z
