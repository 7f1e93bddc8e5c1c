/-
  LineTutte: two families of masks: each mask holds one of the first, or meets not one of the second (checked by the kernel).
-/
import Derived.KernelRfl
import Derived.Test.YtbjckbpblomblaaK1
import Derived.Test.YtbjckbpblomblaaG0m
import Derived.Test.YtbjckbpblomblaaL5
import Derived.Test.YtbjckbpblomblaaR1
import Derived.Test.YtbjckbpblomblaaV4
import Derived.Test.YtbjckbpblomblaaQ6
import Derived.Test.YtbjckbpblomblaaL8
set_option linter.unusedVariables false
set_option linter.unusedSimpArgs false
set_option maxRecDepth 100000
namespace Go.Z
def pmsN:Nat→List Nat→List (List (Nat × Nat))
 | 0,_=>[[]]
 | _ + 1,[]=>[[]]
 | k + 1,a::t=>t.flatMap fun b=>(pmsN k (t.filter fun x=>!Nat.beq x b)).map fun m=>(a,b)::m
end Go.Z
/-
 LineTutte: where all are paired with near ones,no set proves.
-/
namespace Go.Z
open Go Go.Abs
def flatP:List (Nat × Nat)→List Nat
 | []=>[]
 | q::m=>q.1::q.2::flatP m
theorem pms_flat:∀ (k:Nat) (t:List Nat) (m:List (Nat × Nat)),m∈pmsN k t→t.length=2 * k→t.Nodup→(flatP m).Nodup∧∀ x,x∈flatP m↔x∈t
 | 0,t,m,h,ht,_=>by
  have h0:t=[]:=List.length_eq_zero_iff.1 (by omega)
  subst h0
  have:m=[]:=by simpa [pmsN] using h
  subst this
  exact ⟨List.nodup_nil,fun x=>Iff.rfl⟩
 | k + 1,[],m,h,ht,_=>by simp at ht
 | k + 1,a::t,m,h,ht,hn=>by
  obtain ⟨ha,hnt⟩:=List.nodup_cons.1 hn
  unfold pmsN at h
  obtain ⟨b,hb,h⟩:=List.mem_flatMap.1 h
  obtain ⟨m',hm',rfl⟩:=List.mem_map.1 h
  have hf:∀ x,x∈t.filter (fun x=>!Nat.beq x b)↔x∈t∧x ≠ b:=by
   intro x
   rw [List.mem_filter]
   constructor
   ·rintro ⟨h1,h2⟩
    refine ⟨h1,fun e=>?_⟩
    rw [e,Nat.beq_refl] at h2
    cases h2
   ·rintro ⟨h1,h2⟩
    refine ⟨h1,?_⟩
    cases hb:Nat.beq x b with
    | true=>exact absurd (Nat.eq_of_beq_eq_true hb) h2
    | false=>rfl
  have hfn:(t.filter (fun x=>!Nat.beq x b)).Nodup:=hnt.sublist (List.filter_sublist ..)
  have hfl:(t.filter (fun x=>!Nat.beq x b)).length=2 * k:=by
   have e:(t.filter fun x=>!Nat.beq x b)=t.erase b:=by
    rw [hnt.erase_eq_filter]
    apply List.filter_congr
    intro x _
    cases hx:Nat.beq x b with
    | true=>rw [Nat.eq_of_beq_eq_true hx]; simp
    | false=>
     have:x ≠ b:=fun e=>by rw [e,Nat.beq_refl] at hx; cases hx
     simp [this]
   rw [e,List.length_erase_of_mem hb]
   simp only [List.length_cons] at ht
   omega
  obtain ⟨h1,h2⟩:=pms_flat k _ m' hm' hfl hfn
  refine ⟨?_,fun x=>?_⟩
  ·show (a::b::flatP m').Nodup
   refine List.nodup_cons.2 ⟨fun h=>?_,List.nodup_cons.2 ⟨fun h=>((hf b).1 ((h2 b).1 h)).2 rfl,h1⟩⟩
   rcases List.mem_cons.1 h with h | h
   ·exact ha (h ▸ hb)
   ·exact ha ((hf a).1 ((h2 a).1 h)).1
  ·show x∈a::b::flatP m'↔_
   rw [List.mem_cons,List.mem_cons,h2,hf,List.mem_cons]
   constructor
   ·rintro (h | h | ⟨h,_⟩)
    ·exact .inl h
    ·exact .inr (h ▸ hb)
    ·exact .inr h
   ·rintro (h | h)
    ·exact .inl h
    ·by_cases hxb:x=b
     ·exact .inr (.inl hxb)
     ·exact .inr (.inr ⟨h,hxb⟩)
def Mate (m:List (Nat × Nat)) (x y:Int):Prop:=∃ q∈m,(x=(q.1:Int)∧y=(q.2:Int))∨(x=(q.2:Int)∧y=(q.1:Int))
theorem mate_flat {m:List (Nat × Nat)} {x y:Int} (h:Mate m x y):∃ a b:Nat,x=(a:Int)∧y=(b:Int)∧a∈flatP m∧b∈flatP m:=by
 obtain ⟨q,hq,h⟩:=h
 have key:q.1∈flatP m∧q.2∈flatP m:=by
  induction m with
  | nil=>cases hq
  | cons z m ih=>
   rcases List.mem_cons.1 hq with rfl | hq
   ·exact ⟨List.mem_cons_self ..,List.mem_cons_of_mem _ (List.mem_cons_self ..)⟩
   ·exact ⟨List.mem_cons_of_mem _ (List.mem_cons_of_mem _ (ih hq).1),List.mem_cons_of_mem _ (List.mem_cons_of_mem _ (ih hq).2)⟩
 rcases h with ⟨h1,h2⟩ | ⟨h1,h2⟩
 ·exact ⟨q.1,q.2,h1,h2,key.1,key.2⟩
 ·exact ⟨q.2,q.1,h1,h2,key.2,key.1⟩
theorem mate_one {m:List (Nat × Nat)} (hn:(flatP m).Nodup) {x y z:Int} (h:Mate m x y) (h':Mate m x z):y=z:=by
 induction m with
 | nil=>obtain ⟨q,hq,_⟩:=h; cases hq
 | cons q m ih=>
  have hn:(q.1::q.2::flatP m).Nodup:=hn
  obtain ⟨n1,hn⟩:=List.nodup_cons.1 hn
  obtain ⟨n2,hn⟩:=List.nodup_cons.1 hn
  have n12:q.1 ≠ q.2:=fun e=>n1 (e ▸ List.mem_cons_self ..)
  have n1':q.1 ∉ flatP m:=fun h=>n1 (List.mem_cons_of_mem _ h)
  have split:∀ {y:Int},Mate (q::m) x y→((x=(q.1:Int)∧y=(q.2:Int))∨(x=(q.2:Int)∧y=(q.1:Int)))∨Mate m x y:=by
   rintro y ⟨p,hp,hh⟩
   rcases List.mem_cons.1 hp with rfl | hp
   ·exact .inl hh
   ·exact .inr ⟨p,hp,hh⟩
  have out:∀ {y:Int},Mate m x y→x ≠ (q.1:Int)∧x ≠ (q.2:Int):=by
   intro y hh
   obtain ⟨a,b,rfl,rfl,ha,hb⟩:=mate_flat hh
   exact ⟨fun e=>n1' (by rw [← show a=q.1 by omega]; exact ha),fun e=>n2 (by rw [← show a=q.2 by omega]; exact ha)⟩
  rcases split h with h1 | h1
  ·rcases split h' with h2 | h2
   ·rcases h1 with ⟨a1,b1001⟩ | ⟨a1,b1001⟩ <;> rcases h2 with ⟨a2,b1002⟩ | ⟨a2,b1002⟩
    ·rw [b1001,b1002]
    ·exact absurd (by omega) n12
    ·exact absurd (by omega) n12
    ·rw [b1001,b1002]
   ·have:=out h2
    rcases h1 with ⟨a1,_⟩ | ⟨a1,_⟩
    ·exact absurd a1 this.1
    ·exact absurd a1 this.2
  ·rcases split h' with h2 | h2
   ·have:=out h1
    rcases h2 with ⟨a1,_⟩ | ⟨a1,_⟩
    ·exact absurd a1 this.1
    ·exact absurd a1 this.2
   ·exact ih hn h1 h2
theorem even_pairs:∀ (m:List (Nat × Nat)) (D:Int→Bool),(∀ q∈m,D (q.1:Int)=D (q.2:Int))→((flatP m).filter fun (x:Nat)=>D (x:Int)).length % 2=0
 | [],D,_=>rfl
 | q::m,D,h=>by
  have ih:=even_pairs m D fun p hp=>h p (List.mem_cons_of_mem _ hp)
  have hq:=h q (List.mem_cons_self ..)
  show ((q.1::q.2::flatP m).filter fun (x:Nat)=>D (x:Int)).length % 2=0
  rw [List.filter_cons,List.filter_cons]
  cases h1:D (q.1:Int) with
  | true=>
   rw [h1] at hq
   rw [← hq]
   simp only [if_true,List.length_cons]
   omega
  | false=>
   rw [h1] at hq
   rw [← hq]
   simpa using ih
theorem odd_leaves {m:List (Nat × Nat)} (hn:(flatP m).Nodup) {D:List Int} (hD:D.Nodup) (hDm:∀ x∈D,∃ a∈flatP m,x=((a:Nat):Int)) (ho:D.length % 2=1):∃ x y,x∈D∧y ∉ D∧Mate m x y:=by
 have hc:∀ q∈m,memI D (q.1:Int)=memI D (q.2:Int)∨∃ x y,x∈D∧y ∉ D∧Mate m x y:=by
  intro q hq
  cases h1:memI D (q.1:Int) with
  | true=>
   cases h2:memI D (q.2:Int) with
   | true=>exact .inl rfl
   | false=>
    refine .inr ⟨(q.1:Int),(q.2:Int),?_,?_,q,hq,.inl ⟨rfl,rfl⟩⟩
    ·unfold memI at h1; rw [List.contains_eq_mem] at h1; simpa using h1
    ·unfold memI at h2; rw [List.contains_eq_mem] at h2; simpa using h2
  | false=>
   cases h2:memI D (q.2:Int) with
   | true=>
    refine .inr ⟨(q.2:Int),(q.1:Int),?_,?_,q,hq,.inr ⟨rfl,rfl⟩⟩
    ·unfold memI at h2; rw [List.contains_eq_mem] at h2; simpa using h2
    ·unfold memI at h1; rw [List.contains_eq_mem] at h1; simpa using h1
   | false=>exact .inl rfl
 by_cases hall:∀ q∈m,memI D (q.1:Int)=memI D (q.2:Int)
 ·exfalso
  have he:=even_pairs m (memI D) hall
  have hl:((flatP m).filter fun (x:Nat)=>memI D (x:Int)).length=D.length:=by
   have e:(((flatP m).filter fun (x:Nat)=>memI D (x:Int)).map fun (x:Nat)=>(x:Int)).length=D.length:=by
    refine Nat.le_antisymm (nodup_sub_len ?_ fun x hx=>?_) (nodup_sub_len hD fun x hx=>?_)
    ·exact List.Pairwise.map _ (fun a b h e=>h (by omega)) (hn.sublist (List.filter_sublist ..))
    ·obtain ⟨a,ha,rfl⟩:=List.mem_map.1 hx
     exact memI_iff.1 (List.mem_filter.1 ha).2
    ·obtain ⟨a,ha,rfl⟩:=hDm x hx
     exact List.mem_map.2 ⟨a,List.mem_filter.2 ⟨ha,memI_iff.2 hx⟩,rfl⟩
   simpa using e
  omega
 ·obtain ⟨q,hq⟩:=Classical.not_forall.1 hall
  obtain ⟨hq,hne⟩:=Classical.not_imp.1 hq
  rcases hc q hq with h | h
  ·exact absurd h hne
  ·exact h
end Go.Z
/-
 LineTutte: classes with an odd number each,no near pair between two of them: as many parts with an odd number are counted,at least.
-/
namespace Go.Z
open Go Go.Abs
theorem dAt_symm (l:List GUnit) (i j:Int):dAt l i j=dAt l j i:=by
 unfold dAt
 cases l[i.toNat]? with
 | none=>cases l[j.toNat]? <;> rfl
 | some u=>
  cases l[j.toNat]? with
  | none=>rfl
  | some w=>exact diffU_self u w
theorem near_symm (l:List GUnit) (below i j:Int):near l below i j=near l below j i:=by unfold near; rw [dAt_symm]
def taken (n:Nat) (col:Nat→Nat) (t:Nat) (m:List Int):List Int:=((List.range n).map fun (x:Nat)=>(x:Int)).filter fun x=>Nat.beq (col x.toNat) t && !memI m x
theorem taken_mem {n:Nat} {col:Nat→Nat} {t:Nat} {m:List Int} {x:Int}:x∈taken n col t m↔0≤x∧x < (n:Int)∧col x.toNat=t∧x ∉ m:=by
 unfold taken
 rw [List.mem_filter,List.mem_map,Bool.and_eq_true,Bool.not_eq_eq_eq_not,Bool.not_true,memI_not]
 constructor
 ·rintro ⟨⟨a,ha,rfl⟩,h1,h2⟩
  exact ⟨by omega,by have:=List.mem_range.1 ha; omega,Nat.eq_of_beq_eq_true h1,h2⟩
 ·rintro ⟨h1,h2,h3,h4⟩
  exact ⟨⟨x.toNat,List.mem_range.2 (by omega),by omega⟩,by rw [h3]; exact Nat.beq_refl _,h4⟩
theorem taken_nodup {n:Nat} {col:Nat→Nat} {t:Nat} {m:List Int}:(taken n col t m).Nodup:=by
 unfold taken
 refine List.Nodup.sublist (List.filter_sublist ..) ?_
 refine List.Pairwise.map _ (fun a b h=>?_) List.nodup_range
 intro e
 exact h (by omega)
theorem len_same {a b:List Int} (ha:a.Nodup) (hb:b.Nodup) (h:∀ x,x∈a↔x∈b):a.length=b.length:=
 Nat.le_antisymm (nodup_sub_len ha fun x hx=>(h x).1 hx) (nodup_sub_len hb fun x hx=>(h x).2 hx)
def pot (n:Nat) (col:Nat→Nat) (m:List Int):Nat→Nat
 | 0=>0
 | t + 1=>pot n col m t + (taken n col (t + 1) m).length % 2
theorem pot_step {n:Nat} {col:Nat→Nat} {m m' D:List Int} {t0:Nat} (hD:D.Nodup) (hDm:∀ x∈D,x∈m∧0≤x∧x < (n:Int)∧col x.toNat=t0) (hm':∀ x,x∈m'↔x∈m∧x ∉ D):∀ k,pot n col m' k≤pot n col m k + (if t0≤k then D.length % 2 else 0)
 | 0=>by unfold pot; omega
 | k + 1=>by
  have ih:=pot_step hD hDm hm' k
  unfold pot
  by_cases h:t0=k + 1
  ·have e:(taken n col (k + 1) m').length=(taken n col (k + 1) m).length + D.length:=by
    rw [← List.length_append]
    refine len_same taken_nodup (List.nodup_append.2 ⟨taken_nodup,hD,fun a ha b hb hab=>?_⟩) fun x=>?_
    ·exact (taken_mem.1 ha).2.2.2 (hab ▸ (hDm b hb).1)
    ·rw [List.mem_append,taken_mem,taken_mem,hm']
     constructor
     ·rintro ⟨h1,h2,h3,h4⟩
      by_cases hx:x∈m
      ·by_cases hxD:x∈D
       ·exact .inr hxD
       ·exact absurd ⟨hx,hxD⟩ h4
      ·exact .inl ⟨h1,h2,h3,hx⟩
     ·rintro (⟨h1,h2,h3,h4⟩ | hx)
      ·exact ⟨h1,h2,h3,fun hh=>h4 hh.1⟩
      ·obtain ⟨h1,h2,h3,h4⟩:=hDm x hx
       exact ⟨h2,h3,by rw [h4,h],fun hh=>hh.2 hx⟩
   rw [e]
   have h0:¬ t0≤k:=by omega
   rw [if_neg h0] at ih
   rw [if_pos (by omega)]
   omega
  ·have e:(taken n col (k + 1) m').length=(taken n col (k + 1) m).length:=by
    refine len_same taken_nodup taken_nodup fun x=>?_
    rw [taken_mem,taken_mem,hm']
    constructor
    ·rintro ⟨h1,h2,h3,h4⟩
     refine ⟨h1,h2,h3,fun hx=>?_⟩
     by_cases hxD:x∈D
     ·exact h ((hDm x hxD).2.2.2 ▸ h3)
     ·exact h4 ⟨hx,hxD⟩
    ·rintro ⟨h1,h2,h3,h4⟩
     exact ⟨h1,h2,h3,fun hh=>h4 hh.1⟩
   rw [e]
   by_cases h1:t0≤k
   ·rw [if_pos h1] at ih
    rw [if_pos (by omega)]
    omega
   ·rw [if_neg h1] at ih
    rw [if_neg (by omega)]
    omega
theorem near_col {l:List GUnit} {below:Int} {n:Nat} {col:Nat→Nat} (hln:l.length=n) (hno:∀ i j:Nat,i < j→j < n→1≤col i→1≤col j→col i ≠ col j→near l below (i:Int) (j:Int)=false) {x y:Int} (hx0:0≤x) (hxn:x < (n:Int)) (hy0:0≤y) (hyn:y < (n:Int)) (hx:1≤col x.toNat) (hy:1≤col y.toNat) (hxy:near l below x y=true):col x.toNat=col y.toNat:=by
 by_cases he:col x.toNat=col y.toNat
 ·exact he
 ·exfalso
  rcases Int.lt_trichotomy x y with h | h | h
  ·have:=hno x.toNat y.toNat (by omega) (by omega) hx hy he
   rw [show ((x.toNat:Nat):Int)=x by omega,show ((y.toNat:Nat):Int)=y by omega,hxy] at this
   cases this
  ·exact he (by rw [h])
  ·have:=hno y.toNat x.toNat (by omega) (by omega) hy hx (fun e=>he e.symm)
   rw [show ((x.toNat:Nat):Int)=x by omega,show ((y.toNat:Nat):Int)=y by omega,near_symm,hxy] at this
   cases this
set_option maxHeartbeats 1000000 in
theorem loop_many {l:List GUnit} {o':Option (List GUnit)} {below:Int} {col:Nat→Nat} (hu:UnitsOk l) (ho':o'.getD []=l) (hl:l.length≤64)
  (hno:∀ i j:Nat,i < j→j < l.length→1≤col i→1≤col j→col i ≠ col j→near l below (i:Int) (j:Int)=false) (a2:Option (List Int)) (k:Nat):
  ∀ (j i:Nat) (m:List Int) (c:Int),i + j=l.length→m.Nodup→(∀ x∈m,0≤x∧x < (l.length:Int)∧1≤col x.toNat)→(∀ x∈m,(i:Int)≤x∨(i:Int)≤x)→(pot l.length col m k:Int)≤c→0≤c→c≤i →
   ∃ (c':Int),itO (s26_1 o' below a2) (c,(i:Int),m)=some (c',(l.length:Int),[])∧(pot l.length col [] k:Int)≤c'
 | 0,i,m,c,hi,hm,hmc,hlow,hp,hc0,hc=>by
  have hi2:i=l.length:=by omega
  subst hi2
  have hm0:m=[]:=by
   cases m with
   | nil=>rfl
   | cons x m=>
    have h1:=hmc x (List.mem_cons_self ..)
    have h2:=hlow x (List.mem_cons_self ..)
    omega
  subst hm0
  exact ⟨c,itO_out (by unfold s26_1; simp [ho']),hp⟩
 | j + 1,i,m,c,hi,hm,hmc,hlow,hp,hc0,hc=>by
  have hlt:(i:Int) < (l.length:Int):=by omega
  have hw:wrapF .i64 ((i:Int) + 1)=((i + 1:Nat):Int):=wrap_nat (by omega)
  by_cases him:(i:Int)∈m
  ·have hml:m.length≤l.length:=free_len (s:=[]) hm fun x hx=>⟨(hmc x hx).1,(hmc x hx).2.1,by simp⟩
   obtain ⟨D,m',q1,q2,q3,q4⟩:=part_eq (below:=below) hu ho' (by omega) 70 m (i:Int) (by omega) hm (fun x hx=>⟨(hmc x hx).1,(hmc x hx).2.1⟩) him
   have hDl:D.length≤l.length:=free_len (s:=[]) q2.nd fun x hx=>⟨(hmc x (q2.ins x hx)).1,(hmc x (q2.ins x hx)).2.1,by simp⟩
   have hDc:∀ x∈D,x∈m∧0≤x∧x < (l.length:Int)∧col x.toNat=col i:=by
    intro x hx
    have hxm:=q2.ins x hx
    refine ⟨hxm,(hmc x hxm).1,(hmc x hxm).2.1,?_⟩
    have:=q2.least (fun y=>(0≤y∧y < (l.length:Int)∧1≤col y.toNat)∧col y.toNat=col i) ⟨hmc _ him,by simp⟩ (fun y hy z hz hyz=>by
     obtain ⟨⟨y1,y2,y3⟩,y4⟩:=hy
     obtain ⟨z1,z2,z3⟩:=hmc z hz
     exact ⟨⟨z1,z2,z3⟩,by rw [← near_col rfl hno y1 y2 z1 z2 y3 z3 hyz]; exact y4⟩) x hx
    exact this.2
   have hrem:∀ x:Nat,remO (x:Int) 2=some ((x % 2:Nat):Int):=fun x=>by unfold remO; rw [if_neg (by decide)]; rfl
   have e1:s26_1 o' below a2 (c,(i:Int),m)=some (.inl (c + ((D.length % 2:Nat):Int),((i + 1:Nat):Int),m')):=by
    unfold s26_1
    simp only [ho',hlt,decide_true,cond_true,memI_iff.2 him,q1,obind_at,hrem,hw]
    by_cases hz:D.length % 2=0
    ·rw [hz]; simp
    ·have h21:D.length % 2=1:=by omega
     rw [h21]
     have hw3:wrapF .i64 (c + 1)=c + 1:=wrapF_i64 (by omega) (by omega)
     have hne:¬ ((1:Nat):Int)=0:=by decide
     simp only [hne,decide_false,cond_false,hw3]
     rfl
   have hps:=pot_step q2.nd hDc q4 k
   have hps2:pot l.length col m' k≤pot l.length col m k + D.length % 2:=by split at hps <;> omega
   rw [itO_in e1]
   refine loop_many hu ho' hl hno a2 k j (i + 1) m' _ (by omega) q3 (fun x hx=>hmc x ((q4 x).1 hx).1) (fun x hx=>?_) (by omega) (by omega) (by omega)
   have h1:=(q4 x).1 hx
   have h2:=hlow x h1.1
   have h3:x ≠ (i:Int):=fun e=>h1.2 (e ▸ q2.has)
   omega
  ·have e1:s26_1 o' below a2 (c,(i:Int),m)=some (.inl (c,((i + 1:Nat):Int),m)):=by
    unfold s26_1
    simp only [ho',hlt,decide_true,cond_true,memI_not.2 him,cond_false,hw]
   rw [itO_in e1]
   refine loop_many hu ho' hl hno a2 k j (i + 1) m c (by omega) hm hmc (fun x hx=>?_) hp hc0 (by omega)
   have h2:=hlow x hx
   have h3:x ≠ (i:Int):=fun e=>him (e ▸ hx)
   omega
theorem many_odd {l:List GUnit} {o':Option (List GUnit)} {below:Int} {col:Nat→Nat} (hu:UnitsOk l) (ho':o'.getD []=l) (hl:l.length≤64)
  (hno:∀ i j:Nat,i < j→j < l.length→1≤col i→1≤col j→col i ≠ col j→near l below (i:Int) (j:Int)=false) {a2:Option (List Int)} {set:List Int} (h2:a2.getD []=set) (hs:set.length≤64)
  (hcol:∀ i:Nat,i < l.length→(col i=0↔(i:Int)∈set)) (k:Nat):∃ c:Int,f26 o' below a2=some (decide ((set.length:Int) < c))∧(pot l.length col [] k:Int)≤c:=by
 obtain ⟨m,e1,m1,m2⟩:=left_eq (below:=below) (l:=l) ho' rfl hl h2 hs l.length 0 [] (by omega) List.nodup_nil (fun x=>by
  unfold Free; simp only [List.not_mem_nil,false_iff]; rintro ⟨a,b,c⟩; omega)
 have hmc:∀ x∈m,0≤x∧x < (l.length:Int)∧1≤col x.toNat:=by
  intro x hx
  obtain ⟨h1,h3,h4⟩:=(m2 x).1 hx
  refine ⟨h1,h3,?_⟩
  have:=hcol x.toNat (by omega)
  rw [show ((x.toNat:Nat):Int)=x by omega] at this
  have h5:col x.toNat ≠ 0:=fun e=>h4 (this.1 e)
  omega
 have hp0:pot l.length col m k=0:=by
  induction k with
  | zero=>rfl
  | succ k ih=>
   unfold pot
   rw [ih]
   have:taken l.length col (k + 1) m=[]:=by
    rw [List.eq_nil_iff_forall_not_mem]
    intro x hx
    obtain ⟨h1,h3,h4,h5⟩:=taken_mem.1 hx
    refine h5 ((m2 x).2 ⟨h1,h3,fun hin=>?_⟩)
    have:=hcol x.toNat (by omega)
    rw [show ((x.toNat:Nat):Int)=x by omega] at this
    have:=this.2 hin
    omega
   rw [this]
   rfl
 obtain ⟨c,e2,hc⟩:=loop_many hu ho' hl hno a2 k l.length 0 m 0 (by omega) m1 hmc (fun x hx=>.inl (by have:=(hmc x hx).1; omega)) (by rw [hp0]; exact Int.le_refl _) (by omega) (by omega)
 refine ⟨c,?_,hc⟩
 unfold f26
 rw [Int.natCast_zero] at e1 e2
 rw [e1]
 simp only [obind_at,e2,h2]
end Go.Z
/-
 LineTutte: all units are paired with near ones,or a set is told that the product counts as a proof.
-/
namespace Go.Z
open Go Go.Abs
structure SetOk (n:Nat) (set:List Int):Prop where
 asc:set.Pairwise (· < ·)
 ins:∀ x∈set,0≤x∧x < (n:Int)
end Go.Z
/-
 LineTutte: arrays of truth values,arrays of eight numbers: the pieces for the printed walks.
-/
namespace Go.Z
open Go Go.Abs
section
variable {p:AProg} {xc:XC} {h0:Nat} {al:Option (List Nat)} {e:Env} {h:Heap} {α:Type}
@[go_sem] theorem below_bvals {n:Nat} {l:List Bool}:belowL n (l.map AVal.bool)=true:=by
 induction l with
 | nil=>simp [belowL]
 | cons x l ih=>simp [belowL,below,ih]
end
end Go.Z
/-
 LineTutte: the reference's check of units of any size.
-/
namespace Go.Z
open Go Go.Abs
noncomputable def E4w (o:Option (List GUnit)):Option Int:=exO ((o.getD []).length≤1073741824∧∀ u∈o.getD [],sizeW u) (unitsE (o.getD []))
theorem WE4w {o r} (h:E4w o=some r):callIso pr (X pr) 4 [sl 2 vunit o]=some (.int .i64 r,false):=by obtain ⟨⟨h1,h2⟩,rfl⟩:=exO_some h; exact I4w _ h1 h2
end Go.Z
/-
 LineTutte: the law's own search for a pairing.
-/
namespace Go.Z
open Go Go.Abs
def pmB (l:List GUnit) (below:Int):Nat→List Nat→Bool
 | _,[]=>true
 | 0,_::_=>false
 | k + 1,a::t=>t.any fun b=>near l below (a:Int) (b:Int) && pmB l below k (t.filter fun x=>!Nat.beq x b)
section
variable {l:List GUnit} {o:Option (List GUnit)} {below:Int}
theorem pmB_even:∀ (k:Nat) (t:List Nat),t.length=2 * k→t.Nodup→(pmB l below k t=true↔∃ m∈pmsN k t,∀ q∈m,near l below (q.1:Int) (q.2:Int)=true)
 | 0,t,ht,_=>by
  have h0:t=[]:=List.length_eq_zero_iff.1 (by omega)
  subst h0
  exact ⟨fun _=>⟨[],by simp [pmsN],by simp⟩,fun _=>rfl⟩
 | k + 1,[],ht,_=>by simp at ht
 | k + 1,a::t,ht,hn=>by
  obtain ⟨ha,hnt⟩:=List.nodup_cons.1 hn
  unfold pmB pmsN
  rw [List.any_eq_true]
  have hlen:∀ b∈t,(t.filter fun x=>!Nat.beq x b).length=2 * k:=by
   intro b hb
   have e:(t.filter fun x=>!Nat.beq x b)=t.erase b:=by
    rw [hnt.erase_eq_filter]
    apply List.filter_congr
    intro x _
    cases hx:Nat.beq x b with
    | true=>rw [Nat.eq_of_beq_eq_true hx]; simp
    | false=>
     have:x ≠ b:=fun e=>by rw [e,Nat.beq_refl] at hx; cases hx
     simp [this]
   rw [e,List.length_erase_of_mem hb]
   simp only [List.length_cons] at ht
   omega
  constructor
  ·rintro ⟨b,hb,h⟩
   rw [Bool.and_eq_true] at h
   obtain ⟨m,hm,hh⟩:=(pmB_even k _ (hlen b hb) (hnt.sublist (List.filter_sublist ..))).1 h.2
   refine ⟨(a,b)::m,List.mem_flatMap.2 ⟨b,hb,List.mem_map.2 ⟨m,hm,rfl⟩⟩,fun q hq=>?_⟩
   rcases List.mem_cons.1 hq with rfl | hq
   ·exact h.1
   ·exact hh q hq
  ·rintro ⟨m,hm,hh⟩
   obtain ⟨b,hb,hm⟩:=List.mem_flatMap.1 hm
   obtain ⟨m',hm',rfl⟩:=List.mem_map.1 hm
   refine ⟨b,hb,?_⟩
   rw [Bool.and_eq_true]
   exact ⟨hh (a,b) (List.mem_cons_self ..),(pmB_even k _ (hlen b hb) (hnt.sublist (List.filter_sublist ..))).2 ⟨m',hm',fun q hq=>hh q (List.mem_cons_of_mem _ hq)⟩⟩
end
end Go.Z
/-
 LineTutte: where all are paired with near ones,no set proves.
-/
namespace Go.Z
open Go Go.Abs
section
variable {l:List GUnit} {o':Option (List GUnit)} {below:Int}
theorem mate_symm {m:List (Nat × Nat)} {x y:Int} (h:Mate m x y):Mate m y x:=by
 obtain ⟨q,hq,h | h⟩:=h
 ·exact ⟨q,hq,.inr ⟨h.2,h.1⟩⟩
 ·exact ⟨q,hq,.inl ⟨h.2,h.1⟩⟩
structure Paired (l:List GUnit) (below:Int) (m:List (Nat × Nat)):Prop where
 nd:(flatP m).Nodup
 all:∀ x,x∈flatP m↔x < l.length
 near:∀ q∈m,Go.Z.near l below (q.1:Int) (q.2:Int)=true
theorem Paired.mate {m:List (Nat × Nat)} (h:Paired l below m) {x y:Int} (hm:Mate m x y):Go.Z.near l below x y=true:=by
 obtain ⟨q,hq,⟨rfl,rfl⟩ | ⟨rfl,rfl⟩⟩:=hm
 ·exact h.near q hq
 ·rw [near_symm]; exact h.near q hq
set_option maxHeartbeats 1000000 in
theorem loop_few {pm:List (Nat × Nat)} (hu:UnitsOk l) (ho':o'.getD []=l) (hl:l.length≤64) (hpm:Paired l below pm) {set:List Int} (a2:Option (List Int)):
  ∀ (j i:Nat) (m us:List Int),i + j=l.length→m.Nodup→(∀ x∈m,Free l.length set x)→(∀ x∈m,∀ y,Free l.length set y→near l below x y=true→y∈m)→(∀ x∈m,(i:Int)≤x)→us.Nodup→(∀ u∈us,u∈set∧∃ x,x ∉ m∧Free l.length set x∧Mate pm x u)→us.length≤i →
   ∃ (us':List Int),itO (s26_1 o' below a2) ((us.length:Int),(i:Int),m)=some ((us'.length:Int),(l.length:Int),[])∧us'.Nodup∧∀ u∈us',u∈set
 | 0,i,m,us,hi,hm,hmf,hmc,hlow,hus,hum,hul=>by
  have hi2:i=l.length:=by omega
  subst hi2
  have hm0:m=[]:=by
   cases m with
   | nil=>rfl
   | cons x m=>
    have h1:=hmf x (List.mem_cons_self ..)
    have h2:=hlow x (List.mem_cons_self ..)
    unfold Free at h1
    omega
  subst hm0
  exact ⟨us,itO_out (by unfold s26_1; simp [ho']),hus,fun u h=>(hum u h).1⟩
 | j + 1,i,m,us,hi,hm,hmf,hmc,hlow,hus,hum,hul=>by
  have hlt:(i:Int) < (l.length:Int):=by omega
  have hw:wrapF .i64 ((i:Int) + 1)=((i + 1:Nat):Int):=wrap_nat (by omega)
  by_cases him:(i:Int)∈m
  ·have hml:m.length≤l.length:=free_len (s:=set) hm hmf
   obtain ⟨D,m',q1,q2,q3,q4⟩:=part_eq (below:=below) hu ho' (by omega) 70 m (i:Int) (by omega) hm (fun x hx=>⟨(hmf x hx).1,(hmf x hx).2.1⟩) him
   have hrem:∀ x:Nat,remO (x:Int) 2=some ((x % 2:Nat):Int):=fun x=>by unfold remO; rw [if_neg (by decide)]; rfl
   have hclos:∀ x∈m',∀ y,Free l.length set y→near l below x y=true→y∈m':=by
    intro x hx y hy hxy
    obtain ⟨hxm,hxD⟩:=(q4 x).1 hx
    refine (q4 y).2 ⟨hmc x hxm y hy hxy,fun hyD=>hxD ?_⟩
    exact q2.closed y hyD x hxm (by rw [near_symm]; exact hxy)
   have hlow':∀ x∈m',((i + 1:Nat):Int)≤x:=by
    intro x hx
    have h1:=(q4 x).1 hx
    have h2:=hlow x h1.1
    have h3:x ≠ (i:Int):=fun e=>h1.2 (e ▸ q2.has)
    omega
   have hum':∀ u∈us,u∈set∧∃ x,x ∉ m'∧Free l.length set x∧Mate pm x u:=fun u hu'=>by
    obtain ⟨h1,x,h2,h3⟩:=hum u hu'
    exact ⟨h1,x,fun hx=>h2 ((q4 x).1 hx).1,h3⟩
   by_cases hz:D.length % 2=0
   ·have e1:s26_1 o' below a2 ((us.length:Int),(i:Int),m)=some (.inl ((us.length:Int),((i + 1:Nat):Int),m')):=by
     unfold s26_1
     simp only [ho',hlt,decide_true,cond_true,memI_iff.2 him,q1,obind_at,hrem,hw,hz]
     simp
    rw [itO_in e1]
    exact loop_few hu ho' hl hpm a2 j (i + 1) m' us (by omega) q3 (fun x hx=>hmf x ((q4 x).1 hx).1) hclos hlow' hus hum' (by omega)
   ·have h21:D.length % 2=1:=by omega
    obtain ⟨x,y,hxD,hyD,hxy⟩:=odd_leaves hpm.nd q2.nd (fun x hx=>by
     have:=hmf x (q2.ins x hx)
     unfold Free at this
     exact ⟨x.toNat,(hpm.all _).2 (by omega),by omega⟩) h21
    have hnear:=hpm.mate hxy
    have hxm:=q2.ins x hxD
    have hyr:0≤y∧y < (l.length:Int):=by
     obtain ⟨a,b,_,rfl,_,hb⟩:=mate_flat hxy
     have:=(hpm.all b).1 hb
     omega
    have hys:y∈set:=by
     by_cases h:y∈set
     ·exact h
     ·exfalso
      have hym:=hmc x hxm y ⟨hyr.1,hyr.2,h⟩ hnear
      exact hyD (q2.closed x hxD y hym hnear)
    have hyu:y ∉ us:=by
     intro h
     obtain ⟨_,x',h2,_,h4⟩:=hum y h
     have:x=x':=mate_one hpm.nd (mate_symm hxy) (mate_symm h4)
     exact h2 (this ▸ hxm)
    have hne:¬ ((1:Nat):Int)=0:=by decide
    have hw3:wrapF .i64 ((us.length:Int) + 1)=(((y::us).length:Nat):Int):=by rw [wrapF_i64 (by omega) (by omega),List.length_cons]; omega
    have e1:s26_1 o' below a2 ((us.length:Int),(i:Int),m)=some (.inl (((y::us).length:Int),((i + 1:Nat):Int),m')):=by
     unfold s26_1
     simp only [ho',hlt,decide_true,cond_true,memI_iff.2 him,q1,obind_at,hrem,hw,h21,hne,decide_false,cond_false,hw3]
    rw [itO_in e1]
    refine loop_few hu ho' hl hpm a2 j (i + 1) m' (y::us) (by omega) q3 (fun x hx=>hmf x ((q4 x).1 hx).1) hclos hlow' (List.nodup_cons.2 ⟨hyu,hus⟩) (fun u hu'=>?_) (by simp only [List.length_cons]; omega)
    rcases List.mem_cons.1 hu' with rfl | hu'
    ·exact ⟨hys,x,fun hx=>((q4 x).1 hx).2 hxD,hmf x hxm,hxy⟩
    ·exact hum' u hu'
  ·have e1:s26_1 o' below a2 ((us.length:Int),(i:Int),m)=some (.inl ((us.length:Int),((i + 1:Nat):Int),m)):=by
    unfold s26_1
    simp only [ho',hlt,decide_true,cond_true,memI_not.2 him,cond_false,hw]
   rw [itO_in e1]
   refine loop_few hu ho' hl hpm a2 j (i + 1) m us (by omega) hm hmf hmc (fun x hx=>?_) hus hum (by omega)
   have h2:=hlow x hx
   have h3:x ≠ (i:Int):=fun e=>him (e ▸ hx)
   omega
theorem paired_none {pm:List (Nat × Nat)} (hu:UnitsOk l) (ho':o'.getD []=l) (hl:l.length≤64) (hpm:Paired l below pm) {a2:Option (List Int)} (hs:(a2.getD []).length≤64):f26 o' below a2=some false:=by
 obtain ⟨m,e1,m1,m2⟩:=left_eq (below:=below) (l:=l) ho' rfl hl (a2:=a2) rfl hs l.length 0 [] (by omega) List.nodup_nil (fun x=>by
  unfold Free; simp only [List.not_mem_nil,false_iff]; rintro ⟨a,b,c⟩; omega)
 obtain ⟨us,e2,h1,h2⟩:=loop_few hu ho' hl hpm (set:=a2.getD []) a2 l.length 0 m [] (by omega) m1 (fun x hx=>(m2 x).1 hx) (fun x _ y hy _=>(m2 y).2 hy) (fun x hx=>by have:=((m2 x).1 hx).1; omega) List.nodup_nil (by simp) (by simp)
 have hle:=nodup_sub_len h1 h2
 unfold f26
 rw [Int.natCast_zero] at e1 e2
 rw [e1]
 simp only [obind_at,List.length_nil,Int.natCast_zero] at e2 ⊢
 rw [e2]
 have:¬ ((a2.getD []).length:Int) < (us.length:Int):=by omega
 simp only [obind_at,this,decide_false]
theorem pms_paired {m:List (Nat × Nat)} (h2:l.length % 2=0) (hm:m∈pmsN (l.length / 2) (List.range l.length)) (hn:∀ q∈m,near l below (q.1:Int) (q.2:Int)=true):Paired l below m:=by
 obtain ⟨h1,h3⟩:=pms_flat _ _ m hm (by rw [List.length_range]; omega) List.nodup_range
 exact ⟨h1,fun x=>by rw [h3,List.mem_range],hn⟩
end
end Go.Z
/-
 LineTutte: the best pairing's value is below a number where all can be paired with differences below it.
-/
namespace Go.Z
open Go Go.Abs
section
variable {β ι:Type}
theorem foldG_lt (r:ι→β × Int) (e:Int):∀ (l:List ι) (a s:β × Int),l.foldl (fun st b=>updG st (r b)) (some a)=some s→(s.2 < e↔a.2 < e∨∃ b∈l,(r b).2 < e)
 | [],a,s,h=>by cases h; simp
 | b::l,a,s,h=>by
  rw [List.foldl_cons] at h
  have:updG (some a) (r b)=some (if (r b).2 < a.2 then r b else a):=by
   unfold updG; simp only []; split <;> rfl
  rw [this] at h
  rw [foldG_lt r e l _ s h]
  constructor
  ·rintro (h1 | ⟨c,hc,h1⟩)
   ·split at h1
    ·exact .inr ⟨b,List.mem_cons_self ..,h1⟩
    ·exact .inl h1
   ·exact .inr ⟨c,List.mem_cons_of_mem _ hc,h1⟩
  ·rintro (h1 | ⟨c,hc,h1⟩)
   ·left
    split
    ·omega
    ·exact h1
   ·rcases List.mem_cons.1 hc with rfl | hc
    ·left
     split
     ·exact h1
     ·omega
    ·exact .inr ⟨c,hc,h1⟩
end
variable {l:List GUnit} {below:Int}
theorem pmB_succ {k a:Nat} {t:List Nat}:pmB l below (k + 1) (a::t)=t.any fun b=>near l below (a:Int) (b:Int) && pmB l below k (t.filter fun x=>!Nat.beq x b):=rfl
theorem best_lt:∀ (k:Nat) (t:List Nat) (p:List GPair),t.length=2 * k→t.Nodup→((bestP l k (t.map fun (x:Nat)=>(x:Int)) p).2 < below↔worstP l p < below∧pmB l below k t=true)
 | 0,t,p,ht,_=>by
  have h0:t=[]:=List.length_eq_zero_iff.1 (by omega)
  subst h0
  show worstP l p < below↔_
  have:pmB l below 0 []=true:=rfl
  rw [this]; simp
 | k + 1,[],p,ht,_=>by simp at ht
 | k + 1,a::t,p,ht,hn=>by
  obtain ⟨ha,hnt⟩:=List.nodup_cons.1 hn
  have hlen:∀ b∈t,(t.filter fun x=>!Nat.beq x b).length=2 * k:=by
   intro b hb
   have e:(t.filter fun x=>!Nat.beq x b)=t.erase b:=by
    rw [hnt.erase_eq_filter]
    apply List.filter_congr
    intro x _
    cases hx:Nat.beq x b with
    | true=>rw [Nat.eq_of_beq_eq_true hx]; simp
    | false=>
     have:x ≠ b:=fun e=>by rw [e,Nat.beq_refl] at hx; cases hx
     simp [this]
   rw [e,List.length_erase_of_mem hb]
   simp only [List.length_cons] at ht
   omega
  have hfil:∀ b:Nat,((t.map fun (x:Nat)=>(x:Int)).filter fun x=>x != (b:Int))=(t.filter fun x=>!Nat.beq x b).map fun (x:Nat)=>(x:Int):=by
   intro b
   rw [List.filter_map]
   congr 1
   apply List.filter_congr
   intro x _
   show ((x:Int) != (b:Int))=_
   cases hx:Nat.beq x b with
   | true=>rw [Nat.eq_of_beq_eq_true hx]; simp
   | false=>
    have:x ≠ b:=fun e=>by rw [e,Nat.beq_refl] at hx; cases hx
    have:(x:Int) ≠ (b:Int):=fun e=>this (by omega)
    simp [this]
  have ih:∀ b∈t,((bestP l k ((t.map fun (x:Nat)=>(x:Int)).filter fun x=>x != (b:Int)) (p++[⟨(a:Int),(b:Int)⟩])).2 < below↔worstP l p < below∧(near l below (a:Int) (b:Int) && pmB l below k (t.filter fun x=>!Nat.beq x b))=true):=by
   intro b hb
   rw [hfil,best_lt k _ _ (hlen b hb) (hnt.sublist (List.filter_sublist ..)),worstP_snoc,Bool.and_eq_true]
   have:near l below (a:Int) (b:Int)=true↔dAt l (a:Int) (b:Int) < below:=decide_eq_true_iff
   rw [this]
   dsimp only
   constructor
   ·rintro ⟨h1,h2⟩; exact ⟨by omega,by omega,h2⟩
   ·rintro ⟨h1,h2,h3⟩; exact ⟨by omega,h3⟩
  cases t with
  | nil=>simp at ht; omega
  | cons b t=>
   have hb:bestP l (k + 1) ((a::b::t).map fun (x:Nat)=>(x:Int)) p=((t.map fun (x:Nat)=>(x:Int)).foldl (fun st c=>updG st (bestP l k (((b::t).map fun (x:Nat)=>(x:Int)).filter fun x=>x != c) (p++[⟨(a:Int),c⟩]))) (some (bestP l k (((b::t).map fun (x:Nat)=>(x:Int)).filter fun x=>x != (b:Int)) (p++[⟨(a:Int),(b:Int)⟩])))).getD (p,0):=rfl
   obtain ⟨s,hs⟩:=foldG_some (fun c:Int=>bestP l k (((b::t).map fun (x:Nat)=>(x:Int)).filter fun x=>x != c) (p++[⟨(a:Int),c⟩])) (t.map fun (x:Nat)=>(x:Int)) (bestP l k (((b::t).map fun (x:Nat)=>(x:Int)).filter fun x=>x != (b:Int)) (p++[⟨(a:Int),(b:Int)⟩]))
   rw [hb,hs]
   show s.2 < below↔_
   rw [foldG_lt _ below _ _ s hs,ih b (List.mem_cons_self ..)]
   rw [pmB_succ,List.any_cons,Bool.or_eq_true,List.any_eq_true]
   constructor
   ·rintro (⟨h1,h2⟩ | ⟨c,hc,h⟩)
    ·exact ⟨h1,.inl h2⟩
    ·obtain ⟨c',hc',rfl⟩:=List.mem_map.1 hc
     have:=(ih c' (List.mem_cons_of_mem _ hc')).1 h
     exact ⟨this.1,.inr ⟨c',hc',this.2⟩⟩
   ·rintro ⟨h1,h2 | ⟨c,hc,h⟩⟩
    ·exact .inl ⟨h1,h2⟩
    ·exact .inr ⟨(c:Int),List.mem_map.2 ⟨c,hc,rfl⟩,(ih c (List.mem_cons_of_mem _ hc)).2 ⟨h1,h⟩⟩
theorem best_below (h2:l.length % 2=0) (hb:0 < below):(bestP l (l.length / 2) (allI l.length) []).2 < below↔pmB l below (l.length / 2) (List.range l.length)=true:=by
 have ha:allI l.length=(List.range l.length).map fun (x:Nat)=>(x:Int):=by
  unfold allI; rw [lf_all,List.range_eq_range']
 rw [ha,best_lt _ _ _ (by rw [List.length_range]; omega) List.nodup_range]
 have:worstP l []=0:=rfl
 rw [this]
 exact ⟨fun h=>h.2,fun h=>⟨hb,h⟩⟩
end Go.Z
/-
 LineTutte: labels: after as many rounds as there are numbers each has the least number of its part.
-/
namespace Go.Z
open Go Go.Abs
inductive Reach (L:Int→Prop) (adj:Int→Int→Bool):Int→Int→Prop
 | refl (x:Int):Reach L adj x x
 | step {x y z:Int}:Reach L adj x y→L z→adj y z=true→Reach L adj x z
section
variable {L:Int→Prop} {adj:Int→Int→Bool}
theorem Reach.trans {x y z:Int} (h:Reach L adj x y) (h':Reach L adj y z):Reach L adj x z:=by
 induction h' with
 | refl=>exact h
 | step _ hz ha ih=>exact .step ih hz ha
theorem Reach.symm (hs:∀ x y,adj x y=adj y x) {x y:Int} (hx:L x) (h:Reach L adj x y):L y∧Reach L adj y x:=by
 induction h with
 | refl=>exact ⟨hx,.refl _⟩
 | step _ hz ha ih=>
  refine ⟨hz,?_⟩
  exact Reach.trans (.step (.refl _) ih.1 (by rw [hs]; exact ha)) ih.2
end
end Go.Z
/-
 LineTutte: what the product proves and checks of sets in order.
-/
namespace Go.Z
open Go Go.Abs
theorem E12_zz:E12 (some [0,0])=some 0:=by rw [E12_2]; rfl
theorem loop61 {o:Option (List GUnit)} {below:Int} {a2:Option (List Int)} {n:Nat} (ho:(o.getD []).length=n) (hn:n≤64) (hs:SetOk n (a2.getD [])):∀ (k i:Nat),i + k=(a2.getD []).length→itO (s11_0 o below a2) (i:Int)=some (.inr ((a2.getD []).length:Int))
 | 0,i,hi=>by
  have:¬ (i:Int) < ((a2.getD []).length:Int):=by omega
  have hil:i=(a2.getD []).length:=by omega
  refine itO_out ?_
  unfold s11_0
  simp only [this,decide_false,cond_false]
  rw [hil]
 | k + 1,i,hi=>by
  have hl:(a2.getD []).length≤n:=free_len (s:=[]) (hs.asc.imp (fun h e=>by omega)) fun x hx=>⟨(hs.ins x hx).1,(hs.ins x hx).2,by simp⟩
  have hlt:(i:Int) < ((a2.getD []).length:Int):=by omega
  have hw:wrapF .i64 ((i:Int) + 1)=((i + 1:Nat):Int):=wrap_nat (by omega)
  have hx:=hs.ins _ (List.getElem_mem (l:=a2.getD []) (n:=i) (by omega))
  have hix:idxO (a2.getD []) (i:Int)=some ((a2.getD [])[i]'(by omega)):=by rw [idxO_nat,List.getElem?_eq_getElem (by omega)]
  have h1:¬ (a2.getD [])[i]'(by omega) < 0:=by omega
  have h2:¬ (n:Int)≤(a2.getD [])[i]'(by omega):=by omega
  have e0:∀ e:Int,E58 false e=some 0:=fun e=>rfl
  have step:s11_0 o below a2 (i:Int)=some (.inl ((i + 1:Nat):Int)):=by
   unfold s11_0
   by_cases h0:0 < i
   ·have h0':(0:Int) < (i:Int):=by omega
    have hw1:wrapF .i64 ((i:Int) - 1)=((i - 1:Nat):Int):=by rw [wrapF_i64 (by omega) (by omega)]; omega
    have hmx:max (0:Int) ((i - 1:Nat):Int)=((i - 1:Nat):Int):=by omega
    have hix2:idxO (a2.getD []) ((i - 1:Nat):Int)=some ((a2.getD [])[i - 1]'(by omega)):=by rw [idxO_nat,List.getElem?_eq_getElem (by omega)]
    have hlt2:=List.pairwise_iff_getElem.1 hs.asc (i - 1) i (by omega) (by omega) (by omega)
    have h3:¬ (a2.getD [])[i]'(by omega)≤(a2.getD [])[i - 1]'(by omega):=by omega
    simp only [hlt,decide_true,cond_true,hix,obind_at,h1,decide_false,cond_false,ho,h2,e0,h0',hw1,hmx,hix2,h3,E12_zz,hw]
   ·have h0':¬ (0:Int) < (i:Int):=by omega
    simp only [hlt,decide_true,cond_true,hix,obind_at,h1,decide_false,cond_false,ho,h2,e0,h0',E12_zz,hw]
  rw [itO_in step]
  exact loop61 ho hn hs k (i + 1) (by omega)
theorem f11_set {l:List GUnit} {o:Option (List GUnit)} {below:Int} {a2:Option (List Int)} (ho:o.getD []=l) (e22:E4 o=some 0) (hn:l.length≤64) (hb:1≤below∧below≤200001) (hs:SetOk l.length (a2.getD [])) {b:Bool} (h:f26 o below a2=some b):f11 o below a2=some (if b then 0 else 22):=by
 have hl:=loop61 (below:=below) (a2:=a2) (n:=l.length) (o:=o) (by rw [ho]) hn hs (a2.getD []).length 0 (by omega)
 rw [Int.natCast_zero] at hl
 have hc:checkRange below 1 200001=0:=by
  unfold checkRange
  simp only [show ¬ below < 1 by omega,show ¬ below > 200001 by omega,if_false]
  try rfl
 have hf:firstNZ [0,checkRange below 1 200001]=0:=by rw [hc]; rfl
 unfold f11 f24
 simp only [e22,obind_at,E49,E12_2,hf,decide_true,cond_true,hl,h]
 cases b <;> rfl
end Go.Z
/-
 LineTutte: the best pairing is accepted.
-/
namespace Go.Z
open Go Go.Abs
theorem memI_false {l:List Int} {k:Int} (h:k ∉ l):memI l k=false:=by
 unfold memI
 rw [List.contains_eq_mem]
 exact decide_eq_false h
theorem bestP_form {l:List GUnit} {n:Nat}:∀ (m:Nat) (left:List Int) (p:List GPair),LeftOk n left→left.Pairwise (· < ·)→left.length=2 * m →
  ∃ s,(bestP l m left p).1=p++s∧∀ (seen:List Int) (last:Int),(∀ x∈left,x ∉ seen∧last < x)→pairsX (n:Int) seen last s=0
 | 0,left,p,_,_,_=>⟨[],by unfold bestP; simp,fun _ _ _=>rfl⟩
 | m + 1,left,p,hk,ho,hl=>by
  have h:=bestP_fold (l:=l) (p:=p) hl none
  have ih:∀ b∈left.tail,∃ s,(bestP l m (left.tail.filter fun x=>x != b) (p++[⟨left.headD 0,b⟩])).1=p++s∧∀ (seen:List Int) (last:Int),(∀ x∈left,x ∉ seen∧last < x)→pairsX (n:Int) seen last s=0:=by
   intro b hb
   obtain ⟨s,e,hs⟩:=bestP_form (l:=l) m _ (p++[⟨left.headD 0,b⟩]) (hk.next b) ((ho.sublist (List.tail_sublist _)).sublist (List.filter_sublist ..)) (next_len hk hl hb)
   refine ⟨⟨left.headD 0,b⟩::s,by rw [e,List.append_assoc]; rfl,fun seen last hsl=>?_⟩
   cases left with
   | nil=>simp at hb
   | cons a t=>
    have hb:b∈t:=hb
    have hab:a < b:=(List.pairwise_cons.1 ho).1 b hb
    have ha:=hk.ins a (List.mem_cons_self ..)
    have hb2:=hk.ins b (List.mem_cons_of_mem _ hb)
    have hsa:=hsl a (List.mem_cons_self ..)
    have hsb:=hsl b (List.mem_cons_of_mem _ hb)
    have hz:pairX (n:Int) seen last ⟨a,b⟩=0:=by
     unfold pairX
     dsimp only
     rw [memI_false hsa.1,memI_false hsb.1,if_neg (by omega),if_neg (by omega),if_neg (by simp)]
    show pairsX (n:Int) seen last (⟨a,b⟩::s)=0
    unfold pairsX
    rw [if_pos hz]
    refine hs _ _ fun x hx=>?_
    have hxt:=(List.mem_filter.1 hx).1
    have hxb:x ≠ b:=by
     have:=(List.mem_filter.1 hx).2
     intro e
     rw [e] at this
     simp at this
    have hxt:x∈t:=hxt
    have hax:a < x:=(List.pairwise_cons.1 ho).1 x hxt
    have hxs:=hsl x (List.mem_cons_of_mem _ hxt)
    refine ⟨?_,hax⟩
    intro hm
    rcases List.mem_append.1 hm with hm | hm
    ·exact hxs.1 hm
    ·simp only [List.mem_cons,List.not_mem_nil,or_false] at hm
     omega
  cases ht:left.tail with
  | nil=>have:=List.length_tail (l:=left); rw [ht] at this; simp at this; omega
  | cons b t=>
   rw [ht] at h ih
   rw [List.foldl_cons] at h
   rcases foldG_is (fun b'=>bestP l m ((b::t).filter fun x=>x != b') (p++[⟨left.headD 0,b'⟩])) t _ _ h with e | ⟨c,hc,e⟩
   ·have:=ih b (List.mem_cons_self ..)
    rw [e]
    exact this
   ·have:=ih c (List.mem_cons_of_mem _ hc)
    rw [e]
    exact this
theorem allI_asc (n:Nat):(allI n).Pairwise (· < ·):=by
 unfold allI
 rw [lf_all]
 refine List.Pairwise.map _ (fun a b h=>?_) List.pairwise_lt_range'
 omega
theorem best_accepted {l:List GUnit} (hu:UnitsOk l) (h2:l.length % 2=0):pairsX (l.length:Int) [] (-1) (bestP l (l.length / 2) (allI l.length) []).1=0∧(bestP l (l.length / 2) (allI l.length) []).1.length=l.length / 2 ∧
  (bestP l (l.length / 2) (allI l.length) []).2=worstP l (bestP l (l.length / 2) (allI l.length) []).1∧0≤(bestP l (l.length / 2) (allI l.length) []).2∧(bestP l (l.length / 2) (allI l.length) []).2≤200000:=by
 have hlen:(allI l.length).length=2 * (l.length / 2):=by rw [allI_len]; omega
 obtain ⟨s,e,hs⟩:=bestP_form (l:=l) (n:=l.length) (l.length / 2) (allI l.length) [] (allI_ok _) (allI_asc _) hlen
 obtain ⟨g1,g2,g3⟩:=bestP_is (l:=l) (n:=l.length) (l.length / 2) (allI l.length) [] (allI_ok _) hlen (fun q hq=>by cases hq)
 refine ⟨?_,by simpa using g1,g2,?_⟩
 ·rw [e,List.nil_append]
  exact hs _ _ fun x hx=>⟨by simp,by have:=(allI_ok l.length).ins x hx; omega⟩
 ·rw [g2]
  exact worst_bounds hu _
end Go.Z
