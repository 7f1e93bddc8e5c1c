/-
  Parts of a set of numbers that hang together: what a part is; two parts of one number have as many.
-/
import Derived.Test.YtbjckbpblomblaaQ1
import Derived.Test.YtbjckbpblomblaaV1
import Derived.Test.YtbjckbpblomblaaV4
set_option linter.unusedVariables false
set_option linter.unusedSimpArgs false
set_option maxRecDepth 100000
namespace Go.Z
open Go Go.Abs
theorem nodup_sub_len:∀ {l m:List Int},l.Nodup→(∀ x∈l,x∈m)→l.length≤m.length
 | [],m,_,_=>Nat.zero_le _
 | a::t,m,h,hs=>by
  obtain ⟨h1,h2⟩:=List.nodup_cons.1 h
  have ha:=hs a (List.mem_cons_self ..)
  have hlen:(m.erase a).length=m.length - 1:=List.length_erase_of_mem ha
  have hpos:0 < m.length:=List.length_pos_of_mem ha
  have:=nodup_sub_len (m:=m.erase a) h2 fun x hx=>by
   have hne:x ≠ a:=fun e=>h1 (e ▸ hx)
   exact (List.mem_erase_of_ne hne).2 (hs x (List.mem_cons_of_mem _ hx))
  simp only [List.length_cons]
  omega
structure IsPart (adj:Int→Int→Bool) (L:Int→Prop) (i:Int) (C:List Int):Prop where
 nd:C.Nodup
 has:i∈C
 ins:∀ x∈C,L x
 closed:∀ x∈C,∀ y,L y→adj x y=true→y∈C
 least:∀ E:Int→Prop,E i→(∀ x,E x→∀ y,L y→adj x y=true→E y)→∀ x∈C,E x
variable {adj:Int→Int→Bool} {L L':Int→Prop} {i:Int} {C C':List Int}
theorem IsPart.mem (h:IsPart adj L i C) (h':IsPart adj L' i C') (hL:∀ x,L x↔L' x) {x:Int} (hx:x∈C):x∈C':=
 h.least (·∈C') h'.has (fun x hx y hy ha=>h'.closed x hx y ((hL y).1 hy) ha) x hx
theorem IsPart.same (h:IsPart adj L i C) (h':IsPart adj L' i C') (hL:∀ x,L x↔L' x):(∀ x,x∈C↔x∈C')∧C.length=C'.length:=by
 have h1:∀ x∈C,x∈C':=fun x hx=>h.mem h' hL hx
 have h2:∀ x∈C',x∈C:=fun x hx=>h'.mem h (fun x=>(hL x).symm) hx
 exact ⟨fun x=>⟨h1 x,h2 x⟩,Nat.le_antisymm (nodup_sub_len h.nd h1) (nodup_sub_len h'.nd h2)⟩
def near (l:List GUnit) (below:Int) (x y:Int):Bool:=decide (dAt l x y < below)
end Go.Z
/-
 LineProofs: the product's part is the part that hangs together,and is taken out of the set.
-/
namespace Go.Z
open Go Go.Abs
theorem memI_iff {m:List Int} {x:Int}:memI m x=true↔x∈m:=by
 unfold memI; rw [List.contains_eq_mem]; simp
theorem memI_not {m:List Int} {x:Int}:memI m x=false↔x ∉ m:=by
 unfold memI; rw [List.contains_eq_mem]; simp
set_option maxHeartbeats 1000000 in
theorem part_eq {l:List GUnit} {o:Option (List GUnit)} {below:Int} (hu:UnitsOk l) (ho:o.getD []=l) (hl:l.length≤100):
  ∀ (k:Nat) (m:List Int) (frm:Int),m.length≤k→m.Nodup→(∀ x∈m,0≤x∧x < (l.length:Int))→frm∈m →
   ∃ (D m':List Int),f48 k o below frm m=some ((D.length:Int),m')∧IsPart (near l below) (·∈m) frm D∧m'.Nodup∧∀ x,x∈m'↔x∈m∧x ∉ D
 | 0,m,frm,hk,_,_,hf=>by
  have:=List.length_pos_of_mem hf
  omega
 | k + 1,m,frm,hk,hnd,hb,hf=>by
  have ih:=part_eq (below:=below) hu ho hl k
  have hbf:=hb frm hf
  have hml:m.length≤l.length:=by
   have:=nodup_sub_len (m:=(List.range l.length).map fun (i:Nat)=>(i:Int)) hnd fun x hx=>by
    have:=hb x hx
    exact List.mem_map.2 ⟨x.toNat,List.mem_range.2 (by omega),by omega⟩
   simpa using this
  let Inv:Int × Int × List Int→Prop:=fun s=>∃ (n:Nat) (D:List Int),s.2.1=(n:Int)∧n≤l.length∧s.1=(D.length:Int)∧D.Nodup∧frm∈D∧(∀ x∈D,x∈m)∧s.2.2.Nodup∧(∀ x,x∈s.2.2↔x∈m∧x ∉ D) ∧
   (∀ E:Int→Prop,E frm→(∀ x,E x→∀ y,y∈m→near l below x y=true→E y)→∀ x∈D,E x) ∧
   (∀ x∈D,x ≠ frm→∀ y∈m,near l below x y=true→y∈D)∧(∀ y∈m,y < (n:Int)→near l below frm y=true→y∈D)
  have key:=itO_total (f:=s48 (f48 k) o below frm) Inv (fun d=>∃ D:List Int,d.1=(D.length:Int)∧IsPart (near l below) (·∈m) frm D∧d.2.2.Nodup∧∀ x,x∈d.2.2↔x∈m∧x ∉ D) (fun s=>l.length - s.2.1.toNat) (by
   rintro ⟨c,i,mi⟩ ⟨n,D,h1,h2,h3,h4,h5,h6,h7,h8,h9,h10,h11⟩
   simp only at h1 h3 h7 h8
   subst h1
   have hDl:D.length≤m.length:=nodup_sub_len h4 h6
   by_cases hlt:n < l.length
   ·refine .inl ?_
    have hlt':(n:Int) < (l.length:Int):=by omega
    have hw:wrapF .i64 ((n:Int) + 1)=((n + 1:Nat):Int):=wrap_nat (by omega)
    have hmiL:mi.length≤m.length - 1:=by
     have hlt2:mi.length + 1≤m.length:=by
      have:=nodup_sub_len (l:=frm::mi) (m:=m) (List.nodup_cons.2 ⟨fun h=>((h8 frm).1 h).2 h5,h7⟩) (fun x hx=>by
       rcases List.mem_cons.1 hx with rfl | hx
       ·exact hf
       ·exact ((h8 x).1 hx).1)
      simpa using this
     omega
    obtain ⟨w,u,g1,g2,g3⟩:=d_at hu hbf.1 hbf.2 (show (0:Int)≤(n:Int) by omega) hlt'
    -- nothing is taken here
    have stay:near l below frm (n:Int)=false∨(n:Int) ∉ mi→s48 (f48 k) o below frm (c,(n:Int),mi)=some (.inl (c,((n + 1:Nat):Int),mi))→∃ s',s48 (f48 k) o below frm (c,(n:Int),mi)=some (.inl s')∧Inv s'∧l.length - s'.2.1.toNat < l.length - (n:Int).toNat:=by
     intro hno hs
     refine ⟨_,hs,⟨n + 1,D,rfl,by omega,h3,h4,h5,h6,h7,h8,h9,h10,fun y hy hyn hya=>?_⟩,by simp only; omega⟩
     by_cases hyn2:y=(n:Int)
     ·subst hyn2
      rcases hno with hno | hno
      ·rw [hno] at hya; cases hya
      ·by_cases hyD:(n:Int)∈D
       ·exact hyD
       ·exact absurd ((h8 _).2 ⟨hy,hyD⟩) hno
     ·exact h11 y hy (by omega) hya
    by_cases hin:(n:Int)∈mi
    ·have hmm:=memI_iff.2 hin
     by_cases hnear:dAt l frm (n:Int) < below
     ·have hna:near l below frm (n:Int)=true:=by unfold near; simp [hnear]
      obtain ⟨D',m',e1,e2,e3,e4⟩:=ih mi (n:Int) (by omega) h7 (fun x hx=>hb x ((h8 x).1 hx).1) hin
      have hw2:wrapF .i64 (c + (D'.length:Int))=((D++D').length:Int):=by
       have hD'l:D'.length≤mi.length:=nodup_sub_len e2.nd e2.ins
       rw [h3,wrapF_i64 (by omega) (by omega),List.length_append]; omega
      have hs:s48 (f48 k) o below frm (c,(n:Int),mi)=some (.inl (((D++D').length:Int),((n + 1:Nat):Int),m')):=by
       unfold s48
       simp only [ho,hlt',decide_true,cond_true,g2,obind_at,hmm,g1,g3,hnear,e1,hw,hw2]
      have hdis:∀ x∈D',x ∉ D:=fun x hx=>((h8 x).1 (e2.ins x hx)).2
      refine ⟨_,hs,⟨n + 1,D++D',rfl,by omega,rfl,?_,List.mem_append_left _ h5,?_,e3,?_,?_,?_,?_⟩,by simp only; omega⟩
      ·exact List.nodup_append.2 ⟨h4,e2.nd,fun a ha b hb hab=>hdis b hb (hab ▸ ha)⟩
      ·intro x hx
       rcases List.mem_append.1 hx with hx | hx
       ·exact h6 x hx
       ·exact ((h8 x).1 (e2.ins x hx)).1
      ·intro x
       rw [e4,h8,List.mem_append]
       constructor
       ·rintro ⟨⟨a,b⟩,c⟩; exact ⟨a,fun h=>h.elim b c⟩
       ·rintro ⟨a,b⟩; exact ⟨⟨a,fun h=>b (.inl h)⟩,fun h=>b (.inr h)⟩
      ·intro E hE hcl x hx
       rcases List.mem_append.1 hx with hx | hx
       ·exact h9 E hE hcl x hx
       ·exact e2.least E (hcl frm hE _ ((h8 _).1 hin).1 hna) (fun x hx y hy hxy=>hcl x hx y ((h8 y).1 hy).1 hxy) x hx
      ·intro x hx hxf y hy hxy
       rcases List.mem_append.1 hx with hx | hx
       ·exact List.mem_append_left _ (h10 x hx hxf y hy hxy)
       ·by_cases hyD:y∈D
        ·exact List.mem_append_left _ hyD
        ·exact List.mem_append_right _ (e2.closed x hx y ((h8 y).2 ⟨hy,hyD⟩) hxy)
      ·intro y hy hyn hya
       by_cases hyn2:y=(n:Int)
       ·subst hyn2; exact List.mem_append_right _ e2.has
       ·exact List.mem_append_left _ (h11 y hy (by omega) hya)
     ·refine stay (.inl (by unfold near; simp [hnear])) ?_
      unfold s48
      simp only [ho,hlt',decide_true,cond_true,g2,obind_at,hmm,g1,g3,hnear,decide_false,cond_false,hw]
    ·have hmm:=memI_not.2 hin
     refine stay (.inr hin) ?_
     unfold s48
     simp only [ho,hlt',decide_true,cond_true,g2,obind_at,hmm,cond_false,hw]
   ·refine .inr ⟨(c,(n:Int),mi),?_,D,h3,⟨h4,h5,h6,fun x hx y hy hxy=>?_,fun E hE hcl x hx=>h9 E hE hcl x hx⟩,h7,h8⟩
    ·have hlt':¬ (n:Int) < (l.length:Int):=by omega
     unfold s48
     simp only [ho,hlt',decide_false,cond_false]
    ·by_cases hxf:x=frm
     ·subst hxf
      exact h11 y hy (by have:=hb y hy; omega) hxy
     ·exact h10 x hx hxf y hy hxy) l.length (1,0,m.erase frm) (by simp) ⟨0,[frm],rfl,by omega,rfl,by simp,by simp,by simpa using hf,hnd.erase _,fun x=>by
    rw [hnd.mem_erase_iff]
    simp only [List.mem_singleton]
    exact And.comm,fun E hE _ x hx=>by simp only [List.mem_singleton] at hx; exact hx ▸ hE,fun x hx hxf=>absurd (List.mem_singleton.1 hx) hxf,fun y hy hyn=>by have:=hb y hy; omega⟩
  obtain ⟨d,hd,D,q1,q2,q3,q4⟩:=key
  refine ⟨D,d.2.2,?_,q2,q3,q4⟩
  show F48 (f48 k) o below frm m=_
  unfold F48
  rw [hd]
  simp only [obind_at,q1]
end Go.Z
/-
 LineProofs: the reference's part is the part that hangs together,too.
-/
namespace Go.Z
open Go Go.Abs
def Free (n:Nat) (s:List Int) (x:Int):Prop:=0≤x∧x < (n:Int)∧x ∉ s
theorem free_len {n:Nat} {s p:List Int} (h:p.Nodup) (hp:∀ x∈p,Free n s x):p.length≤n:=by
 have:=nodup_sub_len (m:=(List.range n).map fun (i:Nat)=>(i:Int)) h fun x hx=>by
  have:=hp x hx
  unfold Free at this
  exact List.mem_map.2 ⟨x.toNat,List.mem_range.2 (by omega),by omega⟩
 simpa using this
section
variable {l:List GUnit} {o:Option (List GUnit)} {below:Int} (hu:UnitsOk l) (ho:o.getD []=l) (hl:l.length≤100)
include hu ho hl
end
end Go.Z
/-
 LineProofs: both count the parts with an odd number alike.
-/
namespace Go.Z
open Go Go.Abs
section
variable {l l':List GUnit} {o o':Option (List GUnit)} {below:Int}
theorem left_eq (ho':o'.getD []=l') (hll:l'.length=l.length) (hl:l.length≤64) {a2:Option (List Int)} {set:List Int} (h2:a2.getD []=set) (hs:set.length≤64):∀ (j i:Nat) (m:List Int),i + j=l.length→m.Nodup→(∀ x,x∈m↔Free i set x) →
  ∃ m':List Int,itO (s26_0 o' below a2) ((i:Int),m)=some ((l.length:Int),m')∧m'.Nodup∧∀ x,x∈m'↔Free l.length set x
 | 0,i,m,hi,hm,hms=>by
  have:i=l.length:=by omega
  subst this
  exact ⟨m,itO_out (by unfold s26_0; simp [ho',hll]),hm,hms⟩
 | j + 1,i,m,hi,hm,hms=>by
  have hlt:(i:Int) < (l.length:Int):=by omega
  have hw:wrapF .i64 ((i:Int) + 1)=((i + 1:Nat):Int):=wrap_nat (by omega)
  have h143:f47 a2 (i:Int)=some (memI set (i:Int)):=by
   have h116:∃ k:Int,f65 a2 (i:Int)=some k∧(decide (0≤k))=memI set (i:Int):=by
    have key:∀ (m t:Nat),t + m=set.length→∃ d,itO (s65_0 a2 (i:Int)) (t:Int)=some d∧(match d with
      | .inl k=>0≤k∧(set.drop t).contains (i:Int)=true
      | .inr _=>(set.drop t).contains (i:Int)=false):=by
     intro m
     induction m with
     | zero=>
      intro t ht
      have hlt2:¬ (t:Int) < (set.length:Int):=by omega
      have e:set.drop t=[]:=List.drop_eq_nil_of_le (by omega)
      refine ⟨.inr (t:Int),itO_out ?_,by rw [e]; rfl⟩
      unfold s65_0
      simp only [h2,hlt2,decide_false,cond_false]
     | succ m ih=>
      intro t ht
      have htl:t < set.length:=by omega
      have hlt2:(t:Int) < (set.length:Int):=by omega
      rw [List.drop_eq_getElem_cons htl,List.contains_cons]
      by_cases he:(i:Int)=set[t]
      ·refine ⟨.inl (t:Int),itO_out ?_,by omega,by rw [he]; simp⟩
       unfold s65_0
       simp only [h2,hlt2,decide_true,cond_true,idxO_nat,List.getElem?_eq_getElem htl,obind_at,he]
      ·have hb:((i:Int) == set[t])=false:=by rw [beq_eq_false_iff_ne]; exact he
       have es:s65_0 a2 (i:Int) (t:Int)=some (.inl ((t + 1:Nat):Int)):=by
        unfold s65_0
        simp only [h2,hlt2,decide_true,cond_true,idxO_nat,List.getElem?_eq_getElem htl,obind_at,he,decide_false,cond_false,wrap_nat (show t < 9223372036854775807 by omega)]
       rw [itO_in es,hb,Bool.false_or]
       exact ih (t + 1) (by omega)
    obtain ⟨d,hd,hq⟩:=key set.length 0 (by omega)
    rw [List.drop_zero,Int.natCast_zero] at *
    unfold f65
    rw [hd]
    cases d with
    | inl k=>
     simp only [] at hq
     exact ⟨k,rfl,by unfold memI; rw [hq.2]; simp [hq.1]⟩
    | inr k=>
     simp only [] at hq
     exact ⟨-1,rfl,by unfold memI; rw [hq]; rfl⟩
   obtain ⟨k,e1,e2⟩:=h116
   unfold f47
   rw [e1]
   simp only [obind_at,e2]
  by_cases hin:(i:Int)∈set
  ·have e:s26_0 o' below a2 ((i:Int),m)=some (.inl (((i + 1:Nat):Int),m)):=by
    unfold s26_0
    simp only [ho',hll,hlt,decide_true,cond_true,h143,memI_iff.2 hin,obind_at,hw]
   rw [itO_in e]
   refine left_eq ho' hll hl h2 hs j (i + 1) m (by omega) hm fun x=>?_
   rw [hms]
   unfold Free
   constructor
   ·rintro ⟨a,b,c⟩; exact ⟨a,by omega,c⟩
   ·rintro ⟨a,b,c⟩
    refine ⟨a,?_,c⟩
    by_cases hx:x=(i:Int)
    ·exact absurd (hx ▸ hin) c
    ·omega
  ·have hnm:memI m (i:Int)=false:=memI_not.2 fun h=>by have:=((hms _).1 h).2.1; omega
   have hml:m.length≤i:=free_len hm fun x hx=>(hms x).1 hx
   have hadd:addO m (i:Int)=some (m++[(i:Int)]):=by
    unfold addO
    rw [hnm]
    simp only [Bool.false_eq_true,if_false]
    rw [if_pos (by omega)]
   have e:s26_0 o' below a2 ((i:Int),m)=some (.inl (((i + 1:Nat):Int),m++[(i:Int)])):=by
    unfold s26_0
    simp only [ho',hll,hlt,decide_true,cond_true,h143,memI_not.2 hin,obind_at,cond_false,hadd,hw]
   rw [itO_in e]
   refine left_eq ho' hll hl h2 hs j (i + 1) (m++[(i:Int)]) (by omega) (List.nodup_append.2 ⟨hm,by simp,fun a ha b hb hab=>by
    rw [List.mem_singleton.1 hb] at hab
    exact memI_not.1 hnm (hab ▸ ha)⟩) fun x=>?_
   rw [List.mem_append,hms,List.mem_singleton]
   unfold Free
   constructor
   ·rintro (⟨a,b,c⟩ | rfl)
    ·exact ⟨a,by omega,c⟩
    ·exact ⟨by omega,by omega,hin⟩
   ·rintro ⟨a,b,c⟩
    by_cases hx:x=(i:Int)
    ·exact .inr hx
    ·exact .inl ⟨a,by omega,c⟩
end
end Go.Z
/-
 LineProofs: both searches find the same set.
-/
namespace Go.Z
open Go Go.Abs
section
variable {l l':List GUnit} {o o':Option (List GUnit)} {below:Int}
theorem clO_of {a:Option (List Int)} (h:(a.getD []).length≤1000):clO a=some a:=exO_of (by omega)
theorem grow_of {a:Option (List Int)} {set:List Int} {i:Int} (h:a.getD []=set) (hs:set.length≤1000):∃ s',apO a [i]=some s'∧s'.getD []=set++[i]:=by
 cases a with
 | none=>
  have:set=[]:=h.symm
  subst this
  exact ⟨some [i],rfl,rfl⟩
 | some x=>
  have:x=set:=h
  subst this
  exact ⟨some (x++[i]),ap_one x i (by omega),rfl⟩
end
end Go.Z
/-
 LineProofs: sets are checked,both ways; the law.
-/
namespace Go.Z
open Go Go.Abs
theorem E12_2 (a b:Int):E12 (some [a,b])=some (firstNZ [a,b]):=exO_of ⟨by simp,by simp⟩
end Go.Z
