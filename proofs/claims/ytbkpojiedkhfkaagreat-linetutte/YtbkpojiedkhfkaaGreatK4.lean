/-
  LineProofs: both count the parts with an odd number alike.
-/
import Derived.Test.YtbkpojiedkhfkaaGreatK1
import Derived.Test.YtbkpojiedkhfkaaGreatV4
import Derived.Test.YtbkpojiedkhfkaaGreatV6
import Derived.Test.YtbkpojiedkhfkaaGreatQ1
import Derived.Test.YtbkpojiedkhfkaaGreatL8
set_option linter.unusedVariables false
set_option linter.unusedSimpArgs false
set_option maxRecDepth 100000
namespace Go.Z
open Go Go.Abs
section
variable {l l':List GUnit} {o o':Option (List GUnit)} {below:Int}
theorem loops_same (ho:o.getD []=l) (ho':o'.getD []=l') (hll:l'.length=l.length) (hnear:near l' below=near l below) (hu:UnitsOk l) (hu':UnitsOk l') (hl:l.length≤64) (a2:Option (List Int)):
  ∀ (j i:Nat) (m s:List Int) (c:Int),i + j=l.length→m.Nodup→(∀ x,x∈m↔Free l.length s x)→s.length + (l.length)≤200→(s.length + m.length≤136)→0≤c→c≤i →
   ∃ (m' s':List Int) (c':Int),itO (s119_1 o' below a2) (c,(i:Int),m)=some (c',(l.length:Int),m')∧itO (s121_0 o below) (some s,c,(i:Int))=some (some s',c',(l.length:Int))
 | 0,i,m,s,c,hi,hm,hms,hsl,hsm,hc0,hc=>by
  have:i=l.length:=by omega
  subst this
  refine ⟨m,s,c,itO_out ?_,itO_out ?_⟩
  ·unfold s119_1; simp [ho',hll]
  ·unfold s121_0; simp [ho]
 | j + 1,i,m,s,c,hi,hm,hms,hsl,hsm,hc0,hc=>by
  have hlt:(i:Int) < (l.length:Int):=by omega
  have hw:wrapF .i64 ((i:Int) + 1)=((i + 1:Nat):Int):=wrap_nat (by omega)
  have hmem:f124 (some s) (i:Int)=some (memI s (i:Int)):=f124_eq rfl (by omega)
  by_cases hin:(i:Int)∈s
  ·have h1:memI m (i:Int)=false:=memI_not.2 fun h=>((hms _).1 h).2.2 hin
   have e1:s119_1 o' below a2 (c,(i:Int),m)=some (.inl (c,((i + 1:Nat):Int),m)):=by
    unfold s119_1
    simp only [ho',hll,hlt,decide_true,cond_true,h1,cond_false,hw]
   have e2:s121_0 o below (some s,c,(i:Int))=some (.inl (some s,c,((i + 1:Nat):Int))):=by
    unfold s121_0
    simp only [ho,hlt,decide_true,cond_true,hmem,memI_iff.2 hin,obind_at,hw]
   rw [itO_in e1,itO_in e2]
   exact loops_same ho ho' hll hnear hu hu' hl a2 j (i + 1) m s c (by omega) hm hms hsl hsm hc0 (by omega)
  ·have hfree:Free l.length s (i:Int):=⟨by omega,hlt,hin⟩
   have him:(i:Int)∈m:=(hms _).2 hfree
   have h1:memI m (i:Int)=true:=memI_iff.2 him
   have hml:m.length≤l.length:=free_len (s:=s) hm fun x hx=>(hms x).1 hx
   obtain ⟨D,m',q1,q2,q3,q4⟩:=part_eq (below:=below) hu' ho' (by omega) 70 m (i:Int) (by omega) hm (fun x hx=>by have:=(hms x).1 hx; exact ⟨this.1,by rw [hll]; exact this.2.1⟩) him
   rw [hnear] at q2
   obtain ⟨p,r1,r2⟩:=outer121 (below:=below) hu ho (by omega) (by omega) hfree (some s,c,(i:Int))
   obtain ⟨hDp,hlen⟩:=q2.same r2 hms
   have hDl:D.length≤l.length:=by rw [hlen]; exact free_len r2.nd r2.ins
   have hap:apO (some s) [(i:Int)]=some (some (s++[(i:Int)])):=ap_one s _ (by omega)
   have hrem:∀ x:Nat,remO (x:Int) 2=some ((x % 2:Nat):Int):=fun x=>by unfold remO; rw [if_neg (by decide)]; rfl
   have hms':∀ x,x∈m'↔Free l.length (s++p) x:=by
    intro x
    rw [q4,hms,hDp]
    unfold Free
    rw [List.mem_append]
    constructor
    ·rintro ⟨⟨a,b,c⟩,d⟩; exact ⟨a,b,fun h=>h.elim c d⟩
    ·rintro ⟨a,b,c⟩; exact ⟨⟨a,b,fun h=>c (.inl h)⟩,fun h=>c (.inr h)⟩
   have hcount:m'.length + p.length≤m.length:=by
    have:=nodup_sub_len (l:=m'++D) (m:=m) (List.nodup_append.2 ⟨q3,q2.nd,fun a ha b hb hab=>((q4 a).1 ha).2 (hab ▸ hb)⟩) (fun x hx=>by
     rcases List.mem_append.1 hx with h | h
     ·exact ((q4 x).1 h).1
     ·exact q2.ins x h)
    rw [List.length_append] at this
    omega
   have e2:s121_0 o below (some s,c,(i:Int))=some (.inl (some (s++p),wrapF .i64 (c + ((p.length % 2:Nat):Int)),((i + 1:Nat):Int))):=by
    unfold s121_0
    simp only [ho,hlt,decide_true,cond_true,hmem,memI_not.2 hin,obind_at,cond_false,hap,r1,Option.getD_some,hrem,hw]
   have hpl:p.length≤l.length:=by omega
   have hw2:wrapF .i64 (c + ((p.length % 2:Nat):Int))=c + ((p.length % 2:Nat):Int):=wrapF_i64 (by omega) (by omega)
   rw [hw2] at e2
   have e1:s119_1 o' below a2 (c,(i:Int),m)=some (.inl (c + ((p.length % 2:Nat):Int),((i + 1:Nat):Int),m')):=by
    unfold s119_1
    simp only [ho',hll,hlt,decide_true,cond_true,h1,q1,obind_at,hrem,hw,hlen]
    by_cases hz:p.length % 2=0
    ·rw [hz]
     simp
    ·have h21:p.length % 2=1:=by omega
     rw [h21]
     have hw3:wrapF .i64 (c + 1)=c + 1:=wrapF_i64 (by omega) (by omega)
     have hne:¬ ((1:Nat):Int)=0:=by decide
     simp only [hne,decide_false,cond_false,hw3]
     rfl
   rw [itO_in e1,itO_in e2]
   have hsp:(s++p).length=s.length + p.length:=List.length_append
   exact loops_same ho ho' hll hnear hu hu' hl a2 j (i + 1) m' (s++p) _ (by omega) q3 hms' (by omega) (by omega) (by omega) (by omega)
theorem left_eq (ho':o'.getD []=l') (hll:l'.length=l.length) (hl:l.length≤64) {a2:Option (List Int)} {set:List Int} (h2:a2.getD []=set) (hs:set.length≤64):∀ (j i:Nat) (m:List Int),i + j=l.length→m.Nodup→(∀ x,x∈m↔Free i set x) →
  ∃ m':List Int,itO (s119_0 o' below a2) ((i:Int),m)=some ((l.length:Int),m')∧m'.Nodup∧∀ x,x∈m'↔Free l.length set x
 | 0,i,m,hi,hm,hms=>by
  have:i=l.length:=by omega
  subst this
  exact ⟨m,itO_out (by unfold s119_0; simp [ho',hll]),hm,hms⟩
 | j + 1,i,m,hi,hm,hms=>by
  have hlt:(i:Int) < (l.length:Int):=by omega
  have hw:wrapF .i64 ((i:Int) + 1)=((i + 1:Nat):Int):=wrap_nat (by omega)
  have h143:f143 a2 (i:Int)=some (memI set (i:Int)):=by
   have h116:∃ k:Int,f116 a2 (i:Int)=some k∧(decide (0≤k))=memI set (i:Int):=by
    have key:∀ (m t:Nat),t + m=set.length→∃ d,itO (s116_0 a2 (i:Int)) (t:Int)=some d∧(match d with
      | .inl k=>0≤k∧(set.drop t).contains (i:Int)=true
      | .inr _=>(set.drop t).contains (i:Int)=false):=by
     intro m
     induction m with
     | zero=>
      intro t ht
      have hlt2:¬ (t:Int) < (set.length:Int):=by omega
      have e:set.drop t=[]:=List.drop_eq_nil_of_le (by omega)
      refine ⟨.inr (t:Int),itO_out ?_,by rw [e]; rfl⟩
      unfold s116_0
      simp only [h2,hlt2,decide_false,cond_false]
     | succ m ih=>
      intro t ht
      have htl:t < set.length:=by omega
      have hlt2:(t:Int) < (set.length:Int):=by omega
      rw [List.drop_eq_getElem_cons htl,List.contains_cons]
      by_cases he:(i:Int)=set[t]
      ·refine ⟨.inl (t:Int),itO_out ?_,by omega,by rw [he]; simp⟩
       unfold s116_0
       simp only [h2,hlt2,decide_true,cond_true,idxO_nat,List.getElem?_eq_getElem htl,obind_at,he]
      ·have hb:((i:Int) == set[t])=false:=by rw [beq_eq_false_iff_ne]; exact he
       have es:s116_0 a2 (i:Int) (t:Int)=some (.inl ((t + 1:Nat):Int)):=by
        unfold s116_0
        simp only [h2,hlt2,decide_true,cond_true,idxO_nat,List.getElem?_eq_getElem htl,obind_at,he,decide_false,cond_false,wrap_nat (show t < 9223372036854775807 by omega)]
       rw [itO_in es,hb,Bool.false_or]
       exact ih (t + 1) (by omega)
    obtain ⟨d,hd,hq⟩:=key set.length 0 (by omega)
    rw [List.drop_zero,Int.natCast_zero] at *
    unfold f116
    rw [hd]
    cases d with
    | inl k=>
     simp only [] at hq
     exact ⟨k,rfl,by unfold memI; rw [hq.2]; simp [hq.1]⟩
    | inr k=>
     simp only [] at hq
     exact ⟨-1,rfl,by unfold memI; rw [hq]; rfl⟩
   obtain ⟨k,e1,e2⟩:=h116
   unfold f143
   rw [e1]
   simp only [obind_at,e2]
  by_cases hin:(i:Int)∈set
  ·have e:s119_0 o' below a2 ((i:Int),m)=some (.inl (((i + 1:Nat):Int),m)):=by
    unfold s119_0
    simp only [ho',hll,hlt,decide_true,cond_true,h143,memI_iff.2 hin,obind_at,hw]
   rw [itO_in e]
   refine left_eq ho' hll hl h2 hs j (i + 1) m (by omega) hm fun x=>?_
   rw [hms]
   unfold Free
   constructor
   ·rintro ⟨a,b,c⟩; exact ⟨a,by omega,c⟩
   ·rintro ⟨a,b,c⟩
    refine ⟨a,?_,c⟩
    by_cases hx:x=(i:Int)
    ·exact absurd (hx ▸ hin) c
    ·omega
  ·have hnm:memI m (i:Int)=false:=memI_not.2 fun h=>by have:=((hms _).1 h).2.1; omega
   have hml:m.length≤i:=free_len hm fun x hx=>(hms x).1 hx
   have hadd:addO m (i:Int)=some (m++[(i:Int)]):=by
    unfold addO
    rw [hnm]
    simp only [Bool.false_eq_true,if_false]
    rw [if_pos (by omega)]
   have e:s119_0 o' below a2 ((i:Int),m)=some (.inl (((i + 1:Nat):Int),m++[(i:Int)])):=by
    unfold s119_0
    simp only [ho',hll,hlt,decide_true,cond_true,h143,memI_not.2 hin,obind_at,cond_false,hadd,hw]
   rw [itO_in e]
   refine left_eq ho' hll hl h2 hs j (i + 1) (m++[(i:Int)]) (by omega) (List.nodup_append.2 ⟨hm,by simp,fun a ha b hb hab=>by
    rw [List.mem_singleton.1 hb] at hab
    exact memI_not.1 hnm (hab ▸ ha)⟩) fun x=>?_
   rw [List.mem_append,hms,List.mem_singleton]
   unfold Free
   constructor
   ·rintro (⟨a,b,c⟩ | rfl)
    ·exact ⟨a,by omega,c⟩
    ·exact ⟨by omega,by omega,hin⟩
   ·rintro ⟨a,b,c⟩
    by_cases hx:x=(i:Int)
    ·exact .inr hx
    ·exact .inl ⟨a,by omega,c⟩
theorem odd_same (ho:o.getD []=l) (ho':o'.getD []=l') (hll:l'.length=l.length) (hnear:near l' below=near l below) (hu:UnitsOk l) (hu':UnitsOk l') (hl:l.length≤64) {a2 a2':Option (List Int)} {set:List Int} (h2:a2.getD []=set) (h2':a2'.getD []=set) (hs:set.length≤64):
  ∃ c:Int,f121 o below a2=some c∧f119 o' below a2'=some (decide ((set.length:Int) < c)):=by
 obtain ⟨m,e1,m1,m2⟩:=left_eq (below:=below) ho' hll hl h2' hs l.length 0 [] (by omega) List.nodup_nil (fun x=>by
  unfold Free; simp only [List.not_mem_nil,false_iff]; rintro ⟨a,b,c⟩; omega)
 have hml:m.length≤l.length:=free_len m1 fun x hx=>(m2 x).1 hx
 obtain ⟨m',s',c',e2,e3⟩:=loops_same (below:=below) ho ho' hll hnear hu hu' hl a2' l.length 0 m set 0 (by omega) m1 m2 (by omega) (by omega) (by omega) (by omega)
 refine ⟨c',?_,?_⟩
 ·unfold f121
  rw [h2,ap_nil set (by omega)]
  rw [Int.natCast_zero] at e3
  simp only [obind_at,e3]
 ·unfold f119
  rw [Int.natCast_zero] at e1 e2
  rw [e1]
  simp only [obind_at,e2,h2']
end
end Go.Z
/-
 LineProofs: both searches find the same set.
-/
namespace Go.Z
open Go Go.Abs
def fromOf (set:List Int):Int:=match set.getLast? with
 | none=>0
 | some x=>x + 1
theorem fromOf_snoc (set:List Int) (x:Int):fromOf (set++[x])=x + 1:=by unfold fromOf; simp
def SameF (r:Found) (x:Option (List Int)) (b:Bool):Prop:=match r with
 | none=>b=false
 | some y=>b=true∧y.getD []=x.getD []
section
variable {l l':List GUnit} {o o':Option (List GUnit)} {below:Int}
theorem clO_of {a:Option (List Int)} (h:(a.getD []).length≤1000):clO a=some a:=exO_of (by omega)
theorem grow_of {a:Option (List Int)} {set:List Int} {i:Int} (h:a.getD []=set) (hs:set.length≤1000):∃ s',apO a [i]=some s'∧s'.getD []=set++[i]:=by
 cases a with
 | none=>
  have:set=[]:=h.symm
  subst this
  exact ⟨some [i],rfl,rfl⟩
 | some x=>
  have:x=set:=h
  subst this
  exact ⟨some (x++[i]),ap_one x i (by omega),rfl⟩
theorem loop_sets {n:Nat} {size:Int} {set:List Int} {a3 set':Option (List Int)} {recS:RecS} {recC:(Option (List GUnit))→Int→Int→(Option (List Int))→Option ((Option (List Int)) × Bool)} (hn:(o.getD []).length=n) (hn64:n≤64) (h3:a3.getD []=set) (h':set'.getD []=set) (hs:set.length≤64)
  (hrec:∀ (i:Nat) (c c':Option (List Int)),i < n→c.getD []=set++[(i:Int)]→c'.getD []=set++[(i:Int)]→∃ r x b,recS c' ((i + 1:Nat):Int)=some r∧recC o below size c=some (x,b)∧SameF r x b):
  ∀ (j i:Nat),i + j=n→∃ r d,itO (s141 recS (n:Int) set') (i:Int)=some r∧itO (s120_0 o below size a3 recC) (i:Int)=some d∧(match r with
   | none=>∃ z,d=.inr z
   | some y=>∃ x,d=.inl x∧y.getD []=x.getD [])
 | 0,i,hi=>by
  have:i=n:=by omega
  subst this
  refine ⟨none,.inr (i:Int),itO_out (by unfold s141; simp),itO_out (by unfold s120_0; simp [hn]),_,rfl⟩
 | j + 1,i,hi=>by
  have hlt:(i:Int) < (n:Int):=by omega
  have hw:wrapF .i64 ((i:Int) + 1)=((i + 1:Nat):Int):=wrap_nat (by omega)
  obtain ⟨c',g1,g2⟩:=grow_of (i:=(i:Int)) h' (by omega)
  have g3:apO (some []) set=some (some set):=ap_nil set (by omega)
  have g4:apO (some set) [(i:Int)]=some (some (set++[(i:Int)])):=ap_one set _ (by omega)
  obtain ⟨r,x,b,e1,e2,e3⟩:=hrec i (some (set++[(i:Int)])) c' (by omega) rfl g2
  have hc:=clO_of (a:=set') (by rw [h']; omega)
  have hlt2:(i:Int) < ((o.getD []).length:Int):=by omega
  cases r with
  | none=>
   have hb:b=false:=e3
   subst hb
   have s1:s141 recS (n:Int) set' (i:Int)=some (.inl ((i + 1:Nat):Int)):=by
    unfold s141
    simp only [hlt,decide_true,cond_true,hc,obind_at,g1,hw,e1]
   have s2:s120_0 o below size a3 recC (i:Int)=some (.inl ((i + 1:Nat):Int)):=by
    unfold s120_0
    simp only [hlt2,decide_true,cond_true,h3,g3,obind_at,g4,e2,cond_false,hw]
   rw [itO_in s1,itO_in s2]
   exact loop_sets hn hn64 h3 h' hs hrec j (i + 1) (by omega)
  | some y=>
   obtain ⟨hb,hy⟩:b=true∧y.getD []=x.getD []:=e3
   subst hb
   refine ⟨some y,.inl x,itO_out ?_,itO_out ?_,x,rfl,hy⟩
   ·unfold s141
    simp only [hlt,decide_true,cond_true,hc,obind_at,g1,hw,e1]
   ·unfold s120_0
    simp only [hlt2,decide_true,cond_true,h3,g3,obind_at,g4,e2]
theorem sets_same (ho:o.getD []=l) (ho':o'.getD []=l') (hll:l'.length=l.length) (hnear:near l' below=near l below) (hu:UnitsOk l) (hu':UnitsOk l') (hl:l.length≤64) {size:Nat} (hsz:size≤64):∀ (m k k':Nat) (a3 set':Option (List Int)) (set:List Int),a3.getD []=set→set'.getD []=set→set.length + m=size→m < k→m < k'→(∀ x∈set,0≤x∧x < (l.length:Int)) →
  ∃ r x b,f141 o' below (l.length:Int) (size:Int) k set' (fromOf set)=some r∧f120 k' o below (size:Int) a3=some (x,b)∧SameF r x b
 | m,k + 1,k' + 1,a3,set',set,h3,h',hm,hk,hk',hb=>by
  show ∃ r x b,F141 o' below (l.length:Int) (size:Int) (f141 o' below (l.length:Int) (size:Int) k) set' (fromOf set)=some r∧F120 (f120 k') o below (size:Int) a3=some (x,b)∧SameF r x b
  cases m with
  | zero=>
   have he:(set.length:Int)=(size:Int):=by omega
   obtain ⟨c,c1,c2⟩:=odd_same (below:=below) ho ho' hll hnear hu hu' hl h3 h' (by omega)
   have hc:=clO_of (a:=set') (by rw [h']; omega)
   refine ⟨bif decide ((set.length:Int) < c) then some set' else none,a3,decide ((size:Int) < c),?_,?_,?_⟩
   ·unfold F141
    simp only [h',he,decide_true,cond_true,hc,obind_at,c2]
   ·unfold F120
    simp only [h3,he,decide_true,cond_true,c1,obind_at]
   ·rw [he]
    cases decide ((size:Int) < c) with
    | true=>exact ⟨rfl,by rw [h',h3]⟩
    | false=>exact rfl
  | succ m=>
   have hne:¬ (set.length:Int)=(size:Int):=by omega
   have hrec:∀ (i:Nat) (c c':Option (List Int)),i < l.length→c.getD []=set++[(i:Int)]→c'.getD []=set++[(i:Int)]→∃ r x b,f141 o' below (l.length:Int) (size:Int) k c' ((i + 1:Nat):Int)=some r∧f120 k' o below (size:Int) c=some (x,b)∧SameF r x b:=by
    intro i c c' hi hc hc'
    have:=sets_same ho ho' hll hnear hu hu' hl hsz m k k' c c' (set++[(i:Int)]) hc hc' (by rw [List.length_append,List.length_singleton]; omega) (by omega) (by omega) (fun x hx=>by
     rcases List.mem_append.1 hx with h | h
     ·exact hb x h
     ·rw [List.mem_singleton.1 h]; omega)
    rw [fromOf_snoc] at this
    exact this
   obtain ⟨f,hf0,hfn⟩:∃ f:Nat,fromOf set=(f:Int)∧f≤l.length:=by
    unfold fromOf
    cases hg:set.getLast? with
    | none=>exact ⟨0,rfl,by omega⟩
    | some x=>
     have:=hb x (List.mem_of_getLast? hg)
     exact ⟨(x + 1).toNat,by simp only []; omega,by omega⟩
   obtain ⟨r,d,e1,e2,e3⟩:=loop_sets (o:=o) (below:=below) (a3:=a3) (set':=set') (recS:=f141 o' below (l.length:Int) (size:Int) k) (recC:=f120 k') (by rw [ho]) hl h3 h' (by omega) hrec (l.length - f) f (by omega)
   have h141:F141 o' below (l.length:Int) (size:Int) (f141 o' below (l.length:Int) (size:Int) k) set' (fromOf set)=some r:=by
    unfold F141
    simp only [h',hne,decide_false,cond_false,hf0,e1]
   have h120:F120 (f120 k') o below (size:Int) a3=(match d with
     | .inl x=>some (x,true)
     | .inr _=>some (none,false)):=by
    unfold F120
    simp only [h3,hne,decide_false,cond_false]
    by_cases hs0:(0:Int) < (set.length:Int)
    ·have hw:wrapF .i64 ((set.length:Int) - 1)=((set.length - 1:Nat):Int):=by rw [wrapF_i64 (by omega) (by omega)]; omega
     have hidx:idxO set ((set.length - 1:Nat):Int)=some (set[set.length - 1]'(by omega)):=by rw [idxO_nat,List.getElem?_eq_getElem (by omega)]
     have hfr:fromOf set=set[set.length - 1]'(by omega) + 1:=by
      unfold fromOf
      rw [List.getLast?_eq_getElem?,List.getElem?_eq_getElem (by omega)]
     have hbl:=hb (set[set.length - 1]'(by omega)) (List.getElem_mem _)
     have hw2:wrapF .i64 (set[set.length - 1]'(by omega) + 1)=(f:Int):=by rw [wrapF_i64 (by omega) (by omega),← hfr,hf0]
     simp only [hs0,decide_true,cond_true,hw,hidx,obind_at,hw2,e2]
     cases d <;> rfl
    ·have hs:set=[]:=List.length_eq_zero_iff.1 (by omega)
     have hf:(f:Int)=0:=by rw [← hf0,hs]; rfl
     rw [hf] at e2
     simp only [hs0,decide_false,cond_false]
     rw [show s120_0b=s120_0 from rfl,e2]
     cases d <;> rfl
   rw [h141,h120]
   cases r with
   | none=>
    obtain ⟨z,rfl⟩:=e3
    exact ⟨none,none,false,rfl,rfl,rfl⟩
   | some y=>
    obtain ⟨x,rfl,hy⟩:=e3
    exact ⟨some y,x,true,rfl,rfl,rfl,hy⟩
theorem prove_same (ho:o.getD []=l) (ho':o'.getD []=l') (hll:l'.length=l.length) (hnear:near l' below=near l below) (hu:UnitsOk l) (hu':UnitsOk l') (hl:l.length≤8):∃ y x e,itO (s60 o' below) 0=some e∧f64 o below=some (x,y)∧(match e with
  | .inl _=>y=7∧x=none
  | .inr z=>y=0∧z.2.getD []=x.getD []):=by
 have key:∀ (j i:Nat),i + j=l.length + 1→∃ e d,itO (s60 o' below) (i:Int)=some e∧itO (s64_0 o below) (i:Int)=some d∧(match e with
   | .inl _=>∃ z,d=.inr z
   | .inr z=>∃ x,d=.inl x∧z.2.getD []=x.getD []):=by
  intro j
  have hw1:wrapF .i64 ((l.length:Int) + 1)=((l.length + 1:Nat):Int):=wrap_nat (by omega)
  induction j with
  | zero=>
   intro i hi
   have h1:¬ (i:Int) < ((l.length + 1:Nat):Int):=by omega
   have h2:¬ (i:Int)≤(l.length:Int):=by omega
   refine ⟨.inl (i:Int),.inr (i:Int),itO_out ?_,itO_out ?_,_,rfl⟩
   ·unfold s60; simp only [ho',hll,hw1,h1,decide_false,cond_false]
   ·unfold s64_0; simp only [ho,h2,decide_false,cond_false]
  | succ j ih=>
   intro i hi
   have h1:(i:Int) < ((l.length + 1:Nat):Int):=by omega
   have h2:(i:Int)≤(l.length:Int):=by omega
   have hw:wrapF .i64 ((i:Int) + 1)=((i + 1:Nat):Int):=wrap_nat (by omega)
   obtain ⟨r,x,b,e1,e2,e3⟩:=sets_same (below:=below) ho ho' hll hnear hu hu' (by omega) (size:=i) (by omega) i 12 12 none none [] rfl rfl (by simp) (by omega) (by omega) (by simp)
   rw [show fromOf []=0 from rfl] at e1
   cases r with
   | none=>
    have hb:b=false:=e3
    subst hb
    have s1:s60 o' below (i:Int)=some (.inl ((i + 1:Nat):Int)):=by
     unfold s60
     simp only [ho',hll,hw1,h1,decide_true,cond_true,e1,obind_at,hw]
    have s2:s64_0 o below (i:Int)=some (.inl ((i + 1:Nat):Int)):=by
     unfold s64_0
     simp only [ho,h2,decide_true,cond_true,e2,obind_at,cond_false,hw]
    rw [itO_in s1,itO_in s2]
    exact ih (i + 1) (by omega)
   | some y=>
    obtain ⟨hb,hy⟩:b=true∧y.getD []=x.getD []:=e3
    subst hb
    refine ⟨.inr ((i:Int),y),.inl x,itO_out ?_,itO_out ?_,x,rfl,hy⟩
    ·unfold s60
     simp only [ho',hll,hw1,h1,decide_true,cond_true,e1,obind_at]
    ·unfold s64_0
     simp only [ho,h2,decide_true,cond_true,e2,obind_at]
 obtain ⟨e,d,e1,e2,e3⟩:=key (l.length + 1) 0 (by omega)
 rw [Int.natCast_zero] at e1 e2
 unfold f64
 rw [e2]
 cases e with
 | inl i=>
  obtain ⟨z,rfl⟩:=e3
  exact ⟨7,none,.inl i,e1,rfl,rfl,rfl⟩
 | inr z=>
  obtain ⟨x,rfl,hx⟩:=e3
  exact ⟨0,x,.inr z,e1,rfl,rfl,hx⟩
end
end Go.Z
/-
 LineProofs: sets are checked,both ways; the law.
-/
namespace Go.Z
open Go Go.Abs
theorem E94_2 (a b:Int):E94 (some [a,b])=some (firstNZ [a,b]):=exO_of ⟨by simp,by simp⟩
end Go.Z
/-
 LineProofs: its law holds of the function that mirrors the run.
-/
namespace Go.Z
open Go Go.Abs
theorem dAt_ownK (l:List GUnit) (i j:Int):dAt (l.map ownU) i j=dAt l i j:=by
 unfold dAt
 rw [List.getElem?_map,List.getElem?_map]
 cases l[i.toNat]? with
 | none=>rfl
 | some u=>
  cases l[j.toNat]? with
  | none=>rfl
  | some w=>rfl
theorem near_own (l:List GUnit) (below:Int):near (l.map ownU) below=near l below:=by
 funext x y
 unfold near
 rw [dAt_ownK]
end Go.Z
