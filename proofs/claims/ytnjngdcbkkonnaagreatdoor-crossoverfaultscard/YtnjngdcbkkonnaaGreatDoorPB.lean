/-
  Loops as plain functions of their lists.
-/
import Derived.Test.YtnjngdcbkkonnaaGreatDoorA1
set_option linter.unusedVariables false
set_option linter.unusedSimpArgs false
set_option maxRecDepth 100000
namespace Go.Z
open Go Go.Abs
theorem qcc {σ δ γ:Type} (n:Nat) (mk:Nat→σ) (f:σ→Option (σ ⊕ δ)) (V:δ→γ) (r:Nat→γ) (hend:∃ d,f (mk n)=some (.inr d)∧V d=r n)
  (hstep:∀ i,i < n→(f (mk i)=some (.inl (mk (i + 1)))∧r i=r (i + 1))∨(∃ d,f (mk i)=some (.inr d)∧V d=r i)):∃ d,itO f (mk 0)=some d∧V d=r 0:=by
 have key:∀ (k i:Nat),i + k=n→∃ d,itO f (mk i)=some d∧V d=r i:=by
  intro k
  induction k with
  | zero=>
   intro i hi
   have:i=n:=by omega
   subst this
   obtain ⟨d,h1,h2⟩:=hend
   exact ⟨d,qad h1,h2⟩
  | succ k ih=>
   intro i hi
   rcases hstep i (by omega) with ⟨h1,h2⟩ | ⟨d,h1,h2⟩
   ·rw [qch h1,h2]; exact ih (i + 1) (by omega)
   ·exact ⟨d,qad h1,h2⟩
 exact key n 0 (by omega)
theorem qve {α:Type} {l:List α} {q:α→Int} {i:Nat} {x:α} (hx:l[i]?=some x):ju ((l.drop i).map q)=if q x=0 then ju ((l.drop (i + 1)).map q) else q x:=by
 rw [z6 hx]; rfl
theorem qjv {α δ:Type} (l:List α) (f:Int→Option (Int ⊕ δ)) (q:α→Int) (V:δ→Int) (hend:∃ d,f (l.length:Int)=some (.inr d)∧V d=0)
  (hstep:∀ (i:Nat) x,l[i]?=some x→i < l.length→(q x=0∧f (i:Int)=some (.inl ((i + 1:Nat):Int)))∨(q x ≠ 0∧∃ d,f (i:Int)=some (.inr d)∧V d=q x)):∃ d,itO f 0=some d∧V d=ju (l.map q):=by
 have:=qcc l.length (fun i=>(i:Int)) f V (fun i=>ju ((l.drop i).map q)) (by rw [List.drop_eq_nil_of_le (Nat.le_refl _)]; exact hend) (fun i hi=>by
  obtain ⟨x,hx⟩:∃ x,l[i]?=some x:=⟨_,List.getElem?_eq_getElem hi⟩
  simp only [qve hx]
  rcases hstep i x hx hi with ⟨h1,h2⟩ | ⟨h1,h2⟩
  ·rw [if_pos h1]; exact .inl ⟨h2,rfl⟩
  ·rw [if_neg h1]; exact .inr h2)
 simpa using this
theorem qb6 {α δ:Type} (l:List α) (f:Int→Option (Int ⊕ δ)) (q:α→Bool) (V:δ→Bool) (hend:∃ d,f (l.length:Int)=some (.inr d)∧V d=true)
  (hstep:∀ (i:Nat) x,l[i]?=some x→i < l.length→(q x=true∧f (i:Int)=some (.inl ((i + 1:Nat):Int)))∨(q x=false∧∃ d,f (i:Int)=some (.inr d)∧V d=false)):∃ d,itO f 0=some d∧V d=l.all q:=by
 have:=qcc l.length (fun i=>(i:Int)) f V (fun i=>(l.drop i).all q) (by rw [List.drop_eq_nil_of_le (Nat.le_refl _)]; exact hend) (fun i hi=>by
  obtain ⟨x,hx⟩:∃ x,l[i]?=some x:=⟨_,List.getElem?_eq_getElem hi⟩
  simp only [z6 hx,List.all_cons]
  rcases hstep i x hx hi with ⟨h1,h2⟩ | ⟨h1,h2⟩
  ·rw [h1]; exact .inl ⟨h2,rfl⟩
  ·rw [h1]; exact .inr h2)
 simpa using this
theorem qet {α β:Type} (l:List α) (ix:Nat→Int) (f:Option (List β) × Int × Bool→Option ((Option (List β) × Int × Bool) ⊕ (Option (List β) × Bool × Int))) (h:α→List β) (a0:List β) (I:Nat→List β→Prop) (hI:I 0 a0)
  (hend:∀ a,f (qv a,ix l.length,z7 a)=some (.inr (qv a,z7 a,ix l.length)))
  (hstep:∀ (i:Nat) x a,l[i]?=some x→i < l.length→I i a→I (i + 1) (a++h x)∧f (qv a,ix i,z7 a)=some (.inl (qv (a++h x),ix (i + 1),z7 (a++h x)))):
  itO f (qv a0,ix 0,z7 a0)=some (qv (a0++l.flatMap h),z7 (a0++l.flatMap h),ix l.length):=by
 have key:∀ (k i:Nat),i + k=l.length→∀ a,I i a→itO f (qv a,ix i,z7 a)=some (qv (a++(l.drop i).flatMap h),z7 (a++(l.drop i).flatMap h),ix l.length):=by
  intro k
  induction k with
  | zero=>
   intro i hi a _
   have:i=l.length:=by omega
   subst this
   rw [List.drop_eq_nil_of_le (Nat.le_refl _),List.flatMap_nil,List.append_nil,qad (hend a)]
  | succ k ih=>
   intro i hi a ha
   obtain ⟨x,hx⟩:∃ x,l[i]?=some x:=⟨_,List.getElem?_eq_getElem (by omega)⟩
   obtain ⟨h1,h2⟩:=hstep i x a hx (by omega) ha
   rw [qch h2,ih (i + 1) (by omega) _ h1,z6 hx,List.flatMap_cons,List.append_assoc]
 have:=key l.length 0 (by omega) a0 hI
 rwa [List.drop_zero] at this
theorem qqw {α:Type} {a:List α} {x:α} (h:a.length < 1073741824):apO (qv a) [x]=some (qv (a++[x])):=by
 unfold apO
 cases a with
 | nil=>rfl
 | cons y a=>
  have:((qv (y::a)).getD []).length + [x].length≤1073741824:=by simp [qv] at h ⊢; omega
  rw [if_pos this]; rfl
theorem qbm {α γ:Type} {a:List α} {x:α} {k:Option (List α)→Option γ} (h:a.length < 1073741824):cond (z7 a) (qd (apO (qv a) [x]) k) (cond (qv a).isNone (qd (apO (qv a) [x]) k) none)=k (qv (a++[x])):=by
 rw [qqw h]
 cases a <;> rfl
theorem yb {α:Type} (a:List α):(qv a).getD []=a:=by cases a <;> rfl
theorem qcj {α β:Type} (h:α→β):∀ l:List α,l.flatMap (fun x=>[h x])=l.map h
 | []=>rfl
 | x::l=>by rw [List.flatMap_cons,qcj h l]; rfl
theorem qha {α β:Type} (l:List α) (f:Option (List β) × Int × Bool→Option ((Option (List β) × Int × Bool) ⊕ (Option (List β) × Bool × Int))) (h:α→β) (hl:l.length≤1073741824)
  (hend:∀ a:Option (List β) × Bool,f (a.1,(l.length:Int),a.2)=some (.inr (a.1,a.2,(l.length:Int))))
  (hstep:∀ (i:Nat) x (a:List β),l[i]?=some x→i < l.length→a.length < 1073741824→f (qv a,(i:Int),z7 a)=some (.inl (qv (a++[h x]),((i + 1:Nat):Int),true))):
  itO f (none,0,false)=some (qv (l.map h),z7 (l.map h),(l.length:Int)):=by
 have:=qet l (fun i=>(i:Int)) f (fun x=>[h x]) [] (fun i a=>a.length=i) rfl (fun a=>hend (qv a,z7 a)) (fun i x a hx hi ha=>⟨by simp [ha],by rw [hstep i x a hx hi (by omega),qc5]⟩)
 rw [qcj,List.nil_append] at this
 exact this
theorem zb {α:Type} {l:List α} {i:Nat} {x:α} (hx:l[i]?=some x):j7 l (i:Int)=some x:=by rw [qhy,hx]
theorem zx {α:Type} {l:List α} {i:Nat} (h:i < l.length):decide ((i:Int) < (l.length:Int))=true:=decide_eq_true (by omega)
theorem zq {n:Nat}:decide ((n:Int) < (n:Int))=false:=decide_eq_false (by omega)
end Go.Z
/-
 Parts and catalogues: what their functions come to.
-/
set_option maxHeartbeats 1000000
namespace Go.Z
open Go Go.Abs
theorem qak {b:Bool} {e:Int}:f106 b e=some (yv b e):=by cases b <;> rfl
theorem qsa {b:Bool} {e:Int}:f194 b e=some (yv b e):=by cases b <;> rfl
theorem qr7 {b:Bool} {e:Int}:f101 b e=some (yv b e):=by cases b <;> rfl
theorem qza {o:Option (List Int)} (hn:(o.getD []).length≤9223372036854775807):f105 o=some (ju (o.getD [])):=by
 obtain ⟨d,h1,h2⟩:=qjv (o.getD []) (qh4 o) id (fun d=>match d with | .inl x=>x | .inr _=>0) ⟨.inr _,by unfold qh4; rw [zq]; rfl,rfl⟩ (fun i x hx hi=>by
  unfold qh4
  rw [zx hi,cond_true,zb hx,qe]
  by_cases h:x=0
  ·refine .inl ⟨h,?_⟩
   rw [decide_eq_true h,cond_true,jw hi hn]
  ·refine .inr ⟨h,.inl x,?_,rfl⟩
   rw [decide_eq_false h,cond_false])
 unfold f105
 rw [h1,qe]
 rw [List.map_id] at h2
 rw [← h2]
 cases d <;> rfl
theorem qca {l:List Int} (hn:l.length≤100):f105 (some l)=some (ju l):=qza (o:=some l) (by simp only [Option.getD_some]; omega)
theorem q9n {o:Option (List Int)} (hn:(o.getD []).length≤9223372036854775807):f171 o=some (ju (o.getD [])):=by
 obtain ⟨d,h1,h2⟩:=qjv (o.getD []) (qht o) id (fun d=>match d with | .inl x=>x | .inr _=>0) ⟨.inr _,by unfold qht; rw [zq]; rfl,rfl⟩ (fun i x hx hi=>by
  unfold qht
  rw [zx hi,cond_true,zb hx,qe]
  by_cases h:x=0
  ·refine .inl ⟨h,?_⟩
   rw [decide_eq_true h,cond_true,jw hi hn]
  ·refine .inr ⟨h,.inl x,?_,rfl⟩
   rw [decide_eq_false h,cond_false])
 unfold f171
 rw [h1,qe]
 rw [List.map_id] at h2
 rw [← h2]
 cases d <;> rfl
theorem qc4 {l:List Int} (hn:l.length≤100):f171 (some l)=some (ju l):=q9n (o:=some l) (by simp only [Option.getD_some]; omega)
theorem q89 {o:Option (List Int)} (hn:(o.getD []).length≤9223372036854775807):f100 o=some (ju (o.getD [])):=by
 obtain ⟨d,h1,h2⟩:=qjv (o.getD []) (qh0 o) id (fun d=>match d with | .inl x=>x | .inr _=>0) ⟨.inr _,by unfold qh0; rw [zq]; rfl,rfl⟩ (fun i x hx hi=>by
  unfold qh0
  rw [zx hi,cond_true,zb hx,qe]
  by_cases h:x=0
  ·refine .inl ⟨h,?_⟩
   rw [decide_eq_true h,cond_true,jw hi hn]
  ·refine .inr ⟨h,.inl x,?_,rfl⟩
   rw [decide_eq_false h,cond_false])
 unfold f100
 rw [h1,qe]
 rw [List.map_id] at h2
 rw [← h2]
 cases d <;> rfl
theorem qh1 {l:List Int} (hn:l.length≤100):f100 (some l)=some (ju l):=q89 (o:=some l) (by simp only [Option.getD_some]; omega)
theorem qog {n lo hi:Int}:f109 n lo hi=some (jq n lo hi):=by
 unfold f109 jq
 by_cases h:n < lo
 ·simp only [h,decide_true,cond_true,qak,qe,yv,if_true]
 ·by_cases h2:hi < n <;> simp [h,h2,qak,yv]
theorem qzj {n lo hi:Int}:f195 n lo hi=some (jq n lo hi):=by
 unfold f195 jq
 by_cases h:n < lo
 ·simp only [h,decide_true,cond_true,qsa,qe,yv,if_true]
 ·by_cases h2:hi < n <;> simp [h,h2,qsa,yv]
theorem qmt {n lo hi:Int}:f40 n lo hi=some (jq n lo hi):=by
 unfold f40 jq
 by_cases h:n < lo
 ·simp [h]
 ·by_cases h2:hi < n <;> simp [h,h2]
theorem q9q {w:Int}:f172 w=some (jq w 1 8):=by unfold f172; rw [qzj]; rfl
theorem q9f {w:Int}:f122 w=some (jq w 1 8):=by unfold f122; rw [qog]; rfl
theorem kq:∀ {l:List Int},ju l=0↔∀ x∈l,x=0
 | []=>by simp [ju]
 | x::l=>by
  simp only [ju,List.mem_cons,forall_eq_or_imp]
  by_cases h:x=0
  ·rw [if_pos h,kq]; simp [h]
  ·rw [if_neg h]; simp [h]
theorem qnq {s:List UInt8} {i:Nat} {c:UInt8} (hc:s[i]?=some c):qg2 i (s.drop i)=(qlm i c.toNat && qg2 (i + 1) (s.drop (i + 1))):=by
 rw [z6 hc]; rfl
theorem q9e {s:List UInt8}:f102 s=some (qmw s):=by
 unfold f102 qmw
 by_cases h0:s=[]
 ·subst h0; rfl
 have hl:¬ ((s.length:Int)=0):=by
  intro h
  exact h0 (List.eq_nil_of_length_eq_zero (by omega))
 by_cases h1:(24:Int) < s.length
 ·have h2:¬ s.length≤24:=by omega
  simp [hl,h0,h1,h2]
 ·have h2:s.length≤24:=by omega
  obtain ⟨d,g1,g2⟩:=qcc s.length (fun i=>(i:Int)) (qf7 s) (fun d=>match d with | .inl _=>false | .inr _=>true) (fun i=>qg2 i (s.drop i)) ⟨.inr _,by unfold qf7; rw [zq]; rfl,by rw [List.drop_eq_nil_of_le (Nat.le_refl _)]; rfl⟩ (fun i hi=>by
   obtain ⟨c,hc⟩:∃ c,s[i]?=some c:=⟨_,List.getElem?_eq_getElem hi⟩
   unfold qf7
   rw [qnq hc,zx hi,cond_true,zb hc,qe]
   simp only [jw hi (show s.length≤9223372036854775807 by omega)]
   unfold qlm
   have hx:0≤(c.toNat:Int):=by omega
   generalize (c.toNat:Int)=x at hx ⊢
   by_cases z:i=0
   ·subst z
    rcases kinds x with h | h | h | h | h | h | h | h | h <;>
     simp (disch:=omega) only [decide_eq_true,decide_eq_false,cond_true,cond_false,Bool.or_false,Bool.false_or,Bool.true_or,Bool.and_true,Bool.true_and,Bool.false_and] <;>
     first
      | exact .inl ⟨trivial,trivial⟩
      | exact .inl ⟨rfl,trivial⟩
      | exact .inl ⟨rfl,rfl⟩
      | exact .inr ⟨_,rfl,rfl⟩
   ·rcases kinds x with h | h | h | h | h | h | h | h | h <;>
     simp (disch:=omega) only [decide_eq_true,decide_eq_false,cond_true,cond_false,Bool.or_false,Bool.or_true,Bool.false_or,Bool.true_or,Bool.and_true,Bool.true_and,Bool.false_and] <;>
     first
      | exact .inl ⟨trivial,trivial⟩
      | exact .inl ⟨rfl,trivial⟩
      | exact .inl ⟨rfl,rfl⟩
      | exact .inr ⟨_,rfl,rfl⟩)
  have g1:itO (qf7 s) 0=some d:=g1
  rw [decide_eq_false hl,cond_false,decide_eq_false h1,cond_false,g1,qe]
  simp only [h0,h2,ne_eq,not_false_eq_true,decide_true,Bool.true_and]
  rw [List.drop_zero] at g2
  rw [← g2]
  cases d <;> rfl
theorem qqp {s:List UInt8} {i:Nat} {c:UInt8} (hc:s[i]?=some c):(c.toNat < 128∧qm s i=(c.toNat,1))∨(128≤c.toNat∧128≤(qm s i).1):=by
 by_cases h:c.toNat < 128
 ·exact .inl ⟨h,q30 hc h⟩
 ·exact .inr ⟨by omega,q36 hc h⟩
theorem qtp {i:Nat} {x:Int} (h:128≤x):qlm i x=false:=by
 unfold qlm
 simp (disch:=omega) only [decide_eq_false,Bool.or_self,Bool.and_false]
def jia:Nat→Option Nat
 | 0=>none
 | i + 1=>some (i + 1)
theorem q9a {s:List UInt8}:f107 s=some (qmw s):=by
 unfold f107
 obtain ⟨d,g1,g2⟩:=qcc s.length jia (qmj s) (fun d=>match d with | .inl _=>false | .inr _=>true) (fun i=>qg2 i (s.drop i)) (by
   rw [List.drop_eq_nil_of_le (Nat.le_refl _)]
   cases hn:s.length with
   | zero=>
    refine ⟨.inr 0,?_,rfl⟩
    show qd0 s=_
    unfold qd0
    rw [hn]; rfl
   | succ n=>
    refine ⟨.inr (n + 1),?_,rfl⟩
    show qdy s (n + 1)=_
    unfold qdy
    rw [hn,decide_eq_false (by omega)]; rfl) (fun i hi=>by
   obtain ⟨c,hc⟩:∃ c,s[i]?=some c:=⟨_,List.getElem?_eq_getElem hi⟩
   rw [qnq hc]
   cases i with
   | zero=>
    show (qd0 s=_∧_)∨(∃ d,qd0 s=_∧_)
    unfold qd0
    rw [decide_eq_true hi,cond_true]
    rcases qqp hc with ⟨hlt,he⟩ | ⟨hge,hr⟩
    ·rw [he]
     simp only []
     have hx:0≤(c.toNat:Int):=by omega
     unfold qlm
     generalize (c.toNat:Int)=x at hx ⊢
     rcases kinds x with h | h | h | h | h | h | h | h | h <;>
      simp (disch:=omega) only [decide_eq_true,decide_eq_false,cond_true,cond_false,Bool.or_false,Bool.false_or,Bool.true_or,Bool.and_true,Bool.true_and,Bool.false_and] <;>
      first
       | exact .inl ⟨trivial,trivial⟩
       | exact .inl ⟨rfl,trivial⟩
       | exact .inl ⟨rfl,rfl⟩
       | exact .inr ⟨_,rfl,rfl⟩
    ·rw [qtp (by omega)]
     generalize hd:qm s 0=dd at hr ⊢
     have hr':(128:Int)≤(dd.1:Int):=by omega
     generalize (dd.1:Int)=x at hr' ⊢
     simp (disch:=omega) only [decide_eq_true,decide_eq_false,cond_true,cond_false,Bool.false_and]
     exact .inr ⟨_,rfl,rfl⟩
   | succ i=>
    show (qdy s (i + 1)=_∧_)∨(∃ d,qdy s (i + 1)=_∧_)
    unfold qdy
    rw [decide_eq_true hi,cond_true]
    rcases qqp hc with ⟨hlt,he⟩ | ⟨hge,hr⟩
    ·rw [he]
     simp only []
     have hx:0≤(c.toNat:Int):=by omega
     unfold qlm
     generalize (c.toNat:Int)=x at hx ⊢
     have e0:decide (((i + 1:Nat):Int)=0)=false:=decide_eq_false (by omega)
     rcases kinds x with h | h | h | h | h | h | h | h | h <;>
      simp (disch:=omega) only [e0,decide_eq_true,decide_eq_false,cond_true,cond_false,Bool.or_false,Bool.or_true,Bool.false_or,Bool.true_or,Bool.and_true,Bool.true_and,Bool.false_and] <;>
      first
       | exact .inl ⟨trivial,trivial⟩
       | exact .inl ⟨rfl,trivial⟩
       | exact .inl ⟨rfl,rfl⟩
       | exact .inr ⟨_,rfl,rfl⟩
    ·rw [qtp (by omega)]
     generalize hd:qm s (i + 1)=dd at hr ⊢
     have hr':(128:Int)≤(dd.1:Int):=by omega
     have e0:decide (((i + 1:Nat):Int)=0)=false:=decide_eq_false (by omega)
     generalize (dd.1:Int)=x at hr' ⊢
     simp (disch:=omega) only [e0,decide_eq_true,decide_eq_false,cond_true,cond_false,Bool.false_and]
     exact .inr ⟨_,rfl,rfl⟩)
 have g1:itO (qmj s) none=some d:=g1
 rw [g1,qe]
 unfold qmw
 rw [List.drop_zero] at g2
 cases d with
 | inl d=>simp only [] at g2; rw [← g2]; simp
 | inr d=>
  simp only [] at g2
  rw [← g2]
  by_cases h0:s=[]
  ·subst h0; rfl
  ·have e:decide ((s.length:Int)≤24)=decide (s.length≤24):=by by_cases h:s.length≤24 <;> simp [h] <;> omega
   rw [e]
   simp [h0]
end Go.Z
/-
 Ladders,the values of a part,parts and catalogues: what their checks come to.
-/
namespace Go.Z
open Go Go.Abs
def kB:List UInt8:=[98,108,111,99,107]
def kSe:List UInt8:=[115,101,114,105,101,115]
def kSh:List UInt8:=[115,104,117,110,116]
def kT:List UInt8:=[116,114,97,112]
def isK (s:List UInt8):Bool:=decide (s=kB) || decide (s=kSe) || decide (s=kSh) || decide (s=kT)
def qbb (s:List UInt8):Bool:=decide (s=kB) || decide (s=kT)
def yx (x:GEl):Int:=ju [yv (!isK x.kind) 13,jq x.a 0 8,jq x.b 0 8,yv (qbb x.kind && decide (x.a=0) && decide (x.b=0)) 6]
def yp (l:List GEl):Int:=if 5 < l.length then 5 else ju (l.map yx)
theorem qc6 {δ:Type} {F q:Int} {A B:Option (Int ⊕ δ)} {d:δ} {V:δ→Int} (hF:F=q) (hA:A=B) (hV:V d=F):(q=0∧cond (decide (F=0)) A (some (.inr d))=B)∨(q ≠ 0∧∃ d',cond (decide (F=0)) A (some (.inr d))=some (.inr d')∧V d'=q):=by
 subst hF
 by_cases h:F=0
 ·exact .inl ⟨h,by rw [decide_eq_true h]; exact hA⟩
 ·exact .inr ⟨h,d,by rw [decide_eq_false h]; rfl,hV⟩
theorem qzm {o:Option (List GEl)}:f158 o=some (yp (o.getD [])):=by
 unfold f158 yp
 by_cases h5:(5:Int) < ((o.getD []).length:Int)
 ·rw [decide_eq_true h5,if_pos (by omega)]; rfl
 ·rw [decide_eq_false h5,if_neg (by omega),cond_false]
  have hn:(o.getD []).length≤9223372036854775807:=by omega
  obtain ⟨d,g1,g2⟩:=qjv (o.getD []) (qhw o) yx (fun d=>match d with
   | .inl d226=>d226.1
   | .inr (.inl d227)=>d227.1
   | .inr (.inr (.inl d228))=>d228.1
   | .inr (.inr (.inr (.inl d229)))=>d229.1
   | .inr (.inr (.inr (.inr (.inl d230))))=>d230.1
   | .inr (.inr (.inr (.inr (.inr d231))))=>0) ⟨_,by unfold qhw; rw [zq]; rfl,rfl⟩ (fun i x hx hi=>by
    unfold qhw
    rw [zx hi,cond_true,zb hx,qe,jw hi hn]
    simp only [qsa,qzj,qe]
    by_cases k1:x.kind=kB
    ·rw [decide_eq_true (show x.kind=[98,108,111,99,107] from k1),cond_true]
     by_cases ha:x.a=0
     ·rw [decide_eq_true ha,cond_true,qc4 (by simp),qe]
      exact qc6 (by simp [yx,isK,qbb,k1,ha]) rfl rfl
     ·rw [decide_eq_false ha,cond_false,qc4 (by simp),qe]
      exact qc6 (by simp [yx,isK,qbb,k1,ha]) rfl rfl
    rw [decide_eq_false (show ¬ x.kind=[98,108,111,99,107] from k1),cond_false]
    by_cases k2:x.kind=kSe
    ·rw [decide_eq_true (show x.kind=[115,101,114,105,101,115] from k2),cond_true,qc4 (by simp),qe]
     exact qc6 (by simp [yx,isK,qbb,k2,kSe,kB,kT]) rfl rfl
    rw [decide_eq_false (show ¬ x.kind=[115,101,114,105,101,115] from k2),cond_false]
    by_cases k3:x.kind=kSh
    ·rw [decide_eq_true (show x.kind=[115,104,117,110,116] from k3),cond_true,qc4 (by simp),qe]
     exact qc6 (by simp [yx,isK,qbb,k3,kSh,kSe,kB,kT]) rfl rfl
    rw [decide_eq_false (show ¬ x.kind=[115,104,117,110,116] from k3),cond_false]
    by_cases k4:x.kind=kT
    ·rw [decide_eq_true (show x.kind=[116,114,97,112] from k4),cond_true]
     by_cases ha:x.a=0
     ·rw [decide_eq_true ha,cond_true,qc4 (by simp),qe]
      exact qc6 (by simp [yx,isK,qbb,k4,ha]) rfl rfl
     ·rw [decide_eq_false ha,cond_false,qc4 (by simp),qe]
      exact qc6 (by simp [yx,isK,qbb,k4,ha]) rfl rfl
    rw [decide_eq_false (show ¬ x.kind=[116,114,97,112] from k4),cond_false,qc4 (by simp),qe]
    exact qc6 (by simp [yx,isK,qbb,k1,k2,k3,k4]) rfl rfl)
  rw [g1,qe,← g2]
  rcases d with d | d | d | d | d | d <;> rfl
theorem qje {x:GEl}:yp [x]=yx x:=by
 unfold yp
 simp only [List.length_cons,List.length_nil,List.map_cons,List.map_nil,ju]
 by_cases h:yx x=0 <;> simp [h]
theorem qyt {x:GEl}:f108 x=some (yx x):=by unfold f108; rw [qzm]; simp only [Option.getD_some,qje]; rfl
theorem q6m {x:GEl}:qur x=some (yx x):=qyt
theorem q92 {l:List (List UInt8)} {s:List UInt8} (hn:l.length≤100):f191 (some l) s=some (!l.all fun y=>!decide (y=s)):=by
 unfold f191
 obtain ⟨d,g1,g2⟩:=qb6 l (qia (some l) s) (fun y=>!decide (y=s)) (fun d=>match d with | .inl _=>false | .inr _=>true) ⟨.inr _,by unfold qia; simp only [Option.getD_some]; rw [zq]; rfl,rfl⟩ (fun i x hx hi=>by
  unfold qia
  simp only [Option.getD_some]
  rw [zx hi,cond_true,zb hx,qe,jw hi (by omega)]
  by_cases h:x=s
  ·exact .inr ⟨by simp [h],.inl (),by rw [decide_eq_true h]; rfl,rfl⟩
  ·exact .inl ⟨by simp [h],by rw [decide_eq_false h]; rfl⟩)
 rw [g1,qe,← g2]
 cases d <;> rfl
theorem q80 {x:GEl}:f157 x=some (yx x):=by
 unfold f157
 have h192:f192=some (some [kB,kSe,kSh,kT]):=rfl
 rw [h192,qe,q92 (by decide),qe]
 have hk:(!([kB,kSe,kSh,kT].all fun y=>!decide (y=x.kind)))=isK x.kind:=by
  simp only [List.all_cons,List.all_nil,isK,Bool.and_true,Bool.not_and,Bool.not_not,eq_comm (a:=x.kind),Bool.or_assoc]
 rw [hk]
 simp only [qmt,qe]
 unfold yx
 cases hK:isK x.kind with
 | false=>simp [ju,yv]
 | true=>
  rw [cond_true,qh1 (by simp),qe]
  have hd:f55 x.kind=some (qbb x.kind):=by
   unfold f55 qbb
   by_cases h:x.kind=kB
   ·rw [decide_eq_true (show x.kind=[98,108,111,99,107] from h),decide_eq_true h]; rfl
   ·rw [decide_eq_false (show ¬ x.kind=[98,108,111,99,107] from h),decide_eq_false h]; rfl
  rw [hd]
  by_cases h1:jq x.a 0 8=0
  ·by_cases h2:jq x.b 0 8=0
   ·simp only [ju,h1,h2,if_true,decide_true,cond_true,qe]
    cases hD:qbb x.kind with
    | false=>simp [yv]
    | true=>
     by_cases ha:x.a=0
     ·by_cases hb:x.b=0 <;> simp [yv,ha,hb]
     ·simp [yv,ha]
   ·simp [ju,h1,h2,yv]
  ·simp [ju,h1,yv]
theorem qy6 {o:Option (List GEl)}:f103 o=some (yp (o.getD [])):=by
 unfold f103 yp
 by_cases h5:(5:Int) < ((o.getD []).length:Int)
 ·rw [decide_eq_true h5,if_pos (by omega)]; rfl
 ·rw [decide_eq_false h5,if_neg (by omega),cond_false]
  have hn:(o.getD []).length≤9223372036854775807:=by omega
  obtain ⟨d,g1,g2⟩:=qjv (o.getD []) (qhd o) yx (fun d=>match d with | .inl x=>x | .inr _=>0) ⟨.inr _,by unfold qhd; rw [zq]; rfl,rfl⟩ (fun i x hx hi=>by
   unfold qhd
   rw [zx hi,cond_true,zb hx,qe,q80,qe,jw hi hn]
   exact qc6 rfl rfl rfl)
  rw [g1,qe,← g2]
  cases d <;> rfl
def yh (a s:Int) (c:Bool):List Int:=if s=0 then [a] else if c then [a - s,a + s] else [a - 1,a,a + 1]
def okN (a s:Int):Prop:=0≤a∧a≤8∧0≤s∧s≤1
theorem yz {x:Int} (h:-1000000≤x∧x≤1000000):qg .i64 x=x:=by
 exact zu (by omega) (by omega)
end Go.Z
/-
 The values of a part; parts and catalogues: what their checks come to,on both sides.
-/
namespace Go.Z
open Go Go.Abs
theorem qe7 {a s:Int} (h:okN a s):((yh a s false).length:Int)=2 * s + 1:=by
 obtain ⟨h1,h2,h3,h4⟩:=h
 rcases (show s=0∨s=1 by omega) with rfl | rfl <;> rfl
theorem qst {a s:Int} (h:okN a s) {i:Nat} {x:Int} (hx:(yh a s false)[i]?=some x):x=a - s + i:=by
 obtain ⟨h1,h2,h3,h4⟩:=h
 rcases (show s=0∨s=1 by omega) with rfl | rfl
 ·match i,hx with
  | 0,hx=>cases hx; omega
 ·match i,hx with
  | 0,hx=>cases hx; omega
  | 1,hx=>cases hx; omega
  | 2,hx=>cases hx; omega
theorem qg0 {a s:Int} {c:Bool}:(yh a s c).length≤3:=by
 unfold yh
 split
 ·simp
 ·split <;> simp
theorem qy8 {a s:Int} (h:okN a s):f155 a s=some ⟨a - s,a + s⟩:=by
 obtain ⟨h1,h2,h3,h4⟩:=h
 unfold f155
 rw [yz (by omega),yz (by omega)]
theorem qzo {a s:Int} {c:Bool} (h:okN a s):f156 ⟨a - s,a + s⟩ c=some (some (yh a s c),true):=by
 have h':=h
 obtain ⟨h1,h2,h3,h4⟩:=h'
 unfold f156
 simp only []
 by_cases hs:s=0
 ·subst hs
  rw [decide_eq_true (by omega)]
  simp [yh]
 ·rw [decide_eq_false (by omega),cond_false]
  cases c with
  | true=>simp [yh,hs]
  | false=>
   rw [cond_false]
   have:=qet (yh a s false) (fun i=>a - s + i) (qh2 ⟨a - s,a + s⟩) (fun x=>[x]) [] (fun i l=>l.length=i) rfl (fun l=>by
    unfold qh2
    simp only []
    rw [qe7 h,decide_eq_false (by omega)]; rfl) (fun i x l hx hi hl=>by
    have hxi:=qst h hx
    have:=qe7 h
    refine ⟨by simp [hl],?_⟩
    unfold qh2
    simp only []
    rw [decide_eq_true (by omega),cond_true,qbm (by omega),yz (by omega),qc5,hxi]
    congr 4
    omega)
   have e0:a - s + ((0:Nat):Int)=a - s:=by omega
   rw [e0] at this
   rw [show (qv ([]:List Int),a - s,z7 ([]:List Int))=(none,a - s,false) from rfl] at this
   rw [this,qe,List.nil_append,qcj,List.map_id']
   have hne:yh a s false=[a - 1,a,a + 1]:=by simp [yh,hs]
   rw [hne]; rfl
def za (p:qi) (c:Bool):List GEl:=(yh p.pa p.sa c).flatMap fun a=>(yh p.pb p.sb c).map fun b=>⟨p.kd,a,b⟩
def okP (p:qi):Prop:=okN p.pa p.sa∧okN p.pb p.sb
theorem qyz {p:qi} {c:Bool}:za p c ≠ []:=by
 have h:∀ a s,yh a s c ≠ []:=by
  intro a s
  unfold yh
  split
  ·simp
  ·split <;> simp
 unfold za
 obtain ⟨x,l,hx⟩:∃ x l,yh p.pa p.sa c=x::l:=by
  cases hn:yh p.pa p.sa c with
  | nil=>exact absurd hn (h _ _)
  | cons x l=>exact ⟨x,l,rfl⟩
 obtain ⟨y,m,hy⟩:∃ x l,yh p.pb p.sb c=x::l:=by
  cases hn:yh p.pb p.sb c with
  | nil=>exact absurd hn (h _ _)
  | cons x l=>exact ⟨x,l,rfl⟩
 rw [hx,hy]
 simp
theorem qtf {α:Type} {l:List α} (h:l ≠ []):qv l=some l∧z7 l=true:=by
 cases l with
 | nil=>exact absurd rfl h
 | cons x l=>exact ⟨rfl,rfl⟩
theorem qb0 {p:qi} {c:Bool}:(za p c).length≤9:=by
 unfold za
 have h1:=qg0 (a:=p.pa) (s:=p.sa) (c:=c)
 have h2:=qg0 (a:=p.pb) (s:=p.sb) (c:=c)
 generalize yh p.pa p.sa c=l at h1
 generalize yh p.pb p.sb c=m at h2
 have:∀ l:List Int,(l.flatMap fun a=>m.map fun b=>(⟨p.kd,a,b⟩:GEl)).length=l.length * m.length:=by
  intro l
  induction l with
  | nil=>simp
  | cons x l ih=>rw [List.flatMap_cons,List.length_append,ih,List.length_map,List.length_cons,Nat.succ_mul]; omega
 rw [this]
 exact Nat.le_trans (Nat.mul_le_mul h1 h2) (by decide)
theorem qxd {p:qi} {c:Bool} (h:okP p):f99 p c=some (some (za p c),true):=by
 unfold f99
 rw [qy8 h.1,qe,qzo h.1,qe]
 have:=qet (yh p.pa p.sa c) (fun i=>(i:Int)) (ql1 p c (some (yh p.pa p.sa c),true)) (fun a=>(yh p.pb p.sb c).map fun b=>(⟨p.kd,a,b⟩:GEl)) [] (fun i l=>l.length≤3 * i) (by simp) (fun l=>by
  unfold ql1
  simp only [Option.getD_some]
  rw [zq]; rfl) (fun i x l hx hi hl=>by
  have hn:=qg0 (a:=p.pa) (s:=p.sa) (c:=c)
  have hm:=qg0 (a:=p.pb) (s:=p.sb) (c:=c)
  refine ⟨by rw [List.length_append,List.length_map]; omega,?_⟩
  unfold ql1
  simp only [Option.getD_some]
  rw [zx hi,cond_true,zb hx,qe,qy8 h.2,qe,qzo h.2,qe]
  have inner:=qet (yh p.pb p.sb c) (fun j=>(j:Int)) (qly p c (some (yh p.pa p.sa c),true) (qv l,(i:Int),z7 l) x (some (yh p.pb p.sb c),true)) (fun b=>[(⟨p.kd,x,b⟩:GEl)]) l (fun j k=>k.length=l.length + j) (by simp) (fun k=>by
   unfold qly
   simp only [Option.getD_some]
   rw [zq]; rfl) (fun j y k hy hj hk=>by
   refine ⟨by simp [hk]; omega,?_⟩
   unfold qly
   simp only [Option.getD_some]
   rw [zx hj,cond_true,zb hy,qe,qbm (by omega),jw hj (by omega),qc5])
  rw [qcj] at inner
  rw [show (((0:Nat):Int))=0 from rfl] at inner
  rw [inner,qe,jw hi (by omega)])
 rw [show (qv ([]:List GEl),((0:Nat):Int),z7 ([]:List GEl))=(none,0,false) from rfl] at this
 rw [this,qe,List.nil_append]
 obtain ⟨e1,e2⟩:=qtf (qyz (p:=p) (c:=c))
 show some (qv (za p c),z7 (za p c))=_
 rw [e1,e2]
theorem qse {p:qi} (h:okP p):f104 p=some (some (za p false),true):=by
 obtain ⟨⟨a1,a2,a3,a4⟩,b1,b2,b3,b4⟩:=id h
 unfold f104
 have:=qet (yh p.pa p.sa false) (fun i=>p.pa - p.sa + i) (qhl p) (fun a=>(yh p.pb p.sb false).map fun b=>(⟨p.kd,a,b⟩:GEl)) [] (fun i l=>l.length≤3 * i) (by simp) (fun l=>by
  unfold qhl
  simp only []
  rw [qe7 h.1,yz (by omega),decide_eq_false (by omega)]; rfl) (fun i x l hx hi hl=>by
  have hn:=qg0 (a:=p.pa) (s:=p.sa) (c:=false)
  have hm:=qg0 (a:=p.pb) (s:=p.sb) (c:=false)
  have hxi:=qst h.1 hx
  have hnl:=qe7 h.1
  refine ⟨by rw [List.length_append,List.length_map]; omega,?_⟩
  unfold qhl
  simp only []
  rw [yz (x:=p.pa + p.sa) (by omega),decide_eq_true (by omega),cond_true]
  have inner:=qet (yh p.pb p.sb false) (fun j=>p.pb - p.sb + j) (qib p (qv l,p.pa - p.sa + (i:Int),z7 l)) (fun b=>[(⟨p.kd,x,b⟩:GEl)]) l (fun j k=>k.length=l.length + j) (by simp) (fun k=>by
   unfold qib
   simp only []
   rw [qe7 h.2,yz (by omega),decide_eq_false (by omega)]; rfl) (fun j y k hy hj hk=>by
   have hyj:=qst h.2 hy
   have hml:=qe7 h.2
   refine ⟨by simp [hk]; omega,?_⟩
   unfold qib
   simp only []
   rw [yz (x:=p.pb + p.sb) (by omega),decide_eq_true (by omega),cond_true,qbm (by omega),yz (by omega),qc5,hyj,hxi]
   congr 4
   omega)
  rw [qcj] at inner
  rw [show p.pb - p.sb + ((0:Nat):Int)=p.pb - p.sb by omega] at inner
  rw [yz (x:=p.pb - p.sb) (by omega),inner,qe,yz (by omega)]
  congr 4
  omega)
 rw [show p.pa - p.sa + ((0:Nat):Int)=p.pa - p.sa by omega] at this
 rw [yz (x:=p.pa - p.sa) (by omega)]
 rw [show (qv ([]:List GEl),p.pa - p.sa,z7 ([]:List GEl))=(none,p.pa - p.sa,false) from rfl] at this
 rw [this,qe,List.nil_append]
 obtain ⟨e1,e2⟩:=qtf (qyz (p:=p) (c:=false))
 show some (qv (za p false),z7 (za p false))=_
 rw [e1,e2]
theorem q8i {l:List GEl} (hl:l.length≤1073741824):f110 (some l)=some (qv (l.map yx),z7 (l.map yx)):=by
 unfold f110
 rw [qha l (qh3 (some l)) yx hl (fun a=>by unfold qh3; simp only [Option.getD_some]; rw [zq]; rfl) (fun i x a hx hi ha=>by
  unfold qh3
  simp only [Option.getD_some]
  rw [zx hi,cond_true,zb hx,qe,q6m,qe,qbm ha,jw hi (by omega)]),qe]
def qfg (p:qi):Int:=ju [yv (!qmw p.name) 8,yx ⟨p.kd,p.pa,p.pb⟩,jq p.sa 0 1,jq p.sb 0 1,jq p.cost 1 1000000,jq p.stock 0 100]
def qbd (p:qi):Int:=if qfg p=0 then yv (!decide (ju ((za p false).map yx)=0)) 1 else qfg p
theorem qgo {n lo hi:Int}:jq n lo hi=0↔lo≤n∧n≤hi:=by
 unfold jq
 split
 ·constructor
  ·intro h; cases h
  ·intro h; omega
 ·split
  ·constructor
   ·intro h; cases h
   ·intro h; omega
  ·constructor
   ·intro; omega
   ·intro; rfl
theorem q39 {x:GEl} (h:yx x=0):isK x.kind=true∧(0≤x.a∧x.a≤8)∧(0≤x.b∧x.b≤8)∧¬ (qbb x.kind=true∧x.a=0∧x.b=0):=by
 have:=kq.1 h
 simp only [List.mem_cons,List.not_mem_nil,or_false,forall_eq_or_imp,forall_eq] at this
 obtain ⟨h1,h2,h3,h4⟩:=this
 refine ⟨?_,qgo.1 h2,qgo.1 h3,?_⟩
 ·cases hk:isK x.kind with
  | true=>rfl
  | false=>rw [hk] at h1; cases h1
 ·rintro ⟨hd,ha,hb⟩
  rw [hd,ha,hb] at h4
  cases h4
theorem qsn {p:qi} (h:qfg p=0):okP p:=by
 have:=kq.1 h
 simp only [List.mem_cons,List.not_mem_nil,or_false,forall_eq_or_imp,forall_eq] at this
 obtain ⟨_,h2,h3,h4,_⟩:=this
 obtain ⟨_,ha,hb,_⟩:=q39 h2
 have e1:=qgo.1 h3
 have e2:=qgo.1 h4
 exact ⟨⟨ha.1,ha.2,e1.1,e1.2⟩,⟨hb.1,hb.2,e2.1,e2.2⟩⟩
theorem jc5 {p:qi}:f22 p=some (qbd p):=by
 unfold f22
 simp only [q9a,qak,qyt,qog,qe]
 rw [qca (by simp),qe]
 show cond (decide (qfg p=0)) _ (some (qfg p))=_
 unfold qbd
 by_cases h:qfg p=0
 ·rw [decide_eq_true h,cond_true,if_pos h,qxd (qsn h),qe,q8i (by have:=qb0 (p:=p) (c:=false); omega),qe,
   qza (by rw [yb,List.length_map]; have:=qb0 (p:=p) (c:=false); omega),qe,yb]
 ·rw [decide_eq_false h,if_neg h]; rfl
theorem q90 {α:Type} {l:List α} {i:Nat} {x:α} (hx:l[i]?=some x):qof (some l) (some (i:Int)) (some ((i + 1:Nat):Int))=some (some [x]):=by
 have hi:=(List.getElem?_eq_some_iff.1 hx).1
 unfold qof q6s qi6
 simp only [Option.getD_some]
 rw [if_pos ⟨by omega,by omega⟩]
 simp only [Int.toNat_natCast]
 rw [if_pos ⟨by omega,by omega⟩]
 simp only [Option.map_some,Int.toNat_natCast]
 rw [List.drop_take,show i + 1 - i=1 by omega,z6 hx]
 rfl
theorem q6c {l:List Int}:(l.all fun x=>decide (x=0))=decide (ju l=0):=by
 induction l with
 | nil=>rfl
 | cons x l ih=>
  rw [List.all_cons,ih]
  show _=decide ((if x=0 then ju l else x)=0)
  by_cases h:x=0 <;> simp [h]
theorem jdw {p:qi}:f20 p=some (qbd p):=by
 unfold f20
 simp only [q9e,qr7,qy6,qmt,qe,Option.getD_some,qje]
 rw [qh1 (by simp),qe]
 show cond (decide (qfg p=0)) _ (some (qfg p))=_
 unfold qbd
 by_cases h:qfg p=0
 ·rw [decide_eq_true h,cond_true,if_pos h,qse (qsn h),qe]
  have hv:=qb0 (p:=p) (c:=false)
  obtain ⟨d,g1,g2⟩:=qb6 (za p false) (qlp (some (za p false),true)) (fun x=>decide (yx x=0)) (fun d=>match d with | .inl _=>false | .inr _=>true) ⟨.inr _,by unfold qlp; simp only [Option.getD_some]; rw [zq]; rfl,rfl⟩ (fun i x hx hi=>by
   unfold qlp
   simp only [Option.getD_some]
   rw [zx hi,cond_true,jw hi (by omega),q90 hx,qe,qy6,qe,Option.getD_some,qje]
   by_cases he:yx x=0
   ·exact .inl ⟨by simp [he],by rw [decide_eq_true he]; rfl⟩
   ·exact .inr ⟨by simp [he],.inl (),by rw [decide_eq_false he]; rfl,rfl⟩)
  rw [g1,qe]
  have e:(za p false).all (fun x=>decide (yx x=0))=decide (ju ((za p false).map yx)=0):=by
   rw [← q6c,List.all_map]; rfl
  rw [e] at g2
  rw [← g2]
  cases d <;> rfl
 ·rw [decide_eq_false h,if_neg h]; rfl
def qmp:List (List UInt8)→List qi→Int
 | _,[]=>0
 | seen,p::l=>if ju [qbd p,yv (decide (p.name∈seen)) 9]=0 then qmp (seen++[p.name]) l else ju [qbd p,yv (decide (p.name∈seen)) 9]
def qee (l:List qi):Int:=if 6 < l.length then 5 else qmp [] l
theorem qtr {l:List qi} {i:Nat} {p:qi} (hp:l[i]?=some p):(l.take (i + 1)).map (·.name)=(l.take i).map (·.name)++[p.name]:=by
 obtain ⟨hi,rfl⟩:=List.getElem?_eq_some_iff.1 hp
 rw [List.take_add_one,List.getElem?_eq_getElem hi,List.map_append]
 rfl
theorem q3v {o:Option (List qi)}:f23 o=some (qee (o.getD [])):=by
 unfold f23 qee
 by_cases h6:(6:Int) < ((o.getD []).length:Int)
 ·rw [decide_eq_true h6,if_pos (by omega)]; rfl
 ·rw [decide_eq_false h6,if_neg (by omega),cond_false]
  generalize hl:o.getD []=l at h6 ⊢
  obtain ⟨d,g1,g2⟩:=qcc l.length (fun i=>((i:Int),(l.take i).map (·.name))) (qik o) (fun d=>match d with | .inl x=>x.1 | .inr _=>0) (fun i=>qmp ((l.take i).map (·.name)) (l.drop i)) ⟨.inr _,by unfold qik; simp only [hl]; rw [zq]; rfl,by rw [List.drop_eq_nil_of_le (Nat.le_refl _)]; rfl⟩ (fun i hi=>by
   obtain ⟨p,hp⟩:∃ p,l[i]?=some p:=⟨_,List.getElem?_eq_getElem hi⟩
   unfold qik
   simp only [hl]
   rw [zx hi,cond_true,zb hp,qe,jc5,qe,qak,qe,qca (by simp),qe,jw hi (by omega),z6 hp]
   simp only [qmp]
   rw [show qhk (List.map (·.name) (List.take i l)) p.name=decide (p.name∈(l.take i).map (·.name)) from rfl]
   by_cases he:ju [qbd p,yv (decide (p.name∈(l.take i).map (·.name))) 9]=0
   ·left
    rw [decide_eq_true he,cond_true,if_pos he,qtr hp]
    refine ⟨?_,rfl⟩
    have hn:decide (p.name∈(l.take i).map (·.name))=false:=by
     cases hm:decide (p.name∈(l.take i).map (·.name)) with
     | false=>rfl
     | true=>
      rw [hm] at he
      have:=kq.1 he (yv true 9) (by simp)
      cases this
    have ha:qp2 ((l.take i).map (·.name)) p.name=some ((l.take i).map (·.name)++[p.name]):=by
     unfold qp2 qhk
     rw [hn]
     simp only [Bool.false_eq_true,if_false]
     rw [if_pos (by rw [List.length_map,List.length_take]; omega)]
    rw [ha]; rfl
   ·right
    rw [decide_eq_false he,cond_false,if_neg he]
    exact ⟨_,rfl,rfl⟩)
  have g1:itO (qik o) (0,[])=some d:=g1
  rw [g1,qe]
  simp only [List.take_zero,List.map_nil,List.drop_zero] at g2
  rw [← g2]
  cases d <;> rfl
theorem jcx {o:Option (List qi)}:f25 o=some (qee (o.getD [])):=by
 unfold f25 qee
 by_cases h6:(6:Int) < ((o.getD []).length:Int)
 ·rw [decide_eq_true h6,if_pos (by omega)]; rfl
 ·rw [decide_eq_false h6,if_neg (by omega),cond_false]
  generalize hl:o.getD []=l at h6 ⊢
  obtain ⟨d,g1,g2⟩:=qcc l.length (fun i=>(i:Int)) (qi2 o) (fun d=>match d with | .inl x=>x | .inr _=>0) (fun i=>qmp ((l.take i).map (·.name)) (l.drop i)) ⟨.inr _,by unfold qi2; simp only [hl]; rw [zq]; rfl,by rw [List.drop_eq_nil_of_le (Nat.le_refl _)]; rfl⟩ (fun i hi=>by
   obtain ⟨p,hp⟩:∃ p,l[i]?=some p:=⟨_,List.getElem?_eq_getElem hi⟩
   unfold qi2
   simp only [hl]
   rw [zx hi,cond_true,zb hp,qe,jdw,qe,jw hi (by omega),z6 hp]
   simp only [qmp,ju]
   by_cases he:qbd p=0
   ·rw [decide_eq_true he,cond_true]
    have hti:(l.take i).length=i:=by rw [List.length_take]; omega
    obtain ⟨d,k1,k2⟩:=qb6 (l.take i) (ql4 o (i:Int)) (fun x=>!decide (x.name=p.name)) (fun d=>match d with | .inl _=>false | .inr _=>true) ⟨.inr _,by unfold ql4; rw [hti,zq]; rfl,rfl⟩ (fun k x hx hk=>by
     have hki:k < i:=by omega
     have hxl:l[k]?=some x:=by rw [List.getElem?_take,if_pos hki] at hx; exact hx
     unfold ql4
     simp only [hl]
     rw [decide_eq_true (show (k:Int) < (i:Int) by omega),cond_true,zb hxl,qe,zb hp,qe,jw hki (by omega)]
     by_cases hxn:x.name=p.name
     ·exact .inr ⟨by simp [hxn],.inl (),by rw [decide_eq_true hxn]; rfl,rfl⟩
     ·exact .inl ⟨by simp [hxn],by rw [decide_eq_false hxn]; rfl⟩)
    rw [k1,qe]
    have hmem:decide (p.name∈(l.take i).map (·.name))=!((l.take i).all fun x=>!decide (x.name=p.name)):=by
     rw [Bool.eq_iff_iff]
     simp only [decide_eq_true_eq,List.mem_map,Bool.not_eq_true',List.all_eq_false,Bool.not_eq_true',Bool.not_eq_false]
    rw [hmem,← k2]
    cases d with
    | inl d=>right; exact ⟨_,rfl,by simp [he,yv]⟩
    | inr d=>left; refine ⟨rfl,?_⟩; simp only [he,if_true,Bool.not_true,yv,Bool.false_eq_true,if_false]; rw [qtr hp]
   ·right
    rw [decide_eq_false he,cond_false]
    exact ⟨_,rfl,by simp [he]⟩)
  have g1:itO (qi2 o) 0=some d:=g1
  rw [g1,qe]
  simp only [List.take_zero,List.map_nil,List.drop_zero] at g2
  rw [← g2]
  cases d <;> rfl
theorem qln {p:qi} (h:qbd p=0):okP p:=by
 refine qsn ?_
 unfold qbd at h
 by_cases hA:qfg p=0
 ·exact hA
 ·rw [if_neg hA] at h; exact h
def qj4 (l:List qi):Bool:=(decide (l.length≤4) || decide (l.length=7)) && l.all fun p=>decide (p.name.length≤60) && decide (p.kd.length≤60)
theorem q1j {n:Int} {p:qi} {A B:Option (Int ⊕ (Unit ⊕ Int))} (hA:A=B):
  ((decide (p.name.length≤60) && decide (p.kd.length≤60))=true∧cond (decide (60 < (p.name.length:Int))) (some (.inr (.inl ()))) (cond (decide (60 < (p.kd.length:Int))) (some (.inr (.inl ()))) A)=B) ∨
  ((decide (p.name.length≤60) && decide (p.kd.length≤60))=false∧∃ d:Unit ⊕ Int,cond (decide (60 < (p.name.length:Int))) (some (.inr (.inl ()))) (cond (decide (60 < (p.kd.length:Int))) (some (.inr (.inl ()))) A)=some (.inr d)∧(match d with | .inl _=>false | .inr _=>true)=false):=by
 subst hA
 by_cases h1:p.name.length≤60
 ·have e1:decide (60 < (p.name.length:Int))=false:=decide_eq_false (by omega)
  by_cases h2:p.kd.length≤60
  ·have e2:decide (60 < (p.kd.length:Int))=false:=decide_eq_false (by omega)
   left
   rw [decide_eq_true h1,decide_eq_true h2,e1,e2]
   exact ⟨rfl,rfl⟩
  ·have e2:decide (60 < (p.kd.length:Int))=true:=decide_eq_true (by omega)
   right
   rw [decide_eq_false h2,e1,e2]
   exact ⟨by simp,.inl (),rfl,rfl⟩
 ·have e1:decide (60 < (p.name.length:Int))=true:=decide_eq_true (by omega)
  right
  rw [decide_eq_false h1,e1]
  exact ⟨by simp,.inl (),rfl,rfl⟩
theorem jc8 {o:Option (List qi)}:f17 o=some (qj4 (o.getD [])):=by
 unfold f17 qj4
 generalize hl:o.getD []=l
 have hs:l.length≤7→∃ d,itO (qgs o) 0=some d∧(match d with | .inl _=>false | .inr _=>true)=l.all fun p=>decide (p.name.length≤60) && decide (p.kd.length≤60):=fun hn=>
  qb6 l (qgs o) _ (fun d=>match d with | .inl _=>false | .inr _=>true) ⟨.inr _,by unfold qgs; simp only [hl]; rw [zq]; rfl,rfl⟩ (fun i x hx hi=>by
   unfold qgs
   simp only [hl]
   rw [zx hi,cond_true,zb hx,qe,jw hi (by omega)]
   exact q1j (n:=0) rfl)
 have hb:qnp o=qgs o:=rfl
 by_cases h4:(4:Int) < (l.length:Int)
 ·rw [decide_eq_true h4,cond_true,decide_eq_false (show ¬ l.length≤4 by omega)]
  by_cases h7:(l.length:Int)=7
  ·obtain ⟨d,g1,g2⟩:=hs (by omega)
   rw [decide_eq_true h7,cond_true,decide_eq_true (show l.length=7 by omega),g1,qe,← g2]
   cases d <;> rfl
  ·rw [decide_eq_false h7,decide_eq_false (show ¬ l.length=7 by omega)]; rfl
 ·obtain ⟨d,g1,g2⟩:=hs (by omega)
  rw [decide_eq_false h4,cond_false,decide_eq_true (show l.length≤4 by omega),hb,g1,qe,← g2]
  cases d <;> rfl
theorem qwj {x y:GEl}:(decide (x.kind=y.kind) && decide (x.a=y.a) && decide (x.b=y.b))=true↔x=y:=by
 cases x; cases y
 simp [and_assoc]
theorem jdo {a b:Option (List GEl)} (hn:(a.getD []).length≤1073741824):∃ r,f26 a b=some r∧(r=true↔a.getD []=b.getD []):=by
 unfold f26
 by_cases h:((a.getD []).length:Int)=((b.getD []).length:Int)
 ·rw [decide_eq_true h,cond_true]
  obtain ⟨d,g1,g2⟩:=qcc (a.getD []).length (fun i=>(i:Int)) (qiv a b) (fun d=>match d with | .inl _=>False | .inr _=>True) (fun i=>(a.getD []).drop i=(b.getD []).drop i) ⟨.inr _,by unfold qiv; rw [zq]; rfl,by
    rw [List.drop_eq_nil_of_le (Nat.le_refl _),List.drop_eq_nil_of_le (by omega)]; simp⟩ (fun i hi=>by
   obtain ⟨x,hx⟩:∃ x,(a.getD [])[i]?=some x:=⟨_,List.getElem?_eq_getElem hi⟩
   obtain ⟨y,hy⟩:∃ y,(b.getD [])[i]?=some y:=⟨_,List.getElem?_eq_getElem (by omega)⟩
   unfold qiv
   rw [zx hi,cond_true,zb hx,qe,zb hy,qe,jw hi (by omega),z6 hx,z6 hy]
   by_cases hxy:x=y
   ·left
    rw [qwj.2 hxy]
    subst hxy
    exact ⟨rfl,by simp⟩
   ·right
    have hf:(decide (x.kind=y.kind) && decide (x.a=y.a) && decide (x.b=y.b))=false:=by
     cases hc:(decide (x.kind=y.kind) && decide (x.a=y.a) && decide (x.b=y.b)) with
     | false=>rfl
     | true=>exact absurd (qwj.1 hc) hxy
    rw [hf]
    exact ⟨.inl (),rfl,by simp [hxy]⟩)
  have g1:itO (qiv a b) 0=some d:=g1
  rw [g1,qe]
  simp only [List.drop_zero] at g2
  cases d with
  | inl d=>exact ⟨false,rfl,by rw [← g2]; simp⟩
  | inr d=>exact ⟨true,rfl,by rw [← g2]; simp⟩
 ·rw [decide_eq_false h]
  exact ⟨false,rfl,⟨(fun hh=>by cases hh),(fun hh=>absurd (by rw [hh]) h)⟩⟩
theorem qxc {o:Option (List GEl)} (hn:(o.getD []).length≤1073741824):f27 o=some (qv (o.getD []),z7 (o.getD [])):=by
 unfold f27
 rw [qha (o.getD []) (ql2 o) id hn (fun a=>by unfold ql2; rw [zq]; rfl) (fun i x a hx hi ha=>by
  unfold ql2
  rw [zx hi,cond_true,zb hx,qe,qbm ha,jw hi (by omega)]; rfl),qe,List.map_id]
theorem jb3 {o:Option (List qi)} (hn:(o.getD []).length≤1073741824):f24 o=some (qv (o.getD []),z7 (o.getD [])):=by
 unfold f24
 rw [qha (o.getD []) (qls o) id hn (fun a=>by unfold qls; rw [zq]; rfl) (fun i x a hx hi ha=>by
  unfold qls
  rw [zx hi,cond_true,zb hx,qe,show f19 x=some x from rfl,qe,qbm ha,jw hi (by omega)]; rfl),qe,List.map_id]
end Go.Z
