/- Loops as plain functions of their lists. -/
import Derived.Test.YtnjngdcbkkonnaaGreatDoorA1
set_option linter.unusedVariables false
set_option linter.unusedSimpArgs false
set_option maxRecDepth 100000
namespace Go.Z
open Go Go.Abs
theorem qhv {σ δ γ:Type} (n:Nat) (mk:Nat→σ) (f:σ→Option (σ ⊕ δ)) (V:δ→γ) (r:Nat→γ) (hend:∃ d,f (mk n)=some (.inr d)∧V d=r n)
  (hstep:∀ i,i < n→(f (mk i)=some (.inl (mk (i + 1)))∧r i=r (i + 1))∨(∃ d,f (mk i)=some (.inr d)∧V d=r i)):∃ d,itO f (mk 0)=some d∧V d=r 0:=by
 have key:∀ (k i:Nat),i + k=n→∃ d,itO f (mk i)=some d∧V d=r i:=by
  intro k
  induction k with
  | zero=>
   intro i hi
   have:i=n:=by omega
   subst this
   obtain ⟨d,h1,h2⟩:=hend
   exact ⟨d,qat h1,h2⟩
  | succ k ih=>
   intro i hi
   rcases hstep i (by omega) with ⟨h1,h2⟩ | ⟨d,h1,h2⟩
   ·rw [qed h1,h2]; exact ih (i + 1) (by omega)
   ·exact ⟨d,qat h1,h2⟩
 exact key n 0 (by omega)
theorem qsf {α:Type} {l:List α} {q:α→Int} {i:Nat} {x:α} (hx:l[i]?=some x):zb ((l.drop i).map q)=if q x=0 then zb ((l.drop (i + 1)).map q) else q x:=by
 rw [qb2 hx]; rfl
theorem qig {α δ:Type} (l:List α) (f:Int→Option (Int ⊕ δ)) (q:α→Int) (V:δ→Int) (hend:∃ d,f (l.length:Int)=some (.inr d)∧V d=0)
  (hstep:∀ (i:Nat) x,l[i]?=some x→i < l.length→(q x=0∧f (i:Int)=some (.inl ((i + 1:Nat):Int)))∨(q x ≠ 0∧∃ d,f (i:Int)=some (.inr d)∧V d=q x)):∃ d,itO f 0=some d∧V d=zb (l.map q):=by
 have:=qhv l.length (fun i=>(i:Int)) f V (fun i=>zb ((l.drop i).map q)) (by rw [List.drop_eq_nil_of_le (Nat.le_refl _)]; exact hend) (fun i hi=>by
  obtain ⟨x,hx⟩:∃ x,l[i]?=some x:=⟨_,List.getElem?_eq_getElem hi⟩
  simp only [qsf hx]
  rcases hstep i x hx hi with ⟨h1,h2⟩ | ⟨h1,h2⟩
  ·rw [if_pos h1]; exact .inl ⟨h2,rfl⟩
  ·rw [if_neg h1]; exact .inr h2)
 simpa using this
theorem qfu {α δ:Type} (l:List α) (f:Int→Option (Int ⊕ δ)) (q:α→Bool) (V:δ→Bool) (hend:∃ d,f (l.length:Int)=some (.inr d)∧V d=true)
  (hstep:∀ (i:Nat) x,l[i]?=some x→i < l.length→(q x=true∧f (i:Int)=some (.inl ((i + 1:Nat):Int)))∨(q x=false∧∃ d,f (i:Int)=some (.inr d)∧V d=false)):∃ d,itO f 0=some d∧V d=l.all q:=by
 have:=qhv l.length (fun i=>(i:Int)) f V (fun i=>(l.drop i).all q) (by rw [List.drop_eq_nil_of_le (Nat.le_refl _)]; exact hend) (fun i hi=>by
  obtain ⟨x,hx⟩:∃ x,l[i]?=some x:=⟨_,List.getElem?_eq_getElem hi⟩
  simp only [qb2 hx,List.all_cons]
  rcases hstep i x hx hi with ⟨h1,h2⟩ | ⟨h1,h2⟩
  ·rw [h1]; exact .inl ⟨h2,rfl⟩
  ·rw [h1]; exact .inr h2)
 simpa using this
theorem qdt {α β:Type} (l:List α) (ix:Nat→Int) (f:Option (List β) × Int × Bool→Option ((Option (List β) × Int × Bool) ⊕ (Option (List β) × Bool × Int))) (h:α→List β) (a0:List β) (I:Nat→List β→Prop) (hI:I 0 a0)
  (hend:∀ a,f (j5 a,ix l.length,qaf a)=some (.inr (j5 a,qaf a,ix l.length)))
  (hstep:∀ (i:Nat) x a,l[i]?=some x→i < l.length→I i a→I (i + 1) (a++h x)∧f (j5 a,ix i,qaf a)=some (.inl (j5 (a++h x),ix (i + 1),qaf (a++h x)))):
  itO f (j5 a0,ix 0,qaf a0)=some (j5 (a0++l.flatMap h),qaf (a0++l.flatMap h),ix l.length):=by
 have key:∀ (k i:Nat),i + k=l.length→∀ a,I i a→itO f (j5 a,ix i,qaf a)=some (j5 (a++(l.drop i).flatMap h),qaf (a++(l.drop i).flatMap h),ix l.length):=by
  intro k
  induction k with
  | zero=>
   intro i hi a _
   have:i=l.length:=by omega
   subst this
   rw [List.drop_eq_nil_of_le (Nat.le_refl _),List.flatMap_nil,List.append_nil,qat (hend a)]
  | succ k ih=>
   intro i hi a ha
   obtain ⟨x,hx⟩:∃ x,l[i]?=some x:=⟨_,List.getElem?_eq_getElem (by omega)⟩
   obtain ⟨h1,h2⟩:=hstep i x a hx (by omega) ha
   rw [qed h2,ih (i + 1) (by omega) _ h1,qb2 hx,List.flatMap_cons,List.append_assoc]
 have:=key l.length 0 (by omega) a0 hI
 rwa [List.drop_zero] at this
theorem qxa {α:Type} {a:List α} {x:α} (h:a.length < 1073741824):apO (j5 a) [x]=some (j5 (a++[x])):=by
 unfold apO
 cases a with
 | nil=>rfl
 | cons y a=>
  have:((j5 (y::a)).getD []).length + [x].length≤1073741824:=by simp [j5] at h ⊢; omega
  rw [if_pos this]; rfl
theorem qcw {α γ:Type} {a:List α} {x:α} {k:Option (List α)→Option γ} (h:a.length < 1073741824):cond (qaf a) (qi (apO (j5 a) [x]) k) (cond (j5 a).isNone (qi (apO (j5 a) [x]) k) none)=k (j5 (a++[x])):=by
 rw [qxa h]
 cases a <;> rfl
theorem qac {α:Type} (a:List α):(j5 a).getD []=a:=by cases a <;> rfl
theorem qcm {α β:Type} (h:α→β):∀ l:List α,l.flatMap (fun x=>[h x])=l.map h
 | []=>rfl
 | x::l=>by rw [List.flatMap_cons,qcm h l]; rfl
theorem qlm {α β:Type} (l:List α) (f:Option (List β) × Int × Bool→Option ((Option (List β) × Int × Bool) ⊕ (Option (List β) × Bool × Int))) (h:α→β) (hl:l.length≤1073741824)
  (hend:∀ a:Option (List β) × Bool,f (a.1,(l.length:Int),a.2)=some (.inr (a.1,a.2,(l.length:Int))))
  (hstep:∀ (i:Nat) x (a:List β),l[i]?=some x→i < l.length→a.length < 1073741824→f (j5 a,(i:Int),qaf a)=some (.inl (j5 (a++[h x]),((i + 1:Nat):Int),true))):
  itO f (none,0,false)=some (j5 (l.map h),qaf (l.map h),(l.length:Int)):=by
 have:=qdt l (fun i=>(i:Int)) f (fun x=>[h x]) [] (fun i a=>a.length=i) rfl (fun a=>hend (j5 a,qaf a)) (fun i x a hx hi ha=>⟨by simp [ha],by rw [hstep i x a hx hi (by omega),qgr]⟩)
 rw [qcm,List.nil_append] at this
 exact this
theorem yn {α:Type} {l:List α} {i:Nat} {x:α} (hx:l[i]?=some x):zz l (i:Int)=some x:=by rw [qja,hx]
theorem ko {α:Type} {l:List α} {i:Nat} (h:i < l.length):decide ((i:Int) < (l.length:Int))=true:=decide_eq_true (by omega)
theorem yu {n:Nat}:decide ((n:Int) < (n:Int))=false:=decide_eq_false (by omega)
set_option maxHeartbeats 1000000
theorem qlt {b:Bool} {e:Int}:f106 b e=some (ke b e):=by cases b <;> rfl
theorem qo2 {b:Bool} {e:Int}:f194 b e=some (ke b e):=by cases b <;> rfl
theorem q4r {b:Bool} {e:Int}:f101 b e=some (ke b e):=by cases b <;> rfl
theorem qu8 {o:Option (List Int)} (hn:(o.getD []).length≤9223372036854775807):f105 o=some (zb (o.getD [])):=by
 obtain ⟨d,h1,h2⟩:=qig (o.getD []) (qf6 o) id (fun d=>match d with | .inl x=>x | .inr _=>0) ⟨.inr _,by unfold qf6; rw [yu]; rfl,rfl⟩ (fun i x hx hi=>by
  unfold qf6
  rw [ko hi,cond_true,yn hx,ql]
  by_cases h:x=0
  ·refine .inl ⟨h,?_⟩
   rw [decide_eq_true h,cond_true,zx hi hn]
  ·refine .inr ⟨h,.inl x,?_,rfl⟩
   rw [decide_eq_false h,cond_false])
 unfold f105
 rw [h1,ql]
 rw [List.map_id] at h2
 rw [← h2]
 cases d <;> rfl
theorem qr3 {l:List Int} (hn:l.length≤100):f105 (some l)=some (zb l):=qu8 (o:=some l) (by simp only [Option.getD_some]; omega)
theorem q3a {o:Option (List Int)} (hn:(o.getD []).length≤9223372036854775807):f171 o=some (zb (o.getD [])):=by
 obtain ⟨d,h1,h2⟩:=qig (o.getD []) (qgj o) id (fun d=>match d with | .inl x=>x | .inr _=>0) ⟨.inr _,by unfold qgj; rw [yu]; rfl,rfl⟩ (fun i x hx hi=>by
  unfold qgj
  rw [ko hi,cond_true,yn hx,ql]
  by_cases h:x=0
  ·refine .inl ⟨h,?_⟩
   rw [decide_eq_true h,cond_true,zx hi hn]
  ·refine .inr ⟨h,.inl x,?_,rfl⟩
   rw [decide_eq_false h,cond_false])
 unfold f171
 rw [h1,ql]
 rw [List.map_id] at h2
 rw [← h2]
 cases d <;> rfl
theorem qcy {l:List Int} (hn:l.length≤100):f171 (some l)=some (zb l):=q3a (o:=some l) (by simp only [Option.getD_some]; omega)
theorem q31 {o:Option (List Int)} (hn:(o.getD []).length≤9223372036854775807):f100 o=some (zb (o.getD [])):=by
 obtain ⟨d,h1,h2⟩:=qig (o.getD []) (qgf o) id (fun d=>match d with | .inl x=>x | .inr _=>0) ⟨.inr _,by unfold qgf; rw [yu]; rfl,rfl⟩ (fun i x hx hi=>by
  unfold qgf
  rw [ko hi,cond_true,yn hx,ql]
  by_cases h:x=0
  ·refine .inl ⟨h,?_⟩
   rw [decide_eq_true h,cond_true,zx hi hn]
  ·refine .inr ⟨h,.inl x,?_,rfl⟩
   rw [decide_eq_false h,cond_false])
 unfold f100
 rw [h1,ql]
 rw [List.map_id] at h2
 rw [← h2]
 cases d <;> rfl
theorem qsu {l:List Int} (hn:l.length≤100):f100 (some l)=some (zb l):=q31 (o:=some l) (by simp only [Option.getD_some]; omega)
theorem q32 {n lo hi:Int}:f109 n lo hi=some (zk n lo hi):=by
 unfold f109 zk
 by_cases h:n < lo
 ·simp only [h,decide_true,cond_true,qlt,ql,ke,if_true]
 ·by_cases h2:hi < n <;> simp [h,h2,qlt,ke]
theorem q4s {n lo hi:Int}:f195 n lo hi=some (zk n lo hi):=by
 unfold f195 zk
 by_cases h:n < lo
 ·simp only [h,decide_true,cond_true,qo2,ql,ke,if_true]
 ·by_cases h2:hi < n <;> simp [h,h2,qo2,ke]
theorem qzn {n lo hi:Int}:f40 n lo hi=some (zk n lo hi):=by
 unfold f40 zk
 by_cases h:n < lo
 ·simp [h]
 ·by_cases h2:hi < n <;> simp [h,h2]
theorem qcg:∀ {l:List Int},zb l=0↔∀ x∈l,x=0
 | []=>by simp [zb]
 | x::l=>by
  simp only [zb,List.mem_cons,forall_eq_or_imp]
  by_cases h:x=0
  ·rw [if_pos h,qcg]; simp [h]
  ·rw [if_neg h]; simp [h]
theorem qkc {s:List UInt8} {i:Nat} {c:UInt8} (hc:s[i]?=some c):qca i (s.drop i)=(qgt i c.toNat && qca (i + 1) (s.drop (i + 1))):=by
 rw [qb2 hc]; rfl
theorem q3w {s:List UInt8}:f102 s=some (qip s):=by
 unfold f102 qip
 by_cases h0:s=[]
 ·subst h0; rfl
 have hl:¬ ((s.length:Int)=0):=by
  intro h
  exact h0 (List.eq_nil_of_length_eq_zero (by omega))
 by_cases h1:(24:Int) < s.length
 ·have h2:¬ s.length≤24:=by omega
  simp [hl,h0,h1,h2]
 ·have h2:s.length≤24:=by omega
  obtain ⟨d,g1,g2⟩:=qhv s.length (fun i=>(i:Int)) (qeh s) (fun d=>match d with | .inl _=>false | .inr _=>true) (fun i=>qca i (s.drop i)) ⟨.inr _,by unfold qeh; rw [yu]; rfl,by rw [List.drop_eq_nil_of_le (Nat.le_refl _)]; rfl⟩ (fun i hi=>by
   obtain ⟨c,hc⟩:∃ c,s[i]?=some c:=⟨_,List.getElem?_eq_getElem hi⟩
   unfold qeh
   rw [qkc hc,ko hi,cond_true,yn hc,ql]
   simp only [zx hi (show s.length≤9223372036854775807 by omega)]
   unfold qgt
   have hx:0≤(c.toNat:Int):=by omega
   generalize (c.toNat:Int)=x at hx ⊢
   by_cases z:i=0
   ·subst z
    rcases kinds x with h | h | h | h | h | h | h | h | h <;>
     simp (disch:=omega) only [decide_eq_true,decide_eq_false,cond_true,cond_false,Bool.or_false,Bool.false_or,Bool.true_or,Bool.and_true,Bool.true_and,Bool.false_and] <;>
     first
      | exact .inl ⟨trivial,trivial⟩
      | exact .inl ⟨rfl,trivial⟩
      | exact .inl ⟨rfl,rfl⟩
      | exact .inr ⟨_,rfl,rfl⟩
   ·rcases kinds x with h | h | h | h | h | h | h | h | h <;>
     simp (disch:=omega) only [decide_eq_true,decide_eq_false,cond_true,cond_false,Bool.or_false,Bool.or_true,Bool.false_or,Bool.true_or,Bool.and_true,Bool.true_and,Bool.false_and] <;>
     first
      | exact .inl ⟨trivial,trivial⟩
      | exact .inl ⟨rfl,trivial⟩
      | exact .inl ⟨rfl,rfl⟩
      | exact .inr ⟨_,rfl,rfl⟩)
  have g1:itO (qeh s) 0=some d:=g1
  rw [decide_eq_false hl,cond_false,decide_eq_false h1,cond_false,g1,ql]
  simp only [h0,h2,ne_eq,not_false_eq_true,decide_true,Bool.true_and]
  rw [List.drop_zero] at g2
  rw [← g2]
  cases d <;> rfl
theorem qnw {s:List UInt8} {i:Nat} {c:UInt8} (hc:s[i]?=some c):(c.toNat < 128∧qe s i=(c.toNat,1))∨(128≤c.toNat∧128≤(qe s i).1):=by
 by_cases h:c.toNat < 128
 ·exact .inl ⟨h,qk7 hc h⟩
 ·exact .inr ⟨by omega,qp9 hc h⟩
theorem qp6 {i:Nat} {x:Int} (h:128≤x):qgt i x=false:=by
 unfold qgt
 simp (disch:=omega) only [decide_eq_false,Bool.or_self,Bool.and_false]
def jbn:Nat→Option Nat
 | 0=>none
 | i + 1=>some (i + 1)
theorem q25 {s:List UInt8}:f107 s=some (qip s):=by
 unfold f107
 obtain ⟨d,g1,g2⟩:=qhv s.length jbn (qk4 s) (fun d=>match d with | .inl _=>false | .inr _=>true) (fun i=>qca i (s.drop i)) (by
   rw [List.drop_eq_nil_of_le (Nat.le_refl _)]
   cases hn:s.length with
   | zero=>
    refine ⟨.inr 0,?_,rfl⟩
    show qcz s=_
    unfold qcz
    rw [hn]; rfl
   | succ n=>
    refine ⟨.inr (n + 1),?_,rfl⟩
    show qc4 s (n + 1)=_
    unfold qc4
    rw [hn,decide_eq_false (by omega)]; rfl) (fun i hi=>by
   obtain ⟨c,hc⟩:∃ c,s[i]?=some c:=⟨_,List.getElem?_eq_getElem hi⟩
   rw [qkc hc]
   cases i with
   | zero=>
    show (qcz s=_∧_)∨(∃ d,qcz s=_∧_)
    unfold qcz
    rw [decide_eq_true hi,cond_true]
    rcases qnw hc with ⟨hlt,he⟩ | ⟨hge,hr⟩
    ·rw [he]
     simp only []
     have hx:0≤(c.toNat:Int):=by omega
     unfold qgt
     generalize (c.toNat:Int)=x at hx ⊢
     rcases kinds x with h | h | h | h | h | h | h | h | h <;>
      simp (disch:=omega) only [decide_eq_true,decide_eq_false,cond_true,cond_false,Bool.or_false,Bool.false_or,Bool.true_or,Bool.and_true,Bool.true_and,Bool.false_and] <;>
      first
       | exact .inl ⟨trivial,trivial⟩
       | exact .inl ⟨rfl,trivial⟩
       | exact .inl ⟨rfl,rfl⟩
       | exact .inr ⟨_,rfl,rfl⟩
    ·rw [qp6 (by omega)]
     generalize hd:qe s 0=dd at hr ⊢
     have hr':(128:Int)≤(dd.1:Int):=by omega
     generalize (dd.1:Int)=x at hr' ⊢
     simp (disch:=omega) only [decide_eq_true,decide_eq_false,cond_true,cond_false,Bool.false_and]
     exact .inr ⟨_,rfl,rfl⟩
   | succ i=>
    show (qc4 s (i + 1)=_∧_)∨(∃ d,qc4 s (i + 1)=_∧_)
    unfold qc4
    rw [decide_eq_true hi,cond_true]
    rcases qnw hc with ⟨hlt,he⟩ | ⟨hge,hr⟩
    ·rw [he]
     simp only []
     have hx:0≤(c.toNat:Int):=by omega
     unfold qgt
     generalize (c.toNat:Int)=x at hx ⊢
     have e0:decide (((i + 1:Nat):Int)=0)=false:=decide_eq_false (by omega)
     rcases kinds x with h | h | h | h | h | h | h | h | h <;>
      simp (disch:=omega) only [e0,decide_eq_true,decide_eq_false,cond_true,cond_false,Bool.or_false,Bool.or_true,Bool.false_or,Bool.true_or,Bool.and_true,Bool.true_and,Bool.false_and] <;>
      first
       | exact .inl ⟨trivial,trivial⟩
       | exact .inl ⟨rfl,trivial⟩
       | exact .inl ⟨rfl,rfl⟩
       | exact .inr ⟨_,rfl,rfl⟩
    ·rw [qp6 (by omega)]
     generalize hd:qe s (i + 1)=dd at hr ⊢
     have hr':(128:Int)≤(dd.1:Int):=by omega
     have e0:decide (((i + 1:Nat):Int)=0)=false:=decide_eq_false (by omega)
     generalize (dd.1:Int)=x at hr' ⊢
     simp (disch:=omega) only [e0,decide_eq_true,decide_eq_false,cond_true,cond_false,Bool.false_and]
     exact .inr ⟨_,rfl,rfl⟩)
 have g1:itO (qk4 s) none=some d:=g1
 rw [g1,ql]
 unfold qip
 rw [List.drop_zero] at g2
 cases d with
 | inl d=>simp only [] at g2; rw [← g2]; simp
 | inr d=>
  simp only [] at g2
  rw [← g2]
  by_cases h0:s=[]
  ·subst h0; rfl
  ·have e:decide ((s.length:Int)≤24)=decide (s.length≤24):=by by_cases h:s.length≤24 <;> simp [h] <;> omega
   rw [e]
   simp [h0]
def kB:List UInt8:=[98,108,111,99,107]
def kSe:List UInt8:=[115,101,114,105,101,115]
def kSh:List UInt8:=[115,104,117,110,116]
def kT:List UInt8:=[116,114,97,112]
def isK (s:List UInt8):Bool:=decide (s=kB) || decide (s=kSe) || decide (s=kSh) || decide (s=kT)
def qe2 (s:List UInt8):Bool:=decide (s=kB) || decide (s=kT)
def yt (x:GEl):Int:=zb [ke (!isK x.kind) 13,zk x.a 0 8,zk x.b 0 8,ke (qe2 x.kind && decide (x.a=0) && decide (x.b=0)) 6]
def qfi (l:List GEl):Int:=if 5 < l.length then 5 else zb (l.map yt)
theorem qb4 {δ:Type} {F q:Int} {A B:Option (Int ⊕ δ)} {d:δ} {V:δ→Int} (hF:F=q) (hA:A=B) (hV:V d=F):(q=0∧cond (decide (F=0)) A (some (.inr d))=B)∨(q ≠ 0∧∃ d',cond (decide (F=0)) A (some (.inr d))=some (.inr d')∧V d'=q):=by
 subst hF
 by_cases h:F=0
 ·exact .inl ⟨h,by rw [decide_eq_true h]; exact hA⟩
 ·exact .inr ⟨h,d,by rw [decide_eq_false h]; rfl,hV⟩
theorem q4b {o:Option (List GEl)}:f158 o=some (qfi (o.getD [])):=by
 unfold f158 qfi
 by_cases h5:(5:Int) < ((o.getD []).length:Int)
 ·rw [decide_eq_true h5,if_pos (by omega)]; rfl
 ·rw [decide_eq_false h5,if_neg (by omega),cond_false]
  have hn:(o.getD []).length≤9223372036854775807:=by omega
  obtain ⟨d,g1,g2⟩:=qig (o.getD []) (qge o) yt (fun d=>match d with
   | .inl d226=>d226.1
   | .inr (.inl d227)=>d227.1
   | .inr (.inr (.inl d228))=>d228.1
   | .inr (.inr (.inr (.inl d229)))=>d229.1
   | .inr (.inr (.inr (.inr (.inl d230))))=>d230.1
   | .inr (.inr (.inr (.inr (.inr d231))))=>0) ⟨_,by unfold qge; rw [yu]; rfl,rfl⟩ (fun i x hx hi=>by
    unfold qge
    rw [ko hi,cond_true,yn hx,ql,zx hi hn]
    simp only [qo2,q4s,ql]
    by_cases k1:x.kind=kB
    ·rw [decide_eq_true (show x.kind=[98,108,111,99,107] from k1),cond_true]
     by_cases ha:x.a=0
     ·rw [decide_eq_true ha,cond_true,qcy (by simp),ql]
      exact qb4 (by simp [yt,isK,qe2,k1,ha]) rfl rfl
     ·rw [decide_eq_false ha,cond_false,qcy (by simp),ql]
      exact qb4 (by simp [yt,isK,qe2,k1,ha]) rfl rfl
    rw [decide_eq_false (show ¬ x.kind=[98,108,111,99,107] from k1),cond_false]
    by_cases k2:x.kind=kSe
    ·rw [decide_eq_true (show x.kind=[115,101,114,105,101,115] from k2),cond_true,qcy (by simp),ql]
     exact qb4 (by simp [yt,isK,qe2,k2,kSe,kB,kT]) rfl rfl
    rw [decide_eq_false (show ¬ x.kind=[115,101,114,105,101,115] from k2),cond_false]
    by_cases k3:x.kind=kSh
    ·rw [decide_eq_true (show x.kind=[115,104,117,110,116] from k3),cond_true,qcy (by simp),ql]
     exact qb4 (by simp [yt,isK,qe2,k3,kSh,kSe,kB,kT]) rfl rfl
    rw [decide_eq_false (show ¬ x.kind=[115,104,117,110,116] from k3),cond_false]
    by_cases k4:x.kind=kT
    ·rw [decide_eq_true (show x.kind=[116,114,97,112] from k4),cond_true]
     by_cases ha:x.a=0
     ·rw [decide_eq_true ha,cond_true,qcy (by simp),ql]
      exact qb4 (by simp [yt,isK,qe2,k4,ha]) rfl rfl
     ·rw [decide_eq_false ha,cond_false,qcy (by simp),ql]
      exact qb4 (by simp [yt,isK,qe2,k4,ha]) rfl rfl
    rw [decide_eq_false (show ¬ x.kind=[116,114,97,112] from k4),cond_false,qcy (by simp),ql]
    exact qb4 (by simp [yt,isK,qe2,k1,k2,k3,k4]) rfl rfl)
  rw [g1,ql,← g2]
  rcases d with d | d | d | d | d | d <;> rfl
theorem qg8 {x:GEl}:qfi [x]=yt x:=by
 unfold qfi
 simp only [List.length_cons,List.length_nil,List.map_cons,List.map_nil,zb]
 by_cases h:yt x=0 <;> simp [h]
theorem qu4 {x:GEl}:f108 x=some (yt x):=by unfold f108; rw [q4b]; simp only [Option.getD_some,qg8]; rfl
theorem q06 {x:GEl}:qq1 x=some (yt x):=qu4
theorem q3x {l:List (List UInt8)} {s:List UInt8} (hn:l.length≤100):f191 (some l) s=some (!l.all fun y=>!decide (y=s)):=by
 unfold f191
 obtain ⟨d,g1,g2⟩:=qfu l (qf8 (some l) s) (fun y=>!decide (y=s)) (fun d=>match d with | .inl _=>false | .inr _=>true) ⟨.inr _,by unfold qf8; simp only [Option.getD_some]; rw [yu]; rfl,rfl⟩ (fun i x hx hi=>by
  unfold qf8
  simp only [Option.getD_some]
  rw [ko hi,cond_true,yn hx,ql,zx hi (by omega)]
  by_cases h:x=s
  ·exact .inr ⟨by simp [h],.inl (),by rw [decide_eq_true h]; rfl,rfl⟩
  ·exact .inl ⟨by simp [h],by rw [decide_eq_false h]; rfl⟩)
 rw [g1,ql,← g2]
 cases d <;> rfl
theorem q28 {x:GEl}:f157 x=some (yt x):=by
 unfold f157
 have h192:f192=some (some [kB,kSe,kSh,kT]):=rfl
 rw [h192,ql,q3x (by decide),ql]
 have hk:(!([kB,kSe,kSh,kT].all fun y=>!decide (y=x.kind)))=isK x.kind:=by
  simp only [List.all_cons,List.all_nil,isK,Bool.and_true,Bool.not_and,Bool.not_not,eq_comm (a:=x.kind),Bool.or_assoc]
 rw [hk]
 simp only [qzn,ql]
 unfold yt
 cases hK:isK x.kind with
 | false=>simp [zb,ke]
 | true=>
  rw [cond_true,qsu (by simp),ql]
  have hd:f55 x.kind=some (qe2 x.kind):=by
   unfold f55 qe2
   by_cases h:x.kind=kB
   ·rw [decide_eq_true (show x.kind=[98,108,111,99,107] from h),decide_eq_true h]; rfl
   ·rw [decide_eq_false (show ¬ x.kind=[98,108,111,99,107] from h),decide_eq_false h]; rfl
  rw [hd]
  by_cases h1:zk x.a 0 8=0
  ·by_cases h2:zk x.b 0 8=0
   ·simp only [zb,h1,h2,if_true,decide_true,cond_true,ql]
    cases hD:qe2 x.kind with
    | false=>simp [ke]
    | true=>
     by_cases ha:x.a=0
     ·by_cases hb:x.b=0 <;> simp [ke,ha,hb]
     ·simp [ke,ha]
   ·simp [zb,h1,h2,ke]
  ·simp [zb,h1,ke]
theorem qvf {o:Option (List GEl)}:f103 o=some (qfi (o.getD [])):=by
 unfold f103 qfi
 by_cases h5:(5:Int) < ((o.getD []).length:Int)
 ·rw [decide_eq_true h5,if_pos (by omega)]; rfl
 ·rw [decide_eq_false h5,if_neg (by omega),cond_false]
  have hn:(o.getD []).length≤9223372036854775807:=by omega
  obtain ⟨d,g1,g2⟩:=qig (o.getD []) (qgc o) yt (fun d=>match d with | .inl x=>x | .inr _=>0) ⟨.inr _,by unfold qgc; rw [yu]; rfl,rfl⟩ (fun i x hx hi=>by
   unfold qgc
   rw [ko hi,cond_true,yn hx,ql,q28,ql,zx hi hn]
   exact qb4 rfl rfl rfl)
  rw [g1,ql,← g2]
  cases d <;> rfl
def yj (a s:Int) (c:Bool):List Int:=if s=0 then [a] else if c then [a - s,a + s] else [a - 1,a,a + 1]
def okN (a s:Int):Prop:=0≤a∧a≤8∧0≤s∧s≤1
theorem kg {x:Int} (h:-1000000≤x∧x≤1000000):qk .i64 x=x:=by
 exact qg6 (by omega) (by omega)
theorem qd0 {a s:Int} (h:okN a s):((yj a s false).length:Int)=2 * s + 1:=by
 obtain ⟨h1,h2,h3,h4⟩:=h
 rcases (show s=0∨s=1 by omega) with rfl | rfl <;> rfl
theorem qoe {a s:Int} (h:okN a s) {i:Nat} {x:Int} (hx:(yj a s false)[i]?=some x):x=a - s + i:=by
 obtain ⟨h1,h2,h3,h4⟩:=h
 rcases (show s=0∨s=1 by omega) with rfl | rfl
 ·match i,hx with
  | 0,hx=>cases hx; omega
 ·match i,hx with
  | 0,hx=>cases hx; omega
  | 1,hx=>cases hx; omega
  | 2,hx=>cases hx; omega
theorem qfr {a s:Int} {c:Bool}:(yj a s c).length≤3:=by
 unfold yj
 split
 ·simp
 ·split <;> simp
theorem qvr {a s:Int} (h:okN a s):f155 a s=some ⟨a - s,a + s⟩:=by
 obtain ⟨h1,h2,h3,h4⟩:=h
 unfold f155
 rw [kg (by omega),kg (by omega)]
theorem qvp {a s:Int} {c:Bool} (h:okN a s):f156 ⟨a - s,a + s⟩ c=some (some (yj a s c),true):=by
 have h':=h
 obtain ⟨h1,h2,h3,h4⟩:=h'
 unfold f156
 simp only []
 by_cases hs:s=0
 ·subst hs
  rw [decide_eq_true (by omega)]
  simp [yj]
 ·rw [decide_eq_false (by omega),cond_false]
  cases c with
  | true=>simp [yj,hs]
  | false=>
   rw [cond_false]
   have:=qdt (yj a s false) (fun i=>a - s + i) (qgb ⟨a - s,a + s⟩) (fun x=>[x]) [] (fun i l=>l.length=i) rfl (fun l=>by
    unfold qgb
    simp only []
    rw [qd0 h,decide_eq_false (by omega)]; rfl) (fun i x l hx hi hl=>by
    have hxi:=qoe h hx
    have:=qd0 h
    refine ⟨by simp [hl],?_⟩
    unfold qgb
    simp only []
    rw [decide_eq_true (by omega),cond_true,qcw (by omega),kg (by omega),qgr,hxi]
    congr 4
    omega)
   have e0:a - s + ((0:Nat):Int)=a - s:=by omega
   rw [e0] at this
   rw [show (j5 ([]:List Int),a - s,qaf ([]:List Int))=(none,a - s,false) from rfl] at this
   rw [this,ql,List.nil_append,qcm,List.map_id']
   have hne:yj a s false=[a - 1,a,a + 1]:=by simp [yj,hs]
   rw [hne]; rfl
def qbk (p:qg) (c:Bool):List GEl:=(yj p.pa p.sa c).flatMap fun a=>(yj p.pb p.sb c).map fun b=>⟨p.kd,a,b⟩
def okP (p:qg):Prop:=okN p.pa p.sa∧okN p.pb p.sb
theorem qvx {p:qg} {c:Bool}:qbk p c ≠ []:=by
 have h:∀ a s,yj a s c ≠ []:=by
  intro a s
  unfold yj
  split
  ·simp
  ·split <;> simp
 unfold qbk
 obtain ⟨x,l,hx⟩:∃ x l,yj p.pa p.sa c=x::l:=by
  cases hn:yj p.pa p.sa c with
  | nil=>exact absurd hn (h _ _)
  | cons x l=>exact ⟨x,l,rfl⟩
 obtain ⟨y,m,hy⟩:∃ x l,yj p.pb p.sb c=x::l:=by
  cases hn:yj p.pb p.sb c with
  | nil=>exact absurd hn (h _ _)
  | cons x l=>exact ⟨x,l,rfl⟩
 rw [hx,hy]
 simp
theorem qqa {α:Type} {l:List α} (h:l ≠ []):j5 l=some l∧qaf l=true:=by
 cases l with
 | nil=>exact absurd rfl h
 | cons x l=>exact ⟨rfl,rfl⟩
theorem qoh {p:qg} {c:Bool}:(qbk p c).length≤9:=by
 unfold qbk
 have h1:=qfr (a:=p.pa) (s:=p.sa) (c:=c)
 have h2:=qfr (a:=p.pb) (s:=p.sb) (c:=c)
 generalize yj p.pa p.sa c=l at h1
 generalize yj p.pb p.sb c=m at h2
 have:∀ l:List Int,(l.flatMap fun a=>m.map fun b=>(⟨p.kd,a,b⟩:GEl)).length=l.length * m.length:=by
  intro l
  induction l with
  | nil=>simp
  | cons x l ih=>rw [List.flatMap_cons,List.length_append,ih,List.length_map,List.length_cons,Nat.succ_mul]; omega
 rw [this]
 exact Nat.le_trans (Nat.mul_le_mul h1 h2) (by decide)
theorem q5j {p:qg} {c:Bool} (h:okP p):f99 p c=some (some (qbk p c),true):=by
 unfold f99
 rw [qvr h.1,ql,qvp h.1,ql]
 have:=qdt (yj p.pa p.sa c) (fun i=>(i:Int)) (qi2 p c (some (yj p.pa p.sa c),true)) (fun a=>(yj p.pb p.sb c).map fun b=>(⟨p.kd,a,b⟩:GEl)) [] (fun i l=>l.length≤3 * i) (by simp) (fun l=>by
  unfold qi2
  simp only [Option.getD_some]
  rw [yu]; rfl) (fun i x l hx hi hl=>by
  have hn:=qfr (a:=p.pa) (s:=p.sa) (c:=c)
  have hm:=qfr (a:=p.pb) (s:=p.sb) (c:=c)
  refine ⟨by rw [List.length_append,List.length_map]; omega,?_⟩
  unfold qi2
  simp only [Option.getD_some]
  rw [ko hi,cond_true,yn hx,ql,qvr h.2,ql,qvp h.2,ql]
  have inner:=qdt (yj p.pb p.sb c) (fun j=>(j:Int)) (qjo p c (some (yj p.pa p.sa c),true) (j5 l,(i:Int),qaf l) x (some (yj p.pb p.sb c),true)) (fun b=>[(⟨p.kd,x,b⟩:GEl)]) l (fun j k=>k.length=l.length + j) (by simp) (fun k=>by
   unfold qjo
   simp only [Option.getD_some]
   rw [yu]; rfl) (fun j y k hy hj hk=>by
   refine ⟨by simp [hk]; omega,?_⟩
   unfold qjo
   simp only [Option.getD_some]
   rw [ko hj,cond_true,yn hy,ql,qcw (by omega),zx hj (by omega),qgr])
  rw [qcm] at inner
  rw [show (((0:Nat):Int))=0 from rfl] at inner
  rw [inner,ql,zx hi (by omega)])
 rw [show (j5 ([]:List GEl),((0:Nat):Int),qaf ([]:List GEl))=(none,0,false) from rfl] at this
 rw [this,ql,List.nil_append]
 obtain ⟨e1,e2⟩:=qqa (qvx (p:=p) (c:=c))
 show some (j5 (qbk p c),qaf (qbk p c))=_
 rw [e1,e2]
theorem q3b {p:qg} (h:okP p):f104 p=some (some (qbk p false),true):=by
 obtain ⟨⟨a1,a2,a3,a4⟩,b1,b2,b3,b4⟩:=id h
 unfold f104
 have:=qdt (yj p.pa p.sa false) (fun i=>p.pa - p.sa + i) (qfs p) (fun a=>(yj p.pb p.sb false).map fun b=>(⟨p.kd,a,b⟩:GEl)) [] (fun i l=>l.length≤3 * i) (by simp) (fun l=>by
  unfold qfs
  simp only []
  rw [qd0 h.1,kg (by omega),decide_eq_false (by omega)]; rfl) (fun i x l hx hi hl=>by
  have hn:=qfr (a:=p.pa) (s:=p.sa) (c:=false)
  have hm:=qfr (a:=p.pb) (s:=p.sb) (c:=false)
  have hxi:=qoe h.1 hx
  have hnl:=qd0 h.1
  refine ⟨by rw [List.length_append,List.length_map]; omega,?_⟩
  unfold qfs
  simp only []
  rw [kg (x:=p.pa + p.sa) (by omega),decide_eq_true (by omega),cond_true]
  have inner:=qdt (yj p.pb p.sb false) (fun j=>p.pb - p.sb + j) (qft p (j5 l,p.pa - p.sa + (i:Int),qaf l)) (fun b=>[(⟨p.kd,x,b⟩:GEl)]) l (fun j k=>k.length=l.length + j) (by simp) (fun k=>by
   unfold qft
   simp only []
   rw [qd0 h.2,kg (by omega),decide_eq_false (by omega)]; rfl) (fun j y k hy hj hk=>by
   have hyj:=qoe h.2 hy
   have hml:=qd0 h.2
   refine ⟨by simp [hk]; omega,?_⟩
   unfold qft
   simp only []
   rw [kg (x:=p.pb + p.sb) (by omega),decide_eq_true (by omega),cond_true,qcw (by omega),kg (by omega),qgr,hyj,hxi]
   congr 4
   omega)
  rw [qcm] at inner
  rw [show p.pb - p.sb + ((0:Nat):Int)=p.pb - p.sb by omega] at inner
  rw [kg (x:=p.pb - p.sb) (by omega),inner,ql,kg (by omega)]
  congr 4
  omega)
 rw [show p.pa - p.sa + ((0:Nat):Int)=p.pa - p.sa by omega] at this
 rw [kg (x:=p.pa - p.sa) (by omega)]
 rw [show (j5 ([]:List GEl),p.pa - p.sa,qaf ([]:List GEl))=(none,p.pa - p.sa,false) from rfl] at this
 rw [this,ql,List.nil_append]
 obtain ⟨e1,e2⟩:=qqa (qvx (p:=p) (c:=false))
 show some (j5 (qbk p false),qaf (qbk p false))=_
 rw [e1,e2]
theorem q3o {l:List GEl} (hl:l.length≤1073741824):f110 (some l)=some (j5 (l.map yt),qaf (l.map yt)):=by
 unfold f110
 rw [qlm l (qf2 (some l)) yt hl (fun a=>by unfold qf2; simp only [Option.getD_some]; rw [yu]; rfl) (fun i x a hx hi ha=>by
  unfold qf2
  simp only [Option.getD_some]
  rw [ko hi,cond_true,yn hx,ql,q06,ql,qcw ha,zx hi (by omega)]),ql]
def qd5 (p:qg):Int:=zb [ke (!qip p.name) 8,yt ⟨p.kd,p.pa,p.pb⟩,zk p.sa 0 1,zk p.sb 0 1,zk p.cost 1 1000000,zk p.stock 0 100]
def qcv (p:qg):Int:=if qd5 p=0 then ke (!decide (zb ((qbk p false).map yt)=0)) 1 else qd5 p
theorem qcd {n lo hi:Int}:zk n lo hi=0↔lo≤n∧n≤hi:=by
 unfold zk
 split
 ·constructor
  ·intro h; cases h
  ·intro h; omega
 ·split
  ·constructor
   ·intro h; cases h
   ·intro h; omega
  ·constructor
   ·intro; omega
   ·intro; rfl
theorem qpz {x:GEl} (h:yt x=0):isK x.kind=true∧(0≤x.a∧x.a≤8)∧(0≤x.b∧x.b≤8)∧¬ (qe2 x.kind=true∧x.a=0∧x.b=0):=by
 have:=qcg.1 h
 simp only [List.mem_cons,List.not_mem_nil,or_false,forall_eq_or_imp,forall_eq] at this
 obtain ⟨h1,h2,h3,h4⟩:=this
 refine ⟨?_,qcd.1 h2,qcd.1 h3,?_⟩
 ·cases hk:isK x.kind with
  | true=>rfl
  | false=>rw [hk] at h1; cases h1
 ·rintro ⟨hd,ha,hb⟩
  rw [hd,ha,hb] at h4
  cases h4
theorem qo8 {p:qg} (h:qd5 p=0):okP p:=by
 have:=qcg.1 h
 simp only [List.mem_cons,List.not_mem_nil,or_false,forall_eq_or_imp,forall_eq] at this
 obtain ⟨_,h2,h3,h4,_⟩:=this
 obtain ⟨_,ha,hb,_⟩:=qpz h2
 have e1:=qcd.1 h3
 have e2:=qcd.1 h4
 exact ⟨⟨ha.1,ha.2,e1.1,e1.2⟩,⟨hb.1,hb.2,e2.1,e2.2⟩⟩
theorem q7h {p:qg}:f22 p=some (qcv p):=by
 unfold f22
 simp only [q25,qlt,qu4,q32,ql]
 rw [qr3 (by simp),ql]
 show cond (decide (qd5 p=0)) _ (some (qd5 p))=_
 unfold qcv
 by_cases h:qd5 p=0
 ·rw [decide_eq_true h,cond_true,if_pos h,q5j (qo8 h),ql,q3o (by have:=qoh (p:=p) (c:=false); omega),ql,
   qu8 (by rw [qac,List.length_map]; have:=qoh (p:=p) (c:=false); omega),ql,qac]
 ·rw [decide_eq_false h,if_neg h]; rfl
theorem q3v {α:Type} {l:List α} {i:Nat} {x:α} (hx:l[i]?=some x):qby (some l) (some (i:Int)) (some ((i + 1:Nat):Int))=some (some [x]):=by
 have hi:=(List.getElem?_eq_some_iff.1 hx).1
 unfold qby kx qbj
 simp only [Option.getD_some]
 rw [if_pos ⟨by omega,by omega⟩]
 simp only [Int.toNat_natCast]
 rw [if_pos ⟨by omega,by omega⟩]
 simp only [Option.map_some,Int.toNat_natCast]
 rw [List.drop_take,show i + 1 - i=1 by omega,qb2 hx]
 rfl
theorem q14 {l:List Int}:(l.all fun x=>decide (x=0))=decide (zb l=0):=by
 induction l with
 | nil=>rfl
 | cons x l ih=>
  rw [List.all_cons,ih]
  show _=decide ((if x=0 then zb l else x)=0)
  by_cases h:x=0 <;> simp [h]
theorem q5s {p:qg}:f20 p=some (qcv p):=by
 unfold f20
 simp only [q3w,q4r,qvf,qzn,ql,Option.getD_some,qg8]
 rw [qsu (by simp),ql]
 show cond (decide (qd5 p=0)) _ (some (qd5 p))=_
 unfold qcv
 by_cases h:qd5 p=0
 ·rw [decide_eq_true h,cond_true,if_pos h,q3b (qo8 h),ql]
  have hv:=qoh (p:=p) (c:=false)
  obtain ⟨d,g1,g2⟩:=qfu (qbk p false) (qjm (some (qbk p false),true)) (fun x=>decide (yt x=0)) (fun d=>match d with | .inl _=>false | .inr _=>true) ⟨.inr _,by unfold qjm; simp only [Option.getD_some]; rw [yu]; rfl,rfl⟩ (fun i x hx hi=>by
   unfold qjm
   simp only [Option.getD_some]
   rw [ko hi,cond_true,zx hi (by omega),q3v hx,ql,qvf,ql,Option.getD_some,qg8]
   by_cases he:yt x=0
   ·exact .inl ⟨by simp [he],by rw [decide_eq_true he]; rfl⟩
   ·exact .inr ⟨by simp [he],.inl (),by rw [decide_eq_false he]; rfl,rfl⟩)
  rw [g1,ql]
  have e:(qbk p false).all (fun x=>decide (yt x=0))=decide (zb ((qbk p false).map yt)=0):=by
   rw [← q14,List.all_map]; rfl
  rw [e] at g2
  rw [← g2]
  cases d <;> rfl
 ·rw [decide_eq_false h,if_neg h]; rfl
def qkp:List (List UInt8)→List qg→Int
 | _,[]=>0
 | seen,p::l=>if zb [qcv p,ke (decide (p.name∈seen)) 9]=0 then qkp (seen++[p.name]) l else zb [qcv p,ke (decide (p.name∈seen)) 9]
def qe0 (l:List qg):Int:=if 6 < l.length then 5 else qkp [] l
theorem qp3 {l:List qg} {i:Nat} {p:qg} (hp:l[i]?=some p):(l.take (i + 1)).map (·.name)=(l.take i).map (·.name)++[p.name]:=by
 obtain ⟨hi,rfl⟩:=List.getElem?_eq_some_iff.1 hp
 rw [List.take_add_one,List.getElem?_eq_getElem hi,List.map_append]
 rfl
theorem qs6 {o:Option (List qg)}:f23 o=some (qe0 (o.getD [])):=by
 unfold f23 qe0
 by_cases h6:(6:Int) < ((o.getD []).length:Int)
 ·rw [decide_eq_true h6,if_pos (by omega)]; rfl
 ·rw [decide_eq_false h6,if_neg (by omega),cond_false]
  generalize hl:o.getD []=l at h6 ⊢
  obtain ⟨d,g1,g2⟩:=qhv l.length (fun i=>((i:Int),(l.take i).map (·.name))) (qgm o) (fun d=>match d with | .inl x=>x.1 | .inr _=>0) (fun i=>qkp ((l.take i).map (·.name)) (l.drop i)) ⟨.inr _,by unfold qgm; simp only [hl]; rw [yu]; rfl,by rw [List.drop_eq_nil_of_le (Nat.le_refl _)]; rfl⟩ (fun i hi=>by
   obtain ⟨p,hp⟩:∃ p,l[i]?=some p:=⟨_,List.getElem?_eq_getElem hi⟩
   unfold qgm
   simp only [hl]
   rw [ko hi,cond_true,yn hp,ql,q7h,ql,qlt,ql,qr3 (by simp),ql,zx hi (by omega),qb2 hp]
   simp only [qkp]
   rw [show qgh (List.map (·.name) (List.take i l)) p.name=decide (p.name∈(l.take i).map (·.name)) from rfl]
   by_cases he:zb [qcv p,ke (decide (p.name∈(l.take i).map (·.name))) 9]=0
   ·left
    rw [decide_eq_true he,cond_true,if_pos he,qp3 hp]
    refine ⟨?_,rfl⟩
    have hn:decide (p.name∈(l.take i).map (·.name))=false:=by
     cases hm:decide (p.name∈(l.take i).map (·.name)) with
     | false=>rfl
     | true=>
      rw [hm] at he
      have:=qcg.1 he (ke true 9) (by simp)
      cases this
    have ha:qmw ((l.take i).map (·.name)) p.name=some ((l.take i).map (·.name)++[p.name]):=by
     unfold qmw qgh
     rw [hn]
     simp only [Bool.false_eq_true,if_false]
     rw [if_pos (by rw [List.length_map,List.length_take]; omega)]
    rw [ha]; rfl
   ·right
    rw [decide_eq_false he,cond_false,if_neg he]
    exact ⟨_,rfl,rfl⟩)
  have g1:itO (qgm o) (0,[])=some d:=g1
  rw [g1,ql]
  simp only [List.take_zero,List.map_nil,List.drop_zero] at g2
  rw [← g2]
  cases d <;> rfl
theorem q7a {o:Option (List qg)}:f25 o=some (qe0 (o.getD [])):=by
 unfold f25 qe0
 by_cases h6:(6:Int) < ((o.getD []).length:Int)
 ·rw [decide_eq_true h6,if_pos (by omega)]; rfl
 ·rw [decide_eq_false h6,if_neg (by omega),cond_false]
  generalize hl:o.getD []=l at h6 ⊢
  obtain ⟨d,g1,g2⟩:=qhv l.length (fun i=>(i:Int)) (qgp o) (fun d=>match d with | .inl x=>x | .inr _=>0) (fun i=>qkp ((l.take i).map (·.name)) (l.drop i)) ⟨.inr _,by unfold qgp; simp only [hl]; rw [yu]; rfl,by rw [List.drop_eq_nil_of_le (Nat.le_refl _)]; rfl⟩ (fun i hi=>by
   obtain ⟨p,hp⟩:∃ p,l[i]?=some p:=⟨_,List.getElem?_eq_getElem hi⟩
   unfold qgp
   simp only [hl]
   rw [ko hi,cond_true,yn hp,ql,q5s,ql,zx hi (by omega),qb2 hp]
   simp only [qkp,zb]
   by_cases he:qcv p=0
   ·rw [decide_eq_true he,cond_true]
    have hti:(l.take i).length=i:=by rw [List.length_take]; omega
    obtain ⟨d,k1,k2⟩:=qfu (l.take i) (qi7 o (i:Int)) (fun x=>!decide (x.name=p.name)) (fun d=>match d with | .inl _=>false | .inr _=>true) ⟨.inr _,by unfold qi7; rw [hti,yu]; rfl,rfl⟩ (fun k x hx hk=>by
     have hki:k < i:=by omega
     have hxl:l[k]?=some x:=by rw [List.getElem?_take,if_pos hki] at hx; exact hx
     unfold qi7
     simp only [hl]
     rw [decide_eq_true (show (k:Int) < (i:Int) by omega),cond_true,yn hxl,ql,yn hp,ql,zx hki (by omega)]
     by_cases hxn:x.name=p.name
     ·exact .inr ⟨by simp [hxn],.inl (),by rw [decide_eq_true hxn]; rfl,rfl⟩
     ·exact .inl ⟨by simp [hxn],by rw [decide_eq_false hxn]; rfl⟩)
    rw [k1,ql]
    have hmem:decide (p.name∈(l.take i).map (·.name))=!((l.take i).all fun x=>!decide (x.name=p.name)):=by
     rw [Bool.eq_iff_iff]
     simp only [decide_eq_true_eq,List.mem_map,Bool.not_eq_true',List.all_eq_false,Bool.not_eq_true',Bool.not_eq_false]
    rw [hmem,← k2]
    cases d with
    | inl d=>right; exact ⟨_,rfl,by simp [he,ke]⟩
    | inr d=>left; refine ⟨rfl,?_⟩; simp only [he,if_true,Bool.not_true,ke,Bool.false_eq_true,if_false]; rw [qp3 hp]
   ·right
    rw [decide_eq_false he,cond_false]
    exact ⟨_,rfl,by simp [he]⟩)
  have g1:itO (qgp o) 0=some d:=g1
  rw [g1,ql]
  simp only [List.take_zero,List.map_nil,List.drop_zero] at g2
  rw [← g2]
  cases d <;> rfl
def qkl (l:List qg):Bool:=(decide (l.length≤4) || decide (l.length=7)) && l.all fun p=>decide (p.name.length≤60) && decide (p.kd.length≤60)
theorem qw2 {n:Int} {p:qg} {A B:Option (Int ⊕ (Unit ⊕ Int))} (hA:A=B):
  ((decide (p.name.length≤60) && decide (p.kd.length≤60))=true∧cond (decide (60 < (p.name.length:Int))) (some (.inr (.inl ()))) (cond (decide (60 < (p.kd.length:Int))) (some (.inr (.inl ()))) A)=B) ∨
  ((decide (p.name.length≤60) && decide (p.kd.length≤60))=false∧∃ d:Unit ⊕ Int,cond (decide (60 < (p.name.length:Int))) (some (.inr (.inl ()))) (cond (decide (60 < (p.kd.length:Int))) (some (.inr (.inl ()))) A)=some (.inr d)∧(match d with | .inl _=>false | .inr _=>true)=false):=by
 subst hA
 by_cases h1:p.name.length≤60
 ·have e1:decide (60 < (p.name.length:Int))=false:=decide_eq_false (by omega)
  by_cases h2:p.kd.length≤60
  ·have e2:decide (60 < (p.kd.length:Int))=false:=decide_eq_false (by omega)
   left
   rw [decide_eq_true h1,decide_eq_true h2,e1,e2]
   exact ⟨rfl,rfl⟩
  ·have e2:decide (60 < (p.kd.length:Int))=true:=decide_eq_true (by omega)
   right
   rw [decide_eq_false h2,e1,e2]
   exact ⟨by simp,.inl (),rfl,rfl⟩
 ·have e1:decide (60 < (p.name.length:Int))=true:=decide_eq_true (by omega)
  right
  rw [decide_eq_false h1,e1]
  exact ⟨by simp,.inl (),rfl,rfl⟩
theorem q7b {o:Option (List qg)}:f17 o=some (qkl (o.getD [])):=by
 unfold f17 qkl
 generalize hl:o.getD []=l
 have hs:l.length≤7→∃ d,itO (qe5 o) 0=some d∧(match d with | .inl _=>false | .inr _=>true)=l.all fun p=>decide (p.name.length≤60) && decide (p.kd.length≤60):=fun hn=>
  qfu l (qe5 o) _ (fun d=>match d with | .inl _=>false | .inr _=>true) ⟨.inr _,by unfold qe5; simp only [hl]; rw [yu]; rfl,rfl⟩ (fun i x hx hi=>by
   unfold qe5
   simp only [hl]
   rw [ko hi,cond_true,yn hx,ql,zx hi (by omega)]
   exact qw2 (n:=0) rfl)
 have hb:qkx o=qe5 o:=rfl
 by_cases h4:(4:Int) < (l.length:Int)
 ·rw [decide_eq_true h4,cond_true,decide_eq_false (show ¬ l.length≤4 by omega)]
  by_cases h7:(l.length:Int)=7
  ·obtain ⟨d,g1,g2⟩:=hs (by omega)
   rw [decide_eq_true h7,cond_true,decide_eq_true (show l.length=7 by omega),g1,ql,← g2]
   cases d <;> rfl
  ·rw [decide_eq_false h7,decide_eq_false (show ¬ l.length=7 by omega)]; rfl
 ·obtain ⟨d,g1,g2⟩:=hs (by omega)
  rw [decide_eq_false h4,cond_false,decide_eq_true (show l.length≤4 by omega),hb,g1,ql,← g2]
  cases d <;> rfl
theorem q6x {o:Option (List qg)} (hn:(o.getD []).length≤1073741824):f24 o=some (j5 (o.getD []),qaf (o.getD [])):=by
 unfold f24
 rw [qlm (o.getD []) (qiz o) id hn (fun a=>by unfold qiz; rw [yu]; rfl) (fun i x a hx hi ha=>by
  unfold qiz
  rw [ko hi,cond_true,yn hx,ql,show f19 x=some x from rfl,ql,qcw ha,zx hi (by omega)]; rfl),ql,List.map_id]
end Go.Z
