/- Loops as plain functions of their lists. -/
import Derived.Test.YtnjngdcbkkonnaaGreatDoorA1
set_option linter.unusedVariables false
set_option linter.unusedSimpArgs false
set_option maxRecDepth 100000
namespace Go.Z
open Go Go.Abs
theorem qim {σ δ γ:Type} (n:Nat) (mk:Nat→σ) (f:σ→Option (σ ⊕ δ)) (V:δ→γ) (r:Nat→γ) (hend:∃ d,f (mk n)=some (.inr d)∧V d=r n)
  (hstep:∀ i,i < n→(f (mk i)=some (.inl (mk (i + 1)))∧r i=r (i + 1))∨(∃ d,f (mk i)=some (.inr d)∧V d=r i)):∃ d,itO f (mk 0)=some d∧V d=r 0:=by
 have key:∀ (k i:Nat),i + k=n→∃ d,itO f (mk i)=some d∧V d=r i:=by
  intro k
  induction k with
  | zero=>
   intro i hi
   have:i=n:=by omega
   subst this
   obtain ⟨d,h1,h2⟩:=hend
   exact ⟨d,zo h1,h2⟩
  | succ k ih=>
   intro i hi
   rcases hstep i (by omega) with ⟨h1,h2⟩ | ⟨d,h1,h2⟩
   ·rw [qau h1,h2]; exact ih (i + 1) (by omega)
   ·exact ⟨d,zo h1,h2⟩
 exact key n 0 (by omega)
theorem qs0 {α:Type} {l:List α} {q:α→Int} {i:Nat} {x:α} (hx:l[i]?=some x):zf ((l.drop i).map q)=if q x=0 then zf ((l.drop (i + 1)).map q) else q x:=by
 rw [qcd hx]; rfl
theorem qi2 {α δ:Type} (l:List α) (f:Int→Option (Int ⊕ δ)) (q:α→Int) (V:δ→Int) (hend:∃ d,f (l.length:Int)=some (.inr d)∧V d=0)
  (hstep:∀ (i:Nat) x,l[i]?=some x→i < l.length→(q x=0∧f (i:Int)=some (.inl ((i + 1:Nat):Int)))∨(q x ≠ 0∧∃ d,f (i:Int)=some (.inr d)∧V d=q x)):∃ d,itO f 0=some d∧V d=zf (l.map q):=by
 have:=qim l.length (fun i=>(i:Int)) f V (fun i=>zf ((l.drop i).map q)) (by rw [List.drop_eq_nil_of_le (Nat.le_refl _)]; exact hend) (fun i hi=>by
  obtain ⟨x,hx⟩:∃ x,l[i]?=some x:=⟨_,List.getElem?_eq_getElem hi⟩
  simp only [qs0 hx]
  rcases hstep i x hx hi with ⟨h1,h2⟩ | ⟨h1,h2⟩
  ·rw [if_pos h1]; exact .inl ⟨h2,rfl⟩
  ·rw [if_neg h1]; exact .inr h2)
 simpa using this
theorem qgo {α δ:Type} (l:List α) (f:Int→Option (Int ⊕ δ)) (q:α→Bool) (V:δ→Bool) (hend:∃ d,f (l.length:Int)=some (.inr d)∧V d=true)
  (hstep:∀ (i:Nat) x,l[i]?=some x→i < l.length→(q x=true∧f (i:Int)=some (.inl ((i + 1:Nat):Int)))∨(q x=false∧∃ d,f (i:Int)=some (.inr d)∧V d=false)):∃ d,itO f 0=some d∧V d=l.all q:=by
 have:=qim l.length (fun i=>(i:Int)) f V (fun i=>(l.drop i).all q) (by rw [List.drop_eq_nil_of_le (Nat.le_refl _)]; exact hend) (fun i hi=>by
  obtain ⟨x,hx⟩:∃ x,l[i]?=some x:=⟨_,List.getElem?_eq_getElem hi⟩
  simp only [qcd hx,List.all_cons]
  rcases hstep i x hx hi with ⟨h1,h2⟩ | ⟨h1,h2⟩
  ·rw [h1]; exact .inl ⟨h2,rfl⟩
  ·rw [h1]; exact .inr h2)
 simpa using this
theorem qea {α β:Type} (l:List α) (ix:Nat→Int) (f:Option (List β) × Int × Bool→Option ((Option (List β) × Int × Bool) ⊕ (Option (List β) × Bool × Int))) (h:α→List β) (a0:List β) (I:Nat→List β→Prop) (hI:I 0 a0)
  (hend:∀ a,f (ze a,ix l.length,qah a)=some (.inr (ze a,qah a,ix l.length)))
  (hstep:∀ (i:Nat) x a,l[i]?=some x→i < l.length→I i a→I (i + 1) (a++h x)∧f (ze a,ix i,qah a)=some (.inl (ze (a++h x),ix (i + 1),qah (a++h x)))):
  itO f (ze a0,ix 0,qah a0)=some (ze (a0++l.flatMap h),qah (a0++l.flatMap h),ix l.length):=by
 have key:∀ (k i:Nat),i + k=l.length→∀ a,I i a→itO f (ze a,ix i,qah a)=some (ze (a++(l.drop i).flatMap h),qah (a++(l.drop i).flatMap h),ix l.length):=by
  intro k
  induction k with
  | zero=>
   intro i hi a _
   have:i=l.length:=by omega
   subst this
   rw [List.drop_eq_nil_of_le (Nat.le_refl _),List.flatMap_nil,List.append_nil,zo (hend a)]
  | succ k ih=>
   intro i hi a ha
   obtain ⟨x,hx⟩:∃ x,l[i]?=some x:=⟨_,List.getElem?_eq_getElem (by omega)⟩
   obtain ⟨h1,h2⟩:=hstep i x a hx (by omega) ha
   rw [qau h2,ih (i + 1) (by omega) _ h1,qcd hx,List.flatMap_cons,List.append_assoc]
 have:=key l.length 0 (by omega) a0 hI
 rwa [List.drop_zero] at this
theorem qxk {α:Type} {a:List α} {x:α} (h:a.length < 1073741824):apO (ze a) [x]=some (ze (a++[x])):=by
 unfold apO
 cases a with
 | nil=>rfl
 | cons y a=>
  have:((ze (y::a)).getD []).length + [x].length≤1073741824:=by simp [ze] at h ⊢; omega
  rw [if_pos this]; rfl
theorem qc3 {α γ:Type} {a:List α} {x:α} {k:Option (List α)→Option γ} (h:a.length < 1073741824):cond (qah a) (qg (apO (ze a) [x]) k) (cond (ze a).isNone (qg (apO (ze a) [x]) k) none)=k (ze (a++[x])):=by
 rw [qxk h]
 cases a <;> rfl
theorem qae {α:Type} (a:List α):(ze a).getD []=a:=by cases a <;> rfl
theorem qcr {α β:Type} (h:α→β):∀ l:List α,l.flatMap (fun x=>[h x])=l.map h
 | []=>rfl
 | x::l=>by rw [List.flatMap_cons,qcr h l]; rfl
theorem qmm {α β:Type} (l:List α) (f:Option (List β) × Int × Bool→Option ((Option (List β) × Int × Bool) ⊕ (Option (List β) × Bool × Int))) (h:α→β) (hl:l.length≤1073741824)
  (hend:∀ a:Option (List β) × Bool,f (a.1,(l.length:Int),a.2)=some (.inr (a.1,a.2,(l.length:Int))))
  (hstep:∀ (i:Nat) x (a:List β),l[i]?=some x→i < l.length→a.length < 1073741824→f (ze a,(i:Int),qah a)=some (.inl (ze (a++[h x]),((i + 1:Nat):Int),true))):
  itO f (none,0,false)=some (ze (l.map h),qah (l.map h),(l.length:Int)):=by
 have:=qea l (fun i=>(i:Int)) f (fun x=>[h x]) [] (fun i a=>a.length=i) rfl (fun a=>hend (ze a,qah a)) (fun i x a hx hi ha=>⟨by simp [ha],by rw [hstep i x a hx hi (by omega),qgz]⟩)
 rw [qcr,List.nil_append] at this
 exact this
theorem yp {α:Type} {l:List α} {i:Nat} {x:α} (hx:l[i]?=some x):jy l (i:Int)=some x:=by rw [qaw,hx]
theorem kr {α:Type} {l:List α} {i:Nat} (h:i < l.length):decide ((i:Int) < (l.length:Int))=true:=decide_eq_true (by omega)
theorem yu {n:Nat}:decide ((n:Int) < (n:Int))=false:=decide_eq_false (by omega)
set_option maxHeartbeats 1000000
theorem qlx {b:Bool} {e:Int}:f106 b e=some (kf b e):=by cases b <;> rfl
theorem qp4 {b:Bool} {e:Int}:f194 b e=some (kf b e):=by cases b <;> rfl
theorem q4c {b:Bool} {e:Int}:f101 b e=some (kf b e):=by cases b <;> rfl
theorem qwd {o:Option (List Int)} (hn:(o.getD []).length≤9223372036854775807):f105 o=some (zf (o.getD [])):=by
 obtain ⟨d,h1,h2⟩:=qi2 (o.getD []) (qgk o) id (fun d=>match d with | .inl x=>x | .inr _=>0) ⟨.inr _,by unfold qgk; rw [yu]; rfl,rfl⟩ (fun i x hx hi=>by
  unfold qgk
  rw [kr hi,cond_true,yp hx,qj]
  by_cases h:x=0
  ·refine .inl ⟨h,?_⟩
   rw [decide_eq_true h,cond_true,z8 hi hn]
  ·refine .inr ⟨h,.inl x,?_,rfl⟩
   rw [decide_eq_false h,cond_false])
 unfold f105
 rw [h1,qj]
 rw [List.map_id] at h2
 rw [← h2]
 cases d <;> rfl
theorem qry {l:List Int} (hn:l.length≤100):f105 (some l)=some (zf l):=qwd (o:=some l) (by simp only [Option.getD_some]; omega)
theorem q4y {o:Option (List Int)} (hn:(o.getD []).length≤9223372036854775807):f171 o=some (zf (o.getD [])):=by
 obtain ⟨d,h1,h2⟩:=qi2 (o.getD []) (qf7 o) id (fun d=>match d with | .inl x=>x | .inr _=>0) ⟨.inr _,by unfold qf7; rw [yu]; rfl,rfl⟩ (fun i x hx hi=>by
  unfold qf7
  rw [kr hi,cond_true,yp hx,qj]
  by_cases h:x=0
  ·refine .inl ⟨h,?_⟩
   rw [decide_eq_true h,cond_true,z8 hi hn]
  ·refine .inr ⟨h,.inl x,?_,rfl⟩
   rw [decide_eq_false h,cond_false])
 unfold f171
 rw [h1,qj]
 rw [List.map_id] at h2
 rw [← h2]
 cases d <;> rfl
theorem qc4 {l:List Int} (hn:l.length≤100):f171 (some l)=some (zf l):=q4y (o:=some l) (by simp only [Option.getD_some]; omega)
theorem q4e {o:Option (List Int)} (hn:(o.getD []).length≤9223372036854775807):f100 o=some (zf (o.getD [])):=by
 obtain ⟨d,h1,h2⟩:=qi2 (o.getD []) (qgc o) id (fun d=>match d with | .inl x=>x | .inr _=>0) ⟨.inr _,by unfold qgc; rw [yu]; rfl,rfl⟩ (fun i x hx hi=>by
  unfold qgc
  rw [kr hi,cond_true,yp hx,qj]
  by_cases h:x=0
  ·refine .inl ⟨h,?_⟩
   rw [decide_eq_true h,cond_true,z8 hi hn]
  ·refine .inr ⟨h,.inl x,?_,rfl⟩
   rw [decide_eq_false h,cond_false])
 unfold f100
 rw [h1,qj]
 rw [List.map_id] at h2
 rw [← h2]
 cases d <;> rfl
theorem qs7 {l:List Int} (hn:l.length≤100):f100 (some l)=some (zf l):=q4e (o:=some l) (by simp only [Option.getD_some]; omega)
theorem q44 {n lo hi:Int}:f109 n lo hi=some (zn n lo hi):=by
 unfold f109 zn
 by_cases h:n < lo
 ·simp only [h,decide_true,cond_true,qlx,qj,kf,if_true]
 ·by_cases h2:hi < n <;> simp [h,h2,qlx,kf]
theorem q5k {n lo hi:Int}:f195 n lo hi=some (zn n lo hi):=by
 unfold f195 zn
 by_cases h:n < lo
 ·simp only [h,decide_true,cond_true,qp4,qj,kf,if_true]
 ·by_cases h2:hi < n <;> simp [h,h2,qp4,kf]
theorem qy9 {n lo hi:Int}:f40 n lo hi=some (zn n lo hi):=by
 unfold f40 zn
 by_cases h:n < lo
 ·simp [h]
 ·by_cases h2:hi < n <;> simp [h,h2]
theorem qci:∀ {l:List Int},zf l=0↔∀ x∈l,x=0
 | []=>by simp [zf]
 | x::l=>by
  simp only [zf,List.mem_cons,forall_eq_or_imp]
  by_cases h:x=0
  ·rw [if_pos h,qci]; simp [h]
  ·rw [if_neg h]; simp [h]
theorem qkm {s:List UInt8} {i:Nat} {c:UInt8} (hc:s[i]?=some c):qd7 i (s.drop i)=(qjp i c.toNat && qd7 (i + 1) (s.drop (i + 1))):=by
 rw [qcd hc]; rfl
theorem q4m {s:List UInt8}:f102 s=some (qin s):=by
 unfold f102 qin
 by_cases h0:s=[]
 ·subst h0; rfl
 have hl:¬ ((s.length:Int)=0):=by
  intro h
  exact h0 (List.eq_nil_of_length_eq_zero (by omega))
 by_cases h1:(24:Int) < s.length
 ·have h2:¬ s.length≤24:=by omega
  simp [hl,h0,h1,h2]
 ·have h2:s.length≤24:=by omega
  obtain ⟨d,g1,g2⟩:=qim s.length (fun i=>(i:Int)) (qep s) (fun d=>match d with | .inl _=>false | .inr _=>true) (fun i=>qd7 i (s.drop i)) ⟨.inr _,by unfold qep; rw [yu]; rfl,by rw [List.drop_eq_nil_of_le (Nat.le_refl _)]; rfl⟩ (fun i hi=>by
   obtain ⟨c,hc⟩:∃ c,s[i]?=some c:=⟨_,List.getElem?_eq_getElem hi⟩
   unfold qep
   rw [qkm hc,kr hi,cond_true,yp hc,qj]
   simp only [z8 hi (show s.length≤9223372036854775807 by omega)]
   unfold qjp
   have hx:0≤(c.toNat:Int):=by omega
   generalize (c.toNat:Int)=x at hx ⊢
   by_cases z:i=0
   ·subst z
    rcases kinds x with h | h | h | h | h | h | h | h | h <;>
     simp (disch:=omega) only [decide_eq_true,decide_eq_false,cond_true,cond_false,Bool.or_false,Bool.false_or,Bool.true_or,Bool.and_true,Bool.true_and,Bool.false_and] <;>
     first
      | exact .inl ⟨trivial,trivial⟩
      | exact .inl ⟨rfl,trivial⟩
      | exact .inl ⟨rfl,rfl⟩
      | exact .inr ⟨_,rfl,rfl⟩
   ·rcases kinds x with h | h | h | h | h | h | h | h | h <;>
     simp (disch:=omega) only [decide_eq_true,decide_eq_false,cond_true,cond_false,Bool.or_false,Bool.or_true,Bool.false_or,Bool.true_or,Bool.and_true,Bool.true_and,Bool.false_and] <;>
     first
      | exact .inl ⟨trivial,trivial⟩
      | exact .inl ⟨rfl,trivial⟩
      | exact .inl ⟨rfl,rfl⟩
      | exact .inr ⟨_,rfl,rfl⟩)
  have g1:itO (qep s) 0=some d:=g1
  rw [decide_eq_false hl,cond_false,decide_eq_false h1,cond_false,g1,qj]
  simp only [h0,h2,ne_eq,not_false_eq_true,decide_true,Bool.true_and]
  rw [List.drop_zero] at g2
  rw [← g2]
  cases d <;> rfl
theorem qoj {s:List UInt8} {i:Nat} {c:UInt8} (hc:s[i]?=some c):(c.toNat < 128∧qe s i=(c.toNat,1))∨(128≤c.toNat∧128≤(qe s i).1):=by
 by_cases h:c.toNat < 128
 ·exact .inl ⟨h,qk7 hc h⟩
 ·exact .inr ⟨by omega,qqi hc h⟩
theorem qqp {i:Nat} {x:Int} (h:128≤x):qjp i x=false:=by
 unfold qjp
 simp (disch:=omega) only [decide_eq_false,Bool.or_self,Bool.and_false]
def jbi:Nat→Option Nat
 | 0=>none
 | i + 1=>some (i + 1)
theorem q3y {s:List UInt8}:f107 s=some (qin s):=by
 unfold f107
 obtain ⟨d,g1,g2⟩:=qim s.length jbi (qle s) (fun d=>match d with | .inl _=>false | .inr _=>true) (fun i=>qd7 i (s.drop i)) (by
   rw [List.drop_eq_nil_of_le (Nat.le_refl _)]
   cases hn:s.length with
   | zero=>
    refine ⟨.inr 0,?_,rfl⟩
    show qc8 s=_
    unfold qc8
    rw [hn]; rfl
   | succ n=>
    refine ⟨.inr (n + 1),?_,rfl⟩
    show qdc s (n + 1)=_
    unfold qdc
    rw [hn,decide_eq_false (by omega)]; rfl) (fun i hi=>by
   obtain ⟨c,hc⟩:∃ c,s[i]?=some c:=⟨_,List.getElem?_eq_getElem hi⟩
   rw [qkm hc]
   cases i with
   | zero=>
    show (qc8 s=_∧_)∨(∃ d,qc8 s=_∧_)
    unfold qc8
    rw [decide_eq_true hi,cond_true]
    rcases qoj hc with ⟨hlt,he⟩ | ⟨hge,hr⟩
    ·rw [he]
     simp only []
     have hx:0≤(c.toNat:Int):=by omega
     unfold qjp
     generalize (c.toNat:Int)=x at hx ⊢
     rcases kinds x with h | h | h | h | h | h | h | h | h <;>
      simp (disch:=omega) only [decide_eq_true,decide_eq_false,cond_true,cond_false,Bool.or_false,Bool.false_or,Bool.true_or,Bool.and_true,Bool.true_and,Bool.false_and] <;>
      first
       | exact .inl ⟨trivial,trivial⟩
       | exact .inl ⟨rfl,trivial⟩
       | exact .inl ⟨rfl,rfl⟩
       | exact .inr ⟨_,rfl,rfl⟩
    ·rw [qqp (by omega)]
     generalize hd:qe s 0=dd at hr ⊢
     have hr':(128:Int)≤(dd.1:Int):=by omega
     generalize (dd.1:Int)=x at hr' ⊢
     simp (disch:=omega) only [decide_eq_true,decide_eq_false,cond_true,cond_false,Bool.false_and]
     exact .inr ⟨_,rfl,rfl⟩
   | succ i=>
    show (qdc s (i + 1)=_∧_)∨(∃ d,qdc s (i + 1)=_∧_)
    unfold qdc
    rw [decide_eq_true hi,cond_true]
    rcases qoj hc with ⟨hlt,he⟩ | ⟨hge,hr⟩
    ·rw [he]
     simp only []
     have hx:0≤(c.toNat:Int):=by omega
     unfold qjp
     generalize (c.toNat:Int)=x at hx ⊢
     have e0:decide (((i + 1:Nat):Int)=0)=false:=decide_eq_false (by omega)
     rcases kinds x with h | h | h | h | h | h | h | h | h <;>
      simp (disch:=omega) only [e0,decide_eq_true,decide_eq_false,cond_true,cond_false,Bool.or_false,Bool.or_true,Bool.false_or,Bool.true_or,Bool.and_true,Bool.true_and,Bool.false_and] <;>
      first
       | exact .inl ⟨trivial,trivial⟩
       | exact .inl ⟨rfl,trivial⟩
       | exact .inl ⟨rfl,rfl⟩
       | exact .inr ⟨_,rfl,rfl⟩
    ·rw [qqp (by omega)]
     generalize hd:qe s (i + 1)=dd at hr ⊢
     have hr':(128:Int)≤(dd.1:Int):=by omega
     have e0:decide (((i + 1:Nat):Int)=0)=false:=decide_eq_false (by omega)
     generalize (dd.1:Int)=x at hr' ⊢
     simp (disch:=omega) only [e0,decide_eq_true,decide_eq_false,cond_true,cond_false,Bool.false_and]
     exact .inr ⟨_,rfl,rfl⟩)
 have g1:itO (qle s) none=some d:=g1
 rw [g1,qj]
 unfold qin
 rw [List.drop_zero] at g2
 cases d with
 | inl d=>simp only [] at g2; rw [← g2]; simp
 | inr d=>
  simp only [] at g2
  rw [← g2]
  by_cases h0:s=[]
  ·subst h0; rfl
  ·have e:decide ((s.length:Int)≤24)=decide (s.length≤24):=by by_cases h:s.length≤24 <;> simp [h] <;> omega
   rw [e]
   simp [h0]
def kB:List UInt8:=[98,108,111,99,107]
def kSe:List UInt8:=[115,101,114,105,101,115]
def kSh:List UInt8:=[115,104,117,110,116]
def kT:List UInt8:=[116,114,97,112]
def isK (s:List UInt8):Bool:=decide (s=kB) || decide (s=kSe) || decide (s=kSh) || decide (s=kT)
def qfe (s:List UInt8):Bool:=decide (s=kB) || decide (s=kT)
def yv (x:GEl):Int:=zf [kf (!isK x.kind) 13,zn x.a 0 8,zn x.b 0 8,kf (qfe x.kind && decide (x.a=0) && decide (x.b=0)) 6]
def qf2 (l:List GEl):Int:=if 5 < l.length then 5 else zf (l.map yv)
theorem qcb {δ:Type} {F q:Int} {A B:Option (Int ⊕ δ)} {d:δ} {V:δ→Int} (hF:F=q) (hA:A=B) (hV:V d=F):(q=0∧cond (decide (F=0)) A (some (.inr d))=B)∨(q ≠ 0∧∃ d',cond (decide (F=0)) A (some (.inr d))=some (.inr d')∧V d'=q):=by
 subst hF
 by_cases h:F=0
 ·exact .inl ⟨h,by rw [decide_eq_true h]; exact hA⟩
 ·exact .inr ⟨h,d,by rw [decide_eq_false h]; rfl,hV⟩
theorem q4b {o:Option (List GEl)}:f158 o=some (qf2 (o.getD [])):=by
 unfold f158 qf2
 by_cases h5:(5:Int) < ((o.getD []).length:Int)
 ·rw [decide_eq_true h5,if_pos (by omega)]; rfl
 ·rw [decide_eq_false h5,if_neg (by omega),cond_false]
  have hn:(o.getD []).length≤9223372036854775807:=by omega
  obtain ⟨d,g1,g2⟩:=qi2 (o.getD []) (qge o) yv (fun d=>match d with
   | .inl d226=>d226.1
   | .inr (.inl d227)=>d227.1
   | .inr (.inr (.inl d228))=>d228.1
   | .inr (.inr (.inr (.inl d229)))=>d229.1
   | .inr (.inr (.inr (.inr (.inl d230))))=>d230.1
   | .inr (.inr (.inr (.inr (.inr d231))))=>0) ⟨_,by unfold qge; rw [yu]; rfl,rfl⟩ (fun i x hx hi=>by
    unfold qge
    rw [kr hi,cond_true,yp hx,qj,z8 hi hn]
    simp only [qp4,q5k,qj]
    by_cases k1:x.kind=kB
    ·rw [decide_eq_true (show x.kind=[98,108,111,99,107] from k1),cond_true]
     by_cases ha:x.a=0
     ·rw [decide_eq_true ha,cond_true,qc4 (by simp),qj]
      exact qcb (by simp [yv,isK,qfe,k1,ha]) rfl rfl
     ·rw [decide_eq_false ha,cond_false,qc4 (by simp),qj]
      exact qcb (by simp [yv,isK,qfe,k1,ha]) rfl rfl
    rw [decide_eq_false (show ¬ x.kind=[98,108,111,99,107] from k1),cond_false]
    by_cases k2:x.kind=kSe
    ·rw [decide_eq_true (show x.kind=[115,101,114,105,101,115] from k2),cond_true,qc4 (by simp),qj]
     exact qcb (by simp [yv,isK,qfe,k2,kSe,kB,kT]) rfl rfl
    rw [decide_eq_false (show ¬ x.kind=[115,101,114,105,101,115] from k2),cond_false]
    by_cases k3:x.kind=kSh
    ·rw [decide_eq_true (show x.kind=[115,104,117,110,116] from k3),cond_true,qc4 (by simp),qj]
     exact qcb (by simp [yv,isK,qfe,k3,kSh,kSe,kB,kT]) rfl rfl
    rw [decide_eq_false (show ¬ x.kind=[115,104,117,110,116] from k3),cond_false]
    by_cases k4:x.kind=kT
    ·rw [decide_eq_true (show x.kind=[116,114,97,112] from k4),cond_true]
     by_cases ha:x.a=0
     ·rw [decide_eq_true ha,cond_true,qc4 (by simp),qj]
      exact qcb (by simp [yv,isK,qfe,k4,ha]) rfl rfl
     ·rw [decide_eq_false ha,cond_false,qc4 (by simp),qj]
      exact qcb (by simp [yv,isK,qfe,k4,ha]) rfl rfl
    rw [decide_eq_false (show ¬ x.kind=[116,114,97,112] from k4),cond_false,qc4 (by simp),qj]
    exact qcb (by simp [yv,isK,qfe,k1,k2,k3,k4]) rfl rfl)
  rw [g1,qj,← g2]
  rcases d with d | d | d | d | d | d <;> rfl
theorem qht {x:GEl}:qf2 [x]=yv x:=by
 unfold qf2
 simp only [List.length_cons,List.length_nil,List.map_cons,List.map_nil,zf]
 by_cases h:yv x=0 <;> simp [h]
theorem qv0 {x:GEl}:f108 x=some (yv x):=by unfold f108; rw [q4b]; simp only [Option.getD_some,qht]; rfl
theorem q1v {x:GEl}:qrn x=some (yv x):=qv0
theorem q48 {l:List (List UInt8)} {s:List UInt8} (hn:l.length≤100):f191 (some l) s=some (!l.all fun y=>!decide (y=s)):=by
 unfold f191
 obtain ⟨d,g1,g2⟩:=qgo l (qf5 (some l) s) (fun y=>!decide (y=s)) (fun d=>match d with | .inl _=>false | .inr _=>true) ⟨.inr _,by unfold qf5; simp only [Option.getD_some]; rw [yu]; rfl,rfl⟩ (fun i x hx hi=>by
  unfold qf5
  simp only [Option.getD_some]
  rw [kr hi,cond_true,yp hx,qj,z8 hi (by omega)]
  by_cases h:x=s
  ·exact .inr ⟨by simp [h],.inl (),by rw [decide_eq_true h]; rfl,rfl⟩
  ·exact .inl ⟨by simp [h],by rw [decide_eq_false h]; rfl⟩)
 rw [g1,qj,← g2]
 cases d <;> rfl
theorem q4f {x:GEl}:f157 x=some (yv x):=by
 unfold f157
 have h192:f192=some (some [kB,kSe,kSh,kT]):=rfl
 rw [h192,qj,q48 (by decide),qj]
 have hk:(!([kB,kSe,kSh,kT].all fun y=>!decide (y=x.kind)))=isK x.kind:=by
  simp only [List.all_cons,List.all_nil,isK,Bool.and_true,Bool.not_and,Bool.not_not,eq_comm (a:=x.kind),Bool.or_assoc]
 rw [hk]
 simp only [qy9,qj]
 unfold yv
 cases hK:isK x.kind with
 | false=>simp [zf,kf]
 | true=>
  rw [cond_true,qs7 (by simp),qj]
  have hd:f55 x.kind=some (qfe x.kind):=by
   unfold f55 qfe
   by_cases h:x.kind=kB
   ·rw [decide_eq_true (show x.kind=[98,108,111,99,107] from h),decide_eq_true h]; rfl
   ·rw [decide_eq_false (show ¬ x.kind=[98,108,111,99,107] from h),decide_eq_false h]; rfl
  rw [hd]
  by_cases h1:zn x.a 0 8=0
  ·by_cases h2:zn x.b 0 8=0
   ·simp only [zf,h1,h2,if_true,decide_true,cond_true,qj]
    cases hD:qfe x.kind with
    | false=>simp [kf]
    | true=>
     by_cases ha:x.a=0
     ·by_cases hb:x.b=0 <;> simp [kf,ha,hb]
     ·simp [kf,ha]
   ·simp [zf,h1,h2,kf]
  ·simp [zf,h1,kf]
theorem qwi {o:Option (List GEl)}:f103 o=some (qf2 (o.getD [])):=by
 unfold f103 qf2
 by_cases h5:(5:Int) < ((o.getD []).length:Int)
 ·rw [decide_eq_true h5,if_pos (by omega)]; rfl
 ·rw [decide_eq_false h5,if_neg (by omega),cond_false]
  have hn:(o.getD []).length≤9223372036854775807:=by omega
  obtain ⟨d,g1,g2⟩:=qi2 (o.getD []) (qf9 o) yv (fun d=>match d with | .inl x=>x | .inr _=>0) ⟨.inr _,by unfold qf9; rw [yu]; rfl,rfl⟩ (fun i x hx hi=>by
   unfold qf9
   rw [kr hi,cond_true,yp hx,qj,q4f,qj,z8 hi hn]
   exact qcb rfl rfl rfl)
  rw [g1,qj,← g2]
  cases d <;> rfl
def yo (a s:Int) (c:Bool):List Int:=if s=0 then [a] else if c then [a - s,a + s] else [a - 1,a,a + 1]
def okN (a s:Int):Prop:=0≤a∧a≤8∧0≤s∧s≤1
theorem km {x:Int} (h:-1000000≤x∧x≤1000000):qi .i64 x=x:=by
 exact qg6 (by omega) (by omega)
theorem qd0 {a s:Int} (h:okN a s):((yo a s false).length:Int)=2 * s + 1:=by
 obtain ⟨h1,h2,h3,h4⟩:=h
 rcases (show s=0∨s=1 by omega) with rfl | rfl <;> rfl
theorem qpe {a s:Int} (h:okN a s) {i:Nat} {x:Int} (hx:(yo a s false)[i]?=some x):x=a - s + i:=by
 obtain ⟨h1,h2,h3,h4⟩:=h
 rcases (show s=0∨s=1 by omega) with rfl | rfl
 ·match i,hx with
  | 0,hx=>cases hx; omega
 ·match i,hx with
  | 0,hx=>cases hx; omega
  | 1,hx=>cases hx; omega
  | 2,hx=>cases hx; omega
theorem qf4 {a s:Int} {c:Bool}:(yo a s c).length≤3:=by
 unfold yo
 split
 ·simp
 ·split <;> simp
theorem qvh {a s:Int} (h:okN a s):f155 a s=some ⟨a - s,a + s⟩:=by
 obtain ⟨h1,h2,h3,h4⟩:=h
 unfold f155
 rw [km (by omega),km (by omega)]
theorem qvk {a s:Int} {c:Bool} (h:okN a s):f156 ⟨a - s,a + s⟩ c=some (some (yo a s c),true):=by
 have h':=h
 obtain ⟨h1,h2,h3,h4⟩:=h'
 unfold f156
 simp only []
 by_cases hs:s=0
 ·subst hs
  rw [decide_eq_true (by omega)]
  simp [yo]
 ·rw [decide_eq_false (by omega),cond_false]
  cases c with
  | true=>simp [yo,hs]
  | false=>
   rw [cond_false]
   have:=qea (yo a s false) (fun i=>a - s + i) (qgs ⟨a - s,a + s⟩) (fun x=>[x]) [] (fun i l=>l.length=i) rfl (fun l=>by
    unfold qgs
    simp only []
    rw [qd0 h,decide_eq_false (by omega)]; rfl) (fun i x l hx hi hl=>by
    have hxi:=qpe h hx
    have:=qd0 h
    refine ⟨by simp [hl],?_⟩
    unfold qgs
    simp only []
    rw [decide_eq_true (by omega),cond_true,qc3 (by omega),km (by omega),qgz,hxi]
    congr 4
    omega)
   have e0:a - s + ((0:Nat):Int)=a - s:=by omega
   rw [e0] at this
   rw [show (ze ([]:List Int),a - s,qah ([]:List Int))=(none,a - s,false) from rfl] at this
   rw [this,qj,List.nil_append,qcr,List.map_id']
   have hne:yo a s false=[a - 1,a,a + 1]:=by simp [yo,hs]
   rw [hne]; rfl
def qbm (p:qf) (c:Bool):List GEl:=(yo p.pa p.sa c).flatMap fun a=>(yo p.pb p.sb c).map fun b=>⟨p.kd,a,b⟩
def okP (p:qf):Prop:=okN p.pa p.sa∧okN p.pb p.sb
theorem qvm {p:qf} {c:Bool}:qbm p c ≠ []:=by
 have h:∀ a s,yo a s c ≠ []:=by
  intro a s
  unfold yo
  split
  ·simp
  ·split <;> simp
 unfold qbm
 obtain ⟨x,l,hx⟩:∃ x l,yo p.pa p.sa c=x::l:=by
  cases hn:yo p.pa p.sa c with
  | nil=>exact absurd hn (h _ _)
  | cons x l=>exact ⟨x,l,rfl⟩
 obtain ⟨y,m,hy⟩:∃ x l,yo p.pb p.sb c=x::l:=by
  cases hn:yo p.pb p.sb c with
  | nil=>exact absurd hn (h _ _)
  | cons x l=>exact ⟨x,l,rfl⟩
 rw [hx,hy]
 simp
theorem qqj {α:Type} {l:List α} (h:l ≠ []):ze l=some l∧qah l=true:=by
 cases l with
 | nil=>exact absurd rfl h
 | cons x l=>exact ⟨rfl,rfl⟩
theorem qo6 {p:qf} {c:Bool}:(qbm p c).length≤9:=by
 unfold qbm
 have h1:=qf4 (a:=p.pa) (s:=p.sa) (c:=c)
 have h2:=qf4 (a:=p.pb) (s:=p.sb) (c:=c)
 generalize yo p.pa p.sa c=l at h1
 generalize yo p.pb p.sb c=m at h2
 have:∀ l:List Int,(l.flatMap fun a=>m.map fun b=>(⟨p.kd,a,b⟩:GEl)).length=l.length * m.length:=by
  intro l
  induction l with
  | nil=>simp
  | cons x l ih=>rw [List.flatMap_cons,List.length_append,ih,List.length_map,List.length_cons,Nat.succ_mul]; omega
 rw [this]
 exact Nat.le_trans (Nat.mul_le_mul h1 h2) (by decide)
theorem q7t {p:qf} {c:Bool} (h:okP p):f99 p c=some (some (qbm p c),true):=by
 unfold f99
 rw [qvh h.1,qj,qvk h.1,qj]
 have:=qea (yo p.pa p.sa c) (fun i=>(i:Int)) (qjg p c (some (yo p.pa p.sa c),true)) (fun a=>(yo p.pb p.sb c).map fun b=>(⟨p.kd,a,b⟩:GEl)) [] (fun i l=>l.length≤3 * i) (by simp) (fun l=>by
  unfold qjg
  simp only [Option.getD_some]
  rw [yu]; rfl) (fun i x l hx hi hl=>by
  have hn:=qf4 (a:=p.pa) (s:=p.sa) (c:=c)
  have hm:=qf4 (a:=p.pb) (s:=p.sb) (c:=c)
  refine ⟨by rw [List.length_append,List.length_map]; omega,?_⟩
  unfold qjg
  simp only [Option.getD_some]
  rw [kr hi,cond_true,yp hx,qj,qvh h.2,qj,qvk h.2,qj]
  have inner:=qea (yo p.pb p.sb c) (fun j=>(j:Int)) (qjd p c (some (yo p.pa p.sa c),true) (ze l,(i:Int),qah l) x (some (yo p.pb p.sb c),true)) (fun b=>[(⟨p.kd,x,b⟩:GEl)]) l (fun j k=>k.length=l.length + j) (by simp) (fun k=>by
   unfold qjd
   simp only [Option.getD_some]
   rw [yu]; rfl) (fun j y k hy hj hk=>by
   refine ⟨by simp [hk]; omega,?_⟩
   unfold qjd
   simp only [Option.getD_some]
   rw [kr hj,cond_true,yp hy,qj,qc3 (by omega),z8 hj (by omega),qgz])
  rw [qcr] at inner
  rw [show (((0:Nat):Int))=0 from rfl] at inner
  rw [inner,qj,z8 hi (by omega)])
 rw [show (ze ([]:List GEl),((0:Nat):Int),qah ([]:List GEl))=(none,0,false) from rfl] at this
 rw [this,qj,List.nil_append]
 obtain ⟨e1,e2⟩:=qqj (qvm (p:=p) (c:=c))
 show some (ze (qbm p c),qah (qbm p c))=_
 rw [e1,e2]
theorem q30 {p:qf} (h:okP p):f104 p=some (some (qbm p false),true):=by
 obtain ⟨⟨a1,a2,a3,a4⟩,b1,b2,b3,b4⟩:=id h
 unfold f104
 have:=qea (yo p.pa p.sa false) (fun i=>p.pa - p.sa + i) (qgr p) (fun a=>(yo p.pb p.sb false).map fun b=>(⟨p.kd,a,b⟩:GEl)) [] (fun i l=>l.length≤3 * i) (by simp) (fun l=>by
  unfold qgr
  simp only []
  rw [qd0 h.1,km (by omega),decide_eq_false (by omega)]; rfl) (fun i x l hx hi hl=>by
  have hn:=qf4 (a:=p.pa) (s:=p.sa) (c:=false)
  have hm:=qf4 (a:=p.pb) (s:=p.sb) (c:=false)
  have hxi:=qpe h.1 hx
  have hnl:=qd0 h.1
  refine ⟨by rw [List.length_append,List.length_map]; omega,?_⟩
  unfold qgr
  simp only []
  rw [km (x:=p.pa + p.sa) (by omega),decide_eq_true (by omega),cond_true]
  have inner:=qea (yo p.pb p.sb false) (fun j=>p.pb - p.sb + j) (qgj p (ze l,p.pa - p.sa + (i:Int),qah l)) (fun b=>[(⟨p.kd,x,b⟩:GEl)]) l (fun j k=>k.length=l.length + j) (by simp) (fun k=>by
   unfold qgj
   simp only []
   rw [qd0 h.2,km (by omega),decide_eq_false (by omega)]; rfl) (fun j y k hy hj hk=>by
   have hyj:=qpe h.2 hy
   have hml:=qd0 h.2
   refine ⟨by simp [hk]; omega,?_⟩
   unfold qgj
   simp only []
   rw [km (x:=p.pb + p.sb) (by omega),decide_eq_true (by omega),cond_true,qc3 (by omega),km (by omega),qgz,hyj,hxi]
   congr 4
   omega)
  rw [qcr] at inner
  rw [show p.pb - p.sb + ((0:Nat):Int)=p.pb - p.sb by omega] at inner
  rw [km (x:=p.pb - p.sb) (by omega),inner,qj,km (by omega)]
  congr 4
  omega)
 rw [show p.pa - p.sa + ((0:Nat):Int)=p.pa - p.sa by omega] at this
 rw [km (x:=p.pa - p.sa) (by omega)]
 rw [show (ze ([]:List GEl),p.pa - p.sa,qah ([]:List GEl))=(none,p.pa - p.sa,false) from rfl] at this
 rw [this,qj,List.nil_append]
 obtain ⟨e1,e2⟩:=qqj (qvm (p:=p) (c:=false))
 show some (ze (qbm p false),qah (qbm p false))=_
 rw [e1,e2]
theorem q5e {l:List GEl} (hl:l.length≤1073741824):f110 (some l)=some (ze (l.map yv),qah (l.map yv)):=by
 unfold f110
 rw [qmm l (qf8 (some l)) yv hl (fun a=>by unfold qf8; simp only [Option.getD_some]; rw [yu]; rfl) (fun i x a hx hi ha=>by
  unfold qf8
  simp only [Option.getD_some]
  rw [kr hi,cond_true,yp hx,qj,q1v,qj,qc3 ha,z8 hi (by omega)]),qj]
def qem (p:qf):Int:=zf [kf (!qin p.name) 8,yv ⟨p.kd,p.pa,p.pb⟩,zn p.sa 0 1,zn p.sb 0 1,zn p.cost 1 1000000,zn p.stock 0 100]
def qc2 (p:qf):Int:=if qem p=0 then kf (!decide (zf ((qbm p false).map yv)=0)) 1 else qem p
theorem qch {n lo hi:Int}:zn n lo hi=0↔lo≤n∧n≤hi:=by
 unfold zn
 split
 ·constructor
  ·intro h; cases h
  ·intro h; omega
 ·split
  ·constructor
   ·intro h; cases h
   ·intro h; omega
  ·constructor
   ·intro; omega
   ·intro; rfl
theorem qp6 {x:GEl} (h:yv x=0):isK x.kind=true∧(0≤x.a∧x.a≤8)∧(0≤x.b∧x.b≤8)∧¬ (qfe x.kind=true∧x.a=0∧x.b=0):=by
 have:=qci.1 h
 simp only [List.mem_cons,List.not_mem_nil,or_false,forall_eq_or_imp,forall_eq] at this
 obtain ⟨h1,h2,h3,h4⟩:=this
 refine ⟨?_,qch.1 h2,qch.1 h3,?_⟩
 ·cases hk:isK x.kind with
  | true=>rfl
  | false=>rw [hk] at h1; cases h1
 ·rintro ⟨hd,ha,hb⟩
  rw [hd,ha,hb] at h4
  cases h4
theorem qo5 {p:qf} (h:qem p=0):okP p:=by
 have:=qci.1 h
 simp only [List.mem_cons,List.not_mem_nil,or_false,forall_eq_or_imp,forall_eq] at this
 obtain ⟨_,h2,h3,h4,_⟩:=this
 obtain ⟨_,ha,hb,_⟩:=qp6 h2
 have e1:=qch.1 h3
 have e2:=qch.1 h4
 exact ⟨⟨ha.1,ha.2,e1.1,e1.2⟩,⟨hb.1,hb.2,e2.1,e2.2⟩⟩
theorem q86 {p:qf}:f22 p=some (qc2 p):=by
 unfold f22
 simp only [q3y,qlx,qv0,q44,qj]
 rw [qry (by simp),qj]
 show cond (decide (qem p=0)) _ (some (qem p))=_
 unfold qc2
 by_cases h:qem p=0
 ·rw [decide_eq_true h,cond_true,if_pos h,q7t (qo5 h),qj,q5e (by have:=qo6 (p:=p) (c:=false); omega),qj,
   qwd (by rw [qae,List.length_map]; have:=qo6 (p:=p) (c:=false); omega),qj,qae]
 ·rw [decide_eq_false h,if_neg h]; rfl
theorem q38 {α:Type} {l:List α} {i:Nat} {x:α} (hx:l[i]?=some x):qb3 (some l) (some (i:Int)) (some ((i + 1:Nat):Int))=some (some [x]):=by
 have hi:=(List.getElem?_eq_some_iff.1 hx).1
 unfold qb3 qaz qby
 simp only [Option.getD_some]
 rw [if_pos ⟨by omega,by omega⟩]
 simp only [Int.toNat_natCast]
 rw [if_pos ⟨by omega,by omega⟩]
 simp only [Option.map_some,Int.toNat_natCast]
 rw [List.drop_take,show i + 1 - i=1 by omega,qcd hx]
 rfl
theorem q2g {l:List Int}:(l.all fun x=>decide (x=0))=decide (zf l=0):=by
 induction l with
 | nil=>rfl
 | cons x l ih=>
  rw [List.all_cons,ih]
  show _=decide ((if x=0 then zf l else x)=0)
  by_cases h:x=0 <;> simp [h]
theorem q64 {p:qf}:f20 p=some (qc2 p):=by
 unfold f20
 simp only [q4m,q4c,qwi,qy9,qj,Option.getD_some,qht]
 rw [qs7 (by simp),qj]
 show cond (decide (qem p=0)) _ (some (qem p))=_
 unfold qc2
 by_cases h:qem p=0
 ·rw [decide_eq_true h,cond_true,if_pos h,q30 (qo5 h),qj]
  have hv:=qo6 (p:=p) (c:=false)
  obtain ⟨d,g1,g2⟩:=qgo (qbm p false) (qi9 (some (qbm p false),true)) (fun x=>decide (yv x=0)) (fun d=>match d with | .inl _=>false | .inr _=>true) ⟨.inr _,by unfold qi9; simp only [Option.getD_some]; rw [yu]; rfl,rfl⟩ (fun i x hx hi=>by
   unfold qi9
   simp only [Option.getD_some]
   rw [kr hi,cond_true,z8 hi (by omega),q38 hx,qj,qwi,qj,Option.getD_some,qht]
   by_cases he:yv x=0
   ·exact .inl ⟨by simp [he],by rw [decide_eq_true he]; rfl⟩
   ·exact .inr ⟨by simp [he],.inl (),by rw [decide_eq_false he]; rfl,rfl⟩)
  rw [g1,qj]
  have e:(qbm p false).all (fun x=>decide (yv x=0))=decide (zf ((qbm p false).map yv)=0):=by
   rw [← q2g,List.all_map]; rfl
  rw [e] at g2
  rw [← g2]
  cases d <;> rfl
 ·rw [decide_eq_false h,if_neg h]; rfl
def qk5:List (List UInt8)→List qf→Int
 | _,[]=>0
 | seen,p::l=>if zf [qc2 p,kf (decide (p.name∈seen)) 9]=0 then qk5 (seen++[p.name]) l else zf [qc2 p,kf (decide (p.name∈seen)) 9]
def qc5 (l:List qf):Int:=if 6 < l.length then 5 else qk5 [] l
theorem qqk {l:List qf} {i:Nat} {p:qf} (hp:l[i]?=some p):(l.take (i + 1)).map (·.name)=(l.take i).map (·.name)++[p.name]:=by
 obtain ⟨hi,rfl⟩:=List.getElem?_eq_some_iff.1 hp
 rw [List.take_add_one,List.getElem?_eq_getElem hi,List.map_append]
 rfl
theorem qnt {o:Option (List qf)}:f23 o=some (qc5 (o.getD [])):=by
 unfold f23 qc5
 by_cases h6:(6:Int) < ((o.getD []).length:Int)
 ·rw [decide_eq_true h6,if_pos (by omega)]; rfl
 ·rw [decide_eq_false h6,if_neg (by omega),cond_false]
  generalize hl:o.getD []=l at h6 ⊢
  obtain ⟨d,g1,g2⟩:=qim l.length (fun i=>((i:Int),(l.take i).map (·.name))) (qhe o) (fun d=>match d with | .inl x=>x.1 | .inr _=>0) (fun i=>qk5 ((l.take i).map (·.name)) (l.drop i)) ⟨.inr _,by unfold qhe; simp only [hl]; rw [yu]; rfl,by rw [List.drop_eq_nil_of_le (Nat.le_refl _)]; rfl⟩ (fun i hi=>by
   obtain ⟨p,hp⟩:∃ p,l[i]?=some p:=⟨_,List.getElem?_eq_getElem hi⟩
   unfold qhe
   simp only [hl]
   rw [kr hi,cond_true,yp hp,qj,q86,qj,qlx,qj,qry (by simp),qj,z8 hi (by omega),qcd hp]
   simp only [qk5]
   rw [show qgi (List.map (·.name) (List.take i l)) p.name=decide (p.name∈(l.take i).map (·.name)) from rfl]
   by_cases he:zf [qc2 p,kf (decide (p.name∈(l.take i).map (·.name))) 9]=0
   ·left
    rw [decide_eq_true he,cond_true,if_pos he,qqk hp]
    refine ⟨?_,rfl⟩
    have hn:decide (p.name∈(l.take i).map (·.name))=false:=by
     cases hm:decide (p.name∈(l.take i).map (·.name)) with
     | false=>rfl
     | true=>
      rw [hm] at he
      have:=qci.1 he (kf true 9) (by simp)
      cases this
    have ha:qnp ((l.take i).map (·.name)) p.name=some ((l.take i).map (·.name)++[p.name]):=by
     unfold qnp qgi
     rw [hn]
     simp only [Bool.false_eq_true,if_false]
     rw [if_pos (by rw [List.length_map,List.length_take]; omega)]
    rw [ha]; rfl
   ·right
    rw [decide_eq_false he,cond_false,if_neg he]
    exact ⟨_,rfl,rfl⟩)
  have g1:itO (qhe o) (0,[])=some d:=g1
  rw [g1,qj]
  simp only [List.take_zero,List.map_nil,List.drop_zero] at g2
  rw [← g2]
  cases d <;> rfl
theorem qtx {o:Option (List qf)}:f25 o=some (qc5 (o.getD [])):=by
 unfold f25 qc5
 by_cases h6:(6:Int) < ((o.getD []).length:Int)
 ·rw [decide_eq_true h6,if_pos (by omega)]; rfl
 ·rw [decide_eq_false h6,if_neg (by omega),cond_false]
  generalize hl:o.getD []=l at h6 ⊢
  obtain ⟨d,g1,g2⟩:=qim l.length (fun i=>(i:Int)) (qhi o) (fun d=>match d with | .inl x=>x | .inr _=>0) (fun i=>qk5 ((l.take i).map (·.name)) (l.drop i)) ⟨.inr _,by unfold qhi; simp only [hl]; rw [yu]; rfl,by rw [List.drop_eq_nil_of_le (Nat.le_refl _)]; rfl⟩ (fun i hi=>by
   obtain ⟨p,hp⟩:∃ p,l[i]?=some p:=⟨_,List.getElem?_eq_getElem hi⟩
   unfold qhi
   simp only [hl]
   rw [kr hi,cond_true,yp hp,qj,q64,qj,z8 hi (by omega),qcd hp]
   simp only [qk5,zf]
   by_cases he:qc2 p=0
   ·rw [decide_eq_true he,cond_true]
    have hti:(l.take i).length=i:=by rw [List.length_take]; omega
    obtain ⟨d,k1,k2⟩:=qgo (l.take i) (qjz o (i:Int)) (fun x=>!decide (x.name=p.name)) (fun d=>match d with | .inl _=>false | .inr _=>true) ⟨.inr _,by unfold qjz; rw [hti,yu]; rfl,rfl⟩ (fun k x hx hk=>by
     have hki:k < i:=by omega
     have hxl:l[k]?=some x:=by rw [List.getElem?_take,if_pos hki] at hx; exact hx
     unfold qjz
     simp only [hl]
     rw [decide_eq_true (show (k:Int) < (i:Int) by omega),cond_true,yp hxl,qj,yp hp,qj,z8 hki (by omega)]
     by_cases hxn:x.name=p.name
     ·exact .inr ⟨by simp [hxn],.inl (),by rw [decide_eq_true hxn]; rfl,rfl⟩
     ·exact .inl ⟨by simp [hxn],by rw [decide_eq_false hxn]; rfl⟩)
    rw [k1,qj]
    have hmem:decide (p.name∈(l.take i).map (·.name))=!((l.take i).all fun x=>!decide (x.name=p.name)):=by
     rw [Bool.eq_iff_iff]
     simp only [decide_eq_true_eq,List.mem_map,Bool.not_eq_true',List.all_eq_false,Bool.not_eq_true',Bool.not_eq_false]
    rw [hmem,← k2]
    cases d with
    | inl d=>right; exact ⟨_,rfl,by simp [he,kf]⟩
    | inr d=>left; refine ⟨rfl,?_⟩; simp only [he,if_true,Bool.not_true,kf,Bool.false_eq_true,if_false]; rw [qqk hp]
   ·right
    rw [decide_eq_false he,cond_false]
    exact ⟨_,rfl,by simp [he]⟩)
  have g1:itO (qhi o) 0=some d:=g1
  rw [g1,qj]
  simp only [List.take_zero,List.map_nil,List.drop_zero] at g2
  rw [← g2]
  cases d <;> rfl
def qk4 (l:List qf):Bool:=(decide (l.length≤4) || decide (l.length=7)) && l.all fun p=>decide (p.name.length≤60) && decide (p.kd.length≤60)
theorem qxu {n:Int} {p:qf} {A B:Option (Int ⊕ (Unit ⊕ Int))} (hA:A=B):
  ((decide (p.name.length≤60) && decide (p.kd.length≤60))=true∧cond (decide (60 < (p.name.length:Int))) (some (.inr (.inl ()))) (cond (decide (60 < (p.kd.length:Int))) (some (.inr (.inl ()))) A)=B) ∨
  ((decide (p.name.length≤60) && decide (p.kd.length≤60))=false∧∃ d:Unit ⊕ Int,cond (decide (60 < (p.name.length:Int))) (some (.inr (.inl ()))) (cond (decide (60 < (p.kd.length:Int))) (some (.inr (.inl ()))) A)=some (.inr d)∧(match d with | .inl _=>false | .inr _=>true)=false):=by
 subst hA
 by_cases h1:p.name.length≤60
 ·have e1:decide (60 < (p.name.length:Int))=false:=decide_eq_false (by omega)
  by_cases h2:p.kd.length≤60
  ·have e2:decide (60 < (p.kd.length:Int))=false:=decide_eq_false (by omega)
   left
   rw [decide_eq_true h1,decide_eq_true h2,e1,e2]
   exact ⟨rfl,rfl⟩
  ·have e2:decide (60 < (p.kd.length:Int))=true:=decide_eq_true (by omega)
   right
   rw [decide_eq_false h2,e1,e2]
   exact ⟨by simp,.inl (),rfl,rfl⟩
 ·have e1:decide (60 < (p.name.length:Int))=true:=decide_eq_true (by omega)
  right
  rw [decide_eq_false h1,e1]
  exact ⟨by simp,.inl (),rfl,rfl⟩
theorem q75 {o:Option (List qf)}:f17 o=some (qk4 (o.getD [])):=by
 unfold f17 qk4
 generalize hl:o.getD []=l
 have hs:l.length≤7→∃ d,itO (qfm o) 0=some d∧(match d with | .inl _=>false | .inr _=>true)=l.all fun p=>decide (p.name.length≤60) && decide (p.kd.length≤60):=fun hn=>
  qgo l (qfm o) _ (fun d=>match d with | .inl _=>false | .inr _=>true) ⟨.inr _,by unfold qfm; simp only [hl]; rw [yu]; rfl,rfl⟩ (fun i x hx hi=>by
   unfold qfm
   simp only [hl]
   rw [kr hi,cond_true,yp hx,qj,z8 hi (by omega)]
   exact qxu (n:=0) rfl)
 have hb:qk8 o=qfm o:=rfl
 by_cases h4:(4:Int) < (l.length:Int)
 ·rw [decide_eq_true h4,cond_true,decide_eq_false (show ¬ l.length≤4 by omega)]
  by_cases h7:(l.length:Int)=7
  ·obtain ⟨d,g1,g2⟩:=hs (by omega)
   rw [decide_eq_true h7,cond_true,decide_eq_true (show l.length=7 by omega),g1,qj,← g2]
   cases d <;> rfl
  ·rw [decide_eq_false h7,decide_eq_false (show ¬ l.length=7 by omega)]; rfl
 ·obtain ⟨d,g1,g2⟩:=hs (by omega)
  rw [decide_eq_false h4,cond_false,decide_eq_true (show l.length≤4 by omega),hb,g1,qj,← g2]
  cases d <;> rfl
theorem q87 {o:Option (List qf)} (hn:(o.getD []).length≤1073741824):f24 o=some (ze (o.getD []),qah (o.getD [])):=by
 unfold f24
 rw [qmm (o.getD []) (qjy o) id hn (fun a=>by unfold qjy; rw [yu]; rfl) (fun i x a hx hi ha=>by
  unfold qjy
  rw [kr hi,cond_true,yp hx,qj,show f19 x=some x from rfl,qj,qc3 ha,z8 hi (by omega)]; rfl),qj,List.map_id]
end Go.Z
