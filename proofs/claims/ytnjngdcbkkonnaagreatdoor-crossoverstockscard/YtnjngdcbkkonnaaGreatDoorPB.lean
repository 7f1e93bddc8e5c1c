/-
  Loops as plain functions of their lists.
-/
import Derived.Test.YtnjngdcbkkonnaaGreatDoorA1
set_option linter.unusedVariables false
set_option linter.unusedSimpArgs false
set_option maxRecDepth 100000
namespace Go.Z
open Go Go.Abs
theorem qef {σ δ γ:Type} (n:Nat) (mk:Nat→σ) (f:σ→Option (σ ⊕ δ)) (V:δ→γ) (r:Nat→γ) (hend:∃ d,f (mk n)=some (.inr d)∧V d=r n)
  (hstep:∀ i,i < n→(f (mk i)=some (.inl (mk (i + 1)))∧r i=r (i + 1))∨(∃ d,f (mk i)=some (.inr d)∧V d=r i)):∃ d,itO f (mk 0)=some d∧V d=r 0:=by
 have key:∀ (k i:Nat),i + k=n→∃ d,itO f (mk i)=some d∧V d=r i:=by
  intro k
  induction k with
  | zero=>
   intro i hi
   have:i=n:=by omega
   subst this
   obtain ⟨d,h1,h2⟩:=hend
   exact ⟨d,qb8 h1,h2⟩
  | succ k ih=>
   intro i hi
   rcases hstep i (by omega) with ⟨h1,h2⟩ | ⟨d,h1,h2⟩
   ·rw [qgd h1,h2]; exact ih (i + 1) (by omega)
   ·exact ⟨d,qb8 h1,h2⟩
 exact key n 0 (by omega)
theorem qsj {α:Type} {l:List α} {q:α→Int} {i:Nat} {x:α} (hx:l[i]?=some x):j5 ((l.drop i).map q)=if q x=0 then j5 ((l.drop (i + 1)).map q) else q x:=by
 rw [ko hx]; rfl
theorem qib {α δ:Type} (l:List α) (f:Int→Option (Int ⊕ δ)) (q:α→Int) (V:δ→Int) (hend:∃ d,f (l.length:Int)=some (.inr d)∧V d=0)
  (hstep:∀ (i:Nat) x,l[i]?=some x→i < l.length→(q x=0∧f (i:Int)=some (.inl ((i + 1:Nat):Int)))∨(q x ≠ 0∧∃ d,f (i:Int)=some (.inr d)∧V d=q x)):∃ d,itO f 0=some d∧V d=j5 (l.map q):=by
 have:=qef l.length (fun i=>(i:Int)) f V (fun i=>j5 ((l.drop i).map q)) (by rw [List.drop_eq_nil_of_le (Nat.le_refl _)]; exact hend) (fun i hi=>by
  obtain ⟨x,hx⟩:∃ x,l[i]?=some x:=⟨_,List.getElem?_eq_getElem hi⟩
  simp only [qsj hx]
  rcases hstep i x hx hi with ⟨h1,h2⟩ | ⟨h1,h2⟩
  ·rw [if_pos h1]; exact .inl ⟨h2,rfl⟩
  ·rw [if_neg h1]; exact .inr h2)
 simpa using this
theorem qar {α δ:Type} (l:List α) (f:Int→Option (Int ⊕ δ)) (q:α→Bool) (V:δ→Bool) (hend:∃ d,f (l.length:Int)=some (.inr d)∧V d=true)
  (hstep:∀ (i:Nat) x,l[i]?=some x→i < l.length→(q x=true∧f (i:Int)=some (.inl ((i + 1:Nat):Int)))∨(q x=false∧∃ d,f (i:Int)=some (.inr d)∧V d=false)):∃ d,itO f 0=some d∧V d=l.all q:=by
 have:=qef l.length (fun i=>(i:Int)) f V (fun i=>(l.drop i).all q) (by rw [List.drop_eq_nil_of_le (Nat.le_refl _)]; exact hend) (fun i hi=>by
  obtain ⟨x,hx⟩:∃ x,l[i]?=some x:=⟨_,List.getElem?_eq_getElem hi⟩
  simp only [ko hx,List.all_cons]
  rcases hstep i x hx hi with ⟨h1,h2⟩ | ⟨h1,h2⟩
  ·rw [h1]; exact .inl ⟨h2,rfl⟩
  ·rw [h1]; exact .inr h2)
 simpa using this
theorem qco {α β:Type} (l:List α) (ix:Nat→Int) (f:Option (List β) × Int × Bool→Option ((Option (List β) × Int × Bool) ⊕ (Option (List β) × Bool × Int))) (h:α→List β) (a0:List β) (I:Nat→List β→Prop) (hI:I 0 a0)
  (hend:∀ a,f (j0 a,ix l.length,yu a)=some (.inr (j0 a,yu a,ix l.length)))
  (hstep:∀ (i:Nat) x a,l[i]?=some x→i < l.length→I i a→I (i + 1) (a++h x)∧f (j0 a,ix i,yu a)=some (.inl (j0 (a++h x),ix (i + 1),yu (a++h x)))):
  itO f (j0 a0,ix 0,yu a0)=some (j0 (a0++l.flatMap h),yu (a0++l.flatMap h),ix l.length):=by
 have key:∀ (k i:Nat),i + k=l.length→∀ a,I i a→itO f (j0 a,ix i,yu a)=some (j0 (a++(l.drop i).flatMap h),yu (a++(l.drop i).flatMap h),ix l.length):=by
  intro k
  induction k with
  | zero=>
   intro i hi a _
   have:i=l.length:=by omega
   subst this
   rw [List.drop_eq_nil_of_le (Nat.le_refl _),List.flatMap_nil,List.append_nil,qb8 (hend a)]
  | succ k ih=>
   intro i hi a ha
   obtain ⟨x,hx⟩:∃ x,l[i]?=some x:=⟨_,List.getElem?_eq_getElem (by omega)⟩
   obtain ⟨h1,h2⟩:=hstep i x a hx (by omega) ha
   rw [qgd h2,ih (i + 1) (by omega) _ h1,ko hx,List.flatMap_cons,List.append_assoc]
 have:=key l.length 0 (by omega) a0 hI
 rwa [List.drop_zero] at this
theorem qw5 {α:Type} {a:List α} {x:α} (h:a.length < 1073741824):apO (j0 a) [x]=some (j0 (a++[x])):=by
 unfold apO
 cases a with
 | nil=>rfl
 | cons y a=>
  have:((j0 (y::a)).getD []).length + [x].length≤1073741824:=by simp [j0] at h ⊢; omega
  rw [if_pos this]; rfl
theorem qbk {α γ:Type} {a:List α} {x:α} {k:Option (List α)→Option γ} (h:a.length < 1073741824):cond (yu a) (qh (apO (j0 a) [x]) k) (cond (j0 a).isNone (qh (apO (j0 a) [x]) k) none)=k (j0 (a++[x])):=by
 rw [qw5 h]
 cases a <;> rfl
theorem qbq {α:Type} (a:List α):(j0 a).getD []=a:=by cases a <;> rfl
theorem qcf {α β:Type} (h:α→β):∀ l:List α,l.flatMap (fun x=>[h x])=l.map h
 | []=>rfl
 | x::l=>by rw [List.flatMap_cons,qcf h l]; rfl
theorem qmm {α β:Type} (l:List α) (f:Option (List β) × Int × Bool→Option ((Option (List β) × Int × Bool) ⊕ (Option (List β) × Bool × Int))) (h:α→β) (hl:l.length≤1073741824)
  (hend:∀ a:Option (List β) × Bool,f (a.1,(l.length:Int),a.2)=some (.inr (a.1,a.2,(l.length:Int))))
  (hstep:∀ (i:Nat) x (a:List β),l[i]?=some x→i < l.length→a.length < 1073741824→f (j0 a,(i:Int),yu a)=some (.inl (j0 (a++[h x]),((i + 1:Nat):Int),true))):
  itO f (none,0,false)=some (j0 (l.map h),yu (l.map h),(l.length:Int)):=by
 have:=qco l (fun i=>(i:Int)) f (fun x=>[h x]) [] (fun i a=>a.length=i) rfl (fun a=>hend (j0 a,yu a)) (fun i x a hx hi ha=>⟨by simp [ha],by rw [hstep i x a hx hi (by omega),qcs]⟩)
 rw [qcf,List.nil_append] at this
 exact this
theorem j7 {α:Type} {l:List α} {i:Nat} {x:α} (hx:l[i]?=some x):zm l (i:Int)=some x:=by rw [q14,hx]
theorem zt {α:Type} {l:List α} {i:Nat} (h:i < l.length):decide ((i:Int) < (l.length:Int))=true:=decide_eq_true (by omega)
theorem zb {n:Nat}:decide ((n:Int) < (n:Int))=false:=decide_eq_false (by omega)
end Go.Z
/-
 Parts and catalogues: what their functions come to.
-/
set_option maxHeartbeats 1000000
namespace Go.Z
open Go Go.Abs
theorem qcy {b:Bool} {e:Int}:f106 b e=some (kg b e):=by cases b <;> rfl
theorem qpw {b:Bool} {e:Int}:f194 b e=some (kg b e):=by cases b <;> rfl
theorem q4d {b:Bool} {e:Int}:f101 b e=some (kg b e):=by cases b <;> rfl
theorem qwc {o:Option (List Int)} (hn:(o.getD []).length≤9223372036854775807):f105 o=some (j5 (o.getD [])):=by
 obtain ⟨d,h1,h2⟩:=qib (o.getD []) (qf9 o) id (fun d=>match d with | .inl x=>x | .inr _=>0) ⟨.inr _,by unfold qf9; rw [zb]; rfl,rfl⟩ (fun i x hx hi=>by
  unfold qf9
  rw [zt hi,cond_true,j7 hx,qj]
  by_cases h:x=0
  ·refine .inl ⟨h,?_⟩
   rw [decide_eq_true h,cond_true,jt hi hn]
  ·refine .inr ⟨h,.inl x,?_,rfl⟩
   rw [decide_eq_false h,cond_false])
 unfold f105
 rw [h1,qj]
 rw [List.map_id] at h2
 rw [← h2]
 cases d <;> rfl
theorem qnz {l:List Int} (hn:l.length≤100):f105 (some l)=some (j5 l):=qwc (o:=some l) (by simp only [Option.getD_some]; omega)
theorem q49 {o:Option (List Int)} (hn:(o.getD []).length≤9223372036854775807):f171 o=some (j5 (o.getD [])):=by
 obtain ⟨d,h1,h2⟩:=qib (o.getD []) (qgu o) id (fun d=>match d with | .inl x=>x | .inr _=>0) ⟨.inr _,by unfold qgu; rw [zb]; rfl,rfl⟩ (fun i x hx hi=>by
  unfold qgu
  rw [zt hi,cond_true,j7 hx,qj]
  by_cases h:x=0
  ·refine .inl ⟨h,?_⟩
   rw [decide_eq_true h,cond_true,jt hi hn]
  ·refine .inr ⟨h,.inl x,?_,rfl⟩
   rw [decide_eq_false h,cond_false])
 unfold f171
 rw [h1,qj]
 rw [List.map_id] at h2
 rw [← h2]
 cases d <;> rfl
theorem qcm {l:List Int} (hn:l.length≤100):f171 (some l)=some (j5 l):=q49 (o:=some l) (by simp only [Option.getD_some]; omega)
theorem q4h {o:Option (List Int)} (hn:(o.getD []).length≤9223372036854775807):f100 o=some (j5 (o.getD [])):=by
 obtain ⟨d,h1,h2⟩:=qib (o.getD []) (qf4 o) id (fun d=>match d with | .inl x=>x | .inr _=>0) ⟨.inr _,by unfold qf4; rw [zb]; rfl,rfl⟩ (fun i x hx hi=>by
  unfold qf4
  rw [zt hi,cond_true,j7 hx,qj]
  by_cases h:x=0
  ·refine .inl ⟨h,?_⟩
   rw [decide_eq_true h,cond_true,jt hi hn]
  ·refine .inr ⟨h,.inl x,?_,rfl⟩
   rw [decide_eq_false h,cond_false])
 unfold f100
 rw [h1,qj]
 rw [List.map_id] at h2
 rw [← h2]
 cases d <;> rfl
theorem qnn {l:List Int} (hn:l.length≤100):f100 (some l)=some (j5 l):=q4h (o:=some l) (by simp only [Option.getD_some]; omega)
theorem q4l {n lo hi:Int}:f109 n lo hi=some (zh n lo hi):=by
 unfold f109 zh
 by_cases h:n < lo
 ·simp only [h,decide_true,cond_true,qcy,qj,kg,if_true]
 ·by_cases h2:hi < n <;> simp [h,h2,qcy,kg]
theorem q4t {n lo hi:Int}:f195 n lo hi=some (zh n lo hi):=by
 unfold f195 zh
 by_cases h:n < lo
 ·simp only [h,decide_true,cond_true,qpw,qj,kg,if_true]
 ·by_cases h2:hi < n <;> simp [h,h2,qpw,kg]
theorem q0n {n lo hi:Int}:f40 n lo hi=some (zh n lo hi):=by
 unfold f40 zh
 by_cases h:n < lo
 ·simp [h]
 ·by_cases h2:hi < n <;> simp [h,h2]
theorem qbl:∀ {l:List Int},j5 l=0↔∀ x∈l,x=0
 | []=>by simp [j5]
 | x::l=>by
  simp only [j5,List.mem_cons,forall_eq_or_imp]
  by_cases h:x=0
  ·rw [if_pos h,qbl]; simp [h]
  ·rw [if_neg h]; simp [h]
theorem ql4 {s:List UInt8} {i:Nat} {c:UInt8} (hc:s[i]?=some c):qfw i (s.drop i)=(qkb i c.toNat && qfw (i + 1) (s.drop (i + 1))):=by
 rw [ko hc]; rfl
theorem q5i {s:List UInt8}:f102 s=some (qk0 s):=by
 unfold f102 qk0
 by_cases h0:s=[]
 ·subst h0; rfl
 have hl:¬ ((s.length:Int)=0):=by
  intro h
  exact h0 (List.eq_nil_of_length_eq_zero (by omega))
 by_cases h1:(24:Int) < s.length
 ·have h2:¬ s.length≤24:=by omega
  simp [hl,h0,h1,h2]
 ·have h2:s.length≤24:=by omega
  obtain ⟨d,g1,g2⟩:=qef s.length (fun i=>(i:Int)) (qen s) (fun d=>match d with | .inl _=>false | .inr _=>true) (fun i=>qfw i (s.drop i)) ⟨.inr _,by unfold qen; rw [zb]; rfl,by rw [List.drop_eq_nil_of_le (Nat.le_refl _)]; rfl⟩ (fun i hi=>by
   obtain ⟨c,hc⟩:∃ c,s[i]?=some c:=⟨_,List.getElem?_eq_getElem hi⟩
   unfold qen
   rw [ql4 hc,zt hi,cond_true,j7 hc,qj]
   simp only [jt hi (show s.length≤9223372036854775807 by omega)]
   unfold qkb
   have hx:0≤(c.toNat:Int):=by omega
   generalize (c.toNat:Int)=x at hx ⊢
   by_cases z:i=0
   ·subst z
    rcases kinds x with h | h | h | h | h | h | h | h | h <;>
     simp (disch:=omega) only [decide_eq_true,decide_eq_false,cond_true,cond_false,Bool.or_false,Bool.false_or,Bool.true_or,Bool.and_true,Bool.true_and,Bool.false_and] <;>
     first
      | exact .inl ⟨trivial,trivial⟩
      | exact .inl ⟨rfl,trivial⟩
      | exact .inl ⟨rfl,rfl⟩
      | exact .inr ⟨_,rfl,rfl⟩
   ·rcases kinds x with h | h | h | h | h | h | h | h | h <;>
     simp (disch:=omega) only [decide_eq_true,decide_eq_false,cond_true,cond_false,Bool.or_false,Bool.or_true,Bool.false_or,Bool.true_or,Bool.and_true,Bool.true_and,Bool.false_and] <;>
     first
      | exact .inl ⟨trivial,trivial⟩
      | exact .inl ⟨rfl,trivial⟩
      | exact .inl ⟨rfl,rfl⟩
      | exact .inr ⟨_,rfl,rfl⟩)
  have g1:itO (qen s) 0=some d:=g1
  rw [decide_eq_false hl,cond_false,decide_eq_false h1,cond_false,g1,qj]
  simp only [h0,h2,ne_eq,not_false_eq_true,decide_true,Bool.true_and]
  rw [List.drop_zero] at g2
  rw [← g2]
  cases d <;> rfl
theorem qoa {s:List UInt8} {i:Nat} {c:UInt8} (hc:s[i]?=some c):(c.toNat < 128∧qk s i=(c.toNat,1))∨(128≤c.toNat∧128≤(qk s i).1):=by
 by_cases h:c.toNat < 128
 ·exact .inl ⟨h,q0j hc h⟩
 ·exact .inr ⟨by omega,qy3 hc h⟩
theorem qqs {i:Nat} {x:Int} (h:128≤x):qkb i x=false:=by
 unfold qkb
 simp (disch:=omega) only [decide_eq_false,Bool.or_self,Bool.and_false]
def jf7:Nat→Option Nat
 | 0=>none
 | i + 1=>some (i + 1)
theorem q38 {s:List UInt8}:f107 s=some (qk0 s):=by
 unfold f107
 obtain ⟨d,g1,g2⟩:=qef s.length jf7 (qk6 s) (fun d=>match d with | .inl _=>false | .inr _=>true) (fun i=>qfw i (s.drop i)) (by
   rw [List.drop_eq_nil_of_le (Nat.le_refl _)]
   cases hn:s.length with
   | zero=>
    refine ⟨.inr 0,?_,rfl⟩
    show qcu s=_
    unfold qcu
    rw [hn]; rfl
   | succ n=>
    refine ⟨.inr (n + 1),?_,rfl⟩
    show qcx s (n + 1)=_
    unfold qcx
    rw [hn,decide_eq_false (by omega)]; rfl) (fun i hi=>by
   obtain ⟨c,hc⟩:∃ c,s[i]?=some c:=⟨_,List.getElem?_eq_getElem hi⟩
   rw [ql4 hc]
   cases i with
   | zero=>
    show (qcu s=_∧_)∨(∃ d,qcu s=_∧_)
    unfold qcu
    rw [decide_eq_true hi,cond_true]
    rcases qoa hc with ⟨hlt,he⟩ | ⟨hge,hr⟩
    ·rw [he]
     simp only []
     have hx:0≤(c.toNat:Int):=by omega
     unfold qkb
     generalize (c.toNat:Int)=x at hx ⊢
     rcases kinds x with h | h | h | h | h | h | h | h | h <;>
      simp (disch:=omega) only [decide_eq_true,decide_eq_false,cond_true,cond_false,Bool.or_false,Bool.false_or,Bool.true_or,Bool.and_true,Bool.true_and,Bool.false_and] <;>
      first
       | exact .inl ⟨trivial,trivial⟩
       | exact .inl ⟨rfl,trivial⟩
       | exact .inl ⟨rfl,rfl⟩
       | exact .inr ⟨_,rfl,rfl⟩
    ·rw [qqs (by omega)]
     generalize hd:qk s 0=dd at hr ⊢
     have hr':(128:Int)≤(dd.1:Int):=by omega
     generalize (dd.1:Int)=x at hr' ⊢
     simp (disch:=omega) only [decide_eq_true,decide_eq_false,cond_true,cond_false,Bool.false_and]
     exact .inr ⟨_,rfl,rfl⟩
   | succ i=>
    show (qcx s (i + 1)=_∧_)∨(∃ d,qcx s (i + 1)=_∧_)
    unfold qcx
    rw [decide_eq_true hi,cond_true]
    rcases qoa hc with ⟨hlt,he⟩ | ⟨hge,hr⟩
    ·rw [he]
     simp only []
     have hx:0≤(c.toNat:Int):=by omega
     unfold qkb
     generalize (c.toNat:Int)=x at hx ⊢
     have e0:decide (((i + 1:Nat):Int)=0)=false:=decide_eq_false (by omega)
     rcases kinds x with h | h | h | h | h | h | h | h | h <;>
      simp (disch:=omega) only [e0,decide_eq_true,decide_eq_false,cond_true,cond_false,Bool.or_false,Bool.or_true,Bool.false_or,Bool.true_or,Bool.and_true,Bool.true_and,Bool.false_and] <;>
      first
       | exact .inl ⟨trivial,trivial⟩
       | exact .inl ⟨rfl,trivial⟩
       | exact .inl ⟨rfl,rfl⟩
       | exact .inr ⟨_,rfl,rfl⟩
    ·rw [qqs (by omega)]
     generalize hd:qk s (i + 1)=dd at hr ⊢
     have hr':(128:Int)≤(dd.1:Int):=by omega
     have e0:decide (((i + 1:Nat):Int)=0)=false:=decide_eq_false (by omega)
     generalize (dd.1:Int)=x at hr' ⊢
     simp (disch:=omega) only [e0,decide_eq_true,decide_eq_false,cond_true,cond_false,Bool.false_and]
     exact .inr ⟨_,rfl,rfl⟩)
 have g1:itO (qk6 s) none=some d:=g1
 rw [g1,qj]
 unfold qk0
 rw [List.drop_zero] at g2
 cases d with
 | inl d=>simp only [] at g2; rw [← g2]; simp
 | inr d=>
  simp only [] at g2
  rw [← g2]
  by_cases h0:s=[]
  ·subst h0; rfl
  ·have e:decide ((s.length:Int)≤24)=decide (s.length≤24):=by by_cases h:s.length≤24 <;> simp [h] <;> omega
   rw [e]
   simp [h0]
end Go.Z
/-
 Ladders,the values of a part,parts and catalogues: what their checks come to.
-/
namespace Go.Z
open Go Go.Abs
def kB:List UInt8:=[98,108,111,99,107]
def kSe:List UInt8:=[115,101,114,105,101,115]
def kSh:List UInt8:=[115,104,117,110,116]
def kT:List UInt8:=[116,114,97,112]
def isK (s:List UInt8):Bool:=decide (s=kB) || decide (s=kSe) || decide (s=kSh) || decide (s=kT)
def qdl (s:List UInt8):Bool:=decide (s=kB) || decide (s=kT)
def yw (x:GEl):Int:=j5 [kg (!isK x.kind) 13,zh x.a 0 8,zh x.b 0 8,kg (qdl x.kind && decide (x.a=0) && decide (x.b=0)) 6]
def qfr (l:List GEl):Int:=if 5 < l.length then 5 else j5 (l.map yw)
theorem qb2 {δ:Type} {F q:Int} {A B:Option (Int ⊕ δ)} {d:δ} {V:δ→Int} (hF:F=q) (hA:A=B) (hV:V d=F):(q=0∧cond (decide (F=0)) A (some (.inr d))=B)∨(q ≠ 0∧∃ d',cond (decide (F=0)) A (some (.inr d))=some (.inr d')∧V d'=q):=by
 subst hF
 by_cases h:F=0
 ·exact .inl ⟨h,by rw [decide_eq_true h]; exact hA⟩
 ·exact .inr ⟨h,d,by rw [decide_eq_false h]; rfl,hV⟩
theorem q5f {o:Option (List GEl)}:f158 o=some (qfr (o.getD [])):=by
 unfold f158 qfr
 by_cases h5:(5:Int) < ((o.getD []).length:Int)
 ·rw [decide_eq_true h5,if_pos (by omega)]; rfl
 ·rw [decide_eq_false h5,if_neg (by omega),cond_false]
  have hn:(o.getD []).length≤9223372036854775807:=by omega
  obtain ⟨d,g1,g2⟩:=qib (o.getD []) (qgp o) yw (fun d=>match d with
   | .inl d226=>d226.1
   | .inr (.inl d227)=>d227.1
   | .inr (.inr (.inl d228))=>d228.1
   | .inr (.inr (.inr (.inl d229)))=>d229.1
   | .inr (.inr (.inr (.inr (.inl d230))))=>d230.1
   | .inr (.inr (.inr (.inr (.inr d231))))=>0) ⟨_,by unfold qgp; rw [zb]; rfl,rfl⟩ (fun i x hx hi=>by
    unfold qgp
    rw [zt hi,cond_true,j7 hx,qj,jt hi hn]
    simp only [qpw,q4t,qj]
    by_cases k1:x.kind=kB
    ·rw [decide_eq_true (show x.kind=[98,108,111,99,107] from k1),cond_true]
     by_cases ha:x.a=0
     ·rw [decide_eq_true ha,cond_true,qcm (by simp),qj]
      exact qb2 (by simp [yw,isK,qdl,k1,ha]) rfl rfl
     ·rw [decide_eq_false ha,cond_false,qcm (by simp),qj]
      exact qb2 (by simp [yw,isK,qdl,k1,ha]) rfl rfl
    rw [decide_eq_false (show ¬ x.kind=[98,108,111,99,107] from k1),cond_false]
    by_cases k2:x.kind=kSe
    ·rw [decide_eq_true (show x.kind=[115,101,114,105,101,115] from k2),cond_true,qcm (by simp),qj]
     exact qb2 (by simp [yw,isK,qdl,k2,kSe,kB,kT]) rfl rfl
    rw [decide_eq_false (show ¬ x.kind=[115,101,114,105,101,115] from k2),cond_false]
    by_cases k3:x.kind=kSh
    ·rw [decide_eq_true (show x.kind=[115,104,117,110,116] from k3),cond_true,qcm (by simp),qj]
     exact qb2 (by simp [yw,isK,qdl,k3,kSh,kSe,kB,kT]) rfl rfl
    rw [decide_eq_false (show ¬ x.kind=[115,104,117,110,116] from k3),cond_false]
    by_cases k4:x.kind=kT
    ·rw [decide_eq_true (show x.kind=[116,114,97,112] from k4),cond_true]
     by_cases ha:x.a=0
     ·rw [decide_eq_true ha,cond_true,qcm (by simp),qj]
      exact qb2 (by simp [yw,isK,qdl,k4,ha]) rfl rfl
     ·rw [decide_eq_false ha,cond_false,qcm (by simp),qj]
      exact qb2 (by simp [yw,isK,qdl,k4,ha]) rfl rfl
    rw [decide_eq_false (show ¬ x.kind=[116,114,97,112] from k4),cond_false,qcm (by simp),qj]
    exact qb2 (by simp [yw,isK,qdl,k1,k2,k3,k4]) rfl rfl)
  rw [g1,qj,← g2]
  rcases d with d | d | d | d | d | d <;> rfl
theorem qh0 {x:GEl}:qfr [x]=yw x:=by
 unfold qfr
 simp only [List.length_cons,List.length_nil,List.map_cons,List.map_nil,j5]
 by_cases h:yw x=0 <;> simp [h]
theorem qv8 {x:GEl}:f108 x=some (yw x):=by unfold f108; rw [q5f]; simp only [Option.getD_some,qh0]; rfl
theorem q1u {x:GEl}:qrx x=some (yw x):=qv8
theorem q37 {l:List (List UInt8)} {s:List UInt8} (hn:l.length≤100):f191 (some l) s=some (!l.all fun y=>!decide (y=s)):=by
 unfold f191
 obtain ⟨d,g1,g2⟩:=qar l (qf5 (some l) s) (fun y=>!decide (y=s)) (fun d=>match d with | .inl _=>false | .inr _=>true) ⟨.inr _,by unfold qf5; simp only [Option.getD_some]; rw [zb]; rfl,rfl⟩ (fun i x hx hi=>by
  unfold qf5
  simp only [Option.getD_some]
  rw [zt hi,cond_true,j7 hx,qj,jt hi (by omega)]
  by_cases h:x=s
  ·exact .inr ⟨by simp [h],.inl (),by rw [decide_eq_true h]; rfl,rfl⟩
  ·exact .inl ⟨by simp [h],by rw [decide_eq_false h]; rfl⟩)
 rw [g1,qj,← g2]
 cases d <;> rfl
theorem q3u {x:GEl}:f157 x=some (yw x):=by
 unfold f157
 have h192:f192=some (some [kB,kSe,kSh,kT]):=rfl
 rw [h192,qj,q37 (by decide),qj]
 have hk:(!([kB,kSe,kSh,kT].all fun y=>!decide (y=x.kind)))=isK x.kind:=by
  simp only [List.all_cons,List.all_nil,isK,Bool.and_true,Bool.not_and,Bool.not_not,eq_comm (a:=x.kind),Bool.or_assoc]
 rw [hk]
 simp only [q0n,qj]
 unfold yw
 cases hK:isK x.kind with
 | false=>simp [j5,kg]
 | true=>
  rw [cond_true,qnn (by simp),qj]
  have hd:f55 x.kind=some (qdl x.kind):=by
   unfold f55 qdl
   by_cases h:x.kind=kB
   ·rw [decide_eq_true (show x.kind=[98,108,111,99,107] from h),decide_eq_true h]; rfl
   ·rw [decide_eq_false (show ¬ x.kind=[98,108,111,99,107] from h),decide_eq_false h]; rfl
  rw [hd]
  by_cases h1:zh x.a 0 8=0
  ·by_cases h2:zh x.b 0 8=0
   ·simp only [j5,h1,h2,if_true,decide_true,cond_true,qj]
    cases hD:qdl x.kind with
    | false=>simp [kg]
    | true=>
     by_cases ha:x.a=0
     ·by_cases hb:x.b=0 <;> simp [kg,ha,hb]
     ·simp [kg,ha]
   ·simp [j5,h1,h2,kg]
  ·simp [j5,h1,kg]
theorem qv1 {o:Option (List GEl)}:f103 o=some (qfr (o.getD [])):=by
 unfold f103 qfr
 by_cases h5:(5:Int) < ((o.getD []).length:Int)
 ·rw [decide_eq_true h5,if_pos (by omega)]; rfl
 ·rw [decide_eq_false h5,if_neg (by omega),cond_false]
  have hn:(o.getD []).length≤9223372036854775807:=by omega
  obtain ⟨d,g1,g2⟩:=qib (o.getD []) (qf2 o) yw (fun d=>match d with | .inl x=>x | .inr _=>0) ⟨.inr _,by unfold qf2; rw [zb]; rfl,rfl⟩ (fun i x hx hi=>by
   unfold qf2
   rw [zt hi,cond_true,j7 hx,qj,q3u,qj,jt hi hn]
   exact qb2 rfl rfl rfl)
  rw [g1,qj,← g2]
  cases d <;> rfl
def yo (a s:Int) (c:Bool):List Int:=if s=0 then [a] else if c then [a - s,a + s] else [a - 1,a,a + 1]
def okN (a s:Int):Prop:=0≤a∧a≤8∧0≤s∧s≤1
theorem kn {x:Int} (h:-1000000≤x∧x≤1000000):qm .i64 x=x:=by
 exact qev (by omega) (by omega)
end Go.Z
/-
 The values of a part; parts and catalogues: what their checks come to,on both sides.
-/
namespace Go.Z
open Go Go.Abs
theorem qdm {a s:Int} (h:okN a s):((yo a s false).length:Int)=2 * s + 1:=by
 obtain ⟨h1,h2,h3,h4⟩:=h
 rcases (show s=0∨s=1 by omega) with rfl | rfl <;> rfl
theorem qqg {a s:Int} (h:okN a s) {i:Nat} {x:Int} (hx:(yo a s false)[i]?=some x):x=a - s + i:=by
 obtain ⟨h1,h2,h3,h4⟩:=h
 rcases (show s=0∨s=1 by omega) with rfl | rfl
 ·match i,hx with
  | 0,hx=>cases hx; omega
 ·match i,hx with
  | 0,hx=>cases hx; omega
  | 1,hx=>cases hx; omega
  | 2,hx=>cases hx; omega
theorem qft {a s:Int} {c:Bool}:(yo a s c).length≤3:=by
 unfold yo
 split
 ·simp
 ·split <;> simp
theorem qwe {a s:Int} (h:okN a s):f155 a s=some ⟨a - s,a + s⟩:=by
 obtain ⟨h1,h2,h3,h4⟩:=h
 unfold f155
 rw [kn (by omega),kn (by omega)]
theorem qv9 {a s:Int} {c:Bool} (h:okN a s):f156 ⟨a - s,a + s⟩ c=some (some (yo a s c),true):=by
 have h':=h
 obtain ⟨h1,h2,h3,h4⟩:=h'
 unfold f156
 simp only []
 by_cases hs:s=0
 ·subst hs
  rw [decide_eq_true (by omega)]
  simp [yo]
 ·rw [decide_eq_false (by omega),cond_false]
  cases c with
  | true=>simp [yo,hs]
  | false=>
   rw [cond_false]
   have:=qco (yo a s false) (fun i=>a - s + i) (qfz ⟨a - s,a + s⟩) (fun x=>[x]) [] (fun i l=>l.length=i) rfl (fun l=>by
    unfold qfz
    simp only []
    rw [qdm h,decide_eq_false (by omega)]; rfl) (fun i x l hx hi hl=>by
    have hxi:=qqg h hx
    have:=qdm h
    refine ⟨by simp [hl],?_⟩
    unfold qfz
    simp only []
    rw [decide_eq_true (by omega),cond_true,qbk (by omega),kn (by omega),qcs,hxi]
    congr 4
    omega)
   have e0:a - s + ((0:Nat):Int)=a - s:=by omega
   rw [e0] at this
   rw [show (j0 ([]:List Int),a - s,yu ([]:List Int))=(none,a - s,false) from rfl] at this
   rw [this,qj,List.nil_append,qcf,List.map_id']
   have hne:yo a s false=[a - 1,a,a + 1]:=by simp [yo,hs]
   rw [hne]; rfl
def za (p:qc) (c:Bool):List GEl:=(yo p.pa p.sa c).flatMap fun a=>(yo p.pb p.sb c).map fun b=>⟨p.kd,a,b⟩
def okP (p:qc):Prop:=okN p.pa p.sa∧okN p.pb p.sb
theorem qv6 {p:qc} {c:Bool}:za p c ≠ []:=by
 have h:∀ a s,yo a s c ≠ []:=by
  intro a s
  unfold yo
  split
  ·simp
  ·split <;> simp
 unfold za
 obtain ⟨x,l,hx⟩:∃ x l,yo p.pa p.sa c=x::l:=by
  cases hn:yo p.pa p.sa c with
  | nil=>exact absurd hn (h _ _)
  | cons x l=>exact ⟨x,l,rfl⟩
 obtain ⟨y,m,hy⟩:∃ x l,yo p.pb p.sb c=x::l:=by
  cases hn:yo p.pb p.sb c with
  | nil=>exact absurd hn (h _ _)
  | cons x l=>exact ⟨x,l,rfl⟩
 rw [hx,hy]
 simp
theorem qqm {α:Type} {l:List α} (h:l ≠ []):j0 l=some l∧yu l=true:=by
 cases l with
 | nil=>exact absurd rfl h
 | cons x l=>exact ⟨rfl,rfl⟩
theorem qdj {p:qc} {c:Bool}:(za p c).length≤9:=by
 unfold za
 have h1:=qft (a:=p.pa) (s:=p.sa) (c:=c)
 have h2:=qft (a:=p.pb) (s:=p.sb) (c:=c)
 generalize yo p.pa p.sa c=l at h1
 generalize yo p.pb p.sb c=m at h2
 have:∀ l:List Int,(l.flatMap fun a=>m.map fun b=>(⟨p.kd,a,b⟩:GEl)).length=l.length * m.length:=by
  intro l
  induction l with
  | nil=>simp
  | cons x l ih=>rw [List.flatMap_cons,List.length_append,ih,List.length_map,List.length_cons,Nat.succ_mul]; omega
 rw [this]
 exact Nat.le_trans (Nat.mul_le_mul h1 h2) (by decide)
theorem qsr {p:qc} {c:Bool} (h:okP p):f99 p c=some (some (za p c),true):=by
 unfold f99
 rw [qwe h.1,qj,qv9 h.1,qj]
 have:=qco (yo p.pa p.sa c) (fun i=>(i:Int)) (qj5 p c (some (yo p.pa p.sa c),true)) (fun a=>(yo p.pb p.sb c).map fun b=>(⟨p.kd,a,b⟩:GEl)) [] (fun i l=>l.length≤3 * i) (by simp) (fun l=>by
  unfold qj5
  simp only [Option.getD_some]
  rw [zb]; rfl) (fun i x l hx hi hl=>by
  have hn:=qft (a:=p.pa) (s:=p.sa) (c:=c)
  have hm:=qft (a:=p.pb) (s:=p.sb) (c:=c)
  refine ⟨by rw [List.length_append,List.length_map]; omega,?_⟩
  unfold qj5
  simp only [Option.getD_some]
  rw [zt hi,cond_true,j7 hx,qj,qwe h.2,qj,qv9 h.2,qj]
  have inner:=qco (yo p.pb p.sb c) (fun j=>(j:Int)) (qjz p c (some (yo p.pa p.sa c),true) (j0 l,(i:Int),yu l) x (some (yo p.pb p.sb c),true)) (fun b=>[(⟨p.kd,x,b⟩:GEl)]) l (fun j k=>k.length=l.length + j) (by simp) (fun k=>by
   unfold qjz
   simp only [Option.getD_some]
   rw [zb]; rfl) (fun j y k hy hj hk=>by
   refine ⟨by simp [hk]; omega,?_⟩
   unfold qjz
   simp only [Option.getD_some]
   rw [zt hj,cond_true,j7 hy,qj,qbk (by omega),jt hj (by omega),qcs])
  rw [qcf] at inner
  rw [show (((0:Nat):Int))=0 from rfl] at inner
  rw [inner,qj,jt hi (by omega)])
 rw [show (j0 ([]:List GEl),((0:Nat):Int),yu ([]:List GEl))=(none,0,false) from rfl] at this
 rw [this,qj,List.nil_append]
 obtain ⟨e1,e2⟩:=qqm (qv6 (p:=p) (c:=c))
 show some (j0 (za p c),yu (za p c))=_
 rw [e1,e2]
theorem qpy {p:qc} (h:okP p):f104 p=some (some (za p false),true):=by
 obtain ⟨⟨a1,a2,a3,a4⟩,b1,b2,b3,b4⟩:=id h
 unfold f104
 have:=qco (yo p.pa p.sa false) (fun i=>p.pa - p.sa + i) (qgv p) (fun a=>(yo p.pb p.sb false).map fun b=>(⟨p.kd,a,b⟩:GEl)) [] (fun i l=>l.length≤3 * i) (by simp) (fun l=>by
  unfold qgv
  simp only []
  rw [qdm h.1,kn (by omega),decide_eq_false (by omega)]; rfl) (fun i x l hx hi hl=>by
  have hn:=qft (a:=p.pa) (s:=p.sa) (c:=false)
  have hm:=qft (a:=p.pb) (s:=p.sb) (c:=false)
  have hxi:=qqg h.1 hx
  have hnl:=qdm h.1
  refine ⟨by rw [List.length_append,List.length_map]; omega,?_⟩
  unfold qgv
  simp only []
  rw [kn (x:=p.pa + p.sa) (by omega),decide_eq_true (by omega),cond_true]
  have inner:=qco (yo p.pb p.sb false) (fun j=>p.pb - p.sb + j) (qgm p (j0 l,p.pa - p.sa + (i:Int),yu l)) (fun b=>[(⟨p.kd,x,b⟩:GEl)]) l (fun j k=>k.length=l.length + j) (by simp) (fun k=>by
   unfold qgm
   simp only []
   rw [qdm h.2,kn (by omega),decide_eq_false (by omega)]; rfl) (fun j y k hy hj hk=>by
   have hyj:=qqg h.2 hy
   have hml:=qdm h.2
   refine ⟨by simp [hk]; omega,?_⟩
   unfold qgm
   simp only []
   rw [kn (x:=p.pb + p.sb) (by omega),decide_eq_true (by omega),cond_true,qbk (by omega),kn (by omega),qcs,hyj,hxi]
   congr 4
   omega)
  rw [qcf] at inner
  rw [show p.pb - p.sb + ((0:Nat):Int)=p.pb - p.sb by omega] at inner
  rw [kn (x:=p.pb - p.sb) (by omega),inner,qj,kn (by omega)]
  congr 4
  omega)
 rw [show p.pa - p.sa + ((0:Nat):Int)=p.pa - p.sa by omega] at this
 rw [kn (x:=p.pa - p.sa) (by omega)]
 rw [show (j0 ([]:List GEl),p.pa - p.sa,yu ([]:List GEl))=(none,p.pa - p.sa,false) from rfl] at this
 rw [this,qj,List.nil_append]
 obtain ⟨e1,e2⟩:=qqm (qv6 (p:=p) (c:=false))
 show some (j0 (za p false),yu (za p false))=_
 rw [e1,e2]
theorem q5b {l:List GEl} (hl:l.length≤1073741824):f110 (some l)=some (j0 (l.map yw),yu (l.map yw)):=by
 unfold f110
 rw [qmm l (qgq (some l)) yw hl (fun a=>by unfold qgq; simp only [Option.getD_some]; rw [zb]; rfl) (fun i x a hx hi ha=>by
  unfold qgq
  simp only [Option.getD_some]
  rw [zt hi,cond_true,j7 hx,qj,q1u,qj,qbk ha,jt hi (by omega)]),qj]
def qd0 (p:qc):Int:=j5 [kg (!qk0 p.name) 8,yw ⟨p.kd,p.pa,p.pb⟩,zh p.sa 0 1,zh p.sb 0 1,zh p.cost 1 1000000,zh p.stock 0 100]
def qao (p:qc):Int:=if qd0 p=0 then kg (!decide (j5 ((za p false).map yw)=0)) 1 else qd0 p
theorem qe9 {n lo hi:Int}:zh n lo hi=0↔lo≤n∧n≤hi:=by
 unfold zh
 split
 ·constructor
  ·intro h; cases h
  ·intro h; omega
 ·split
  ·constructor
   ·intro h; cases h
   ·intro h; omega
  ·constructor
   ·intro; omega
   ·intro; rfl
theorem q0z {x:GEl} (h:yw x=0):isK x.kind=true∧(0≤x.a∧x.a≤8)∧(0≤x.b∧x.b≤8)∧¬ (qdl x.kind=true∧x.a=0∧x.b=0):=by
 have:=qbl.1 h
 simp only [List.mem_cons,List.not_mem_nil,or_false,forall_eq_or_imp,forall_eq] at this
 obtain ⟨h1,h2,h3,h4⟩:=this
 refine ⟨?_,qe9.1 h2,qe9.1 h3,?_⟩
 ·cases hk:isK x.kind with
  | true=>rfl
  | false=>rw [hk] at h1; cases h1
 ·rintro ⟨hd,ha,hb⟩
  rw [hd,ha,hb] at h4
  cases h4
theorem qp4 {p:qc} (h:qd0 p=0):okP p:=by
 have:=qbl.1 h
 simp only [List.mem_cons,List.not_mem_nil,or_false,forall_eq_or_imp,forall_eq] at this
 obtain ⟨_,h2,h3,h4,_⟩:=this
 obtain ⟨_,ha,hb,_⟩:=q0z h2
 have e1:=qe9.1 h3
 have e2:=qe9.1 h4
 exact ⟨⟨ha.1,ha.2,e1.1,e1.2⟩,⟨hb.1,hb.2,e2.1,e2.2⟩⟩
theorem q6u {p:qc}:f22 p=some (qao p):=by
 unfold f22
 simp only [q38,qcy,qv8,q4l,qj]
 rw [qnz (by simp),qj]
 show cond (decide (qd0 p=0)) _ (some (qd0 p))=_
 unfold qao
 by_cases h:qd0 p=0
 ·rw [decide_eq_true h,cond_true,if_pos h,qsr (qp4 h),qj,q5b (by have:=qdj (p:=p) (c:=false); omega),qj,
   qwc (by rw [qbq,List.length_map]; have:=qdj (p:=p) (c:=false); omega),qj,qbq]
 ·rw [decide_eq_false h,if_neg h]; rfl
theorem q4g {α:Type} {l:List α} {i:Nat} {x:α} (hx:l[i]?=some x):qmj (some l) (some (i:Int)) (some ((i + 1:Nat):Int))=some (some [x]):=by
 have hi:=(List.getElem?_eq_some_iff.1 hx).1
 unfold qmj q06 qhx
 simp only [Option.getD_some]
 rw [if_pos ⟨by omega,by omega⟩]
 simp only [Int.toNat_natCast]
 rw [if_pos ⟨by omega,by omega⟩]
 simp only [Option.map_some,Int.toNat_natCast]
 rw [List.drop_take,show i + 1 - i=1 by omega,ko hx]
 rfl
theorem q1w {l:List Int}:(l.all fun x=>decide (x=0))=decide (j5 l=0):=by
 induction l with
 | nil=>rfl
 | cons x l ih=>
  rw [List.all_cons,ih]
  show _=decide ((if x=0 then j5 l else x)=0)
  by_cases h:x=0 <;> simp [h]
theorem q8w {p:qc}:f20 p=some (qao p):=by
 unfold f20
 simp only [q5i,q4d,qv1,q0n,qj,Option.getD_some,qh0]
 rw [qnn (by simp),qj]
 show cond (decide (qd0 p=0)) _ (some (qd0 p))=_
 unfold qao
 by_cases h:qd0 p=0
 ·rw [decide_eq_true h,cond_true,if_pos h,qpy (qp4 h),qj]
  have hv:=qdj (p:=p) (c:=false)
  obtain ⟨d,g1,g2⟩:=qar (za p false) (qjc (some (za p false),true)) (fun x=>decide (yw x=0)) (fun d=>match d with | .inl _=>false | .inr _=>true) ⟨.inr _,by unfold qjc; simp only [Option.getD_some]; rw [zb]; rfl,rfl⟩ (fun i x hx hi=>by
   unfold qjc
   simp only [Option.getD_some]
   rw [zt hi,cond_true,jt hi (by omega),q4g hx,qj,qv1,qj,Option.getD_some,qh0]
   by_cases he:yw x=0
   ·exact .inl ⟨by simp [he],by rw [decide_eq_true he]; rfl⟩
   ·exact .inr ⟨by simp [he],.inl (),by rw [decide_eq_false he]; rfl,rfl⟩)
  rw [g1,qj]
  have e:(za p false).all (fun x=>decide (yw x=0))=decide (j5 ((za p false).map yw)=0):=by
   rw [← q1w,List.all_map]; rfl
  rw [e] at g2
  rw [← g2]
  cases d <;> rfl
 ·rw [decide_eq_false h,if_neg h]; rfl
def qk2:List (List UInt8)→List qc→Int
 | _,[]=>0
 | seen,p::l=>if j5 [qao p,kg (decide (p.name∈seen)) 9]=0 then qk2 (seen++[p.name]) l else j5 [qao p,kg (decide (p.name∈seen)) 9]
def qbw (l:List qc):Int:=if 6 < l.length then 5 else qk2 [] l
theorem qq7 {l:List qc} {i:Nat} {p:qc} (hp:l[i]?=some p):(l.take (i + 1)).map (·.name)=(l.take i).map (·.name)++[p.name]:=by
 obtain ⟨hi,rfl⟩:=List.getElem?_eq_some_iff.1 hp
 rw [List.take_add_one,List.getElem?_eq_getElem hi,List.map_append]
 rfl
theorem qto {o:Option (List qc)}:f23 o=some (qbw (o.getD [])):=by
 unfold f23 qbw
 by_cases h6:(6:Int) < ((o.getD []).length:Int)
 ·rw [decide_eq_true h6,if_pos (by omega)]; rfl
 ·rw [decide_eq_false h6,if_neg (by omega),cond_false]
  generalize hl:o.getD []=l at h6 ⊢
  obtain ⟨d,g1,g2⟩:=qef l.length (fun i=>((i:Int),(l.take i).map (·.name))) (qg5 o) (fun d=>match d with | .inl x=>x.1 | .inr _=>0) (fun i=>qk2 ((l.take i).map (·.name)) (l.drop i)) ⟨.inr _,by unfold qg5; simp only [hl]; rw [zb]; rfl,by rw [List.drop_eq_nil_of_le (Nat.le_refl _)]; rfl⟩ (fun i hi=>by
   obtain ⟨p,hp⟩:∃ p,l[i]?=some p:=⟨_,List.getElem?_eq_getElem hi⟩
   unfold qg5
   simp only [hl]
   rw [zt hi,cond_true,j7 hp,qj,q6u,qj,qcy,qj,qnz (by simp),qj,jt hi (by omega),ko hp]
   simp only [qk2]
   rw [show qga (List.map (·.name) (List.take i l)) p.name=decide (p.name∈(l.take i).map (·.name)) from rfl]
   by_cases he:j5 [qao p,kg (decide (p.name∈(l.take i).map (·.name))) 9]=0
   ·left
    rw [decide_eq_true he,cond_true,if_pos he,qq7 hp]
    refine ⟨?_,rfl⟩
    have hn:decide (p.name∈(l.take i).map (·.name))=false:=by
     cases hm:decide (p.name∈(l.take i).map (·.name)) with
     | false=>rfl
     | true=>
      rw [hm] at he
      have:=qbl.1 he (kg true 9) (by simp)
      cases this
    have ha:qnk ((l.take i).map (·.name)) p.name=some ((l.take i).map (·.name)++[p.name]):=by
     unfold qnk qga
     rw [hn]
     simp only [Bool.false_eq_true,if_false]
     rw [if_pos (by rw [List.length_map,List.length_take]; omega)]
    rw [ha]; rfl
   ·right
    rw [decide_eq_false he,cond_false,if_neg he]
    exact ⟨_,rfl,rfl⟩)
  have g1:itO (qg5 o) (0,[])=some d:=g1
  rw [g1,qj]
  simp only [List.take_zero,List.map_nil,List.drop_zero] at g2
  rw [← g2]
  cases d <;> rfl
theorem q6y {o:Option (List qc)}:f25 o=some (qbw (o.getD [])):=by
 unfold f25 qbw
 by_cases h6:(6:Int) < ((o.getD []).length:Int)
 ·rw [decide_eq_true h6,if_pos (by omega)]; rfl
 ·rw [decide_eq_false h6,if_neg (by omega),cond_false]
  generalize hl:o.getD []=l at h6 ⊢
  obtain ⟨d,g1,g2⟩:=qef l.length (fun i=>(i:Int)) (qhf o) (fun d=>match d with | .inl x=>x | .inr _=>0) (fun i=>qk2 ((l.take i).map (·.name)) (l.drop i)) ⟨.inr _,by unfold qhf; simp only [hl]; rw [zb]; rfl,by rw [List.drop_eq_nil_of_le (Nat.le_refl _)]; rfl⟩ (fun i hi=>by
   obtain ⟨p,hp⟩:∃ p,l[i]?=some p:=⟨_,List.getElem?_eq_getElem hi⟩
   unfold qhf
   simp only [hl]
   rw [zt hi,cond_true,j7 hp,qj,q8w,qj,jt hi (by omega),ko hp]
   simp only [qk2,j5]
   by_cases he:qao p=0
   ·rw [decide_eq_true he,cond_true]
    have hti:(l.take i).length=i:=by rw [List.length_take]; omega
    obtain ⟨d,k1,k2⟩:=qar (l.take i) (qjp o (i:Int)) (fun x=>!decide (x.name=p.name)) (fun d=>match d with | .inl _=>false | .inr _=>true) ⟨.inr _,by unfold qjp; rw [hti,zb]; rfl,rfl⟩ (fun k x hx hk=>by
     have hki:k < i:=by omega
     have hxl:l[k]?=some x:=by rw [List.getElem?_take,if_pos hki] at hx; exact hx
     unfold qjp
     simp only [hl]
     rw [decide_eq_true (show (k:Int) < (i:Int) by omega),cond_true,j7 hxl,qj,j7 hp,qj,jt hki (by omega)]
     by_cases hxn:x.name=p.name
     ·exact .inr ⟨by simp [hxn],.inl (),by rw [decide_eq_true hxn]; rfl,rfl⟩
     ·exact .inl ⟨by simp [hxn],by rw [decide_eq_false hxn]; rfl⟩)
    rw [k1,qj]
    have hmem:decide (p.name∈(l.take i).map (·.name))=!((l.take i).all fun x=>!decide (x.name=p.name)):=by
     rw [Bool.eq_iff_iff]
     simp only [decide_eq_true_eq,List.mem_map,Bool.not_eq_true',List.all_eq_false,Bool.not_eq_true',Bool.not_eq_false]
    rw [hmem,← k2]
    cases d with
    | inl d=>right; exact ⟨_,rfl,by simp [he,kg]⟩
    | inr d=>left; refine ⟨rfl,?_⟩; simp only [he,if_true,Bool.not_true,kg,Bool.false_eq_true,if_false]; rw [qq7 hp]
   ·right
    rw [decide_eq_false he,cond_false]
    exact ⟨_,rfl,by simp [he]⟩)
  have g1:itO (qhf o) 0=some d:=g1
  rw [g1,qj]
  simp only [List.take_zero,List.map_nil,List.drop_zero] at g2
  rw [← g2]
  cases d <;> rfl
theorem qtf {p:qc} (h:qao p=0):okP p:=by
 refine qp4 ?_
 unfold qao at h
 by_cases hA:qd0 p=0
 ·exact hA
 ·rw [if_neg hA] at h; exact h
def ql0 (l:List qc):Bool:=(decide (l.length≤4) || decide (l.length=7)) && l.all fun p=>decide (p.name.length≤60) && decide (p.kd.length≤60)
theorem qx0 {n:Int} {p:qc} {A B:Option (Int ⊕ (Unit ⊕ Int))} (hA:A=B):
  ((decide (p.name.length≤60) && decide (p.kd.length≤60))=true∧cond (decide (60 < (p.name.length:Int))) (some (.inr (.inl ()))) (cond (decide (60 < (p.kd.length:Int))) (some (.inr (.inl ()))) A)=B) ∨
  ((decide (p.name.length≤60) && decide (p.kd.length≤60))=false∧∃ d:Unit ⊕ Int,cond (decide (60 < (p.name.length:Int))) (some (.inr (.inl ()))) (cond (decide (60 < (p.kd.length:Int))) (some (.inr (.inl ()))) A)=some (.inr d)∧(match d with | .inl _=>false | .inr _=>true)=false):=by
 subst hA
 by_cases h1:p.name.length≤60
 ·have e1:decide (60 < (p.name.length:Int))=false:=decide_eq_false (by omega)
  by_cases h2:p.kd.length≤60
  ·have e2:decide (60 < (p.kd.length:Int))=false:=decide_eq_false (by omega)
   left
   rw [decide_eq_true h1,decide_eq_true h2,e1,e2]
   exact ⟨rfl,rfl⟩
  ·have e2:decide (60 < (p.kd.length:Int))=true:=decide_eq_true (by omega)
   right
   rw [decide_eq_false h2,e1,e2]
   exact ⟨by simp,.inl (),rfl,rfl⟩
 ·have e1:decide (60 < (p.name.length:Int))=true:=decide_eq_true (by omega)
  right
  rw [decide_eq_false h1,e1]
  exact ⟨by simp,.inl (),rfl,rfl⟩
theorem q78 {o:Option (List qc)}:f17 o=some (ql0 (o.getD [])):=by
 unfold f17 ql0
 generalize hl:o.getD []=l
 have hs:l.length≤7→∃ d,itO (qfd o) 0=some d∧(match d with | .inl _=>false | .inr _=>true)=l.all fun p=>decide (p.name.length≤60) && decide (p.kd.length≤60):=fun hn=>
  qar l (qfd o) _ (fun d=>match d with | .inl _=>false | .inr _=>true) ⟨.inr _,by unfold qfd; simp only [hl]; rw [zb]; rfl,rfl⟩ (fun i x hx hi=>by
   unfold qfd
   simp only [hl]
   rw [zt hi,cond_true,j7 hx,qj,jt hi (by omega)]
   exact qx0 (n:=0) rfl)
 have hb:qlm o=qfd o:=rfl
 by_cases h4:(4:Int) < (l.length:Int)
 ·rw [decide_eq_true h4,cond_true,decide_eq_false (show ¬ l.length≤4 by omega)]
  by_cases h7:(l.length:Int)=7
  ·obtain ⟨d,g1,g2⟩:=hs (by omega)
   rw [decide_eq_true h7,cond_true,decide_eq_true (show l.length=7 by omega),g1,qj,← g2]
   cases d <;> rfl
  ·rw [decide_eq_false h7,decide_eq_false (show ¬ l.length=7 by omega)]; rfl
 ·obtain ⟨d,g1,g2⟩:=hs (by omega)
  rw [decide_eq_false h4,cond_false,decide_eq_true (show l.length≤4 by omega),hb,g1,qj,← g2]
  cases d <;> rfl
theorem q8c {o:Option (List qc)} (hn:(o.getD []).length≤1073741824):f24 o=some (j0 (o.getD []),yu (o.getD [])):=by
 unfold f24
 rw [qmm (o.getD []) (qka o) id hn (fun a=>by unfold qka; rw [zb]; rfl) (fun i x a hx hi ha=>by
  unfold qka
  rw [zt hi,cond_true,j7 hx,qj,show f19 x=some x from rfl,qj,qbk ha,jt hi (by omega)]; rfl),qj,List.map_id]
end Go.Z
