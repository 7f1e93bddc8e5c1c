/- Loops as plain functions of their lists. -/
import Derived.Test.YtnjngdcbkkonnaaGreatDoorA1
set_option linter.unusedVariables false
set_option linter.unusedSimpArgs false
set_option maxRecDepth 100000
namespace Go.Z
open Go Go.Abs
theorem qgb {σ δ γ:Type} (n:Nat) (mk:Nat→σ) (f:σ→Option (σ ⊕ δ)) (V:δ→γ) (r:Nat→γ) (hend:∃ d,f (mk n)=some (.inr d)∧V d=r n)
  (hstep:∀ i,i < n→(f (mk i)=some (.inl (mk (i + 1)))∧r i=r (i + 1))∨(∃ d,f (mk i)=some (.inr d)∧V d=r i)):∃ d,itO f (mk 0)=some d∧V d=r 0:=by
 have key:∀ (k i:Nat),i + k=n→∃ d,itO f (mk i)=some d∧V d=r i:=by
  intro k
  induction k with
  | zero=>
   intro i hi
   have:i=n:=by omega
   subst this
   obtain ⟨d,h1,h2⟩:=hend
   exact ⟨d,qal h1,h2⟩
  | succ k ih=>
   intro i hi
   rcases hstep i (by omega) with ⟨h1,h2⟩ | ⟨d,h1,h2⟩
   ·rw [qcp h1,h2]; exact ih (i + 1) (by omega)
   ·exact ⟨d,qal h1,h2⟩
 exact key n 0 (by omega)
theorem qyq {α:Type} {l:List α} {q:α→Int} {i:Nat} {x:α} (hx:l[i]?=some x):js ((l.drop i).map q)=if q x=0 then js ((l.drop (i + 1)).map q) else q x:=by
 rw [qab hx]; rfl
theorem qj8 {α δ:Type} (l:List α) (f:Int→Option (Int ⊕ δ)) (q:α→Int) (V:δ→Int) (hend:∃ d,f (l.length:Int)=some (.inr d)∧V d=0)
  (hstep:∀ (i:Nat) x,l[i]?=some x→i < l.length→(q x=0∧f (i:Int)=some (.inl ((i + 1:Nat):Int)))∨(q x ≠ 0∧∃ d,f (i:Int)=some (.inr d)∧V d=q x)):∃ d,itO f 0=some d∧V d=js (l.map q):=by
 have:=qgb l.length (fun i=>(i:Int)) f V (fun i=>js ((l.drop i).map q)) (by rw [List.drop_eq_nil_of_le (Nat.le_refl _)]; exact hend) (fun i hi=>by
  obtain ⟨x,hx⟩:∃ x,l[i]?=some x:=⟨_,List.getElem?_eq_getElem hi⟩
  simp only [qyq hx]
  rcases hstep i x hx hi with ⟨h1,h2⟩ | ⟨h1,h2⟩
  ·rw [if_pos h1]; exact .inl ⟨h2,rfl⟩
  ·rw [if_neg h1]; exact .inr h2)
 simpa using this
theorem qfa {α δ:Type} (l:List α) (f:Int→Option (Int ⊕ δ)) (q:α→Bool) (V:δ→Bool) (hend:∃ d,f (l.length:Int)=some (.inr d)∧V d=true)
  (hstep:∀ (i:Nat) x,l[i]?=some x→i < l.length→(q x=true∧f (i:Int)=some (.inl ((i + 1:Nat):Int)))∨(q x=false∧∃ d,f (i:Int)=some (.inr d)∧V d=false)):∃ d,itO f 0=some d∧V d=l.all q:=by
 have:=qgb l.length (fun i=>(i:Int)) f V (fun i=>(l.drop i).all q) (by rw [List.drop_eq_nil_of_le (Nat.le_refl _)]; exact hend) (fun i hi=>by
  obtain ⟨x,hx⟩:∃ x,l[i]?=some x:=⟨_,List.getElem?_eq_getElem hi⟩
  simp only [qab hx,List.all_cons]
  rcases hstep i x hx hi with ⟨h1,h2⟩ | ⟨h1,h2⟩
  ·rw [h1]; exact .inl ⟨h2,rfl⟩
  ·rw [h1]; exact .inr h2)
 simpa using this
theorem qci {α β:Type} (l:List α) (ix:Nat→Int) (f:Option (List β) × Int × Bool→Option ((Option (List β) × Int × Bool) ⊕ (Option (List β) × Bool × Int))) (h:α→List β) (a0:List β) (I:Nat→List β→Prop) (hI:I 0 a0)
  (hend:∀ a,f (qt a,ix l.length,yw a)=some (.inr (qt a,yw a,ix l.length)))
  (hstep:∀ (i:Nat) x a,l[i]?=some x→i < l.length→I i a→I (i + 1) (a++h x)∧f (qt a,ix i,yw a)=some (.inl (qt (a++h x),ix (i + 1),yw (a++h x)))):
  itO f (qt a0,ix 0,yw a0)=some (qt (a0++l.flatMap h),yw (a0++l.flatMap h),ix l.length):=by
 have key:∀ (k i:Nat),i + k=l.length→∀ a,I i a→itO f (qt a,ix i,yw a)=some (qt (a++(l.drop i).flatMap h),yw (a++(l.drop i).flatMap h),ix l.length):=by
  intro k
  induction k with
  | zero=>
   intro i hi a _
   have:i=l.length:=by omega
   subst this
   rw [List.drop_eq_nil_of_le (Nat.le_refl _),List.flatMap_nil,List.append_nil,qal (hend a)]
  | succ k ih=>
   intro i hi a ha
   obtain ⟨x,hx⟩:∃ x,l[i]?=some x:=⟨_,List.getElem?_eq_getElem (by omega)⟩
   obtain ⟨h1,h2⟩:=hstep i x a hx (by omega) ha
   rw [qcp h2,ih (i + 1) (by omega) _ h1,qab hx,List.flatMap_cons,List.append_assoc]
 have:=key l.length 0 (by omega) a0 hI
 rwa [List.drop_zero] at this
theorem qr1 {α:Type} {a:List α} {x:α} (h:a.length < 1073741824):apO (qt a) [x]=some (qt (a++[x])):=by
 unfold apO
 cases a with
 | nil=>rfl
 | cons y a=>
  have:((qt (y::a)).getD []).length + [x].length≤1073741824:=by simp [qt] at h ⊢; omega
  rw [if_pos this]; rfl
theorem qch {α γ:Type} {a:List α} {x:α} {k:Option (List α)→Option γ} (h:a.length < 1073741824):cond (yw a) (qe (apO (qt a) [x]) k) (cond (qt a).isNone (qe (apO (qt a) [x]) k) none)=k (qt (a++[x])):=by
 rw [qr1 h]
 cases a <;> rfl
theorem zi {α:Type} (a:List α):(qt a).getD []=a:=by cases a <;> rfl
theorem qbk {α β:Type} (h:α→β):∀ l:List α,l.flatMap (fun x=>[h x])=l.map h
 | []=>rfl
 | x::l=>by rw [List.flatMap_cons,qbk h l]; rfl
theorem qku {α β:Type} (l:List α) (f:Option (List β) × Int × Bool→Option ((Option (List β) × Int × Bool) ⊕ (Option (List β) × Bool × Int))) (h:α→β) (hl:l.length≤1073741824)
  (hend:∀ a:Option (List β) × Bool,f (a.1,(l.length:Int),a.2)=some (.inr (a.1,a.2,(l.length:Int))))
  (hstep:∀ (i:Nat) x (a:List β),l[i]?=some x→i < l.length→a.length < 1073741824→f (qt a,(i:Int),yw a)=some (.inl (qt (a++[h x]),((i + 1:Nat):Int),true))):
  itO f (none,0,false)=some (qt (l.map h),yw (l.map h),(l.length:Int)):=by
 have:=qci l (fun i=>(i:Int)) f (fun x=>[h x]) [] (fun i a=>a.length=i) rfl (fun a=>hend (qt a,yw a)) (fun i x a hx hi ha=>⟨by simp [ha],by rw [hstep i x a hx hi (by omega),qgh]⟩)
 rw [qbk,List.nil_append] at this
 exact this
theorem yk {α:Type} {l:List α} {i:Nat} {x:α} (hx:l[i]?=some x):zw l (i:Int)=some x:=by rw [qfm,hx]
theorem yu {α:Type} {l:List α} {i:Nat} (h:i < l.length):decide ((i:Int) < (l.length:Int))=true:=decide_eq_true (by omega)
theorem yg {n:Nat}:decide ((n:Int) < (n:Int))=false:=decide_eq_false (by omega)
set_option maxHeartbeats 1000000
theorem qcw {b:Bool} {e:Int}:f106 b e=some (kg b e):=by cases b <;> rfl
theorem qtj {b:Bool} {e:Int}:f194 b e=some (kg b e):=by cases b <;> rfl
theorem q0y {b:Bool} {e:Int}:f101 b e=some (kg b e):=by cases b <;> rfl
theorem q00 {o:Option (List Int)} (hn:(o.getD []).length≤9223372036854775807):f105 o=some (js (o.getD [])):=by
 obtain ⟨d,h1,h2⟩:=qj8 (o.getD []) (qia o) id (fun d=>match d with | .inl x=>x | .inr _=>0) ⟨.inr _,by unfold qia; rw [yg]; rfl,rfl⟩ (fun i x hx hi=>by
  unfold qia
  rw [yu hi,cond_true,yk hx,qd]
  by_cases h:x=0
  ·refine .inl ⟨h,?_⟩
   rw [decide_eq_true h,cond_true,ze hi hn]
  ·refine .inr ⟨h,.inl x,?_,rfl⟩
   rw [decide_eq_false h,cond_false])
 unfold f105
 rw [h1,qd]
 rw [List.map_id] at h2
 rw [← h2]
 cases d <;> rfl
theorem qda {l:List Int} (hn:l.length≤100):f105 (some l)=some (js l):=q00 (o:=some l) (by simp only [Option.getD_some]; omega)
theorem jbs {o:Option (List Int)} (hn:(o.getD []).length≤9223372036854775807):f171 o=some (js (o.getD [])):=by
 obtain ⟨d,h1,h2⟩:=qj8 (o.getD []) (qh7 o) id (fun d=>match d with | .inl x=>x | .inr _=>0) ⟨.inr _,by unfold qh7; rw [yg]; rfl,rfl⟩ (fun i x hx hi=>by
  unfold qh7
  rw [yu hi,cond_true,yk hx,qd]
  by_cases h:x=0
  ·refine .inl ⟨h,?_⟩
   rw [decide_eq_true h,cond_true,ze hi hn]
  ·refine .inr ⟨h,.inl x,?_,rfl⟩
   rw [decide_eq_false h,cond_false])
 unfold f171
 rw [h1,qd]
 rw [List.map_id] at h2
 rw [← h2]
 cases d <;> rfl
theorem qde {l:List Int} (hn:l.length≤100):f171 (some l)=some (js l):=jbs (o:=some l) (by simp only [Option.getD_some]; omega)
theorem ja7 {o:Option (List Int)} (hn:(o.getD []).length≤9223372036854775807):f100 o=some (js (o.getD [])):=by
 obtain ⟨d,h1,h2⟩:=qj8 (o.getD []) (qid o) id (fun d=>match d with | .inl x=>x | .inr _=>0) ⟨.inr _,by unfold qid; rw [yg]; rfl,rfl⟩ (fun i x hx hi=>by
  unfold qid
  rw [yu hi,cond_true,yk hx,qd]
  by_cases h:x=0
  ·refine .inl ⟨h,?_⟩
   rw [decide_eq_true h,cond_true,ze hi hn]
  ·refine .inr ⟨h,.inl x,?_,rfl⟩
   rw [decide_eq_false h,cond_false])
 unfold f100
 rw [h1,qd]
 rw [List.map_id] at h2
 rw [← h2]
 cases d <;> rfl
theorem qir {l:List Int} (hn:l.length≤100):f100 (some l)=some (js l):=ja7 (o:=some l) (by simp only [Option.getD_some]; omega)
theorem qo4 {n lo hi:Int}:f109 n lo hi=some (jd n lo hi):=by
 unfold f109 jd
 by_cases h:n < lo
 ·simp only [h,decide_true,cond_true,qcw,qd,kg,if_true]
 ·by_cases h2:hi < n <;> simp [h,h2,qcw,kg]
theorem q02 {n lo hi:Int}:f195 n lo hi=some (jd n lo hi):=by
 unfold f195 jd
 by_cases h:n < lo
 ·simp only [h,decide_true,cond_true,qtj,qd,kg,if_true]
 ·by_cases h2:hi < n <;> simp [h,h2,qtj,kg]
theorem qnu {n lo hi:Int}:f40 n lo hi=some (jd n lo hi):=by
 unfold f40 jd
 by_cases h:n < lo
 ·simp [h]
 ·by_cases h2:hi < n <;> simp [h,h2]
theorem q9v {w:Int}:f172 w=some (jd w 1 8):=by unfold f172; rw [q02]; rfl
theorem qz7 {w:Int}:f122 w=some (jd w 1 8):=by unfold f122; rw [qo4]; rfl
theorem zr:∀ {l:List Int},js l=0↔∀ x∈l,x=0
 | []=>by simp [js]
 | x::l=>by
  simp only [js,List.mem_cons,forall_eq_or_imp]
  by_cases h:x=0
  ·rw [if_pos h,zr]; simp [h]
  ·rw [if_neg h]; simp [h]
theorem qn9 {s:List UInt8} {i:Nat} {c:UInt8} (hc:s[i]?=some c):qhr i (s.drop i)=(qmi i c.toNat && qhr (i + 1) (s.drop (i + 1))):=by
 rw [qab hc]; rfl
theorem jae {s:List UInt8}:f102 s=some (qof s):=by
 unfold f102 qof
 by_cases h0:s=[]
 ·subst h0; rfl
 have hl:¬ ((s.length:Int)=0):=by
  intro h
  exact h0 (List.eq_nil_of_length_eq_zero (by omega))
 by_cases h1:(24:Int) < s.length
 ·have h2:¬ s.length≤24:=by omega
  simp [hl,h0,h1,h2]
 ·have h2:s.length≤24:=by omega
  obtain ⟨d,g1,g2⟩:=qgb s.length (fun i=>(i:Int)) (qf8 s) (fun d=>match d with | .inl _=>false | .inr _=>true) (fun i=>qhr i (s.drop i)) ⟨.inr _,by unfold qf8; rw [yg]; rfl,by rw [List.drop_eq_nil_of_le (Nat.le_refl _)]; rfl⟩ (fun i hi=>by
   obtain ⟨c,hc⟩:∃ c,s[i]?=some c:=⟨_,List.getElem?_eq_getElem hi⟩
   unfold qf8
   rw [qn9 hc,yu hi,cond_true,yk hc,qd]
   simp only [ze hi (show s.length≤9223372036854775807 by omega)]
   unfold qmi
   have hx:0≤(c.toNat:Int):=by omega
   generalize (c.toNat:Int)=x at hx ⊢
   by_cases z:i=0
   ·subst z
    rcases kinds x with h | h | h | h | h | h | h | h | h <;>
     simp (disch:=omega) only [decide_eq_true,decide_eq_false,cond_true,cond_false,Bool.or_false,Bool.false_or,Bool.true_or,Bool.and_true,Bool.true_and,Bool.false_and] <;>
     first
      | exact .inl ⟨trivial,trivial⟩
      | exact .inl ⟨rfl,trivial⟩
      | exact .inl ⟨rfl,rfl⟩
      | exact .inr ⟨_,rfl,rfl⟩
   ·rcases kinds x with h | h | h | h | h | h | h | h | h <;>
     simp (disch:=omega) only [decide_eq_true,decide_eq_false,cond_true,cond_false,Bool.or_false,Bool.or_true,Bool.false_or,Bool.true_or,Bool.and_true,Bool.true_and,Bool.false_and] <;>
     first
      | exact .inl ⟨trivial,trivial⟩
      | exact .inl ⟨rfl,trivial⟩
      | exact .inl ⟨rfl,rfl⟩
      | exact .inr ⟨_,rfl,rfl⟩)
  have g1:itO (qf8 s) 0=some d:=g1
  rw [decide_eq_false hl,cond_false,decide_eq_false h1,cond_false,g1,qd]
  simp only [h0,h2,ne_eq,not_false_eq_true,decide_true,Bool.true_and]
  rw [List.drop_zero] at g2
  rw [← g2]
  cases d <;> rfl
theorem qso {s:List UInt8} {i:Nat} {c:UInt8} (hc:s[i]?=some c):(c.toNat < 128∧qn s i=(c.toNat,1))∨(128≤c.toNat∧128≤(qn s i).1):=by
 by_cases h:c.toNat < 128
 ·exact .inl ⟨h,q5p hc h⟩
 ·exact .inr ⟨by omega,q33 hc h⟩
theorem qt0 {i:Nat} {x:Int} (h:128≤x):qmi i x=false:=by
 unfold qmi
 simp (disch:=omega) only [decide_eq_false,Bool.or_self,Bool.and_false]
def jni:Nat→Option Nat
 | 0=>none
 | i + 1=>some (i + 1)
theorem q93 {s:List UInt8}:f107 s=some (qof s):=by
 unfold f107
 obtain ⟨d,g1,g2⟩:=qgb s.length jni (qn6 s) (fun d=>match d with | .inl _=>false | .inr _=>true) (fun i=>qhr i (s.drop i)) (by
   rw [List.drop_eq_nil_of_le (Nat.le_refl _)]
   cases hn:s.length with
   | zero=>
    refine ⟨.inr 0,?_,rfl⟩
    show qea s=_
    unfold qea
    rw [hn]; rfl
   | succ n=>
    refine ⟨.inr (n + 1),?_,rfl⟩
    show qeb s (n + 1)=_
    unfold qeb
    rw [hn,decide_eq_false (by omega)]; rfl) (fun i hi=>by
   obtain ⟨c,hc⟩:∃ c,s[i]?=some c:=⟨_,List.getElem?_eq_getElem hi⟩
   rw [qn9 hc]
   cases i with
   | zero=>
    show (qea s=_∧_)∨(∃ d,qea s=_∧_)
    unfold qea
    rw [decide_eq_true hi,cond_true]
    rcases qso hc with ⟨hlt,he⟩ | ⟨hge,hr⟩
    ·rw [he]
     simp only []
     have hx:0≤(c.toNat:Int):=by omega
     unfold qmi
     generalize (c.toNat:Int)=x at hx ⊢
     rcases kinds x with h | h | h | h | h | h | h | h | h <;>
      simp (disch:=omega) only [decide_eq_true,decide_eq_false,cond_true,cond_false,Bool.or_false,Bool.false_or,Bool.true_or,Bool.and_true,Bool.true_and,Bool.false_and] <;>
      first
       | exact .inl ⟨trivial,trivial⟩
       | exact .inl ⟨rfl,trivial⟩
       | exact .inl ⟨rfl,rfl⟩
       | exact .inr ⟨_,rfl,rfl⟩
    ·rw [qt0 (by omega)]
     generalize hd:qn s 0=dd at hr ⊢
     have hr':(128:Int)≤(dd.1:Int):=by omega
     generalize (dd.1:Int)=x at hr' ⊢
     simp (disch:=omega) only [decide_eq_true,decide_eq_false,cond_true,cond_false,Bool.false_and]
     exact .inr ⟨_,rfl,rfl⟩
   | succ i=>
    show (qeb s (i + 1)=_∧_)∨(∃ d,qeb s (i + 1)=_∧_)
    unfold qeb
    rw [decide_eq_true hi,cond_true]
    rcases qso hc with ⟨hlt,he⟩ | ⟨hge,hr⟩
    ·rw [he]
     simp only []
     have hx:0≤(c.toNat:Int):=by omega
     unfold qmi
     generalize (c.toNat:Int)=x at hx ⊢
     have e0:decide (((i + 1:Nat):Int)=0)=false:=decide_eq_false (by omega)
     rcases kinds x with h | h | h | h | h | h | h | h | h <;>
      simp (disch:=omega) only [e0,decide_eq_true,decide_eq_false,cond_true,cond_false,Bool.or_false,Bool.or_true,Bool.false_or,Bool.true_or,Bool.and_true,Bool.true_and,Bool.false_and] <;>
      first
       | exact .inl ⟨trivial,trivial⟩
       | exact .inl ⟨rfl,trivial⟩
       | exact .inl ⟨rfl,rfl⟩
       | exact .inr ⟨_,rfl,rfl⟩
    ·rw [qt0 (by omega)]
     generalize hd:qn s (i + 1)=dd at hr ⊢
     have hr':(128:Int)≤(dd.1:Int):=by omega
     have e0:decide (((i + 1:Nat):Int)=0)=false:=decide_eq_false (by omega)
     generalize (dd.1:Int)=x at hr' ⊢
     simp (disch:=omega) only [e0,decide_eq_true,decide_eq_false,cond_true,cond_false,Bool.false_and]
     exact .inr ⟨_,rfl,rfl⟩)
 have g1:itO (qn6 s) none=some d:=g1
 rw [g1,qd]
 unfold qof
 rw [List.drop_zero] at g2
 cases d with
 | inl d=>simp only [] at g2; rw [← g2]; simp
 | inr d=>
  simp only [] at g2
  rw [← g2]
  by_cases h0:s=[]
  ·subst h0; rfl
  ·have e:decide ((s.length:Int)≤24)=decide (s.length≤24):=by by_cases h:s.length≤24 <;> simp [h] <;> omega
   rw [e]
   simp [h0]
def kB:List UInt8:=[98,108,111,99,107]
def kSe:List UInt8:=[115,101,114,105,101,115]
def kSh:List UInt8:=[115,104,117,110,116]
def kT:List UInt8:=[116,114,97,112]
def isK (s:List UInt8):Bool:=decide (s=kB) || decide (s=kSe) || decide (s=kSh) || decide (s=kT)
def k8 (s:List UInt8):Bool:=decide (s=kB) || decide (s=kT)
def kc (x:GEl):Int:=js [kg (!isK x.kind) 13,jd x.a 0 8,jd x.b 0 8,kg (k8 x.kind && decide (x.a=0) && decide (x.b=0)) 6]
def zy (l:List GEl):Int:=if 5 < l.length then 5 else js (l.map kc)
theorem qdb {δ:Type} {F q:Int} {A B:Option (Int ⊕ δ)} {d:δ} {V:δ→Int} (hF:F=q) (hA:A=B) (hV:V d=F):(q=0∧cond (decide (F=0)) A (some (.inr d))=B)∨(q ≠ 0∧∃ d',cond (decide (F=0)) A (some (.inr d))=some (.inr d')∧V d'=q):=by
 subst hF
 by_cases h:F=0
 ·exact .inl ⟨h,by rw [decide_eq_true h]; exact hA⟩
 ·exact .inr ⟨h,d,by rw [decide_eq_false h]; rfl,hV⟩
theorem q04 {o:Option (List GEl)}:f158 o=some (zy (o.getD [])):=by
 unfold f158 zy
 by_cases h5:(5:Int) < ((o.getD []).length:Int)
 ·rw [decide_eq_true h5,if_pos (by omega)]; rfl
 ·rw [decide_eq_false h5,if_neg (by omega),cond_false]
  have hn:(o.getD []).length≤9223372036854775807:=by omega
  obtain ⟨d,g1,g2⟩:=qj8 (o.getD []) (qic o) kc (fun d=>match d with
   | .inl d226=>d226.1
   | .inr (.inl d227)=>d227.1
   | .inr (.inr (.inl d228))=>d228.1
   | .inr (.inr (.inr (.inl d229)))=>d229.1
   | .inr (.inr (.inr (.inr (.inl d230))))=>d230.1
   | .inr (.inr (.inr (.inr (.inr d231))))=>0) ⟨_,by unfold qic; rw [yg]; rfl,rfl⟩ (fun i x hx hi=>by
    unfold qic
    rw [yu hi,cond_true,yk hx,qd,ze hi hn]
    simp only [qtj,q02,qd]
    by_cases k1:x.kind=kB
    ·rw [decide_eq_true (show x.kind=[98,108,111,99,107] from k1),cond_true]
     by_cases ha:x.a=0
     ·rw [decide_eq_true ha,cond_true,qde (by simp),qd]
      exact qdb (by simp [kc,isK,k8,k1,ha]) rfl rfl
     ·rw [decide_eq_false ha,cond_false,qde (by simp),qd]
      exact qdb (by simp [kc,isK,k8,k1,ha]) rfl rfl
    rw [decide_eq_false (show ¬ x.kind=[98,108,111,99,107] from k1),cond_false]
    by_cases k2:x.kind=kSe
    ·rw [decide_eq_true (show x.kind=[115,101,114,105,101,115] from k2),cond_true,qde (by simp),qd]
     exact qdb (by simp [kc,isK,k8,k2,kSe,kB,kT]) rfl rfl
    rw [decide_eq_false (show ¬ x.kind=[115,101,114,105,101,115] from k2),cond_false]
    by_cases k3:x.kind=kSh
    ·rw [decide_eq_true (show x.kind=[115,104,117,110,116] from k3),cond_true,qde (by simp),qd]
     exact qdb (by simp [kc,isK,k8,k3,kSh,kSe,kB,kT]) rfl rfl
    rw [decide_eq_false (show ¬ x.kind=[115,104,117,110,116] from k3),cond_false]
    by_cases k4:x.kind=kT
    ·rw [decide_eq_true (show x.kind=[116,114,97,112] from k4),cond_true]
     by_cases ha:x.a=0
     ·rw [decide_eq_true ha,cond_true,qde (by simp),qd]
      exact qdb (by simp [kc,isK,k8,k4,ha]) rfl rfl
     ·rw [decide_eq_false ha,cond_false,qde (by simp),qd]
      exact qdb (by simp [kc,isK,k8,k4,ha]) rfl rfl
    rw [decide_eq_false (show ¬ x.kind=[116,114,97,112] from k4),cond_false,qde (by simp),qd]
    exact qdb (by simp [kc,isK,k8,k1,k2,k3,k4]) rfl rfl)
  rw [g1,qd,← g2]
  rcases d with d | d | d | d | d | d <;> rfl
theorem qjn {x:GEl}:zy [x]=kc x:=by
 unfold zy
 simp only [List.length_cons,List.length_nil,List.map_cons,List.map_nil,js]
 by_cases h:kc x=0 <;> simp [h]
theorem q0m {x:GEl}:f108 x=some (kc x):=by unfold f108; rw [q04]; simp only [Option.getD_some,qjn]; rfl
theorem q8s {x:GEl}:qvf x=some (kc x):=q0m
theorem jbk {l:List (List UInt8)} {s:List UInt8} (hn:l.length≤100):f191 (some l) s=some (!l.all fun y=>!decide (y=s)):=by
 unfold f191
 obtain ⟨d,g1,g2⟩:=qfa l (qh6 (some l) s) (fun y=>!decide (y=s)) (fun d=>match d with | .inl _=>false | .inr _=>true) ⟨.inr _,by unfold qh6; simp only [Option.getD_some]; rw [yg]; rfl,rfl⟩ (fun i x hx hi=>by
  unfold qh6
  simp only [Option.getD_some]
  rw [yu hi,cond_true,yk hx,qd,ze hi (by omega)]
  by_cases h:x=s
  ·exact .inr ⟨by simp [h],.inl (),by rw [decide_eq_true h]; rfl,rfl⟩
  ·exact .inl ⟨by simp [h],by rw [decide_eq_false h]; rfl⟩)
 rw [g1,qd,← g2]
 cases d <;> rfl
theorem jbj {x:GEl}:f157 x=some (kc x):=by
 unfold f157
 have h192:f192=some (some [kB,kSe,kSh,kT]):=rfl
 rw [h192,qd,jbk (by decide),qd]
 have hk:(!([kB,kSe,kSh,kT].all fun y=>!decide (y=x.kind)))=isK x.kind:=by
  simp only [List.all_cons,List.all_nil,isK,Bool.and_true,Bool.not_and,Bool.not_not,eq_comm (a:=x.kind),Bool.or_assoc]
 rw [hk]
 simp only [qnu,qd]
 unfold kc
 cases hK:isK x.kind with
 | false=>simp [js,kg]
 | true=>
  rw [cond_true,qir (by simp),qd]
  have hd:f55 x.kind=some (k8 x.kind):=by
   unfold f55 k8
   by_cases h:x.kind=kB
   ·rw [decide_eq_true (show x.kind=[98,108,111,99,107] from h),decide_eq_true h]; rfl
   ·rw [decide_eq_false (show ¬ x.kind=[98,108,111,99,107] from h),decide_eq_false h]; rfl
  rw [hd]
  by_cases h1:jd x.a 0 8=0
  ·by_cases h2:jd x.b 0 8=0
   ·simp only [js,h1,h2,if_true,decide_true,cond_true,qd]
    cases hD:k8 x.kind with
    | false=>simp [kg]
    | true=>
     by_cases ha:x.a=0
     ·by_cases hb:x.b=0 <;> simp [kg,ha,hb]
     ·simp [kg,ha]
   ·simp [js,h1,h2,kg]
  ·simp [js,h1,kg]
theorem qz4 {o:Option (List GEl)}:f103 o=some (zy (o.getD [])):=by
 unfold f103 zy
 by_cases h5:(5:Int) < ((o.getD []).length:Int)
 ·rw [decide_eq_true h5,if_pos (by omega)]; rfl
 ·rw [decide_eq_false h5,if_neg (by omega),cond_false]
  have hn:(o.getD []).length≤9223372036854775807:=by omega
  obtain ⟨d,g1,g2⟩:=qj8 (o.getD []) (qio o) kc (fun d=>match d with | .inl x=>x | .inr _=>0) ⟨.inr _,by unfold qio; rw [yg]; rfl,rfl⟩ (fun i x hx hi=>by
   unfold qio
   rw [yu hi,cond_true,yk hx,qd,jbj,qd,ze hi hn]
   exact qdb rfl rfl rfl)
  rw [g1,qd,← g2]
  cases d <;> rfl
def zn (a s:Int) (c:Bool):List Int:=if s=0 then [a] else if c then [a - s,a + s] else [a - 1,a,a + 1]
def okN (a s:Int):Prop:=0≤a∧a≤8∧0≤s∧s≤1
theorem yi {x:Int} (h:-1000000≤x∧x≤1000000):qf .i64 x=x:=by
 exact za (by omega) (by omega)
theorem qdc {a s:Int} (h:okN a s):((zn a s false).length:Int)=2 * s + 1:=by
 obtain ⟨h1,h2,h3,h4⟩:=h
 rcases (show s=0∨s=1 by omega) with rfl | rfl <;> rfl
theorem qkp {a s:Int} (h:okN a s) {i:Nat} {x:Int} (hx:(zn a s false)[i]?=some x):x=a - s + i:=by
 obtain ⟨h1,h2,h3,h4⟩:=h
 rcases (show s=0∨s=1 by omega) with rfl | rfl
 ·match i,hx with
  | 0,hx=>cases hx; omega
 ·match i,hx with
  | 0,hx=>cases hx; omega
  | 1,hx=>cases hx; omega
  | 2,hx=>cases hx; omega
theorem qd9 {a s:Int} {c:Bool}:(zn a s c).length≤3:=by
 unfold zn
 split
 ·simp
 ·split <;> simp
theorem q0i {a s:Int} (h:okN a s):f155 a s=some ⟨a - s,a + s⟩:=by
 obtain ⟨h1,h2,h3,h4⟩:=h
 unfold f155
 rw [yi (by omega),yi (by omega)]
theorem qz5 {a s:Int} {c:Bool} (h:okN a s):f156 ⟨a - s,a + s⟩ c=some (some (zn a s c),true):=by
 have h':=h
 obtain ⟨h1,h2,h3,h4⟩:=h'
 unfold f156
 simp only []
 by_cases hs:s=0
 ·subst hs
  rw [decide_eq_true (by omega)]
  simp [zn]
 ·rw [decide_eq_false (by omega),cond_false]
  cases c with
  | true=>simp [zn,hs]
  | false=>
   rw [cond_false]
   have:=qci (zn a s false) (fun i=>a - s + i) (qhv ⟨a - s,a + s⟩) (fun x=>[x]) [] (fun i l=>l.length=i) rfl (fun l=>by
    unfold qhv
    simp only []
    rw [qdc h,decide_eq_false (by omega)]; rfl) (fun i x l hx hi hl=>by
    have hxi:=qkp h hx
    have:=qdc h
    refine ⟨by simp [hl],?_⟩
    unfold qhv
    simp only []
    rw [decide_eq_true (by omega),cond_true,qch (by omega),yi (by omega),qgh,hxi]
    congr 4
    omega)
   have e0:a - s + ((0:Nat):Int)=a - s:=by omega
   rw [e0] at this
   rw [show (qt ([]:List Int),a - s,yw ([]:List Int))=(none,a - s,false) from rfl] at this
   rw [this,qd,List.nil_append,qbk,List.map_id']
   have hne:zn a s false=[a - 1,a,a + 1]:=by simp [zn,hs]
   rw [hne]; rfl
def yj (p:qi) (c:Bool):List GEl:=(zn p.pa p.sa c).flatMap fun a=>(zn p.pb p.sb c).map fun b=>⟨p.kd,a,b⟩
def okP (p:qi):Prop:=okN p.pa p.sa∧okN p.pb p.sb
theorem qtf {p:qi} {c:Bool}:yj p c ≠ []:=by
 have h:∀ a s,zn a s c ≠ []:=by
  intro a s
  unfold zn
  split
  ·simp
  ·split <;> simp
 unfold yj
 obtain ⟨x,l,hx⟩:∃ x l,zn p.pa p.sa c=x::l:=by
  cases hn:zn p.pa p.sa c with
  | nil=>exact absurd hn (h _ _)
  | cons x l=>exact ⟨x,l,rfl⟩
 obtain ⟨y,m,hy⟩:∃ x l,zn p.pb p.sb c=x::l:=by
  cases hn:zn p.pb p.sb c with
  | nil=>exact absurd hn (h _ _)
  | cons x l=>exact ⟨x,l,rfl⟩
 rw [hx,hy]
 simp
theorem quh {α:Type} {l:List α} (h:l ≠ []):qt l=some l∧yw l=true:=by
 cases l with
 | nil=>exact absurd rfl h
 | cons x l=>exact ⟨rfl,rfl⟩
theorem qfe {p:qi} {c:Bool}:(yj p c).length≤9:=by
 unfold yj
 have h1:=qd9 (a:=p.pa) (s:=p.sa) (c:=c)
 have h2:=qd9 (a:=p.pb) (s:=p.sb) (c:=c)
 generalize zn p.pa p.sa c=l at h1
 generalize zn p.pb p.sb c=m at h2
 have:∀ l:List Int,(l.flatMap fun a=>m.map fun b=>(⟨p.kd,a,b⟩:GEl)).length=l.length * m.length:=by
  intro l
  induction l with
  | nil=>simp
  | cons x l ih=>rw [List.flatMap_cons,List.length_append,ih,List.length_map,List.length_cons,Nat.succ_mul]; omega
 rw [this]
 exact Nat.le_trans (Nat.mul_le_mul h1 h2) (by decide)
theorem q6c {p:qi} {c:Bool} (h:okP p):f99 p c=some (some (yj p c),true):=by
 unfold f99
 rw [q0i h.1,qd,qz5 h.1,qd]
 have:=qci (zn p.pa p.sa c) (fun i=>(i:Int)) (qmp p c (some (zn p.pa p.sa c),true)) (fun a=>(zn p.pb p.sb c).map fun b=>(⟨p.kd,a,b⟩:GEl)) [] (fun i l=>l.length≤3 * i) (by simp) (fun l=>by
  unfold qmp
  simp only [Option.getD_some]
  rw [yg]; rfl) (fun i x l hx hi hl=>by
  have hn:=qd9 (a:=p.pa) (s:=p.sa) (c:=c)
  have hm:=qd9 (a:=p.pb) (s:=p.sb) (c:=c)
  refine ⟨by rw [List.length_append,List.length_map]; omega,?_⟩
  unfold qmp
  simp only [Option.getD_some]
  rw [yu hi,cond_true,yk hx,qd,q0i h.2,qd,qz5 h.2,qd]
  have inner:=qci (zn p.pb p.sb c) (fun j=>(j:Int)) (qmc p c (some (zn p.pa p.sa c),true) (qt l,(i:Int),yw l) x (some (zn p.pb p.sb c),true)) (fun b=>[(⟨p.kd,x,b⟩:GEl)]) l (fun j k=>k.length=l.length + j) (by simp) (fun k=>by
   unfold qmc
   simp only [Option.getD_some]
   rw [yg]; rfl) (fun j y k hy hj hk=>by
   refine ⟨by simp [hk]; omega,?_⟩
   unfold qmc
   simp only [Option.getD_some]
   rw [yu hj,cond_true,yk hy,qd,qch (by omega),ze hj (by omega),qgh])
  rw [qbk] at inner
  rw [show (((0:Nat):Int))=0 from rfl] at inner
  rw [inner,qd,ze hi (by omega)])
 rw [show (qt ([]:List GEl),((0:Nat):Int),yw ([]:List GEl))=(none,0,false) from rfl] at this
 rw [this,qd,List.nil_append]
 obtain ⟨e1,e2⟩:=quh (qtf (p:=p) (c:=c))
 show some (qt (yj p c),yw (yj p c))=_
 rw [e1,e2]
theorem jak {p:qi} (h:okP p):f104 p=some (some (yj p false),true):=by
 obtain ⟨⟨a1,a2,a3,a4⟩,b1,b2,b3,b4⟩:=id h
 unfold f104
 have:=qci (zn p.pa p.sa false) (fun i=>p.pa - p.sa + i) (qip p) (fun a=>(zn p.pb p.sb false).map fun b=>(⟨p.kd,a,b⟩:GEl)) [] (fun i l=>l.length≤3 * i) (by simp) (fun l=>by
  unfold qip
  simp only []
  rw [qdc h.1,yi (by omega),decide_eq_false (by omega)]; rfl) (fun i x l hx hi hl=>by
  have hn:=qd9 (a:=p.pa) (s:=p.sa) (c:=false)
  have hm:=qd9 (a:=p.pb) (s:=p.sb) (c:=false)
  have hxi:=qkp h.1 hx
  have hnl:=qdc h.1
  refine ⟨by rw [List.length_append,List.length_map]; omega,?_⟩
  unfold qip
  simp only []
  rw [yi (x:=p.pa + p.sa) (by omega),decide_eq_true (by omega),cond_true]
  have inner:=qci (zn p.pb p.sb false) (fun j=>p.pb - p.sb + j) (qh1 p (qt l,p.pa - p.sa + (i:Int),yw l)) (fun b=>[(⟨p.kd,x,b⟩:GEl)]) l (fun j k=>k.length=l.length + j) (by simp) (fun k=>by
   unfold qh1
   simp only []
   rw [qdc h.2,yi (by omega),decide_eq_false (by omega)]; rfl) (fun j y k hy hj hk=>by
   have hyj:=qkp h.2 hy
   have hml:=qdc h.2
   refine ⟨by simp [hk]; omega,?_⟩
   unfold qh1
   simp only []
   rw [yi (x:=p.pb + p.sb) (by omega),decide_eq_true (by omega),cond_true,qch (by omega),yi (by omega),qgh,hyj,hxi]
   congr 4
   omega)
  rw [qbk] at inner
  rw [show p.pb - p.sb + ((0:Nat):Int)=p.pb - p.sb by omega] at inner
  rw [yi (x:=p.pb - p.sb) (by omega),inner,qd,yi (by omega)]
  congr 4
  omega)
 rw [show p.pa - p.sa + ((0:Nat):Int)=p.pa - p.sa by omega] at this
 rw [yi (x:=p.pa - p.sa) (by omega)]
 rw [show (qt ([]:List GEl),p.pa - p.sa,yw ([]:List GEl))=(none,p.pa - p.sa,false) from rfl] at this
 rw [this,qd,List.nil_append]
 obtain ⟨e1,e2⟩:=quh (qtf (p:=p) (c:=false))
 show some (qt (yj p false),yw (yj p false))=_
 rw [e1,e2]
theorem q9u {l:List GEl} (hl:l.length≤1073741824):f110 (some l)=some (qt (l.map kc),yw (l.map kc)):=by
 unfold f110
 rw [qku l (qif (some l)) kc hl (fun a=>by unfold qif; simp only [Option.getD_some]; rw [yg]; rfl) (fun i x a hx hi ha=>by
  unfold qif
  simp only [Option.getD_some]
  rw [yu hi,cond_true,yk hx,qd,q8s,qd,qch ha,ze hi (by omega)]),qd]
def qdz (p:qi):Int:=js [kg (!qof p.name) 8,kc ⟨p.kd,p.pa,p.pb⟩,jd p.sa 0 1,jd p.sb 0 1,jd p.cost 1 1000000,jd p.stock 0 100]
def qa2 (p:qi):Int:=if qdz p=0 then kg (!decide (js ((yj p false).map kc)=0)) 1 else qdz p
theorem qha {n lo hi:Int}:jd n lo hi=0↔lo≤n∧n≤hi:=by
 unfold jd
 split
 ·constructor
  ·intro h; cases h
  ·intro h; omega
 ·split
  ·constructor
   ·intro h; cases h
   ·intro h; omega
  ·constructor
   ·intro; omega
   ·intro; rfl
theorem q30 {x:GEl} (h:kc x=0):isK x.kind=true∧(0≤x.a∧x.a≤8)∧(0≤x.b∧x.b≤8)∧¬ (k8 x.kind=true∧x.a=0∧x.b=0):=by
 have:=zr.1 h
 simp only [List.mem_cons,List.not_mem_nil,or_false,forall_eq_or_imp,forall_eq] at this
 obtain ⟨h1,h2,h3,h4⟩:=this
 refine ⟨?_,qha.1 h2,qha.1 h3,?_⟩
 ·cases hk:isK x.kind with
  | true=>rfl
  | false=>rw [hk] at h1; cases h1
 ·rintro ⟨hd,ha,hb⟩
  rw [hd,ha,hb] at h4
  cases h4
theorem qs6 {p:qi} (h:qdz p=0):okP p:=by
 have:=zr.1 h
 simp only [List.mem_cons,List.not_mem_nil,or_false,forall_eq_or_imp,forall_eq] at this
 obtain ⟨_,h2,h3,h4,_⟩:=this
 obtain ⟨_,ha,hb,_⟩:=q30 h2
 have e1:=qha.1 h3
 have e2:=qha.1 h4
 exact ⟨⟨ha.1,ha.2,e1.1,e1.2⟩,⟨hb.1,hb.2,e2.1,e2.2⟩⟩
theorem jfo {p:qi}:f22 p=some (qa2 p):=by
 unfold f22
 simp only [q93,qcw,q0m,qo4,qd]
 rw [qda (by simp),qd]
 show cond (decide (qdz p=0)) _ (some (qdz p))=_
 unfold qa2
 by_cases h:qdz p=0
 ·rw [decide_eq_true h,cond_true,if_pos h,q6c (qs6 h),qd,q9u (by have:=qfe (p:=p) (c:=false); omega),qd,
   q00 (by rw [zi,List.length_map]; have:=qfe (p:=p) (c:=false); omega),qd,zi]
 ·rw [decide_eq_false h,if_neg h]; rfl
theorem ja2 {α:Type} {l:List α} {i:Nat} {x:α} (hx:l[i]?=some x):qo9 (some l) (some (i:Int)) (some ((i + 1:Nat):Int))=some (some [x]):=by
 have hi:=(List.getElem?_eq_some_iff.1 hx).1
 unfold qo9 q73 qjv
 simp only [Option.getD_some]
 rw [if_pos ⟨by omega,by omega⟩]
 simp only [Int.toNat_natCast]
 rw [if_pos ⟨by omega,by omega⟩]
 simp only [Option.map_some,Int.toNat_natCast]
 rw [List.drop_take,show i + 1 - i=1 by omega,qab hx]
 rfl
theorem q68 {l:List Int}:(l.all fun x=>decide (x=0))=decide (js l=0):=by
 induction l with
 | nil=>rfl
 | cons x l ih=>
  rw [List.all_cons,ih]
  show _=decide ((if x=0 then js l else x)=0)
  by_cases h:x=0 <;> simp [h]
theorem jcw {p:qi}:f20 p=some (qa2 p):=by
 unfold f20
 simp only [jae,q0y,qz4,qnu,qd,Option.getD_some,qjn]
 rw [qir (by simp),qd]
 show cond (decide (qdz p=0)) _ (some (qdz p))=_
 unfold qa2
 by_cases h:qdz p=0
 ·rw [decide_eq_true h,cond_true,if_pos h,jak (qs6 h),qd]
  have hv:=qfe (p:=p) (c:=false)
  obtain ⟨d,g1,g2⟩:=qfa (yj p false) (qme (some (yj p false),true)) (fun x=>decide (kc x=0)) (fun d=>match d with | .inl _=>false | .inr _=>true) ⟨.inr _,by unfold qme; simp only [Option.getD_some]; rw [yg]; rfl,rfl⟩ (fun i x hx hi=>by
   unfold qme
   simp only [Option.getD_some]
   rw [yu hi,cond_true,ze hi (by omega),ja2 hx,qd,qz4,qd,Option.getD_some,qjn]
   by_cases he:kc x=0
   ·exact .inl ⟨by simp [he],by rw [decide_eq_true he]; rfl⟩
   ·exact .inr ⟨by simp [he],.inl (),by rw [decide_eq_false he]; rfl,rfl⟩)
  rw [g1,qd]
  have e:(yj p false).all (fun x=>decide (kc x=0))=decide (js ((yj p false).map kc)=0):=by
   rw [← q68,List.all_map]; rfl
  rw [e] at g2
  rw [← g2]
  cases d <;> rfl
 ·rw [decide_eq_false h,if_neg h]; rfl
def qgx:List (List UInt8)→List qi→Int
 | _,[]=>0
 | seen,p::l=>if js [qa2 p,kg (decide (p.name∈seen)) 9]=0 then qgx (seen++[p.name]) l else js [qa2 p,kg (decide (p.name∈seen)) 9]
def qbm (l:List qi):Int:=if 6 < l.length then 5 else qgx [] l
theorem qt7 {l:List qi} {i:Nat} {p:qi} (hp:l[i]?=some p):(l.take (i + 1)).map (·.name)=(l.take i).map (·.name)++[p.name]:=by
 obtain ⟨hi,rfl⟩:=List.getElem?_eq_some_iff.1 hp
 rw [List.take_add_one,List.getElem?_eq_getElem hi,List.map_append]
 rfl
theorem q5w {o:Option (List qi)}:f23 o=some (qbm (o.getD [])):=by
 unfold f23 qbm
 by_cases h6:(6:Int) < ((o.getD []).length:Int)
 ·rw [decide_eq_true h6,if_pos (by omega)]; rfl
 ·rw [decide_eq_false h6,if_neg (by omega),cond_false]
  generalize hl:o.getD []=l at h6 ⊢
  obtain ⟨d,g1,g2⟩:=qgb l.length (fun i=>((i:Int),(l.take i).map (·.name))) (qjk o) (fun d=>match d with | .inl x=>x.1 | .inr _=>0) (fun i=>qgx ((l.take i).map (·.name)) (l.drop i)) ⟨.inr _,by unfold qjk; simp only [hl]; rw [yg]; rfl,by rw [List.drop_eq_nil_of_le (Nat.le_refl _)]; rfl⟩ (fun i hi=>by
   obtain ⟨p,hp⟩:∃ p,l[i]?=some p:=⟨_,List.getElem?_eq_getElem hi⟩
   unfold qjk
   simp only [hl]
   rw [yu hi,cond_true,yk hp,qd,jfo,qd,qcw,qd,qda (by simp),qd,ze hi (by omega),qab hp]
   simp only [qgx]
   rw [show qhw (List.map (·.name) (List.take i l)) p.name=decide (p.name∈(l.take i).map (·.name)) from rfl]
   by_cases he:js [qa2 p,kg (decide (p.name∈(l.take i).map (·.name))) 9]=0
   ·left
    rw [decide_eq_true he,cond_true,if_pos he,qt7 hp]
    refine ⟨?_,rfl⟩
    have hn:decide (p.name∈(l.take i).map (·.name))=false:=by
     cases hm:decide (p.name∈(l.take i).map (·.name)) with
     | false=>rfl
     | true=>
      rw [hm] at he
      have:=zr.1 he (kg true 9) (by simp)
      cases this
    have ha:qqo ((l.take i).map (·.name)) p.name=some ((l.take i).map (·.name)++[p.name]):=by
     unfold qqo qhw
     rw [hn]
     simp only [Bool.false_eq_true,if_false]
     rw [if_pos (by rw [List.length_map,List.length_take]; omega)]
    rw [ha]; rfl
   ·right
    rw [decide_eq_false he,cond_false,if_neg he]
    exact ⟨_,rfl,rfl⟩)
  have g1:itO (qjk o) (0,[])=some d:=g1
  rw [g1,qd]
  simp only [List.take_zero,List.map_nil,List.drop_zero] at g2
  rw [← g2]
  cases d <;> rfl
theorem jcy {o:Option (List qi)}:f25 o=some (qbm (o.getD [])):=by
 unfold f25 qbm
 by_cases h6:(6:Int) < ((o.getD []).length:Int)
 ·rw [decide_eq_true h6,if_pos (by omega)]; rfl
 ·rw [decide_eq_false h6,if_neg (by omega),cond_false]
  generalize hl:o.getD []=l at h6 ⊢
  obtain ⟨d,g1,g2⟩:=qgb l.length (fun i=>(i:Int)) (qi5 o) (fun d=>match d with | .inl x=>x | .inr _=>0) (fun i=>qgx ((l.take i).map (·.name)) (l.drop i)) ⟨.inr _,by unfold qi5; simp only [hl]; rw [yg]; rfl,by rw [List.drop_eq_nil_of_le (Nat.le_refl _)]; rfl⟩ (fun i hi=>by
   obtain ⟨p,hp⟩:∃ p,l[i]?=some p:=⟨_,List.getElem?_eq_getElem hi⟩
   unfold qi5
   simp only [hl]
   rw [yu hi,cond_true,yk hp,qd,jcw,qd,ze hi (by omega),qab hp]
   simp only [qgx,js]
   by_cases he:qa2 p=0
   ·rw [decide_eq_true he,cond_true]
    have hti:(l.take i).length=i:=by rw [List.length_take]; omega
    obtain ⟨d,k1,k2⟩:=qfa (l.take i) (qlk o (i:Int)) (fun x=>!decide (x.name=p.name)) (fun d=>match d with | .inl _=>false | .inr _=>true) ⟨.inr _,by unfold qlk; rw [hti,yg]; rfl,rfl⟩ (fun k x hx hk=>by
     have hki:k < i:=by omega
     have hxl:l[k]?=some x:=by rw [List.getElem?_take,if_pos hki] at hx; exact hx
     unfold qlk
     simp only [hl]
     rw [decide_eq_true (show (k:Int) < (i:Int) by omega),cond_true,yk hxl,qd,yk hp,qd,ze hki (by omega)]
     by_cases hxn:x.name=p.name
     ·exact .inr ⟨by simp [hxn],.inl (),by rw [decide_eq_true hxn]; rfl,rfl⟩
     ·exact .inl ⟨by simp [hxn],by rw [decide_eq_false hxn]; rfl⟩)
    rw [k1,qd]
    have hmem:decide (p.name∈(l.take i).map (·.name))=!((l.take i).all fun x=>!decide (x.name=p.name)):=by
     rw [Bool.eq_iff_iff]
     simp only [decide_eq_true_eq,List.mem_map,Bool.not_eq_true',List.all_eq_false,Bool.not_eq_true',Bool.not_eq_false]
    rw [hmem,← k2]
    cases d with
    | inl d=>right; exact ⟨_,rfl,by simp [he,kg]⟩
    | inr d=>left; refine ⟨rfl,?_⟩; simp only [he,if_true,Bool.not_true,kg,Bool.false_eq_true,if_false]; rw [qt7 hp]
   ·right
    rw [decide_eq_false he,cond_false]
    exact ⟨_,rfl,by simp [he]⟩)
  have g1:itO (qi5 o) 0=some d:=g1
  rw [g1,qd]
  simp only [List.take_zero,List.map_nil,List.drop_zero] at g2
  rw [← g2]
  cases d <;> rfl
theorem qx6 {p:qi} (h:qa2 p=0):okP p:=by
 refine qs6 ?_
 unfold qa2 at h
 by_cases hA:qdz p=0
 ·exact hA
 ·rw [if_neg hA] at h; exact h
def qkr (l:List qi):Bool:=(decide (l.length≤4) || decide (l.length=7)) && l.all fun p=>decide (p.name.length≤60) && decide (p.kd.length≤60)
theorem q26 {n:Int} {p:qi} {A B:Option (Int ⊕ (Unit ⊕ Int))} (hA:A=B):
  ((decide (p.name.length≤60) && decide (p.kd.length≤60))=true∧cond (decide (60 < (p.name.length:Int))) (some (.inr (.inl ()))) (cond (decide (60 < (p.kd.length:Int))) (some (.inr (.inl ()))) A)=B) ∨
  ((decide (p.name.length≤60) && decide (p.kd.length≤60))=false∧∃ d:Unit ⊕ Int,cond (decide (60 < (p.name.length:Int))) (some (.inr (.inl ()))) (cond (decide (60 < (p.kd.length:Int))) (some (.inr (.inl ()))) A)=some (.inr d)∧(match d with | .inl _=>false | .inr _=>true)=false):=by
 subst hA
 by_cases h1:p.name.length≤60
 ·have e1:decide (60 < (p.name.length:Int))=false:=decide_eq_false (by omega)
  by_cases h2:p.kd.length≤60
  ·have e2:decide (60 < (p.kd.length:Int))=false:=decide_eq_false (by omega)
   left
   rw [decide_eq_true h1,decide_eq_true h2,e1,e2]
   exact ⟨rfl,rfl⟩
  ·have e2:decide (60 < (p.kd.length:Int))=true:=decide_eq_true (by omega)
   right
   rw [decide_eq_false h2,e1,e2]
   exact ⟨by simp,.inl (),rfl,rfl⟩
 ·have e1:decide (60 < (p.name.length:Int))=true:=decide_eq_true (by omega)
  right
  rw [decide_eq_false h1,e1]
  exact ⟨by simp,.inl (),rfl,rfl⟩
theorem jey {o:Option (List qi)}:f17 o=some (qkr (o.getD [])):=by
 unfold f17 qkr
 generalize hl:o.getD []=l
 have hs:l.length≤7→∃ d,itO (qhf o) 0=some d∧(match d with | .inl _=>false | .inr _=>true)=l.all fun p=>decide (p.name.length≤60) && decide (p.kd.length≤60):=fun hn=>
  qfa l (qhf o) _ (fun d=>match d with | .inl _=>false | .inr _=>true) ⟨.inr _,by unfold qhf; simp only [hl]; rw [yg]; rfl,rfl⟩ (fun i x hx hi=>by
   unfold qhf
   simp only [hl]
   rw [yu hi,cond_true,yk hx,qd,ze hi (by omega)]
   exact q26 (n:=0) rfl)
 have hb:qob o=qhf o:=rfl
 by_cases h4:(4:Int) < (l.length:Int)
 ·rw [decide_eq_true h4,cond_true,decide_eq_false (show ¬ l.length≤4 by omega)]
  by_cases h7:(l.length:Int)=7
  ·obtain ⟨d,g1,g2⟩:=hs (by omega)
   rw [decide_eq_true h7,cond_true,decide_eq_true (show l.length=7 by omega),g1,qd,← g2]
   cases d <;> rfl
  ·rw [decide_eq_false h7,decide_eq_false (show ¬ l.length=7 by omega)]; rfl
 ·obtain ⟨d,g1,g2⟩:=hs (by omega)
  rw [decide_eq_false h4,cond_false,decide_eq_true (show l.length≤4 by omega),hb,g1,qd,← g2]
  cases d <;> rfl
theorem qyh {o:Option (List qi)} (hn:(o.getD []).length≤1073741824):f24 o=some (qt (o.getD []),yw (o.getD [])):=by
 unfold f24
 rw [qku (o.getD []) (qmm o) id hn (fun a=>by unfold qmm; rw [yg]; rfl) (fun i x a hx hi ha=>by
  unfold qmm
  rw [yu hi,cond_true,yk hx,qd,show f19 x=some x from rfl,qd,qch ha,ze hi (by omega)]; rfl),qd,List.map_id]
end Go.Z
