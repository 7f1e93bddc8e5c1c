/- Loops as plain functions of their lists. -/
import Derived.Test.YtnjngdcbkkonnaaGreatDoorA1
set_option linter.unusedVariables false
set_option linter.unusedSimpArgs false
set_option maxRecDepth 100000
namespace Go.Z
open Go Go.Abs
theorem qcd {σ δ γ:Type} (n:Nat) (mk:Nat→σ) (f:σ→Option (σ ⊕ δ)) (V:δ→γ) (r:Nat→γ) (hend:∃ d,f (mk n)=some (.inr d)∧V d=r n)
  (hstep:∀ i,i < n→(f (mk i)=some (.inl (mk (i + 1)))∧r i=r (i + 1))∨(∃ d,f (mk i)=some (.inr d)∧V d=r i)):∃ d,itO f (mk 0)=some d∧V d=r 0:=by
 have key:∀ (k i:Nat),i + k=n→∃ d,itO f (mk i)=some d∧V d=r i:=by
  intro k
  induction k with
  | zero=>
   intro i hi
   have:i=n:=by omega
   subst this
   obtain ⟨d,h1,h2⟩:=hend
   exact ⟨d,zy h1,h2⟩
  | succ k ih=>
   intro i hi
   rcases hstep i (by omega) with ⟨h1,h2⟩ | ⟨d,h1,h2⟩
   ·rw [qab h1,h2]; exact ih (i + 1) (by omega)
   ·exact ⟨d,zy h1,h2⟩
 exact key n 0 (by omega)
theorem q0l {α:Type} {l:List α} {q:α→Int} {i:Nat} {x:α} (hx:l[i]?=some x):j7 ((l.drop i).map q)=if q x=0 then j7 ((l.drop (i + 1)).map q) else q x:=by
 rw [zr hx]; rfl
theorem qlj {α δ:Type} (l:List α) (f:Int→Option (Int ⊕ δ)) (q:α→Int) (V:δ→Int) (hend:∃ d,f (l.length:Int)=some (.inr d)∧V d=0)
  (hstep:∀ (i:Nat) x,l[i]?=some x→i < l.length→(q x=0∧f (i:Int)=some (.inl ((i + 1:Nat):Int)))∨(q x ≠ 0∧∃ d,f (i:Int)=some (.inr d)∧V d=q x)):∃ d,itO f 0=some d∧V d=j7 (l.map q):=by
 have:=qcd l.length (fun i=>(i:Int)) f V (fun i=>j7 ((l.drop i).map q)) (by rw [List.drop_eq_nil_of_le (Nat.le_refl _)]; exact hend) (fun i hi=>by
  obtain ⟨x,hx⟩:∃ x,l[i]?=some x:=⟨_,List.getElem?_eq_getElem hi⟩
  simp only [q0l hx]
  rcases hstep i x hx hi with ⟨h1,h2⟩ | ⟨h1,h2⟩
  ·rw [if_pos h1]; exact .inl ⟨h2,rfl⟩
  ·rw [if_neg h1]; exact .inr h2)
 simpa using this
theorem qf3 {α δ:Type} (l:List α) (f:Int→Option (Int ⊕ δ)) (q:α→Bool) (V:δ→Bool) (hend:∃ d,f (l.length:Int)=some (.inr d)∧V d=true)
  (hstep:∀ (i:Nat) x,l[i]?=some x→i < l.length→(q x=true∧f (i:Int)=some (.inl ((i + 1:Nat):Int)))∨(q x=false∧∃ d,f (i:Int)=some (.inr d)∧V d=false)):∃ d,itO f 0=some d∧V d=l.all q:=by
 have:=qcd l.length (fun i=>(i:Int)) f V (fun i=>(l.drop i).all q) (by rw [List.drop_eq_nil_of_le (Nat.le_refl _)]; exact hend) (fun i hi=>by
  obtain ⟨x,hx⟩:∃ x,l[i]?=some x:=⟨_,List.getElem?_eq_getElem hi⟩
  simp only [zr hx,List.all_cons]
  rcases hstep i x hx hi with ⟨h1,h2⟩ | ⟨h1,h2⟩
  ·rw [h1]; exact .inl ⟨h2,rfl⟩
  ·rw [h1]; exact .inr h2)
 simpa using this
theorem qdb {α β:Type} (l:List α) (ix:Nat→Int) (f:Option (List β) × Int × Bool→Option ((Option (List β) × Int × Bool) ⊕ (Option (List β) × Bool × Int))) (h:α→List β) (a0:List β) (I:Nat→List β→Prop) (hI:I 0 a0)
  (hend:∀ a,f (qi a,ix l.length,zh a)=some (.inr (qi a,zh a,ix l.length)))
  (hstep:∀ (i:Nat) x a,l[i]?=some x→i < l.length→I i a→I (i + 1) (a++h x)∧f (qi a,ix i,zh a)=some (.inl (qi (a++h x),ix (i + 1),zh (a++h x)))):
  itO f (qi a0,ix 0,zh a0)=some (qi (a0++l.flatMap h),zh (a0++l.flatMap h),ix l.length):=by
 have key:∀ (k i:Nat),i + k=l.length→∀ a,I i a→itO f (qi a,ix i,zh a)=some (qi (a++(l.drop i).flatMap h),zh (a++(l.drop i).flatMap h),ix l.length):=by
  intro k
  induction k with
  | zero=>
   intro i hi a _
   have:i=l.length:=by omega
   subst this
   rw [List.drop_eq_nil_of_le (Nat.le_refl _),List.flatMap_nil,List.append_nil,zy (hend a)]
  | succ k ih=>
   intro i hi a ha
   obtain ⟨x,hx⟩:∃ x,l[i]?=some x:=⟨_,List.getElem?_eq_getElem (by omega)⟩
   obtain ⟨h1,h2⟩:=hstep i x a hx (by omega) ha
   rw [qab h2,ih (i + 1) (by omega) _ h1,zr hx,List.flatMap_cons,List.append_assoc]
 have:=key l.length 0 (by omega) a0 hI
 rwa [List.drop_zero] at this
theorem qnh {α:Type} {a:List α} {x:α} (h:a.length < 1073741824):apO (qi a) [x]=some (qi (a++[x])):=by
 unfold apO
 cases a with
 | nil=>rfl
 | cons y a=>
  have:((qi (y::a)).getD []).length + [x].length≤1073741824:=by simp [qi] at h ⊢; omega
  rw [if_pos this]; rfl
theorem qby {α γ:Type} {a:List α} {x:α} {k:Option (List α)→Option γ} (h:a.length < 1073741824):cond (zh a) (qc (apO (qi a) [x]) k) (cond (qi a).isNone (qc (apO (qi a) [x]) k) none)=k (qi (a++[x])):=by
 rw [qnh h]
 cases a <;> rfl
theorem jn {α:Type} (a:List α):(qi a).getD []=a:=by cases a <;> rfl
theorem qcs {α β:Type} (h:α→β):∀ l:List α,l.flatMap (fun x=>[h x])=l.map h
 | []=>rfl
 | x::l=>by rw [List.flatMap_cons,qcs h l]; rfl
theorem qqu {α β:Type} (l:List α) (f:Option (List β) × Int × Bool→Option ((Option (List β) × Int × Bool) ⊕ (Option (List β) × Bool × Int))) (h:α→β) (hl:l.length≤1073741824)
  (hend:∀ a:Option (List β) × Bool,f (a.1,(l.length:Int),a.2)=some (.inr (a.1,a.2,(l.length:Int))))
  (hstep:∀ (i:Nat) x (a:List β),l[i]?=some x→i < l.length→a.length < 1073741824→f (qi a,(i:Int),zh a)=some (.inl (qi (a++[h x]),((i + 1:Nat):Int),true))):
  itO f (none,0,false)=some (qi (l.map h),zh (l.map h),(l.length:Int)):=by
 have:=qdb l (fun i=>(i:Int)) f (fun x=>[h x]) [] (fun i a=>a.length=i) rfl (fun a=>hend (qi a,zh a)) (fun i x a hx hi ha=>⟨by simp [ha],by rw [hstep i x a hx hi (by omega),qbq]⟩)
 rw [qcs,List.nil_append] at this
 exact this
theorem zn {α:Type} {l:List α} {i:Nat} {x:α} (hx:l[i]?=some x):js l (i:Int)=some x:=by rw [qei,hx]
theorem zu {α:Type} {l:List α} {i:Nat} (h:i < l.length):decide ((i:Int) < (l.length:Int))=true:=decide_eq_true (by omega)
theorem zj {n:Nat}:decide ((n:Int) < (n:Int))=false:=decide_eq_false (by omega)
set_option maxHeartbeats 1000000
theorem qfx {b:Bool} {e:Int}:f106 b e=some (kn b e):=by cases b <;> rfl
theorem qvn {b:Bool} {e:Int}:f194 b e=some (kn b e):=by cases b <;> rfl
theorem q2w {b:Bool} {e:Int}:f101 b e=some (kn b e):=by cases b <;> rfl
theorem q28 {o:Option (List Int)} (hn:(o.getD []).length≤9223372036854775807):f105 o=some (j7 (o.getD [])):=by
 obtain ⟨d,h1,h2⟩:=qlj (o.getD []) (qi8 o) id (fun d=>match d with | .inl x=>x | .inr _=>0) ⟨.inr _,by unfold qi8; rw [zj]; rfl,rfl⟩ (fun i x hx hi=>by
  unfold qi8
  rw [zu hi,cond_true,zn hx,qd]
  by_cases h:x=0
  ·refine .inl ⟨h,?_⟩
   rw [decide_eq_true h,cond_true,jo hi hn]
  ·refine .inr ⟨h,.inl x,?_,rfl⟩
   rw [decide_eq_false h,cond_false])
 unfold f105
 rw [h1,qd]
 rw [List.map_id] at h2
 rw [← h2]
 cases d <;> rfl
theorem qga {l:List Int} (hn:l.length≤100):f105 (some l)=some (j7 l):=q28 (o:=some l) (by simp only [Option.getD_some]; omega)
theorem jdi {o:Option (List Int)} (hn:(o.getD []).length≤9223372036854775807):f171 o=some (j7 (o.getD [])):=by
 obtain ⟨d,h1,h2⟩:=qlj (o.getD []) (qjb o) id (fun d=>match d with | .inl x=>x | .inr _=>0) ⟨.inr _,by unfold qjb; rw [zj]; rfl,rfl⟩ (fun i x hx hi=>by
  unfold qjb
  rw [zu hi,cond_true,zn hx,qd]
  by_cases h:x=0
  ·refine .inl ⟨h,?_⟩
   rw [decide_eq_true h,cond_true,jo hi hn]
  ·refine .inr ⟨h,.inl x,?_,rfl⟩
   rw [decide_eq_false h,cond_false])
 unfold f171
 rw [h1,qd]
 rw [List.map_id] at h2
 rw [← h2]
 cases d <;> rfl
theorem qc8 {l:List Int} (hn:l.length≤100):f171 (some l)=some (j7 l):=jdi (o:=some l) (by simp only [Option.getD_some]; omega)
theorem jd5 {o:Option (List Int)} (hn:(o.getD []).length≤9223372036854775807):f100 o=some (j7 (o.getD [])):=by
 obtain ⟨d,h1,h2⟩:=qlj (o.getD []) (qjl o) id (fun d=>match d with | .inl x=>x | .inr _=>0) ⟨.inr _,by unfold qjl; rw [zj]; rfl,rfl⟩ (fun i x hx hi=>by
  unfold qjl
  rw [zu hi,cond_true,zn hx,qd]
  by_cases h:x=0
  ·refine .inl ⟨h,?_⟩
   rw [decide_eq_true h,cond_true,jo hi hn]
  ·refine .inr ⟨h,.inl x,?_,rfl⟩
   rw [decide_eq_false h,cond_false])
 unfold f100
 rw [h1,qd]
 rw [List.map_id] at h2
 rw [← h2]
 cases d <;> rfl
theorem qje {l:List Int} (hn:l.length≤100):f100 (some l)=some (j7 l):=jd5 (o:=some l) (by simp only [Option.getD_some]; omega)
theorem qmy {n lo hi:Int}:f109 n lo hi=some (ji n lo hi):=by
 unfold f109 ji
 by_cases h:n < lo
 ·simp only [h,decide_true,cond_true,qfx,qd,kn,if_true]
 ·by_cases h2:hi < n <;> simp [h,h2,qfx,kn]
theorem q3c {n lo hi:Int}:f195 n lo hi=some (ji n lo hi):=by
 unfold f195 ji
 by_cases h:n < lo
 ·simp only [h,decide_true,cond_true,qvn,qd,kn,if_true]
 ·by_cases h2:hi < n <;> simp [h,h2,qvn,kn]
theorem ql5 {n lo hi:Int}:f40 n lo hi=some (ji n lo hi):=by
 unfold f40 ji
 by_cases h:n < lo
 ·simp [h]
 ·by_cases h2:hi < n <;> simp [h,h2]
theorem jdw {w:Int}:f172 w=some (ji w 1 8):=by unfold f172; rw [q3c]; rfl
theorem jem {w:Int}:f122 w=some (ji w 1 8):=by unfold f122; rw [qmy]; rfl
theorem ko:∀ {l:List Int},j7 l=0↔∀ x∈l,x=0
 | []=>by simp [j7]
 | x::l=>by
  simp only [j7,List.mem_cons,forall_eq_or_imp]
  by_cases h:x=0
  ·rw [if_pos h,ko]; simp [h]
  ·rw [if_neg h]; simp [h]
theorem qo5 {s:List UInt8} {i:Nat} {c:UInt8} (hc:s[i]?=some c):qip i (s.drop i)=(qno i c.toNat && qip (i + 1) (s.drop (i + 1))):=by
 rw [zr hc]; rfl
theorem jef {s:List UInt8}:f102 s=some (qo9 s):=by
 unfold f102 qo9
 by_cases h0:s=[]
 ·subst h0; rfl
 have hl:¬ ((s.length:Int)=0):=by
  intro h
  exact h0 (List.eq_nil_of_length_eq_zero (by omega))
 by_cases h1:(24:Int) < s.length
 ·have h2:¬ s.length≤24:=by omega
  simp [hl,h0,h1,h2]
 ·have h2:s.length≤24:=by omega
  obtain ⟨d,g1,g2⟩:=qcd s.length (fun i=>(i:Int)) (qgy s) (fun d=>match d with | .inl _=>false | .inr _=>true) (fun i=>qip i (s.drop i)) ⟨.inr _,by unfold qgy; rw [zj]; rfl,by rw [List.drop_eq_nil_of_le (Nat.le_refl _)]; rfl⟩ (fun i hi=>by
   obtain ⟨c,hc⟩:∃ c,s[i]?=some c:=⟨_,List.getElem?_eq_getElem hi⟩
   unfold qgy
   rw [qo5 hc,zu hi,cond_true,zn hc,qd]
   simp only [jo hi (show s.length≤9223372036854775807 by omega)]
   unfold qno
   have hx:0≤(c.toNat:Int):=by omega
   generalize (c.toNat:Int)=x at hx ⊢
   by_cases z:i=0
   ·subst z
    rcases kinds x with h | h | h | h | h | h | h | h | h <;>
     simp (disch:=omega) only [decide_eq_true,decide_eq_false,cond_true,cond_false,Bool.or_false,Bool.false_or,Bool.true_or,Bool.and_true,Bool.true_and,Bool.false_and] <;>
     first
      | exact .inl ⟨trivial,trivial⟩
      | exact .inl ⟨rfl,trivial⟩
      | exact .inl ⟨rfl,rfl⟩
      | exact .inr ⟨_,rfl,rfl⟩
   ·rcases kinds x with h | h | h | h | h | h | h | h | h <;>
     simp (disch:=omega) only [decide_eq_true,decide_eq_false,cond_true,cond_false,Bool.or_false,Bool.or_true,Bool.false_or,Bool.true_or,Bool.and_true,Bool.true_and,Bool.false_and] <;>
     first
      | exact .inl ⟨trivial,trivial⟩
      | exact .inl ⟨rfl,trivial⟩
      | exact .inl ⟨rfl,rfl⟩
      | exact .inr ⟨_,rfl,rfl⟩)
  have g1:itO (qgy s) 0=some d:=g1
  rw [decide_eq_false hl,cond_false,decide_eq_false h1,cond_false,g1,qd]
  simp only [h0,h2,ne_eq,not_false_eq_true,decide_true,Bool.true_and]
  rw [List.drop_zero] at g2
  rw [← g2]
  cases d <;> rfl
theorem qt5 {s:List UInt8} {i:Nat} {c:UInt8} (hc:s[i]?=some c):(c.toNat < 128∧qp s i=(c.toNat,1))∨(128≤c.toNat∧128≤(qp s i).1):=by
 by_cases h:c.toNat < 128
 ·exact .inl ⟨h,q6m hc h⟩
 ·exact .inr ⟨by omega,q7v hc h⟩
theorem qwm {i:Nat} {x:Int} (h:128≤x):qno i x=false:=by
 unfold qno
 simp (disch:=omega) only [decide_eq_false,Bool.or_self,Bool.and_false]
def jom:Nat→Option Nat
 | 0=>none
 | i + 1=>some (i + 1)
theorem jdk {s:List UInt8}:f107 s=some (qo9 s):=by
 unfold f107
 obtain ⟨d,g1,g2⟩:=qcd s.length jom (qos s) (fun d=>match d with | .inl _=>false | .inr _=>true) (fun i=>qip i (s.drop i)) (by
   rw [List.drop_eq_nil_of_le (Nat.le_refl _)]
   cases hn:s.length with
   | zero=>
    refine ⟨.inr 0,?_,rfl⟩
    show qem s=_
    unfold qem
    rw [hn]; rfl
   | succ n=>
    refine ⟨.inr (n + 1),?_,rfl⟩
    show qes s (n + 1)=_
    unfold qes
    rw [hn,decide_eq_false (by omega)]; rfl) (fun i hi=>by
   obtain ⟨c,hc⟩:∃ c,s[i]?=some c:=⟨_,List.getElem?_eq_getElem hi⟩
   rw [qo5 hc]
   cases i with
   | zero=>
    show (qem s=_∧_)∨(∃ d,qem s=_∧_)
    unfold qem
    rw [decide_eq_true hi,cond_true]
    rcases qt5 hc with ⟨hlt,he⟩ | ⟨hge,hr⟩
    ·rw [he]
     simp only []
     have hx:0≤(c.toNat:Int):=by omega
     unfold qno
     generalize (c.toNat:Int)=x at hx ⊢
     rcases kinds x with h | h | h | h | h | h | h | h | h <;>
      simp (disch:=omega) only [decide_eq_true,decide_eq_false,cond_true,cond_false,Bool.or_false,Bool.false_or,Bool.true_or,Bool.and_true,Bool.true_and,Bool.false_and] <;>
      first
       | exact .inl ⟨trivial,trivial⟩
       | exact .inl ⟨rfl,trivial⟩
       | exact .inl ⟨rfl,rfl⟩
       | exact .inr ⟨_,rfl,rfl⟩
    ·rw [qwm (by omega)]
     generalize hd:qp s 0=dd at hr ⊢
     have hr':(128:Int)≤(dd.1:Int):=by omega
     generalize (dd.1:Int)=x at hr' ⊢
     simp (disch:=omega) only [decide_eq_true,decide_eq_false,cond_true,cond_false,Bool.false_and]
     exact .inr ⟨_,rfl,rfl⟩
   | succ i=>
    show (qes s (i + 1)=_∧_)∨(∃ d,qes s (i + 1)=_∧_)
    unfold qes
    rw [decide_eq_true hi,cond_true]
    rcases qt5 hc with ⟨hlt,he⟩ | ⟨hge,hr⟩
    ·rw [he]
     simp only []
     have hx:0≤(c.toNat:Int):=by omega
     unfold qno
     generalize (c.toNat:Int)=x at hx ⊢
     have e0:decide (((i + 1:Nat):Int)=0)=false:=decide_eq_false (by omega)
     rcases kinds x with h | h | h | h | h | h | h | h | h <;>
      simp (disch:=omega) only [e0,decide_eq_true,decide_eq_false,cond_true,cond_false,Bool.or_false,Bool.or_true,Bool.false_or,Bool.true_or,Bool.and_true,Bool.true_and,Bool.false_and] <;>
      first
       | exact .inl ⟨trivial,trivial⟩
       | exact .inl ⟨rfl,trivial⟩
       | exact .inl ⟨rfl,rfl⟩
       | exact .inr ⟨_,rfl,rfl⟩
    ·rw [qwm (by omega)]
     generalize hd:qp s (i + 1)=dd at hr ⊢
     have hr':(128:Int)≤(dd.1:Int):=by omega
     have e0:decide (((i + 1:Nat):Int)=0)=false:=decide_eq_false (by omega)
     generalize (dd.1:Int)=x at hr' ⊢
     simp (disch:=omega) only [e0,decide_eq_true,decide_eq_false,cond_true,cond_false,Bool.false_and]
     exact .inr ⟨_,rfl,rfl⟩)
 have g1:itO (qos s) none=some d:=g1
 rw [g1,qd]
 unfold qo9
 rw [List.drop_zero] at g2
 cases d with
 | inl d=>simp only [] at g2; rw [← g2]; simp
 | inr d=>
  simp only [] at g2
  rw [← g2]
  by_cases h0:s=[]
  ·subst h0; rfl
  ·have e:decide ((s.length:Int)≤24)=decide (s.length≤24):=by by_cases h:s.length≤24 <;> simp [h] <;> omega
   rw [e]
   simp [h0]
def kB:List UInt8:=[98,108,111,99,107]
def kSe:List UInt8:=[115,101,114,105,101,115]
def kSh:List UInt8:=[115,104,117,110,116]
def kT:List UInt8:=[116,114,97,112]
def isK (s:List UInt8):Bool:=decide (s=kB) || decide (s=kSe) || decide (s=kSh) || decide (s=kT)
def qbi (s:List UInt8):Bool:=decide (s=kB) || decide (s=kT)
def y9 (x:GEl):Int:=j7 [kn (!isK x.kind) 13,ji x.a 0 8,ji x.b 0 8,kn (qbi x.kind && decide (x.a=0) && decide (x.b=0)) 6]
def kg (l:List GEl):Int:=if 5 < l.length then 5 else j7 (l.map y9)
theorem qdd {δ:Type} {F q:Int} {A B:Option (Int ⊕ δ)} {d:δ} {V:δ→Int} (hF:F=q) (hA:A=B) (hV:V d=F):(q=0∧cond (decide (F=0)) A (some (.inr d))=B)∨(q ≠ 0∧∃ d',cond (decide (F=0)) A (some (.inr d))=some (.inr d')∧V d'=q):=by
 subst hF
 by_cases h:F=0
 ·exact .inl ⟨h,by rw [decide_eq_true h]; exact hA⟩
 ·exact .inr ⟨h,d,by rw [decide_eq_false h]; rfl,hV⟩
theorem q2o {o:Option (List GEl)}:f158 o=some (kg (o.getD [])):=by
 unfold f158 kg
 by_cases h5:(5:Int) < ((o.getD []).length:Int)
 ·rw [decide_eq_true h5,if_pos (by omega)]; rfl
 ·rw [decide_eq_false h5,if_neg (by omega),cond_false]
  have hn:(o.getD []).length≤9223372036854775807:=by omega
  obtain ⟨d,g1,g2⟩:=qlj (o.getD []) (qj4 o) y9 (fun d=>match d with
   | .inl d226=>d226.1
   | .inr (.inl d227)=>d227.1
   | .inr (.inr (.inl d228))=>d228.1
   | .inr (.inr (.inr (.inl d229)))=>d229.1
   | .inr (.inr (.inr (.inr (.inl d230))))=>d230.1
   | .inr (.inr (.inr (.inr (.inr d231))))=>0) ⟨_,by unfold qj4; rw [zj]; rfl,rfl⟩ (fun i x hx hi=>by
    unfold qj4
    rw [zu hi,cond_true,zn hx,qd,jo hi hn]
    simp only [qvn,q3c,qd]
    by_cases k1:x.kind=kB
    ·rw [decide_eq_true (show x.kind=[98,108,111,99,107] from k1),cond_true]
     by_cases ha:x.a=0
     ·rw [decide_eq_true ha,cond_true,qc8 (by simp),qd]
      exact qdd (by simp [y9,isK,qbi,k1,ha]) rfl rfl
     ·rw [decide_eq_false ha,cond_false,qc8 (by simp),qd]
      exact qdd (by simp [y9,isK,qbi,k1,ha]) rfl rfl
    rw [decide_eq_false (show ¬ x.kind=[98,108,111,99,107] from k1),cond_false]
    by_cases k2:x.kind=kSe
    ·rw [decide_eq_true (show x.kind=[115,101,114,105,101,115] from k2),cond_true,qc8 (by simp),qd]
     exact qdd (by simp [y9,isK,qbi,k2,kSe,kB,kT]) rfl rfl
    rw [decide_eq_false (show ¬ x.kind=[115,101,114,105,101,115] from k2),cond_false]
    by_cases k3:x.kind=kSh
    ·rw [decide_eq_true (show x.kind=[115,104,117,110,116] from k3),cond_true,qc8 (by simp),qd]
     exact qdd (by simp [y9,isK,qbi,k3,kSh,kSe,kB,kT]) rfl rfl
    rw [decide_eq_false (show ¬ x.kind=[115,104,117,110,116] from k3),cond_false]
    by_cases k4:x.kind=kT
    ·rw [decide_eq_true (show x.kind=[116,114,97,112] from k4),cond_true]
     by_cases ha:x.a=0
     ·rw [decide_eq_true ha,cond_true,qc8 (by simp),qd]
      exact qdd (by simp [y9,isK,qbi,k4,ha]) rfl rfl
     ·rw [decide_eq_false ha,cond_false,qc8 (by simp),qd]
      exact qdd (by simp [y9,isK,qbi,k4,ha]) rfl rfl
    rw [decide_eq_false (show ¬ x.kind=[116,114,97,112] from k4),cond_false,qc8 (by simp),qd]
    exact qdd (by simp [y9,isK,qbi,k1,k2,k3,k4]) rfl rfl)
  rw [g1,qd,← g2]
  rcases d with d | d | d | d | d | d <;> rfl
theorem qk6 {x:GEl}:kg [x]=y9 x:=by
 unfold kg
 simp only [List.length_cons,List.length_nil,List.map_cons,List.map_nil,j7]
 by_cases h:y9 x=0 <;> simp [h]
theorem q2n {x:GEl}:f108 x=some (y9 x):=by unfold f108; rw [q2o]; simp only [Option.getD_some,qk6]; rfl
theorem jac {x:GEl}:qx8 x=some (y9 x):=q2n
theorem jcr {l:List (List UInt8)} {s:List UInt8} (hn:l.length≤100):f191 (some l) s=some (!l.all fun y=>!decide (y=s)):=by
 unfold f191
 obtain ⟨d,g1,g2⟩:=qf3 l (qi0 (some l) s) (fun y=>!decide (y=s)) (fun d=>match d with | .inl _=>false | .inr _=>true) ⟨.inr _,by unfold qi0; simp only [Option.getD_some]; rw [zj]; rfl,rfl⟩ (fun i x hx hi=>by
  unfold qi0
  simp only [Option.getD_some]
  rw [zu hi,cond_true,zn hx,qd,jo hi (by omega)]
  by_cases h:x=s
  ·exact .inr ⟨by simp [h],.inl (),by rw [decide_eq_true h]; rfl,rfl⟩
  ·exact .inl ⟨by simp [h],by rw [decide_eq_false h]; rfl⟩)
 rw [g1,qd,← g2]
 cases d <;> rfl
theorem jd9 {x:GEl}:f157 x=some (y9 x):=by
 unfold f157
 have h192:f192=some (some [kB,kSe,kSh,kT]):=rfl
 rw [h192,qd,jcr (by decide),qd]
 have hk:(!([kB,kSe,kSh,kT].all fun y=>!decide (y=x.kind)))=isK x.kind:=by
  simp only [List.all_cons,List.all_nil,isK,Bool.and_true,Bool.not_and,Bool.not_not,eq_comm (a:=x.kind),Bool.or_assoc]
 rw [hk]
 simp only [ql5,qd]
 unfold y9
 cases hK:isK x.kind with
 | false=>simp [j7,kn]
 | true=>
  rw [cond_true,qje (by simp),qd]
  have hd:f55 x.kind=some (qbi x.kind):=by
   unfold f55 qbi
   by_cases h:x.kind=kB
   ·rw [decide_eq_true (show x.kind=[98,108,111,99,107] from h),decide_eq_true h]; rfl
   ·rw [decide_eq_false (show ¬ x.kind=[98,108,111,99,107] from h),decide_eq_false h]; rfl
  rw [hd]
  by_cases h1:ji x.a 0 8=0
  ·by_cases h2:ji x.b 0 8=0
   ·simp only [j7,h1,h2,if_true,decide_true,cond_true,qd]
    cases hD:qbi x.kind with
    | false=>simp [kn]
    | true=>
     by_cases ha:x.a=0
     ·by_cases hb:x.b=0 <;> simp [kn,ha,hb]
     ·simp [kn,ha]
   ·simp [j7,h1,h2,kn]
  ·simp [j7,h1,kn]
theorem q3a {o:Option (List GEl)}:f103 o=some (kg (o.getD [])):=by
 unfold f103 kg
 by_cases h5:(5:Int) < ((o.getD []).length:Int)
 ·rw [decide_eq_true h5,if_pos (by omega)]; rfl
 ·rw [decide_eq_false h5,if_neg (by omega),cond_false]
  have hn:(o.getD []).length≤9223372036854775807:=by omega
  obtain ⟨d,g1,g2⟩:=qlj (o.getD []) (qji o) y9 (fun d=>match d with | .inl x=>x | .inr _=>0) ⟨.inr _,by unfold qji; rw [zj]; rfl,rfl⟩ (fun i x hx hi=>by
   unfold qji
   rw [zu hi,cond_true,zn hx,qd,jd9,qd,jo hi hn]
   exact qdd rfl rfl rfl)
  rw [g1,qd,← g2]
  cases d <;> rfl
def yi (a s:Int) (c:Bool):List Int:=if s=0 then [a] else if c then [a - s,a + s] else [a - 1,a,a + 1]
def okN (a s:Int):Prop:=0≤a∧a≤8∧0≤s∧s≤1
theorem y8 {x:Int} (h:-1000000≤x∧x≤1000000):qg .i64 x=x:=by
 exact jy (by omega) (by omega)
theorem qf4 {a s:Int} (h:okN a s):((yi a s false).length:Int)=2 * s + 1:=by
 obtain ⟨h1,h2,h3,h4⟩:=h
 rcases (show s=0∨s=1 by omega) with rfl | rfl <;> rfl
theorem qvu {a s:Int} (h:okN a s) {i:Nat} {x:Int} (hx:(yi a s false)[i]?=some x):x=a - s + i:=by
 obtain ⟨h1,h2,h3,h4⟩:=h
 rcases (show s=0∨s=1 by omega) with rfl | rfl
 ·match i,hx with
  | 0,hx=>cases hx; omega
 ·match i,hx with
  | 0,hx=>cases hx; omega
  | 1,hx=>cases hx; omega
  | 2,hx=>cases hx; omega
theorem qid {a s:Int} {c:Bool}:(yi a s c).length≤3:=by
 unfold yi
 split
 ·simp
 ·split <;> simp
theorem q23 {a s:Int} (h:okN a s):f155 a s=some ⟨a - s,a + s⟩:=by
 obtain ⟨h1,h2,h3,h4⟩:=h
 unfold f155
 rw [y8 (by omega),y8 (by omega)]
theorem q22 {a s:Int} {c:Bool} (h:okN a s):f156 ⟨a - s,a + s⟩ c=some (some (yi a s c),true):=by
 have h':=h
 obtain ⟨h1,h2,h3,h4⟩:=h'
 unfold f156
 simp only []
 by_cases hs:s=0
 ·subst hs
  rw [decide_eq_true (by omega)]
  simp [yi]
 ·rw [decide_eq_false (by omega),cond_false]
  cases c with
  | true=>simp [yi,hs]
  | false=>
   rw [cond_false]
   have:=qdb (yi a s false) (fun i=>a - s + i) (qj2 ⟨a - s,a + s⟩) (fun x=>[x]) [] (fun i l=>l.length=i) rfl (fun l=>by
    unfold qj2
    simp only []
    rw [qf4 h,decide_eq_false (by omega)]; rfl) (fun i x l hx hi hl=>by
    have hxi:=qvu h hx
    have:=qf4 h
    refine ⟨by simp [hl],?_⟩
    unfold qj2
    simp only []
    rw [decide_eq_true (by omega),cond_true,qby (by omega),y8 (by omega),qbq,hxi]
    congr 4
    omega)
   have e0:a - s + ((0:Nat):Int)=a - s:=by omega
   rw [e0] at this
   rw [show (qi ([]:List Int),a - s,zh ([]:List Int))=(none,a - s,false) from rfl] at this
   rw [this,qd,List.nil_append,qcs,List.map_id']
   have hne:yi a s false=[a - 1,a,a + 1]:=by simp [yi,hs]
   rw [hne]; rfl
def yc (p:ql) (c:Bool):List GEl:=(yi p.pa p.sa c).flatMap fun a=>(yi p.pb p.sb c).map fun b=>⟨p.kd,a,b⟩
def okP (p:ql):Prop:=okN p.pa p.sa∧okN p.pb p.sb
theorem q2k {p:ql} {c:Bool}:yc p c ≠ []:=by
 have h:∀ a s,yi a s c ≠ []:=by
  intro a s
  unfold yi
  split
  ·simp
  ·split <;> simp
 unfold yc
 obtain ⟨x,l,hx⟩:∃ x l,yi p.pa p.sa c=x::l:=by
  cases hn:yi p.pa p.sa c with
  | nil=>exact absurd hn (h _ _)
  | cons x l=>exact ⟨x,l,rfl⟩
 obtain ⟨y,m,hy⟩:∃ x l,yi p.pb p.sb c=x::l:=by
  cases hn:yi p.pb p.sb c with
  | nil=>exact absurd hn (h _ _)
  | cons x l=>exact ⟨x,l,rfl⟩
 rw [hx,hy]
 simp
theorem qwl {α:Type} {l:List α} (h:l ≠ []):qi l=some l∧zh l=true:=by
 cases l with
 | nil=>exact absurd rfl h
 | cons x l=>exact ⟨rfl,rfl⟩
theorem qdt {p:ql} {c:Bool}:(yc p c).length≤9:=by
 unfold yc
 have h1:=qid (a:=p.pa) (s:=p.sa) (c:=c)
 have h2:=qid (a:=p.pb) (s:=p.sb) (c:=c)
 generalize yi p.pa p.sa c=l at h1
 generalize yi p.pb p.sb c=m at h2
 have:∀ l:List Int,(l.flatMap fun a=>m.map fun b=>(⟨p.kd,a,b⟩:GEl)).length=l.length * m.length:=by
  intro l
  induction l with
  | nil=>simp
  | cons x l ih=>rw [List.flatMap_cons,List.length_append,ih,List.length_map,List.length_cons,Nat.succ_mul]; omega
 rw [this]
 exact Nat.le_trans (Nat.mul_le_mul h1 h2) (by decide)
theorem q7z {p:ql} {c:Bool} (h:okP p):f99 p c=some (some (yc p c),true):=by
 unfold f99
 rw [q23 h.1,qd,q22 h.1,qd]
 have:=qdb (yi p.pa p.sa c) (fun i=>(i:Int)) (qne p c (some (yi p.pa p.sa c),true)) (fun a=>(yi p.pb p.sb c).map fun b=>(⟨p.kd,a,b⟩:GEl)) [] (fun i l=>l.length≤3 * i) (by simp) (fun l=>by
  unfold qne
  simp only [Option.getD_some]
  rw [zj]; rfl) (fun i x l hx hi hl=>by
  have hn:=qid (a:=p.pa) (s:=p.sa) (c:=c)
  have hm:=qid (a:=p.pb) (s:=p.sb) (c:=c)
  refine ⟨by rw [List.length_append,List.length_map]; omega,?_⟩
  unfold qne
  simp only [Option.getD_some]
  rw [zu hi,cond_true,zn hx,qd,q23 h.2,qd,q22 h.2,qd]
  have inner:=qdb (yi p.pb p.sb c) (fun j=>(j:Int)) (qn8 p c (some (yi p.pa p.sa c),true) (qi l,(i:Int),zh l) x (some (yi p.pb p.sb c),true)) (fun b=>[(⟨p.kd,x,b⟩:GEl)]) l (fun j k=>k.length=l.length + j) (by simp) (fun k=>by
   unfold qn8
   simp only [Option.getD_some]
   rw [zj]; rfl) (fun j y k hy hj hk=>by
   refine ⟨by simp [hk]; omega,?_⟩
   unfold qn8
   simp only [Option.getD_some]
   rw [zu hj,cond_true,zn hy,qd,qby (by omega),jo hj (by omega),qbq])
  rw [qcs] at inner
  rw [show (((0:Nat):Int))=0 from rfl] at inner
  rw [inner,qd,jo hi (by omega)])
 rw [show (qi ([]:List GEl),((0:Nat):Int),zh ([]:List GEl))=(none,0,false) from rfl] at this
 rw [this,qd,List.nil_append]
 obtain ⟨e1,e2⟩:=qwl (q2k (p:=p) (c:=c))
 show some (qi (yc p c),zh (yc p c))=_
 rw [e1,e2]
theorem q2z {p:ql} (h:okP p):f104 p=some (some (yc p false),true):=by
 obtain ⟨⟨a1,a2,a3,a4⟩,b1,b2,b3,b4⟩:=id h
 unfold f104
 have:=qdb (yi p.pa p.sa false) (fun i=>p.pa - p.sa + i) (qj1 p) (fun a=>(yi p.pb p.sb false).map fun b=>(⟨p.kd,a,b⟩:GEl)) [] (fun i l=>l.length≤3 * i) (by simp) (fun l=>by
  unfold qj1
  simp only []
  rw [qf4 h.1,y8 (by omega),decide_eq_false (by omega)]; rfl) (fun i x l hx hi hl=>by
  have hn:=qid (a:=p.pa) (s:=p.sa) (c:=false)
  have hm:=qid (a:=p.pb) (s:=p.sb) (c:=false)
  have hxi:=qvu h.1 hx
  have hnl:=qf4 h.1
  refine ⟨by rw [List.length_append,List.length_map]; omega,?_⟩
  unfold qj1
  simp only []
  rw [y8 (x:=p.pa + p.sa) (by omega),decide_eq_true (by omega),cond_true]
  have inner:=qdb (yi p.pb p.sb false) (fun j=>p.pb - p.sb + j) (qju p (qi l,p.pa - p.sa + (i:Int),zh l)) (fun b=>[(⟨p.kd,x,b⟩:GEl)]) l (fun j k=>k.length=l.length + j) (by simp) (fun k=>by
   unfold qju
   simp only []
   rw [qf4 h.2,y8 (by omega),decide_eq_false (by omega)]; rfl) (fun j y k hy hj hk=>by
   have hyj:=qvu h.2 hy
   have hml:=qf4 h.2
   refine ⟨by simp [hk]; omega,?_⟩
   unfold qju
   simp only []
   rw [y8 (x:=p.pb + p.sb) (by omega),decide_eq_true (by omega),cond_true,qby (by omega),y8 (by omega),qbq,hyj,hxi]
   congr 4
   omega)
  rw [qcs] at inner
  rw [show p.pb - p.sb + ((0:Nat):Int)=p.pb - p.sb by omega] at inner
  rw [y8 (x:=p.pb - p.sb) (by omega),inner,qd,y8 (by omega)]
  congr 4
  omega)
 rw [show p.pa - p.sa + ((0:Nat):Int)=p.pa - p.sa by omega] at this
 rw [y8 (x:=p.pa - p.sa) (by omega)]
 rw [show (qi ([]:List GEl),p.pa - p.sa,zh ([]:List GEl))=(none,p.pa - p.sa,false) from rfl] at this
 rw [this,qd,List.nil_append]
 obtain ⟨e1,e2⟩:=qwl (q2k (p:=p) (c:=false))
 show some (qi (yc p false),zh (yc p false))=_
 rw [e1,e2]
theorem jcd {l:List GEl} (hl:l.length≤1073741824):f110 (some l)=some (qi (l.map y9),zh (l.map y9)):=by
 unfold f110
 rw [qqu l (qjr (some l)) y9 hl (fun a=>by unfold qjr; simp only [Option.getD_some]; rw [zj]; rfl) (fun i x a hx hi ha=>by
  unfold qjr
  simp only [Option.getD_some]
  rw [zu hi,cond_true,zn hx,qd,jac,qd,qby ha,jo hi (by omega)]),qd]
def qgm (p:ql):Int:=j7 [kn (!qo9 p.name) 8,y9 ⟨p.kd,p.pa,p.pb⟩,ji p.sa 0 1,ji p.sb 0 1,ji p.cost 1 1000000,ji p.stock 0 100]
def qas (p:ql):Int:=if qgm p=0 then kn (!decide (j7 ((yc p false).map y9)=0)) 1 else qgm p
theorem qh5 {n lo hi:Int}:ji n lo hi=0↔lo≤n∧n≤hi:=by
 unfold ji
 split
 ·constructor
  ·intro h; cases h
  ·intro h; omega
 ·split
  ·constructor
   ·intro h; cases h
   ·intro h; omega
  ·constructor
   ·intro; omega
   ·intro; rfl
theorem q7q {x:GEl} (h:y9 x=0):isK x.kind=true∧(0≤x.a∧x.a≤8)∧(0≤x.b∧x.b≤8)∧¬ (qbi x.kind=true∧x.a=0∧x.b=0):=by
 have:=ko.1 h
 simp only [List.mem_cons,List.not_mem_nil,or_false,forall_eq_or_imp,forall_eq] at this
 obtain ⟨h1,h2,h3,h4⟩:=this
 refine ⟨?_,qh5.1 h2,qh5.1 h3,?_⟩
 ·cases hk:isK x.kind with
  | true=>rfl
  | false=>rw [hk] at h1; cases h1
 ·rintro ⟨hd,ha,hb⟩
  rw [hd,ha,hb] at h4
  cases h4
theorem qvt {p:ql} (h:qgm p=0):okP p:=by
 have:=ko.1 h
 simp only [List.mem_cons,List.not_mem_nil,or_false,forall_eq_or_imp,forall_eq] at this
 obtain ⟨_,h2,h3,h4,_⟩:=this
 obtain ⟨_,ha,hb,_⟩:=q7q h2
 have e1:=qh5.1 h3
 have e2:=qh5.1 h4
 exact ⟨⟨ha.1,ha.2,e1.1,e1.2⟩,⟨hb.1,hb.2,e2.1,e2.2⟩⟩
theorem jga {p:ql}:f22 p=some (qas p):=by
 unfold f22
 simp only [jdk,qfx,q2n,qmy,qd]
 rw [qga (by simp),qd]
 show cond (decide (qgm p=0)) _ (some (qgm p))=_
 unfold qas
 by_cases h:qgm p=0
 ·rw [decide_eq_true h,cond_true,if_pos h,q7z (qvt h),qd,jcd (by have:=qdt (p:=p) (c:=false); omega),qd,
   q28 (by rw [jn,List.length_map]; have:=qdt (p:=p) (c:=false); omega),qd,jn]
 ·rw [decide_eq_false h,if_neg h]; rfl
theorem jcw {α:Type} {l:List α} {i:Nat} {x:α} (hx:l[i]?=some x):qrf (some l) (some (i:Int)) (some ((i + 1:Nat):Int))=some (some [x]):=by
 have hi:=(List.getElem?_eq_some_iff.1 hx).1
 unfold qrf jas qkz
 simp only [Option.getD_some]
 rw [if_pos ⟨by omega,by omega⟩]
 simp only [Int.toNat_natCast]
 rw [if_pos ⟨by omega,by omega⟩]
 simp only [Option.map_some,Int.toNat_natCast]
 rw [List.drop_take,show i + 1 - i=1 by omega,zr hx]
 rfl
theorem jba {l:List Int}:(l.all fun x=>decide (x=0))=decide (j7 l=0):=by
 induction l with
 | nil=>rfl
 | cons x l ih=>
  rw [List.all_cons,ih]
  show _=decide ((if x=0 then j7 l else x)=0)
  by_cases h:x=0 <;> simp [h]
theorem jhu {p:ql}:f20 p=some (qas p):=by
 unfold f20
 simp only [jef,q2w,q3a,ql5,qd,Option.getD_some,qk6]
 rw [qje (by simp),qd]
 show cond (decide (qgm p=0)) _ (some (qgm p))=_
 unfold qas
 by_cases h:qgm p=0
 ·rw [decide_eq_true h,cond_true,if_pos h,q2z (qvt h),qd]
  have hv:=qdt (p:=p) (c:=false)
  obtain ⟨d,g1,g2⟩:=qf3 (yc p false) (qnp (some (yc p false),true)) (fun x=>decide (y9 x=0)) (fun d=>match d with | .inl _=>false | .inr _=>true) ⟨.inr _,by unfold qnp; simp only [Option.getD_some]; rw [zj]; rfl,rfl⟩ (fun i x hx hi=>by
   unfold qnp
   simp only [Option.getD_some]
   rw [zu hi,cond_true,jo hi (by omega),jcw hx,qd,q3a,qd,Option.getD_some,qk6]
   by_cases he:y9 x=0
   ·exact .inl ⟨by simp [he],by rw [decide_eq_true he]; rfl⟩
   ·exact .inr ⟨by simp [he],.inl (),by rw [decide_eq_false he]; rfl,rfl⟩)
  rw [g1,qd]
  have e:(yc p false).all (fun x=>decide (y9 x=0))=decide (j7 ((yc p false).map y9)=0):=by
   rw [← jba,List.all_map]; rfl
  rw [e] at g2
  rw [← g2]
  cases d <;> rfl
 ·rw [decide_eq_false h,if_neg h]; rfl
def qp6:List (List UInt8)→List ql→Int
 | _,[]=>0
 | seen,p::l=>if j7 [qas p,kn (decide (p.name∈seen)) 9]=0 then qp6 (seen++[p.name]) l else j7 [qas p,kn (decide (p.name∈seen)) 9]
def qb2 (l:List ql):Int:=if 6 < l.length then 5 else qp6 [] l
theorem qwp {l:List ql} {i:Nat} {p:ql} (hp:l[i]?=some p):(l.take (i + 1)).map (·.name)=(l.take i).map (·.name)++[p.name]:=by
 obtain ⟨hi,rfl⟩:=List.getElem?_eq_some_iff.1 hp
 rw [List.take_add_one,List.getElem?_eq_getElem hi,List.map_append]
 rfl
theorem q59 {o:Option (List ql)}:f23 o=some (qb2 (o.getD [])):=by
 unfold f23 qb2
 by_cases h6:(6:Int) < ((o.getD []).length:Int)
 ·rw [decide_eq_true h6,if_pos (by omega)]; rfl
 ·rw [decide_eq_false h6,if_neg (by omega),cond_false]
  generalize hl:o.getD []=l at h6 ⊢
  obtain ⟨d,g1,g2⟩:=qcd l.length (fun i=>((i:Int),(l.take i).map (·.name))) (qj9 o) (fun d=>match d with | .inl x=>x.1 | .inr _=>0) (fun i=>qp6 ((l.take i).map (·.name)) (l.drop i)) ⟨.inr _,by unfold qj9; simp only [hl]; rw [zj]; rfl,by rw [List.drop_eq_nil_of_le (Nat.le_refl _)]; rfl⟩ (fun i hi=>by
   obtain ⟨p,hp⟩:∃ p,l[i]?=some p:=⟨_,List.getElem?_eq_getElem hi⟩
   unfold qj9
   simp only [hl]
   rw [zu hi,cond_true,zn hp,qd,jga,qd,qfx,qd,qga (by simp),qd,jo hi (by omega),zr hp]
   simp only [qp6]
   rw [show qk0 (List.map (·.name) (List.take i l)) p.name=decide (p.name∈(l.take i).map (·.name)) from rfl]
   by_cases he:j7 [qas p,kn (decide (p.name∈(l.take i).map (·.name))) 9]=0
   ·left
    rw [decide_eq_true he,cond_true,if_pos he,qwp hp]
    refine ⟨?_,rfl⟩
    have hn:decide (p.name∈(l.take i).map (·.name))=false:=by
     cases hm:decide (p.name∈(l.take i).map (·.name)) with
     | false=>rfl
     | true=>
      rw [hm] at he
      have:=ko.1 he (kn true 9) (by simp)
      cases this
    have ha:qsm ((l.take i).map (·.name)) p.name=some ((l.take i).map (·.name)++[p.name]):=by
     unfold qsm qk0
     rw [hn]
     simp only [Bool.false_eq_true,if_false]
     rw [if_pos (by rw [List.length_map,List.length_take]; omega)]
    rw [ha]; rfl
   ·right
    rw [decide_eq_false he,cond_false,if_neg he]
    exact ⟨_,rfl,rfl⟩)
  have g1:itO (qj9 o) (0,[])=some d:=g1
  rw [g1,qd]
  simp only [List.take_zero,List.map_nil,List.drop_zero] at g2
  rw [← g2]
  cases d <;> rfl
theorem jhz {o:Option (List ql)}:f25 o=some (qb2 (o.getD [])):=by
 unfold f25 qb2
 by_cases h6:(6:Int) < ((o.getD []).length:Int)
 ·rw [decide_eq_true h6,if_pos (by omega)]; rfl
 ·rw [decide_eq_false h6,if_neg (by omega),cond_false]
  generalize hl:o.getD []=l at h6 ⊢
  obtain ⟨d,g1,g2⟩:=qcd l.length (fun i=>(i:Int)) (qj8 o) (fun d=>match d with | .inl x=>x | .inr _=>0) (fun i=>qp6 ((l.take i).map (·.name)) (l.drop i)) ⟨.inr _,by unfold qj8; simp only [hl]; rw [zj]; rfl,by rw [List.drop_eq_nil_of_le (Nat.le_refl _)]; rfl⟩ (fun i hi=>by
   obtain ⟨p,hp⟩:∃ p,l[i]?=some p:=⟨_,List.getElem?_eq_getElem hi⟩
   unfold qj8
   simp only [hl]
   rw [zu hi,cond_true,zn hp,qd,jhu,qd,jo hi (by omega),zr hp]
   simp only [qp6,j7]
   by_cases he:qas p=0
   ·rw [decide_eq_true he,cond_true]
    have hti:(l.take i).length=i:=by rw [List.length_take]; omega
    obtain ⟨d,k1,k2⟩:=qf3 (l.take i) (qob o (i:Int)) (fun x=>!decide (x.name=p.name)) (fun d=>match d with | .inl _=>false | .inr _=>true) ⟨.inr _,by unfold qob; rw [hti,zj]; rfl,rfl⟩ (fun k x hx hk=>by
     have hki:k < i:=by omega
     have hxl:l[k]?=some x:=by rw [List.getElem?_take,if_pos hki] at hx; exact hx
     unfold qob
     simp only [hl]
     rw [decide_eq_true (show (k:Int) < (i:Int) by omega),cond_true,zn hxl,qd,zn hp,qd,jo hki (by omega)]
     by_cases hxn:x.name=p.name
     ·exact .inr ⟨by simp [hxn],.inl (),by rw [decide_eq_true hxn]; rfl,rfl⟩
     ·exact .inl ⟨by simp [hxn],by rw [decide_eq_false hxn]; rfl⟩)
    rw [k1,qd]
    have hmem:decide (p.name∈(l.take i).map (·.name))=!((l.take i).all fun x=>!decide (x.name=p.name)):=by
     rw [Bool.eq_iff_iff]
     simp only [decide_eq_true_eq,List.mem_map,Bool.not_eq_true',List.all_eq_false,Bool.not_eq_true',Bool.not_eq_false]
    rw [hmem,← k2]
    cases d with
    | inl d=>right; exact ⟨_,rfl,by simp [he,kn]⟩
    | inr d=>left; refine ⟨rfl,?_⟩; simp only [he,if_true,Bool.not_true,kn,Bool.false_eq_true,if_false]; rw [qwp hp]
   ·right
    rw [decide_eq_false he,cond_false]
    exact ⟨_,rfl,by simp [he]⟩)
  have g1:itO (qj8 o) 0=some d:=g1
  rw [g1,qd]
  simp only [List.take_zero,List.map_nil,List.drop_zero] at g2
  rw [← g2]
  cases d <;> rfl
theorem qz0 {p:ql} (h:qas p=0):okP p:=by
 refine qvt ?_
 unfold qas at h
 by_cases hA:qgm p=0
 ·exact hA
 ·rw [if_neg hA] at h; exact h
def qj3 (l:List ql):Bool:=(decide (l.length≤4) || decide (l.length=7)) && l.all fun p=>decide (p.name.length≤60) && decide (p.kd.length≤60)
theorem q4p {n:Int} {p:ql} {A B:Option (Int ⊕ (Unit ⊕ Int))} (hA:A=B):
  ((decide (p.name.length≤60) && decide (p.kd.length≤60))=true∧cond (decide (60 < (p.name.length:Int))) (some (.inr (.inl ()))) (cond (decide (60 < (p.kd.length:Int))) (some (.inr (.inl ()))) A)=B) ∨
  ((decide (p.name.length≤60) && decide (p.kd.length≤60))=false∧∃ d:Unit ⊕ Int,cond (decide (60 < (p.name.length:Int))) (some (.inr (.inl ()))) (cond (decide (60 < (p.kd.length:Int))) (some (.inr (.inl ()))) A)=some (.inr d)∧(match d with | .inl _=>false | .inr _=>true)=false):=by
 subst hA
 by_cases h1:p.name.length≤60
 ·have e1:decide (60 < (p.name.length:Int))=false:=decide_eq_false (by omega)
  by_cases h2:p.kd.length≤60
  ·have e2:decide (60 < (p.kd.length:Int))=false:=decide_eq_false (by omega)
   left
   rw [decide_eq_true h1,decide_eq_true h2,e1,e2]
   exact ⟨rfl,rfl⟩
  ·have e2:decide (60 < (p.kd.length:Int))=true:=decide_eq_true (by omega)
   right
   rw [decide_eq_false h2,e1,e2]
   exact ⟨by simp,.inl (),rfl,rfl⟩
 ·have e1:decide (60 < (p.name.length:Int))=true:=decide_eq_true (by omega)
  right
  rw [decide_eq_false h1,e1]
  exact ⟨by simp,.inl (),rfl,rfl⟩
theorem jfa {o:Option (List ql)}:f17 o=some (qj3 (o.getD [])):=by
 unfold f17 qj3
 generalize hl:o.getD []=l
 have hs:l.length≤7→∃ d,itO (qhx o) 0=some d∧(match d with | .inl _=>false | .inr _=>true)=l.all fun p=>decide (p.name.length≤60) && decide (p.kd.length≤60):=fun hn=>
  qf3 l (qhx o) _ (fun d=>match d with | .inl _=>false | .inr _=>true) ⟨.inr _,by unfold qhx; simp only [hl]; rw [zj]; rfl,rfl⟩ (fun i x hx hi=>by
   unfold qhx
   simp only [hl]
   rw [zu hi,cond_true,zn hx,qd,jo hi (by omega)]
   exact q4p (n:=0) rfl)
 have hb:qo8 o=qhx o:=rfl
 by_cases h4:(4:Int) < (l.length:Int)
 ·rw [decide_eq_true h4,cond_true,decide_eq_false (show ¬ l.length≤4 by omega)]
  by_cases h7:(l.length:Int)=7
  ·obtain ⟨d,g1,g2⟩:=hs (by omega)
   rw [decide_eq_true h7,cond_true,decide_eq_true (show l.length=7 by omega),g1,qd,← g2]
   cases d <;> rfl
  ·rw [decide_eq_false h7,decide_eq_false (show ¬ l.length=7 by omega)]; rfl
 ·obtain ⟨d,g1,g2⟩:=hs (by omega)
  rw [decide_eq_false h4,cond_false,decide_eq_true (show l.length≤4 by omega),hb,g1,qd,← g2]
  cases d <;> rfl
theorem jgt {o:Option (List ql)} (hn:(o.getD []).length≤1073741824):f24 o=some (qi (o.getD []),zh (o.getD [])):=by
 unfold f24
 rw [qqu (o.getD []) (qnk o) id hn (fun a=>by unfold qnk; rw [zj]; rfl) (fun i x a hx hi ha=>by
  unfold qnk
  rw [zu hi,cond_true,zn hx,qd,show f19 x=some x from rfl,qd,qby ha,jo hi (by omega)]; rfl),qd,List.map_id]
end Go.Z
