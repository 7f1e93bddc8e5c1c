/-
  Loops as plain functions of their lists.
-/
import Derived.Test.YtnjngdcbkkonnaaGreatDoorA1
set_option linter.unusedVariables false
set_option linter.unusedSimpArgs false
set_option maxRecDepth 100000
namespace Go.Z
open Go Go.Abs
theorem itO_ix {σ δ γ:Type} (n:Nat) (mk:Nat→σ) (f:σ→Option (σ ⊕ δ)) (V:δ→γ) (r:Nat→γ) (hend:∃ d,f (mk n)=some (.inr d)∧V d=r n)
  (hstep:∀ i,i < n→(f (mk i)=some (.inl (mk (i + 1)))∧r i=r (i + 1))∨(∃ d,f (mk i)=some (.inr d)∧V d=r i)):∃ d,itO f (mk 0)=some d∧V d=r 0:=by
 have key:∀ (k i:Nat),i + k=n→∃ d,itO f (mk i)=some d∧V d=r i:=by
  intro k
  induction k with
  | zero=>
   intro i hi
   have:i=n:=by omega
   subst this
   obtain ⟨d,h1,h2⟩:=hend
   exact ⟨d,itO_out h1,h2⟩
  | succ k ih=>
   intro i hi
   rcases hstep i (by omega) with ⟨h1,h2⟩ | ⟨d,h1,h2⟩
   ·rw [itO_in h1,h2]; exact ih (i + 1) (by omega)
   ·exact ⟨d,itO_out h1,h2⟩
 exact key n 0 (by omega)
theorem firstNZ_drop {α:Type} {l:List α} {q:α→Int} {i:Nat} {x:α} (hx:l[i]?=some x):firstNZ ((l.drop i).map q)=if q x=0 then firstNZ ((l.drop (i + 1)).map q) else q x:=by
 rw [drop_cons hx]; rfl
theorem itO_err {α δ:Type} (l:List α) (f:Int→Option (Int ⊕ δ)) (q:α→Int) (V:δ→Int) (hend:∃ d,f (l.length:Int)=some (.inr d)∧V d=0)
  (hstep:∀ (i:Nat) x,l[i]?=some x→i < l.length→(q x=0∧f (i:Int)=some (.inl ((i + 1:Nat):Int)))∨(q x ≠ 0∧∃ d,f (i:Int)=some (.inr d)∧V d=q x)):∃ d,itO f 0=some d∧V d=firstNZ (l.map q):=by
 have:=itO_ix l.length (fun i=>(i:Int)) f V (fun i=>firstNZ ((l.drop i).map q)) (by rw [List.drop_eq_nil_of_le (Nat.le_refl _)]; exact hend) (fun i hi=>by
  obtain ⟨x,hx⟩:∃ x,l[i]?=some x:=⟨_,List.getElem?_eq_getElem hi⟩
  simp only [firstNZ_drop hx]
  rcases hstep i x hx hi with ⟨h1,h2⟩ | ⟨h1,h2⟩
  ·rw [if_pos h1]; exact .inl ⟨h2,rfl⟩
  ·rw [if_neg h1]; exact .inr h2)
 simpa using this
theorem itO_allB {α δ:Type} (l:List α) (f:Int→Option (Int ⊕ δ)) (q:α→Bool) (V:δ→Bool) (hend:∃ d,f (l.length:Int)=some (.inr d)∧V d=true)
  (hstep:∀ (i:Nat) x,l[i]?=some x→i < l.length→(q x=true∧f (i:Int)=some (.inl ((i + 1:Nat):Int)))∨(q x=false∧∃ d,f (i:Int)=some (.inr d)∧V d=false)):∃ d,itO f 0=some d∧V d=l.all q:=by
 have:=itO_ix l.length (fun i=>(i:Int)) f V (fun i=>(l.drop i).all q) (by rw [List.drop_eq_nil_of_le (Nat.le_refl _)]; exact hend) (fun i hi=>by
  obtain ⟨x,hx⟩:∃ x,l[i]?=some x:=⟨_,List.getElem?_eq_getElem hi⟩
  simp only [drop_cons hx,List.all_cons]
  rcases hstep i x hx hi with ⟨h1,h2⟩ | ⟨h1,h2⟩
  ·rw [h1]; exact .inl ⟨h2,rfl⟩
  ·rw [h1]; exact .inr h2)
 simpa using this
theorem itO_flat {α β:Type} (l:List α) (ix:Nat→Int) (f:Option (List β) × Int × Bool→Option ((Option (List β) × Int × Bool) ⊕ (Option (List β) × Bool × Int))) (h:α→List β) (a0:List β) (I:Nat→List β→Prop) (hI:I 0 a0)
  (hend:∀ a,f (nonNil a,ix l.length,accO a)=some (.inr (nonNil a,accO a,ix l.length)))
  (hstep:∀ (i:Nat) x a,l[i]?=some x→i < l.length→I i a→I (i + 1) (a++h x)∧f (nonNil a,ix i,accO a)=some (.inl (nonNil (a++h x),ix (i + 1),accO (a++h x)))):
  itO f (nonNil a0,ix 0,accO a0)=some (nonNil (a0++l.flatMap h),accO (a0++l.flatMap h),ix l.length):=by
 have key:∀ (k i:Nat),i + k=l.length→∀ a,I i a→itO f (nonNil a,ix i,accO a)=some (nonNil (a++(l.drop i).flatMap h),accO (a++(l.drop i).flatMap h),ix l.length):=by
  intro k
  induction k with
  | zero=>
   intro i hi a _
   have:i=l.length:=by omega
   subst this
   rw [List.drop_eq_nil_of_le (Nat.le_refl _),List.flatMap_nil,List.append_nil,itO_out (hend a)]
  | succ k ih=>
   intro i hi a ha
   obtain ⟨x,hx⟩:∃ x,l[i]?=some x:=⟨_,List.getElem?_eq_getElem (by omega)⟩
   obtain ⟨h1,h2⟩:=hstep i x a hx (by omega) ha
   rw [itO_in h2,ih (i + 1) (by omega) _ h1,drop_cons hx,List.flatMap_cons,List.append_assoc]
 have:=key l.length 0 (by omega) a0 hI
 rwa [List.drop_zero] at this
theorem apO_nonNil {α:Type} {a:List α} {x:α} (h:a.length < 1073741824):apO (nonNil a) [x]=some (nonNil (a++[x])):=by
 unfold apO
 cases a with
 | nil=>rfl
 | cons y a=>
  have:((nonNil (y::a)).getD []).length + [x].length≤1073741824:=by simp [nonNil] at h ⊢; omega
  rw [if_pos this]; rfl
theorem own_step {α γ:Type} {a:List α} {x:α} {k:Option (List α)→Option γ} (h:a.length < 1073741824):cond (accO a) (obind (apO (nonNil a) [x]) k) (cond (nonNil a).isNone (obind (apO (nonNil a) [x]) k) none)=k (nonNil (a++[x])):=by
 rw [apO_nonNil h]
 cases a <;> rfl
theorem nonNil_getD {α:Type} (a:List α):(nonNil a).getD []=a:=by cases a <;> rfl
theorem flatMap_one {α β:Type} (h:α→β):∀ l:List α,l.flatMap (fun x=>[h x])=l.map h
 | []=>rfl
 | x::l=>by rw [List.flatMap_cons,flatMap_one h l]; rfl
theorem itO_map {α β:Type} (l:List α) (f:Option (List β) × Int × Bool→Option ((Option (List β) × Int × Bool) ⊕ (Option (List β) × Bool × Int))) (h:α→β) (hl:l.length≤1073741824)
  (hend:∀ a:Option (List β) × Bool,f (a.1,(l.length:Int),a.2)=some (.inr (a.1,a.2,(l.length:Int))))
  (hstep:∀ (i:Nat) x (a:List β),l[i]?=some x→i < l.length→a.length < 1073741824→f (nonNil a,(i:Int),accO a)=some (.inl (nonNil (a++[h x]),((i + 1:Nat):Int),true))):
  itO f (none,0,false)=some (nonNil (l.map h),accO (l.map h),(l.length:Int)):=by
 have:=itO_flat l (fun i=>(i:Int)) f (fun x=>[h x]) [] (fun i a=>a.length=i) rfl (fun a=>hend (nonNil a,accO a)) (fun i x a hx hi ha=>⟨by simp [ha],by rw [hstep i x a hx hi (by omega),accO_snoc]⟩)
 rw [flatMap_one,List.nil_append] at this
 exact this
theorem idxO_at {α:Type} {l:List α} {i:Nat} {x:α} (hx:l[i]?=some x):idxO l (i:Int)=some x:=by rw [idxO_nat,hx]
theorem lt_len {α:Type} {l:List α} {i:Nat} (h:i < l.length):decide ((i:Int) < (l.length:Int))=true:=decide_eq_true (by omega)
theorem nlt_len {n:Nat}:decide ((n:Int) < (n:Int))=false:=decide_eq_false (by omega)
end Go.Z
/-
 Parts and catalogues: what their functions come to.
-/
set_option maxHeartbeats 1000000
namespace Go.Z
open Go Go.Abs
theorem f106_eq {b:Bool} {e:Int}:f106 b e=some (whenE b e):=by cases b <;> rfl
theorem f194_eq {b:Bool} {e:Int}:f194 b e=some (whenE b e):=by cases b <;> rfl
theorem f101_eq {b:Bool} {e:Int}:f101 b e=some (whenE b e):=by cases b <;> rfl
theorem f105_eq {o:Option (List Int)} (hn:(o.getD []).length≤9223372036854775807):f105 o=some (firstNZ (o.getD [])):=by
 obtain ⟨d,h1,h2⟩:=itO_err (o.getD []) (s105_0 o) id (fun d=>match d with | .inl x=>x | .inr _=>0) ⟨.inr _,by unfold s105_0; rw [nlt_len]; rfl,rfl⟩ (fun i x hx hi=>by
  unfold s105_0
  rw [lt_len hi,cond_true,idxO_at hx,obind_at]
  by_cases h:x=0
  ·refine .inl ⟨h,?_⟩
   rw [decide_eq_true h,cond_true,wrap_succ hi hn]
  ·refine .inr ⟨h,.inl x,?_,rfl⟩
   rw [decide_eq_false h,cond_false])
 unfold f105
 rw [h1,obind_at]
 rw [List.map_id] at h2
 rw [← h2]
 cases d <;> rfl
theorem f105_lit {l:List Int} (hn:l.length≤100):f105 (some l)=some (firstNZ l):=f105_eq (o:=some l) (by simp only [Option.getD_some]; omega)
theorem f171_eq {o:Option (List Int)} (hn:(o.getD []).length≤9223372036854775807):f171 o=some (firstNZ (o.getD [])):=by
 obtain ⟨d,h1,h2⟩:=itO_err (o.getD []) (s171_0 o) id (fun d=>match d with | .inl x=>x | .inr _=>0) ⟨.inr _,by unfold s171_0; rw [nlt_len]; rfl,rfl⟩ (fun i x hx hi=>by
  unfold s171_0
  rw [lt_len hi,cond_true,idxO_at hx,obind_at]
  by_cases h:x=0
  ·refine .inl ⟨h,?_⟩
   rw [decide_eq_true h,cond_true,wrap_succ hi hn]
  ·refine .inr ⟨h,.inl x,?_,rfl⟩
   rw [decide_eq_false h,cond_false])
 unfold f171
 rw [h1,obind_at]
 rw [List.map_id] at h2
 rw [← h2]
 cases d <;> rfl
theorem f171_lit {l:List Int} (hn:l.length≤100):f171 (some l)=some (firstNZ l):=f171_eq (o:=some l) (by simp only [Option.getD_some]; omega)
theorem f100_eq {o:Option (List Int)} (hn:(o.getD []).length≤9223372036854775807):f100 o=some (firstNZ (o.getD [])):=by
 obtain ⟨d,h1,h2⟩:=itO_err (o.getD []) (s100_0 o) id (fun d=>match d with | .inl x=>x | .inr _=>0) ⟨.inr _,by unfold s100_0; rw [nlt_len]; rfl,rfl⟩ (fun i x hx hi=>by
  unfold s100_0
  rw [lt_len hi,cond_true,idxO_at hx,obind_at]
  by_cases h:x=0
  ·refine .inl ⟨h,?_⟩
   rw [decide_eq_true h,cond_true,wrap_succ hi hn]
  ·refine .inr ⟨h,.inl x,?_,rfl⟩
   rw [decide_eq_false h,cond_false])
 unfold f100
 rw [h1,obind_at]
 rw [List.map_id] at h2
 rw [← h2]
 cases d <;> rfl
theorem f100_lit {l:List Int} (hn:l.length≤100):f100 (some l)=some (firstNZ l):=f100_eq (o:=some l) (by simp only [Option.getD_some]; omega)
theorem f109_eq {n lo hi:Int}:f109 n lo hi=some (checkRange n lo hi):=by
 unfold f109 checkRange
 by_cases h:n < lo
 ·simp only [h,decide_true,cond_true,f106_eq,obind_at,whenE,if_true]
 ·by_cases h2:hi < n <;> simp [h,h2,f106_eq,whenE]
theorem f195_eq {n lo hi:Int}:f195 n lo hi=some (checkRange n lo hi):=by
 unfold f195 checkRange
 by_cases h:n < lo
 ·simp only [h,decide_true,cond_true,f194_eq,obind_at,whenE,if_true]
 ·by_cases h2:hi < n <;> simp [h,h2,f194_eq,whenE]
theorem f40_eq {n lo hi:Int}:f40 n lo hi=some (checkRange n lo hi):=by
 unfold f40 checkRange
 by_cases h:n < lo
 ·simp [h]
 ·by_cases h2:hi < n <;> simp [h,h2]
theorem f172_eq {w:Int}:f172 w=some (checkRange w 1 8):=by unfold f172; rw [f195_eq]; rfl
theorem f122_eq {w:Int}:f122 w=some (checkRange w 1 8):=by unfold f122; rw [f109_eq]; rfl
theorem first_zero:∀ {l:List Int},firstNZ l=0↔∀ x∈l,x=0
 | []=>by simp [firstNZ]
 | x::l=>by
  simp only [firstNZ,List.mem_cons,forall_eq_or_imp]
  by_cases h:x=0
  ·rw [if_pos h,first_zero]; simp [h]
  ·rw [if_neg h]; simp [h]
theorem nameAll_drop {s:List UInt8} {i:Nat} {c:UInt8} (hc:s[i]?=some c):nameAll i (s.drop i)=(nameB i c.toNat && nameAll (i + 1) (s.drop (i + 1))):=by
 rw [drop_cons hc]; rfl
theorem rune_cases {s:List UInt8} {i:Nat} {c:UInt8} (hc:s[i]?=some c):(c.toNat < 128∧decodeA s i=(c.toNat,1))∨(128≤c.toNat∧128≤(decodeA s i).1):=by
 by_cases h:c.toNat < 128
 ·exact .inl ⟨h,decode_lt hc h⟩
 ·exact .inr ⟨by omega,decode_ge hc h⟩
theorem nameB_big {i:Nat} {x:Int} (h:128≤x):nameB i x=false:=by
 unfold nameB
 simp (disch:=omega) only [decide_eq_false,Bool.or_self,Bool.and_false]
def st107:Nat→Option Nat
 | 0=>none
 | i + 1=>some (i + 1)
theorem f107_eq {s:List UInt8}:f107 s=some (isName s):=by
 unfold f107
 obtain ⟨d,g1,g2⟩:=itO_ix s.length st107 (s107_0 s) (fun d=>match d with | .inl _=>false | .inr _=>true) (fun i=>nameAll i (s.drop i)) (by
   rw [List.drop_eq_nil_of_le (Nat.le_refl _)]
   cases hn:s.length with
   | zero=>
    refine ⟨.inr 0,?_,rfl⟩
    show s107_0z s=_
    unfold s107_0z
    rw [hn]; rfl
   | succ n=>
    refine ⟨.inr (n + 1),?_,rfl⟩
    show s107_0r s (n + 1)=_
    unfold s107_0r
    rw [hn,decide_eq_false (by omega)]; rfl) (fun i hi=>by
   obtain ⟨c,hc⟩:∃ c,s[i]?=some c:=⟨_,List.getElem?_eq_getElem hi⟩
   rw [nameAll_drop hc]
   cases i with
   | zero=>
    show (s107_0z s=_∧_)∨(∃ d,s107_0z s=_∧_)
    unfold s107_0z
    rw [decide_eq_true hi,cond_true]
    rcases rune_cases hc with ⟨hlt,he⟩ | ⟨hge,hr⟩
    ·rw [he]
     simp only []
     have hx:0≤(c.toNat:Int):=by omega
     unfold nameB
     generalize (c.toNat:Int)=x at hx ⊢
     rcases kinds x with h | h | h | h | h | h | h | h | h <;>
      simp (disch:=omega) only [decide_eq_true,decide_eq_false,cond_true,cond_false,Bool.or_false,Bool.false_or,Bool.true_or,Bool.and_true,Bool.true_and,Bool.false_and] <;>
      first
       | exact .inl ⟨trivial,trivial⟩
       | exact .inl ⟨rfl,trivial⟩
       | exact .inl ⟨rfl,rfl⟩
       | exact .inr ⟨_,rfl,rfl⟩
    ·rw [nameB_big (by omega)]
     generalize hd:decodeA s 0=dd at hr ⊢
     have hr':(128:Int)≤(dd.1:Int):=by omega
     generalize (dd.1:Int)=x at hr' ⊢
     simp (disch:=omega) only [decide_eq_true,decide_eq_false,cond_true,cond_false,Bool.false_and]
     exact .inr ⟨_,rfl,rfl⟩
   | succ i=>
    show (s107_0r s (i + 1)=_∧_)∨(∃ d,s107_0r s (i + 1)=_∧_)
    unfold s107_0r
    rw [decide_eq_true hi,cond_true]
    rcases rune_cases hc with ⟨hlt,he⟩ | ⟨hge,hr⟩
    ·rw [he]
     simp only []
     have hx:0≤(c.toNat:Int):=by omega
     unfold nameB
     generalize (c.toNat:Int)=x at hx ⊢
     have e0:decide (((i + 1:Nat):Int)=0)=false:=decide_eq_false (by omega)
     rcases kinds x with h | h | h | h | h | h | h | h | h <;>
      simp (disch:=omega) only [e0,decide_eq_true,decide_eq_false,cond_true,cond_false,Bool.or_false,Bool.or_true,Bool.false_or,Bool.true_or,Bool.and_true,Bool.true_and,Bool.false_and] <;>
      first
       | exact .inl ⟨trivial,trivial⟩
       | exact .inl ⟨rfl,trivial⟩
       | exact .inl ⟨rfl,rfl⟩
       | exact .inr ⟨_,rfl,rfl⟩
    ·rw [nameB_big (by omega)]
     generalize hd:decodeA s (i + 1)=dd at hr ⊢
     have hr':(128:Int)≤(dd.1:Int):=by omega
     have e0:decide (((i + 1:Nat):Int)=0)=false:=decide_eq_false (by omega)
     generalize (dd.1:Int)=x at hr' ⊢
     simp (disch:=omega) only [e0,decide_eq_true,decide_eq_false,cond_true,cond_false,Bool.false_and]
     exact .inr ⟨_,rfl,rfl⟩)
 have g1:itO (s107_0 s) none=some d:=g1
 rw [g1,obind_at]
 unfold isName
 rw [List.drop_zero] at g2
 cases d with
 | inl d=>simp only [] at g2; rw [← g2]; simp
 | inr d=>
  simp only [] at g2
  rw [← g2]
  by_cases h0:s=[]
  ·subst h0; rfl
  ·have e:decide ((s.length:Int)≤24)=decide (s.length≤24):=by by_cases h:s.length≤24 <;> simp [h] <;> omega
   rw [e]
   simp [h0]
end Go.Z
/-
 Ladders,the values of a part,parts and catalogues: what their checks come to.
-/
namespace Go.Z
open Go Go.Abs
def kB:List UInt8:=[98,108,111,99,107]
def kSe:List UInt8:=[115,101,114,105,101,115]
def kSh:List UInt8:=[115,104,117,110,116]
def kT:List UInt8:=[116,114,97,112]
def isK (s:List UInt8):Bool:=decide (s=kB) || decide (s=kSe) || decide (s=kSh) || decide (s=kT)
def divK (s:List UInt8):Bool:=decide (s=kB) || decide (s=kT)
def elemE (x:GEl):Int:=firstNZ [whenE (!isK x.kind) 13,checkRange x.a 0 8,checkRange x.b 0 8,whenE (divK x.kind && decide (x.a=0) && decide (x.b=0)) 6]
def ladderE (l:List GEl):Int:=if 5 < l.length then 5 else firstNZ (l.map elemE)
theorem err_leaf {δ:Type} {F q:Int} {A B:Option (Int ⊕ δ)} {d:δ} {V:δ→Int} (hF:F=q) (hA:A=B) (hV:V d=F):(q=0∧cond (decide (F=0)) A (some (.inr d))=B)∨(q ≠ 0∧∃ d',cond (decide (F=0)) A (some (.inr d))=some (.inr d')∧V d'=q):=by
 subst hF
 by_cases h:F=0
 ·exact .inl ⟨h,by rw [decide_eq_true h]; exact hA⟩
 ·exact .inr ⟨h,d,by rw [decide_eq_false h]; rfl,hV⟩
theorem f158_eq {o:Option (List GEl)}:f158 o=some (ladderE (o.getD [])):=by
 unfold f158 ladderE
 by_cases h5:(5:Int) < ((o.getD []).length:Int)
 ·rw [decide_eq_true h5,if_pos (by omega)]; rfl
 ·rw [decide_eq_false h5,if_neg (by omega),cond_false]
  have hn:(o.getD []).length≤9223372036854775807:=by omega
  obtain ⟨d,g1,g2⟩:=itO_err (o.getD []) (s158_0 o) elemE (fun d=>match d with
   | .inl d226=>d226.1
   | .inr (.inl d227)=>d227.1
   | .inr (.inr (.inl d228))=>d228.1
   | .inr (.inr (.inr (.inl d229)))=>d229.1
   | .inr (.inr (.inr (.inr (.inl d230))))=>d230.1
   | .inr (.inr (.inr (.inr (.inr d231))))=>0) ⟨_,by unfold s158_0; rw [nlt_len]; rfl,rfl⟩ (fun i x hx hi=>by
    unfold s158_0
    rw [lt_len hi,cond_true,idxO_at hx,obind_at,wrap_succ hi hn]
    simp only [f194_eq,f195_eq,obind_at]
    by_cases k1:x.kind=kB
    ·rw [decide_eq_true (show x.kind=[98,108,111,99,107] from k1),cond_true]
     by_cases ha:x.a=0
     ·rw [decide_eq_true ha,cond_true,f171_lit (by simp),obind_at]
      exact err_leaf (by simp [elemE,isK,divK,k1,ha]) rfl rfl
     ·rw [decide_eq_false ha,cond_false,f171_lit (by simp),obind_at]
      exact err_leaf (by simp [elemE,isK,divK,k1,ha]) rfl rfl
    rw [decide_eq_false (show ¬ x.kind=[98,108,111,99,107] from k1),cond_false]
    by_cases k2:x.kind=kSe
    ·rw [decide_eq_true (show x.kind=[115,101,114,105,101,115] from k2),cond_true,f171_lit (by simp),obind_at]
     exact err_leaf (by simp [elemE,isK,divK,k2,kSe,kB,kT]) rfl rfl
    rw [decide_eq_false (show ¬ x.kind=[115,101,114,105,101,115] from k2),cond_false]
    by_cases k3:x.kind=kSh
    ·rw [decide_eq_true (show x.kind=[115,104,117,110,116] from k3),cond_true,f171_lit (by simp),obind_at]
     exact err_leaf (by simp [elemE,isK,divK,k3,kSh,kSe,kB,kT]) rfl rfl
    rw [decide_eq_false (show ¬ x.kind=[115,104,117,110,116] from k3),cond_false]
    by_cases k4:x.kind=kT
    ·rw [decide_eq_true (show x.kind=[116,114,97,112] from k4),cond_true]
     by_cases ha:x.a=0
     ·rw [decide_eq_true ha,cond_true,f171_lit (by simp),obind_at]
      exact err_leaf (by simp [elemE,isK,divK,k4,ha]) rfl rfl
     ·rw [decide_eq_false ha,cond_false,f171_lit (by simp),obind_at]
      exact err_leaf (by simp [elemE,isK,divK,k4,ha]) rfl rfl
    rw [decide_eq_false (show ¬ x.kind=[116,114,97,112] from k4),cond_false,f171_lit (by simp),obind_at]
    exact err_leaf (by simp [elemE,isK,divK,k1,k2,k3,k4]) rfl rfl)
  rw [g1,obind_at,← g2]
  rcases d with d | d | d | d | d | d <;> rfl
theorem ladderE_one {x:GEl}:ladderE [x]=elemE x:=by
 unfold ladderE
 simp only [List.length_cons,List.length_nil,List.map_cons,List.map_nil,firstNZ]
 by_cases h:elemE x=0 <;> simp [h]
theorem f108_eq {x:GEl}:f108 x=some (elemE x):=by unfold f108; rw [f158_eq]; simp only [Option.getD_some,ladderE_one]; rfl
theorem f108y_eq {x:GEl}:f108y x=some (elemE x):=f108_eq
theorem f191_eq {l:List (List UInt8)} {s:List UInt8} (hn:l.length≤100):f191 (some l) s=some (!l.all fun y=>!decide (y=s)):=by
 unfold f191
 obtain ⟨d,g1,g2⟩:=itO_allB l (s191_0 (some l) s) (fun y=>!decide (y=s)) (fun d=>match d with | .inl _=>false | .inr _=>true) ⟨.inr _,by unfold s191_0; simp only [Option.getD_some]; rw [nlt_len]; rfl,rfl⟩ (fun i x hx hi=>by
  unfold s191_0
  simp only [Option.getD_some]
  rw [lt_len hi,cond_true,idxO_at hx,obind_at,wrap_succ hi (by omega)]
  by_cases h:x=s
  ·exact .inr ⟨by simp [h],.inl (),by rw [decide_eq_true h]; rfl,rfl⟩
  ·exact .inl ⟨by simp [h],by rw [decide_eq_false h]; rfl⟩)
 rw [g1,obind_at,← g2]
 cases d <;> rfl
theorem f157_eq {x:GEl}:f157 x=some (elemE x):=by
 unfold f157
 have h192:f192=some (some [kB,kSe,kSh,kT]):=rfl
 rw [h192,obind_at,f191_eq (by decide),obind_at]
 have hk:(!([kB,kSe,kSh,kT].all fun y=>!decide (y=x.kind)))=isK x.kind:=by
  simp only [List.all_cons,List.all_nil,isK,Bool.and_true,Bool.not_and,Bool.not_not,eq_comm (a:=x.kind),Bool.or_assoc]
 rw [hk]
 simp only [f40_eq,obind_at]
 unfold elemE
 cases hK:isK x.kind with
 | false=>simp [firstNZ,whenE]
 | true=>
  rw [cond_true,f100_lit (by simp),obind_at]
  have hd:f55 x.kind=some (divK x.kind):=by
   unfold f55 divK
   by_cases h:x.kind=kB
   ·rw [decide_eq_true (show x.kind=[98,108,111,99,107] from h),decide_eq_true h]; rfl
   ·rw [decide_eq_false (show ¬ x.kind=[98,108,111,99,107] from h),decide_eq_false h]; rfl
  rw [hd]
  by_cases h1:checkRange x.a 0 8=0
  ·by_cases h2:checkRange x.b 0 8=0
   ·simp only [firstNZ,h1,h2,if_true,decide_true,cond_true,obind_at]
    cases hD:divK x.kind with
    | false=>simp [whenE]
    | true=>
     by_cases ha:x.a=0
     ·by_cases hb:x.b=0 <;> simp [whenE,ha,hb]
     ·simp [whenE,ha]
   ·simp [firstNZ,h1,h2,whenE]
  ·simp [firstNZ,h1,whenE]
theorem f103_eq {o:Option (List GEl)}:f103 o=some (ladderE (o.getD [])):=by
 unfold f103 ladderE
 by_cases h5:(5:Int) < ((o.getD []).length:Int)
 ·rw [decide_eq_true h5,if_pos (by omega)]; rfl
 ·rw [decide_eq_false h5,if_neg (by omega),cond_false]
  have hn:(o.getD []).length≤9223372036854775807:=by omega
  obtain ⟨d,g1,g2⟩:=itO_err (o.getD []) (s103_0 o) elemE (fun d=>match d with | .inl x=>x | .inr _=>0) ⟨.inr _,by unfold s103_0; rw [nlt_len]; rfl,rfl⟩ (fun i x hx hi=>by
   unfold s103_0
   rw [lt_len hi,cond_true,idxO_at hx,obind_at,f157_eq,obind_at,wrap_succ hi hn]
   exact err_leaf rfl rfl rfl)
  rw [g1,obind_at,← g2]
  cases d <;> rfl
def numsE (a s:Int) (c:Bool):List Int:=if s=0 then [a] else if c then [a - s,a + s] else [a - 1,a,a + 1]
def okN (a s:Int):Prop:=0≤a∧a≤8∧0≤s∧s≤1
theorem wrap_small {x:Int} (h:-1000000≤x∧x≤1000000):wrapF .i64 x=x:=by
 exact wrapF_i64 (by omega) (by omega)
end Go.Z
/-
 The values of a part; parts and catalogues: what their checks come to,on both sides.
-/
namespace Go.Z
open Go Go.Abs
theorem nums_len {a s:Int} (h:okN a s):((numsE a s false).length:Int)=2 * s + 1:=by
 obtain ⟨h1,h2,h3,h4⟩:=h
 rcases (show s=0∨s=1 by omega) with rfl | rfl <;> rfl
theorem nums_at {a s:Int} (h:okN a s) {i:Nat} {x:Int} (hx:(numsE a s false)[i]?=some x):x=a - s + i:=by
 obtain ⟨h1,h2,h3,h4⟩:=h
 rcases (show s=0∨s=1 by omega) with rfl | rfl
 ·match i,hx with
  | 0,hx=>cases hx; omega
 ·match i,hx with
  | 0,hx=>cases hx; omega
  | 1,hx=>cases hx; omega
  | 2,hx=>cases hx; omega
theorem nums_le {a s:Int} {c:Bool}:(numsE a s c).length≤3:=by
 unfold numsE
 split
 ·simp
 ·split <;> simp
theorem f155_eq {a s:Int} (h:okN a s):f155 a s=some ⟨a - s,a + s⟩:=by
 obtain ⟨h1,h2,h3,h4⟩:=h
 unfold f155
 rw [wrap_small (by omega),wrap_small (by omega)]
theorem f156_eq {a s:Int} {c:Bool} (h:okN a s):f156 ⟨a - s,a + s⟩ c=some (some (numsE a s c),true):=by
 have h':=h
 obtain ⟨h1,h2,h3,h4⟩:=h'
 unfold f156
 simp only []
 by_cases hs:s=0
 ·subst hs
  rw [decide_eq_true (by omega)]
  simp [numsE]
 ·rw [decide_eq_false (by omega),cond_false]
  cases c with
  | true=>simp [numsE,hs]
  | false=>
   rw [cond_false]
   have:=itO_flat (numsE a s false) (fun i=>a - s + i) (s156_0 ⟨a - s,a + s⟩) (fun x=>[x]) [] (fun i l=>l.length=i) rfl (fun l=>by
    unfold s156_0
    simp only []
    rw [nums_len h,decide_eq_false (by omega)]; rfl) (fun i x l hx hi hl=>by
    have hxi:=nums_at h hx
    have:=nums_len h
    refine ⟨by simp [hl],?_⟩
    unfold s156_0
    simp only []
    rw [decide_eq_true (by omega),cond_true,own_step (by omega),wrap_small (by omega),accO_snoc,hxi]
    congr 4
    omega)
   have e0:a - s + ((0:Nat):Int)=a - s:=by omega
   rw [e0] at this
   rw [show (nonNil ([]:List Int),a - s,accO ([]:List Int))=(none,a - s,false) from rfl] at this
   rw [this,obind_at,List.nil_append,flatMap_one,List.map_id']
   have hne:numsE a s false=[a - 1,a,a + 1]:=by simp [numsE,hs]
   rw [hne]; rfl
def valsE (p:GPart) (c:Bool):List GEl:=(numsE p.pa p.sa c).flatMap fun a=>(numsE p.pb p.sb c).map fun b=>⟨p.kd,a,b⟩
def okP (p:GPart):Prop:=okN p.pa p.sa∧okN p.pb p.sb
theorem vals_ne {p:GPart} {c:Bool}:valsE p c ≠ []:=by
 have h:∀ a s,numsE a s c ≠ []:=by
  intro a s
  unfold numsE
  split
  ·simp
  ·split <;> simp
 unfold valsE
 obtain ⟨x,l,hx⟩:∃ x l,numsE p.pa p.sa c=x::l:=by
  cases hn:numsE p.pa p.sa c with
  | nil=>exact absurd hn (h _ _)
  | cons x l=>exact ⟨x,l,rfl⟩
 obtain ⟨y,m,hy⟩:∃ x l,numsE p.pb p.sb c=x::l:=by
  cases hn:numsE p.pb p.sb c with
  | nil=>exact absurd hn (h _ _)
  | cons x l=>exact ⟨x,l,rfl⟩
 rw [hx,hy]
 simp
theorem nonNil_ne {α:Type} {l:List α} (h:l ≠ []):nonNil l=some l∧accO l=true:=by
 cases l with
 | nil=>exact absurd rfl h
 | cons x l=>exact ⟨rfl,rfl⟩
theorem vals_le {p:GPart} {c:Bool}:(valsE p c).length≤9:=by
 unfold valsE
 have h1:=nums_le (a:=p.pa) (s:=p.sa) (c:=c)
 have h2:=nums_le (a:=p.pb) (s:=p.sb) (c:=c)
 generalize numsE p.pa p.sa c=l at h1
 generalize numsE p.pb p.sb c=m at h2
 have:∀ l:List Int,(l.flatMap fun a=>m.map fun b=>(⟨p.kd,a,b⟩:GEl)).length=l.length * m.length:=by
  intro l
  induction l with
  | nil=>simp
  | cons x l ih=>rw [List.flatMap_cons,List.length_append,ih,List.length_map,List.length_cons,Nat.succ_mul]; omega
 rw [this]
 exact Nat.le_trans (Nat.mul_le_mul h1 h2) (by decide)
theorem f99_eq {p:GPart} {c:Bool} (h:okP p):f99 p c=some (some (valsE p c),true):=by
 unfold f99
 rw [f155_eq h.1,obind_at,f156_eq h.1,obind_at]
 have:=itO_flat (numsE p.pa p.sa c) (fun i=>(i:Int)) (s99_0 p c (some (numsE p.pa p.sa c),true)) (fun a=>(numsE p.pb p.sb c).map fun b=>(⟨p.kd,a,b⟩:GEl)) [] (fun i l=>l.length≤3 * i) (by simp) (fun l=>by
  unfold s99_0
  simp only [Option.getD_some]
  rw [nlt_len]; rfl) (fun i x l hx hi hl=>by
  have hn:=nums_le (a:=p.pa) (s:=p.sa) (c:=c)
  have hm:=nums_le (a:=p.pb) (s:=p.sb) (c:=c)
  refine ⟨by rw [List.length_append,List.length_map]; omega,?_⟩
  unfold s99_0
  simp only [Option.getD_some]
  rw [lt_len hi,cond_true,idxO_at hx,obind_at,f155_eq h.2,obind_at,f156_eq h.2,obind_at]
  have inner:=itO_flat (numsE p.pb p.sb c) (fun j=>(j:Int)) (s99_1 p c (some (numsE p.pa p.sa c),true) (nonNil l,(i:Int),accO l) x (some (numsE p.pb p.sb c),true)) (fun b=>[(⟨p.kd,x,b⟩:GEl)]) l (fun j k=>k.length=l.length + j) (by simp) (fun k=>by
   unfold s99_1
   simp only [Option.getD_some]
   rw [nlt_len]; rfl) (fun j y k hy hj hk=>by
   refine ⟨by simp [hk]; omega,?_⟩
   unfold s99_1
   simp only [Option.getD_some]
   rw [lt_len hj,cond_true,idxO_at hy,obind_at,own_step (by omega),wrap_succ hj (by omega),accO_snoc])
  rw [flatMap_one] at inner
  rw [show (((0:Nat):Int))=0 from rfl] at inner
  rw [inner,obind_at,wrap_succ hi (by omega)])
 rw [show (nonNil ([]:List GEl),((0:Nat):Int),accO ([]:List GEl))=(none,0,false) from rfl] at this
 rw [this,obind_at,List.nil_append]
 obtain ⟨e1,e2⟩:=nonNil_ne (vals_ne (p:=p) (c:=c))
 show some (nonNil (valsE p c),accO (valsE p c))=_
 rw [e1,e2]
theorem f110_eq {l:List GEl} (hl:l.length≤1073741824):f110 (some l)=some (nonNil (l.map elemE),accO (l.map elemE)):=by
 unfold f110
 rw [itO_map l (s110_0 (some l)) elemE hl (fun a=>by unfold s110_0; simp only [Option.getD_some]; rw [nlt_len]; rfl) (fun i x a hx hi ha=>by
  unfold s110_0
  simp only [Option.getD_some]
  rw [lt_len hi,cond_true,idxO_at hx,obind_at,f108y_eq,obind_at,own_step ha,wrap_succ hi (by omega)]),obind_at]
def partA (p:GPart):Int:=firstNZ [whenE (!isName p.name) 8,elemE ⟨p.kd,p.pa,p.pb⟩,checkRange p.sa 0 1,checkRange p.sb 0 1,checkRange p.cost 1 1000000,checkRange p.stock 0 100]
def partE (p:GPart):Int:=if partA p=0 then whenE (!decide (firstNZ ((valsE p false).map elemE)=0)) 1 else partA p
theorem range_zero {n lo hi:Int}:checkRange n lo hi=0↔lo≤n∧n≤hi:=by
 unfold checkRange
 split
 ·constructor
  ·intro h; cases h
  ·intro h; omega
 ·split
  ·constructor
   ·intro h; cases h
   ·intro h; omega
  ·constructor
   ·intro; omega
   ·intro; rfl
theorem elem_zero {x:GEl} (h:elemE x=0):isK x.kind=true∧(0≤x.a∧x.a≤8)∧(0≤x.b∧x.b≤8)∧¬ (divK x.kind=true∧x.a=0∧x.b=0):=by
 have:=first_zero.1 h
 simp only [List.mem_cons,List.not_mem_nil,or_false,forall_eq_or_imp,forall_eq] at this
 obtain ⟨h1,h2,h3,h4⟩:=this
 refine ⟨?_,range_zero.1 h2,range_zero.1 h3,?_⟩
 ·cases hk:isK x.kind with
  | true=>rfl
  | false=>rw [hk] at h1; cases h1
 ·rintro ⟨hd,ha,hb⟩
  rw [hd,ha,hb] at h4
  cases h4
theorem part_ok {p:GPart} (h:partA p=0):okP p:=by
 have:=first_zero.1 h
 simp only [List.mem_cons,List.not_mem_nil,or_false,forall_eq_or_imp,forall_eq] at this
 obtain ⟨_,h2,h3,h4,_⟩:=this
 obtain ⟨_,ha,hb,_⟩:=elem_zero h2
 have e1:=range_zero.1 h3
 have e2:=range_zero.1 h4
 exact ⟨⟨ha.1,ha.2,e1.1,e1.2⟩,⟨hb.1,hb.2,e2.1,e2.2⟩⟩
theorem f22_eq {p:GPart}:f22 p=some (partE p):=by
 unfold f22
 simp only [f107_eq,f106_eq,f108_eq,f109_eq,obind_at]
 rw [f105_lit (by simp),obind_at]
 show cond (decide (partA p=0)) _ (some (partA p))=_
 unfold partE
 by_cases h:partA p=0
 ·rw [decide_eq_true h,cond_true,if_pos h,f99_eq (part_ok h),obind_at,f110_eq (by have:=vals_le (p:=p) (c:=false); omega),obind_at,
   f105_eq (by rw [nonNil_getD,List.length_map]; have:=vals_le (p:=p) (c:=false); omega),obind_at,nonNil_getD]
 ·rw [decide_eq_false h,if_neg h]; rfl
def catR:List (List UInt8)→List GPart→Int
 | _,[]=>0
 | seen,p::l=>if firstNZ [partE p,whenE (decide (p.name∈seen)) 9]=0 then catR (seen++[p.name]) l else firstNZ [partE p,whenE (decide (p.name∈seen)) 9]
def catE (l:List GPart):Int:=if 6 < l.length then 5 else catR [] l
theorem take_name {l:List GPart} {i:Nat} {p:GPart} (hp:l[i]?=some p):(l.take (i + 1)).map (·.name)=(l.take i).map (·.name)++[p.name]:=by
 obtain ⟨hi,rfl⟩:=List.getElem?_eq_some_iff.1 hp
 rw [List.take_add_one,List.getElem?_eq_getElem hi,List.map_append]
 rfl
theorem f23_eq {o:Option (List GPart)}:f23 o=some (catE (o.getD [])):=by
 unfold f23 catE
 by_cases h6:(6:Int) < ((o.getD []).length:Int)
 ·rw [decide_eq_true h6,if_pos (by omega)]; rfl
 ·rw [decide_eq_false h6,if_neg (by omega),cond_false]
  generalize hl:o.getD []=l at h6 ⊢
  obtain ⟨d,g1,g2⟩:=itO_ix l.length (fun i=>((i:Int),(l.take i).map (·.name))) (s23_0 o) (fun d=>match d with | .inl x=>x.1 | .inr _=>0) (fun i=>catR ((l.take i).map (·.name)) (l.drop i)) ⟨.inr _,by unfold s23_0; simp only [hl]; rw [nlt_len]; rfl,by rw [List.drop_eq_nil_of_le (Nat.le_refl _)]; rfl⟩ (fun i hi=>by
   obtain ⟨p,hp⟩:∃ p,l[i]?=some p:=⟨_,List.getElem?_eq_getElem hi⟩
   unfold s23_0
   simp only [hl]
   rw [lt_len hi,cond_true,idxO_at hp,obind_at,f22_eq,obind_at,f106_eq,obind_at,f105_lit (by simp),obind_at,wrap_succ hi (by omega),drop_cons hp]
   simp only [catR]
   rw [show memS (List.map (·.name) (List.take i l)) p.name=decide (p.name∈(l.take i).map (·.name)) from rfl]
   by_cases he:firstNZ [partE p,whenE (decide (p.name∈(l.take i).map (·.name))) 9]=0
   ·left
    rw [decide_eq_true he,cond_true,if_pos he,take_name hp]
    refine ⟨?_,rfl⟩
    have hn:decide (p.name∈(l.take i).map (·.name))=false:=by
     cases hm:decide (p.name∈(l.take i).map (·.name)) with
     | false=>rfl
     | true=>
      rw [hm] at he
      have:=first_zero.1 he (whenE true 9) (by simp)
      cases this
    have ha:addS ((l.take i).map (·.name)) p.name=some ((l.take i).map (·.name)++[p.name]):=by
     unfold addS memS
     rw [hn]
     simp only [Bool.false_eq_true,if_false]
     rw [if_pos (by rw [List.length_map,List.length_take]; omega)]
    rw [ha]; rfl
   ·right
    rw [decide_eq_false he,cond_false,if_neg he]
    exact ⟨_,rfl,rfl⟩)
  have g1:itO (s23_0 o) (0,[])=some d:=g1
  rw [g1,obind_at]
  simp only [List.take_zero,List.map_nil,List.drop_zero] at g2
  rw [← g2]
  cases d <;> rfl
end Go.Z
