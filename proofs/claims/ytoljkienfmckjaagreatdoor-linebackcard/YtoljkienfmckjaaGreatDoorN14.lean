/-
  LineTexts, LineBack: texts cut at a byte: the reference's Split, the library's Split and Lines.
-/
import Derived.Test.YtoljkienfmckjaaGreatDoorN6
import Derived.Test.YtoljkienfmckjaaGreatDoorG0m
import Derived.Lib.SplitLaws
import Derived.Test.YtoljkienfmckjaaGreatDoorN4
set_option linter.unusedVariables false
set_option linter.unusedSimpArgs false
set_option maxRecDepth 100000
namespace Go.Z
open Go Go.Abs
def splA (c:UInt8) (acc:List UInt8):List UInt8→List (List UInt8)
 | []=>[acc]
 | x::t=>if x=c then acc::splA c [] t else splA c (acc++[x]) t
def spl (c:UInt8) (s:List UInt8):List (List UInt8):=splA c [] s
theorem splA_no {c:UInt8}:∀ {s:List UInt8} {acc:List UInt8},c ∉ s→splA c acc s=[acc++s]
 | [],acc,_=>by simp [splA]
 | x::t,acc,h=>by
  have h1:x ≠ c:=fun e=>h (by simp [e])
  have h2:c ∉ t:=fun e=>h (by simp [e])
  rw [splA,if_neg h1,splA_no h2]
  simp
theorem splA_at {c:UInt8}:∀ {a b acc:List UInt8},c ∉ a→splA c acc (a++c::b)=(acc++a)::spl c b
 | [],b,acc,_=>by simp [splA,spl]
 | x::t,b,acc,h=>by
  have h1:x ≠ c:=fun e=>h (by simp [e])
  have h2:c ∉ t:=fun e=>h (by simp [e])
  rw [List.cons_append,splA,if_neg h1,splA_at h2]
  simp
theorem spl_no {c:UInt8} {s:List UInt8} (h:c ∉ s):spl c s=[s]:=splA_no h
theorem spl_at {c:UInt8} {a b:List UInt8} (h:c ∉ a):spl c (a++c::b)=a::spl c b:=splA_at h
theorem spl_cases (c:UInt8) (s:List UInt8):c ∉ s∨∃ a b,s=a++c::b∧c ∉ a:=by
 by_cases h:c∈s
 ·obtain ⟨a,b,h1,h2⟩:=List.eq_append_cons_of_mem h
  exact .inr ⟨a,b,h1,h2⟩
 ·exact .inl h
theorem spl_ind {c:UInt8} {P:List UInt8→Prop} (h0:∀ s,c ∉ s→P s) (h1:∀ a b,c ∉ a→P b→P (a++c::b)):∀ (n:Nat) (s:List UInt8),s.length≤n→P s
 | 0,s,hn=>h0 s (by rw [List.length_eq_zero_iff.1 (by omega:s.length=0)]; simp)
 | n + 1,s,hn=>by
  rcases spl_cases c s with h | ⟨a,b,rfl,h⟩
  ·exact h0 s h
  ·exact h1 a b h (spl_ind h0 h1 n b (by simp only [List.length_append,List.length_cons] at hn; omega))
theorem spl_ne (c:UInt8) (s:List UInt8):spl c s ≠ []:=by
 rcases spl_cases c s with h | ⟨a,b,rfl,h⟩
 ·rw [spl_no h]; simp
 ·rw [spl_at h]; simp
theorem spl_mem (c:UInt8) (s:List UInt8):∀ w∈spl c s,w.length≤s.length∧c ∉ w:=by
 refine spl_ind (c:=c) (P:=fun s=>∀ w∈spl c s,w.length≤s.length∧c ∉ w) ?_ ?_ s.length s (Nat.le_refl _)
 ·intro s h w hw
  rw [spl_no h] at hw
  obtain rfl:=List.mem_singleton.1 hw
  exact ⟨Nat.le_refl _,h⟩
 ·intro a b h ih w hw
  rw [spl_at h] at hw
  simp only [List.length_append,List.length_cons]
  rcases List.mem_cons.1 hw with rfl | hw
  ·exact ⟨by omega,h⟩
  ·have:=ih w hw
   exact ⟨by omega,this.2⟩
theorem spl_len (c:UInt8) (s:List UInt8):(spl c s).length≤s.length + 1:=by
 refine spl_ind (c:=c) (P:=fun s=>(spl c s).length≤s.length + 1) ?_ ?_ s.length s (Nat.le_refl _)
 ·intro s h; rw [spl_no h]; simp
 ·intro a b h ih
  rw [spl_at h]
  simp only [List.length_append,List.length_cons]
  omega
theorem spl_join (c:UInt8) (s:List UInt8):Lib.join (spl c s) [c]=s:=by
 refine spl_ind (c:=c) (P:=fun s=>Lib.join (spl c s) [c]=s) ?_ ?_ s.length s (Nat.le_refl _)
 ·intro s h; rw [spl_no h,Lib.join_one]
 ·intro a b h ih
  rw [spl_at h]
  cases hb:spl c b with
  | nil=>exact absurd hb (spl_ne c b)
  | cons x r=>
   rw [hb] at ih
   rw [Lib.join_cons]
   rw [Lib.join_cons] at ih
   simp only [Lib.joinTail,List.map_cons,List.flatten_cons] at ih ⊢
   rw [← ih]
   simp
theorem spl_of_join (c:UInt8):∀ (x:List UInt8) (r:List (List UInt8)),c ∉ x→(∀ y∈r,c ∉ y)→spl c (Lib.join (x::r) [c])=x::r
 | x,[],hx,_=>by rw [Lib.join_one,spl_no hx]
 | x,y::r,hx,hr=>by
  have ih:=spl_of_join c y r (hr y (by simp)) (fun z hz=>hr z (by simp [hz]))
  rw [Lib.join_cons] at ih ⊢
  simp only [Lib.joinTail,List.map_cons,List.flatten_cons,List.cons_append,List.nil_append] at ih ⊢
  rw [spl_at hx,ih]
theorem index_no {c:UInt8}:∀ {s:List UInt8},c ∉ s→Lib.index s [c]=-1
 | [],_=>rfl
 | x::t,h=>by
  have h1:x ≠ c:=fun e=>h (by simp [e])
  have h2:c ∉ t:=fun e=>h (by simp [e])
  have hp:([c]:List UInt8).isPrefixOf (x::t)=false:=by simp [List.isPrefixOf,Ne.symm h1]
  rw [Lib.index,hp,index_no h2]; rfl
theorem index_at {c:UInt8}:∀ {a b:List UInt8},c ∉ a→Lib.index (a++c::b) [c]=(a.length:Int)
 | [],b,_=>by simp [Lib.index,List.isPrefixOf]
 | x::t,b,h=>by
  have h1:x ≠ c:=fun e=>h (by simp [e])
  have h2:c ∉ t:=fun e=>h (by simp [e])
  have hp:([c]:List UInt8).isPrefixOf (x::(t++c::b))=false:=by simp [List.isPrefixOf,Ne.symm h1]
  have hne:((t.length:Int) == -1)=false:=by simp
  rw [List.cons_append,Lib.index,hp,index_at h2,hne]
  simp
theorem byte_no {c:UInt8}:∀ {s:List UInt8},c ∉ s→Lib.indexByte s c=-1
 | [],_=>rfl
 | x::t,h=>by
  have h1:x ≠ c:=fun e=>h (by simp [e])
  have h2:c ∉ t:=fun e=>h (by simp [e])
  rw [Lib.indexByte,if_neg (by simpa using h1),byte_no h2]; rfl
theorem byte_at {c:UInt8}:∀ {a b:List UInt8},c ∉ a→Lib.indexByte (a++c::b) c=(a.length:Int)
 | [],b,_=>by simp [Lib.indexByte]
 | x::t,b,h=>by
  have h1:x ≠ c:=fun e=>h (by simp [e])
  have h2:c ∉ t:=fun e=>h (by simp [e])
  have hne:((t.length:Int) == -1)=false:=by simp
  rw [List.cons_append,Lib.indexByte,if_neg (by simpa using h1),byte_at h2,hne]
  simp
theorem split_eq (c:UInt8) (s:List UInt8):Lib.split s [c]=spl c s:=by
 refine spl_ind (c:=c) (P:=fun s=>Lib.split s [c]=spl c s) ?_ ?_ s.length s (Nat.le_refl _)
 ·intro s h
  rw [spl_no h,Lib.split,Lib.count_miss (index_no h)]; rfl
 ·intro a b h ih
  have hi:=index_at (b:=b) h
  have hd:(a++c::b).drop (a.length + 1)=b:=by
   rw [show a++c::b=(a++[c])++b by simp,show a.length + 1=(a++[c]).length by simp,List.drop_left]
  have hm:((a.length:Int) == -1)=false:=by simp
  rw [spl_at h,Lib.split,Lib.count_hit (by simp) hi]
  simp only [List.length_singleton,hd,Nat.add_comm 1]
  rw [Lib.splitK,hi,hm]
  simp only [Bool.false_eq_true,if_false,Int.toNat_natCast,Nat.add_zero,List.length_singleton,hd]
  rw [List.take_left',← ih]; · rfl
  ·rfl
theorem E91_eq {c:UInt8} {s:List UInt8} (hs:s.length < 4294967281):E91 s [c]=some (some (spl c s)):=by
 unfold E91
 rw [exO_of ⟨hs,by simp⟩,← split_eq]
 rw [Lib.splitB_data]
 rfl
theorem apO_one {α:Type} {o:Option (List α)} {x:α} (h:(o.getD []).length + 1≤1073741824):apO o [x]=some (some (o.getD []++[x])):=by
 unfold apO
 rw [if_pos (by simpa using h)]
 cases o <;> rfl
theorem drop_at {α:Type} {s:List α} {i:Nat} (hi:i < s.length):s.drop i=s[i]::s.drop (i + 1):=(List.drop_eq_getElem_cons hi)
theorem loop15 {s:List UInt8} {c:UInt8} (hs:s.length≤1000000):∀ (k i st:Nat) (o:Option (List (List UInt8))) (fl:Bool),i + k=s.length→st≤i→(o.getD []).length≤i→(fl=true∨o=none) →
  ∃ o' fl' st',itO (s15_0 s (c.toNat:Int)) (o,(st:Int),(i:Int),fl)=some (o',fl',((st':Nat):Int),(s.length:Int))∧st'≤s.length∧(fl'=true∨o'=none)∧(o'.getD []).length≤s.length∧o'.getD []++[s.drop st']=o.getD []++splA c ((s.drop st).take (i - st)) (s.drop i)
 | 0,i,st,o,fl,hi,hst,hl,hf=>by
  have hi:i=s.length:=by omega
  subst hi
  refine ⟨o,fl,st,itO_out ?_,hst,hf,hl,?_⟩
  ·unfold s15_0
   simp only [Int.lt_irrefl,decide_false,cond_false]
  ·rw [List.drop_of_length_le (Nat.le_refl _),splA,List.take_of_length_le (by rw [List.length_drop]; omega)]
 | k + 1,i,st,o,fl,hi,hst,hl,hf=>by
  have hlt:i < s.length:=by omega
  have hlt':(i:Int) < (s.length:Int):=by omega
  have hix:idxO s (i:Int)=some s[i]:=by rw [idxO_nat,List.getElem?_eq_getElem hlt]
  have hw:wrapF .i64 ((i:Int) + 1)=((i + 1:Nat):Int):=wrap_nat (by omega)
  rw [drop_at hlt,splA]
  by_cases hc:s[i]=c
  ·have hd:((s[i].toNat:Int)=(c.toNat:Int)):=by rw [hc]
   have hcut:cutO s (some (st:Int)) (some (i:Int))=some ((s.drop st).take (i - st)):=by
    unfold cutO bndI
    simp only [Int.natCast_nonneg,Int.toNat_natCast,true_and,show (i:Int)≤(s.length:Int) by omega,show (st:Int)≤(i:Int) by omega,if_true]
    rw [List.drop_take]
   have hap:=apO_one (x:=(s.drop st).take (i - st)) (o:=o) (by omega)
   obtain ⟨o',fl',st',h1,h2,h3,h4,h5⟩:=loop15 hs k (i + 1) (i + 1) (some (o.getD []++[(s.drop st).take (i - st)])) true (by omega) (Nat.le_refl _) (by simp; omega) (.inl rfl)
   refine ⟨o',fl',st',?_,h2,h3,h4,?_⟩
   ·rw [itO_in (s':=(some (o.getD []++[(s.drop st).take (i - st)]),((i + 1:Nat):Int),((i + 1:Nat):Int),true)),h1]
    unfold s15_0
    simp only [hlt',decide_true,cond_true,hix,obind_at,hd,hcut,hap,hw]
    rcases hf with rfl | rfl
    ·rfl
    ·cases fl <;> rfl
   ·rw [h5,if_pos hc,Nat.sub_self,List.take_zero]
    simp
  ·have hd:¬ ((s[i].toNat:Int)=(c.toNat:Int)):=fun e=>hc (UInt8.toNat_inj.1 (by omega))
   obtain ⟨o',fl',st',h1,h2,h3,h4,h5⟩:=loop15 hs k (i + 1) st o fl (by omega) (by omega) (by omega) hf
   refine ⟨o',fl',st',?_,h2,h3,h4,?_⟩
   ·rw [itO_in (s':=(o,(st:Int),((i + 1:Nat):Int),fl)),h1]
    unfold s15_0
    simp only [hlt',decide_true,cond_true,hix,obind_at,hd,decide_false,cond_false,hw]
   ·have ht:(s.drop st).take (i + 1 - st)=(s.drop st).take (i - st)++[s[i]]:=by
     rw [show i + 1 - st=(i - st) + 1 by omega,List.take_succ_eq_append_getElem (by rw [List.length_drop]; omega)]
     congr 2
     rw [List.getElem_drop]; congr 1; omega
    rw [h5,if_neg hc,ht]
theorem f15_eq {s:List UInt8} {c:UInt8} (hs:s.length≤1000000):f15 s (c.toNat:Int)=some (some (spl c s)):=by
 obtain ⟨o',fl',st',h1,h2,h3,h4,h5⟩:=loop15 (c:=c) hs s.length 0 0 none false (by omega) (Nat.le_refl _) (Nat.zero_le _) (.inr rfl)
 unfold f15
 have hcut:cutO s (some (st':Int)) none=some (s.drop st'):=by
  unfold cutO bndI
  simp only [Int.natCast_nonneg,Int.toNat_natCast,true_and,show (st':Int)≤(s.length:Int) by omega,if_true,List.take_length]
 have hap:=apO_one (x:=s.drop st') (o:=o') (by omega)
 have h1':itO (s15_0 s (c.toNat:Int)) (none,0,0,false)=some (o',fl',(st':Int),(s.length:Int)):=h1
 simp only [h1',obind_at,hcut,hap]
 have h5':o'.getD []++[s.drop st']=spl c s:=by rw [h5]; rfl
 rw [h5']
 rcases h3 with rfl | rfl
 ·rfl
 ·cases fl' <;> rfl
end Go.Z
/-
 LineTexts,LineBack: numbers: what the program and the reference read of a word,and write.
-/
namespace Go.Z
open Go Go.Abs
def digs:Int→List UInt8→Option Int
 | n,[]=>some n
 | n,c::t=>if 48≤c.toNat∧c.toNat≤57 then digs (10 * n + ((c.toNat:Int) - 48)) t else none
theorem digs_snoc:∀ (n:Int) (b:List UInt8) (c:UInt8),digs n (b++[c])=match digs n b with
  | some m=>if 48≤c.toNat∧c.toNat≤57 then some (10 * m + ((c.toNat:Int) - 48)) else none
  | none=>none
 | n,[],c=>rfl
 | n,x::t,c=>by
  rw [List.cons_append,digs,digs]
  split
  ·exact digs_snoc _ t c
  ·rfl
theorem digs_bound:∀ {b:List UInt8} {n v:Int} {k:Nat},0≤n→n < 10 ^ k→digs n b=some v→0≤v∧v < 10 ^ (k + b.length)
 | [],n,v,k,h0,h1,h=>by cases h; exact ⟨h0,by simpa using h1⟩
 | c::t,n,v,k,h0,h1,h=>by
  rw [digs] at h
  split at h
  ·rename_i hc
   have:=digs_bound (k:=k + 1) (by omega) (by rw [Int.pow_succ]; omega) h
   rw [List.length_cons,show k + (t.length + 1)=k + 1 + t.length by omega]
   exact this
  ·cases h
def natN (b:List UInt8):Option Int:=if b=[]∨9 < b.length∨(1 < b.length∧b.head?=some 48) then none else digs 0 b
def sgnN (a:List UInt8):Option Int:=match a with
 | 45::b=>(match natN b with
  | some v=>if 0 < v then some (-v) else none
  | none=>none)
 | _=>natN a
theorem wrap_id {x:Int} (h1:-9223372036854775808≤x) (h2:x≤9223372036854775807):wrapF .i64 x=x:=wrapF_i64 h1 h2
theorem wrapI32 {x:Int} (h1:0≤x) (h2:x≤2000000):wrapF .i32 x=x:=by
 rw [wrapF_eq]
 simp only [IntKind.wrap,IntKind.signed,IntKind.bits]
 simp
 omega
theorem pow_le9 {i:Nat} (h:i≤9):(10:Int) ^ i≤1000000000:=by
 rw [show (1000000000:Int)=((10 ^ 9:Nat):Int) by decide,show ((10:Int) ^ i)=((10 ^ i:Nat):Int) by simp]
 exact Int.ofNat_le.2 (Nat.pow_le_pow_right (by omega) (by omega))
theorem head_get {s:List UInt8} (h:0 < s.length):s.head?=some s[0]:=by
 cases s with
 | nil=>simp at h
 | cons a t=>rfl
theorem loop121 {v1:List UInt8 × Bool} (hs:v1.1.length≤9):∀ (k i:Nat) (n:Int),i + k=v1.1.length→0≤n→n < 10 ^ i →
  ∃ j,itO (s121_0 v1) (n,i)=some (match digs n (v1.1.drop i) with | none=>.inl j | some v=>.inr (v,v1.1.length))
 | 0,i,n,hi,h0,h1=>by
  have hi:i=v1.1.length:=by omega
  subst hi
  rw [List.drop_of_length_le (Nat.le_refl _),digs]
  exact ⟨0,itO_out (by unfold s121_0; simp only [Nat.lt_irrefl,decide_false,cond_false])⟩
 | k + 1,i,n,hi,h0,h1=>by
  have hlt:i < v1.1.length:=by omega
  have hg:v1.1[i]?=some v1.1[i]:=List.getElem?_eq_getElem hlt
  have hp:=pow_le9 (show i≤9 by omega)
  have h9:¬ 9 < (v1.1.length:Int):=by omega
  rw [drop_at hlt,digs]
  by_cases hd:48≤v1.1[i].toNat∧v1.1[i].toNat≤57
  ·have e:=decode_lt hg (by omega)
   obtain ⟨j,hj⟩:=loop121 hs k (i + 1) (10 * n + ((v1.1[i].toNat:Int) - 48)) (by omega) (by omega) (by rw [Int.pow_succ]; omega)
   refine ⟨j,?_⟩
   rw [if_pos hd,← hj]
   refine itO_in ?_
   have a1:¬ (v1.1[i].toNat:Int) < 48:=by omega
   have a2:¬ 57 < (v1.1[i].toNat:Int):=by omega
   unfold s121_0
   simp only [hlt,decide_true,cond_true,e,a1,a2,h9,decide_false,cond_false]
   rw [wrapI32 (by omega) (by omega),wrap_id (x:=10 * n) (by omega) (by omega),wrap_id (x:=(v1.1[i].toNat:Int) - 48) (by omega) (by omega),wrap_id (by omega) (by omega)]
  ·rw [if_neg hd]
   refine ⟨i + (decodeA v1.1 i).2,itO_out ?_⟩
   unfold s121_0
   simp only [hlt,decide_true,cond_true,h9,decide_false,cond_false]
   by_cases hl:v1.1[i].toNat < 128
   ·rw [decode_lt hg hl]
    by_cases a1:(v1.1[i].toNat:Int) < 48
    ·simp only [a1,decide_true,cond_true]
    ·have a2:57 < (v1.1[i].toNat:Int):=by omega
     simp only [a1,a2,decide_true,cond_true,decide_false,cond_false]
   ·have:=decode_ge hg hl
    have a1:¬ ((decodeA v1.1 i).1:Int) < 48:=by omega
    have a2:57 < ((decodeA v1.1 i).1:Int):=by omega
    simp only [a1,a2,decide_true,cond_true,decide_false,cond_false]
theorem long121 {v1:List UInt8 × Bool} (hs:9 < v1.1.length):∃ j,itO (s121_0 v1) (0,0)=some (.inl j):=by
 refine ⟨0 + (decodeA v1.1 0).2,itO_out ?_⟩
 have h0:0 < v1.1.length:=by omega
 have h9:9 < (v1.1.length:Int):=by omega
 unfold s121_0
 simp only [h0,h9,decide_true,cond_true]
 by_cases a1:((decodeA v1.1 0).1:Int) < 48
 ·simp only [a1,decide_true,cond_true]
 ·by_cases a2:57 < ((decodeA v1.1 0).1:Int)
  ·simp only [a1,a2,decide_true,cond_true,decide_false,cond_false]
  ·simp only [a1,a2,decide_false,cond_false]
theorem f121_eq (s:List UInt8):∃ x,f121 s=some (x,(sgnN s).isSome)∧∀ v,sgnN s=some v→x=v:=by
 have key:∀ (b:List UInt8) (m:Bool),(∀ v1:List UInt8 × Bool,v1=(b,m)→E146 s [45]=some v1)→(sgnN s=if m then (match natN b with | some v=>if 0 < v then some (-v) else none | none=>none) else natN b)→∃ x,f121 s=some (x,(sgnN s).isSome)∧∀ v,sgnN s=some v→x=v:=by
  intro b m h1 h2
  have h1:=h1 (b,m) rfl
  unfold f121
  rw [h1,obind_at,h2]
  by_cases hl:9 < b.length
  ·obtain ⟨j,hj⟩:=long121 (v1:=(b,m)) hl
   rw [hj,obind_at]
   have hn:natN b=none:=by unfold natN; rw [if_pos (.inr (.inl hl))]
   rw [hn]
   refine ⟨0,?_,?_⟩
   ·cases m <;> rfl
   ·intro v hv; cases m <;> cases hv
  ·obtain ⟨j,hj⟩:=loop121 (v1:=(b,m)) (by show b.length≤9; omega) b.length 0 0 (by simp) (by omega) (by simp)
   rw [hj,List.drop_zero]
   cases hd:digs 0 b with
   | none=>
    rw [obind_at]
    have hn:natN b=none:=by
     unfold natN
     split
     ·rfl
     ·exact hd
    rw [hn]
    refine ⟨0,?_,?_⟩
    ·cases m <;> rfl
    ·intro v hv; cases m <;> cases hv
   | some v=>
    rw [obind_at]
    dsimp only
    by_cases hb:b=[]
    ·subst hb
     have hn:natN []=none:=rfl
     rw [hn]
     simp only [decide_true,cond_true]
     cases m with
     | true=>exact ⟨_,rfl,by intro w hw; cases hw⟩
     | false=>exact ⟨_,rfl,by intro w hw; cases hw⟩
    ·have hp:0 < b.length:=List.length_pos_iff.2 hb
     have hv:=digs_bound (k:=0) (by omega) (by omega) hd
     have hp9:=pow_le9 (show b.length≤9 by omega)
     rw [Nat.zero_add] at hv
     have fin:∀ (w:Option Int),natN b=w→(w=some v∨w=none)→∃ x,(some (bif m then (wrapF .i64 (0 - v),bif w.isSome then decide (0 < v) else false) else (v,w.isSome)):Option (Int × Bool))=some (x,(if m then (match natN b with | some v=>if 0 < v then some (-v) else none | none=>none) else natN b).isSome)∧∀ u,(if m then (match natN b with | some v=>if 0 < v then some (-v) else none | none=>none) else natN b)=some u→x=u:=by
      intro w hw hc
      rw [hw]
      rcases hc with rfl | rfl
      ·cases m with
       | true=>
        refine ⟨wrapF .i64 (0 - v),?_,?_⟩
        ·by_cases h0:0 < v
         ·simp only [h0,decide_true,cond_true,if_true,Option.isSome_some]
         ·simp only [h0,decide_false,cond_true,if_true,if_false,Option.isSome_some,Option.isSome_none]
        ·intro u hu
         simp only [if_true] at hu
         split at hu
         ·cases hu; rw [wrap_id (by omega) (by omega)]; omega
         ·cases hu
       | false=>exact ⟨v,rfl,by intro u hu; simpa using hu⟩
      ·cases m with
       | true=>exact ⟨_,rfl,by intro u hu; simp at hu⟩
       | false=>exact ⟨_,rfl,by intro u hu; simp at hu⟩
     have hix:idxO b 0=some b[0]:=by rw [show (0:Int)=((0:Nat):Int) from rfl,idxO_nat,List.getElem?_eq_getElem hp]
     by_cases h1:b.length=1
     ·have h1':(b.length:Int)=1:=by omega
      have hn:natN b=some v:=by
       unfold natN
       rw [if_neg,hd]
       rintro (h | h | h)
       ·exact hb h
       ·omega
       ·omega
      have:=fin _ hn (.inl rfl)
      simp only [hb,h1',decide_false,decide_true,cond_false,cond_true]
      cases m <;> simpa using this
     ·have h1':¬ (b.length:Int)=1:=by omega
      simp only [hb,h1',decide_false,cond_false,hix,obind_at]
      by_cases h4:b[0]=48
      ·have h4':(b[0].toNat:Int)=48:=by rw [h4]; rfl
       have hn:natN b=none:=by
        unfold natN
        rw [if_pos (.inr (.inr ⟨by omega,by rw [head_get hp,h4]⟩))]
       have:=fin _ hn (.inr rfl)
       simp only [h4',decide_true,cond_true]
       cases m <;> simpa using this
      ·have h4':¬ (b[0].toNat:Int)=48:=fun e=>h4 (UInt8.toNat_inj.1 (by have:(48:UInt8).toNat=48:=rfl; omega))
       have hn:natN b=some v:=by
        unfold natN
        rw [if_neg,hd]
        rintro (h | h | h)
        ·exact hb h
        ·omega
        ·rw [head_get hp] at h; exact h4 (Option.some.inj h.2)
       have:=fin _ hn (.inl rfl)
       simp only [h4',decide_false,cond_false]
       cases m <;> simpa using this
 have hE:E146 s [45]=some (Lib.trimPrefix s [45],Lib.hasPrefix s [45]):=rfl
 by_cases h:∃ t,s=45::t
 ·obtain ⟨t,rfl⟩:=h
  refine key t true ?_ rfl
  rintro _ rfl
  rw [hE]
  simp [Lib.trimPrefix,Lib.hasPrefix,List.isPrefixOf]
 ·have hp:Lib.hasPrefix s [45]=false:=by
   cases s with
   | nil=>rfl
   | cons a t=>
    have:a ≠ 45:=fun e=>h ⟨t,by rw [e]⟩
    simp [Lib.hasPrefix,List.isPrefixOf,Ne.symm this]
  refine key s false ?_ ?_
  ·rintro _ rfl
   rw [hE,hp]
   simp [Lib.trimPrefix,hp]
  ·unfold sgnN
   split
   ·rename_i b; exact absurd ⟨b,rfl⟩ h
   ·rfl
end Go.Z
/-
 LineTexts,LineBack: numbers that are written: the library's Itoa,the reference's Text; what is written reads back.
-/
namespace Go.Z
open Go Go.Abs
theorem dec_small {u:Nat} (h:u < 10):Lib.decDigits u=[UInt8.ofNat (48 + u)]:=by rw [Lib.decDigits,dif_pos h]
theorem dec_big {u:Nat} (h:¬ u < 10):Lib.decDigits u=Lib.decDigits (u / 10)++[UInt8.ofNat (48 + u % 10)]:=by rw [Lib.decDigits,dif_neg h]
theorem dec_len:∀ (k u:Nat),u < 10 ^ (k + 1)→(Lib.decDigits u).length≤k + 1
 | 0,u,h=>by rw [dec_small (by simpa using h)]; simp
 | k + 1,u,h=>by
  by_cases hu:u < 10
  ·rw [dec_small hu]; simp
  ·have:=dec_len k (u / 10) (by rw [Nat.pow_succ] at h; omega)
   rw [dec_big hu,List.length_append,List.length_singleton]; omega
theorem dec_pos (u:Nat):0 < (Lib.decDigits u).length:=by
 by_cases hu:u < 10
 ·rw [dec_small hu]; simp
 ·rw [dec_big hu]; simp
theorem ofNat_digit {d:Nat} (h:d < 10):(UInt8.ofNat (48 + d)).toNat=48 + d:=by
 rw [UInt8.toNat_ofNat']; omega
theorem dec_digs:∀ (n u:Nat),u≤n→digs 0 (Lib.decDigits u)=some (u:Int)
 | n,u,h=>by
  by_cases hu:u < 10
  ·rw [dec_small hu,digs,ofNat_digit hu,if_pos (by omega),digs]
   congr 1; omega
  ·cases n with
   | zero=>omega
   | succ n=>
    rw [dec_big hu,digs_snoc,dec_digs n (u / 10) (by omega)]
    simp only [ofNat_digit (Nat.mod_lt u (by omega:0 < 10))]
    rw [if_pos (by omega)]
    congr 1; omega
theorem dec_head:∀ (n u:Nat),u≤n→0 < u→(Lib.decDigits u).head? ≠ some 48
 | n,u,h,h0=>by
  by_cases hu:u < 10
  ·rw [dec_small hu]
   intro e
   have e1:UInt8.ofNat (48 + u)=48:=Option.some.inj e
   have:=ofNat_digit hu
   rw [e1] at this
   have h2:(48:UInt8).toNat=48:=rfl
   omega
  ·cases n with
   | zero=>omega
   | succ n=>
    have ih:=dec_head n (u / 10) (by omega) (by omega)
    rw [dec_big hu]
    have hp:=dec_pos (u / 10)
    cases hd:Lib.decDigits (u / 10) with
    | nil=>rw [hd] at hp; simp at hp
    | cons x t=>rw [hd] at ih; exact ih
theorem nat_dec {u:Nat} (h:u < 1000000000):natN (Lib.decDigits u)=some (u:Int):=by
 have h1:=dec_len 8 u (by omega)
 have h2:=dec_pos u
 unfold natN
 rw [if_neg,dec_digs u u (Nat.le_refl _)]
 rintro (e | e | ⟨e1,e2⟩)
 ·rw [e] at h2; simp at h2
 ·omega
 ·by_cases hu:u < 10
  ·rw [dec_small hu] at e1; simp at e1
  ·exact dec_head u u (Nat.le_refl _) (by omega) e2
theorem dec_byte:∀ (n u:Nat),u≤n→∀ c∈Lib.decDigits u,48≤c.toNat∧c.toNat≤57
 | n,u,h,c,hc=>by
  by_cases hu:u < 10
  ·rw [dec_small hu] at hc
   obtain rfl:=List.mem_singleton.1 hc
   rw [ofNat_digit hu]; omega
  ·cases n with
   | zero=>omega
   | succ n=>
    rw [dec_big hu] at hc
    rcases List.mem_append.1 hc with hc | hc
    ·exact dec_byte n (u / 10) (by omega) c hc
    ·obtain rfl:=List.mem_singleton.1 hc
     have:=Nat.mod_lt u (by omega:0 < 10)
     rw [ofNat_digit this]; omega
theorem sgn_itoa {v:Int} (h:-1000000000 < v∧v < 1000000000):sgnN (Lib.itoa v)=some v:=by
 unfold Lib.itoa
 split
 ·rename_i hv
  show (match natN (Lib.decDigits v.natAbs) with | some v=>if 0 < v then some (-v) else none | none=>none)=some v
  rw [nat_dec (by omega)]
  dsimp only
  rw [if_pos (by omega)]
  congr 1; omega
 ·rename_i hv
  have h1:natN (Lib.decDigits v.toNat)=some v:=by rw [nat_dec (by omega)]; congr 1; omega
  unfold sgnN
  split
  ·rename_i b heq
   have:=dec_byte v.toNat v.toNat (Nat.le_refl _) 45 (by rw [heq]; simp)
   have h2:(45:UInt8).toNat=45:=rfl
   omega
  ·exact h1
theorem itoa_byte (v:Int):∀ c∈Lib.itoa v,c.toNat=45∨(48≤c.toNat∧c.toNat≤57):=by
 intro c hc
 unfold Lib.itoa at hc
 split at hc
 ·rcases List.mem_cons.1 hc with rfl | hc
  ·exact .inl rfl
  ·exact .inr (dec_byte _ _ (Nat.le_refl _) c hc)
 ·exact .inr (dec_byte _ _ (Nat.le_refl _) c hc)
theorem itoa_len {v:Int} (h:-1000000000 < v∧v < 1000000000):(Lib.itoa v).length≤10:=by
 unfold Lib.itoa
 split
 ·have:=dec_len 8 v.natAbs (by omega)
  simp only [List.length_cons]; omega
 ·have:=dec_len 8 v.toNat (by omega)
  omega
theorem digs_dec:∀ (n:Nat) (b:List UInt8) (v:Int),b.length≤n→b ≠ []→(b.length=1∨b.head? ≠ some 48)→digs 0 b=some v→0≤v∧Lib.decDigits v.toNat=b
 | 0,b,v,hn,hb,_,_=>absurd (List.length_eq_zero_iff.1 (by omega)) hb
 | n + 1,b,v,hn,hb,hh,hd=>by
  obtain ⟨t,c,rfl⟩:∃ t c,b=t++[c]:=⟨b.dropLast,b.getLast hb,(List.dropLast_concat_getLast hb).symm⟩
  rw [digs_snoc] at hd
  by_cases ht:t=[]
  ·subst ht
   simp only [digs] at hd
   split at hd
   ·rename_i hc
    cases hd
    refine ⟨by omega,?_⟩
    rw [dec_small (by omega)]
    simp only [List.nil_append,List.cons.injEq,and_true]
    apply UInt8.toNat_inj.1
    rw [ofNat_digit (by omega)]; omega
   ·cases hd
  ·cases hm:digs 0 t with
   | none=>rw [hm] at hd; cases hd
   | some m=>
    rw [hm] at hd
    dsimp only at hd
    split at hd
    ·rename_i hc
     cases hd
     have hlt:0 < t.length:=List.length_pos_iff.2 ht
     have hh':t.head? ≠ some 48:=by
      rcases hh with hh | hh
      ·simp only [List.length_append,List.length_singleton] at hh; omega
      ·cases t with
       | nil=>exact absurd rfl ht
       | cons x t=>exact hh
     have ih:=digs_dec n t m (by simp only [List.length_append,List.length_singleton] at hn; omega) ht (.inr hh') hm
     have hm0:m ≠ 0:=by
      rintro rfl
      have h2:=ih.2
      rw [show (0:Int).toNat=0 from rfl,dec_small (by omega)] at h2
      exact hh' (by rw [← h2]; rfl)
     refine ⟨by omega,?_⟩
     rw [dec_big (by omega)]
     have e1:(10 * m + ((c.toNat:Int) - 48)).toNat / 10=m.toNat:=by omega
     have e2:(10 * m + ((c.toNat:Int) - 48)).toNat % 10=c.toNat - 48:=by omega
     rw [e1,e2,ih.2]
     congr 2
     apply UInt8.toNat_inj.1
     rw [ofNat_digit (by omega)]; omega
    ·cases hd
theorem nat_itoa {b:List UInt8} {v:Int} (h:natN b=some v):0≤v∧Lib.decDigits v.toNat=b:=by
 unfold natN at h
 split at h
 ·cases h
 ·rename_i hc
  have h1:b ≠ []:=fun e=>hc (.inl e)
  have h2:b.length=1∨b.head? ≠ some 48:=by
   by_cases e:b.length=1
   ·exact .inl e
   ·refine .inr fun e2=>hc (.inr (.inr ⟨?_,e2⟩))
    have:=List.length_pos_iff.2 h1
    omega
  exact digs_dec b.length b v (Nat.le_refl _) h1 h2 h
theorem itoa_sgn {b:List UInt8} {v:Int} (h:sgnN b=some v):Lib.itoa v=b:=by
 unfold sgnN at h
 split at h
 ·rename_i t
  cases hn:natN t with
  | none=>rw [hn] at h; cases h
  | some w=>
   rw [hn] at h
   dsimp only at h
   split at h
   ·cases h
    have:=nat_itoa hn
    unfold Lib.itoa
    rw [if_pos (by omega),show (-w).natAbs=w.toNat by omega,this.2]
   ·cases h
 ·have:=nat_itoa h
  unfold Lib.itoa
  rw [if_neg (by omega),this.2]
end Go.Z
