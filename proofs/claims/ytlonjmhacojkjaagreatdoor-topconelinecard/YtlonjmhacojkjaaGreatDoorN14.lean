/-
  LineTexts, LineBack: texts cut at a byte: the reference's Split, the library's Split and Lines.
-/
import Derived.Test.YtlonjmhacojkjaaGreatDoorN6
import Derived.Test.YtlonjmhacojkjaaGreatDoorN0
import Derived.Test.YtlonjmhacojkjaaGreatDoorG0m
import Derived.Lib.SplitLaws
import Derived.Test.YtlonjmhacojkjaaGreatDoorN4
set_option linter.unusedVariables false
set_option linter.unusedSimpArgs false
set_option maxRecDepth 100000
namespace Go.Z
open Go Go.Abs
def splA (c:UInt8) (acc:List UInt8):List UInt8→List (List UInt8)
 | []=>[acc]
 | x::t=>if x=c then acc::splA c [] t else splA c (acc++[x]) t
def spl (c:UInt8) (s:List UInt8):List (List UInt8):=splA c [] s
theorem splA_no {c:UInt8}:∀ {s:List UInt8} {acc:List UInt8},c ∉ s→splA c acc s=[acc++s]
 | [],acc,_=>by simp [splA]
 | x::t,acc,h=>by
  have h1:x ≠ c:=fun e=>h (by simp [e])
  have h2:c ∉ t:=fun e=>h (by simp [e])
  rw [splA,if_neg h1,splA_no h2]
  simp
theorem splA_at {c:UInt8}:∀ {a b acc:List UInt8},c ∉ a→splA c acc (a++c::b)=(acc++a)::spl c b
 | [],b,acc,_=>by simp [splA,spl]
 | x::t,b,acc,h=>by
  have h1:x ≠ c:=fun e=>h (by simp [e])
  have h2:c ∉ t:=fun e=>h (by simp [e])
  rw [List.cons_append,splA,if_neg h1,splA_at h2]
  simp
theorem spl_no {c:UInt8} {s:List UInt8} (h:c ∉ s):spl c s=[s]:=splA_no h
theorem spl_at {c:UInt8} {a b:List UInt8} (h:c ∉ a):spl c (a++c::b)=a::spl c b:=splA_at h
theorem spl_cases (c:UInt8) (s:List UInt8):c ∉ s∨∃ a b,s=a++c::b∧c ∉ a:=by
 by_cases h:c∈s
 ·obtain ⟨a,b,h1,h2⟩:=List.eq_append_cons_of_mem h
  exact .inr ⟨a,b,h1,h2⟩
 ·exact .inl h
theorem spl_ind {c:UInt8} {P:List UInt8→Prop} (h0:∀ s,c ∉ s→P s) (h1:∀ a b,c ∉ a→P b→P (a++c::b)):∀ (n:Nat) (s:List UInt8),s.length≤n→P s
 | 0,s,hn=>h0 s (by rw [List.length_eq_zero_iff.1 (by omega:s.length=0)]; simp)
 | n + 1,s,hn=>by
  rcases spl_cases c s with h | ⟨a,b,rfl,h⟩
  ·exact h0 s h
  ·exact h1 a b h (spl_ind h0 h1 n b (by simp only [List.length_append,List.length_cons] at hn; omega))
theorem spl_ne (c:UInt8) (s:List UInt8):spl c s ≠ []:=by
 rcases spl_cases c s with h | ⟨a,b,rfl,h⟩
 ·rw [spl_no h]; simp
 ·rw [spl_at h]; simp
theorem spl_mem (c:UInt8) (s:List UInt8):∀ w∈spl c s,w.length≤s.length∧c ∉ w:=by
 refine spl_ind (c:=c) (P:=fun s=>∀ w∈spl c s,w.length≤s.length∧c ∉ w) ?_ ?_ s.length s (Nat.le_refl _)
 ·intro s h w hw
  rw [spl_no h] at hw
  obtain rfl:=List.mem_singleton.1 hw
  exact ⟨Nat.le_refl _,h⟩
 ·intro a b h ih w hw
  rw [spl_at h] at hw
  simp only [List.length_append,List.length_cons]
  rcases List.mem_cons.1 hw with rfl | hw
  ·exact ⟨by omega,h⟩
  ·have:=ih w hw
   exact ⟨by omega,this.2⟩
theorem spl_len (c:UInt8) (s:List UInt8):(spl c s).length≤s.length + 1:=by
 refine spl_ind (c:=c) (P:=fun s=>(spl c s).length≤s.length + 1) ?_ ?_ s.length s (Nat.le_refl _)
 ·intro s h; rw [spl_no h]; simp
 ·intro a b h ih
  rw [spl_at h]
  simp only [List.length_append,List.length_cons]
  omega
theorem spl_of_join (c:UInt8):∀ (x:List UInt8) (r:List (List UInt8)),c ∉ x→(∀ y∈r,c ∉ y)→spl c (Lib.join (x::r) [c])=x::r
 | x,[],hx,_=>by rw [Lib.join_one,spl_no hx]
 | x,y::r,hx,hr=>by
  have ih:=spl_of_join c y r (hr y (by simp)) (fun z hz=>hr z (by simp [hz]))
  rw [Lib.join_cons] at ih ⊢
  simp only [Lib.joinTail,List.map_cons,List.flatten_cons,List.cons_append,List.nil_append] at ih ⊢
  rw [spl_at hx,ih]
theorem index_no {c:UInt8}:∀ {s:List UInt8},c ∉ s→Lib.index s [c]=-1
 | [],_=>rfl
 | x::t,h=>by
  have h1:x ≠ c:=fun e=>h (by simp [e])
  have h2:c ∉ t:=fun e=>h (by simp [e])
  have hp:([c]:List UInt8).isPrefixOf (x::t)=false:=by simp [List.isPrefixOf,Ne.symm h1]
  rw [Lib.index,hp,index_no h2]; rfl
theorem index_at {c:UInt8}:∀ {a b:List UInt8},c ∉ a→Lib.index (a++c::b) [c]=(a.length:Int)
 | [],b,_=>by simp [Lib.index,List.isPrefixOf]
 | x::t,b,h=>by
  have h1:x ≠ c:=fun e=>h (by simp [e])
  have h2:c ∉ t:=fun e=>h (by simp [e])
  have hp:([c]:List UInt8).isPrefixOf (x::(t++c::b))=false:=by simp [List.isPrefixOf,Ne.symm h1]
  have hne:((t.length:Int) == -1)=false:=by simp
  rw [List.cons_append,Lib.index,hp,index_at h2,hne]
  simp
theorem byte_no {c:UInt8}:∀ {s:List UInt8},c ∉ s→Lib.indexByte s c=-1
 | [],_=>rfl
 | x::t,h=>by
  have h1:x ≠ c:=fun e=>h (by simp [e])
  have h2:c ∉ t:=fun e=>h (by simp [e])
  rw [Lib.indexByte,if_neg (by simpa using h1),byte_no h2]; rfl
theorem byte_at {c:UInt8}:∀ {a b:List UInt8},c ∉ a→Lib.indexByte (a++c::b) c=(a.length:Int)
 | [],b,_=>by simp [Lib.indexByte]
 | x::t,b,h=>by
  have h1:x ≠ c:=fun e=>h (by simp [e])
  have h2:c ∉ t:=fun e=>h (by simp [e])
  have hne:((t.length:Int) == -1)=false:=by simp
  rw [List.cons_append,Lib.indexByte,if_neg (by simpa using h1),byte_at h2,hne]
  simp
theorem split_eq (c:UInt8) (s:List UInt8):Lib.split s [c]=spl c s:=by
 refine spl_ind (c:=c) (P:=fun s=>Lib.split s [c]=spl c s) ?_ ?_ s.length s (Nat.le_refl _)
 ·intro s h
  rw [spl_no h,Lib.split,Lib.count_miss (index_no h)]; rfl
 ·intro a b h ih
  have hi:=index_at (b:=b) h
  have hd:(a++c::b).drop (a.length + 1)=b:=by
   rw [show a++c::b=(a++[c])++b by simp,show a.length + 1=(a++[c]).length by simp,List.drop_left]
  have hm:((a.length:Int) == -1)=false:=by simp
  rw [spl_at h,Lib.split,Lib.count_hit (by simp) hi]
  simp only [List.length_singleton,hd,Nat.add_comm 1]
  rw [Lib.splitK,hi,hm]
  simp only [Bool.false_eq_true,if_false,Int.toNat_natCast,Nat.add_zero,List.length_singleton,hd]
  rw [List.take_left',← ih]; · rfl
  ·rfl
theorem E68_eq {c:UInt8} {s:List UInt8} (hs:s.length < 4294967281):E68 s [c]=some (some (spl c s)):=by
 unfold E68
 rw [exO_of ⟨hs,by simp⟩,← split_eq]
 rw [Lib.splitB_data]
 rfl
theorem apO_one {α:Type} {o:Option (List α)} {x:α} (h:(o.getD []).length + 1≤1073741824):apO o [x]=some (some (o.getD []++[x])):=by
 unfold apO
 rw [if_pos (by simpa using h)]
 cases o <;> rfl
theorem drop_at {α:Type} {s:List α} {i:Nat} (hi:i < s.length):s.drop i=s[i]::s.drop (i + 1):=(List.drop_eq_getElem_cons hi)
end Go.Z
/-
 LineTexts,LineBack: numbers: what the program and the reference read of a word,and write.
-/
namespace Go.Z
open Go Go.Abs
def digs:Int→List UInt8→Option Int
 | n,[]=>some n
 | n,c::t=>if 48≤c.toNat∧c.toNat≤57 then digs (10 * n + ((c.toNat:Int) - 48)) t else none
theorem digs_snoc:∀ (n:Int) (b:List UInt8) (c:UInt8),digs n (b++[c])=match digs n b with
  | some m=>if 48≤c.toNat∧c.toNat≤57 then some (10 * m + ((c.toNat:Int) - 48)) else none
  | none=>none
 | n,[],c=>rfl
 | n,x::t,c=>by
  rw [List.cons_append,digs,digs]
  split
  ·exact digs_snoc _ t c
  ·rfl
theorem digs_bound:∀ {b:List UInt8} {n v:Int} {k:Nat},0≤n→n < 10 ^ k→digs n b=some v→0≤v∧v < 10 ^ (k + b.length)
 | [],n,v,k,h0,h1,h=>by cases h; exact ⟨h0,by simpa using h1⟩
 | c::t,n,v,k,h0,h1,h=>by
  rw [digs] at h
  split at h
  ·rename_i hc
   have:=digs_bound (k:=k + 1) (by omega) (by rw [Int.pow_succ]; omega) h
   rw [List.length_cons,show k + (t.length + 1)=k + 1 + t.length by omega]
   exact this
  ·cases h
def natN (b:List UInt8):Option Int:=if b=[]∨9 < b.length∨(1 < b.length∧b.head?=some 48) then none else digs 0 b
def sgnN (a:List UInt8):Option Int:=match a with
 | 45::b=>(match natN b with
  | some v=>if 0 < v then some (-v) else none
  | none=>none)
 | _=>natN a
theorem wrap_id {x:Int} (h1:-9223372036854775808≤x) (h2:x≤9223372036854775807):wrapF .i64 x=x:=wrapF_i64 h1 h2
theorem wrapI32 {x:Int} (h1:0≤x) (h2:x≤2000000):wrapF .i32 x=x:=by
 rw [wrapF_eq]
 simp only [IntKind.wrap,IntKind.signed,IntKind.bits]
 simp
 omega
theorem pow_le9 {i:Nat} (h:i≤9):(10:Int) ^ i≤1000000000:=by
 rw [show (1000000000:Int)=((10 ^ 9:Nat):Int) by decide,show ((10:Int) ^ i)=((10 ^ i:Nat):Int) by simp]
 exact Int.ofNat_le.2 (Nat.pow_le_pow_right (by omega) (by omega))
theorem head_get {s:List UInt8} (h:0 < s.length):s.head?=some s[0]:=by
 cases s with
 | nil=>simp at h
 | cons a t=>rfl
theorem loop121 {v1:List UInt8 × Bool} (hs:v1.1.length≤9):∀ (k i:Nat) (n:Int),i + k=v1.1.length→0≤n→n < 10 ^ i →
  ∃ j,itO (s94_0 v1) (n,i)=some (match digs n (v1.1.drop i) with | none=>.inl j | some v=>.inr (v,v1.1.length))
 | 0,i,n,hi,h0,h1=>by
  have hi:i=v1.1.length:=by omega
  subst hi
  rw [List.drop_of_length_le (Nat.le_refl _),digs]
  exact ⟨0,itO_out (by unfold s94_0; simp only [Nat.lt_irrefl,decide_false,cond_false])⟩
 | k + 1,i,n,hi,h0,h1=>by
  have hlt:i < v1.1.length:=by omega
  have hg:v1.1[i]?=some v1.1[i]:=List.getElem?_eq_getElem hlt
  have hp:=pow_le9 (show i≤9 by omega)
  have h9:¬ 9 < (v1.1.length:Int):=by omega
  rw [drop_at hlt,digs]
  by_cases hd:48≤v1.1[i].toNat∧v1.1[i].toNat≤57
  ·have e:=decode_lt hg (by omega)
   obtain ⟨j,hj⟩:=loop121 hs k (i + 1) (10 * n + ((v1.1[i].toNat:Int) - 48)) (by omega) (by omega) (by rw [Int.pow_succ]; omega)
   refine ⟨j,?_⟩
   rw [if_pos hd,← hj]
   refine itO_in ?_
   have a1:¬ (v1.1[i].toNat:Int) < 48:=by omega
   have a2:¬ 57 < (v1.1[i].toNat:Int):=by omega
   unfold s94_0
   simp only [hlt,decide_true,cond_true,e,a1,a2,h9,decide_false,cond_false]
   rw [wrapI32 (by omega) (by omega),wrap_id (x:=10 * n) (by omega) (by omega),wrap_id (x:=(v1.1[i].toNat:Int) - 48) (by omega) (by omega),wrap_id (by omega) (by omega)]
  ·rw [if_neg hd]
   refine ⟨i + (decodeA v1.1 i).2,itO_out ?_⟩
   unfold s94_0
   simp only [hlt,decide_true,cond_true,h9,decide_false,cond_false]
   by_cases hl:v1.1[i].toNat < 128
   ·rw [decode_lt hg hl]
    by_cases a1:(v1.1[i].toNat:Int) < 48
    ·simp only [a1,decide_true,cond_true]
    ·have a2:57 < (v1.1[i].toNat:Int):=by omega
     simp only [a1,a2,decide_true,cond_true,decide_false,cond_false]
   ·have:=decode_ge hg hl
    have a1:¬ ((decodeA v1.1 i).1:Int) < 48:=by omega
    have a2:57 < ((decodeA v1.1 i).1:Int):=by omega
    simp only [a1,a2,decide_true,cond_true,decide_false,cond_false]
theorem long121 {v1:List UInt8 × Bool} (hs:9 < v1.1.length):∃ j,itO (s94_0 v1) (0,0)=some (.inl j):=by
 refine ⟨0 + (decodeA v1.1 0).2,itO_out ?_⟩
 have h0:0 < v1.1.length:=by omega
 have h9:9 < (v1.1.length:Int):=by omega
 unfold s94_0
 simp only [h0,h9,decide_true,cond_true]
 by_cases a1:((decodeA v1.1 0).1:Int) < 48
 ·simp only [a1,decide_true,cond_true]
 ·by_cases a2:57 < ((decodeA v1.1 0).1:Int)
  ·simp only [a1,a2,decide_true,cond_true,decide_false,cond_false]
  ·simp only [a1,a2,decide_false,cond_false]
theorem f94_eq (s:List UInt8):∃ x,f94 s=some (x,(sgnN s).isSome)∧∀ v,sgnN s=some v→x=v:=by
 have key:∀ (b:List UInt8) (m:Bool),(∀ v1:List UInt8 × Bool,v1=(b,m)→E115 s [45]=some v1)→(sgnN s=if m then (match natN b with | some v=>if 0 < v then some (-v) else none | none=>none) else natN b)→∃ x,f94 s=some (x,(sgnN s).isSome)∧∀ v,sgnN s=some v→x=v:=by
  intro b m h1 h2
  have h1:=h1 (b,m) rfl
  unfold f94
  rw [h1,obind_at,h2]
  by_cases hl:9 < b.length
  ·obtain ⟨j,hj⟩:=long121 (v1:=(b,m)) hl
   rw [hj,obind_at]
   have hn:natN b=none:=by unfold natN; rw [if_pos (.inr (.inl hl))]
   rw [hn]
   refine ⟨0,?_,?_⟩
   ·cases m <;> rfl
   ·intro v hv; cases m <;> cases hv
  ·obtain ⟨j,hj⟩:=loop121 (v1:=(b,m)) (by show b.length≤9; omega) b.length 0 0 (by simp) (by omega) (by simp)
   rw [hj,List.drop_zero]
   cases hd:digs 0 b with
   | none=>
    rw [obind_at]
    have hn:natN b=none:=by
     unfold natN
     split
     ·rfl
     ·exact hd
    rw [hn]
    refine ⟨0,?_,?_⟩
    ·cases m <;> rfl
    ·intro v hv; cases m <;> cases hv
   | some v=>
    rw [obind_at]
    dsimp only
    by_cases hb:b=[]
    ·subst hb
     have hn:natN []=none:=rfl
     rw [hn]
     simp only [decide_true,cond_true]
     cases m with
     | true=>exact ⟨_,rfl,by intro w hw; cases hw⟩
     | false=>exact ⟨_,rfl,by intro w hw; cases hw⟩
    ·have hp:0 < b.length:=List.length_pos_iff.2 hb
     have hv:=digs_bound (k:=0) (by omega) (by omega) hd
     have hp9:=pow_le9 (show b.length≤9 by omega)
     rw [Nat.zero_add] at hv
     have fin:∀ (w:Option Int),natN b=w→(w=some v∨w=none)→∃ x,(some (bif m then (wrapF .i64 (0 - v),bif w.isSome then decide (0 < v) else false) else (v,w.isSome)):Option (Int × Bool))=some (x,(if m then (match natN b with | some v=>if 0 < v then some (-v) else none | none=>none) else natN b).isSome)∧∀ u,(if m then (match natN b with | some v=>if 0 < v then some (-v) else none | none=>none) else natN b)=some u→x=u:=by
      intro w hw hc
      rw [hw]
      rcases hc with rfl | rfl
      ·cases m with
       | true=>
        refine ⟨wrapF .i64 (0 - v),?_,?_⟩
        ·by_cases h0:0 < v
         ·simp only [h0,decide_true,cond_true,if_true,Option.isSome_some]
         ·simp only [h0,decide_false,cond_true,if_true,if_false,Option.isSome_some,Option.isSome_none]
        ·intro u hu
         simp only [if_true] at hu
         split at hu
         ·cases hu; rw [wrap_id (by omega) (by omega)]; omega
         ·cases hu
       | false=>exact ⟨v,rfl,by intro u hu; simpa using hu⟩
      ·cases m with
       | true=>exact ⟨_,rfl,by intro u hu; simp at hu⟩
       | false=>exact ⟨_,rfl,by intro u hu; simp at hu⟩
     have hix:idxO b 0=some b[0]:=by rw [show (0:Int)=((0:Nat):Int) from rfl,idxO_nat,List.getElem?_eq_getElem hp]
     by_cases h1:b.length=1
     ·have h1':(b.length:Int)=1:=by omega
      have hn:natN b=some v:=by
       unfold natN
       rw [if_neg,hd]
       rintro (h | h | h)
       ·exact hb h
       ·omega
       ·omega
      have:=fin _ hn (.inl rfl)
      simp only [hb,h1',decide_false,decide_true,cond_false,cond_true]
      cases m <;> simpa using this
     ·have h1':¬ (b.length:Int)=1:=by omega
      simp only [hb,h1',decide_false,cond_false,hix,obind_at]
      by_cases h4:b[0]=48
      ·have h4':(b[0].toNat:Int)=48:=by rw [h4]; rfl
       have hn:natN b=none:=by
        unfold natN
        rw [if_pos (.inr (.inr ⟨by omega,by rw [head_get hp,h4]⟩))]
       have:=fin _ hn (.inr rfl)
       simp only [h4',decide_true,cond_true]
       cases m <;> simpa using this
      ·have h4':¬ (b[0].toNat:Int)=48:=fun e=>h4 (UInt8.toNat_inj.1 (by have:(48:UInt8).toNat=48:=rfl; omega))
       have hn:natN b=some v:=by
        unfold natN
        rw [if_neg,hd]
        rintro (h | h | h)
        ·exact hb h
        ·omega
        ·rw [head_get hp] at h; exact h4 (Option.some.inj h.2)
       have:=fin _ hn (.inl rfl)
       simp only [h4',decide_false,cond_false]
       cases m <;> simpa using this
 have hE:E115 s [45]=some (Lib.trimPrefix s [45],Lib.hasPrefix s [45]):=rfl
 by_cases h:∃ t,s=45::t
 ·obtain ⟨t,rfl⟩:=h
  refine key t true ?_ rfl
  rintro _ rfl
  rw [hE]
  simp [Lib.trimPrefix,Lib.hasPrefix,List.isPrefixOf]
 ·have hp:Lib.hasPrefix s [45]=false:=by
   cases s with
   | nil=>rfl
   | cons a t=>
    have:a ≠ 45:=fun e=>h ⟨t,by rw [e]⟩
    simp [Lib.hasPrefix,List.isPrefixOf,Ne.symm this]
  refine key s false ?_ ?_
  ·rintro _ rfl
   rw [hE,hp]
   simp [Lib.trimPrefix,hp]
  ·unfold sgnN
   split
   ·rename_i b; exact absurd ⟨b,rfl⟩ h
   ·rfl
end Go.Z
/-
 LineTexts,LineBack: numbers that are written: the library's Itoa,the reference's Text; what is written reads back.
-/
namespace Go.Z
open Go Go.Abs
theorem enc_small {x:Int} (h0:0≤x) (h1:x < 128):(Utf8.encode x).data.toList=[UInt8.ofNat x.toNat]:=by
 have hv:Utf8.valid x=true:=by simp [Utf8.valid]; omega
 have hc:x.toNat < 128:=by omega
 simp only [Utf8.encode,hv,if_true,hc]
theorem dec_small {u:Nat} (h:u < 10):Lib.decDigits u=[UInt8.ofNat (48 + u)]:=by rw [Lib.decDigits,dif_pos h]
theorem dec_big {u:Nat} (h:¬ u < 10):Lib.decDigits u=Lib.decDigits (u / 10)++[UInt8.ofNat (48 + u % 10)]:=by rw [Lib.decDigits,dif_neg h]
theorem dec_len:∀ (k u:Nat),u < 10 ^ (k + 1)→(Lib.decDigits u).length≤k + 1
 | 0,u,h=>by rw [dec_small (by simpa using h)]; simp
 | k + 1,u,h=>by
  by_cases hu:u < 10
  ·rw [dec_small hu]; simp
  ·have:=dec_len k (u / 10) (by rw [Nat.pow_succ] at h; omega)
   rw [dec_big hu,List.length_append,List.length_singleton]; omega
theorem dec_pos (u:Nat):0 < (Lib.decDigits u).length:=by
 by_cases hu:u < 10
 ·rw [dec_small hu]; simp
 ·rw [dec_big hu]; simp
theorem ofNat_digit {d:Nat} (h:d < 10):(UInt8.ofNat (48 + d)).toNat=48 + d:=by
 rw [UInt8.toNat_ofNat']; omega
theorem dec_digs:∀ (n u:Nat),u≤n→digs 0 (Lib.decDigits u)=some (u:Int)
 | n,u,h=>by
  by_cases hu:u < 10
  ·rw [dec_small hu,digs,ofNat_digit hu,if_pos (by omega),digs]
   congr 1; omega
  ·cases n with
   | zero=>omega
   | succ n=>
    rw [dec_big hu,digs_snoc,dec_digs n (u / 10) (by omega)]
    simp only [ofNat_digit (Nat.mod_lt u (by omega:0 < 10))]
    rw [if_pos (by omega)]
    congr 1; omega
theorem dec_head:∀ (n u:Nat),u≤n→0 < u→(Lib.decDigits u).head? ≠ some 48
 | n,u,h,h0=>by
  by_cases hu:u < 10
  ·rw [dec_small hu]
   intro e
   have e1:UInt8.ofNat (48 + u)=48:=Option.some.inj e
   have:=ofNat_digit hu
   rw [e1] at this
   have h2:(48:UInt8).toNat=48:=rfl
   omega
  ·cases n with
   | zero=>omega
   | succ n=>
    have ih:=dec_head n (u / 10) (by omega) (by omega)
    rw [dec_big hu]
    have hp:=dec_pos (u / 10)
    cases hd:Lib.decDigits (u / 10) with
    | nil=>rw [hd] at hp; simp at hp
    | cons x t=>rw [hd] at ih; exact ih
theorem nat_dec {u:Nat} (h:u < 1000000000):natN (Lib.decDigits u)=some (u:Int):=by
 have h1:=dec_len 8 u (by omega)
 have h2:=dec_pos u
 unfold natN
 rw [if_neg,dec_digs u u (Nat.le_refl _)]
 rintro (e | e | ⟨e1,e2⟩)
 ·rw [e] at h2; simp at h2
 ·omega
 ·by_cases hu:u < 10
  ·rw [dec_small hu] at e1; simp at e1
  ·exact dec_head u u (Nat.le_refl _) (by omega) e2
theorem dec_byte:∀ (n u:Nat),u≤n→∀ c∈Lib.decDigits u,48≤c.toNat∧c.toNat≤57
 | n,u,h,c,hc=>by
  by_cases hu:u < 10
  ·rw [dec_small hu] at hc
   obtain rfl:=List.mem_singleton.1 hc
   rw [ofNat_digit hu]; omega
  ·cases n with
   | zero=>omega
   | succ n=>
    rw [dec_big hu] at hc
    rcases List.mem_append.1 hc with hc | hc
    ·exact dec_byte n (u / 10) (by omega) c hc
    ·obtain rfl:=List.mem_singleton.1 hc
     have:=Nat.mod_lt u (by omega:0 < 10)
     rw [ofNat_digit this]; omega
theorem sgn_itoa {v:Int} (h:-1000000000 < v∧v < 1000000000):sgnN (Lib.itoa v)=some v:=by
 unfold Lib.itoa
 split
 ·rename_i hv
  show (match natN (Lib.decDigits v.natAbs) with | some v=>if 0 < v then some (-v) else none | none=>none)=some v
  rw [nat_dec (by omega)]
  dsimp only
  rw [if_pos (by omega)]
  congr 1; omega
 ·rename_i hv
  have h1:natN (Lib.decDigits v.toNat)=some v:=by rw [nat_dec (by omega)]; congr 1; omega
  unfold sgnN
  split
  ·rename_i b heq
   have:=dec_byte v.toNat v.toNat (Nat.le_refl _) 45 (by rw [heq]; simp)
   have h2:(45:UInt8).toNat=45:=rfl
   omega
  ·exact h1
theorem itoa_byte (v:Int):∀ c∈Lib.itoa v,c.toNat=45∨(48≤c.toNat∧c.toNat≤57):=by
 intro c hc
 unfold Lib.itoa at hc
 split at hc
 ·rcases List.mem_cons.1 hc with rfl | hc
  ·exact .inl rfl
  ·exact .inr (dec_byte _ _ (Nat.le_refl _) c hc)
 ·exact .inr (dec_byte _ _ (Nat.le_refl _) c hc)
theorem itoa_len {v:Int} (h:-1000000000 < v∧v < 1000000000):(Lib.itoa v).length≤10:=by
 unfold Lib.itoa
 split
 ·have:=dec_len 8 v.natAbs (by omega)
  simp only [List.length_cons]; omega
 ·have:=dec_len 8 v.toNat (by omega)
  omega
theorem loop95:∀ (n:Nat) (u:Nat) (s:List UInt8),u≤n→s.length + u≤2000000000→u < 1000000000→itO s9_0 ((u:Int),s)=some (0,(if u=0 then [] else Lib.decDigits u)++s)
 | n,u,s,h,hs,hu=>by
  by_cases h0:u=0
  ·subst h0
   refine itO_out ?_
   unfold s9_0
   rfl
  ·cases n with
   | zero=>omega
   | succ n=>
    have ih:=loop95 n (u / 10) ([UInt8.ofNat (48 + u % 10)]++s) (by omega) (by simp only [List.length_append,List.length_singleton]; omega) (by omega)
    have h1:0 < (u:Int):=by omega
    have hm:=Nat.mod_lt u (by omega:0 < 10)
    have hr:remO (u:Int) 10=some ((u % 10:Nat):Int):=by
     unfold remO
     rw [if_neg (by omega),Int.tmod_eq_emod_of_nonneg (by omega)]; rfl
    have hq:quoO .i64 (u:Int) 10=some ((u / 10:Nat):Int):=by
     unfold quoO
     rw [if_neg (by omega),Int.tdiv_eq_ediv_of_nonneg (by omega),wrap_id (by omega) (by omega)]; rfl
    have he:(Utf8.encode (wrapF .i32 (wrapF .i64 (48 + ((u % 10:Nat):Int))))).data.toList=[UInt8.ofNat (48 + u % 10)]:=by
     rw [wrap_id (by omega) (by omega),wrapI32 (by omega) (by omega),enc_small (by omega) (by omega)]
     congr 2
    have hc:catO [UInt8.ofNat (48 + u % 10)] s=some ([UInt8.ofNat (48 + u % 10)]++s):=by
     unfold catO
     rw [if_pos (by simp only [List.length_singleton]; omega)]
    rw [itO_in (s':=(((u / 10:Nat):Int),[UInt8.ofNat (48 + u % 10)]++s)),ih]
    ·rw [if_neg h0]
     by_cases hu:u < 10
     ·rw [if_pos (by omega),dec_small hu,Nat.mod_eq_of_lt hu]; rfl
     ·rw [if_neg (by omega),dec_big hu]; simp
    ·unfold s9_0
     simp only [h1,decide_true,cond_true,hr,obind_at,he,hc,hq]
theorem f9_eq {u:Nat} (hu:u < 1000000000):f9 1 (u:Int)=some (Lib.decDigits u):=by
 show F9 (f9 0) (u:Int)=_
 have h1:¬ (u:Int) < 0:=by omega
 have hm:=Nat.mod_lt u (by omega:0 < 10)
 have hr:remO (u:Int) 10=some ((u % 10:Nat):Int):=by
  unfold remO
  rw [if_neg (by omega),Int.tmod_eq_emod_of_nonneg (by omega)]; rfl
 have hq:quoO .i64 (u:Int) 10=some ((u / 10:Nat):Int):=by
  unfold quoO
  rw [if_neg (by omega),Int.tdiv_eq_ediv_of_nonneg (by omega),wrap_id (by omega) (by omega)]; rfl
 have he:(Utf8.encode (wrapF .i32 (wrapF .i64 (48 + ((u % 10:Nat):Int))))).data.toList=[UInt8.ofNat (48 + u % 10)]:=by
  rw [wrap_id (by omega) (by omega),wrapI32 (by omega) (by omega),enc_small (by omega) (by omega)]
  congr 2
 have hl:=loop95 (u / 10) (u / 10) [UInt8.ofNat (48 + u % 10)] (Nat.le_refl _) (by simp only [List.length_singleton]; omega) (by omega)
 unfold F9
 simp only [h1,decide_false,cond_false,hr,obind_at,hq,he]
 rw [show itO s9_0 (((u / 10:Nat):Int),[UInt8.ofNat (48 + u % 10)])=_ from hl,obind_at]
 congr 1
 by_cases hu:u < 10
 ·rw [if_pos (by omega),dec_small hu,Nat.mod_eq_of_lt hu]; rfl
 ·rw [if_neg (by omega),dec_big hu]
end Go.Z
/-
 LineTexts,LineBack: the program's Parse and the reference's Parse read the same.
-/
namespace Go.Z
open Go Go.Abs
def nums:List (List UInt8)→Option (List Int)
 | []=>some []
 | w::ws=>match sgnN w with
  | some v=>(match nums ws with
   | some l=>some (v::l)
   | none=>none)
  | none=>none
def unitW (w:List (List UInt8)):Option GUnit:=match w with
 | []=>none
 | s::ws=>if s=[]∨ws=[] then none else match nums ws with
  | some l=>some ⟨s,some l⟩
  | none=>none
def readL:List (List UInt8)→List GUnit ⊕ Nat
 | []=>.inl []
 | [l]=>if l=[] then .inl [] else .inr 0
 | l::m::r=>match unitW (spl 32 l) with
  | none=>.inr 0
  | some u=>(match readL (m::r) with
   | .inl us=>.inl (u::us)
   | .inr n=>.inr (n + 1))
theorem readL_cons {l:List UInt8} {r:List (List UInt8)} (hr:r ≠ []):readL (l::r)=match unitW (spl 32 l) with
  | none=>.inr 0
  | some u=>(match readL r with
   | .inl us=>.inl (u::us)
   | .inr n=>.inr (n + 1)):=by
 cases r with
 | nil=>exact absurd rfl hr
 | cons m r=>rfl
def app {α:Type} (o:Option (List α)) (l:List α):Option (List α):=match l with
 | []=>o
 | x::t=>some (o.getD []++x::t)
theorem app_get {α:Type} (o:Option (List α)) (l:List α):(app o l).getD []=o.getD []++l:=by cases l <;> simp [app]
theorem app_cons {α:Type} (o:Option (List α)) (x:α) (l:List α):app (some (o.getD []++[x])) l=app o (x::l):=by cases l <;> simp [app]
theorem app_own {α β:Type} {f:Bool} {o:Option (List α)} {x:α} {F:Option (List α)→Option β} (h:f=true∨o=none) (hl:(o.getD []).length + 1≤1073741824):cond f (obind (apO o [x]) F) (cond o.isNone (obind (apO o [x]) F) none)=F (some (o.getD []++[x])):=by
 have e:=apO_one (x:=x) hl
 rcases h with rfl | rfl
 ·rw [cond_true,e,obind_at]
 ·cases f <;> rfl
theorem cutS_tail {α:Type} {w:α} {ws:List α}:cutSO (some (w::ws)) (some 1) none=some (some ws):=by
 unfold cutSO cutO bndI
 have:(0:Int)≤1∧(1:Int)≤(((w::ws).length:Nat):Int):=by simp only [List.length_cons]; omega
 simp only [Option.getD_some,this,and_self,if_true,List.take_length]
 rfl
theorem nums_len:∀ {ws:List (List UInt8)} {l:List Int},nums ws=some l→l.length=ws.length
 | [],l,h=>by cases h; rfl
 | w::ws,l,h=>by
  rw [nums] at h
  cases hs:sgnN w with
  | none=>rw [hs] at h; cases h
  | some v=>
   cases hn:nums ws with
   | none=>rw [hs,hn] at h; cases h
   | some m=>rw [hs,hn] at h; cases h; simp [nums_len hn]
theorem readL_len:∀ {r:List (List UInt8)} {us:List GUnit},r ≠ []→readL r=.inl us→us.length + 1=r.length
 | [],us,h,_=>absurd rfl h
 | [l],us,_,h=>by
  rw [readL] at h
  split at h
  ·cases h; rfl
  ·cases h
 | l::m::r,us,_,h=>by
  rw [readL] at h
  cases hu:unitW (spl 32 l) with
  | none=>rw [hu] at h; cases h
  | some u=>
   rw [hu] at h
   cases hr:readL (m::r) with
   | inr n=>rw [hr] at h; cases h
   | inl vs=>rw [hr] at h; cases h; have:=readL_len (by simp) hr; simp only [List.length_cons] at this ⊢; omega
theorem loop45 (v5:List UInt8):∀ (ws:List (List UInt8)) (wrong:Bool) (o:Option (List Int)) (fl:Bool),(o.getD []).length + ws.length≤1100000→(fl=true∨o=none) →
  ∃ o' fl',itO (s40_0 v5) (some ws,wrong,o,fl)=some (some [],wrong || (nums ws).isNone,o',fl')∧(o'.getD []).length=(o.getD []).length + ws.length∧∀ l,nums ws=some l→o'=app o l
 | [],wrong,o,fl,hl,hf=>⟨o,fl,itO_out (by simp [s40_0,nums]),by simp,by intro l h; cases h; rfl⟩
 | w::ws,wrong,o,fl,hl,hf=>by
  obtain ⟨x,hx,hv⟩:=f94_eq w
  simp only [List.length_cons] at hl
  have hlt:0 < (((w::ws).length:Nat):Int):=by simp only [List.length_cons]; omega
  have h92:f69 [] none (some (w::ws)) wrong v5 o fl=some (x,some ws,wrong || !(sgnN w).isSome):=by
   unfold f69
   rw [show idxO ((some (w::ws)).getD []) 0=some w from rfl,obind_at,hx,obind_at,cutS_tail,obind_at]
   cases wrong <;> rfl
  obtain ⟨o',fl',h1,h2,h3⟩:=loop45 v5 ws (wrong || !(sgnN w).isSome) (some (o.getD []++[x])) true (by simp; omega) (.inl rfl)
  refine ⟨o',fl',?_,?_,?_⟩
  ·rw [itO_in (s':=(some ws,wrong || !(sgnN w).isSome,some (o.getD []++[x]),true)),h1]
   ·rw [nums]
    cases sgnN w with
    | none=>simp
    | some v=>cases nums ws <;> simp
   ·unfold s40_0
    simp only [Option.getD_some,hlt,decide_true,cond_true,h92,obind_at]
    exact app_own hf (by omega)
  ·rw [h2]; simp; omega
  ·intro l hl'
   rw [nums] at hl'
   cases hs:sgnN w with
   | none=>rw [hs] at hl'; cases hl'
   | some v=>
    cases hn:nums ws with
    | none=>rw [hs,hn] at hl'; cases hl'
    | some m=>
     rw [hs,hn] at hl'
     cases hl'
     rw [h3 m hn,hv v hs,app_cons]
theorem f40_eq {s:List UInt8} (hs:s.length≤1000000):∃ u,f40 s=some (u,(unitW (spl 32 s)).isSome)∧∀ g,unitW (spl 32 s)=some g→u=g:=by
 have hne:=spl_ne 32 s
 have hln:=spl_len 32 s
 unfold f40
 rw [E68_eq (by omega),obind_at]
 cases hw:spl 32 s with
 | nil=>exact absurd hw hne
 | cons w ws=>
  rw [hw] at hln
  simp only [List.length_cons] at hln
  obtain ⟨o',fl',h1,h2,h3⟩:=loop45 w ws false none false (by simp; omega) (.inr rfl)
  rw [cutS_tail,obind_at,show idxO ((some (w::ws)).getD []) 0=some w from rfl,obind_at,h1,obind_at]
  simp only [Bool.false_or]
  by_cases hw0:w=[]
  ·subst hw0
   refine ⟨⟨[],o'⟩,?_,?_⟩
   ·simp [unitW]
   ·intro g hg; simp [unitW] at hg
  ·simp only [hw0,decide_false,cond_false]
   refine ⟨⟨w,o'⟩,?_,?_⟩
   ·by_cases hws:ws=[]
    ·subst hws
     simp only [Option.getD_none,List.length_nil,Nat.add_zero] at h2
     simp [unitW,h2]
    ·have hp:0 < ws.length:=List.length_pos_iff.2 hws
     have h0:0 < ((o'.getD []).length:Int):=by rw [h2]; simp; omega
     simp only [h0,decide_true,cond_true,unitW,hw0,hws,or_self,if_false]
     cases nums ws <;> rfl
   ·intro g hg
    rw [unitW] at hg
    split at hg
    ·cases hg
    ·rename_i hc
     cases hn:nums ws with
     | none=>rw [hn] at hg; cases hg
     | some l=>
      rw [hn] at hg
      cases hg
      rw [h3 l hn]
      have hl:=nums_len hn
      cases l with
      | nil=>exact absurd (List.length_eq_zero_iff.1 (by rw [← hl]; rfl)) (fun e=>hc (.inr e))
      | cons a t=>rfl
theorem E39_whole {a:List UInt8} (h:a.length≤1000000):E39 (a++[10]) [10]=some (a,true):=by
 have hs:Lib.hasSuffix (a++[10]) [10]=true:=by
  unfold Lib.hasSuffix
  rw [List.isSuffixOf_iff_suffix]
  exact List.suffix_append _ _
 unfold E39
 rw [exO_of (by simp; omega)]
 unfold Lib.trimSuffix
 rw [hs]; simp
theorem E39_part {a:List UInt8} (h:a.length≤1000000) (hn:(10:UInt8) ∉ a):E39 a [10]=some (a,false):=by
 have hs:Lib.hasSuffix a [10]=false:=by
  cases hc:Lib.hasSuffix a [10] with
  | false=>rfl
  | true=>
   unfold Lib.hasSuffix at hc
   rw [List.isSuffixOf_iff_suffix] at hc
   obtain ⟨t,rfl⟩:=hc
   exact absurd (by simp) hn
 unfold E39
 rw [exO_of (by omega)]
 unfold Lib.trimSuffix
 rw [hs]; simp
theorem y9_whole {a:List UInt8} (ha:a.length≤1000000) {o:Option (List GUnit)} {fl:Bool} {n:Nat} (hf:fl=true∨o=none) (hl:(o.getD []).length + 1≤1073741824) (hn:n≤1000000):
  y9 (o,fl,(n:Int)) (a++[10])=match unitW (spl 32 a) with
   | some u=>some (.inl (some (o.getD []++[u]),true,((n + 1:Nat):Int)))
   | none=>some (.inr ()):=by
 obtain ⟨u,h1,h2⟩:=f40_eq ha
 have hwr:wrapF .i64 ((n:Int) + 1)=((n + 1:Nat):Int):=wrap_nat (by omega)
 unfold y9
 simp only [E39_whole ha,obind_at,h1,Bool.true_and]
 cases hu:unitW (spl 32 a) with
 | none=>rfl
 | some g=>
  have:=h2 g hu
  subst this
  have hc:(fl || o.isNone)=true:=by
   rcases hf with rfl | rfl
   ·rfl
   ·cases fl <;> rfl
  simp only [Option.isSome_some,cond_true,hc,apO_one hl,obind_at,hwr]
theorem y9_part {a:List UInt8} (ha:a.length≤1000000) (hn:(10:UInt8) ∉ a) {d:S9}:y9 d a=some (.inr ()):=by
 obtain ⟨u,h1,h2⟩:=f40_eq ha
 unfold y9
 simp only [E39_part ha hn,obind_at,h1,Bool.false_and,cond_false]
def Res9 (o:Option (List GUnit)) (n:Nat) (r:List GUnit ⊕ Nat) (d:(S9 × List UInt8) ⊕ (S9 × List UInt8)):Prop:=match r with
 | .inl us=>∃ fl' t,d=.inl ((app o us,fl',((n + us.length:Nat):Int)),t)
 | .inr k=>∃ x,d=.inr x∧x.1.2.2=((n + k:Nat):Int)
theorem loop88:∀ (N:Nat) (s:List UInt8),s.length≤N→∀ (o:Option (List GUnit)) (fl b:Bool) (n:Nat),s.length≤1000000→n + s.length≤1000000→(o.getD []).length≤n→(fl=true∨o=none) →
  ∃ d,itO s65 (((o,fl,(n:Int)),s),b)=some d∧Res9 o n (readL (spl 10 s)) d
 | N,s,hN,o,fl,b,n,hs,hns,hl,hf=>by
  rcases spl_cases 10 s with h | ⟨a,t,rfl,h⟩
  ·rw [spl_no h,readL]
   by_cases h0:s=[]
   ·subst h0
    rw [if_pos rfl]
    exact ⟨.inl ((o,fl,(n:Int)),[]),itO_out rfl,⟨fl,[],rfl⟩⟩
   ·rw [if_neg h0]
    have hp:0 < s.length:=List.length_pos_iff.2 h0
    have hp':0 < (s.length:Int):=by omega
    refine ⟨.inr ((o,fl,(n:Int)),[]),itO_out ?_,⟨_,rfl,rfl⟩⟩
    have h89:E66 s 10=some (-1):=by
     show some (Lib.indexByte s 10)=_
     rw [byte_no h]
    unfold s65
    simp only [hp',decide_true,cond_true,h89,obind_at,y9_part hs h]
    rfl
  ·cases N with
   | zero=>simp at hN
   | succ N=>
    simp only [List.length_append,List.length_cons] at hN hs hns
    have hp':0 < (((a++10::t).length:Nat):Int):=by simp only [List.length_append,List.length_cons]; omega
    have h89:E66 (a++10::t) 10=some (a.length:Int):=by
     show some (Lib.indexByte (a++10::t) 10)=_
     rw [byte_at h]
    have hwr:wrapF .i64 ((a.length:Int) + 1)=((a.length + 1:Nat):Int):=wrap_nat (by omega)
    have hge:(0:Int)≤(a.length:Int):=by omega
    have hsp:a++10::t=(a++[10])++t:=by simp
    have hlen:(a++[10]).length=a.length + 1:=by simp
    have hle:((a.length + 1:Nat):Int)≤(((a++10::t).length:Nat):Int):=by simp only [List.length_append,List.length_cons]; omega
    have c1001:cutO (a++10::t) none (some ((a.length + 1:Nat):Int))=some (a++[10]):=by
     unfold cutO bndI
     simp only [Int.natCast_nonneg,hle,and_self,if_true,Int.toNat_natCast,List.drop_zero]
     rw [hsp,← hlen,List.take_left]
    have c1002:cutO (a++10::t) (some ((a.length + 1:Nat):Int)) none=some t:=by
     unfold cutO bndI
     simp only [Int.natCast_nonneg,hle,and_self,if_true,Int.toNat_natCast,List.take_length]
     rw [hsp,← hlen,List.drop_left]
    rw [spl_at h,readL_cons (spl_ne 10 t)]
    have hy:=y9_whole (a:=a) (by omega) (o:=o) (fl:=fl) (n:=n) hf (by omega) (by omega)
    cases hu:unitW (spl 32 a) with
    | none=>
     rw [hu] at hy
     refine ⟨.inr ((o,fl,(n:Int)),t),itO_out ?_,⟨_,rfl,rfl⟩⟩
     unfold s65
     simp only [hp',decide_true,cond_true,h89,obind_at,hge,hwr,c1001,c1002,hy]
    | some u=>
     rw [hu] at hy
     obtain ⟨d,h1,h2⟩:=loop88 N t (by omega) (some (o.getD []++[u])) true false (n + 1) (by omega) (by omega) (by simp; omega) (.inl rfl)
     refine ⟨d,?_,?_⟩
     ·rw [itO_in (s':=(((some (o.getD []++[u]),true,((n + 1:Nat):Int)),t),false)),h1]
      unfold s65
      simp only [hp',decide_true,cond_true,h89,obind_at,hge,hwr,c1001,c1002,hy]
     ·dsimp only
      cases hr:readL (spl 10 t) with
      | inl us=>
       rw [hr] at h2
       obtain ⟨fl',x,rfl⟩:=h2
       refine ⟨fl',x,?_⟩
       rw [app_cons,List.length_cons,show n + 1 + us.length=n + (us.length + 1) by omega]
      | inr k=>
       rw [hr] at h2
       obtain ⟨x,rfl,hx⟩:=h2
       exact ⟨x,rfl,by rw [hx]; congr 1; omega⟩
end Go.Z
