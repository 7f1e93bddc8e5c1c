/- Chapter 4, texts cut at a byte. -/
import Derived.Test.YtnjngdcbkkonnaaGreatDoorA27
import Derived.Test.YtnjngdcbkkonnaaGreatDoorA25
import Derived.Test.YtnjngdcbkkonnaaGreatDoorG0
import Derived.Lib.SplitLaws
import Derived.Test.YtnjngdcbkkonnaaGreatDoorA2
set_option linter.unusedVariables false
set_option linter.unusedSimpArgs false
set_option maxRecDepth 100000
namespace Go.Z
open Go Go.Abs
def qez (c:UInt8) (acc:List UInt8):List UInt8→List (List UInt8)
 | []=>[acc]
 | x::t=>if x=c then acc::qez c [] t else qez c (acc++[x]) t
def spl (c:UInt8) (s:List UInt8):List (List UInt8):=qez c [] s
theorem qvv {c:UInt8}:∀ {s:List UInt8} {acc:List UInt8},c ∉ s→qez c acc s=[acc++s]
 | [],acc,_=>by simp [qez]
 | x::t,acc,h=>by
  have h1:x ≠ c:=fun e=>h (by simp [e])
  have h2:c ∉ t:=fun e=>h (by simp [e])
  rw [qez,if_neg h1,qvv h2]
  simp
theorem qvl {c:UInt8}:∀ {a b acc:List UInt8},c ∉ a→qez c acc (a++c::b)=(acc++a)::spl c b
 | [],b,acc,_=>by simp [qez,spl]
 | x::t,b,acc,h=>by
  have h1:x ≠ c:=fun e=>h (by simp [e])
  have h2:c ∉ t:=fun e=>h (by simp [e])
  rw [List.cons_append,qez,if_neg h1,qvl h2]
  simp
theorem qij {c:UInt8} {s:List UInt8} (h:c ∉ s):spl c s=[s]:=qvv h
theorem qgg {c:UInt8} {a b:List UInt8} (h:c ∉ a):spl c (a++c::b)=a::spl c b:=qvl h
theorem qky (c:UInt8) (s:List UInt8):c ∉ s∨∃ a b,s=a++c::b∧c ∉ a:=by
 by_cases h:c∈s
 ·obtain ⟨a,b,h1,h2⟩:=List.eq_append_cons_of_mem h
  exact .inr ⟨a,b,h1,h2⟩
 ·exact .inl h
theorem qow {c:UInt8} {P:List UInt8→Prop} (h0:∀ s,c ∉ s→P s) (h1:∀ a b,c ∉ a→P b→P (a++c::b)):∀ (n:Nat) (s:List UInt8),s.length≤n→P s
 | 0,s,hn=>h0 s (by rw [List.length_eq_zero_iff.1 (by omega:s.length=0)]; simp)
 | n + 1,s,hn=>by
  rcases qky c s with h | ⟨a,b,rfl,h⟩
  ·exact h0 s h
  ·exact h1 a b h (qow h0 h1 n b (by simp only [List.length_append,List.length_cons] at hn; omega))
theorem qj9 (c:UInt8) (s:List UInt8):spl c s ≠ []:=by
 rcases qky c s with h | ⟨a,b,rfl,h⟩
 ·rw [qij h]; simp
 ·rw [qgg h]; simp
theorem qro (c:UInt8) (s:List UInt8):Lib.join (spl c s) [c]=s:=by
 refine qow (c:=c) (P:=fun s=>Lib.join (spl c s) [c]=s) ?_ ?_ s.length s (Nat.le_refl _)
 ·intro s h; rw [qij h,Lib.join_one]
 ·intro a b h ih
  rw [qgg h]
  cases hb:spl c b with
  | nil=>exact absurd hb (qj9 c b)
  | cons x r=>
   rw [hb] at ih
   rw [Lib.join_cons]
   rw [Lib.join_cons] at ih
   simp only [Lib.joinTail,List.map_cons,List.flatten_cons] at ih ⊢
   rw [← ih]
   simp
theorem qmg (c:UInt8):∀ (x:List UInt8) (r:List (List UInt8)),c ∉ x→(∀ y∈r,c ∉ y)→spl c (Lib.join (x::r) [c])=x::r
 | x,[],hx,_=>by rw [Lib.join_one,qij hx]
 | x,y::r,hx,hr=>by
  have ih:=qmg c y r (hr y (by simp)) (fun z hz=>hr z (by simp [hz]))
  rw [Lib.join_cons] at ih ⊢
  simp only [Lib.joinTail,List.map_cons,List.flatten_cons,List.cons_append,List.nil_append] at ih ⊢
  rw [qgg hx,ih]
theorem qsa {c:UInt8}:∀ {s:List UInt8},c ∉ s→Lib.index s [c]=-1
 | [],_=>rfl
 | x::t,h=>by
  have h1:x ≠ c:=fun e=>h (by simp [e])
  have h2:c ∉ t:=fun e=>h (by simp [e])
  have hp:([c]:List UInt8).isPrefixOf (x::t)=false:=by simp [List.isPrefixOf,Ne.symm h1]
  rw [Lib.index,hp,qsa h2]; rfl
theorem qtz {c:UInt8}:∀ {a b:List UInt8},c ∉ a→Lib.index (a++c::b) [c]=(a.length:Int)
 | [],b,_=>by simp [Lib.index,List.isPrefixOf]
 | x::t,b,h=>by
  have h1:x ≠ c:=fun e=>h (by simp [e])
  have h2:c ∉ t:=fun e=>h (by simp [e])
  have hp:([c]:List UInt8).isPrefixOf (x::(t++c::b))=false:=by simp [List.isPrefixOf,Ne.symm h1]
  have hne:((t.length:Int) == -1)=false:=by simp
  rw [List.cons_append,Lib.index,hp,qtz h2,hne]
  simp
theorem qvi {c:UInt8}:∀ {s:List UInt8},c ∉ s→Lib.indexByte s c=-1
 | [],_=>rfl
 | x::t,h=>by
  have h1:x ≠ c:=fun e=>h (by simp [e])
  have h2:c ∉ t:=fun e=>h (by simp [e])
  rw [Lib.indexByte,if_neg (by simpa using h1),qvi h2]; rfl
theorem qu5 {c:UInt8}:∀ {a b:List UInt8},c ∉ a→Lib.indexByte (a++c::b) c=(a.length:Int)
 | [],b,_=>by simp [Lib.indexByte]
 | x::t,b,h=>by
  have h1:x ≠ c:=fun e=>h (by simp [e])
  have h2:c ∉ t:=fun e=>h (by simp [e])
  have hne:((t.length:Int) == -1)=false:=by simp
  rw [List.cons_append,Lib.indexByte,if_neg (by simpa using h1),qu5 h2,hne]
  simp
theorem q2b (c:UInt8) (s:List UInt8):Lib.split s [c]=spl c s:=by
 refine qow (c:=c) (P:=fun s=>Lib.split s [c]=spl c s) ?_ ?_ s.length s (Nat.le_refl _)
 ·intro s h
  rw [qij h,Lib.split,Lib.count_miss (qsa h)]; rfl
 ·intro a b h ih
  have hi:=qtz (b:=b) h
  have hd:(a++c::b).drop (a.length + 1)=b:=by
   rw [show a++c::b=(a++[c])++b by simp,show a.length + 1=(a++[c]).length by simp,List.drop_left]
  have hm:((a.length:Int) == -1)=false:=by simp
  rw [qgg h,Lib.split,Lib.count_hit (by simp) hi]
  simp only [List.length_singleton,hd,Nat.add_comm 1]
  rw [Lib.splitK,hi,hm]
  simp only [Bool.false_eq_true,if_false,Int.toNat_natCast,Nat.add_zero,List.length_singleton,hd]
  rw [List.take_left',← ih]; · rfl
  ·rfl
theorem q3t {c:UInt8} {s:List UInt8} (hs:s.length < 4294967281):qpd s [c]=some (some (spl c s)):=by
 unfold qpd
 rw [qhy ⟨hs,by simp⟩,← q2b]
 rw [Lib.splitB_data]
 rfl
theorem qpi {α:Type} {o:Option (List α)} {x:α} (h:(o.getD []).length + 1≤1073741824):apO o [x]=some (some (o.getD []++[x])):=by
 unfold apO
 rw [if_pos (by simpa using h)]
 cases o <;> rfl
theorem qo3 {α:Type} {s:List α} {i:Nat} (hi:i < s.length):s.drop i=s[i]::s.drop (i + 1):=(List.drop_eq_getElem_cons hi)
theorem qok {s:List UInt8} {c:UInt8} (hs:s.length≤1000000):∀ (k i st:Nat) (o:Option (List (List UInt8))) (fl:Bool),i + k=s.length→st≤i→(o.getD []).length≤i→(fl=true∨o=none) →
  ∃ o' fl' st',itO (qfb s (c.toNat:Int)) (o,(st:Int),(i:Int),fl)=some (o',fl',((st':Nat):Int),(s.length:Int))∧st'≤s.length∧(fl'=true∨o'=none)∧(o'.getD []).length≤s.length∧o'.getD []++[s.drop st']=o.getD []++qez c ((s.drop st).take (i - st)) (s.drop i)
 | 0,i,st,o,fl,hi,hst,hl,hf=>by
  have hi:i=s.length:=by omega
  subst hi
  refine ⟨o,fl,st,qat ?_,hst,hf,hl,?_⟩
  ·unfold qfb
   simp only [Int.lt_irrefl,decide_false,cond_false]
  ·rw [List.drop_of_length_le (Nat.le_refl _),qez,List.take_of_length_le (by rw [List.length_drop]; omega)]
 | k + 1,i,st,o,fl,hi,hst,hl,hf=>by
  have hlt:i < s.length:=by omega
  have hlt':(i:Int) < (s.length:Int):=by omega
  have hix:zz s (i:Int)=some s[i]:=by rw [qja,List.getElem?_eq_getElem hlt]
  have hw:qk .i64 ((i:Int) + 1)=((i + 1:Nat):Int):=qfz (by omega)
  rw [qo3 hlt,qez]
  by_cases hc:s[i]=c
  ·have hd:((s[i].toNat:Int)=(c.toNat:Int)):=by rw [hc]
   have hcut:kx s (some (st:Int)) (some (i:Int))=some ((s.drop st).take (i - st)):=by
    unfold kx qbj
    simp only [Int.natCast_nonneg,Int.toNat_natCast,true_and,show (i:Int)≤(s.length:Int) by omega,show (st:Int)≤(i:Int) by omega,if_true]
    rw [List.drop_take]
   have hap:=qpi (x:=(s.drop st).take (i - st)) (o:=o) (by omega)
   obtain ⟨o',fl',st',h1,h2,h3,h4,h5⟩:=qok hs k (i + 1) (i + 1) (some (o.getD []++[(s.drop st).take (i - st)])) true (by omega) (Nat.le_refl _) (by simp; omega) (.inl rfl)
   refine ⟨o',fl',st',?_,h2,h3,h4,?_⟩
   ·rw [qed (s':=(some (o.getD []++[(s.drop st).take (i - st)]),((i + 1:Nat):Int),((i + 1:Nat):Int),true)),h1]
    unfold qfb
    simp only [hlt',decide_true,cond_true,hix,ql,hd,hcut,hap,hw]
    rcases hf with rfl | rfl
    ·rfl
    ·cases fl <;> rfl
   ·rw [h5,if_pos hc,Nat.sub_self,List.take_zero]
    simp
  ·have hd:¬ ((s[i].toNat:Int)=(c.toNat:Int)):=fun e=>hc (UInt8.toNat_inj.1 (by omega))
   obtain ⟨o',fl',st',h1,h2,h3,h4,h5⟩:=qok hs k (i + 1) st o fl (by omega) (by omega) (by omega) hf
   refine ⟨o',fl',st',?_,h2,h3,h4,?_⟩
   ·rw [qed (s':=(o,(st:Int),((i + 1:Nat):Int),fl)),h1]
    unfold qfb
    simp only [hlt',decide_true,cond_true,hix,ql,hd,decide_false,cond_false,hw]
   ·have ht:(s.drop st).take (i + 1 - st)=(s.drop st).take (i - st)++[s[i]]:=by
     rw [show i + 1 - st=(i - st) + 1 by omega,List.take_succ_eq_append_getElem (by rw [List.length_drop]; omega)]
     congr 2
     rw [List.getElem_drop]; congr 1; omega
    rw [h5,if_neg hc,ht]
theorem q5l {s:List UInt8} {c:UInt8} (hs:s.length≤1000000):f96 s (c.toNat:Int)=some (some (spl c s)):=by
 obtain ⟨o',fl',st',h1,h2,h3,h4,h5⟩:=qok (c:=c) hs s.length 0 0 none false (by omega) (Nat.le_refl _) (Nat.zero_le _) (.inr rfl)
 unfold f96
 have hcut:kx s (some (st':Int)) none=some (s.drop st'):=by
  unfold kx qbj
  simp only [Int.natCast_nonneg,Int.toNat_natCast,true_and,show (st':Int)≤(s.length:Int) by omega,if_true,List.take_length]
 have hap:=qpi (x:=s.drop st') (o:=o') (by omega)
 have h1':itO (qfb s (c.toNat:Int)) (none,0,0,false)=some (o',fl',(st':Int),(s.length:Int)):=h1
 simp only [h1',ql,hcut,hap]
 have h5':o'.getD []++[s.drop st']=spl c s:=by rw [h5]; rfl
 rw [h5']
 rcases h3 with rfl | rfl
 ·rfl
 ·cases fl' <;> rfl
def qcj:Int→List UInt8→Option Int
 | n,[]=>some n
 | n,c::t=>if 48≤c.toNat∧c.toNat≤57 then qcj (10 * n + ((c.toNat:Int) - 48)) t else none
theorem qk9:∀ (n:Int) (b:List UInt8) (c:UInt8),qcj n (b++[c])=match qcj n b with
  | some m=>if 48≤c.toNat∧c.toNat≤57 then some (10 * m + ((c.toNat:Int) - 48)) else none
  | none=>none
 | n,[],c=>rfl
 | n,x::t,c=>by
  rw [List.cons_append,qcj,qcj]
  split
  ·exact qk9 _ t c
  ·rfl
def zf (b:List UInt8):Option Int:=if b=[]∨9 < b.length∨(1 < b.length∧b.head?=some 48) then none else qcj 0 b
theorem qh2 {x:Int} (h1:-9223372036854775808≤x) (h2:x≤9223372036854775807):qk .i64 x=x:=qg6 h1 h2
theorem q4n {x:Int} (h1:0≤x) (h2:x≤2000000):qk .i32 x=x:=by
 rw [qb6]
 simp only [IntKind.wrap,IntKind.signed,IntKind.bits]
 simp
 omega
theorem q4h {i:Nat} (h:i≤9):(10:Int) ^ i≤1000000000:=by
 rw [show (1000000000:Int)=((10 ^ 9:Nat):Int) by decide,show ((10:Int) ^ i)=((10 ^ i:Nat):Int) by simp]
 exact Int.ofNat_le.2 (Nat.pow_le_pow_right (by omega) (by omega))
theorem qsg {s:List UInt8} (h:0 < s.length):s.head?=some s[0]:=by
 cases s with
 | nil=>simp at h
 | cons a t=>rfl
theorem qu7 {s:List UInt8} (hs:s.length≤9):∀ (k i:Nat) (n:Int),i + k=s.length→0≤n→n < 10 ^ i →
  ∃ j,itO (qcq s) (n,i)=some (match qcj n (s.drop i) with | none=>.inl j | some v=>.inr (v,s.length))
 | 0,i,n,hi,h0,h1=>by
  have hi:i=s.length:=by omega
  subst hi
  rw [List.drop_of_length_le (Nat.le_refl _),qcj]
  exact ⟨0,qat (by unfold qcq; simp only [Nat.lt_irrefl,decide_false,cond_false])⟩
 | k + 1,i,n,hi,h0,h1=>by
  have hlt:i < s.length:=by omega
  have hg:s[i]?=some s[i]:=List.getElem?_eq_getElem hlt
  have hp:=q4h (show i≤9 by omega)
  have h9:¬ 9 < (s.length:Int):=by omega
  rw [qo3 hlt,qcj]
  by_cases hd:48≤s[i].toNat∧s[i].toNat≤57
  ·have e:=qk7 hg (by omega)
   obtain ⟨j,hj⟩:=qu7 hs k (i + 1) (10 * n + ((s[i].toNat:Int) - 48)) (by omega) (by omega) (by rw [Int.pow_succ]; omega)
   refine ⟨j,?_⟩
   rw [if_pos hd,← hj]
   refine qed ?_
   have a1:¬ (s[i].toNat:Int) < 48:=by omega
   have a2:¬ 57 < (s[i].toNat:Int):=by omega
   unfold qcq
   simp only [hlt,decide_true,cond_true,e,a1,a2,h9,decide_false,cond_false]
   rw [q4n (by omega) (by omega),qh2 (x:=10 * n) (by omega) (by omega),qh2 (x:=(s[i].toNat:Int) - 48) (by omega) (by omega),qh2 (by omega) (by omega)]
  ·rw [if_neg hd]
   refine ⟨i + (qe s i).2,qat ?_⟩
   unfold qcq
   simp only [hlt,decide_true,cond_true,h9,decide_false,cond_false]
   by_cases hl:s[i].toNat < 128
   ·rw [qk7 hg hl]
    by_cases a1:(s[i].toNat:Int) < 48
    ·simp only [a1,decide_true,cond_true]
    ·have a2:57 < (s[i].toNat:Int):=by omega
     simp only [a1,a2,decide_true,cond_true,decide_false,cond_false]
   ·have:=qp9 hg hl
    have a1:¬ ((qe s i).1:Int) < 48:=by omega
    have a2:57 < ((qe s i).1:Int):=by omega
    simp only [a1,a2,decide_true,cond_true,decide_false,cond_false]
theorem q4k {s:List UInt8} (hs:9 < s.length):∃ j,itO (qcq s) (0,0)=some (.inl j):=by
 refine ⟨0 + (qe s 0).2,qat ?_⟩
 have h0:0 < s.length:=by omega
 have h9:9 < (s.length:Int):=by omega
 unfold qcq
 simp only [h0,h9,decide_true,cond_true]
 by_cases a1:((qe s 0).1:Int) < 48
 ·simp only [a1,decide_true,cond_true]
 ·by_cases a2:57 < ((qe s 0).1:Int)
  ·simp only [a1,a2,decide_true,cond_true,decide_false,cond_false]
  ·simp only [a1,a2,decide_false,cond_false]
theorem q26 (s:List UInt8):∃ x,f217 s=some (x,(zf s).isSome)∧∀ v,zf s=some v→x=v:=by
 unfold f217
 by_cases hl:9 < s.length
 ·obtain ⟨j,hj⟩:=q4k hl
  rw [hj,ql]
  have hn:zf s=none:=by unfold zf; rw [if_pos (.inr (.inl hl))]
  rw [hn]
  exact ⟨0,rfl,by intro v hv; cases hv⟩
 ·obtain ⟨j,hj⟩:=qu7 (s:=s) (by omega) s.length 0 0 (by simp) (by omega) (by simp)
  rw [hj,List.drop_zero]
  cases hd:qcj 0 s with
  | none=>
   rw [ql]
   have hn:zf s=none:=by
    unfold zf
    split
    ·rfl
    ·exact hd
   rw [hn]
   exact ⟨0,rfl,by intro v hv; cases hv⟩
  | some v=>
   rw [ql]
   dsimp only
   by_cases hb:s=[]
   ·subst hb
    exact ⟨_,rfl,by intro w hw; cases hw⟩
   ·have hp:0 < s.length:=List.length_pos_iff.2 hb
    have hix:zz s 0=some s[0]:=by rw [show (0:Int)=((0:Nat):Int) from rfl,qja,List.getElem?_eq_getElem hp]
    by_cases h1:s.length=1
    ·have h1':(s.length:Int)=1:=by omega
     have hn:zf s=some v:=by
      unfold zf
      rw [if_neg,hd]
      rintro (h | h | h)
      ·exact hb h
      ·omega
      ·omega
     simp only [hb,h1',decide_false,decide_true,cond_false,cond_true,hn]
     exact ⟨v,rfl,by intro w hw; exact Option.some.inj hw⟩
    ·have h1':¬ (s.length:Int)=1:=by omega
     simp only [hb,h1',decide_false,cond_false,hix,ql]
     by_cases h4:s[0]=48
     ·have h4':(s[0].toNat:Int)=48:=by rw [h4]; rfl
      have hn:zf s=none:=by
       unfold zf
       rw [if_pos (.inr (.inr ⟨by omega,by rw [qsg hp,h4]⟩))]
      rw [hn,h4']
      exact ⟨v,rfl,by intro w hw; cases hw⟩
     ·have h4':¬ (s[0].toNat:Int)=48:=fun e=>h4 (UInt8.toNat_inj.1 (by have:(48:UInt8).toNat=48:=rfl; omega))
      have hn:zf s=some v:=by
       unfold zf
       rw [if_neg,hd]
       rintro (h | h | h)
       ·exact hb h
       ·omega
       ·rw [qsg hp] at h; exact h4 (Option.some.inj h.2)
      simp only [h4',decide_false,hn]
      exact ⟨v,rfl,by intro w hw; exact Option.some.inj hw⟩
theorem qfj {u:Nat} (h:¬ u < 10):Lib.decDigits u=Lib.decDigits (u / 10)++[UInt8.ofNat (48 + u % 10)]:=by rw [Lib.decDigits,dif_neg h]
theorem qoy:∀ (k u:Nat),u < 10 ^ (k + 1)→(Lib.decDigits u).length≤k + 1
 | 0,u,h=>by rw [kl (by simpa using h)]; simp
 | k + 1,u,h=>by
  by_cases hu:u < 10
  ·rw [kl hu]; simp
  ·have:=qoy k (u / 10) (by rw [Nat.pow_succ] at h; omega)
   rw [qfj hu,List.length_append,List.length_singleton]; omega
theorem qva (u:Nat):0 < (Lib.decDigits u).length:=by
 by_cases hu:u < 10
 ·rw [kl hu]; simp
 ·rw [qfj hu]; simp
theorem qa1 {d:Nat} (h:d < 10):(UInt8.ofNat (48 + d)).toNat=48 + d:=by
 rw [UInt8.toNat_ofNat']; omega
theorem qty:∀ (n u:Nat),u≤n→qcj 0 (Lib.decDigits u)=some (u:Int)
 | n,u,h=>by
  by_cases hu:u < 10
  ·rw [kl hu,qcj,qa1 hu,if_pos (by omega),qcj]
   congr 1; omega
  ·cases n with
   | zero=>omega
   | succ n=>
    rw [qfj hu,qk9,qty n (u / 10) (by omega)]
    simp only [qa1 (Nat.mod_lt u (by omega:0 < 10))]
    rw [if_pos (by omega)]
    congr 1; omega
theorem qte:∀ (n u:Nat),u≤n→0 < u→(Lib.decDigits u).head? ≠ some 48
 | n,u,h,h0=>by
  by_cases hu:u < 10
  ·rw [kl hu]
   intro e
   have e1:UInt8.ofNat (48 + u)=48:=Option.some.inj e
   have:=qa1 hu
   rw [e1] at this
   have h2:(48:UInt8).toNat=48:=rfl
   omega
  ·cases n with
   | zero=>omega
   | succ n=>
    have ih:=qte n (u / 10) (by omega) (by omega)
    rw [qfj hu]
    have hp:=qva (u / 10)
    cases hd:Lib.decDigits (u / 10) with
    | nil=>rw [hd] at hp; simp at hp
    | cons x t=>rw [hd] at ih; exact ih
theorem q3g {u:Nat} (h:u < 1000000000):zf (Lib.decDigits u)=some (u:Int):=by
 have h1:=qoy 8 u (by omega)
 have h2:=qva u
 unfold zf
 rw [if_neg,qty u u (Nat.le_refl _)]
 rintro (e | e | ⟨e1,e2⟩)
 ·rw [e] at h2; simp at h2
 ·omega
 ·by_cases hu:u < 10
  ·rw [kl hu] at e1; simp at e1
  ·exact qte u u (Nat.le_refl _) (by omega) e2
theorem qt0:∀ (n u:Nat),u≤n→∀ c∈Lib.decDigits u,48≤c.toNat∧c.toNat≤57
 | n,u,h,c,hc=>by
  by_cases hu:u < 10
  ·rw [kl hu] at hc
   obtain rfl:=List.mem_singleton.1 hc
   rw [qa1 hu]; omega
  ·cases n with
   | zero=>omega
   | succ n=>
    rw [qfj hu] at hc
    rcases List.mem_append.1 hc with hc | hc
    ·exact qt0 n (u / 10) (by omega) c hc
    ·obtain rfl:=List.mem_singleton.1 hc
     have:=Nat.mod_lt u (by omega:0 < 10)
     rw [qa1 this]; omega
theorem qs7:∀ (n:Nat) (b:List UInt8) (v:Int),b.length≤n→b ≠ []→(b.length=1∨b.head? ≠ some 48)→qcj 0 b=some v→0≤v∧Lib.decDigits v.toNat=b
 | 0,b,v,hn,hb,_,_=>absurd (List.length_eq_zero_iff.1 (by omega)) hb
 | n + 1,b,v,hn,hb,hh,hd=>by
  obtain ⟨t,c,rfl⟩:∃ t c,b=t++[c]:=⟨b.dropLast,b.getLast hb,(List.dropLast_concat_getLast hb).symm⟩
  rw [qk9] at hd
  by_cases ht:t=[]
  ·subst ht
   simp only [qcj] at hd
   split at hd
   ·rename_i hc
    cases hd
    refine ⟨by omega,?_⟩
    rw [kl (by omega)]
    simp only [List.nil_append,List.cons.injEq,and_true]
    apply UInt8.toNat_inj.1
    rw [qa1 (by omega)]; omega
   ·cases hd
  ·cases hm:qcj 0 t with
   | none=>rw [hm] at hd; cases hd
   | some m=>
    rw [hm] at hd
    dsimp only at hd
    split at hd
    ·rename_i hc
     cases hd
     have hlt:0 < t.length:=List.length_pos_iff.2 ht
     have hh':t.head? ≠ some 48:=by
      rcases hh with hh | hh
      ·simp only [List.length_append,List.length_singleton] at hh; omega
      ·cases t with
       | nil=>exact absurd rfl ht
       | cons x t=>exact hh
     have ih:=qs7 n t m (by simp only [List.length_append,List.length_singleton] at hn; omega) ht (.inr hh') hm
     have hm0:m ≠ 0:=by
      rintro rfl
      have h2:=ih.2
      rw [show (0:Int).toNat=0 from rfl,kl (by omega)] at h2
      exact hh' (by rw [← h2]; rfl)
     refine ⟨by omega,?_⟩
     rw [qfj (by omega)]
     have e1:(10 * m + ((c.toNat:Int) - 48)).toNat / 10=m.toNat:=by omega
     have e2:(10 * m + ((c.toNat:Int) - 48)).toNat % 10=c.toNat - 48:=by omega
     rw [e1,e2,ih.2]
     congr 2
     apply UInt8.toNat_inj.1
     rw [qa1 (by omega)]; omega
    ·cases hd
theorem q01 {b:List UInt8} {v:Int} (h:zf b=some v):0≤v∧Lib.decDigits v.toNat=b:=by
 unfold zf at h
 split at h
 ·cases h
 ·rename_i hc
  have h1:b ≠ []:=fun e=>hc (.inl e)
  have h2:b.length=1∨b.head? ≠ some 48:=by
   by_cases e:b.length=1
   ·exact .inl e
   ·refine .inr fun e2=>hc (.inr (.inr ⟨?_,e2⟩))
    have:=List.length_pos_iff.2 h1
    omega
  exact qs7 b.length b v (Nat.le_refl _) h1 h2 h
end Go.Z
