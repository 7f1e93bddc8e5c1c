/- Chapter 4, texts cut at a byte. -/
import Derived.Test.YtnjngdcbkkonnaaGreatDoorA27
import Derived.Test.YtnjngdcbkkonnaaGreatDoorA25
import Derived.Test.YtnjngdcbkkonnaaGreatDoorG0
import Derived.Lib.SplitLaws
import Derived.Test.YtnjngdcbkkonnaaGreatDoorA2
set_option linter.unusedVariables false
set_option linter.unusedSimpArgs false
set_option maxRecDepth 100000
namespace Go.Z
open Go Go.Abs
def qfa (c:UInt8) (acc:List UInt8):List UInt8→List (List UInt8)
 | []=>[acc]
 | x::t=>if x=c then acc::qfa c [] t else qfa c (acc++[x]) t
def spl (c:UInt8) (s:List UInt8):List (List UInt8):=qfa c [] s
theorem qwm {c:UInt8}:∀ {s:List UInt8} {acc:List UInt8},c ∉ s→qfa c acc s=[acc++s]
 | [],acc,_=>by simp [qfa]
 | x::t,acc,h=>by
  have h1:x ≠ c:=fun e=>h (by simp [e])
  have h2:c ∉ t:=fun e=>h (by simp [e])
  rw [qfa,if_neg h1,qwm h2]
  simp
theorem qwa {c:UInt8}:∀ {a b acc:List UInt8},c ∉ a→qfa c acc (a++c::b)=(acc++a)::spl c b
 | [],b,acc,_=>by simp [qfa,spl]
 | x::t,b,acc,h=>by
  have h1:x ≠ c:=fun e=>h (by simp [e])
  have h2:c ∉ t:=fun e=>h (by simp [e])
  rw [List.cons_append,qfa,if_neg h1,qwa h2]
  simp
theorem qk0 {c:UInt8} {s:List UInt8} (h:c ∉ s):spl c s=[s]:=qwm h
theorem qkq {c:UInt8} {a b:List UInt8} (h:c ∉ a):spl c (a++c::b)=a::spl c b:=qwa h
theorem qlq (c:UInt8) (s:List UInt8):c ∉ s∨∃ a b,s=a++c::b∧c ∉ a:=by
 by_cases h:c∈s
 ·obtain ⟨a,b,h1,h2⟩:=List.eq_append_cons_of_mem h
  exact .inr ⟨a,b,h1,h2⟩
 ·exact .inl h
theorem ql0 {c:UInt8} {P:List UInt8→Prop} (h0:∀ s,c ∉ s→P s) (h1:∀ a b,c ∉ a→P b→P (a++c::b)):∀ (n:Nat) (s:List UInt8),s.length≤n→P s
 | 0,s,hn=>h0 s (by rw [List.length_eq_zero_iff.1 (by omega:s.length=0)]; simp)
 | n + 1,s,hn=>by
  rcases qlq c s with h | ⟨a,b,rfl,h⟩
  ·exact h0 s h
  ·exact h1 a b h (ql0 h0 h1 n b (by simp only [List.length_append,List.length_cons] at hn; omega))
theorem qok (c:UInt8) (s:List UInt8):spl c s ≠ []:=by
 rcases qlq c s with h | ⟨a,b,rfl,h⟩
 ·rw [qk0 h]; simp
 ·rw [qkq h]; simp
theorem q49 (c:UInt8) (s:List UInt8):∀ w∈spl c s,w.length≤s.length∧c ∉ w:=by
 refine ql0 (c:=c) (P:=fun s=>∀ w∈spl c s,w.length≤s.length∧c ∉ w) ?_ ?_ s.length s (Nat.le_refl _)
 ·intro s h w hw
  rw [qk0 h] at hw
  obtain rfl:=List.mem_singleton.1 hw
  exact ⟨Nat.le_refl _,h⟩
 ·intro a b h ih w hw
  rw [qkq h] at hw
  simp only [List.length_append,List.length_cons]
  rcases List.mem_cons.1 hw with rfl | hw
  ·exact ⟨by omega,h⟩
  ·have:=ih w hw
   exact ⟨by omega,this.2⟩
theorem qvi (c:UInt8) (s:List UInt8):(spl c s).length≤s.length + 1:=by
 refine ql0 (c:=c) (P:=fun s=>(spl c s).length≤s.length + 1) ?_ ?_ s.length s (Nat.le_refl _)
 ·intro s h; rw [qk0 h]; simp
 ·intro a b h ih
  rw [qkq h]
  simp only [List.length_append,List.length_cons]
  omega
theorem qt3 {c:UInt8}:∀ {s:List UInt8},c ∉ s→Lib.index s [c]=-1
 | [],_=>rfl
 | x::t,h=>by
  have h1:x ≠ c:=fun e=>h (by simp [e])
  have h2:c ∉ t:=fun e=>h (by simp [e])
  have hp:([c]:List UInt8).isPrefixOf (x::t)=false:=by simp [List.isPrefixOf,Ne.symm h1]
  rw [Lib.index,hp,qt3 h2]; rfl
theorem qsz {c:UInt8}:∀ {a b:List UInt8},c ∉ a→Lib.index (a++c::b) [c]=(a.length:Int)
 | [],b,_=>by simp [Lib.index,List.isPrefixOf]
 | x::t,b,h=>by
  have h1:x ≠ c:=fun e=>h (by simp [e])
  have h2:c ∉ t:=fun e=>h (by simp [e])
  have hp:([c]:List UInt8).isPrefixOf (x::(t++c::b))=false:=by simp [List.isPrefixOf,Ne.symm h1]
  have hne:((t.length:Int) == -1)=false:=by simp
  rw [List.cons_append,Lib.index,hp,qsz h2,hne]
  simp
theorem qve {c:UInt8}:∀ {s:List UInt8},c ∉ s→Lib.indexByte s c=-1
 | [],_=>rfl
 | x::t,h=>by
  have h1:x ≠ c:=fun e=>h (by simp [e])
  have h2:c ∉ t:=fun e=>h (by simp [e])
  rw [Lib.indexByte,if_neg (by simpa using h1),qve h2]; rfl
theorem qwf {c:UInt8}:∀ {a b:List UInt8},c ∉ a→Lib.indexByte (a++c::b) c=(a.length:Int)
 | [],b,_=>by simp [Lib.indexByte]
 | x::t,b,h=>by
  have h1:x ≠ c:=fun e=>h (by simp [e])
  have h2:c ∉ t:=fun e=>h (by simp [e])
  have hne:((t.length:Int) == -1)=false:=by simp
  rw [List.cons_append,Lib.indexByte,if_neg (by simpa using h1),qwf h2,hne]
  simp
theorem q2o (c:UInt8) (s:List UInt8):Lib.split s [c]=spl c s:=by
 refine ql0 (c:=c) (P:=fun s=>Lib.split s [c]=spl c s) ?_ ?_ s.length s (Nat.le_refl _)
 ·intro s h
  rw [qk0 h,Lib.split,Lib.count_miss (qt3 h)]; rfl
 ·intro a b h ih
  have hi:=qsz (b:=b) h
  have hd:(a++c::b).drop (a.length + 1)=b:=by
   rw [show a++c::b=(a++[c])++b by simp,show a.length + 1=(a++[c]).length by simp,List.drop_left]
  have hm:((a.length:Int) == -1)=false:=by simp
  rw [qkq h,Lib.split,Lib.count_hit (by simp) hi]
  simp only [List.length_singleton,hd,Nat.add_comm 1]
  rw [Lib.splitK,hi,hm]
  simp only [Bool.false_eq_true,if_false,Int.toNat_natCast,Nat.add_zero,List.length_singleton,hd]
  rw [List.take_left',← ih]; · rfl
  ·rfl
theorem q4a {c:UInt8} {s:List UInt8} (hs:s.length < 4294967281):qpb s [c]=some (some (spl c s)):=by
 unfold qpb
 rw [qi0 ⟨hs,by simp⟩,← q2o]
 rw [Lib.splitB_data]
 rfl
theorem qms {α:Type} {o:Option (List α)} {x:α} (h:(o.getD []).length + 1≤1073741824):apO o [x]=some (some (o.getD []++[x])):=by
 unfold apO
 rw [if_pos (by simpa using h)]
 cases o <;> rfl
theorem qcm {α:Type} {s:List α} {i:Nat} (hi:i < s.length):s.drop i=s[i]::s.drop (i + 1):=(List.drop_eq_getElem_cons hi)
theorem qo9 {s:List UInt8} {c:UInt8} (hs:s.length≤1000000):∀ (k i st:Nat) (o:Option (List (List UInt8))) (fl:Bool),i + k=s.length→st≤i→(o.getD []).length≤i→(fl=true∨o=none) →
  ∃ o' fl' st',itO (qfu s (c.toNat:Int)) (o,(st:Int),(i:Int),fl)=some (o',fl',((st':Nat):Int),(s.length:Int))∧st'≤s.length∧(fl'=true∨o'=none)∧(o'.getD []).length≤s.length∧o'.getD []++[s.drop st']=o.getD []++qfa c ((s.drop st).take (i - st)) (s.drop i)
 | 0,i,st,o,fl,hi,hst,hl,hf=>by
  have hi:i=s.length:=by omega
  subst hi
  refine ⟨o,fl,st,zo ?_,hst,hf,hl,?_⟩
  ·unfold qfu
   simp only [Int.lt_irrefl,decide_false,cond_false]
  ·rw [List.drop_of_length_le (Nat.le_refl _),qfa,List.take_of_length_le (by rw [List.length_drop]; omega)]
 | k + 1,i,st,o,fl,hi,hst,hl,hf=>by
  have hlt:i < s.length:=by omega
  have hlt':(i:Int) < (s.length:Int):=by omega
  have hix:jy s (i:Int)=some s[i]:=by rw [qaw,List.getElem?_eq_getElem hlt]
  have hw:qi .i64 ((i:Int) + 1)=((i + 1:Nat):Int):=qba (by omega)
  rw [qcm hlt,qfa]
  by_cases hc:s[i]=c
  ·have hd:((s[i].toNat:Int)=(c.toNat:Int)):=by rw [hc]
   have hcut:qaz s (some (st:Int)) (some (i:Int))=some ((s.drop st).take (i - st)):=by
    unfold qaz qby
    simp only [Int.natCast_nonneg,Int.toNat_natCast,true_and,show (i:Int)≤(s.length:Int) by omega,show (st:Int)≤(i:Int) by omega,if_true]
    rw [List.drop_take]
   have hap:=qms (x:=(s.drop st).take (i - st)) (o:=o) (by omega)
   obtain ⟨o',fl',st',h1,h2,h3,h4,h5⟩:=qo9 hs k (i + 1) (i + 1) (some (o.getD []++[(s.drop st).take (i - st)])) true (by omega) (Nat.le_refl _) (by simp; omega) (.inl rfl)
   refine ⟨o',fl',st',?_,h2,h3,h4,?_⟩
   ·rw [qau (s':=(some (o.getD []++[(s.drop st).take (i - st)]),((i + 1:Nat):Int),((i + 1:Nat):Int),true)),h1]
    unfold qfu
    simp only [hlt',decide_true,cond_true,hix,qj,hd,hcut,hap,hw]
    rcases hf with rfl | rfl
    ·rfl
    ·cases fl <;> rfl
   ·rw [h5,if_pos hc,Nat.sub_self,List.take_zero]
    simp
  ·have hd:¬ ((s[i].toNat:Int)=(c.toNat:Int)):=fun e=>hc (UInt8.toNat_inj.1 (by omega))
   obtain ⟨o',fl',st',h1,h2,h3,h4,h5⟩:=qo9 hs k (i + 1) st o fl (by omega) (by omega) (by omega) hf
   refine ⟨o',fl',st',?_,h2,h3,h4,?_⟩
   ·rw [qau (s':=(o,(st:Int),((i + 1:Nat):Int),fl)),h1]
    unfold qfu
    simp only [hlt',decide_true,cond_true,hix,qj,hd,decide_false,cond_false,hw]
   ·have ht:(s.drop st).take (i + 1 - st)=(s.drop st).take (i - st)++[s[i]]:=by
     rw [show i + 1 - st=(i - st) + 1 by omega,List.take_succ_eq_append_getElem (by rw [List.length_drop]; omega)]
     congr 2
     rw [List.getElem_drop]; congr 1; omega
    rw [h5,if_neg hc,ht]
theorem q0g {s:List UInt8} {c:UInt8} (hs:s.length≤1000000):f96 s (c.toNat:Int)=some (some (spl c s)):=by
 obtain ⟨o',fl',st',h1,h2,h3,h4,h5⟩:=qo9 (c:=c) hs s.length 0 0 none false (by omega) (Nat.le_refl _) (Nat.zero_le _) (.inr rfl)
 unfold f96
 have hcut:qaz s (some (st':Int)) none=some (s.drop st'):=by
  unfold qaz qby
  simp only [Int.natCast_nonneg,Int.toNat_natCast,true_and,show (st':Int)≤(s.length:Int) by omega,if_true,List.take_length]
 have hap:=qms (x:=s.drop st') (o:=o') (by omega)
 have h1':itO (qfu s (c.toNat:Int)) (none,0,0,false)=some (o',fl',(st':Int),(s.length:Int)):=h1
 simp only [h1',qj,hcut,hap]
 have h5':o'.getD []++[s.drop st']=spl c s:=by rw [h5]; rfl
 rw [h5']
 rcases h3 with rfl | rfl
 ·rfl
 ·cases fl' <;> rfl
def qgv:Int→List UInt8→Option Int
 | n,[]=>some n
 | n,c::t=>if 48≤c.toNat∧c.toNat≤57 then qgv (10 * n + ((c.toNat:Int) - 48)) t else none
def zp (b:List UInt8):Option Int:=if b=[]∨9 < b.length∨(1 < b.length∧b.head?=some 48) then none else qgv 0 b
theorem qar {x:Int} (h1:-9223372036854775808≤x) (h2:x≤9223372036854775807):qi .i64 x=x:=qg6 h1 h2
theorem q8h {x:Int} (h1:0≤x) (h2:x≤255):qi .u8 x=x:=by
 rw [qbn]
 simp only [IntKind.wrap,IntKind.signed,IntKind.bits]
 simp
 omega
theorem qpo {x:Int} (h1:0≤x) (h2:x≤2000000):qi .i32 x=x:=by
 rw [qbn]
 simp only [IntKind.wrap,IntKind.signed,IntKind.bits]
 simp
 omega
theorem qwc {i:Nat} (h:i≤9):(10:Int) ^ i≤1000000000:=by
 rw [show (1000000000:Int)=((10 ^ 9:Nat):Int) by decide,show ((10:Int) ^ i)=((10 ^ i:Nat):Int) by simp]
 exact Int.ofNat_le.2 (Nat.pow_le_pow_right (by omega) (by omega))
theorem qv4 {s:List UInt8} (hs:s.length≤9):∀ (k i:Nat) (n:Int),i + k=s.length→0≤n→n < 10 ^ i →
  itO (qb5 s) (n,(i:Int))=some (match qgv n (s.drop i) with | none=>.inl () | some v=>.inr (v,(s.length:Int)))
 | 0,i,n,hi,h0,h1=>by
  have hi:i=s.length:=by omega
  subst hi
  rw [List.drop_of_length_le (Nat.le_refl _),qgv]
  exact zo (by unfold qb5; simp only [Int.lt_irrefl,decide_false,cond_false])
 | k + 1,i,n,hi,h0,h1=>by
  have hlt:i < s.length:=by omega
  have hlt':(i:Int) < (s.length:Int):=by omega
  have hix:jy s (i:Int)=some s[i]:=by rw [qaw,List.getElem?_eq_getElem hlt]
  have hw:qi .i64 ((i:Int) + 1)=((i + 1:Nat):Int):=qba (by omega)
  have hp:=qwc (show i≤9 by omega)
  rw [qcm hlt,qgv]
  by_cases hc:(s[i].toNat:Int) < 48
  ·rw [if_neg (by omega)]
   exact zo (by unfold qb5; simp only [hlt',decide_true,cond_true,hix,qj,hc])
  ·by_cases hd:57 < (s[i].toNat:Int)
   ·rw [if_neg (by omega)]
    exact zo (by unfold qb5; simp only [hlt',decide_true,cond_true,hix,qj,hc,decide_false,cond_false,hd])
   ·rw [if_pos (by omega),← qv4 hs k (i + 1) (10 * n + ((s[i].toNat:Int) - 48)) (by omega) (by omega) (by rw [Int.pow_succ]; omega)]
    refine qau ?_
    unfold qb5
    simp only [hlt',decide_true,cond_true,hix,qj,hc,decide_false,cond_false,hd,hw]
    rw [q8h (by omega) (by omega),qar (x:=10 * n) (by omega) (by omega),qar (x:=(s[i].toNat:Int) - 48) (by omega) (by omega),qar (by omega) (by omega)]
theorem qnc {s:List UInt8} (h:0 < s.length):s.head?=some s[0]:=by
 cases s with
 | nil=>simp at h
 | cons a t=>rfl
theorem qwl (s:List UInt8):f154 s=some (match zp s with | none=>(0,false) | some v=>(v,true)):=by
 unfold f154 zp
 by_cases h1:s=[]
 ·subst h1; rfl
 have hl:0 < s.length:=List.length_pos_iff.2 h1
 have h1':¬ (s.length:Int)=0:=by omega
 by_cases h2:9 < s.length
 ·have h2':(9:Int) < (s.length:Int):=by omega
  simp only [h1',h2',decide_false,decide_true,cond_false,cond_true,h2,true_or,or_true,if_true]
 have h2':¬ (9:Int) < (s.length:Int):=by omega
 have hloop:=qv4 (s:=s) (by omega) s.length 0 0 (by omega) (by omega) (by simp)
 have hloop':itO (qb5 s) (0,0)=_:=hloop
 have hix:jy s 0=some s[0]:=by rw [show (0:Int)=((0:Nat):Int) from rfl,qaw,List.getElem?_eq_getElem hl]
 rw [qnc hl]
 rw [List.drop_zero] at hloop'
 by_cases h3:1 < s.length
 ·have h3':(1:Int) < (s.length:Int):=by omega
  by_cases h4:s[0]=48
  ·have h4':(s[0].toNat:Int)=48:=by rw [h4]; rfl
   simp only [h1',h2',h3',decide_false,decide_true,cond_false,cond_true,h1,h2,h3,h4,hix,qj,h4',true_and,or_true,if_true]
   rfl
  ·have h4':¬ (s[0].toNat:Int)=48:=fun e=>h4 (UInt8.toNat_inj.1 (by have:(48:UInt8).toNat=48:=rfl; omega))
   simp only [h1',h2',h3',decide_false,decide_true,cond_false,cond_true,h1,h2,h3,h4,hix,qj,h4',true_and,or_false,if_false,hloop',Option.some.injEq]
   cases qgv 0 s <;> rfl
 ·have h3':¬ (1:Int) < (s.length:Int):=by omega
  simp only [h1',h2',h3',decide_false,decide_true,cond_false,cond_true,h1,h2,h3,false_and,or_false,if_false]
  rw [show qiw s=qb5 s from rfl,hloop',qj]
  cases qgv 0 s <;> rfl
theorem qvg {s:List UInt8} (hs:s.length≤9):∀ (k i:Nat) (n:Int),i + k=s.length→0≤n→n < 10 ^ i →
  ∃ j,itO (qcw s) (n,i)=some (match qgv n (s.drop i) with | none=>.inl j | some v=>.inr (v,s.length))
 | 0,i,n,hi,h0,h1=>by
  have hi:i=s.length:=by omega
  subst hi
  rw [List.drop_of_length_le (Nat.le_refl _),qgv]
  exact ⟨0,zo (by unfold qcw; simp only [Nat.lt_irrefl,decide_false,cond_false])⟩
 | k + 1,i,n,hi,h0,h1=>by
  have hlt:i < s.length:=by omega
  have hg:s[i]?=some s[i]:=List.getElem?_eq_getElem hlt
  have hp:=qwc (show i≤9 by omega)
  have h9:¬ 9 < (s.length:Int):=by omega
  rw [qcm hlt,qgv]
  by_cases hd:48≤s[i].toNat∧s[i].toNat≤57
  ·have e:=qk7 hg (by omega)
   obtain ⟨j,hj⟩:=qvg hs k (i + 1) (10 * n + ((s[i].toNat:Int) - 48)) (by omega) (by omega) (by rw [Int.pow_succ]; omega)
   refine ⟨j,?_⟩
   rw [if_pos hd,← hj]
   refine qau ?_
   have a1:¬ (s[i].toNat:Int) < 48:=by omega
   have a2:¬ 57 < (s[i].toNat:Int):=by omega
   unfold qcw
   simp only [hlt,decide_true,cond_true,e,a1,a2,h9,decide_false,cond_false]
   rw [qpo (by omega) (by omega),qar (x:=10 * n) (by omega) (by omega),qar (x:=(s[i].toNat:Int) - 48) (by omega) (by omega),qar (by omega) (by omega)]
  ·rw [if_neg hd]
   refine ⟨i + (qe s i).2,zo ?_⟩
   unfold qcw
   simp only [hlt,decide_true,cond_true,h9,decide_false,cond_false]
   by_cases hl:s[i].toNat < 128
   ·rw [qk7 hg hl]
    by_cases a1:(s[i].toNat:Int) < 48
    ·simp only [a1,decide_true,cond_true]
    ·have a2:57 < (s[i].toNat:Int):=by omega
     simp only [a1,a2,decide_true,cond_true,decide_false,cond_false]
   ·have:=qqi hg hl
    have a1:¬ ((qe s i).1:Int) < 48:=by omega
    have a2:57 < ((qe s i).1:Int):=by omega
    simp only [a1,a2,decide_true,cond_true,decide_false,cond_false]
theorem q4h {s:List UInt8} (hs:9 < s.length):∃ j,itO (qcw s) (0,0)=some (.inl j):=by
 refine ⟨0 + (qe s 0).2,zo ?_⟩
 have h0:0 < s.length:=by omega
 have h9:9 < (s.length:Int):=by omega
 unfold qcw
 simp only [h0,h9,decide_true,cond_true]
 by_cases a1:((qe s 0).1:Int) < 48
 ·simp only [a1,decide_true,cond_true]
 ·by_cases a2:57 < ((qe s 0).1:Int)
  ·simp only [a1,a2,decide_true,cond_true,decide_false,cond_false]
  ·simp only [a1,a2,decide_false,cond_false]
theorem q4n (s:List UInt8):∃ x,f217 s=some (x,(zp s).isSome)∧∀ v,zp s=some v→x=v:=by
 unfold f217
 by_cases hl:9 < s.length
 ·obtain ⟨j,hj⟩:=q4h hl
  rw [hj,qj]
  have hn:zp s=none:=by unfold zp; rw [if_pos (.inr (.inl hl))]
  rw [hn]
  exact ⟨0,rfl,by intro v hv; cases hv⟩
 ·obtain ⟨j,hj⟩:=qvg (s:=s) (by omega) s.length 0 0 (by simp) (by omega) (by simp)
  rw [hj,List.drop_zero]
  cases hd:qgv 0 s with
  | none=>
   rw [qj]
   have hn:zp s=none:=by
    unfold zp
    split
    ·rfl
    ·exact hd
   rw [hn]
   exact ⟨0,rfl,by intro v hv; cases hv⟩
  | some v=>
   rw [qj]
   dsimp only
   by_cases hb:s=[]
   ·subst hb
    exact ⟨_,rfl,by intro w hw; cases hw⟩
   ·have hp:0 < s.length:=List.length_pos_iff.2 hb
    have hix:jy s 0=some s[0]:=by rw [show (0:Int)=((0:Nat):Int) from rfl,qaw,List.getElem?_eq_getElem hp]
    by_cases h1:s.length=1
    ·have h1':(s.length:Int)=1:=by omega
     have hn:zp s=some v:=by
      unfold zp
      rw [if_neg,hd]
      rintro (h | h | h)
      ·exact hb h
      ·omega
      ·omega
     simp only [hb,h1',decide_false,decide_true,cond_false,cond_true,hn]
     exact ⟨v,rfl,by intro w hw; exact Option.some.inj hw⟩
    ·have h1':¬ (s.length:Int)=1:=by omega
     simp only [hb,h1',decide_false,cond_false,hix,qj]
     by_cases h4:s[0]=48
     ·have h4':(s[0].toNat:Int)=48:=by rw [h4]; rfl
      have hn:zp s=none:=by
       unfold zp
       rw [if_pos (.inr (.inr ⟨by omega,by rw [qnc hp,h4]⟩))]
      rw [hn,h4']
      exact ⟨v,rfl,by intro w hw; cases hw⟩
     ·have h4':¬ (s[0].toNat:Int)=48:=fun e=>h4 (UInt8.toNat_inj.1 (by have:(48:UInt8).toNat=48:=rfl; omega))
      have hn:zp s=some v:=by
       unfold zp
       rw [if_neg,hd]
       rintro (h | h | h)
       ·exact hb h
       ·omega
       ·rw [qnc hp] at h; exact h4 (Option.some.inj h.2)
      simp only [h4',decide_false,hn]
      exact ⟨v,rfl,by intro w hw; exact Option.some.inj hw⟩
theorem qqn {x:Int} (h0:0≤x) (h1:x < 128):(Utf8.encode x).data.toList=[UInt8.ofNat x.toNat]:=by
 have hv:Utf8.valid x=true:=by simp [Utf8.valid]; omega
 have hc:x.toNat < 128:=by omega
 simp only [Utf8.encode,hv,if_true,hc]
theorem qpc {u:Nat} (h:¬ u < 10):Lib.decDigits u=Lib.decDigits (u / 10)++[UInt8.ofNat (48 + u % 10)]:=by rw [Lib.decDigits,dif_neg h]
theorem qwj:∀ (k u:Nat),u < 10 ^ (k + 1)→(Lib.decDigits u).length≤k + 1
 | 0,u,h=>by rw [qcf (by simpa using h)]; simp
 | k + 1,u,h=>by
  by_cases hu:u < 10
  ·rw [qcf hu]; simp
  ·have:=qwj k (u / 10) (by rw [Nat.pow_succ] at h; omega)
   rw [qpc hu,List.length_append,List.length_singleton]; omega
theorem qvv:∀ (n:Nat) (u:Nat) (s:List UInt8),u≤n→s.length + u≤2000000000→u < 1000000000→itO qez ((u:Int),s)=some (0,(if u=0 then [] else Lib.decDigits u)++s)
 | n,u,s,h,hs,hu=>by
  by_cases h0:u=0
  ·subst h0
   refine zo ?_
   unfold qez
   rfl
  ·cases n with
   | zero=>omega
   | succ n=>
    have ih:=qvv n (u / 10) ([UInt8.ofNat (48 + u % 10)]++s) (by omega) (by simp only [List.length_append,List.length_singleton]; omega) (by omega)
    have h1:0 < (u:Int):=by omega
    have hm:=Nat.mod_lt u (by omega:0 < 10)
    have hr:qlo (u:Int) 10=some ((u % 10:Nat):Int):=by
     unfold qlo
     rw [if_neg (by omega),Int.tmod_eq_emod_of_nonneg (by omega)]; rfl
    have hq:qkp .i64 (u:Int) 10=some ((u / 10:Nat):Int):=by
     unfold qkp
     rw [if_neg (by omega),Int.tdiv_eq_ediv_of_nonneg (by omega),qar (by omega) (by omega)]; rfl
    have he:(Utf8.encode (qi .i32 (qi .i64 (48 + ((u % 10:Nat):Int))))).data.toList=[UInt8.ofNat (48 + u % 10)]:=by
     rw [qar (by omega) (by omega),qpo (by omega) (by omega),qqn (by omega) (by omega)]
     congr 2
    have hc:kx [UInt8.ofNat (48 + u % 10)] s=some ([UInt8.ofNat (48 + u % 10)]++s):=by
     unfold kx
     rw [if_pos (by simp only [List.length_singleton]; omega)]
    rw [qau (s':=(((u / 10:Nat):Int),[UInt8.ofNat (48 + u % 10)]++s)),ih]
    ·rw [if_neg h0]
     by_cases hu:u < 10
     ·rw [if_pos (by omega),qcf hu,Nat.mod_eq_of_lt hu]; rfl
     ·rw [if_neg (by omega),qpc hu]; simp
    ·unfold qez
     simp only [h1,decide_true,cond_true,hr,qj,he,hc,hq]
theorem q43 {u:Nat} (hu:u < 1000000000):f153 1 (u:Int)=some (Lib.decDigits u):=by
 show qsp (f153 0) (u:Int)=_
 have h1:¬ (u:Int) < 0:=by omega
 have hm:=Nat.mod_lt u (by omega:0 < 10)
 have hr:qlo (u:Int) 10=some ((u % 10:Nat):Int):=by
  unfold qlo
  rw [if_neg (by omega),Int.tmod_eq_emod_of_nonneg (by omega)]; rfl
 have hq:qkp .i64 (u:Int) 10=some ((u / 10:Nat):Int):=by
  unfold qkp
  rw [if_neg (by omega),Int.tdiv_eq_ediv_of_nonneg (by omega),qar (by omega) (by omega)]; rfl
 have he:(Utf8.encode (qi .i32 (qi .i64 (48 + ((u % 10:Nat):Int))))).data.toList=[UInt8.ofNat (48 + u % 10)]:=by
  rw [qar (by omega) (by omega),qpo (by omega) (by omega),qqn (by omega) (by omega)]
  congr 2
 have hl:=qvv (u / 10) (u / 10) [UInt8.ofNat (48 + u % 10)] (Nat.le_refl _) (by simp only [List.length_singleton]; omega) (by omega)
 unfold qsp
 simp only [h1,decide_false,cond_false,hr,qj,hq,he]
 rw [show itO qez (((u / 10:Nat):Int),[UInt8.ofNat (48 + u % 10)])=_ from hl,qj]
 congr 1
 by_cases hu:u < 10
 ·rw [if_pos (by omega),qcf hu,Nat.mod_eq_of_lt hu]; rfl
 ·rw [if_neg (by omega),qpc hu]
end Go.Z
