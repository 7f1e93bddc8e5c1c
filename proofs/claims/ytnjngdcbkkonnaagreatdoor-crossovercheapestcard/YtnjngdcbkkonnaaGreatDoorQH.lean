/- Chapter 4. -/
import Derived.Test.YtnjngdcbkkonnaaGreatDoorQC
import Derived.Test.YtnjngdcbkkonnaaGreatDoorA21
import Derived.Test.YtnjngdcbkkonnaaGreatDoorLZ
set_option linter.unusedVariables false
set_option linter.unusedSimpArgs false
set_option maxRecDepth 100000
set_option maxHeartbeats 1000000
namespace Go.Z
open Go Go.Abs
def qfw:List Int→List Int→Int
 | [],[]=>0
 | [],_::_=>-1
 | _::_,[]=>1
 | x::a,y::b=>if x < y then -1 else if y < x then 1 else qfw a b
theorem q20 {a b:Int}:f203 a b=some (if a < b then -1 else if b < a then 1 else 0):=by
 unfold f203 f232
 simp only [qd,cond_false]
 by_cases h:a < b
 ·rw [decide_eq_true h,if_pos h]; rfl
 ·rw [decide_eq_false h,if_neg h,cond_false]
  by_cases h':b < a
  ·rw [decide_eq_true h',if_pos h']; rfl
  ·rw [decide_eq_false h',if_neg h']; rfl
theorem jdz {a b:Option (List Int)} (hn:(a.getD []).length≤1073741824):f204 a b=some (qfw (a.getD []) (b.getD [])):=by
 unfold f204
 obtain ⟨d,g1,g2⟩:=qcd (a.getD []).length (fun i=>(i:Int)) (qgw a b) (fun d=>match d with | .inl v=>v | .inr _=>if (a.getD []).length < (b.getD []).length then -1 else 0) (fun i=>qfw ((a.getD []).drop i) ((b.getD []).drop i)) ⟨.inr _,by unfold qgw; rw [zj]; rfl,by
   dsimp only
   rw [List.drop_eq_nil_of_le (Nat.le_refl (a.getD []).length)]
   by_cases h2:(a.getD []).length < (b.getD []).length
   ·rw [if_pos h2,zr (List.getElem?_eq_getElem h2)]; rfl
   ·rw [if_neg h2,List.drop_eq_nil_of_le (by omega)]; rfl⟩ (fun i hi=>by
  have hx:(a.getD [])[i]?=some (a.getD [])[i]:=List.getElem?_eq_getElem hi
  generalize (a.getD [])[i]=x at hx
  unfold qgw
  rw [zu hi,cond_true,zn hx,qd,zr hx]
  by_cases hb:(b.getD []).length≤i
  ·rw [decide_eq_true (show ((b.getD []).length:Int)≤(i:Int) by omega),cond_true]
   right
   refine ⟨.inl 1,rfl,?_⟩
   rw [List.drop_eq_nil_of_le hb]; rfl
  ·have hlt:i < (b.getD []).length:=by omega
   have hy:(b.getD [])[i]?=some (b.getD [])[i]:=List.getElem?_eq_getElem hlt
   generalize (b.getD [])[i]=y at hy
   rw [decide_eq_false (show ¬ ((b.getD []).length:Int)≤(i:Int) by omega),cond_false,zn hy,qd,q20,qd,jo hi (by omega)]
   rw [zr hy]
   simp only [qfw]
   by_cases h1:x < y
   ·rw [if_pos h1,if_pos h1]; exact .inr ⟨.inl (-1),rfl,rfl⟩
   ·rw [if_neg h1,if_neg h1]
    by_cases h2:y < x
    ·rw [if_pos h2,if_pos h2]; exact .inr ⟨.inl 1,rfl,rfl⟩
    ·rw [if_neg h2,if_neg h2]; exact .inl ⟨rfl,rfl⟩)
 have g1':itO (qgw a b) 0=some d:=g1
 have g2':_=qfw (a.getD []) (b.getD []):=g2
 rw [g1',qd,← g2']
 rcases d with d | d
 ·rfl
 ·dsimp only
  by_cases h:(a.getD []).length < (b.getD []).length
  ·rw [if_pos h,decide_eq_true (by omega)]; rfl
  ·rw [if_neg h,decide_eq_false (by omega)]; rfl
def qp0 (a b:List Int):Int:=if a.length < b.length then -1 else if b.length < a.length then 1 else qfw a b
theorem jal {a b:Int}:f202 (some [a,b])=some (if a=0 then b else a):=by
 unfold f202
 obtain ⟨d,g1,g2⟩:=qcd 2 (fun i=>(i:Int)) (qfc (some [a,b])) (fun d=>match d with | .inl v=>v | .inr _=>0) (fun i=>if i=0 then (if a=0 then b else a) else if i=1 then b else 0) ⟨.inr _,by unfold qfc; rfl,rfl⟩ (fun i hi=>by
  match i,hi with
  | 0,_=>
   have e:js ((some [a,b]).getD []) ((0:Nat):Int)=some a:=rfl
   unfold qfc
   rw [e,show decide (((0:Nat):Int) < (((some [a,b]).getD []).length:Int))=true from rfl,cond_true,qd]
   by_cases h:a=0
   ·rw [decide_eq_true h]; left; exact ⟨rfl,by simp [h]⟩
   ·rw [decide_eq_false h]; right; exact ⟨.inl a,rfl,by simp [h]⟩
  | 1,_=>
   have e:js ((some [a,b]).getD []) ((1:Nat):Int)=some b:=rfl
   unfold qfc
   rw [e,show decide (((1:Nat):Int) < (((some [a,b]).getD []).length:Int))=true from rfl,cond_true,qd]
   by_cases h:b=0
   ·rw [decide_eq_true h]; left; exact ⟨rfl,by simp [h]⟩
   ·rw [decide_eq_false h]; right; exact ⟨.inl b,rfl,by simp⟩)
 have g1':itO (qfc (some [a,b])) 0=some d:=g1
 rw [g1',qd]
 have g2':_=(if a=0 then b else a):=g2
 rw [← g2']
 rcases d with d | d <;> rfl
theorem q8v {a b:Option (List Int)} (hn:(a.getD []).length≤1073741824):qff a b=some (qp0 (a.getD []) (b.getD [])):=by
 unfold qff qp0
 rw [q20,qd,jdz hn,qd,jal,qd]
 by_cases h1:(a.getD []).length < (b.getD []).length
 ·rw [if_pos h1,if_pos (show ((a.getD []).length:Int) < ((b.getD []).length:Int) by omega),if_neg (by decide)]
 ·rw [if_neg h1,if_neg (show ¬ ((a.getD []).length:Int) < ((b.getD []).length:Int) by omega)]
  by_cases h2:(b.getD []).length < (a.getD []).length
  ·rw [if_pos h2,if_pos (show ((b.getD []).length:Int) < ((a.getD []).length:Int) by omega),if_neg (by decide)]
  ·rw [if_neg h2,if_neg (show ¬ ((b.getD []).length:Int) < ((a.getD []).length:Int) by omega),if_pos rfl]
def Srt (L:List (List Int)):Prop:=(∀ x∈L,x.length≤1000)∧∀ (i j:Nat) x y,i < j→L[i]?=some x→L[j]?=some y→¬ qp0 y x < 0
section
variable {o:Option (List (Option (List Int)))} {L:List (List Int)}
theorem qov (ho:o.getD []=L.map qi) {i:Nat} {x:List Int} (h:L[i]?=some x):js (o.getD []) (i:Int)=some (qi x):=by
 rw [ho,qei,List.getElem?_map,h]; rfl
theorem qx0 (hs:Srt L) {i j:Nat} {x y:List Int} (hij:i < j) (hx:L[i]?=some x) (hy:L[j]?=some y):∃ v,qff (qi y) (qi x)=some v∧decide (v < 0)=false:=by
 have hb:=hs.1 y (List.mem_of_getElem? hy)
 refine ⟨qp0 y x,?_,decide_eq_false (hs.2 i j x y hij hx hy)⟩
 have:=q8v (a:=qi y) (b:=qi x) (by rw [jn]; omega)
 rwa [jn,jn] at this
theorem jdj (ho:o.getD []=L.map qi) (hs:Srt L) (hn:L.length≤1000):f222 o 0 (L.length:Int)=some ():=by
 unfold f222
 have key:∀ (k i:Nat),1≤i→i + k=max 1 L.length→∃ d,itO (qex o 0 (L.length:Int)) (i:Int)=some d:=by
  intro k
  induction k with
  | zero=>
   intro i h1 hi
   refine ⟨(i:Int),zy ?_⟩
   unfold qex
   rw [decide_eq_false (show ¬ (i:Int) < (L.length:Int) by omega)]; rfl
  | succ k ih=>
   intro i h1 hi
   have hlt:i < L.length:=by omega
   obtain ⟨d,g⟩:=ih (i + 1) (by omega) (by omega)
   refine ⟨d,?_⟩
   have hx:L[i - 1]?=some L[i - 1]:=List.getElem?_eq_getElem (by omega)
   have hy:L[i]?=some L[i]:=List.getElem?_eq_getElem hlt
   obtain ⟨v,c1,c2⟩:=qx0 hs (show i - 1 < i by omega) hx hy
   have inner:itO (qlv o 0 (L.length:Int) (i:Int)) ()=some ():=by
    refine zy ?_
    unfold qlv
    rw [decide_eq_true (show (0:Int) < (i:Int) by omega),cond_true,qov ho hy,qd,jy (x:=(i:Int) - 1) (by omega) (by omega),show (i:Int) - 1=((i - 1:Nat):Int) by omega,qov ho hx,qd,c1,qd,c2]
    rfl
   have e:qex o 0 (L.length:Int) (i:Int)=some (.inl ((i + 1:Nat):Int)):=by
    unfold qex
    rw [zu hlt,cond_true,inner,qd,jo hlt (by omega)]
   rw [qab e]; exact g
 obtain ⟨d,g⟩:=key (max 1 L.length - 1) 1 (by omega) (by omega)
 have g':itO (qex o 0 (L.length:Int)) (qg .i64 (0 + 1))=some d:=g
 rw [g']; rfl
theorem qvi (ho:o.getD []=L.map qi) (hs:Srt L) {a b:Nat} (hab:a < b) (hb:b < L.length) {c:Int}:f257 o (a:Int) (b:Int) c=some (((a:Int),(b:Int)),c):=by
 have hx:L[a]?=some L[a]:=List.getElem?_eq_getElem (by omega)
 have hy:L[b]?=some L[b]:=List.getElem?_eq_getElem hb
 obtain ⟨v,c1,c2⟩:=qx0 hs hab hx hy
 unfold f257
 rw [qov ho hy,qd,qov ho hx,qd,c1,qd,c2]
 rfl
theorem jcv (ho:o.getD []=L.map qi) (hs:Srt L) {a b d:Nat} (hab:a < b) (hbd:b < d) (hd:d < L.length) {c:Int}:f248 o (a:Int) (b:Int) (d:Int) c=some ((b:Int),c):=by
 unfold f248
 rw [qvi ho hs hab (by omega),qd]
 dsimp only
 rw [qvi ho hs hbd hd,qd]
 dsimp only
 rw [qvi ho hs hab (by omega),qd]
theorem jds (ho:o.getD []=L.map qi) (hs:Srt L) (h2:2≤L.length) (hn:L.length≤1000):f227 o 0 (L.length:Int)=some true:=by
 have key:∀ (k i:Nat),1≤i→i + k=L.length→itO (qjv o 0 (L.length:Int)) (some (i:Int))=some (L.length:Int):=by
  intro k
  induction k with
  | zero=>
   intro i h1 hi
   have:i=L.length:=by omega
   subst this
   refine zy ?_
   show qfr o 0 (L.length:Int) (L.length:Int)=_
   unfold qfr
   rw [zj]; rfl
  | succ k ih=>
   intro i h1 hi
   have hlt:i < L.length:=by omega
   have hx:L[i - 1]?=some L[i - 1]:=List.getElem?_eq_getElem (by omega)
   have hy:L[i]?=some L[i]:=List.getElem?_eq_getElem hlt
   obtain ⟨v,c1,c2⟩:=qx0 hs (show i - 1 < i by omega) hx hy
   have e:qjv o 0 (L.length:Int) (some (i:Int))=some (.inl (some ((i + 1:Nat):Int))):=by
    show qfr o 0 (L.length:Int) (i:Int)=_
    unfold qfr
    rw [zu hlt,cond_true,qov ho hy,qd,jy (x:=(i:Int) - 1) (by omega) (by omega),show (i:Int) - 1=((i - 1:Nat):Int) by omega,qov ho hx,qd,c1,qd,c2,jo hlt (by omega)]
    rfl
   rw [qab e]; exact ih (i + 1) (by omega) (by omega)
 have h0:itO (qjv o 0 (L.length:Int)) none=some (L.length:Int):=by
  have hx:L[0]?=some L[0]:=List.getElem?_eq_getElem (by omega)
  have hy:L[1]?=some L[1]:=List.getElem?_eq_getElem (by omega)
  obtain ⟨v,c1,c2⟩:=qx0 hs (show 0 < 1 by omega) hx hy
  have e:qjv o 0 (L.length:Int) none=some (.inl (some ((2:Nat):Int))):=by
   show qly o 0 (L.length:Int)=_
   unfold qly
   rw [show qg .i64 ((0:Int) + 1)=((1:Nat):Int) from rfl,decide_eq_true (show ((1:Nat):Int) < (L.length:Int) by omega),cond_true,qov ho hy,qd,show qg .i64 (((1:Nat):Int) - 1)=((0:Nat):Int) from rfl,qov ho hx,qd,c1,qd,c2]
   rfl
  rw [qab e]
  exact key (L.length - 2) 2 (by omega) (by omega)
 unfold f227
 have e:qmt o 0 (L.length:Int) ()=some (.inr true):=by
  unfold qmt
  rw [h0,qd,decide_eq_true rfl]; rfl
 rw [zy e,qd]
theorem jyn:∀ n:Nat,n < 50→1≤n→∃ v,f201 (n:Int)=some v∧decide (v=0)=false:=by
 have h:((List.range 50).all fun n=>Nat.beq n 0 || match f201 (n:Int) with | some v=>!decide (v=0) | none=>false)=true:=by decide +kernel
 intro n h1 h2
 have:=List.all_eq_true.1 h n (List.mem_range.2 h1)
 rw [Bool.or_eq_true] at this
 rcases this with k | k
 ·have:=Nat.eq_of_beq_eq_true k
  omega
 ·cases hf:f201 (n:Int) with
  | none=>rw [hf] at k; cases k
  | some v=>rw [hf] at k; exact ⟨v,rfl,by simpa using k⟩
theorem jcb (ho:o.getD []=L.map qi) (hs:Srt L) (h1:1≤L.length) (hn:L.length≤49):f162 o=some ():=by
 have hlen:(o.getD []).length=L.length:=by rw [ho,List.length_map]
 obtain ⟨v,k1,k2⟩:=jyn L.length (by omega) h1
 unfold f162
 rw [hlen,wrapN L.length (by omega),k1,qd]
 unfold f200
 by_cases h12:(L.length:Int)≤12
 ·have e:qgo o 0 (L.length:Int) v ()=some (.inr (.inl ())):=by
   unfold qgo
   rw [jy (x:=(L.length:Int) - 0) (by omega) (by omega),decide_eq_true (by omega),cond_true,jdj ho hs (by omega)]
   rfl
  rw [zy e]; rfl
 ·have hq:qc7 .i64 (L.length:Int) 4=some ((L.length / 4:Nat):Int):=qso (b:=4) (by decide) (by omega)
  have e225:f225 o 0 (L.length:Int)=some (((L.length / 4 * 2:Nat):Int),1):=by
   unfold f225
   rw [jy (x:=(L.length:Int) - 0) (by omega) (by omega),show (L.length:Int) - 0=(L.length:Int) by omega,hq,qd,decide_eq_true (show (8:Int)≤(L.length:Int) by omega),cond_true,decide_eq_false (show ¬ (50:Int)≤(L.length:Int) by omega),cond_false]
   have w:∀ k:Nat,k≤3→qg .i64 (0 + qg .i64 (((L.length / 4:Nat):Int) * (k:Int)))=((L.length / 4 * k:Nat):Int):=by
    intro k hk
    have hk2:L.length / 4 * k≤49 * 3:=Nat.mul_le_mul (by omega) hk
    have e1:((L.length / 4:Nat):Int) * (k:Int)=((L.length / 4 * k:Nat):Int):=by rw [Int.natCast_mul]
    rw [e1,jy (x:=((L.length / 4 * k:Nat):Int)) (by omega) (by omega),jy (by omega) (by omega)]
    omega
   have w1:=w 1 (by omega)
   have w2:=w 2 (by omega)
   have w3:=w 3 (by omega)
   rw [show ((1:Nat):Int)=1 from rfl] at w1
   rw [show ((2:Nat):Int)=2 from rfl] at w2
   rw [show ((3:Nat):Int)=3 from rfl] at w3
   rw [w1,w2,w3,jcv ho hs (by omega) (by omega) (by omega),qd]
   rfl
  have e:qgo o 0 (L.length:Int) v ()=some (.inr (.inr ((L.length / 4 * 2:Nat):Int))):=by
   unfold qgo
   rw [jy (x:=(L.length:Int) - 0) (by omega) (by omega),decide_eq_false (by omega),cond_false,k2,cond_false,e225,qd]
   dsimp only
   rw [show (decide ((1:Int)=2))=false from rfl,cond_false,show (decide ((1:Int)=1))=true from rfl,cond_true,jds ho hs (by omega) (by omega),qd]
   rfl
  rw [zy e]; rfl
end
def qej (ps:List ql) (c:List Int):Bool:=(qgc ps c).isSome
def qbj (ps:List ql) (c:List Int):List (List Int):=(List.range ps.length).flatMap fun (i:Nat)=>if qej ps (c++[(i:Int)]) then [c++[(i:Int)]] else []
def lvl (ps:List ql):Nat→List (List Int)
 | 0=>[[]]
 | k + 1=>(lvl ps k).flatMap (qbj ps)
def chE (ps:List ql):Nat→List (List Int)
 | 0=>[[]]
 | k + 1=>chE ps k++lvl ps (k + 1)
theorem qta {ps:List ql} {c x:List Int} (h:x∈qbj ps c):∃ i:Nat,i < ps.length∧x=c++[(i:Int)]∧qej ps x=true:=by
 obtain ⟨i,hi,hx⟩:=List.mem_flatMap.1 h
 split at hx
 ·next hs=>
  obtain rfl:=List.mem_singleton.1 hx
  exact ⟨i,List.mem_range.1 hi,rfl,hs⟩
 ·cases hx
structure okC (ps:List ql) (k:Nat) (c:List Int):Prop where
 len:c.length=k
 idx:qda ps c
theorem qle {ps:List ql}:∀ {k:Nat} {c:List Int},c∈lvl ps k→okC ps k c
 | 0,c,h=>by
  obtain rfl:=List.mem_singleton.1 h
  exact ⟨rfl,by simp [qda]⟩
 | k + 1,c,h=>by
  obtain ⟨a,ha,hc⟩:=List.mem_flatMap.1 h
  obtain ⟨i,hi,rfl,_⟩:=qta hc
  obtain ⟨h1,h2⟩:=qle ha
  refine ⟨by rw [List.length_append,h1]; rfl,fun x hx=>?_⟩
  rcases List.mem_append.1 hx with hx | hx
  ·exact h2 x hx
  ·rw [List.mem_singleton.1 hx]; omega
theorem qqf {ps:List ql}:∀ {n:Nat} {c:List Int},c∈chE ps n→c.length≤n∧qda ps c
 | 0,c,h=>by
  obtain rfl:=List.mem_singleton.1 h
  exact ⟨Nat.le_refl _,by simp [qda]⟩
 | n + 1,c,h=>by
  rcases List.mem_append.1 h with h | h
  ·obtain ⟨h1,h2⟩:=qqf h
   exact ⟨by omega,h2⟩
  ·obtain ⟨h1,h2⟩:=qle h
   exact ⟨by omega,h2⟩
theorem q7m {c:List Int} {x y:Int}:qfw (c++[x]) (c++[y])=if x < y then -1 else if y < x then 1 else 0:=by
 induction c with
 | nil=>rfl
 | cons a c ih=>
  show (if a < a then (-1:Int) else if a < a then 1 else qfw (c++[x]) (c++[y]))=_
  rw [if_neg (by omega),if_neg (by omega),ih]
theorem q9c {a b:List Int} {s t:List Int} (hl:a.length=b.length) (h:qfw a b=1):qfw (a++s) (b++t)=1:=by
 induction a generalizing b with
 | nil=>
  cases b with
  | nil=>cases h
  | cons y b=>simp at hl
 | cons x a ih=>
  cases b with
  | nil=>simp at hl
  | cons y b=>
   simp only [List.length_cons,Nat.add_right_cancel_iff] at hl
   show (if x < y then (-1:Int) else if y < x then 1 else qfw (a++s) (b++t))=1
   have h':(if x < y then (-1:Int) else if y < x then 1 else qfw a b)=1:=h
   split at h'
   ·cases h'
   ·next h1=>
    rw [if_neg h1]
    split at h'
    ·next h2=>rw [if_pos h2]
    ·next h2=>rw [if_neg h2]; exact ih hl h'
def Inc (L:List (List Int)):Prop:=L.Pairwise fun x y=>qp0 y x=1
theorem qvr {x y:List Int} (h:x.length=y.length):qp0 y x=qfw y x:=by
 unfold qp0
 rw [if_neg (by omega),if_neg (by omega)]
theorem q9m {ps:List ql} {c:List Int}:Inc (qbj ps c):=by
 unfold Inc qbj
 rw [List.pairwise_flatMap]
 constructor
 ·intro i _
  split
  ·exact List.pairwise_singleton _ _
  ·exact List.Pairwise.nil
 ·have hr:(List.range ps.length).Pairwise (· < ·):=List.pairwise_lt_range
  refine hr.imp ?_
  intro i j hij x hx y hy
  split at hx
  ·split at hy
   ·obtain rfl:=List.mem_singleton.1 hx
    obtain rfl:=List.mem_singleton.1 hy
    rw [qvr (by simp),q7m,if_neg (by omega),if_pos (by omega)]
   ·cases hy
  ·cases hx
theorem q2t {ps:List ql}:∀ k:Nat,Inc (lvl ps k)
 | 0=>List.pairwise_singleton _ _
 | k + 1=>by
  show ((lvl ps k).flatMap (qbj ps)).Pairwise _
  rw [List.pairwise_flatMap]
  refine ⟨fun c _=>q9m,?_⟩
  have ih:=q2t (ps:=ps) k
  have hm:∀ x∈lvl ps k,x.length=k:=fun x h=>(qle h).len
  refine (List.Pairwise.and_mem.1 ih).imp ?_
  intro a b hab x hx y hy
  obtain ⟨ha,hb,h⟩:=hab
  obtain ⟨i,_,rfl,_⟩:=qta hx
  obtain ⟨j,_,rfl,_⟩:=qta hy
  have l1:=hm a ha
  have l2:=hm b hb
  rw [qvr (by omega)] at h
  rw [qvr (by simp; omega)]
  exact q9c (by omega) h
theorem q2s {ps:List ql}:∀ n:Nat,Inc (chE ps n)
 | 0=>List.pairwise_singleton _ _
 | n + 1=>by
  show (chE ps n++lvl ps (n + 1)).Pairwise _
  rw [List.pairwise_append]
  refine ⟨q2s n,q2t (n + 1),fun x hx y hy=>?_⟩
  have h1:=(qqf hx).1
  have h2:=(qle hy).len
  unfold qp0
  rw [if_neg (by omega),if_pos (by omega)]
theorem jcu {L:List (List Int)} (h:Inc L) (hl:∀ x∈L,x.length≤1000):Srt L:=by
 refine ⟨hl,fun i j x y hij hx hy=>?_⟩
 have hi:=(List.getElem?_eq_some_iff.1 hx)
 have hj:=(List.getElem?_eq_some_iff.1 hy)
 obtain ⟨h1,rfl⟩:=hi
 obtain ⟨h2,rfl⟩:=hj
 have:=List.pairwise_iff_getElem.1 h i j h1 h2 hij
 rw [this]
 decide
theorem qzt {ps:List ql} {c:List Int}:(qbj ps c).length≤ps.length:=by
 unfold qbj
 have:∀ m:List Nat,(m.flatMap fun (i:Nat)=>if qej ps (c++[(i:Int)]) then [c++[(i:Int)]] else []).length≤m.length:=by
  intro m
  induction m with
  | nil=>exact Nat.le_refl _
  | cons x m ih=>
   rw [List.flatMap_cons,List.length_append,List.length_cons]
   split
   ·simp only [List.length_cons,List.length_nil]; omega
   ·simp only [List.length_nil]; omega
 have:=this (List.range ps.length)
 rwa [List.length_range] at this
theorem qy2 {α β:Type} {f:α→List β} {n:Nat} (h:∀ x,(f x).length≤n):∀ l:List α,(l.flatMap f).length≤l.length * n
 | []=>by simp
 | x::l=>by
  rw [List.flatMap_cons,List.length_append,List.length_cons,Nat.add_mul,Nat.one_mul]
  have:=h x
  have:=qy2 h l
  omega
theorem qmf {ps:List ql}:∀ k:Nat,(lvl ps k).length≤ps.length ^ k
 | 0=>Nat.le_refl _
 | k + 1=>by
  have h1:(lvl ps (k + 1)).length≤(lvl ps k).length * ps.length:=qy2 (fun _=>qzt) _
  have h2:=qmf (ps:=ps) k
  have h3:(lvl ps k).length * ps.length≤ps.length ^ k * ps.length:=Nat.mul_le_mul_right _ h2
  rw [Nat.pow_succ]
  omega
def qsq (ps:List ql) (n:Nat):Prop:=(ps.length≤4∧n≤2)∨(ps.length≤2∧n≤3)
theorem qri {ps:List ql} {n k:Nat} (h:qsq ps n) (hk:k≤n):(lvl ps k).length≤16:=by
 have h1:=qmf (ps:=ps) k
 have:ps.length ^ k≤16:=by
  rcases h with ⟨h2,h3⟩ | ⟨h2,h3⟩
  ·have e1:ps.length ^ k≤4 ^ k:=Nat.pow_le_pow_left h2 k
   have e2:4 ^ k≤4 ^ 2:=Nat.pow_le_pow_right (by decide) (by omega)
   omega
  ·have e1:ps.length ^ k≤2 ^ k:=Nat.pow_le_pow_left h2 k
   have e2:2 ^ k≤2 ^ 3:=Nat.pow_le_pow_right (by decide) (by omega)
   omega
 omega
theorem qyj {ps:List ql} {n i:Nat} (h:qsq ps n) (hi:i≤n):qsq ps i:=h.elim (fun h=>.inl ⟨h.1,by have:=h.2; omega⟩) (fun h=>.inr ⟨h.1,by have:=h.2; omega⟩)
theorem qq3 {ps:List ql}:∀ n:Nat,1≤(chE ps n).length
 | 0=>Nat.le_refl _
 | n + 1=>by
  have:=qq3 (ps:=ps) n
  show 1≤(chE ps n++lvl ps (n + 1)).length
  rw [List.length_append]; omega
theorem qqw {ps:List ql} {n:Nat} (h:qsq ps n):(chE ps n).length≤21:=by
 have l0:(lvl ps 0).length=1:=rfl
 have l1:=qmf (ps:=ps) 1
 have l2:=qmf (ps:=ps) 2
 have l3:=qmf (ps:=ps) 3
 have e1:ps.length ^ 1=ps.length:=Nat.pow_one _
 have e2:ps.length ^ 2=ps.length * ps.length:=Nat.pow_two _
 have e3:ps.length ^ 3=ps.length * ps.length * ps.length:=by rw [Nat.pow_succ,e2]
 have c0:(chE ps 0).length=1:=rfl
 have c1:(chE ps 1).length=1 + (lvl ps 1).length:=by show (chE ps 0++lvl ps 1).length=_; rw [List.length_append]; rfl
 have c2:(chE ps 2).length=1 + (lvl ps 1).length + (lvl ps 2).length:=by show (chE ps 1++lvl ps 2).length=_; rw [List.length_append,c1]
 have c3:(chE ps 3).length=1 + (lvl ps 1).length + (lvl ps 2).length + (lvl ps 3).length:=by show (chE ps 2++lvl ps 3).length=_; rw [List.length_append,c2]
 rcases h with ⟨h2,h3⟩ | ⟨h2,h3⟩
 ·have m:ps.length * ps.length≤4 * 4:=Nat.mul_le_mul h2 h2
  match n,h3 with
  | 0,_=>omega
  | 1,_=>omega
  | 2,_=>omega
 ·have m:ps.length * ps.length≤2 * 2:=Nat.mul_le_mul h2 h2
  have m3:ps.length * ps.length * ps.length≤2 * 2 * 2:=Nat.mul_le_mul m h2
  match n,h3 with
  | 0,_=>omega
  | 1,_=>omega
  | 2,_=>omega
  | 3,_=>omega
def nnL (L:List (List Int)):List (Option (List Int)):=L.map qi
theorem jcz {c:List Int} (h:c.length≤1000):∃ b,f161 (qi c)=some (qi c,b)∧(b=true∨(b=false∧(qi c).isNone=true)):=by
 cases c with
 | nil=>exact ⟨false,rfl,.inr ⟨rfl,rfl⟩⟩
 | cons a l=>
  refine ⟨true,?_,.inl rfl⟩
  unfold f161 apO
  rw [if_pos (by simp [qi] at h ⊢; omega)]
  rfl
theorem jqh {c:List Int} {i:Int} (h:c.length≤1000):apO (qi c) [i]=some (qi (c++[i])):=qnh (by omega)
section
variable {o:Option (List ql)}
theorem qw6 (hz:qb2 (o.getD [])=0) {c:List Int} (hc:c.length≤3) (hx:qda (o.getD []) c):∃ t,f138 o (qi c)=some (t,qej (o.getD []) c)∧f72 o (qi c)=some (t,qej (o.getD []) c):=by
 have hn:=(qbs hz).1
 have hp:=(qbs hz).2
 have e1:=jdb (ps:=o) (ch:=qi c) (by omega) (by rw [jn]; exact hc) (by rw [jn]; exact hx) hp
 have e2:=jfy (ps:=o) (ch:=qi c) (by omega) (by rw [jn]; exact hc) (by rw [jn]; exact hx) hp
 rw [jn] at e1 e2
 unfold qej
 cases ht:qgc (o.getD []) c with
 | some l=>rw [ht] at e1 e2; exact ⟨_,e1,e2⟩
 | none=>rw [ht] at e1 e2; exact ⟨_,e1,e2⟩
theorem jl5 (hz:qb2 (o.getD [])=0) {n:Int} {s0:Option (List (Option (List Int))) × Option (List (Option (List Int))) × Int} {s1:Option (List (Option (List Int))) × Int × Bool} {c:List Int} (hc:c.length≤2) (hx:qda (o.getD []) c) {A:List (List Int)} (hA:A.length≤1000):
  itO (qg5 o n s0 s1 (qi c)) (qi (nnL A),0,zh (nnL A))=some (qi (nnL (A++qbj (o.getD []) c)),zh (nnL (A++qbj (o.getD []) c)),((o.getD []).length:Int)):=by
 have hn:=(qbs hz).1
 have hl:(List.range (o.getD []).length).length=(o.getD []).length:=by simp
 have:=qdb (List.range (o.getD []).length) (fun i=>(i:Int)) (qg5 o n s0 s1 (qi c)) (fun i=>nnL (if qej (o.getD []) (c++[(i:Int)]) then [c++[(i:Int)]] else [])) (nnL A) (fun i a=>a.length≤1000 + i) (by unfold nnL; rw [List.length_map]; omega) (fun a=>by rw [hl]; unfold qg5; dsimp only; rw [zj]; rfl) (fun i x a hx' hi hI=>by
  rw [hl] at hi
  have hxi:x=i:=by
   rw [List.getElem?_range hi] at hx'
   exact (Option.some.inj hx').symm
  subst hxi
  obtain ⟨t,e1,_⟩:=qw6 hz (c:=c++[(x:Int)]) (by rw [List.length_append]; simp only [List.length_cons,List.length_nil]; omega) (by
   intro y hy
   rcases List.mem_append.1 hy with hy | hy
   ·exact hx y hy
   ·rw [List.mem_singleton.1 hy]; omega)
  refine ⟨?_,?_⟩
  ·rw [List.length_append]
   unfold nnL
   rw [List.length_map]
   split
   ·simp only [List.length_cons,List.length_nil]; omega
   ·simp only [List.length_nil]; omega
  ·obtain ⟨b,k1,k2⟩:=jcz (c:=c) (by omega)
   unfold qg5
   dsimp only
   rw [zu hi,cond_true,k1,qd,jqh (i:=(x:Int)) (by omega),qd,jo hi (by omega),e1,qd]
   have hfin:(cond (qej (o.getD []) (c++[(x:Int)])) (cond (zh a) (qc (apO (qi a) [qi (c++[(x:Int)])]) fun v896=>some (.inl (v896,((x + 1:Nat):Int),true))) (cond (qi a).isNone (qc (apO (qi a) [qi (c++[(x:Int)])]) fun v899=>some (.inl (v899,((x + 1:Nat):Int),true))) none)) (some (.inl (qi a,((x + 1:Nat):Int),zh a))):Option ((Option (List (Option (List Int))) × Int × Bool) ⊕ (Option (List (Option (List Int))) × Bool × Int)))=some (.inl (qi (a++nnL (if qej (o.getD []) (c++[(x:Int)]) then [c++[(x:Int)]] else [])),((x + 1:Nat):Int),zh (a++nnL (if qej (o.getD []) (c++[(x:Int)]) then [c++[(x:Int)]] else [])))):=by
    cases qej (o.getD []) (c++[(x:Int)]) with
    | true=>
     rw [cond_true,qby (by omega)]
     simp [nnL,qbq]
    | false=>simp [nnL]
   rcases k2 with rfl | ⟨rfl,k3⟩
   ·dsimp only
    rw [cond_true]; exact hfin
   ·dsimp only
    rw [cond_false,k3,cond_true]; exact hfin)
 rw [hl] at this
 have e:nnL A++(List.range (o.getD []).length).flatMap (fun (i:Nat)=>nnL (if qej (o.getD []) (c++[(i:Int)]) then [c++[(i:Int)]] else []))=nnL (A++qbj (o.getD []) c):=by
  unfold nnL qbj
  rw [List.map_append,List.map_flatMap]
 rw [e] at this
 exact this
theorem jo6 (hz:qb2 (o.getD [])=0) {n:Int} {s0:Option (List (Option (List Int))) × Option (List (Option (List Int))) × Int × Bool} {s1:Option (List (Option (List Int))) × Int × Bool} {c:List Int} (hc:c.length≤2) (hx:qda (o.getD []) c) (h0:js (s0.2.1.getD []) s1.2.1=some (qi c)) {A:List (List Int)} (hA:A.length≤1000):
  itO (qgz o n s0 s1) (qi (nnL A),0,zh (nnL A))=some (qi (nnL (A++qbj (o.getD []) c)),zh (nnL (A++qbj (o.getD []) c)),((o.getD []).length:Int)):=by
 have hn:=(qbs hz).1
 have hl:(List.range (o.getD []).length).length=(o.getD []).length:=by simp
 have:=qdb (List.range (o.getD []).length) (fun i=>(i:Int)) (qgz o n s0 s1) (fun i=>nnL (if qej (o.getD []) (c++[(i:Int)]) then [c++[(i:Int)]] else [])) (nnL A) (fun i a=>a.length≤1000 + i) (by unfold nnL; rw [List.length_map]; omega) (fun a=>by rw [hl]; unfold qgz; dsimp only; rw [zj]; rfl) (fun i x a hx' hi hI=>by
  rw [hl] at hi
  have hxi:x=i:=by
   rw [List.getElem?_range hi] at hx'
   exact (Option.some.inj hx').symm
  subst hxi
  obtain ⟨t,_,e1⟩:=qw6 hz (c:=c++[(x:Int)]) (by rw [List.length_append]; simp only [List.length_cons,List.length_nil]; omega) (by
   intro y hy
   rcases List.mem_append.1 hy with hy | hy
   ·exact hx y hy
   ·rw [List.mem_singleton.1 hy]; omega)
  refine ⟨?_,?_⟩
  ·rw [List.length_append]
   unfold nnL
   rw [List.length_map]
   split
   ·simp only [List.length_cons,List.length_nil]; omega
   ·simp only [List.length_nil]; omega
  ·have hcl:qc (apO (some []) ((qi c).getD [])) (fun y=>apO y [(x:Int)])=some (qi (c++[(x:Int)])):=by
    have e:apO (some []) ((qi c).getD [])=some (some c):=by
     unfold apO
     rw [jn,if_pos (by simp; omega)]
     cases c <;> rfl
    rw [e,qd]
    unfold apO
    rw [if_pos (by simp; omega)]
    cases c <;> rfl
   unfold qgz
   dsimp only
   rw [zu hi,cond_true,h0,qd,jo hi (by omega)]
   cases h1:apO (some []) ((qi c).getD []) with
   | none=>rw [h1] at hcl; cases hcl
   | some y=>
    rw [h1,qd] at hcl
    rw [qd,hcl,qd,e1,qd]
    cases qej (o.getD []) (c++[(x:Int)]) with
    | true=>
     simp only [cond_true]
     rw [qby (by omega)]
     simp [nnL,qbq]
    | false=>simp [nnL])
 rw [hl] at this
 have e:nnL A++(List.range (o.getD []).length).flatMap (fun (i:Nat)=>nnL (if qej (o.getD []) (c++[(i:Int)]) then [c++[(i:Int)]] else []))=nnL (A++qbj (o.getD []) c):=by
  unfold nnL qbj
  rw [List.map_append,List.map_flatMap]
 rw [e] at this
 exact this
theorem q0g {o:Option (List ql)} {L:List (List Int)} {f:Option (List (Option (List Int))) × Int × Bool→Option ((Option (List (Option (List Int))) × Int × Bool) ⊕ (Option (List (Option (List Int))) × Bool × Int))} (hL:L.length≤16) (hps:(o.getD []).length≤6)
  (hend:∀ a,f (qi a,(L.length:Int),zh a)=some (.inr (qi a,zh a,(L.length:Int))))
  (hstep:∀ (i:Nat) c (A:List (List Int)),L[i]?=some c→i < L.length→A.length≤1000→f (qi (nnL A),(i:Int),zh (nnL A))=some (.inl (qi (nnL (A++qbj (o.getD []) c)),((i + 1:Nat):Int),zh (nnL (A++qbj (o.getD []) c))))):
  itO f (none,0,false)=some (qi (nnL (L.flatMap (qbj (o.getD [])))),zh (nnL (L.flatMap (qbj (o.getD [])))),(L.length:Int)):=by
 have key:∀ (k i:Nat) (A:List (List Int)),i + k=L.length→A.length≤6 * i→itO f (qi (nnL A),(i:Int),zh (nnL A))=some (qi (nnL (A++(L.drop i).flatMap (qbj (o.getD [])))),zh (nnL (A++(L.drop i).flatMap (qbj (o.getD [])))),(L.length:Int)):=by
  intro k
  induction k with
  | zero=>
   intro i A hi hA
   have:i=L.length:=by omega
   subst this
   rw [zy (hend _),List.drop_eq_nil_of_le (Nat.le_refl _),List.flatMap_nil,List.append_nil]
  | succ k ih=>
   intro i A hi hA
   have hlt:i < L.length:=by omega
   have hx:L[i]?=some L[i]:=List.getElem?_eq_getElem hlt
   have hel:=qzt (ps:=o.getD []) (c:=L[i])
   rw [qab (hstep i _ A hx hlt (by omega)),ih (i + 1) _ (by omega) (by rw [List.length_append]; omega),zr hx,List.flatMap_cons,List.append_assoc]
 have:=key L.length 0 [] (by omega) (by simp)
 rw [List.drop_zero,List.nil_append] at this
 exact this
theorem qcc {L:List (List Int)}:(qi (nnL L)).getD []=nnL L:=jn _
theorem qx3 {L:List (List Int)} {i:Nat} {c:List Int} (h:L[i]?=some c):js ((qi (nnL L)).getD []) (i:Int)=some (qi c):=by
 rw [qcc,qei]
 unfold nnL
 rw [List.getElem?_map,h]; rfl
theorem q63 {A B:List (List Int)} (h:A.length + B.length≤1000) (hA:A ≠ []):apO (qi (nnL A)) (nnL B)=some (qi (nnL (A++B))):=by
 unfold apO
 have hl:((qi (nnL A)).getD []).length=A.length:=by rw [qcc]; unfold nnL; rw [List.length_map]
 rw [if_pos (by rw [hl]; unfold nnL; rw [List.length_map]; omega)]
 cases A with
 | nil=>exact absurd rfl hA
 | cons a A=>
  show some (apS (some (qi a::A.map qi)) (nnL B))=_
  cases B with
  | nil=>simp [apS,nnL,qi]
  | cons b B=>simp [apS,nnL,qi]
theorem jd1 {n:Nat} (hz:qb2 (o.getD [])=0) (hf:qsq (o.getD []) n):f115 o (n:Int)=some (qi (nnL (chE (o.getD []) n))):=by
 have hn:=(qbs hz).1
 have hn3:n≤3:=by rcases hf with h | h <;> omega
 have key:∀ (k i:Nat),i + k=n→∃ d,itO (qez o (n:Int)) (qi (nnL (chE (o.getD []) i)),qi (nnL (lvl (o.getD []) i)),(i:Int))=some d∧d.1=qi (nnL (chE (o.getD []) n)):=by
  intro k
  induction k with
  | zero=>
   intro i hi
   have:i=n:=by omega
   subst this
   refine ⟨(qi (nnL (chE (o.getD []) i)),qi (nnL (lvl (o.getD []) i)),(i:Int)),zy ?_,rfl⟩
   unfold qez
   dsimp only
   rw [zj]; rfl
  | succ k ih=>
   intro i hi
   have hlt:i < n:=by omega
   have hli:=qri hf (k:=i) (by omega)
   have hli1:=qri hf (k:=i + 1) (by omega)
   have hmid:=q0g (o:=o) (L:=lvl (o.getD []) i) (f:=qjz o (n:Int) (qi (nnL (chE (o.getD []) i)),qi (nnL (lvl (o.getD []) i)),(i:Int))) hli hn (fun a=>by
     unfold qjz
     dsimp only
     rw [qcc]
     unfold nnL
     rw [List.length_map,zj]; rfl) (fun j c A hc hj hA=>by
     obtain ⟨k1,k2⟩:=qle (List.mem_of_getElem? hc)
     have hlj:(j:Int) < ((nnL (lvl (o.getD []) i)).length:Int):=by unfold nnL; rw [List.length_map]; omega
     unfold qjz
     dsimp only
     rw [qx3 hc,qcc,decide_eq_true hlj,cond_true,qd,jl5 hz (by omega) k2 hA,qd,jo hj (by omega)])
   have e:qez o (n:Int) (qi (nnL (chE (o.getD []) i)),qi (nnL (lvl (o.getD []) i)),(i:Int))=some (.inl (qi (nnL (chE (o.getD []) (i + 1))),qi (nnL (lvl (o.getD []) (i + 1))),((i + 1:Nat):Int))):=by
    have hce:(chE (o.getD []) i).length≤21:=qqw (qyj hf (by omega))
    have hp:=qq3 (ps:=o.getD []) i
    unfold qez
    dsimp only
    rw [decide_eq_true (show (i:Int) < (n:Int) by omega),cond_true,hmid,qd]
    dsimp only
    rw [qcc,show (lvl (o.getD []) i).flatMap (qbj (o.getD []))=lvl (o.getD []) (i + 1) from rfl,q63 (by omega) (by intro h; rw [h] at hp; simp at hp),qd,jy (x:=(i:Int) + 1) (by omega) (by omega)]
    rfl
   obtain ⟨d,g1,g2⟩:=ih (i + 1) (by omega)
   exact ⟨d,by rw [qab e]; exact g1,g2⟩
 obtain ⟨d,g1,g2⟩:=key n 0 (by omega)
 have g1':itO (qez o (n:Int)) (some [none],some [none],0)=some d:=g1
 have hs:=jcu (q2s (ps:=o.getD []) n) (fun x h=>by have:=(qqf h).1; omega)
 unfold f115
 rw [g1',qd,g2,jcb (L:=chE (o.getD []) n) qcc hs (qq3 n) (by have:=qqw hf; omega),qd]
theorem jep {n:Nat} (hz:qb2 (o.getD [])=0) (hf:qsq (o.getD []) n):f120 o (n:Int)=some (qi (nnL (chE (o.getD []) n))):=by
 have hn:=(qbs hz).1
 have hn3:n≤3:=by rcases hf with h | h <;> omega
 have key:∀ (k i:Nat) (b:Bool),i + k=n→∃ d,itO (qfh o (n:Int)) (qi (nnL (chE (o.getD []) i)),qi (nnL (lvl (o.getD []) i)),((i + 1:Nat):Int),b)=some d∧d.1=qi (nnL (chE (o.getD []) n)):=by
  intro k
  induction k with
  | zero=>
   intro i b hi
   have:i=n:=by omega
   subst this
   refine ⟨(qi (nnL (chE (o.getD []) i)),qi (nnL (lvl (o.getD []) i)),b,((i + 1:Nat):Int)),zy ?_,rfl⟩
   unfold qfh
   dsimp only
   rw [decide_eq_false (show ¬ ((i + 1:Nat):Int)≤(i:Int) by omega)]; rfl
  | succ k ih=>
   intro i b hi
   have hlt:i < n:=by omega
   have hli:=qri hf (k:=i) (by omega)
   have hli1:=qri hf (k:=i + 1) (by omega)
   have hmid:=q0g (o:=o) (L:=lvl (o.getD []) i) (f:=qi4 o (n:Int) (qi (nnL (chE (o.getD []) i)),qi (nnL (lvl (o.getD []) i)),((i + 1:Nat):Int),b)) hli hn (fun a=>by
     unfold qi4
     dsimp only
     rw [qcc]
     unfold nnL
     rw [List.length_map,zj]; rfl) (fun j c A hc hj hA=>by
     obtain ⟨k1,k2⟩:=qle (List.mem_of_getElem? hc)
     have hlj:(j:Int) < ((nnL (lvl (o.getD []) i)).length:Int):=by unfold nnL; rw [List.length_map]; omega
     unfold qi4
     dsimp only
     rw [qcc,decide_eq_true hlj,cond_true,jo6 hz (by omega) k2 (qx3 hc) hA,qd,jo hj (by omega)])
   have e:qfh o (n:Int) (qi (nnL (chE (o.getD []) i)),qi (nnL (lvl (o.getD []) i)),((i + 1:Nat):Int),b)=some (.inl (qi (nnL (chE (o.getD []) (i + 1))),qi (nnL (lvl (o.getD []) (i + 1))),((i + 1 + 1:Nat):Int),false)):=by
    have hce:(chE (o.getD []) i).length≤21:=qqw (qyj hf (by omega))
    have hp:=qq3 (ps:=o.getD []) i
    unfold qfh
    dsimp only
    rw [decide_eq_true (show ((i + 1:Nat):Int)≤(n:Int) by omega),cond_true,hmid,qd]
    dsimp only
    rw [qcc,show (lvl (o.getD []) i).flatMap (qbj (o.getD []))=lvl (o.getD []) (i + 1) from rfl,q63 (by omega) (by intro h; rw [h] at hp; simp at hp),qd,jy (x:=((i + 1:Nat):Int) + 1) (by omega) (by omega)]
    rfl
   obtain ⟨d,g1,g2⟩:=ih (i + 1) false (by omega)
   exact ⟨d,by rw [qab e]; exact g1,g2⟩
 obtain ⟨d,g1,g2⟩:=key n 0 true (by omega)
 have g1':itO (qfh o (n:Int)) (some [none],some [none],1,true)=some d:=g1
 unfold f120
 rw [g1',qd,g2]
end
def qqg (ps:List ql):List Int→List ql
 | []=>[]
 | i::ch=>(match ps[i.toNat]? with | some p=>[p] | none=>[])++qqg ps ch
theorem qp4 {ps:List ql}:∀ {ch:List Int},qda ps ch→qe9 ps ch (qqg ps ch)
 | [],_=>⟨rfl,by simp,by simp [qqg]⟩
 | i::ch,h=>by
  have hq:=qp4 (ps:=ps) (ch:=ch) fun c hc=>h c (List.mem_cons_of_mem _ hc)
  have hi:=h i (List.mem_cons_self ..)
  have hlt:i.toNat < ps.length:=by omega
  have hx:ps[i.toNat]?=some ps[i.toNat]:=List.getElem?_eq_getElem hlt
  have e:qqg ps (i::ch)=ps[i.toNat]::qqg ps ch:=by
   show (match ps[i.toNat]? with | some p=>[p] | none=>[])++qqg ps ch=_
   rw [hx]; rfl
  rw [e]
  refine ⟨by simp [hq.len],?_,?_⟩
  ·intro k j hk
   cases k with
   | zero=>
    simp only [List.getElem?_cons_zero,Option.some.injEq] at hk
    subst hk
    refine ⟨_,rfl,?_⟩
    unfold js
    rw [if_pos hi.1,hx]
   | succ k=>
    simp only [List.getElem?_cons_succ] at hk ⊢
    exact hq.at_ k j hk
  ·intro q hm
   rcases List.mem_cons.1 hm with rfl | hm
   ·exact List.getElem_mem hlt
   ·exact hq.mem q hm
def flt (ps:List ql) (bs:List za) (c:List Int):Option (Nat × List GEl):=qd1 (qa7 false (qqg ps c) []) 0 bs
section
variable {o:Option (List ql)} {b:Option (List za)}
theorem q0e (hz:qb2 (o.getD [])=0) (hb:qhg (b.getD [])=0) {c:Option (List Int)} (hc:(c.getD []).length≤3) (hx:qda (o.getD []) (c.getD [])):
  f117 o c b=some (qe3 (flt (o.getD []) (b.getD []) (c.getD [])))∧f79 o c b=some (qe3 (flt (o.getD []) (b.getD []) (c.getD []))):=by
 have hp:=qp4 hx
 obtain ⟨ok1,ok2⟩:=jhs (c:=false) hz hp hc
 obtain ⟨⟨b1,b8⟩,hb0⟩:=q52 hb
 exact ⟨jc6 hp ok1 (by rw [hp.len]; omega) hb0 b8 ok2,jfh hp ok1 hc hb0 b8 ok2⟩
def cst (ps:List ql) (c:List Int):Int:=qbk (qqg ps c)
theorem q6k (hz:qb2 (o.getD [])=0) {c:Option (List Int)} (hc:(c.getD []).length≤3) (hx:qda (o.getD []) (c.getD [])):f71 o c=some (cst (o.getD []) (c.getD [])):=by
 have hp:=qp4 hx
 exact jhi hp (fun q h=>(qbs hz).2 q (hp.mem q h)) hc
abbrev BS:=Option (List Int) × Int × Bool
def qdw (ps:List ql) (bs:List za) (s:BS) (c:List Int):BS:=
 if (flt ps bs c).isNone && (!s.2.2 || decide (cst ps c < s.2.1)) then (qi c,cst ps c,true) else s
def qdz (ps:List ql) (bs:List za) (L:List (List Int)):BS:=L.foldl (qdw ps bs) (none,0,false)
theorem qy4 {x:Option (Nat × List GEl)}:(qe3 x).2=!x.isNone:=by cases x <;> rfl
theorem qwo {L:List (List Int)} {ps:List ql} {bs:List za} {f:Option (List Int) × Int × Bool × Int→Option ((Option (List Int) × Int × Bool × Int) ⊕ (Option (List Int) × Int × Bool × Int))}
  (hend:∀ a b c,f (a,b,c,(L.length:Int))=some (.inr (a,b,c,(L.length:Int))))
  (hstep:∀ (i:Nat) c s,L[i]?=some c→i < L.length→f (s.1,s.2.1,s.2.2,(i:Int))=some (.inl ((qdw ps bs s c).1,(qdw ps bs s c).2.1,(qdw ps bs s c).2.2,((i + 1:Nat):Int)))):
  itO f (none,0,false,0)=some ((qdz ps bs L).1,(qdz ps bs L).2.1,(qdz ps bs L).2.2,(L.length:Int)):=by
 have key:∀ (k i:Nat) (s:BS),i + k=L.length→itO f (s.1,s.2.1,s.2.2,(i:Int))=some (((L.drop i).foldl (qdw ps bs) s).1,((L.drop i).foldl (qdw ps bs) s).2.1,((L.drop i).foldl (qdw ps bs) s).2.2,(L.length:Int)):=by
  intro k
  induction k with
  | zero=>
   intro i s hi
   have:i=L.length:=by omega
   subst this
   rw [zy (hend _ _ _),List.drop_eq_nil_of_le (Nat.le_refl _)]
   rfl
  | succ k ih=>
   intro i s hi
   have hlt:i < L.length:=by omega
   have hx:L[i]?=some L[i]:=List.getElem?_eq_getElem hlt
   rw [qab (hstep i _ s hx hlt),ih (i + 1) (qdw ps bs s L[i]) (by omega),zr hx,List.foldl_cons]
 have:=key L.length 0 (none,0,false) (by omega)
 rw [List.drop_zero] at this
 exact this
theorem jdx (hz:qb2 (o.getD [])=0) (hb:qhg (b.getD [])=0) {L:List (List Int)} (hL:∀ c∈L,c.length≤3∧qda (o.getD []) c) (hn:L.length≤1000):
  itO (qn2 o b (qi (nnL L))) (none,0,false,0)=some ((qdz (o.getD []) (b.getD []) L).1,(qdz (o.getD []) (b.getD []) L).2.1,(qdz (o.getD []) (b.getD []) L).2.2,(L.length:Int)):=by
 have hlen:((nnL L).length:Int)=(L.length:Int):=by unfold nnL; rw [List.length_map]
 refine qwo (fun a b' c=>by unfold qn2; dsimp only; rw [qcc,hlen,zj]; rfl) (fun i c s hc hi=>?_)
 obtain ⟨h1,h2⟩:=hL c (List.mem_of_getElem? hc)
 obtain ⟨e1,_⟩:=q0e (c:=qi c) hz hb (by rw [jn]; exact h1) (by rw [jn]; exact h2)
 have e2:=q6k (c:=qi c) hz (by rw [jn]; exact h1) (by rw [jn]; exact h2)
 rw [jn] at e1 e2
 unfold qn2
 dsimp only
 rw [qx3 hc,qcc,hlen,zu hi,cond_true,qd,jcf,e2,qd,e1,jo hi (by omega)]
 obtain ⟨sa,sb,st⟩:=s
 unfold qdw
 simp only [qd,qy4]
 cases st with
 | true=>
  by_cases hle:sb≤cst (o.getD []) c
  ·rw [decide_eq_true hle,decide_eq_false (show ¬ cst (o.getD []) c < sb by omega)]
   simp
  ·rw [decide_eq_false hle,decide_eq_true (show cst (o.getD []) c < sb by omega)]
   cases (flt (o.getD []) (b.getD []) c).isNone <;> simp
 | false=>
  cases (flt (o.getD []) (b.getD []) c).isNone <;> simp
theorem jca (hz:qb2 (o.getD [])=0) (hb:qhg (b.getD [])=0) {L:List (List Int)} (hL:∀ c∈L,c.length≤3∧qda (o.getD []) c) (hn:L.length≤1000):
  itO (qnr o b (qi (nnL L))) (none,0,false,0)=some ((qdz (o.getD []) (b.getD []) L).1,(qdz (o.getD []) (b.getD []) L).2.1,(qdz (o.getD []) (b.getD []) L).2.2,(L.length:Int)):=by
 have hlen:((nnL L).length:Int)=(L.length:Int):=by unfold nnL; rw [List.length_map]
 refine qwo (fun a b' c=>by unfold qnr; dsimp only; rw [qcc,hlen,zj]; rfl) (fun i c s hc hi=>?_)
 obtain ⟨h1,h2⟩:=hL c (List.mem_of_getElem? hc)
 obtain ⟨_,e1⟩:=q0e (c:=qi c) hz hb (by rw [jn]; exact h1) (by rw [jn]; exact h2)
 have e2:=q6k (c:=qi c) hz (by rw [jn]; exact h1) (by rw [jn]; exact h2)
 rw [jn] at e1 e2
 unfold qnr
 dsimp only
 rw [qx3 hc,qcc,hlen,zu hi,cond_true,qd,e1,qd,e2,jo hi (by omega)]
 obtain ⟨sa,sb,st⟩:=s
 unfold qdw
 simp only [qd,qy4]
 cases (flt (o.getD []) (b.getD []) c).isNone with
 | false=>simp
 | true=>
  cases st with
  | true=>
   by_cases hlt:cst (o.getD []) c < sb
   ·rw [decide_eq_true hlt]; simp
   ·rw [decide_eq_false hlt]; simp
  | false=>simp
theorem qyv {ps:List ql} {bs:List za}:∀ {L:List (List Int)} {s:BS},(s.2.2=false→s.1=none∧s.2.1=0)→((L.foldl (qdw ps bs) s).2.2=false→(L.foldl (qdw ps bs) s).1=none∧(L.foldl (qdw ps bs) s).2.1=0)
 | [],s,h=>h
 | c::L,s,h=>by
  rw [List.foldl_cons]
  refine qyv ?_
  unfold qdw
  split
  ·intro k; cases k
  ·exact h
end
theorem jcl {ps:List ql} {bs:List za} {L:List (List Int)} (h:(qdz ps bs L).2.2=false):(qdz ps bs L).1=none∧(qdz ps bs L).2.1=0:=qyv (fun _=>⟨rfl,rfl⟩) h
theorem q0d {ps:List ql} {bs:List za}:∀ {L:List (List Int)} {s:BS},(∀ c∈L,c.length≤3)→(s.1.getD []).length≤3→((L.foldl (qdw ps bs) s).1.getD []).length≤3
 | [],s,_,h=>h
 | c::L,s,hL,h=>by
  rw [List.foldl_cons]
  refine q0d (fun x hx=>hL x (List.mem_cons_of_mem _ hx)) ?_
  unfold qdw
  split
  ·rw [jn]; exact hL c (List.mem_cons_self ..)
  ·exact h
def q3j (ps:List ql) (bs:List za) (n:Int):Int:=j7 [qb2 ps,qhg bs,ji n 0 3]
theorem jel {o:Option (List ql)} {b:Option (List za)} {n:Int}:f114 o b n=some (q3j (o.getD []) (b.getD []) n):=by
 unfold f114
 rw [q59,qd,jjm,qd,qmy,qd,qga (by simp),qd]
 rfl
theorem jn8 {a b c:Int}:f32 (some [a,b,c])=some (j7 [a,b,c]):=by unfold f32; rw [qje (by simp)]; rfl
theorem jf8 {o:Option (List ql)} {bs:Option (List za)} {n:Int}:∃ b,f36 o bs n=some b∧(b=true→qj3 (o.getD [])=true∧(bs.getD []).length≤9∧(n≤2∨3 < n∨(o.getD []).length≤2)):=by
 unfold f36
 rw [jfa,qd]
 cases hs:qj3 (o.getD []) with
 | false=>exact ⟨false,rfl,fun h=>by cases h⟩
 | true=>
  rw [cond_true]
  have fin:∃ b,(cond (decide (n≤2)) (some true) (cond (decide (3 < n)) (some true) (some (decide (((o.getD []).length:Int)≤2)))):Option Bool)=some b∧(b=true→(n≤2∨3 < n∨(o.getD []).length≤2)):=by
   by_cases h1:n≤2
   ·rw [decide_eq_true h1]; exact ⟨_,rfl,fun _=>.inl h1⟩
   ·rw [decide_eq_false h1]
    by_cases h2:3 < n
    ·rw [decide_eq_true h2]; exact ⟨_,rfl,fun _=>.inr (.inl h2)⟩
    ·rw [decide_eq_false h2]; exact ⟨_,rfl,fun h=>.inr (.inr (by have:=of_decide_eq_true h; omega))⟩
  obtain ⟨b,f1,f2⟩:=fin
  by_cases h4:((bs.getD []).length:Int)≤4
  ·rw [decide_eq_true h4,cond_true]
   exact ⟨b,f1,fun h=>⟨rfl,by omega,f2 h⟩⟩
  ·rw [decide_eq_false h4,cond_false]
   by_cases h9:((bs.getD []).length:Int)=9
   ·rw [decide_eq_true h9,cond_true]
    exact ⟨b,f1,fun h=>⟨rfl,by omega,f2 h⟩⟩
   ·rw [decide_eq_false h9]
    exact ⟨false,rfl,fun h=>by cases h⟩
theorem jjn {ps:List ql} {n:Nat} (hs:qj3 ps=true) (hz:qb2 ps=0) (hn:n≤3) (h:(n:Int)≤2∨3 < (n:Int)∨ps.length≤2):qsq ps n:=by
 have h6:=(qbs hz).1
 unfold qj3 at hs
 simp only [Bool.and_eq_true,Bool.or_eq_true,decide_eq_true_eq] at hs
 rcases h with h | h | h
 ·exact .inl ⟨by omega,by omega⟩
 ·omega
 ·exact .inr ⟨h,hn⟩
theorem jdd (o:Option (List ql)) (bs:Option (List za)) (n:Int):f5 o bs n=some true:=by
 unfold f5
 rw [show E16=some true from rfl,qd,cond_true]
 obtain ⟨b,h1,h2⟩:=jf8 (o:=o) (bs:=bs) (n:=n)
 rw [h1,qd]
 cases b with
 | false=>rfl
 | true=>
  obtain ⟨hs,hb,hf⟩:=h2 rfl
  have hl:(o.getD []).length≤7:=by
   unfold qj3 at hs
   simp only [Bool.and_eq_true,Bool.or_eq_true,decide_eq_true_eq] at hs
   omega
  rw [cond_true,jgt (by omega),qd,jgl (by omega),qd]
  have q1:=jn (o.getD [])
  have q3:=jn (bs.getD [])
  dsimp only
  generalize qi (o.getD [])=P at q1 ⊢
  generalize qi (bs.getD [])=B at q3 ⊢
  rw [jhz,jh1,ql5]
  unfold f37
  rw [jel,q1,q3]
  simp only [qd]
  rw [jn8]
  simp only [qd]
  rw [show j7 [qb2 (o.getD []),qhg (bs.getD []),ji n 0 3]=q3j (o.getD []) (bs.getD []) n from rfl]
  by_cases hz:q3j (o.getD []) (bs.getD []) n=0
  ·have hz':=ko.1 hz
   have z1:qb2 (o.getD [])=0:=hz' _ (by simp)
   have z2:qhg (bs.getD [])=0:=hz' _ (by simp)
   have z3:=qbh (hz' (ji n 0 3) (by simp))
   obtain ⟨m,rfl⟩:=Int.eq_ofNat_of_zero_le z3.1
   have hm:m≤3:=by omega
   have few:=jjn hs z1 hm hf
   have e1:=jd1 (o:=P) (n:=m) (by rw [q1]; exact z1) (by rw [q1]; exact few)
   have e2:=jep (o:=o) (n:=m) z1 few
   rw [q1] at e1
   have hL:∀ c∈chE (o.getD []) m,c.length≤3∧qda (o.getD []) c:=fun c h=>⟨by have:=(qqf h).1; omega,(qqf h).2⟩
   have hln:(chE (o.getD []) m).length≤1000:=by have:=qqw few; omega
   have r1:=jdx (o:=P) (b:=B) (by rw [q1]; exact z1) (by rw [q3]; exact z2) (L:=chE (o.getD []) m) (by rw [q1]; exact hL) hln
   have r2:=jca (o:=o) (b:=bs) z1 z2 (L:=chE (o.getD []) m) hL hln
   rw [q1,q3] at r1
   unfold f41
   rw [hz,e1,e2]
   simp only [decide_true,cond_true,qd]
   rw [r1,r2]
   simp only [qd]
   have hbl:((qdz (o.getD []) (bs.getD []) (chE (o.getD []) m)).1.getD []).length≤3:=q0d (fun c h=>(hL c h).1) (by simp)
   have e42:f42 (qdz (o.getD []) (bs.getD []) (chE (o.getD []) m)).1 (qdz (o.getD []) (bs.getD []) (chE (o.getD []) m)).1=some true:=qsn (by omega) rfl
   cases hbest:(qdz (o.getD []) (bs.getD []) (chE (o.getD []) m)).2.2 with
   | true=>
    simp only [cond_true,qd,e42]
    unfold f43
    simp
   | false=>
    obtain ⟨g1,g2⟩:=jcl hbest
    simp only [cond_false,qd,g1,g2]
    rw [qsn (a:=none) (b:=none) (by simp) rfl]
    unfold f43
    simp
  ·rw [decide_eq_false hz]
   simp only [cond_false,qd]
   rw [qsn (a:=none) (b:=none) (by simp) rfl]
   unfold f43
   simp [hz]
theorem I5 (x:Option (List ql)) (b:Option (List za)) (n:Int):qf prY (X prY) 5 [sl 8 qq x,sl 5 j5 b,.int .i64 n]=some (.bool true,false):=W5 (jdd x b n)
end Go.Z
