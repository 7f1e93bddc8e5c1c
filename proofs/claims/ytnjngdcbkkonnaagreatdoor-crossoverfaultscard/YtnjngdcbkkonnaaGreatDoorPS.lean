/-
  Chapter 4: the reference's ladders and extremes: the same list, the same fold.
-/
import Derived.Test.YtnjngdcbkkonnaaGreatDoorPQ
import Derived.Test.YtnjngdcbkkonnaaGreatDoorA9
set_option linter.unusedVariables false
set_option linter.unusedSimpArgs false
set_option maxRecDepth 100000
set_option maxHeartbeats 1000000
namespace Go.Z
open Go Go.Abs
def qdt (p:qi) (v:GEl):Bool:=decide (max (v.a - p.pa) (p.pa - v.a)=p.sa) && decide (max (v.b - p.pb) (p.pb - v.b)=p.sb)
theorem qpc {a s:Int} (h:okN a s):(yh a s false).filter (fun x=>decide (max (x - a) (a - x)=s))=yh a s true:=by
 obtain ⟨h1,h2,h3,h4⟩:=h
 unfold yh
 by_cases hs:s=0
 ·rw [if_pos hs,if_pos hs]
  simp only [List.filter_cons,List.filter_nil,decide_eq_true_eq]
  rw [if_pos (by omega)]
 ·rw [if_neg hs,if_neg hs]
  have:s=1:=by omega
  subst this
  simp only [Bool.false_eq_true,if_false,if_true,List.filter_cons,List.filter_nil,decide_eq_true_eq]
  rw [if_pos (by omega),if_neg (by omega),if_pos (by omega)]
theorem qta {E:GEl→Bool} {P Q:Int→Bool} {f:Int→Int→GEl} (hE:∀ a b,E (f a b)=(P a && Q b)) {lb:List Int}:∀ {la:List Int},(la.flatMap fun a=>lb.map (f a)).filter E=(la.filter P).flatMap fun a=>(lb.filter Q).map (f a)
 | []=>rfl
 | a::la=>by
  rw [List.flatMap_cons,List.filter_append,qta hE,List.filter_map,List.filter_cons]
  cases hp:P a with
  | true=>
   rw [if_pos rfl,List.flatMap_cons]
   congr 2
   congr 1
   funext b
   show E (f a b)=_
   rw [hE,hp,Bool.true_and]
  | false=>
   have:lb.filter (E ∘ f a)=[]:=by
    rw [List.filter_eq_nil_iff]
    intro b _
    show ¬ E (f a b)=true
    rw [hE,hp]
    simp
   rw [this]
   simp
theorem qxm {p:qi} {c:Bool} (h:okP p):(za p false).filter (fun v=>qdt p v || !c)=za p c:=by
 cases c with
 | false=>
  rw [List.filter_eq_self]
  intro v _
  simp
 | true=>
  have e:(fun v=>qdt p v || !true)=qdt p:=by funext v; simp
  rw [e]
  unfold za
  rw [qta (P:=fun x=>decide (max (x - p.pa) (p.pa - x)=p.sa)) (Q:=fun x=>decide (max (x - p.pb) (p.pb - x)=p.sb)) (fun a b=>rfl),qpc h.1,qpc h.2]
theorem qe9 {α β:Type} {P:α→Bool} {g:α→β}:∀ {l:List α},(l.flatMap fun v=>if P v then [g v] else [])=(l.filter P).map g
 | []=>rfl
 | v::l=>by
  rw [List.flatMap_cons,qe9,List.filter_cons]
  cases P v <;> rfl
theorem q4j {p:qi} (h:okP p) {v:GEl} (hv:v∈za p false):(p.pa - 1≤v.a∧v.a≤p.pa + 1)∧p.pb - 1≤v.b∧v.b≤p.pb + 1:=by
 have key:∀ {a s x:Int},x∈yh a s false→a - 1≤x∧x≤a + 1:=by
  intro a s x hx
  unfold yh at hx
  split at hx
  ·simp only [List.mem_cons,List.not_mem_nil,or_false] at hx; omega
  ·simp only [Bool.false_eq_true,if_false,List.mem_cons,List.not_mem_nil,or_false] at hx; omega
 unfold za at hv
 obtain ⟨a,ha,hv⟩:=List.mem_flatMap.1 hv
 obtain ⟨b,hb,rfl⟩:=List.mem_map.1 hv
 exact ⟨key ha,key hb⟩
theorem qtv {α β:Type} (c:Bool) (l:List α) (f:Bool × Option (List β) × Int × Bool→Option ((Bool × Option (List β) × Int × Bool) ⊕ (Bool × Option (List β) × Bool × Int))) (h:α→List β) (a0:List β) (I:Nat→List β→Prop) (hI:I 0 a0)
  (hend:∀ a,f (c,qv a,(l.length:Int),z7 a)=some (.inr (c,qv a,z7 a,(l.length:Int))))
  (hstep:∀ (i:Nat) x a,l[i]?=some x→i < l.length→I i a→I (i + 1) (a++h x)∧f (c,qv a,(i:Int),z7 a)=some (.inl (c,qv (a++h x),((i + 1:Nat):Int),z7 (a++h x)))):
  itO f (c,qv a0,0,z7 a0)=some (c,qv (a0++l.flatMap h),z7 (a0++l.flatMap h),(l.length:Int)):=by
 have key:∀ (k i:Nat),i + k=l.length→∀ a,I i a→itO f (c,qv a,(i:Int),z7 a)=some (c,qv (a++(l.drop i).flatMap h),z7 (a++(l.drop i).flatMap h),(l.length:Int)):=by
  intro k
  induction k with
  | zero=>
   intro i hi a _
   have:i=l.length:=by omega
   subst this
   rw [List.drop_eq_nil_of_le (Nat.le_refl _),List.flatMap_nil,List.append_nil,qad (hend a)]
  | succ k ih=>
   intro i hi a ha
   obtain ⟨x,hx⟩:∃ x,l[i]?=some x:=⟨_,List.getElem?_eq_getElem (by omega)⟩
   obtain ⟨h1,h2⟩:=hstep i x a hx (by omega) ha
   rw [qch h2,ih (i + 1) (by omega) _ h1,z6 hx,List.flatMap_cons,List.append_assoc]
 have:=key l.length 0 (by omega) a0 hI
 rwa [List.drop_zero] at this
theorem q04 {x:List GEl} {v:GEl} (h:x.length≤1000):qd (apO (some []) ((qv x).getD [])) (fun y=>apO y [v])=some (qv (x++[v])):=by
 have e:apO (some []) ((qv x).getD [])=some (some x):=by
  unfold apO
  rw [yb,if_pos (by simp; omega)]
  cases x <;> rfl
 rw [e,qe]
 unfold apO
 rw [if_pos (by simp; omega)]
 cases x <;> rfl
theorem q4e {ps:Option (List qi)} {ch:Option (List Int)} {c o:Bool} {L:List (List GEl)} {i0:Int} {p:qi} {w:Bool} {st:Bool × Option (List (Option (List GEl))) × Int × Bool} {x:List GEl} {k:Nat} (hk:L[k]?=some x) (hx:x.length≤1000) (hst:st.2.2.1=(k:Int)) (h:okP p)
  {j:Nat} {v:GEl} {a:List (Option (List GEl))} (hj:(za p false)[j]?=some v) (hl:a.length < 1073741824):
  qfx ps ch (c,qv (L.map qv),i0,o) p (some (za p false),w) st (c,qv a,(j:Int),z7 a)=some (.inl (c,qv (a++if qdt p v || !c then [qv (x++[v])] else []),((j + 1:Nat):Int),z7 (a++if qdt p v || !c then [qv (x++[v])] else []))):=by
 have hjl:j < (za p false).length:=(List.getElem?_eq_some_iff.1 hj).1
 obtain ⟨⟨n1,n2⟩,n3,n4⟩:=q4j h (List.mem_of_getElem? hj)
 obtain ⟨⟨a1,a2,a3,a4⟩,b1,b2,b3,b4⟩:=h
 have hv9:=qb0 (p:=p) (c:=false)
 have hidx:j7 ((qv (L.map qv)).getD []) st.2.2.1=some (qv x):=by
  rw [hst,yb,qhy,List.getElem?_map,hk]; rfl
 have hap:∀ {γ:Type} {q:Option (List (Option (List GEl)))→Option γ},(qd (apO (some []) ((qv x).getD [])) fun v1=>qd (apO v1 [v]) fun v2=>cond (z7 a) (qd (apO (qv a) [v2]) q) (cond (qv a).isNone (qd (apO (qv a) [v2]) q) none))=q (qv (a++[qv (x++[v])])):=by
  intro γ q
  have e:=q04 (v:=v) hx
  cases h1:apO (some []) ((qv x).getD []) with
  | none=>rw [h1] at e; cases e
  | some y=>
   rw [h1,qe] at e
   rw [qe,e,qe,qbm hl]
 unfold qfx
 dsimp only
 simp only [Option.getD_some]
 rw [zx hjl,cond_true,zb hj,qe,yz (x:=v.a - p.pa) (by omega),yz (x:=p.pa - v.a) (by omega),yz (x:=v.b - p.pb) (by omega),yz (x:=p.pb - v.b) (by omega),jw hjl (by omega),hidx]
 unfold qdt
 cases decide (max (v.a - p.pa) (p.pa - v.a)=p.sa) with
 | true=>
  cases decide (max (v.b - p.pb) (p.pb - v.b)=p.sb) with
  | true=>
   simp only [cond_true,qe]
   rw [hap]
   simp [qc5]
  | false=>
   cases c with
   | true=>simp
   | false=>
    simp only [cond_true,cond_false,qe]
    rw [hap]
    simp [qc5]
 | false=>
  cases c with
  | true=>simp
  | false=>
   simp only [cond_false,qe]
   rw [hap]
   simp [qc5]
theorem q4h {c:Bool} {L:List (List GEl)} {p:qi}:(qdq c L p).length≤9 * L.length:=by
 unfold qdq
 induction L with
 | nil=>simp
 | cons x L ih=>
  have:=qb0 (p:=p) (c:=c)
  rw [List.flatMap_cons,List.length_append,List.length_map,List.length_cons]
  omega
theorem q2c {ps:Option (List qi)} {ch:Option (List Int)} {c:Bool} {L:List (List GEl)} {i:Nat} {k:Int} {p:qi} (hi:(ch.getD [])[i]?=some k) (hn:(ch.getD []).length≤1000) (hp:j7 (ps.getD []) k=some p) (h:okP p) (hL:L.length≤100000) (hx:∀ x∈L,x.length≤1000):
  qfu ps ch (c,qv (L.map qv),(i:Int),z7 (L.map qv))=some (.inl (c,qv ((qdq c L p).map qv),((i + 1:Nat):Int),z7 ((qdq c L p).map qv))):=by
 have hil:i < (ch.getD []).length:=(List.getElem?_eq_some_iff.1 hi).1
 unfold qfu
 dsimp only
 rw [zx hil,cond_true,zb hi,qe,hp,qe,qse h,qe,jw hil (by omega)]
 have key:=qtv c L (qic ps ch (c,qv (L.map qv),(i:Int),z7 (L.map qv)) p (some (za p false),true)) (fun x=>(za p false).flatMap fun v=>if qdt p v || !c then [qv (x++[v])] else []) [] (fun j a=>a.length≤9 * j) (by simp) (fun a=>by
   unfold qic
   dsimp only
   rw [yb,List.length_map,zq]; rfl) (fun j x a hj hjl ha=>by
   have hin:=qtv c (za p false) (qfx ps ch (c,qv (L.map qv),(i:Int),z7 (L.map qv)) p (some (za p false),true) (c,qv a,(j:Int),z7 a)) (fun v=>if qdt p v || !c then [qv (x++[v])] else []) a (fun m b=>b.length≤a.length + m) (by simp) (fun b=>by
     unfold qfx
     dsimp only
     simp only [Option.getD_some]
     rw [zq]; rfl) (fun m v b hm hml hb=>by
     have hv9:=qb0 (p:=p) (c:=false)
     refine ⟨?_,q4e hj (hx x (List.mem_of_getElem? hj)) rfl h hm (by omega)⟩
     rw [List.length_append]
     split <;> simp <;> omega)
   have hfl:((za p false).flatMap fun v=>if qdt p v || !c then [qv (x++[v])] else []).length≤9:=by
    rw [qe9 (P:=fun v=>qdt p v || !c) (g:=fun v=>qv (x++[v])),List.length_map]
    exact Nat.le_trans (List.length_filter_le _ _) qb0
   refine ⟨by rw [List.length_append]; omega,?_⟩
   unfold qic
   dsimp only
   rw [yb,List.length_map,zx hjl,cond_true,hin,qe,jw hjl (by omega)])
 have e0:((none:Option (List (Option (List GEl)))),(0:Int),false)=(qv [],0,z7 ([]:List (Option (List GEl)))):=rfl
 have e1:(L.flatMap fun x=>(za p false).flatMap fun v=>if qdt p v || !c then [qv (x++[v])] else [])=(qdq c L p).map qv:=by
  unfold qdq
  rw [List.map_flatMap]
  congr 1
  funext x
  rw [qe9 (P:=fun v=>qdt p v || !c) (g:=fun v=>qv (x++[v])),qxm h,List.map_map]
  rfl
 rw [List.nil_append,e1] at key
 rw [e0,key,qe]
theorem q73 {ps:Option (List qi)} {ch:Option (List Int)} {c:Bool} {qs:List qi} (hp:qci (ps.getD []) (ch.getD []) qs) (ho:∀ q∈qs,okP q) (hn:(ch.getD []).length≤3):∀ {k i:Nat} {L:List (List GEl)},(ch.getD []).length=i + k→L.length≤9 ^ i→(∀ x∈L,x.length=i) →
  itO (qfu ps ch) (c,qv (L.map qv),(i:Int),z7 (L.map qv))=some (c,qv (((qs.drop i).foldl (qdq c) L).map qv),z7 (((qs.drop i).foldl (qdq c) L).map qv),((ch.getD []).length:Int))
 | 0,i,L,hk,hL,hx=>by
  rw [List.drop_eq_nil_of_le (by rw [hp.len]; omega)]
  refine qad ?_
  unfold qfu
  dsimp only
  rw [decide_eq_false (show ¬ (i:Int) < ((ch.getD []).length:Int) by omega),cond_false]
  have:(i:Int)=((ch.getD []).length:Int):=by omega
  rw [this]; rfl
 | k + 1,i,L,hk,hL,hx=>by
  have hil:i < (ch.getD []).length:=by omega
  obtain ⟨q,g1,g2⟩:=hp.at_ i _ (List.getElem?_eq_getElem hil)
  have hpow:9 ^ i≤729:=by
   match i,(show i≤3 by omega) with
   | 0,_=>decide
   | 1,_=>decide
   | 2,_=>decide
   | 3,_=>decide
  have hs:=q2c (c:=c) (L:=L) (List.getElem?_eq_getElem hil) (by omega) g2 (ho q (List.mem_of_getElem? g1)) (by omega) (fun x hm=>by rw [hx x hm]; omega)
  rw [qch hs,z6 g1,List.foldl_cons]
  refine q73 (k:=k) (i:=i + 1) hp ho hn (by omega) ?_ ?_
  ·have:=q4h (c:=c) (L:=L) (p:=q)
   rw [Nat.pow_succ]
   omega
  ·intro y hy
   obtain ⟨x,hm,hy⟩:=List.mem_flatMap.1 hy
   obtain ⟨v,_,rfl⟩:=List.mem_map.1 hy
   rw [List.length_append,hx x hm]; rfl
theorem q93 {ps:Option (List qi)} {ch:Option (List Int)} {c:Bool} {qs:List qi} (hp:qci (ps.getD []) (ch.getD []) qs) (ho:∀ q∈qs,okP q) (hn:(ch.getD []).length≤3):f112 ps ch c=some (qv ((qa2 c qs []).map qv),z7 ((qa2 c qs []).map qv)):=by
 unfold f112
 have:=q73 (c:=c) hp ho hn (k:=(ch.getD []).length) (i:=0) (L:=[[]]) (by omega) (by decide) (by simp)
 have e:(c,qv (([[]]:List (List GEl)).map qv),((0:Nat):Int),z7 (([[]]:List (List GEl)).map qv))=(c,some [none],0,true):=rfl
 rw [e,List.drop_zero,q52] at this
 rw [this,qe]
theorem qw7 {c:Bool}:∀ {qs:List qi} {x:List GEl},(qa2 c qs x).length≤9 ^ qs.length
 | [],x=>by simp [qa2]
 | p::qs,x=>by
  show ((za p c).flatMap fun v=>qa2 c qs (x++[v])).length≤_
  have hv:=qb0 (p:=p) (c:=c)
  have:∀ l:List GEl,(l.flatMap fun v=>qa2 c qs (x++[v])).length≤l.length * 9 ^ qs.length:=by
   intro l
   induction l with
   | nil=>simp
   | cons v l ih=>
    have:=qw7 (c:=c) (qs:=qs) (x:=x++[v])
    rw [List.flatMap_cons,List.length_append,List.length_cons,Nat.succ_mul]
    omega
  refine Nat.le_trans (this _) ?_
  rw [List.length_cons,Nat.pow_succ,Nat.mul_comm]
  exact Nat.mul_le_mul_left _ hv
end Go.Z
