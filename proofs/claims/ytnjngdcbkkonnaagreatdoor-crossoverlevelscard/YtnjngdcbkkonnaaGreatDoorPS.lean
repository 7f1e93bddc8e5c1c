/-
  Chapter 4: the reference's ladders and extremes: the same list, the same fold.
-/
import Derived.Test.YtnjngdcbkkonnaaGreatDoorPQ
import Derived.Test.YtnjngdcbkkonnaaGreatDoorA9
import Derived.Test.YtnjngdcbkkonnaaGreatDoorA10
set_option linter.unusedVariables false
set_option linter.unusedSimpArgs false
set_option maxRecDepth 100000
set_option maxHeartbeats 1000000
namespace Go.Z
open Go Go.Abs
def edgeE (p:GPart) (v:GEl):Bool:=decide (max (v.a - p.pa) (p.pa - v.a)=p.sa) && decide (max (v.b - p.pb) (p.pb - v.b)=p.sb)
theorem nums_filter {a s:Int} (h:okN a s):(numsE a s false).filter (fun x=>decide (max (x - a) (a - x)=s))=numsE a s true:=by
 obtain ⟨h1,h2,h3,h4⟩:=h
 unfold numsE
 by_cases hs:s=0
 ·rw [if_pos hs,if_pos hs]
  simp only [List.filter_cons,List.filter_nil,decide_eq_true_eq]
  rw [if_pos (by omega)]
 ·rw [if_neg hs,if_neg hs]
  have:s=1:=by omega
  subst this
  simp only [Bool.false_eq_true,if_false,if_true,List.filter_cons,List.filter_nil,decide_eq_true_eq]
  rw [if_pos (by omega),if_neg (by omega),if_pos (by omega)]
theorem filt_prod {E:GEl→Bool} {P Q:Int→Bool} {f:Int→Int→GEl} (hE:∀ a b,E (f a b)=(P a && Q b)) {lb:List Int}:∀ {la:List Int},(la.flatMap fun a=>lb.map (f a)).filter E=(la.filter P).flatMap fun a=>(lb.filter Q).map (f a)
 | []=>rfl
 | a::la=>by
  rw [List.flatMap_cons,List.filter_append,filt_prod hE,List.filter_map,List.filter_cons]
  cases hp:P a with
  | true=>
   rw [if_pos rfl,List.flatMap_cons]
   congr 2
   congr 1
   funext b
   show E (f a b)=_
   rw [hE,hp,Bool.true_and]
  | false=>
   have:lb.filter (E ∘ f a)=[]:=by
    rw [List.filter_eq_nil_iff]
    intro b _
    show ¬ E (f a b)=true
    rw [hE,hp]
    simp
   rw [this]
   simp
theorem vals_filter {p:GPart} {c:Bool} (h:okP p):(valsE p false).filter (fun v=>edgeE p v || !c)=valsE p c:=by
 cases c with
 | false=>
  rw [List.filter_eq_self]
  intro v _
  simp
 | true=>
  have e:(fun v=>edgeE p v || !true)=edgeE p:=by funext v; simp
  rw [e]
  unfold valsE
  rw [filt_prod (P:=fun x=>decide (max (x - p.pa) (p.pa - x)=p.sa)) (Q:=fun x=>decide (max (x - p.pb) (p.pb - x)=p.sb)) (fun a b=>rfl),nums_filter h.1,nums_filter h.2]
theorem flatMap_filter {α β:Type} {P:α→Bool} {g:α→β}:∀ {l:List α},(l.flatMap fun v=>if P v then [g v] else [])=(l.filter P).map g
 | []=>rfl
 | v::l=>by
  rw [List.flatMap_cons,flatMap_filter,List.filter_cons]
  cases P v <;> rfl
theorem vals_near {p:GPart} (h:okP p) {v:GEl} (hv:v∈valsE p false):(p.pa - 1≤v.a∧v.a≤p.pa + 1)∧p.pb - 1≤v.b∧v.b≤p.pb + 1:=by
 have key:∀ {a s x:Int},x∈numsE a s false→a - 1≤x∧x≤a + 1:=by
  intro a s x hx
  unfold numsE at hx
  split at hx
  ·simp only [List.mem_cons,List.not_mem_nil,or_false] at hx; omega
  ·simp only [Bool.false_eq_true,if_false,List.mem_cons,List.not_mem_nil,or_false] at hx; omega
 unfold valsE at hv
 obtain ⟨a,ha,hv⟩:=List.mem_flatMap.1 hv
 obtain ⟨b,hb,rfl⟩:=List.mem_map.1 hv
 exact ⟨key ha,key hb⟩
theorem itO_flatB {α β:Type} (c:Bool) (l:List α) (f:Bool × Option (List β) × Int × Bool→Option ((Bool × Option (List β) × Int × Bool) ⊕ (Bool × Option (List β) × Bool × Int))) (h:α→List β) (a0:List β) (I:Nat→List β→Prop) (hI:I 0 a0)
  (hend:∀ a,f (c,nonNil a,(l.length:Int),accO a)=some (.inr (c,nonNil a,accO a,(l.length:Int))))
  (hstep:∀ (i:Nat) x a,l[i]?=some x→i < l.length→I i a→I (i + 1) (a++h x)∧f (c,nonNil a,(i:Int),accO a)=some (.inl (c,nonNil (a++h x),((i + 1:Nat):Int),accO (a++h x)))):
  itO f (c,nonNil a0,0,accO a0)=some (c,nonNil (a0++l.flatMap h),accO (a0++l.flatMap h),(l.length:Int)):=by
 have key:∀ (k i:Nat),i + k=l.length→∀ a,I i a→itO f (c,nonNil a,(i:Int),accO a)=some (c,nonNil (a++(l.drop i).flatMap h),accO (a++(l.drop i).flatMap h),(l.length:Int)):=by
  intro k
  induction k with
  | zero=>
   intro i hi a _
   have:i=l.length:=by omega
   subst this
   rw [List.drop_eq_nil_of_le (Nat.le_refl _),List.flatMap_nil,List.append_nil,itO_out (hend a)]
  | succ k ih=>
   intro i hi a ha
   obtain ⟨x,hx⟩:∃ x,l[i]?=some x:=⟨_,List.getElem?_eq_getElem (by omega)⟩
   obtain ⟨h1,h2⟩:=hstep i x a hx (by omega) ha
   rw [itO_in h2,ih (i + 1) (by omega) _ h1,drop_cons hx,List.flatMap_cons,List.append_assoc]
 have:=key l.length 0 (by omega) a0 hI
 rwa [List.drop_zero] at this
theorem clone_snoc {x:List GEl} {v:GEl} (h:x.length≤1000):obind (apO (some []) ((nonNil x).getD [])) (fun y=>apO y [v])=some (nonNil (x++[v])):=by
 have e:apO (some []) ((nonNil x).getD [])=some (some x):=by
  unfold apO
  rw [nonNil_getD,if_pos (by simp; omega)]
  cases x <;> rfl
 rw [e,obind_at]
 unfold apO
 rw [if_pos (by simp; omega)]
 cases x <;> rfl
theorem s112_2_at {ps:Option (List GPart)} {ch:Option (List Int)} {c o:Bool} {L:List (List GEl)} {i0:Int} {p:GPart} {w:Bool} {st:Bool × Option (List (Option (List GEl))) × Int × Bool} {x:List GEl} {k:Nat} (hk:L[k]?=some x) (hx:x.length≤1000) (hst:st.2.2.1=(k:Int)) (h:okP p)
  {j:Nat} {v:GEl} {a:List (Option (List GEl))} (hj:(valsE p false)[j]?=some v) (hl:a.length < 1073741824):
  s112_2 ps ch (c,nonNil (L.map nonNil),i0,o) p (some (valsE p false),w) st (c,nonNil a,(j:Int),accO a)=some (.inl (c,nonNil (a++if edgeE p v || !c then [nonNil (x++[v])] else []),((j + 1:Nat):Int),accO (a++if edgeE p v || !c then [nonNil (x++[v])] else []))):=by
 have hjl:j < (valsE p false).length:=(List.getElem?_eq_some_iff.1 hj).1
 obtain ⟨⟨n1,n2⟩,n3,n4⟩:=vals_near h (List.mem_of_getElem? hj)
 obtain ⟨⟨a1,a2,a3,a4⟩,b1,b2,b3,b4⟩:=h
 have hv9:=vals_le (p:=p) (c:=false)
 have hidx:idxO ((nonNil (L.map nonNil)).getD []) st.2.2.1=some (nonNil x):=by
  rw [hst,nonNil_getD,idxO_nat,List.getElem?_map,hk]; rfl
 have hap:∀ {γ:Type} {q:Option (List (Option (List GEl)))→Option γ},(obind (apO (some []) ((nonNil x).getD [])) fun v1=>obind (apO v1 [v]) fun v2=>cond (accO a) (obind (apO (nonNil a) [v2]) q) (cond (nonNil a).isNone (obind (apO (nonNil a) [v2]) q) none))=q (nonNil (a++[nonNil (x++[v])])):=by
  intro γ q
  have e:=clone_snoc (v:=v) hx
  cases h1:apO (some []) ((nonNil x).getD []) with
  | none=>rw [h1] at e; cases e
  | some y=>
   rw [h1,obind_at] at e
   rw [obind_at,e,obind_at,own_step hl]
 unfold s112_2
 dsimp only
 simp only [Option.getD_some]
 rw [lt_len hjl,cond_true,idxO_at hj,obind_at,wrap_small (x:=v.a - p.pa) (by omega),wrap_small (x:=p.pa - v.a) (by omega),wrap_small (x:=v.b - p.pb) (by omega),wrap_small (x:=p.pb - v.b) (by omega),wrap_succ hjl (by omega),hidx]
 unfold edgeE
 cases decide (max (v.a - p.pa) (p.pa - v.a)=p.sa) with
 | true=>
  cases decide (max (v.b - p.pb) (p.pb - v.b)=p.sb) with
  | true=>
   simp only [cond_true,obind_at]
   rw [hap]
   simp [accO_snoc]
  | false=>
   cases c with
   | true=>simp
   | false=>
    simp only [cond_true,cond_false,obind_at]
    rw [hap]
    simp [accO_snoc]
 | false=>
  cases c with
  | true=>simp
  | false=>
   simp only [cond_false,obind_at]
   rw [hap]
   simp [accO_snoc]
theorem stepL_len {c:Bool} {L:List (List GEl)} {p:GPart}:(stepL c L p).length≤9 * L.length:=by
 unfold stepL
 induction L with
 | nil=>simp
 | cons x L ih=>
  have:=vals_le (p:=p) (c:=c)
  rw [List.flatMap_cons,List.length_append,List.length_map,List.length_cons]
  omega
theorem s112_0_at {ps:Option (List GPart)} {ch:Option (List Int)} {c:Bool} {L:List (List GEl)} {i:Nat} {k:Int} {p:GPart} (hi:(ch.getD [])[i]?=some k) (hn:(ch.getD []).length≤1000) (hp:idxO (ps.getD []) k=some p) (h:okP p) (hL:L.length≤100000) (hx:∀ x∈L,x.length≤1000):
  s112_0 ps ch (c,nonNil (L.map nonNil),(i:Int),accO (L.map nonNil))=some (.inl (c,nonNil ((stepL c L p).map nonNil),((i + 1:Nat):Int),accO ((stepL c L p).map nonNil))):=by
 have hil:i < (ch.getD []).length:=(List.getElem?_eq_some_iff.1 hi).1
 unfold s112_0
 dsimp only
 rw [lt_len hil,cond_true,idxO_at hi,obind_at,hp,obind_at,f104_eq h,obind_at,wrap_succ hil (by omega)]
 have key:=itO_flatB c L (s112_1 ps ch (c,nonNil (L.map nonNil),(i:Int),accO (L.map nonNil)) p (some (valsE p false),true)) (fun x=>(valsE p false).flatMap fun v=>if edgeE p v || !c then [nonNil (x++[v])] else []) [] (fun j a=>a.length≤9 * j) (by simp) (fun a=>by
   unfold s112_1
   dsimp only
   rw [nonNil_getD,List.length_map,nlt_len]; rfl) (fun j x a hj hjl ha=>by
   have hin:=itO_flatB c (valsE p false) (s112_2 ps ch (c,nonNil (L.map nonNil),(i:Int),accO (L.map nonNil)) p (some (valsE p false),true) (c,nonNil a,(j:Int),accO a)) (fun v=>if edgeE p v || !c then [nonNil (x++[v])] else []) a (fun m b=>b.length≤a.length + m) (by simp) (fun b=>by
     unfold s112_2
     dsimp only
     simp only [Option.getD_some]
     rw [nlt_len]; rfl) (fun m v b hm hml hb=>by
     have hv9:=vals_le (p:=p) (c:=false)
     refine ⟨?_,s112_2_at hj (hx x (List.mem_of_getElem? hj)) rfl h hm (by omega)⟩
     rw [List.length_append]
     split <;> simp <;> omega)
   have hfl:((valsE p false).flatMap fun v=>if edgeE p v || !c then [nonNil (x++[v])] else []).length≤9:=by
    rw [flatMap_filter (P:=fun v=>edgeE p v || !c) (g:=fun v=>nonNil (x++[v])),List.length_map]
    exact Nat.le_trans (List.length_filter_le _ _) vals_le
   refine ⟨by rw [List.length_append]; omega,?_⟩
   unfold s112_1
   dsimp only
   rw [nonNil_getD,List.length_map,lt_len hjl,cond_true,hin,obind_at,wrap_succ hjl (by omega)])
 have e0:((none:Option (List (Option (List GEl)))),(0:Int),false)=(nonNil [],0,accO ([]:List (Option (List GEl)))):=rfl
 have e1:(L.flatMap fun x=>(valsE p false).flatMap fun v=>if edgeE p v || !c then [nonNil (x++[v])] else [])=(stepL c L p).map nonNil:=by
  unfold stepL
  rw [List.map_flatMap]
  congr 1
  funext x
  rw [flatMap_filter (P:=fun v=>edgeE p v || !c) (g:=fun v=>nonNil (x++[v])),vals_filter h,List.map_map]
  rfl
 rw [List.nil_append,e1] at key
 rw [e0,key,obind_at]
theorem it112 {ps:Option (List GPart)} {ch:Option (List Int)} {c:Bool} {qs:List GPart} (hp:Picked (ps.getD []) (ch.getD []) qs) (ho:∀ q∈qs,okP q) (hn:(ch.getD []).length≤3):∀ {k i:Nat} {L:List (List GEl)},(ch.getD []).length=i + k→L.length≤9 ^ i→(∀ x∈L,x.length=i) →
  itO (s112_0 ps ch) (c,nonNil (L.map nonNil),(i:Int),accO (L.map nonNil))=some (c,nonNil (((qs.drop i).foldl (stepL c) L).map nonNil),accO (((qs.drop i).foldl (stepL c) L).map nonNil),((ch.getD []).length:Int))
 | 0,i,L,hk,hL,hx=>by
  rw [List.drop_eq_nil_of_le (by rw [hp.len]; omega)]
  refine itO_out ?_
  unfold s112_0
  dsimp only
  rw [decide_eq_false (show ¬ (i:Int) < ((ch.getD []).length:Int) by omega),cond_false]
  have:(i:Int)=((ch.getD []).length:Int):=by omega
  rw [this]; rfl
 | k + 1,i,L,hk,hL,hx=>by
  have hil:i < (ch.getD []).length:=by omega
  obtain ⟨q,g1,g2⟩:=hp.at_ i _ (List.getElem?_eq_getElem hil)
  have hpow:9 ^ i≤729:=by
   match i,(show i≤3 by omega) with
   | 0,_=>decide
   | 1,_=>decide
   | 2,_=>decide
   | 3,_=>decide
  have hs:=s112_0_at (c:=c) (L:=L) (List.getElem?_eq_getElem hil) (by omega) g2 (ho q (List.mem_of_getElem? g1)) (by omega) (fun x hm=>by rw [hx x hm]; omega)
  rw [itO_in hs,drop_cons g1,List.foldl_cons]
  refine it112 (k:=k) (i:=i + 1) hp ho hn (by omega) ?_ ?_
  ·have:=stepL_len (c:=c) (L:=L) (p:=q)
   rw [Nat.pow_succ]
   omega
  ·intro y hy
   obtain ⟨x,hm,hy⟩:=List.mem_flatMap.1 hy
   obtain ⟨v,_,rfl⟩:=List.mem_map.1 hy
   rw [List.length_append,hx x hm]; rfl
theorem f112_eq {ps:Option (List GPart)} {ch:Option (List Int)} {c:Bool} {qs:List GPart} (hp:Picked (ps.getD []) (ch.getD []) qs) (ho:∀ q∈qs,okP q) (hn:(ch.getD []).length≤3):f112 ps ch c=some (nonNil ((ladV c qs []).map nonNil),accO ((ladV c qs []).map nonNil)):=by
 unfold f112
 have:=it112 (c:=c) hp ho hn (k:=(ch.getD []).length) (i:=0) (L:=[[]]) (by omega) (by decide) (by simp)
 have e:(c,nonNil (([[]]:List (List GEl)).map nonNil),((0:Nat):Int),accO (([[]]:List (List GEl)).map nonNil))=(c,some [none],0,true):=rfl
 rw [e,List.drop_zero,ladV_all] at this
 rw [this,obind_at]
def q5 (i:Int) (s:GQuad):Int × Int × Int × Int × Int:=(i,s.a,s.b,s.c,s.d)
theorem it35 {w:Int} (hw:checkRange w 1 8=0) {L:List (List GEl)} {b:Bool} (hL:L.length≤100000) (hl:∀ x∈L,ladderE x=0):∀ {k i:Nat} {s:Option GQuad},L.length=i + k→(i=0↔s=none)→okS s →
  ∃ d,itO (s35_0 w (nonNil (L.map nonNil),b)) (q5 i (qz s))=some d∧(match ext w (L.drop i) s with | some s'=>d=.inr (q5 (L.length:Int) (qz s')) | none=>∃ e,d=.inl e)
 | 0,i,s,hk,hi,hs=>by
  rw [List.drop_eq_nil_of_le (by omega)]
  refine ⟨_,itO_out ?_,rfl⟩
  unfold s35_0 q5
  dsimp only
  rw [nonNil_getD,List.length_map,decide_eq_false (show ¬ (i:Int) < (L.length:Int) by omega),cond_false]
  have:(i:Int)=(L.length:Int):=by omega
  rw [this]
 | k + 1,i,s,hk,hi,hs=>by
  have hil:i < L.length:=by omega
  have hx:L[i]?=some L[i]:=List.getElem?_eq_getElem hil
  generalize L[i]=x at hx
  have hm:=List.mem_of_getElem? hx
  have e:f113 (nonNil x) w=some (lev w x):=by
   have:=f113_eq (o:=nonNil x) (w:=w) (by rw [nonNil_getD]; exact hl x hm) hw
   rw [nonNil_getD] at this
   exact this
  have hst:s35_0 w (nonNil (L.map nonNil),b) (q5 i (qz s))=if (lev w x).2=0 then some (.inl (q5 ((i + 1:Nat):Int) (updP s (lev w x).1))) else some (.inr (.inl ((qz s).a,(qz s).b,(qz s).c,(qz s).d,(lev w x).1.num,(lev w x).1.den))):=by
   unfold s35_0 q5
   dsimp only
   rw [nonNil_getD,List.length_map,lt_len hil,cond_true,idxO_nat,List.getElem?_map,hx]
   simp only [Option.map_some,obind_at]
   rw [e]
   simp only [obind_at]
   rw [wrap_succ hil (by omega)]
   rcases levR_ok (hl x hm) hw with h | ⟨h1,h2⟩
   ·rw [h]; rfl
   ·rw [decide_eq_true h1,cond_true,if_pos h1]
    cases s with
    | none=>
     have:i=0:=hi.2 rfl
     subst this
     rfl
    | some s=>
     have hi0:¬ (i:Int)=0:=fun hh=>by
      have:=hi.1 (by omega)
      cases this
     obtain ⟨k1,k2⟩:=hs
     rw [decide_eq_false hi0,cond_false]
     rw [show (⟨(qz (some s)).a,(qz (some s)).b⟩:GRat)=qlo s from rfl,show (⟨(qz (some s)).c,(qz (some s)).d⟩:GRat)=qhi s from rfl,less_R h2 k1,less_R k2 h2]
     simp only [obind_at]
     unfold updP mkQ
     dsimp only
     cases bltR (lev w x).1 (qlo s) <;> cases bltR (qhi s) (lev w x).1 <;> rfl
  rw [drop_cons hx]
  by_cases h0:(lev w x).2=0
  ·rw [if_pos h0] at hst
   have hok:okR (lev w x).1:=by
    rcases levR_ok (hl x hm) hw with h | ⟨_,h2⟩
    ·rw [h] at h0; cases h0
    ·exact h2
   obtain ⟨d,g1,g2⟩:=it35 hw hL hl (b:=b) (k:=k) (i:=i + 1) (s:=some (updP s (lev w x).1)) (by omega) (by simp) (updP_ok hs hok)
   refine ⟨d,by rw [itO_in hst]; exact g1,?_⟩
   show (match ext w (x::L.drop (i + 1)) s with | some s'=>_ | none=>_)
   simp only [ext]
   rw [if_pos h0]
   exact g2
  ·rw [if_neg h0] at hst
   refine ⟨_,itO_out hst,?_⟩
   simp only [ext]
   rw [if_neg h0]
   exact ⟨_,rfl⟩
theorem ladV_len {c:Bool}:∀ {qs:List GPart} {x:List GEl},(ladV c qs x).length≤9 ^ qs.length
 | [],x=>by simp [ladV]
 | p::qs,x=>by
  show ((valsE p c).flatMap fun v=>ladV c qs (x++[v])).length≤_
  have hv:=vals_le (p:=p) (c:=c)
  have:∀ l:List GEl,(l.flatMap fun v=>ladV c qs (x++[v])).length≤l.length * 9 ^ qs.length:=by
   intro l
   induction l with
   | nil=>simp
   | cons v l ih=>
    have:=ladV_len (c:=c) (qs:=qs) (x:=x++[v])
    rw [List.flatMap_cons,List.length_append,List.length_cons,Nat.succ_mul]
    omega
  refine Nat.le_trans (this _) ?_
  rw [List.length_cons,Nat.pow_succ,Nat.mul_comm]
  exact Nat.mul_le_mul_left _ hv
theorem f35_eq {ps:Option (List GPart)} {ch:Option (List Int)} {w:Int} {c:Bool} {qs:List GPart} (hp:Picked (ps.getD []) (ch.getD []) qs) (hc:catE (ps.getD [])=0) (hn:(ch.getD []).length≤3) (hw:checkRange w 1 8=0):f35 ps ch w c=some (extR w (ladV c qs [])):=by
 obtain ⟨k1,k2⟩:=lad_ok (c:=c) hc hp hn
 have hlen:(ladV c qs []).length≤100000:=by
  refine Nat.le_trans ladV_len ?_
  rw [hp.len]
  exact Nat.le_trans (Nat.pow_le_pow_right (by decide) hn) (by decide)
 unfold f35
 rw [f112_eq hp k1 hn,obind_at]
 obtain ⟨d,g1,g2⟩:=it35 hw (L:=ladV c qs []) (b:=accO ((ladV c qs []).map nonNil)) hlen k2 (k:=(ladV c qs []).length) (i:=0) (s:=none) (by omega) (by simp) trivial
 rw [show q5 ((0:Nat):Int) (qz none)=(0,0,0,0,0) from rfl] at g1
 rw [g1,obind_at]
 unfold extR
 rw [List.drop_zero] at g2
 cases hx:ext w (ladV c qs []) none with
 | some s=>
  rw [hx] at g2
  obtain rfl:d=.inr (q5 ((ladV c qs []).length:Int) (qz s)):=g2
  rfl
 | none=>
  rw [hx] at g2
  obtain ⟨e,rfl⟩:=g2
  rfl
end Go.Z
/-
 CrossoverLevels: the law runs true.
-/
namespace Go.Z
open Go Go.Abs
theorem shortP_len {l:List GPart} (h:shortP l=true):l.length≤7:=by
 unfold shortP at h
 simp only [Bool.and_eq_true,Bool.or_eq_true,decide_eq_true_eq] at h
 omega
theorem f34_range {w:Int}:f34 w=some (checkRange w 1 8):=by unfold f34; rw [f40_eq]; rfl
theorem f32_lit {l:List Int} (h:l.length≤100):f32 (some l)=some (firstNZ l):=by unfold f32; rw [f100_lit h]; rfl
theorem f28_short {c:GCase}:∃ b,f28 c=some b∧(b=true→shortP (c.parts.getD [])=true∧(c.choice.getD []).length≤5):=by
 unfold f28 f36
 rw [f17_eq,obind_at]
 cases hs:shortP (c.parts.getD []) with
 | false=>exact ⟨false,rfl,fun h=>by cases h⟩
 | true=>
  have key:∀ x:Bool,∃ b,(obind (some x) fun v1=>cond v1 (some (decide (((c.choice.getD []).length:Int)≤5))) (some false))=some b∧(b=true→True∧(c.choice.getD []).length≤5):=by
   intro x
   cases x with
   | false=>exact ⟨false,rfl,fun h=>by cases h⟩
   | true=>exact ⟨_,rfl,fun h=>⟨trivial,by have:=of_decide_eq_true h; omega⟩⟩
  have e:∃ x,(cond true (cond (decide (((c.bands.getD []).length:Int)≤4)) (cond (decide ((0:Int)≤2)) (some true) (cond (decide ((3:Int) < 0)) (some true) (some (decide (((c.parts.getD []).length:Int)≤2))))) (cond (decide (((c.bands.getD []).length:Int)=9)) (cond (decide ((0:Int)≤2)) (some true) (cond (decide ((3:Int) < 0)) (some true) (some (decide (((c.parts.getD []).length:Int)≤2))))) (some false))) (some false):Option Bool)=some x:=by
   rw [cond_true,show (decide ((0:Int)≤2))=true from rfl]
   cases decide (((c.bands.getD []).length:Int)≤4) with
   | true=>exact ⟨_,rfl⟩
   | false=>
    cases decide (((c.bands.getD []).length:Int)=9) with
    | true=>exact ⟨_,rfl⟩
    | false=>exact ⟨_,rfl⟩
  obtain ⟨x,hx⟩:=e
  obtain ⟨b,h1,h2⟩:=key x
  exact ⟨b,by rw [hx]; exact h1,fun h=>⟨rfl,(h2 h).2⟩⟩
theorem f4_true (c:GCase) (w:Int):f4 c w=some true:=by
 unfold f4
 rw [show E16=some true from rfl,obind_at,cond_true]
 obtain ⟨b,h1,h2⟩:=f28_short (c:=c)
 rw [h1,obind_at]
 cases b with
 | false=>rfl
 | true=>
  obtain ⟨hs,hc⟩:=h2 rfl
  have hl:=shortP_len hs
  rw [cond_true,f24_eq (by omega),obind_at,f30_eq (by omega),obind_at,f25_eq,f33_eq,f34_range]
  have q1:=nonNil_getD (c.parts.getD [])
  have q2:(some (c.choice.getD []):Option (List Int)).getD []=c.choice.getD []:=rfl
  unfold f29 f31
  dsimp only
  generalize nonNil (c.parts.getD [])=P at q1 ⊢
  generalize (some (c.choice.getD []):Option (List Int))=C at q2 ⊢
  have g1:=f111_eq (ps:=P) (ch:=C) (w:=w) (c:=false) (by rw [q2]; omega)
  have g2:=f111_eq (ps:=P) (ch:=C) (w:=w) (c:=true) (by rw [q2]; omega)
  rw [q1,q2] at g1 g2
  rcases g1 with ⟨z1,qs1,p1,r1⟩ | ⟨z1,r1⟩
  ·rcases g2 with ⟨z2,qs2,p2,r2⟩ | ⟨z2,r2⟩
   ·have hz:=first_zero.1 z1
    have k1:catE (c.parts.getD [])=0:=hz _ (by simp)
    have k2:choiceE (c.parts.getD []) (c.choice.getD [])=0:=hz _ (by simp)
    have k3:checkRange w 1 8=0:=hz _ (by simp)
    have k4:=(choice_ok k2).1
    rw [r1,r2]
    simp only [obind_at]
    rw [f32_lit (by simp),obind_at,decide_eq_true z1,cond_true,f35_eq p1 k1 k4 k3,obind_at,f35_eq p2 k1 k4 k3,obind_at]
    simp
   ·exact absurd z1 z2
  ·rcases g2 with ⟨z2,qs2,p2,r2⟩ | ⟨z2,r2⟩
   ·exact absurd z2 z1
   ·rw [r1,r2]
    simp only [obind_at]
    rw [f32_lit (by simp),obind_at,decide_eq_false z1,cond_false]
    simp
theorem I4 (x:GCase) (w:Int):callIso prZ (X prZ) 4 [.agg [sl 8 vpart x.parts,sl 1 vint x.choice,sl 5 vband x.bands],.int .i64 w]=some (.bool true,false):=W4 (f4_true x w)
end Go.Z
