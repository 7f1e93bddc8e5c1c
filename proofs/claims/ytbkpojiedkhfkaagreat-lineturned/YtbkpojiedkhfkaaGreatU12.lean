/-
  LineTutte: the law's own search for a pairing.
-/
import Derived.Test.YtbkpojiedkhfkaaGreatU1
import Derived.Test.YtbkpojiedkhfkaaGreatUA
import Derived.Test.YtbkpojiedkhfkaaGreatQ6
set_option linter.unusedVariables false
set_option linter.unusedSimpArgs false
set_option maxRecDepth 100000
namespace Go.Z
open Go Go.Abs
def pmB (l:List GUnit) (below:Int):Nat→List Nat→Bool
 | _,[]=>true
 | 0,_::_=>false
 | k + 1,a::t=>t.any fun b=>near l below (a:Int) (b:Int) && pmB l below k (t.filter fun x=>!Nat.beq x b)
end Go.Z
/-
 LineTutte: where all are paired with near ones,no set proves.
-/
namespace Go.Z
open Go Go.Abs
end Go.Z
/-
 LineTutte: the best pairing's value is below a number where all can be paired with differences below it.
-/
namespace Go.Z
open Go Go.Abs
section
variable {β ι:Type}
theorem foldG_lt (r:ι→β × Int) (e:Int):∀ (l:List ι) (a s:β × Int),l.foldl (fun st b=>updG st (r b)) (some a)=some s→(s.2 < e↔a.2 < e∨∃ b∈l,(r b).2 < e)
 | [],a,s,h=>by cases h; simp
 | b::l,a,s,h=>by
  rw [List.foldl_cons] at h
  have:updG (some a) (r b)=some (if (r b).2 < a.2 then r b else a):=by
   unfold updG; simp only []; split <;> rfl
  rw [this] at h
  rw [foldG_lt r e l _ s h]
  constructor
  ·rintro (h1 | ⟨c,hc,h1⟩)
   ·split at h1
    ·exact .inr ⟨b,List.mem_cons_self ..,h1⟩
    ·exact .inl h1
   ·exact .inr ⟨c,List.mem_cons_of_mem _ hc,h1⟩
  ·rintro (h1 | ⟨c,hc,h1⟩)
   ·left
    split
    ·omega
    ·exact h1
   ·rcases List.mem_cons.1 hc with rfl | hc
    ·left
     split
     ·exact h1
     ·omega
    ·exact .inr ⟨c,hc,h1⟩
end
variable {l:List GUnit} {below:Int}
theorem pmB_succ {k a:Nat} {t:List Nat}:pmB l below (k + 1) (a::t)=t.any fun b=>near l below (a:Int) (b:Int) && pmB l below k (t.filter fun x=>!Nat.beq x b):=rfl
theorem best_lt:∀ (k:Nat) (t:List Nat) (p:List GPair),t.length=2 * k→t.Nodup→((bestP l k (t.map fun (x:Nat)=>(x:Int)) p).2 < below↔worstP l p < below∧pmB l below k t=true)
 | 0,t,p,ht,_=>by
  have h0:t=[]:=List.length_eq_zero_iff.1 (by omega)
  subst h0
  show worstP l p < below↔_
  have:pmB l below 0 []=true:=rfl
  rw [this]; simp
 | k + 1,[],p,ht,_=>by simp at ht
 | k + 1,a::t,p,ht,hn=>by
  obtain ⟨ha,hnt⟩:=List.nodup_cons.1 hn
  have hlen:∀ b∈t,(t.filter fun x=>!Nat.beq x b).length=2 * k:=by
   intro b hb
   have e:(t.filter fun x=>!Nat.beq x b)=t.erase b:=by
    rw [hnt.erase_eq_filter]
    apply List.filter_congr
    intro x _
    cases hx:Nat.beq x b with
    | true=>rw [Nat.eq_of_beq_eq_true hx]; simp
    | false=>
     have:x ≠ b:=fun e=>by rw [e,Nat.beq_refl] at hx; cases hx
     simp [this]
   rw [e,List.length_erase_of_mem hb]
   simp only [List.length_cons] at ht
   omega
  have hfil:∀ b:Nat,((t.map fun (x:Nat)=>(x:Int)).filter fun x=>x != (b:Int))=(t.filter fun x=>!Nat.beq x b).map fun (x:Nat)=>(x:Int):=by
   intro b
   rw [List.filter_map]
   congr 1
   apply List.filter_congr
   intro x _
   show ((x:Int) != (b:Int))=_
   cases hx:Nat.beq x b with
   | true=>rw [Nat.eq_of_beq_eq_true hx]; simp
   | false=>
    have:x ≠ b:=fun e=>by rw [e,Nat.beq_refl] at hx; cases hx
    have:(x:Int) ≠ (b:Int):=fun e=>this (by omega)
    simp [this]
  have ih:∀ b∈t,((bestP l k ((t.map fun (x:Nat)=>(x:Int)).filter fun x=>x != (b:Int)) (p++[⟨(a:Int),(b:Int)⟩])).2 < below↔worstP l p < below∧(near l below (a:Int) (b:Int) && pmB l below k (t.filter fun x=>!Nat.beq x b))=true):=by
   intro b hb
   rw [hfil,best_lt k _ _ (hlen b hb) (hnt.sublist (List.filter_sublist ..)),worstP_snoc,Bool.and_eq_true]
   have:near l below (a:Int) (b:Int)=true↔dAt l (a:Int) (b:Int) < below:=decide_eq_true_iff
   rw [this]
   dsimp only
   constructor
   ·rintro ⟨h1,h2⟩; exact ⟨by omega,by omega,h2⟩
   ·rintro ⟨h1,h2,h3⟩; exact ⟨by omega,h3⟩
  cases t with
  | nil=>simp at ht; omega
  | cons b t=>
   have hb:bestP l (k + 1) ((a::b::t).map fun (x:Nat)=>(x:Int)) p=((t.map fun (x:Nat)=>(x:Int)).foldl (fun st c=>updG st (bestP l k (((b::t).map fun (x:Nat)=>(x:Int)).filter fun x=>x != c) (p++[⟨(a:Int),c⟩]))) (some (bestP l k (((b::t).map fun (x:Nat)=>(x:Int)).filter fun x=>x != (b:Int)) (p++[⟨(a:Int),(b:Int)⟩])))).getD (p,0):=rfl
   obtain ⟨s,hs⟩:=foldG_some (fun c:Int=>bestP l k (((b::t).map fun (x:Nat)=>(x:Int)).filter fun x=>x != c) (p++[⟨(a:Int),c⟩])) (t.map fun (x:Nat)=>(x:Int)) (bestP l k (((b::t).map fun (x:Nat)=>(x:Int)).filter fun x=>x != (b:Int)) (p++[⟨(a:Int),(b:Int)⟩]))
   rw [hb,hs]
   show s.2 < below↔_
   rw [foldG_lt _ below _ _ s hs,ih b (List.mem_cons_self ..)]
   rw [pmB_succ,List.any_cons,Bool.or_eq_true,List.any_eq_true]
   constructor
   ·rintro (⟨h1,h2⟩ | ⟨c,hc,h⟩)
    ·exact ⟨h1,.inl h2⟩
    ·obtain ⟨c',hc',rfl⟩:=List.mem_map.1 hc
     have:=(ih c' (List.mem_cons_of_mem _ hc')).1 h
     exact ⟨this.1,.inr ⟨c',hc',this.2⟩⟩
   ·rintro ⟨h1,h2 | ⟨c,hc,h⟩⟩
    ·exact .inl ⟨h1,h2⟩
    ·exact .inr ⟨(c:Int),List.mem_map.2 ⟨c,hc,rfl⟩,(ih c (List.mem_cons_of_mem _ hc)).2 ⟨h1,h⟩⟩
theorem best_below (h2:l.length % 2=0) (hb:0 < below):(bestP l (l.length / 2) (allI l.length) []).2 < below↔pmB l below (l.length / 2) (List.range l.length)=true:=by
 have ha:allI l.length=(List.range l.length).map fun (x:Nat)=>(x:Int):=by
  unfold allI; rw [lf_all,List.range_eq_range']
 rw [ha,best_lt _ _ _ (by rw [List.length_range]; omega) List.nodup_range]
 have:worstP l []=0:=rfl
 rw [this]
 exact ⟨fun h=>h.2,fun h=>⟨hb,h⟩⟩
end Go.Z
/-
 LineTutte: the best pairing is accepted.
-/
namespace Go.Z
open Go Go.Abs
theorem memI_false {l:List Int} {k:Int} (h:k ∉ l):memI l k=false:=by
 unfold memI
 rw [List.contains_eq_mem]
 exact decide_eq_false h
theorem bestP_form {l:List GUnit} {n:Nat}:∀ (m:Nat) (left:List Int) (p:List GPair),LeftOk n left→left.Pairwise (· < ·)→left.length=2 * m →
  ∃ s,(bestP l m left p).1=p++s∧∀ (seen:List Int) (last:Int),(∀ x∈left,x ∉ seen∧last < x)→pairsX (n:Int) seen last s=0
 | 0,left,p,_,_,_=>⟨[],by unfold bestP; simp,fun _ _ _=>rfl⟩
 | m + 1,left,p,hk,ho,hl=>by
  have h:=bestP_fold (l:=l) (p:=p) hl none
  have ih:∀ b∈left.tail,∃ s,(bestP l m (left.tail.filter fun x=>x != b) (p++[⟨left.headD 0,b⟩])).1=p++s∧∀ (seen:List Int) (last:Int),(∀ x∈left,x ∉ seen∧last < x)→pairsX (n:Int) seen last s=0:=by
   intro b hb
   obtain ⟨s,e,hs⟩:=bestP_form (l:=l) m _ (p++[⟨left.headD 0,b⟩]) (hk.next b) ((ho.sublist (List.tail_sublist _)).sublist (List.filter_sublist ..)) (next_len hk hl hb)
   refine ⟨⟨left.headD 0,b⟩::s,by rw [e,List.append_assoc]; rfl,fun seen last hsl=>?_⟩
   cases left with
   | nil=>simp at hb
   | cons a t=>
    have hb:b∈t:=hb
    have hab:a < b:=(List.pairwise_cons.1 ho).1 b hb
    have ha:=hk.ins a (List.mem_cons_self ..)
    have hb2:=hk.ins b (List.mem_cons_of_mem _ hb)
    have hsa:=hsl a (List.mem_cons_self ..)
    have hsb:=hsl b (List.mem_cons_of_mem _ hb)
    have hz:pairX (n:Int) seen last ⟨a,b⟩=0:=by
     unfold pairX
     dsimp only
     rw [memI_false hsa.1,memI_false hsb.1,if_neg (by omega),if_neg (by omega),if_neg (by simp)]
    show pairsX (n:Int) seen last (⟨a,b⟩::s)=0
    unfold pairsX
    rw [if_pos hz]
    refine hs _ _ fun x hx=>?_
    have hxt:=(List.mem_filter.1 hx).1
    have hxb:x ≠ b:=by
     have:=(List.mem_filter.1 hx).2
     intro e
     rw [e] at this
     simp at this
    have hxt:x∈t:=hxt
    have hax:a < x:=(List.pairwise_cons.1 ho).1 x hxt
    have hxs:=hsl x (List.mem_cons_of_mem _ hxt)
    refine ⟨?_,hax⟩
    intro hm
    rcases List.mem_append.1 hm with hm | hm
    ·exact hxs.1 hm
    ·simp only [List.mem_cons,List.not_mem_nil,or_false] at hm
     omega
  cases ht:left.tail with
  | nil=>have:=List.length_tail (l:=left); rw [ht] at this; simp at this; omega
  | cons b t=>
   rw [ht] at h ih
   rw [List.foldl_cons] at h
   rcases foldG_is (fun b'=>bestP l m ((b::t).filter fun x=>x != b') (p++[⟨left.headD 0,b'⟩])) t _ _ h with e | ⟨c,hc,e⟩
   ·have:=ih b (List.mem_cons_self ..)
    rw [e]
    exact this
   ·have:=ih c (List.mem_cons_of_mem _ hc)
    rw [e]
    exact this
theorem allI_asc (n:Nat):(allI n).Pairwise (· < ·):=by
 unfold allI
 rw [lf_all]
 refine List.Pairwise.map _ (fun a b h=>?_) List.pairwise_lt_range'
 omega
theorem best_accepted {l:List GUnit} (hu:UnitsOk l) (h2:l.length % 2=0):pairsX (l.length:Int) [] (-1) (bestP l (l.length / 2) (allI l.length) []).1=0∧(bestP l (l.length / 2) (allI l.length) []).1.length=l.length / 2 ∧
  (bestP l (l.length / 2) (allI l.length) []).2=worstP l (bestP l (l.length / 2) (allI l.length) []).1∧0≤(bestP l (l.length / 2) (allI l.length) []).2∧(bestP l (l.length / 2) (allI l.length) []).2≤200000:=by
 have hlen:(allI l.length).length=2 * (l.length / 2):=by rw [allI_len]; omega
 obtain ⟨s,e,hs⟩:=bestP_form (l:=l) (n:=l.length) (l.length / 2) (allI l.length) [] (allI_ok _) (allI_asc _) hlen
 obtain ⟨g1,g2,g3⟩:=bestP_is (l:=l) (n:=l.length) (l.length / 2) (allI l.length) [] (allI_ok _) hlen (fun q hq=>by cases hq)
 refine ⟨?_,by simpa using g1,g2,?_⟩
 ·rw [e,List.nil_append]
  exact hs _ _ fun x hx=>⟨by simp,by have:=(allI_ok l.length).ins x hx; omega⟩
 ·rw [g2]
  exact worst_bounds hu _
end Go.Z
