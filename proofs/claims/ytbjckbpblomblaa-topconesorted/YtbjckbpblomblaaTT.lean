/-
  TopConeSorted: units with one value each: their best pairing is that of neighbours in the order of the values; the empty set proves it.
-/
import Derived.Test.YtbjckbpblomblaaB1
import Derived.Test.YtbjckbpblomblaaR6
import Derived.Test.YtbjckbpblomblaaU1
import Derived.Test.YtbjckbpblomblaaTS
set_option linter.unusedVariables false
set_option linter.unusedSimpArgs false
set_option maxRecDepth 100000
namespace Go.Z
open Go Go.Abs
def val1 (u:GUnit):Int:=(u.values.getD []).headD 0
def One (l:List GUnit):Prop:=∀ u∈l,u.values.getD []=[val1 u]∧-100000≤val1 u∧val1 u≤100000
def vAt (l:List GUnit) (i:Nat):Int:=match l[i]? with
 | some u=>val1 u
 | none=>0
theorem vAt_lt {l:List GUnit} {i:Nat} (h:i < l.length):vAt l i=val1 l[i]:=by
 unfold vAt; rw [List.getElem?_eq_getElem h]
theorem dAt_one {l:List GUnit} (h1:One l) {i j:Nat} (hi:i < l.length) (hj:j < l.length):dAt l (i:Int) (j:Int)=max (vAt l i - vAt l j) (vAt l j - vAt l i):=by
 unfold dAt
 rw [Int.toNat_natCast,Int.toNat_natCast,List.getElem?_eq_getElem hi,List.getElem?_eq_getElem hj,vAt_lt hi,vAt_lt hj]
 simp only []
 unfold diffU
 rw [(h1 _ (List.getElem_mem hi)).1,(h1 _ (List.getElem_mem hj)).1]
 show stepD 0 (val1 l[i],val1 l[j])=_
 unfold stepD
 simp only []
 omega
theorem vAt_map (l:List GUnit):(List.range l.length).map (vAt l)=l.map val1:=by
 apply List.ext_getElem
 ·simp
 ·intro i h1 h2
  rw [List.getElem_map,List.getElem_map,List.getElem_range]
  exact vAt_lt (by simpa using h1)
theorem perm_pre {α β:Type} {f:α→β}:∀ {r:List β} {t:List α},r.Perm (t.map f)→∃ s:List α,s.Perm t∧r=s.map f
 | [],t,h=>by
  have:=h.length_eq
  cases t with
  | nil=>exact ⟨[],List.Perm.refl _,rfl⟩
  | cons a t=>simp at this
 | a::r,t,h=>by
  have hm:a∈t.map f:=h.subset (List.mem_cons_self ..)
  obtain ⟨x,hx,rfl⟩:=List.mem_map.1 hm
  obtain ⟨t1,t2,rfl⟩:=List.append_of_mem hx
  have h2:(f x::r).Perm (f x::(t1++t2).map f):=by
   refine h.trans ?_
   rw [List.map_append,List.map_cons,List.map_append]
   exact List.perm_middle
  obtain ⟨s,hs,rfl⟩:=perm_pre (List.Perm.cons_inv h2)
  exact ⟨x::s,(hs.cons x).trans List.perm_middle.symm,rfl⟩
def pairUp:List Nat→List (Nat × Nat)
 | a::b::t=>(a,b)::pairUp t
 | _=>[]
theorem flat_pairUp:∀ (s:List Nat),s.length % 2=0→flatP (pairUp s)=s
 | [],_=>rfl
 | [_],h=>by simp at h
 | a::b::t,h=>by
  have:=flat_pairUp t (by simp only [List.length_cons] at h; omega)
  show a::b::flatP (pairUp t)=_
  rw [this]
def gapW:List Int→Int→Int
 | a::b::t,w=>gapW t (max w (a - b))
 | _,w=>w
theorem gap_ge:∀ (s:List Nat) (V:Nat→Int) (w:Int),w≤gapW (s.map V) w∧∀ q∈pairUp s,V q.1 - V q.2≤gapW (s.map V) w
 | [],V,w=>⟨Int.le_refl _,fun q hq=>by cases hq⟩
 | [_],V,w=>⟨Int.le_refl _,fun q hq=>by cases hq⟩
 | a::b::t,V,w=>by
  obtain ⟨h1,h2⟩:=gap_ge t V (max w (V a - V b))
  show w≤gapW (t.map V) (max w (V a - V b))∧∀ q∈(a,b)::pairUp t,V q.1 - V q.2≤gapW (t.map V) (max w (V a - V b))
  refine ⟨by omega,fun q hq=>?_⟩
  rcases List.mem_cons.1 hq with rfl | hq
  ·show V a - V b≤_
   omega
  ·exact h2 q hq
theorem gap_is:∀ (s:List Nat) (V:Nat→Int) (w:Int),gapW (s.map V) w=w∨∃ pre a b post,s=pre++a::b::post∧pre.length % 2=0∧gapW (s.map V) w=V a - V b
 | [],V,w=>.inl rfl
 | [_],V,w=>.inl rfl
 | a::b::t,V,w=>by
  show gapW (t.map V) (max w (V a - V b))=w∨∃ pre x y post,a::b::t=pre++x::y::post∧pre.length % 2=0∧gapW (t.map V) (max w (V a - V b))=V x - V y
  rcases gap_is t V (max w (V a - V b)) with h | ⟨pre,x,y,post,h1,h2,h3⟩
  ·rcases Int.le_total w (V a - V b) with hw | hw
   ·exact .inr ⟨[],a,b,t,rfl,rfl,by rw [h]; omega⟩
   ·exact .inl (by rw [h]; omega)
  ·exact .inr ⟨a::b::pre,x,y,post,by rw [h1]; rfl,by simp only [List.length_cons]; omega,h3⟩
theorem mate_split {l:List GUnit} {below:Int}:∀ {m:List (Nat × Nat)} {a:Nat},(∀ q∈m,near l below (q.1:Int) (q.2:Int)=true)→a∈flatP m→∃ b m',(flatP m).Perm (a::b::flatP m')∧near l below (a:Int) (b:Int)=true∧∀ q∈m',q∈m
 | [],a,_,h=>by cases h
 | (x,y)::m,a,hn,h=>by
  have h:a∈x::y::flatP m:=h
  rcases List.mem_cons.1 h with rfl | h
  ·exact ⟨y,m,List.Perm.refl _,hn (a,y) (List.mem_cons_self ..),fun q hq=>List.mem_cons_of_mem _ hq⟩
  ·rcases List.mem_cons.1 h with rfl | h
   ·refine ⟨x,m,List.Perm.swap ..,?_,fun q hq=>List.mem_cons_of_mem _ hq⟩
    rw [near_symm]
    exact hn (x,a) (List.mem_cons_self ..)
   ·obtain ⟨b,m',h1,h2,h3⟩:=mate_split (fun q hq=>hn q (List.mem_cons_of_mem _ hq)) h
    refine ⟨b,(x,y)::m',?_,h2,fun q hq=>?_⟩
    ·show (x::y::flatP m).Perm (a::b::x::y::flatP m')
     have e1:(x::y::flatP m).Perm (x::y::a::b::flatP m'):=(h1.cons y).cons x
     refine e1.trans ?_
     have:([x,y]++([a,b]++flatP m')).Perm ([a,b]++([x,y]++flatP m')):=by
      rw [← List.append_assoc,← List.append_assoc]
      exact List.Perm.append_right _ (List.perm_append_comm)
     exact this
    ·rcases List.mem_cons.1 hq with rfl | hq
     ·exact List.mem_cons_self ..
     ·exact List.mem_cons_of_mem _ (h3 q hq)
theorem near_pm {l:List GUnit} {below:Int}:∀ (k:Nat) (t:List Nat) (m:List (Nat × Nat)),(∀ q∈m,near l below (q.1:Int) (q.2:Int)=true)→t.Perm (flatP m)→t.Nodup→t.length≤2 * k→pmB l below k t=true
 | 0,[],m,_,_,_,_=>rfl
 | k + 1,[],m,_,_,_,_=>rfl
 | 0,_::_,m,_,_,_,h=>by simp at h
 | k + 1,a::t,m,hn,hp,hd,hk=>by
  obtain ⟨b,m',h1,h2,h3⟩:=mate_split hn (hp.subset (List.mem_cons_self ..))
  have h4:t.Perm (b::flatP m'):=List.Perm.cons_inv (hp.trans h1)
  obtain ⟨_,hdt⟩:=List.nodup_cons.1 hd
  have hb:b∈t:=h4.symm.subset (List.mem_cons_self ..)
  have e:(t.filter fun x=>!Nat.beq x b)=t.erase b:=by
   rw [hdt.erase_eq_filter]
   apply List.filter_congr
   intro x _
   cases hx:Nat.beq x b with
   | true=>rw [Nat.eq_of_beq_eq_true hx]; simp
   | false=>
    have:x ≠ b:=fun e=>by rw [e,Nat.beq_refl] at hx; cases hx
    simp [this]
  rw [pmB_succ,List.any_eq_true]
  refine ⟨b,hb,?_⟩
  rw [Bool.and_eq_true]
  refine ⟨h2,near_pm k _ m' (fun q hq=>hn q (h3 q hq)) ?_ (hdt.sublist (List.filter_sublist ..)) ?_⟩
  ·rw [e]
   have:=h4.erase b
   rwa [List.erase_cons_head] at this
  ·rw [e,List.length_erase_of_mem hb]
   simp only [List.length_cons] at hk
   omega
section
variable {l:List GUnit}
structure OrdOk (l:List GUnit) (s:List Nat):Prop where
 perm:s.Perm (List.range l.length)
 desc:(s.map (vAt l)).Pairwise fun a b=>b≤a
theorem ord_of (l:List GUnit):∃ s,OrdOk l s∧sortTo (l.map val1) (l.map val1).length=s.map (vAt l):=by
 have h:=sortTo_perm (l.map val1) _ (Nat.le_refl _)
 have h2:(sortTo (l.map val1) (l.map val1).length).Perm ((List.range l.length).map (vAt l)):=by rw [vAt_map]; exact h
 obtain ⟨s,h3,h4⟩:=perm_pre h2
 exact ⟨s,⟨h3,by rw [← h4]; exact sorted_pair _⟩,h4⟩
def worst1 (l:List GUnit):Int:=gapW (sortTo (l.map val1) (l.map val1).length) 0
theorem OrdOk.lt {s:List Nat} (h:OrdOk l s) {x:Nat} (hx:x∈s):x < l.length:=List.mem_range.1 (h.perm.subset hx)
theorem OrdOk.mem {s:List Nat} (h:OrdOk l s) {x:Nat} (hx:x < l.length):x∈s:=h.perm.symm.subset (List.mem_range.2 hx)
theorem OrdOk.nd {s:List Nat} (h:OrdOk l s):s.Nodup:=h.perm.symm.nodup List.nodup_range
theorem pair_desc:∀ {s:List Nat} {V:Nat→Int},(s.map V).Pairwise (fun a b=>b≤a)→∀ q∈pairUp s,V q.2≤V q.1∧q.1∈s∧q.2∈s
 | [],_,_,q,hq=>by cases hq
 | [_],_,_,q,hq=>by cases hq
 | a::b::t,V,h,q,hq=>by
  rw [List.map_cons,List.map_cons,List.pairwise_cons,List.pairwise_cons] at h
  rcases List.mem_cons.1 hq with rfl | hq
  ·exact ⟨h.1 _ (List.mem_cons_self ..),by simp,by simp⟩
  ·obtain ⟨h1,h2,h3⟩:=pair_desc h.2.2 q hq
   exact ⟨h1,List.mem_cons_of_mem _ (List.mem_cons_of_mem _ h2),List.mem_cons_of_mem _ (List.mem_cons_of_mem _ h3)⟩
theorem sorted_near (h1:One l) {s:List Nat} (hs:OrdOk l s) (hw:worst1 l=gapW (s.map (vAt l)) 0):∀ q∈pairUp s,near l (worst1 l + 1) (q.1:Int) (q.2:Int)=true:=by
 intro q hq
 obtain ⟨a,b,c⟩:=pair_desc hs.desc q hq
 have:=(gap_ge s (vAt l) 0).2 q hq
 refine decide_eq_true ?_
 rw [dAt_one h1 (hs.lt b) (hs.lt c),hw]
 omega
theorem sorted_pm (h1:One l) (h2:l.length % 2=0):pmB l (worst1 l + 1) (l.length / 2) (List.range l.length)=true:=by
 obtain ⟨s,hs,e⟩:=ord_of l
 have hw:worst1 l=gapW (s.map (vAt l)) 0:=by unfold worst1; rw [e]
 have hl:s.length=l.length:=by have:=hs.perm.length_eq; simpa using this
 refine near_pm _ _ (pairUp s) (sorted_near h1 hs hw) ?_ List.nodup_range (by rw [List.length_range]; omega)
 rw [flat_pairUp s (by omega)]
 exact hs.perm.symm
theorem worst1_nonneg:0≤worst1 l:=by
 obtain ⟨s,hs,e⟩:=ord_of l
 have:=(gap_ge s (vAt l) 0).1
 unfold worst1
 rw [e]; exact this
theorem sorted_cut (hw:0 < worst1 l):∃ (v u:Int),v - u=worst1 l∧(∀ i,i < l.length→v≤vAt l i∨vAt l i≤u)∧∃ top:List Nat,top.Nodup∧top.length % 2=1∧∀ i,i∈top↔i < l.length∧v≤vAt l i:=by
 obtain ⟨s,hs,e⟩:=ord_of l
 have hW:worst1 l=gapW (s.map (vAt l)) 0:=by unfold worst1; rw [e]
 rcases gap_is s (vAt l) 0 with h | ⟨pre,a,b,post,h1,h2,h3⟩
 ·omega
 ·have hab:vAt l a - vAt l b=worst1 l:=by omega
  have hd:=hs.desc
  rw [h1,List.map_append,List.map_cons,List.map_cons,List.pairwise_append,List.pairwise_cons,List.pairwise_cons] at hd
  obtain ⟨_,⟨hd1,hd2,_⟩,hd3⟩:=hd
  have hup:∀ x∈pre,vAt l a≤vAt l x:=fun x hx=>hd3 _ (List.mem_map.2 ⟨x,hx,rfl⟩) _ (List.mem_cons_self ..)
  have hdn:∀ x∈post,vAt l x≤vAt l b:=fun x hx=>hd2 _ (List.mem_map.2 ⟨x,hx,rfl⟩)
  have cases4:∀ i,i < l.length→(i∈pre++[a]∧vAt l a≤vAt l i)∨(i ∉ pre++[a]∧vAt l i≤vAt l b):=by
   intro i hi
   have hm:=hs.mem hi
   have hnd:=hs.nd
   rw [h1] at hm hnd
   rcases List.mem_append.1 hm with hm | hm
   ·exact .inl ⟨List.mem_append_left _ hm,hup i hm⟩
   ·rcases List.mem_cons.1 hm with rfl | hm
    ·exact .inl ⟨by simp,Int.le_refl _⟩
    ·refine .inr ⟨?_,?_⟩
     ·intro hx
      rw [show pre++a::b::post=(pre++[a])++(b::post) by simp] at hnd
      exact (List.nodup_append.1 hnd).2.2 i hx i hm rfl
     ·rcases List.mem_cons.1 hm with rfl | hm
      ·exact Int.le_refl _
      ·exact hdn i hm
  refine ⟨vAt l a,vAt l b,hab,fun i hi=>?_,pre++[a],?_,by simp; omega,fun i=>⟨fun hi=>?_,fun ⟨hi,hv⟩=>?_⟩⟩
  ·rcases cases4 i hi with h | h
   ·exact .inl h.2
   ·exact .inr h.2
  ·have hnd:=hs.nd
   rw [h1,show pre++a::b::post=(pre++[a])++(b::post) by simp] at hnd
   exact (List.nodup_append.1 hnd).1
  ·have hi':i∈s:=by
    rw [h1,show pre++a::b::post=(pre++[a])++(b::post) by simp]
    exact List.mem_append_left _ hi
   refine ⟨hs.lt hi',?_⟩
   rcases cases4 i (hs.lt hi') with h | h
   ·exact h.2
   ·exact absurd hi h.1
  ·rcases cases4 i hi with h | h
   ·exact h.1
   ·omega
theorem sorted_empty (hu:UnitsOk l) (h1:One l) {o:Option (List GUnit)} (ho:o.getD []=l) (hl:l.length≤64) (hw:0 < worst1 l):f26 o (worst1 l) none=some true:=by
 obtain ⟨v,u,hvu,hc,top,t1,t2,t3⟩:=sorted_cut hw
 let col:Nat→Nat:=fun i=>if v≤vAt l i then 1 else 2
 have c12:∀ i,col i=1∨col i=2:=fun i=>by
  show (if v≤vAt l i then 1 else 2)=1∨(if v≤vAt l i then 1 else 2)=2
  split
  ·exact .inl rfl
  ·exact .inr rfl
 have c1:∀ i,col i=1↔v≤vAt l i:=fun i=>by
  show (if v≤vAt l i then 1 else 2)=1↔_
  split
  ·next h=>exact ⟨fun _=>h,fun _=>rfl⟩
  ·next h=>exact ⟨fun e=>absurd e (by decide),fun e=>absurd e h⟩
 obtain ⟨c',g1,g2⟩:=many_odd (below:=worst1 l) (col:=col) hu ho hl (fun i j hij hj _ _ hne=>by
  refine decide_eq_false ?_
  rw [dAt_one h1 (by omega) hj]
  have a1:=hc i (by omega)
  have a2:=hc j hj
  rcases c12 i with e1 | e1 <;> rcases c12 j with e2 | e2
  ·omega
  ·have b1:=(c1 i).1 e1
   have b2:¬ v≤vAt l j:=fun h=>by have:=(c1 j).2 h; omega
   omega
  ·have b1:=(c1 j).1 e2
   have b2:¬ v≤vAt l i:=fun h=>by have:=(c1 i).2 h; omega
   omega
  ·omega) (a2:=none) (set:=[]) rfl (by simp) (fun i hi=>⟨fun h=>by rcases c12 i with e | e <;> omega,fun h=>by simp at h⟩) 1
 have hp:pot l.length col [] 1=1:=by
  have hlen:(taken l.length col 1 []).length=(top.map fun (x:Nat)=>(x:Int)).length:=by
   refine len_same taken_nodup (List.Pairwise.map _ (fun a b h e=>h (by omega)) t1) fun x=>?_
   rw [taken_mem,List.mem_map]
   constructor
   ·rintro ⟨h1,h2,h3,_⟩
    exact ⟨x.toNat,(t3 _).2 ⟨by omega,(c1 _).1 h3⟩,by omega⟩
   ·rintro ⟨y,hy,rfl⟩
    obtain ⟨h1,h2⟩:=(t3 y).1 hy
    exact ⟨by omega,by omega,(c1 _).2 (by rw [Int.toNat_natCast]; exact h2),by simp⟩
  show 0 + (taken l.length col 1 []).length % 2=1
  rw [hlen,List.length_map]
  omega
 rw [hp] at g2
 rw [g1]
 have:(([]:List Int).length:Int) < c':=by
  rw [List.length_nil]
  omega
 rw [decide_eq_true this]
theorem sorted_best (hu:UnitsOk l) (h1:One l) (hl:l.length≤8) (h2:l.length % 2=0):(bestP l (l.length / 2) (allI l.length) []).2=worst1 l:=by
 have hup:=(best_below (l:=l) (below:=worst1 l + 1) h2 (by have:=worst1_nonneg (l:=l); omega)).2 (sorted_pm h1 h2)
 have h0:=(best_accepted hu h2).2.2.2.1
 by_cases hw:0 < worst1 l
 ·have hn:¬ (bestP l (l.length / 2) (allI l.length) []).2 < worst1 l:=by
   intro hlt
   have hpm:=(best_below h2 hw).1 hlt
   obtain ⟨m,hm,hn⟩:=(pmB_even (l.length / 2) (List.range l.length) (by rw [List.length_range]; omega) List.nodup_range).1 hpm
   have:=paired_none (o':=some l) (a2:=none) hu rfl (by omega) (pms_paired h2 hm hn) (by simp)
   rw [sorted_empty hu h1 rfl (by omega) hw] at this
   cases this
  omega
 ·have:=worst1_nonneg (l:=l)
  omega
theorem sorted_above (hu:UnitsOk l) (h1:One l) (hl:l.length≤8) (h2:l.length % 2=0) {o:Option (List GUnit)} (ho:o.getD []=l):∀ a2:Option (List Int),(a2.getD []).length≤64→f26 o (worst1 l + 1) a2=some false:=by
 obtain ⟨m,hm,hn⟩:=(pmB_even (l.length / 2) (List.range l.length) (by rw [List.length_range]; omega) List.nodup_range).1 (sorted_pm h1 h2)
 intro a2 ha
 exact paired_none hu ho (by omega) (pms_paired h2 hm hn) ha
end
section
variable {o:Option (List GUnit)} {below:Int}
theorem sets_none {n size:Nat} (hn:n≤64) (hz:size≤64) (h:∀ a2:Option (List Int),(a2.getD []).length≤64→f26 o below a2=some false):∀ (k m:Nat) (set:Option (List Int)) (frm:Nat),m < k→(set.getD []).length + m=size→frm≤65→f45 o below (n:Int) (size:Int) k set (frm:Int)=some none
 | 0,m,set,frm,hk,_,_=>by omega
 | k + 1,m,set,frm,hk,hm,hf=>by
  show F45 o below (n:Int) (size:Int) (f45 o below (n:Int) (size:Int) k) set (frm:Int)=some none
  unfold F45
  cases m with
  | zero=>
   have he:((set.getD []).length:Int)=(size:Int):=by omega
   have hc:=clO_of (a:=set) (by omega)
   simp only [he,decide_true,cond_true,hc,obind_at,h set (by omega),cond_false]
  | succ m=>
   have hne:¬ ((set.getD []).length:Int)=(size:Int):=by omega
   simp only [hne,decide_false,cond_false]
   have hrec:∀ (c:Option (List Int)) (i:Nat),(c.getD []).length=(set.getD []).length + 1→i≤65→f45 o below (n:Int) (size:Int) k c (i:Int)=some none:=fun c i hc hi=>sets_none hn hz h k m c i (by omega) (by omega) hi
   -- the loop's places are all at most n
   have key:∀ (j i:Nat),n≤i + j→i≤65→itO (s45 (f45 o below (n:Int) (size:Int) k) (n:Int) set) (i:Int)=some none:=by
    intro j
    induction j with
    | zero=>
     intro i hi _
     have:¬ (i:Int) < (n:Int):=by omega
     exact itO_out (by unfold s45; simp only [this,decide_false,cond_false])
    | succ j ih=>
     intro i hi hi2
     by_cases hlt:(i:Int) < (n:Int)
     ·have hw:wrapF .i64 ((i:Int) + 1)=((i + 1:Nat):Int):=wrap_nat (by omega)
      obtain ⟨s',e1,e2⟩:=grow_of (a:=set) (i:=(i:Int)) rfl (by omega)
      have hc:=clO_of (a:=set) (by omega)
      have hr:=hrec s' (i + 1) (by rw [e2,List.length_append]; rfl) (by omega)
      have step:s45 (f45 o below (n:Int) (size:Int) k) (n:Int) set (i:Int)=some (.inl ((i + 1:Nat):Int)):=by
       unfold s45
       simp only [hlt,decide_true,cond_true,hc,obind_at,e1,hw,hr]
      rw [itO_in step]
      exact ih (i + 1) (by omega) (by omega)
     ·exact itO_out (by unfold s45; simp only [hlt,decide_false,cond_false])
   exact key n frm (by omega) hf
theorem sizes_none {n:Nat} (ho:(o.getD []).length=n) (hn:n≤8) (h:∀ a2:Option (List Int),(a2.getD []).length≤64→f26 o below a2=some false):∀ (j i:Nat),i + j=n + 1→itO (s10 o below) (i:Int)=some (.inl ((n + 1:Nat):Int))
 | 0,i,hi=>by
  have hw1:wrapF .i64 ((n:Int) + 1)=((n + 1:Nat):Int):=wrap_nat (by omega)
  have:¬ (i:Int) < ((n + 1:Nat):Int):=by omega
  have hin:i=n + 1:=by omega
  subst hin
  exact itO_out (by unfold s10; simp only [ho,hw1,this,decide_false,cond_false])
 | j + 1,i,hi=>by
  have hw1:wrapF .i64 ((n:Int) + 1)=((n + 1:Nat):Int):=wrap_nat (by omega)
  have hlt:(i:Int) < ((n + 1:Nat):Int):=by omega
  have hw:wrapF .i64 ((i:Int) + 1)=((i + 1:Nat):Int):=wrap_nat (by omega)
  have hs:=sets_none (o:=o) (below:=below) (n:=n) (size:=i) (by omega) (by omega) h 12 i none 0 (by omega) (by simp) (by omega)
  rw [Int.natCast_zero] at hs
  have step:s10 o below (i:Int)=some (.inl ((i + 1:Nat):Int)):=by
   unfold s10
   simp only [ho,hw1,hlt,decide_true,cond_true,hs,obind_at,hw]
  rw [itO_in step]
  exact sizes_none ho hn h j (i + 1) (by omega)
theorem prove_none {l:List GUnit} (ho:o.getD []=l) (e22:E4 o=some 0) (hn:l.length≤8) (hb:1≤below∧below≤200001) (h:∀ a2:Option (List Int),(a2.getD []).length≤64→f26 o below a2=some false):f10 o below=some (none,7):=by
 have e1:=sizes_none (o:=o) (below:=below) (n:=l.length) (by rw [ho]) hn h (l.length + 1) 0 (by omega)
 rw [Int.natCast_zero] at e1
 have hc:checkRange below 1 200001=0:=by
  unfold checkRange
  rw [if_neg (by omega),if_neg (by omega)]
 have h8:¬ (8:Int) < (l.length:Int):=by omega
 have hf:firstNZ [0,whenE false 23,checkRange below 1 200001]=0:=by rw [hc]; rfl
 unfold f10 f24
 simp only [e22,obind_at,ho,E58,E49,E12_3,h8,decide_false,hf,decide_true,cond_true,e1]
theorem prove_empty {l:List GUnit} (ho:o.getD []=l) (e22:E4 o=some 0) (hn:l.length≤8) (hb:1≤below∧below≤200001) (h:f26 o below none=some true):f10 o below=some (none,0):=by
 have hc:checkRange below 1 200001=0:=by
  unfold checkRange
  rw [if_neg (by omega),if_neg (by omega)]
 have h8:¬ (8:Int) < (l.length:Int):=by omega
 have hf:firstNZ [0,whenE false 23,checkRange below 1 200001]=0:=by rw [hc]; rfl
 have hs:f45 o below (l.length:Int) 0 12 none 0=some (some none):=by
  show F45 o below (l.length:Int) 0 (f45 o below (l.length:Int) 0 11) none 0=some (some none)
  unfold F45
  have hc:=clO_of (a:=(none:Option (List Int))) (by simp)
  have h0:(((none:Option (List Int)).getD []).length:Int)=0:=rfl
  simp only [h0,decide_true,cond_true,hc,obind_at,h]
 have hw1:wrapF .i64 ((l.length:Int) + 1)=((l.length + 1:Nat):Int):=wrap_nat (by omega)
 have hlt:(0:Int) < ((l.length + 1:Nat):Int):=by omega
 have e1:itO (s10 o below) 0=some (.inr (0,none)):=by
  refine itO_out ?_
  unfold s10
  simp only [ho,hw1,hlt,decide_true,cond_true,hs,obind_at]
 unfold f10 f24
 simp only [e22,obind_at,ho,E58,E49,E12_3,h8,decide_false,hf,decide_true,cond_true,e1]
end
end Go.Z
/-
 TopConeSorted: its law holds of the function that mirrors the run.
-/
namespace Go.Z
open Go Go.Abs
theorem unit_serial3 {u:GUnit} (h:unitE u=0):u.serial.length≤24:=by
 have h1:=whenE_zero (by decide) (firstNZ_zero h _ (List.mem_cons_self ..))
 simp only [isName,Bool.not_eq_false',Bool.and_eq_true,decide_eq_true_eq] at h1
 exact h1.1.2
theorem validU {o:Option (List GUnit)} {x:List GUnit} (ho:o.getD []=x) (hE:unitsE x=0) (h8:x.length≤64):E4 o=some 0:=by
 have hu:=units_ok hE
 unfold E4
 have hsz:∀ u∈x,sizeU u:=fun u hm=>by
  have h1:=(hu.ok u hm).len
  have h2:=unit_serial3 (units_each hE u hm).1
  exact ⟨by omega,by omega⟩
 rw [ho,exO_of ⟨by omega,hsz⟩,hE]
theorem ap_nil1 {α:Type} (ys:List α) (h:ys.length≤1073741824):apO (some []) ys=some (some ys):=by
 unfold apO apS
 simp [h]
theorem grow_any {α:Type} {a:Option (List α)} {x:List α} {y:α} (h:a.getD []=x) (hs:x.length≤1000):∃ s',apO a [y]=some s'∧s'.getD []=x++[y]:=by
 cases a with
 | none=>
  have:x=[]:=h.symm
  subst this
  exact ⟨some [y],rfl,rfl⟩
 | some z=>
  have:z=x:=h
  subst this
  exact ⟨some (z++[y]),ap_one z y (by omega),rfl⟩
theorem own_app {α β:Type} {f:Bool} {a s':Option (List α)} {y:α} {F:Option (List α)→Option β} (h:f=true∨a=none) (e:apO a [y]=some s'):cond f (obind (apO a [y]) F) (cond a.isNone (obind (apO a [y]) F) none)=F s':=by
 rcases h with rfl | rfl
 ·rw [cond_true,e,obind_at]
 ·rw [e]
  cases f <;> rfl
def raise1 (k:Int) (u:GUnit):GUnit:=⟨u.serial,some [val1 u + k]⟩
def Ok1 (u:GUnit):Prop:=u.values.getD []=[val1 u]∧-90000≤val1 u∧val1 u≤90000
theorem take_map {α β:Type} {l:List α} {i:Nat} (hi:i < l.length) (f:α→β):(l.take (i + 1)).map f=(l.take i).map f++[f l[i]]:=by
 rw [List.take_succ_eq_append_getElem hi,List.map_append]; rfl
def Good30 (l:List GUnit) (k:Int):(Bool × (List UInt8) × (Option (List Int))) ⊕ ((Option (List GUnit)) × Bool × (Option (List GUnit)) × Bool × (Option (List Int)) × Bool × Int)→Prop
 | .inl x=>x.1=true
 | .inr y=>(∀ u∈l,Ok1 u)∧y.1.getD []=l.map ownU∧y.2.2.1.getD []=l.map (raise1 k)∧y.2.2.2.2.1.getD []=l.map val1
theorem loop30 {a0:Option (List GUnit)} {a1:Int} {l:List GUnit} (hl:a0.getD []=l) (h8:l.length≤8) (ha:0≤a1∧a1≤255):∀ (k i:Nat) (x y:Option (List GUnit)) (z:Option (List Int)) (fx fy fz:Bool),i + k=l.length→(∀ u∈l.take i,Ok1 u)→x.getD []=(l.take i).map ownU→y.getD []=(l.take i).map (raise1 a1)→z.getD []=(l.take i).map val1 →
  (fx=true∨x=none)→(fy=true∨y=none)→(fz=true∨z=none)→∃ d,itO (s3_0 a0 a1) (x,y,z,(i:Int),fx,fy,fz)=some d∧Good30 l a1 d
 | 0,i,x,y,z,fx,fy,fz,hi,hok,hx,hy,hz,_,_,_=>by
  have:¬ (i:Int) < (l.length:Int):=by omega
  have ht:l.take i=l:=List.take_of_length_le (by omega)
  rw [ht] at hok hx hy hz
  exact ⟨.inr (x,fx,y,fy,z,fz,(i:Int)),itO_out (by unfold s3_0; simp only [hl,this,decide_false,cond_false]),hok,hx,hy,hz⟩
 | k + 1,i,x,y,z,fx,fy,fz,hi,hok,hx,hy,hz,gx,gy,gz=>by
  have hil:i < l.length:=by omega
  have hlt:(i:Int) < (l.length:Int):=by omega
  have hix:idxO l (i:Int)=some l[i]:=by rw [idxO_nat,List.getElem?_eq_getElem hil]
  have hw:wrapF .i64 ((i:Int) + 1)=((i + 1:Nat):Int):=wrap_nat (by omega)
  by_cases h1:(((l[i].values.getD []).length:Int)=1)
  ·obtain ⟨v,hv⟩:∃ v,l[i].values.getD []=[v]:=List.length_eq_one_iff.1 (show (l[i].values.getD []).length=1 by omega)
   have hi0:idxO [v] 0=some v:=rfl
   have hval:val1 l[i]=v:=by unfold val1; rw [hv]; rfl
   have h11:(([v].length:Nat):Int)=1:=rfl
   by_cases hb:90000 < v
   ·refine ⟨.inl (true,l[i].serial,l[i].values),?_,rfl⟩
    refine itO_out ?_
    unfold s3_0
    simp only [hl,hlt,decide_true,cond_true,hix,obind_at,hv,h11,hi0,hb,E5]
   ·by_cases hc:v < -90000
    ·refine ⟨.inl (true,l[i].serial,l[i].values),?_,rfl⟩
     refine itO_out ?_
     unfold s3_0
     simp only [hl,hlt,decide_true,cond_true,hix,obind_at,hv,h11,hi0,hb,decide_false,cond_false,hc,E5]
    ·have e96:apO (some []) [v]=some (some [v]):=ap_nil1 [v] (by simp)
     have hwa:wrapF .i64 a1=a1:=wrapF_i64 (by omega) (by omega)
     have hwv:wrapF .i64 (v + a1)=v + a1:=wrapF_i64 (by omega) (by omega)
     have lt:=List.length_take_le i l
     obtain ⟨x',ex,gx'⟩:=grow_any (a:=x) (y:=(⟨l[i].serial,some [v]⟩:GUnit)) rfl (by rw [hx,List.length_map]; omega)
     obtain ⟨y',ey,gy'⟩:=grow_any (a:=y) (y:=(⟨l[i].serial,some [v + a1]⟩:GUnit)) rfl (by rw [hy,List.length_map]; omega)
     obtain ⟨z',ez,gz'⟩:=grow_any (a:=z) (y:=v) rfl (by rw [hz,List.length_map]; omega)
     have step:s3_0 a0 a1 (x,y,z,(i:Int),fx,fy,fz)=some (.inl (x',y',z',((i + 1:Nat):Int),true,true,true)):=by
      unfold s3_0
      simp only [hl,hlt,decide_true,cond_true,hix,obind_at,hv,h11,hi0,hb,decide_false,cond_false,hc,e96,hwa,hwv]
      rw [own_app gx ex,own_app gy ey,own_app gz ez,hw]
     rw [itO_in step]
     refine loop30 hl h8 ha k (i + 1) x' y' z' true true true (by omega) (fun u hu=>?_) ?_ ?_ ?_ (.inl rfl) (.inl rfl) (.inl rfl)
     ·rw [List.take_succ_eq_append_getElem hil] at hu
      rcases List.mem_append.1 hu with hu | hu
      ·exact hok u hu
      ·obtain rfl:u=l[i]:=by simpa using hu
       exact ⟨by rw [hval,hv],by omega,by omega⟩
     ·rw [gx',take_map hil,hx]
      unfold ownU ownI
      rw [hv]
     ·rw [gy',take_map hil,hy]
      unfold raise1
      rw [hval]
     ·rw [gz',take_map hil,hz,hval]
  ·refine ⟨.inl (true,l[i].serial,l[i].values),?_,rfl⟩
   refine itO_out ?_
   unfold s3_0
   simp only [hl,hlt,decide_true,cond_true,hix,obind_at,h1,decide_false,cond_false,E5]
theorem loop31 {d:(Option (List GUnit)) × Bool × (Option (List GUnit)) × Bool × (Option (List Int)) × Bool × Int} {r:List Int} (h8:r.length≤8) (hb:∀ x∈r,-100000≤x∧x≤100000):∀ (k i:Nat) (w:Int),r.length≤i + 2 * k→i≤10→∃ j,itO (s3_1 d (some r)) (w,(i:Int))=some (gapW (r.drop i) w,j)
 | 0,i,w,hi,h10=>by
  have hw:wrapF .i64 ((i:Int) + 1)=((i + 1:Nat):Int):=wrap_nat (by omega)
  have:¬ ((i + 1:Nat):Int) < (r.length:Int):=by omega
  have hd:r.drop i=[]:=List.drop_eq_nil_of_le (by omega)
  refine ⟨(i:Int),itO_out ?_⟩
  unfold s3_1
  rw [hd]
  simp only [Option.getD_some,hw,this,decide_false,cond_false]
  rfl
 | k + 1,i,w,hi,h10=>by
  have hw:wrapF .i64 ((i:Int) + 1)=((i + 1:Nat):Int):=wrap_nat (by omega)
  have hw2:wrapF .i64 ((i:Int) + 2)=((i + 2:Nat):Int):=by rw [wrapF_i64 (by omega) (by omega)]; omega
  by_cases hlt:((i + 1:Nat):Int) < (r.length:Int)
  ·have i0:idxO r (i:Int)=some (r[i]'(by omega)):=by rw [idxO_nat,List.getElem?_eq_getElem (by omega)]
   have i1:idxO r ((i + 1:Nat):Int)=some (r[i + 1]'(by omega)):=by rw [idxO_nat,List.getElem?_eq_getElem (by omega)]
   have b0:=hb _ (List.getElem_mem (l:=r) (n:=i) (by omega))
   have b1:=hb _ (List.getElem_mem (l:=r) (n:=i + 1) (by omega))
   have hws:wrapF .i64 (r[i]'(by omega) - r[i + 1]'(by omega))=r[i]'(by omega) - r[i + 1]'(by omega):=wrapF_i64 (by omega) (by omega)
   obtain ⟨j,hj⟩:=loop31 h8 hb k (i + 2) (max w (r[i]'(by omega) - r[i + 1]'(by omega))) (by omega) (by omega)
   have step:s3_1 d (some r) (w,(i:Int))=some (.inl (max w (r[i]'(by omega) - r[i + 1]'(by omega)),((i + 2:Nat):Int))):=by
    unfold s3_1
    simp only [Option.getD_some,hw,hlt,decide_true,cond_true,i0,i1,obind_at,hws,hw2]
   refine ⟨j,?_⟩
   rw [itO_in step,hj,List.drop_eq_getElem_cons (show i < r.length by omega),List.drop_eq_getElem_cons (show i + 1 < r.length by omega)]
   rfl
  ·refine ⟨(i:Int),itO_out ?_⟩
   have hd:gapW (r.drop i) w=w:=by
    rcases hc:r.drop i with _ | ⟨a,_ | ⟨b,t⟩⟩
    ·rfl
    ·rfl
    ·have:=congrArg List.length hc
     rw [List.length_drop] at this
     simp only [List.length_cons] at this
     omega
   unfold s3_1
   rw [hd]
   simp only [Option.getD_some,hw,hlt,decide_false,cond_false]
theorem stepD_shift (k:Int):∀ s v w,stepD s (v + k,w + k)=stepD s (v,w):=by
 intro s v w
 unfold stepD
 simp only []
 omega
theorem pairsE_zero {x:List GUnit} (hE:unitsE x=0) (h8:x.length≤8) (h2:x.length % 2=0):pairsE x=0:=by
 have e1:((x.length:Int).tmod 2)=0:=by rw [Int.tmod_eq_emod_of_nonneg (by omega)]; omega
 have e2:¬ (8:Int) < (x.length:Int):=by omega
 unfold pairsE
 rw [hE,e1]
 simp only [e2,decide_true,decide_false,Bool.not_true]
 rfl
theorem shape_zero {n p:Nat} (h:n=2 * p):shapeE (n:Int) (p:Int)=0:=by
 have e1:((n:Int).tmod 2)=0:=by rw [Int.tmod_eq_emod_of_nonneg (by omega)]; omega
 have e2:2 * (p:Int)=(n:Int):=by omega
 unfold shapeE
 rw [e1,e2]
 simp only [decide_true,Bool.not_true]
 rfl
set_option maxHeartbeats 2000000 in
theorem sorted_main {a0:Option (List GUnit)} {a1:Int} {l:List GUnit} (hl:a0.getD []=l) (h8:l.length≤8) (h2:l.length % 2=0) (hE:unitsE l=0) (ha:0≤a1∧a1≤255):j3_1 a0 a1 false=some true:=by
 obtain ⟨d,ed,gd⟩:=loop30 hl h8 ha l.length 0 none none none false false false (by omega) (by simp) rfl rfl rfl (.inr rfl) (.inr rfl) (.inr rfl)
 rw [Int.natCast_zero] at ed
 unfold j3_1
 simp only [cond_false,ed,obind_at]
 cases d with
 | inl x=>
  have:x.1=true:=gd
  simp only [this]
 | inr y=>
  obtain ⟨hok,hx,hy,hz⟩:=gd
  -- the lists
  have hone:One l:=fun u hu=>by obtain ⟨q1,q2,q3⟩:=hok u hu; exact ⟨q1,by omega,by omega⟩
  have hu:=units_ok hE
  have hol:(l.map ownU).length=l.length:=List.length_map ..
  have hEx:unitsE (l.map ownU)=0:=by rw [unitsE_own]; exact hE
  have hval:∀ u:GUnit,val1 (ownU u)=val1 u:=fun u=>rfl
  have honex:One (l.map ownU):=fun u hu=>by
   obtain ⟨w,hw,rfl⟩:=List.mem_map.1 hu
   exact hone w hw
  have hvx:(l.map ownU).map val1=l.map val1:=by rw [List.map_map]; rfl
  have hW:worst1 (l.map ownU)=worst1 l:=by unfold worst1; rw [hvx]
  have hux:=units_ok hEx
  have hry:l.map (raise1 a1)=l.map (mapU fun v=>v + a1):=List.map_congr_left fun u hu=>by
   unfold raise1 mapU
   rw [(hok u hu).1]; rfl
  have hly:(l.map (raise1 a1)).length=l.length:=List.length_map ..
  have hEy:unitsE (l.map (raise1 a1))=0:=by
   rw [hry]
   refine mapU_units hE fun u hu v hv=>?_
   obtain ⟨q1,q2,q3⟩:=hok u hu
   rw [q1] at hv
   obtain rfl:v=val1 u:=by simpa using hv
   omega
  have hdy:∀ i j,dAt (l.map (raise1 a1)) i j=dAt l i j:=fun i j=>by rw [hry]; exact dAt_map (stepD_shift a1) l i j
  have hby:=fun m left p=>bestP_dAt hdy m left p
  have hbx:=fun m left p=>bestP_own l m left p
  have hwst:∀ p:List GPair,worstP (l.map (raise1 a1)) p=worstP l p:=fun p=>by
   unfold worstP
   have:(fun (s:Int) (q:GPair)=>max s (dAt (l.map (raise1 a1)) q.a q.b))=fun s q=>max s (dAt l q.a q.b):=by funext s q; rw [hdy]
   rw [this]
  -- what the calls give
  have ex:=validU hx hEx (by omega)
  have ey:=validU hy hEy (by omega)
  have hbest:=sorted_best hu hone h8 h2
  obtain ⟨a1',a2',a3',a4',a5'⟩:=best_accepted hu h2
  obtain ⟨q7,w7,c1,c2,c3⟩:∃ b w,f7 y.1=some (b,w,0)∧b.getD []=(bestP l (l.length / 2) (allI l.length) []).1∧w=worst1 l:=by
   have:=f7_eq hx (by omega) (by rw [ex,hEx])
   rw [if_pos (pairsE_zero hEx (by omega) (by omega)),hol] at this
   obtain ⟨b,w,h1,h3,h4⟩:=this
   exact ⟨b,w,h1,by rw [h3,hbx],by rw [h4,hbx,hbest]⟩
  obtain ⟨r7,v7,d1,d2,d3⟩:∃ b w,f7 y.2.2.1=some (b,w,0)∧b.getD []=(bestP l (l.length / 2) (allI l.length) []).1∧w=worst1 l:=by
   have:=f7_eq hy (by omega) (by rw [ey,hEy])
   rw [if_pos (pairsE_zero hEy (by omega) (by omega)),hly] at this
   obtain ⟨b,w,h1,h3,h4⟩:=this
   exact ⟨b,w,h1,by rw [h3,hby],by rw [h4,hby,hbest]⟩
  have e169:apO (some []) (q7.getD [])=some (some (q7.getD [])):=ap_nil1 _ (by rw [c2,a2']; omega)
  have e8:f8 y.2.2.1 (some (q7.getD []))=some (worst1 l,0):=by
   have hq:(q7.getD []).length≤100:=by rw [c2,a2']; omega
   rw [f8_eq hy (op:=some (q7.getD [])) (p:=q7.getD []) rfl hq (by rw [ey,hEy]),hEy,if_pos rfl,hly,c2,a2',shape_zero (show l.length=2 * (l.length / 2) by omega),if_pos rfl,if_pos a1',hwst,← a3',hbest]
  have e9:f9 q7 r7=some true:=f9_same c2 d2 (by rw [a2']; omega)
  have hvl:(l.map val1).length=l.length:=List.length_map ..
  have e6:=f6_eq (o:=y.2.2.2.2.1) (by rw [hz,hvl]; omega)
  rw [hz] at e6
  have hsl:(sortTo (l.map val1) (l.map val1).length).length≤8:=by rw [sortTo_len,hvl]; exact h8
  obtain ⟨j,e31⟩:=loop31 (d:=y) (r:=sortTo (l.map val1) (l.map val1).length) hsl (fun x hx=>by
   have:=(sortTo_perm (l.map val1) _ (Nat.le_refl _)).subset hx
   obtain ⟨u,hu,rfl⟩:=List.mem_map.1 this
   obtain ⟨q1,q2,q3⟩:=hok u hu
   omega) 4 0 0 (by omega) (by omega)
  rw [Int.natCast_zero,List.drop_zero] at e31
  rw [show gapW (sortTo (l.map val1) (l.map val1).length) 0=worst1 l from rfl] at e31
  simp only [e6,obind_at,e31,c1,d1,e169,e8,c3,d3,decide_true,cond_true,e9,Bool.not_true]
  unfold j3_11
  simp only [cond_false]
  unfold j3_12
  by_cases hw0:worst1 l=0
  ·simp only [hw0,decide_true,cond_true,E5,obind_at]
  ·have hw:=worst1_nonneg (l:=l)
   have hb1:1≤worst1 l∧worst1 l≤200001:=by omega
   have hb2:1≤worst1 l + 1∧worst1 l + 1≤200001:=by omega
   have hwr:wrapF .i64 (worst1 l + 1)=worst1 l + 1:=wrapF_i64 (by omega) (by omega)
   have hemp:f26 y.1 (worst1 l) none=some true:=by
    have:=sorted_empty hux honex hx (by omega) (by rw [hW]; omega)
    rwa [hW] at this
   have hab:=sorted_above hux honex (by omega) (by omega) hx
   rw [hW] at hab
   have p1:=prove_empty hx ex (by omega) hb1 hemp
   have p2:=prove_none hx ex (by omega) hb2 hab
   have p3:=f11_set hx ex (by omega) hb1 (a2:=none) ⟨List.Pairwise.nil,by simp⟩ hemp
   have hl0:(((none:Option (List Int)).getD []).length:Int)=0:=rfl
   simp only [hw0,decide_false,cond_false,p1,p2,p3,hwr,obind_at,decide_true,cond_true,hl0,if_true,E5]
theorem sorted_true (a0:Option (List GUnit)) (a1:Int) (hs:∀ u∈a0.getD [],sizeW u) (ha:0≤a1∧a1≤255):f3 a0 a1=some true:=by
 have ht:j3_1 a0 a1 true=some true:=by unfold j3_1; rfl
 unfold f3
 by_cases h8:(8:Int) < ((a0.getD []).length:Int)
 ·simp only [h8,decide_true,cond_true,ht]
 ·have hrem:remO ((a0.getD []).length:Int) 2=some (((a0.getD []).length:Int).tmod 2):=by unfold remO; rw [if_neg (by decide)]
  simp only [h8,decide_false,cond_false,hrem,obind_at]
  by_cases h2:((a0.getD []).length:Int).tmod 2=0
  ·have e4:E4w a0=some (unitsE (a0.getD [])):=exO_of ⟨by omega,hs⟩
   simp only [h2,decide_true,cond_true,e4,obind_at]
   by_cases hE:unitsE (a0.getD [])=0
   ·simp only [hE,decide_true,Bool.not_true]
    refine sorted_main rfl (by omega) ?_ hE ha
    rw [Int.tmod_eq_emod_of_nonneg (by omega)] at h2
    omega
   ·simp only [hE,decide_false,Bool.not_false,ht]
  ·simp only [h2,decide_false,cond_false,ht]
theorem I3 (a0:Option (List GUnit)) (a1:Int) (hs:∀ u∈a0.getD [],sizeW u) (ha:0≤a1∧a1≤255):callIso pr (X pr) 3 [sl 2 vunit a0,.int .u8 a1]=some (.bool true,false):=W3 (sorted_true a0 a1 hs ha)
end Go.Z
