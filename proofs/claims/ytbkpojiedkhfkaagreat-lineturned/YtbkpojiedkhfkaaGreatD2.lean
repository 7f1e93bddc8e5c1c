/-
  The program with Draw's contract; the contracts of LineLoads' functions in it.
-/
import Derived.Test.YtbkpojiedkhfkaaGreatD1
import Derived.Test.YtbkpojiedkhfkaaGreatB1
set_option linter.unusedVariables false
set_option linter.unusedSimpArgs false
set_option maxRecDepth 100000
namespace Go.Z
open Go Go.Abs Go.Proofs
noncomputable def drawT:List AVal→Option (AVal × Bool)
 | [.int .i64 a,.int .i64 n]=>if n=0 then some (sl 1 vint none,false) else (f55 a n).map fun r=>(sl 1 vint (some r),false)
 | _=>none
noncomputable def moreL:Prims:=fun k=>bif Nat.beq k 55 then some drawT else none
theorem drawT_ok {args:List AVal} {v:AVal} {o:Bool} (h:drawT args=some (v,o)) (hb:belowL 0 args=true):IsoCall Tryz.prog 55 args v o:=by
 unfold drawT at h
 split at h
 ·rename_i a n
  split at h
  ·rename_i hn
   cases h
   subst hn
   exact callX_ok okPr W55z hb
  ·simp only [Option.map_eq_some_iff,Prod.mk.injEq] at h
   obtain ⟨r,h1,rfl,rfl⟩:=h
   exact W55 h1
 ·cases h
noncomputable def E55 (a n:Int):Option (Option (List Int)):=if n=0 then some none else (f55 a n).map some
end Go.Z
/-
 LineLoads: what is drawn is a permutation.
-/
namespace Go.Z
open Go Go.Abs
def upto (n:Nat):List Int:=(List.range n).map fun (i:Nat)=>(i:Int)
theorem upto_len (n:Nat):(upto n).length=n:=by simp [upto]
theorem drawA (a:Int) (n:Nat) (h1:1≤n) (h8:n≤100):itO (s55_0 a (n:Int)) (none,0,false)=some (some (upto n),true,(n:Int)):=by
 have hlen:(List.range n).length=n:=List.length_range
 have key:=itO_list (δ:=Option (List Int) × Bool × Int) (ε:=Empty) (List.range n) (s55_0 a (n:Int)) (fun i (s:List Int)=>(nonNil s,(i:Int),accO s)) (fun _ s t=>.inl (s++[(t:Int)])) (fun s=>(nonNil s,accO s,(n:Int))) (fun d=>nomatch d) (fun i s=>s.length≤i) [] ?_ ?_ (Nat.le_refl _)
 ·have hr:runL (δ:=Empty) (fun _ (s:List Int) (t:Nat)=>.inl (s++[(t:Int)])) 0 [] (List.range n)=.inl (upto n):=by
   rw [show (fun (_:Nat) (s:List Int) (t:Nat)=>(Sum.inl (s++[(t:Int)]):List Int ⊕ Empty))=fun _ s t=>.inl ((fun (s:List Int) (t:Nat)=>s++[(t:Int)]) s t) from rfl,runL_fold]
   congr 1
   have:∀ (l:List Nat) (s:List Int),l.foldl (fun (s:List Int) (t:Nat)=>s++[(t:Int)]) s=s++l.map fun (i:Nat)=>(i:Int):=by
    intro l
    induction l with
    | nil=>intro s; simp
    | cons t l ih=>intro s; rw [List.foldl_cons,ih]; simp
   exact this _ _
  rw [hr,Int.natCast_zero] at key
  obtain ⟨m,rfl⟩:∃ m,n=m + 1:=⟨n - 1,by omega⟩
  have hne:∃ x t,upto (m + 1)=x::t:=by
   cases hc:upto (m + 1) with
   | nil=>have:=upto_len (m + 1); rw [hc] at this; simp at this
   | cons x t=>exact ⟨x,t,rfl⟩
  obtain ⟨x,t,ht⟩:=hne
  rw [ht] at key ⊢
  exact key
 ·intro s _
  rw [hlen]
  unfold s55_0
  simp
 ·intro i s t ht hi hs
  obtain ⟨rfl,hi'⟩:=range_atN ht
  have hlt:(t:Int) < (n:Int):=by omega
  have hw:wrapF .i64 ((t:Int) + 1)=((t + 1:Nat):Int):=wrap_nat (by omega)
  refine ⟨by rw [List.length_append,List.length_singleton]; omega,?_⟩
  unfold s55_0
  simp only [hlt,decide_true,cond_true,hw]
  cases s with
  | nil=>rfl
  | cons y s=>
   have:apO (some (y::s)) [(t:Int)]=some (some ((y::s)++[(t:Int)])):=ap_one _ _ (by omega)
   simp only [nonNil,accO,List.isEmpty_cons,Bool.not_false,cond_true,this,obind_at]
   rfl
theorem set_perm2 {e:List Int} {i j:Nat} (hi:i < e.length) (hj:j < e.length):((e.set i e[j]).set j e[i]).Perm e:=List.set_set_perm hi hj
theorem drawB (m:Nat) (hm:m≤100):∀ (i:Nat) (x:Int) (e:List Int),0≤x→x≤2147483647→i < m→e.length=m→∃ d,itO (s55_0b m) (x,(i:Int),e)=some d∧d.2.2.length=m∧d.2.2.Perm e
 | 0,x,e,h0,hx,hi,he=>by
  refine ⟨(x,0,e),itO_out (by unfold s55_0b; simp),he,List.Perm.refl _⟩
 | i + 1,x,e,h0,hx,hi,he=>by
  have hlt:(0:Int) < ((i + 1:Nat):Int):=by omega
  have w1:wrapF .i64 (630360016 * x)=630360016 * x:=wrapF_i64 (by omega) (by omega)
  have w2:wrapF .i64 (((i + 1:Nat):Int) + 1)=((i + 2:Nat):Int):=by rw [wrapF_i64 (by omega) (by omega)]; omega
  have w3:wrapF .i64 (((i + 1:Nat):Int) - 1)=(i:Int):=by rw [wrapF_i64 (by omega) (by omega)]; omega
  obtain ⟨v,hv,hv0,hv1⟩:∃ v,remO (630360016 * x) 2147483647=some v∧0≤v∧v≤2147483647:=by
   refine ⟨(630360016 * x).tmod 2147483647,by unfold remO; rw [if_neg (by omega)],?_,?_⟩
   ·exact Int.tmod_nonneg _ (by omega)
   ·have:=Int.tmod_lt_of_pos (630360016 * x) (show (0:Int) < 2147483647 by omega); omega
  obtain ⟨j,hj,hj2⟩:∃ j:Nat,remO v ((i + 2:Nat):Int)=some (j:Int)∧j≤i + 1:=by
   obtain ⟨u,rfl⟩:∃ u:Nat,v=(u:Int):=⟨v.toNat,by omega⟩
   refine ⟨u % (i + 2),by unfold remO; rw [if_neg (by omega)]; rfl,?_⟩
   have:=Nat.mod_lt u (show 0 < i + 2 by omega); omega
  have i1:idxM m e (j:Int)=some e[j]:=by rw [idxM_at (by omega)]; simp [show j < e.length by omega]
  have i2:idxM m e ((i + 1:Nat):Int)=some e[i + 1]:=by rw [idxM_at (by omega)]; simp [show i + 1 < e.length by omega]
  have i3:∃ y,idxM m (e.set (i + 1) e[j]) (j:Int)=some y:=by
   rw [idxM_at (by omega)]
   exact ⟨_,List.getElem?_eq_getElem (by rw [List.length_set]; omega)⟩
  obtain ⟨y,i3⟩:=i3
  have hs:s55_0b m (x,((i + 1:Nat):Int),e)=some (.inl (v,(i:Int),(e.set (i + 1) e[j]).set j e[i + 1])):=by
   unfold s55_0b
   simp only [hlt,decide_true,cond_true,w1,hv,obind_at,w2,hj,i1,i2,Int.toNat_natCast,i3,w3]
  rw [itO_in hs]
  obtain ⟨d,d1,d2,d3⟩:=drawB m hm i v ((e.set (i + 1) e[j]).set j e[i + 1]) hv0 hv1 (by omega) (by rw [List.length_set,List.length_set]; exact he)
  exact ⟨d,d1,d2,d3.trans (set_perm2 (by omega) (by omega))⟩
theorem draw_perm {a:Int} {n:Nat} (ha:0≤a) (ha2:a≤2147483647) (h1:1≤n) (h8:n≤100):∃ r:List Int,f55 a (n:Int)=some r∧r.Perm (upto n):=by
 obtain ⟨m,rfl⟩:∃ m,n=m + 1:=⟨n - 1,by omega⟩
 have w3:wrapF .i64 (((m + 1:Nat):Int) - 1)=(m:Int):=by rw [wrapF_i64 (by omega) (by omega)]; omega
 obtain ⟨d,d1,d2,d3⟩:=drawB (m + 1) (by omega) m a (upto (m + 1)) ha ha2 (by omega) (upto_len _)
 refine ⟨d.2.2,?_,d3⟩
 unfold f55
 simp only [drawA a (m + 1) h1 h8,obind_at,w3,upto_len,d1]
 unfold takeM
 rw [if_pos (by omega),← d2,List.take_length]
end Go.Z
