/-
  The checks of units and masks: their runs.
-/
import Derived.Test.YtoljkienfmckjaaGreatDoorL4
set_option linter.unusedVariables false
set_option linter.unusedSimpArgs false
set_option maxRecDepth 100000
namespace Go.Z
open Go Go.Abs
@[go_sem] theorem afterShared_same {h:Heap} {v:AVal}:afterShared h.length v h=h:=by
 unfold afterShared; rw [Nat.ble_eq_true_of_le (Nat.le_refl _)]; rfl
@[go_sem] theorem afterShared_nil {v:AVal}:afterShared 0 v []=[]:=rfl
theorem I46_2 (a b:Int):callIso pr (X pr) 46 [.list false 1 [.int .i64 a,.int .i64 b]]=some (.int .i64 (firstNZ [a,b]),false):=I46c [a,b] (by simp)
theorem I46_4 (a b c d:Int):callIso pr (X pr) 46 [.list false 1 [.int .i64 a,.int .i64 b,.int .i64 c,.int .i64 d]]=some (.int .i64 (firstNZ [a,b,c,d]),false):=I46c [a,b,c,d] (by simp)
theorem I51_3 (a b c:Int):callIso pr (X pr) 51 [.list false 1 [.int .i64 a,.int .i64 b,.int .i64 c]]=some (.int .i64 (firstNZ [a,b,c]),false):=I51 [a,b,c] (by simp)
def unitA (u:GUnit):Int:=firstNZ [whenE (!isName u.serial) 8,whenE (decide (((u.values.getD []).length:Int)=0)) 12,whenE (decide ((16:Int) < ((u.values.getD []).length:Int))) 5]
def unitE (u:GUnit):Int:=firstNZ [whenE (!isName u.serial) 8,whenE (decide (((u.values.getD []).length:Int)=0)) 12,whenE (decide ((16:Int) < ((u.values.getD []).length:Int))) 5,checkEach (-100000) 100000 (u.values.getD [])]
theorem unitE_eq (u:GUnit):unitE u=if unitA u=0 then checkEach (-100000) 100000 (u.values.getD []) else unitA u:=by
 simp only [unitE,unitA,firstNZ]
 split <;> try split <;> try split <;> try split <;> simp_all
 all_goals (try split) <;> simp_all
def sizeU (u:GUnit):Prop:=u.serial.length≤1073741824∧(u.values.getD []).length≤1073741824
def sizeW (u:GUnit):Prop:=u.serial.length≤9223372036854775807∧(u.values.getD []).length≤9223372036854775807
theorem I47w (u:GUnit) (hu:sizeW u):callIso pr (X pr) 47 [.agg [.str u.serial,sl 1 vint u.values]]=some (.int .i64 (unitE u),false):=by
 have:∃ hh,callFn pr (X pr) 47 [.agg [.str u.serial,sl 1 vint u.values]] []=some (.int .i64 (unitE u),false,hh):=by
  rw [callFn_at (show pr.fns 47=some c47 from rfl) (by simp)]
  simp only [go_sem,seval,c47,I93 _ hu.1,I48,I94 _ _ _ hu.2,I46_4]
  exact ⟨_,rfl⟩
 obtain ⟨hh,this⟩:=this
 exact callIso_of rfl this rfl rfl
theorem l100 (o:Option (List Int)) (hn:(o.getD []).length≤1073741824):
  X pr (.loop c100_0) ⟨[(1,.fn (.func 98) [] [],false),(5,.list true 0 [],false),(8,sl 1 vint o,false),(9,.int .i64 ((o.getD []).length:Int),false),(10,.int .i64 0,false)],[]⟩ =
   some (.exit 0,⟨[(1,.fn (.func 98) [] [],false),(5,acc 1 vint ((o.getD []).map fun n=>checkRange n (-100000) 100000),accO (o.getD [])),(8,sl 1 vint o,false),(9,.int .i64 ((o.getD []).length:Int),false),(10,.int .i64 ((o.getD []).length:Int),false),(11,.bool false,false)],[]⟩):=by
 have:=X_loop_list (p:=pr) (c:=c100_0) (o.getD []) (fun i (s:List Int)=>⟨[(1,.fn (.func 98) [] [],false),(5,acc 1 vint s,accO s),(8,sl 1 vint o,false),(9,.int .i64 ((o.getD []).length:Int),false),(10,.int .i64 (i:Int),false)],[]⟩)
  (fun _ s n=>.inl (s++[checkRange n (-100000) 100000])) (fun s=>(.exit 0,⟨[(1,.fn (.func 98) [] [],false),(5,acc 1 vint s,accO s),(8,sl 1 vint o,false),(9,.int .i64 ((o.getD []).length:Int),false),(10,.int .i64 ((o.getD []).length:Int),false),(11,.bool false,false)],[]⟩))
  (fun d:Empty=>nomatch d) (fun i s=>s.length=i) [] (fun _ h=>by cases h) (fun d=>nomatch d) ?_ ?_ rfl
 ·rw [Int.natCast_zero,runL_map] at this
  rw [outL_inl,List.nil_append,accO_map] at this
  exact this
 ·intro s _
  have hlt:¬ (((o.getD []).length:Int) < ((o.getD []).length:Int)):=by omega
  simp only [go_sem,seval,c100_0,hlt]
 ·intro i s x hx hi hs
  have hlt:(i:Int) < ((o.getD []).length:Int):=by omega
  have hw:=wrap_succ hi (by omega)
  refine ⟨by simp [hs],?_⟩
  cases s with
  | nil=>
   refine ⟨_,?_,gc_same (Nat.le_refl _)⟩
   simp only [go_sem,seval,c100_0,hlt,idx_sl hx,F98,hw,acc,accO]
   rfl
  | cons a s=>
   have h9:s.length≤1073741822:=by simp at hs; omega
   refine ⟨_,?_,gc_same (Nat.le_refl _)⟩
   simp only [go_sem,seval,c100_0,hlt,idx_sl hx,F98,hw,acc,accO,List.length_map,h9,List.map_append]
   rfl
theorem I100 (o:Option (List Int)) (hn:(o.getD []).length≤1073741824):callIso pr (X pr) 100 [sl 1 vint o,.fn (.func 98) [] []]=some (sl 1 vint (nonNil ((o.getD []).map fun n=>checkRange n (-100000) 100000)),accO (o.getD [])):=by
 have hc:callFn pr (X pr) 100 [sl 1 vint o,.fn (.func 98) [] []] []=some (acc 1 vint ((o.getD []).map fun n=>checkRange n (-100000) 100000),accO (o.getD []),[]):=by
  rw [callFn_at (show pr.fns 100=some c100 from rfl) (by simp)]
  simp only [go_sem,seval,c100,l100 o hn]
 rw [acc_sl] at hc
 exact callIso_sl rfl hc below_ints
theorem first_each:∀ l:List Int,firstNZ (l.map fun n=>checkRange n (-100000) 100000)=checkEach (-100000) 100000 l
 | []=>rfl
 | n::l=>by
  simp only [List.map_cons,firstNZ,checkEach]
  split
  ·exact first_each l
  ·next hz=>
   unfold checkRange at hz ⊢
   split
   ·rfl
   ·split
    ·rfl
    ·simp_all
theorem I83 (u:GUnit) (hu:sizeU u):callIso pr (X pr) 83 [.agg [.str u.serial,sl 1 vint u.values]]=some (.int .i64 (unitE u),false):=by
 have:∃ hh,callFn pr (X pr) 83 [.agg [.str u.serial,sl 1 vint u.values]] []=some (.int .i64 (unitE u),false,hh):=by
  rw [callFn_at (show pr.fns 83=some c83 from rfl) (by simp),unitE_eq]
  have h134:=I114 u.serial (Nat.le_trans hu.1 (by decide))
  by_cases hz:unitA u=0
  ·rw [if_pos hz]
   have hne:u.values.getD [] ≠ []:=by
    intro hh
    have:unitA u ≠ 0:=by
     simp only [unitA,hh,firstNZ,whenE]
     cases isName u.serial <;> simp
    exact this hz
   obtain ⟨n,l,hl⟩:∃ n l,u.values.getD []=n::l:=by
    cases hv:u.values.getD [] with
    | nil=>exact absurd hv hne
    | cons n l=>exact ⟨n,l,rfl⟩
   have h135:=I100 u.values hu.2
   have h87:callIso pr (X pr) 51 [sl 1 vint (nonNil ((u.values.getD []).map fun n=>checkRange n (-100000) 100000))]=some (.int .i64 (checkEach (-100000) 100000 (u.values.getD [])),false):=by
    rw [← first_each,hl]
    exact I51 ((n::l).map fun n=>checkRange n (-100000) 100000) (by rw [List.length_map,← hl]; have:=hu.2; omega)
   have hz':firstNZ [whenE (!isName u.serial) 8,whenE (decide (((u.values.getD []).length:Int)=0)) 12,whenE (decide ((16:Int) < ((u.values.getD []).length:Int))) 5]=0:=hz
   simp only [go_sem,seval,c83,h134,I53,I51_3,hz',h135,h87]
   exact ⟨_,rfl⟩
  ·rw [if_neg hz]
   have hz':¬ firstNZ [whenE (!isName u.serial) 8,whenE (decide (((u.values.getD []).length:Int)=0)) 12,whenE (decide ((16:Int) < ((u.values.getD []).length:Int))) 5]=0:=hz
   simp only [go_sem,seval,c83,h134,I53,I51_3,hz',unitA]
   exact ⟨_,rfl⟩
 obtain ⟨hh,this⟩:=this
 exact callIso_of rfl this rfl rfl
end Go.Z
/-
 The checks of lists of units and of masks: their runs.
-/
namespace Go.Z
open Go Go.Abs
@[go_sem] theorem fieldAddr_vunit0 {h:Heap} {u:GUnit}:fieldAddrR false 0 1 h (some (.vptr (vunit u)))=some ⟨.vptr (.str u.serial),false,none,h⟩:=rfl
@[go_sem] theorem fieldAddr_vunit1 {h:Heap} {u:GUnit}:fieldAddrR false 1 1 h (some (.vptr (vunit u)))=some ⟨.vptr (sl 1 vint u.values),false,none,h⟩:=by
 show vptrR false h (some (sl 1 vint u.values))=_
 rw [vptrR_sl]
theorem idx_sl0 {α:Type} {z:Nat} {f:α→AVal} {l:Option (List α)} {k:IntKind} {x:α} {h:Heap} (hx:(l.getD [])[0]?=some x):idxR z h (some (sl z f l)) (some (.int k 0))=some ⟨.vptr (f x),false,none,h⟩:=by
 have:=idx_sl (z:=z) (f:=f) (k:=k) (h:=h) hx
 simpa using this
def lenU (u:GUnit):Int:=((u.values.getD []).length:Int)
def stepU (n0:Int) (seen:List (List UInt8)) (u:GUnit):Int:=firstNZ [unitE u,whenE (!decide (lenU u=n0)) 2,whenE (decide (u.serial∈seen)) 9]
def firstU (n0:Int):List (List UInt8)→List GUnit→Int
 | _,[]=>0
 | seen,u::l=>if stepU n0 seen u=0 then firstU n0 (seen++[u.serial]) l else stepU n0 seen u
def len0:List GUnit→Int
 | []=>0
 | u::_=>lenU u
def unitsE (l:List GUnit):Int:=if l.length≤64 then firstU (len0 l) [] l else 5
theorem runL_units (n0:Int):∀ (l:List GUnit) (i:Nat) (seen:List (List UInt8)),runL (fun _ seen u=>if stepU n0 seen u=0 then .inl (seen++[u.serial]) else .inr (stepU n0 seen u)) i seen l=if firstU n0 seen l=0 then .inl (seen++l.map (·.serial)) else .inr (firstU n0 seen l)
 | [],_,seen=>by simp [runL,firstU]
 | u::l,i,seen=>by
  simp only [runL,firstU]
  by_cases hz:stepU n0 seen u=0
  ·simp only [hz,if_true]
   rw [runL_units n0 l (i + 1)]
   simp
  ·simp only [if_neg hz]
theorem runL_mem {γ:Type} [DecidableEq γ] (s:γ):∀ (l:List GUnit) (f:GUnit→γ) (i:Nat),runL (γ:=Unit) (δ:=Unit) (fun _ _ x=>if f x=s then .inr () else .inl ()) i () l=if s∈l.map f then .inr () else .inl ()
 | [],_,_=>rfl
 | x::l,f,i=>by
  simp only [runL,List.map_cons,List.mem_cons]
  by_cases hx:f x=s
  ·simp [hx]
  ·have hx':¬ s=f x:=fun hh=>hx hh.symm
   simp only [if_neg hx,hx',false_or]
   exact runL_mem s l f (i + 1)
theorem l10_1 (o:Option (List GUnit)) (i:Nat) (u:GUnit) (hu:(o.getD [])[i]?=some u) (hn:(o.getD []).length≤1073741824) (h:Heap):
  X pr (.loop c10_1) ⟨[(0,sl 2 vunit o,false),(3,.int .i64 (i:Int),false),(5,.int .i64 0,false)],h⟩ =
   some (if u.serial∈((o.getD []).take i).map (·.serial) then (.ret,⟨[(2,.int .i64 9,false)],h⟩) else (.exit 2,⟨[(0,sl 2 vunit o,false),(3,.int .i64 (i:Int),false),(5,.int .i64 (i:Int),false),(40,.bool false,false)],h⟩)):=by
 have hi:i < (o.getD []).length:=(List.getElem?_eq_some_iff.1 hu).1
 have hlen:((o.getD []).take i).length=i:=by rw [List.length_take]; omega
 have:=X_loop_list (p:=pr) (c:=c10_1) ((o.getD []).take i) (fun j (_:Unit)=>⟨[(0,sl 2 vunit o,false),(3,.int .i64 (i:Int),false),(5,.int .i64 (j:Int),false)],h⟩)
  (fun _ _ x=>if x.serial=u.serial then .inr () else .inl ()) (fun _=>(.exit 2,⟨[(0,sl 2 vunit o,false),(3,.int .i64 (i:Int),false),(5,.int .i64 (i:Int),false),(40,.bool false,false)],h⟩))
  (fun (_:Unit)=>(.ret,⟨[(2,.int .i64 9,false)],h⟩)) (fun _ _=>True) () (fun _ h=>by cases h) (fun _ h=>by cases h) ?_ ?_ trivial
 ·rw [Int.natCast_zero] at this
  rw [this,runL_mem u.serial _ (·.serial)]
  split <;> rfl
 ·intro s _
  have hlt:¬ ((i:Int) < (i:Int)):=by omega
  simp only [hlen]
  simp only [go_sem,seval,c10_1,hlt]
 ·intro j s x hx hj _
  rw [hlen] at hj
  have hx':(o.getD [])[j]?=some x:=by rw [List.getElem?_take_of_lt hj] at hx; exact hx
  have hlt:(j:Int) < (i:Int):=by omega
  have hw:=wrap_succ (show j < (o.getD []).length by omega) (by omega)
  unfold stepL
  by_cases hxy:x.serial=u.serial
  ·simp only [if_pos hxy]
   have hxy':(x.serial=u.serial)=True:=by simp [hxy]
   simp only [go_sem,seval,c10_1,hlt,idx_sl hx',idx_sl hu,hxy']
  ·simp only [if_neg hxy]
   refine ⟨trivial,_,?_,gc_same (Nat.le_refl _)⟩
   simp only [go_sem,seval,c10_1,hlt,idx_sl hx',idx_sl hu,hxy,hw]
theorem stepU_ref (n0:Int) (seen:List (List UInt8)) (u:GUnit):stepU n0 seen u=if firstNZ [unitE u,whenE (!decide (lenU u=n0)) 2]=0 then (if u.serial∈seen then 9 else 0) else firstNZ [unitE u,whenE (!decide (lenU u=n0)) 2]:=by
 simp only [stepU,firstNZ,whenE]
 by_cases h1:unitE u=0
 ·simp only [h1,if_true]
  by_cases h2:lenU u=n0
  ·simp [h2]
  ·simp [h2]
 ·simp only [if_neg h1]
theorem l10n (h:Heap) (o:Option (List GUnit)) (ho:o.getD []=[]):X pr (.loop c10_0) ⟨[(0,sl 2 vunit o,false),(3,.int .i64 0,false)],h⟩=some (.exit 0,⟨[(0,sl 2 vunit o,false),(3,.int .i64 0,false),(12,.bool false,false)],h⟩):=by
 have hlt:¬ ((0:Int) < ((o.getD []).length:Int)):=by rw [ho]; decide
 rw [X_loop']
 simp only [go_sem,seval,c10_0,hlt]
end Go.Z
/-
 The reference's CheckUnits,of units of any size: the run.
-/
namespace Go.Z
open Go Go.Abs
theorem l10w (o:Option (List GUnit)) (u0:GUnit) (h0:(o.getD [])[0]?=some u0) (hn:(o.getD []).length≤1073741824) (hs:∀ u∈o.getD [],sizeW u) (h:Heap):
  X pr (.loop c10_0) ⟨[(0,sl 2 vunit o,false),(3,.int .i64 0,false)],h⟩ =
   some (if firstU (lenU u0) [] (o.getD [])=0 then (.exit 0,⟨[(0,sl 2 vunit o,false),(3,.int .i64 ((o.getD []).length:Int),false),(12,.bool false,false)],h⟩)
    else (.ret,⟨[(2,.int .i64 (firstU (lenU u0) [] (o.getD [])),false)],h⟩)):=by
 have:=X_loop_list (p:=pr) (c:=c10_0) (o.getD []) (fun i (_:List (List UInt8))=>⟨[(0,sl 2 vunit o,false),(3,.int .i64 (i:Int),false)],h⟩)
  (fun _ seen u=>if stepU (lenU u0) seen u=0 then .inl (seen++[u.serial]) else .inr (stepU (lenU u0) seen u)) (fun _=>(.exit 0,⟨[(0,sl 2 vunit o,false),(3,.int .i64 ((o.getD []).length:Int),false),(12,.bool false,false)],h⟩))
  (fun (e:Int)=>(.ret,⟨[(2,.int .i64 e,false)],h⟩)) (fun i s=>s=((o.getD []).take i).map (·.serial)) [] (fun _ h=>by cases h) (fun _ h=>by cases h) ?_ ?_ rfl
 ·rw [Int.natCast_zero] at this
  rw [this,runL_units]
  split <;> rfl
 ·intro s _
  have hlt:¬ (((o.getD []).length:Int) < ((o.getD []).length:Int)):=by omega
  simp only [go_sem,seval,c10_0,hlt]
 ·intro i s u hx hi hv
  have hlt:(i:Int) < ((o.getD []).length:Int):=by omega
  have hw:=wrap_succ hi (by omega)
  have h95:=I47w u (hs u (List.mem_of_getElem? hx))
  have hin:=l10_1 o i u hx hn h
  subst hv
  have hst:=stepU_ref (lenU u0) (((o.getD []).take i).map (·.serial)) u
  by_cases hz:firstNZ [unitE u,whenE (!decide (lenU u=lenU u0)) 2]=0
  ·rw [if_pos hz] at hst
   by_cases hm:u.serial∈((o.getD []).take i).map (·.serial)
   ·rw [if_pos hm] at hin hst
    refine stepL_out (d:=(9:Int)) (by simp only [hst]; rfl) ?_
    delta lenU at hz
    simp only [go_sem,seval,c10_0,hlt,idx_sl hx,idx_sl0 h0,h95,I48,I46_2,hz,hin]
   ·rw [if_neg hm] at hin hst
    refine stepL_in (s':=(((o.getD []).take i).map (·.serial))++[u.serial]) (by simp only [hst,if_true]) ?_ ?_ (gc_same (Nat.le_refl _))
    ·rw [List.take_add_one,hx]; simp
    ·delta lenU at hz
     simp only [go_sem,seval,c10_0,hlt,idx_sl hx,idx_sl0 h0,h95,I48,I46_2,hz,hin,hw]
  ·rw [if_neg hz] at hst
   refine stepL_out (d:=firstNZ [unitE u,whenE (!decide (lenU u=lenU u0)) 2]) (by simp only [hst,if_neg hz]) ?_
   delta lenU at hz ⊢
   simp only [go_sem,seval,c10_0,hlt,idx_sl hx,idx_sl0 h0,h95,I48,I46_2,hz]
theorem I10w (o:Option (List GUnit)) (hn:(o.getD []).length≤1073741824) (hs:∀ u∈o.getD [],sizeW u):callIso pr (X pr) 10 [sl 2 vunit o]=some (.int .i64 (unitsE (o.getD [])),false):=by
 have:callFn pr (X pr) 10 [sl 2 vunit o] []=some (.int .i64 (unitsE (o.getD [])),false,[]):=by
  rw [callFn_at (show pr.fns 10=some c10 from rfl) (by simp)]
  unfold unitsE
  by_cases h64:(o.getD []).length≤64
  ·have h64':¬ (64:Int) < ((o.getD []).length:Int):=by omega
   rw [if_pos h64]
   cases hc:o.getD [] with
   | nil=>
    have hl:=l10n [] o hc
    simp only [hc,List.length_nil] at h64'
    simp only [go_sem,seval,c10,hc,h64',hl,firstU]
   | cons u0 l=>
    have hl:=l10w o u0 (by rw [hc]; rfl) hn hs []
    rw [← hc,show len0 (o.getD [])=lenU u0 by rw [hc]; rfl]
    by_cases hz:firstU (lenU u0) [] (o.getD [])=0
    ·rw [if_pos hz] at hl
     simp only [go_sem,seval,c10,h64',hl,hz]
    ·rw [if_neg hz] at hl
     simp only [go_sem,seval,c10,h64',hl]
  ·have h64':(64:Int) < ((o.getD []).length:Int):=by omega
   rw [if_neg h64]
   simp only [go_sem,seval,c10,h64']
 exact callIso_of rfl this rfl rfl
end Go.Z
/-
 The product's check of a list of units: its run.
-/
namespace Go.Z
open Go Go.Abs
theorem belowEntries_set {n:Nat}:∀ l:List (List UInt8),belowEntries n (setOf l)=true
 | []=>rfl
 | s::l=>by
  show (below n (.str s) && below n (.bool true) && belowEntries n (setOf l))=true
  rw [belowEntries_set l]; rfl
theorem stepU_known (n0:Int) (seen:List (List UInt8)) (u:GUnit) (h:stepU n0 seen u=0):u.serial ∉ seen:=by
 intro hm
 rw [stepU_ref,if_pos hm] at h
 split at h
 ·cases h
 ·next hz=>exact hz h
theorem b36 (o:Option (List GUnit)) (u0 u:GUnit) (i:Nat) (seen:List (List UInt8)) (h0:(o.getD [])[0]?=some u0) (hn:(o.getD []).length≤1073741824) (hx:(o.getD [])[i]?=some u) (hu:sizeU u) (hs:seen.length=i):
  (stepU (lenU u0) seen u=0→X pr c36_0 ⟨[(0,sl 2 vunit o,false),(3,.map 0,false),(11,sl 2 vunit o,false),(12,.int .i64 ((o.getD []).length:Int),false),(13,.int .i64 (i:Int),false)],[.map (setOf seen)]⟩ =
   some (.normal,⟨[(0,sl 2 vunit o,false),(3,.map 0,false),(11,sl 2 vunit o,false),(12,.int .i64 ((o.getD []).length:Int),false),(13,.int .i64 ((i + 1:Nat):Int),false)],[.map (setOf (seen++[u.serial])),.cells [(.str u.serial,false),(sl 1 vint u.values,false)]]⟩)) ∧
  (¬ stepU (lenU u0) seen u=0→X pr c36_0 ⟨[(0,sl 2 vunit o,false),(3,.map 0,false),(11,sl 2 vunit o,false),(12,.int .i64 ((o.getD []).length:Int),false),(13,.int .i64 (i:Int),false)],[.map (setOf seen)]⟩ =
   some (.ret,⟨[(2,.int .i64 (stepU (lenU u0) seen u),false)],[.map (setOf seen),.cells [(.str u.serial,false),(sl 1 vint u.values,false)]]⟩)):=by
 have hi:i < (o.getD []).length:=(List.getElem?_eq_some_iff.1 hx).1
 have hlt:(i:Int) < ((o.getD []).length:Int):=by omega
 have hw:=wrap_succ hi (by omega)
 have h97:=I83 u hu
 have hsz:seen.length≤1073741824:=by omega
 constructor
 ·intro hz
  have hm:=stepU_known _ _ _ hz
  rw [← setOf_snoc]
  delta stepU lenU at hz
  simp only [hm,decide_false] at hz
  simp only [go_sem,seval,c36_0,hlt,idx_sl hx,idx_sl0 h0,h97,I53,I51_3,hm,hz,hsz,hw]
 ·intro hz
  by_cases hm:u.serial∈seen
  ·delta stepU lenU at hz ⊢
   simp only [hm,decide_true] at hz ⊢
   simp only [go_sem,seval,c36_0,hlt,idx_sl hx,idx_sl0 h0,h97,I53,I51_3,hm,hz]
  ·delta stepU lenU at hz ⊢
   simp only [hm,decide_false] at hz ⊢
   simp only [go_sem,seval,c36_0,hlt,idx_sl hx,idx_sl0 h0,h97,I53,I51_3,hm,hz]
theorem l36 (o:Option (List GUnit)) (u0:GUnit) (h0:(o.getD [])[0]?=some u0) (hn:(o.getD []).length≤1073741824) (hs:∀ u∈o.getD [],sizeU u):
  ∃ hh,X pr (.loop c36_0) ⟨[(0,sl 2 vunit o,false),(3,.map 0,false),(11,sl 2 vunit o,false),(12,.int .i64 ((o.getD []).length:Int),false),(13,.int .i64 0,false)],[.map []]⟩ =
   some (if firstU (lenU u0) [] (o.getD [])=0 then (.exit 0,⟨[(0,sl 2 vunit o,false),(3,.map 0,false),(11,sl 2 vunit o,false),(12,.int .i64 ((o.getD []).length:Int),false),(13,.int .i64 ((o.getD []).length:Int),false),(14,.bool false,false)],hh⟩)
    else (.ret,⟨[(2,.int .i64 (firstU (lenU u0) [] (o.getD [])),false)],hh⟩)):=by
 have:=X_loop_list (p:=pr) (c:=c36_0) (o.getD []) (fun i (s:List (List UInt8))=>⟨[(0,sl 2 vunit o,false),(3,.map 0,false),(11,sl 2 vunit o,false),(12,.int .i64 ((o.getD []).length:Int),false),(13,.int .i64 (i:Int),false)],[.map (setOf s)]⟩)
  (fun _ seen u=>if stepU (lenU u0) seen u=0 then .inl (seen++[u.serial]) else .inr ((stepU (lenU u0) seen u,seen,u):Int × List (List UInt8) × GUnit))
  (fun s=>(.exit 0,⟨[(0,sl 2 vunit o,false),(3,.map 0,false),(11,sl 2 vunit o,false),(12,.int .i64 ((o.getD []).length:Int),false),(13,.int .i64 ((o.getD []).length:Int),false),(14,.bool false,false)],[.map (setOf s)]⟩))
  (fun e=>(.ret,⟨[(2,.int .i64 e.1,false)],[.map (setOf e.2.1),.cells [(.str e.2.2.serial,false),(sl 1 vint e.2.2.values,false)]]⟩)) (fun i s=>s.length=i) [] (fun _ h=>by cases h) (fun _ h=>by cases h) ?_ ?_ rfl
 ·rw [Int.natCast_zero] at this
  have hr:∀ (l:List GUnit) (i:Nat) (seen:List (List UInt8)),(firstU (lenU u0) seen l=0→∃ s,runL (fun _ seen u=>if stepU (lenU u0) seen u=0 then .inl (seen++[u.serial]) else .inr ((stepU (lenU u0) seen u,seen,u):Int × List (List UInt8) × GUnit)) i seen l=.inl s) ∧
    (¬ firstU (lenU u0) seen l=0→∃ e,runL (fun _ seen u=>if stepU (lenU u0) seen u=0 then .inl (seen++[u.serial]) else .inr ((stepU (lenU u0) seen u,seen,u):Int × List (List UInt8) × GUnit)) i seen l=.inr (firstU (lenU u0) seen l,e)):=by
   intro l
   induction l with
   | nil=>intro i seen; exact ⟨fun _=>⟨seen,rfl⟩,fun h=>absurd rfl h⟩
   | cons u l ih=>
    intro i seen
    simp only [runL,firstU]
    by_cases hz:stepU (lenU u0) seen u=0
    ·simp only [if_pos hz]
     exact ih (i + 1) _
    ·simp only [if_neg hz]
     exact ⟨fun h=>absurd h hz,fun _=>⟨(seen,u),rfl⟩⟩
  have hr0:=hr (o.getD []) 0 []
  by_cases hz:firstU (lenU u0) [] (o.getD [])=0
  ·obtain ⟨s,hs'⟩:=hr0.1 hz
   rw [hs'] at this
   exact ⟨[.map (setOf s)],by rw [if_pos hz]; exact this⟩
  ·obtain ⟨e,hs'⟩:=hr0.2 hz
   rw [hs'] at this
   exact ⟨_,by rw [if_neg hz]; exact this⟩
 ·intro s _
  have hlt:¬ (((o.getD []).length:Int) < ((o.getD []).length:Int)):=by omega
  simp only [go_sem,seval,c36_0,hlt]
 ·intro i s u hx hi hv
  have hb:=b36 o u0 u i s h0 hn hx (hs u (List.mem_of_getElem? hx)) hv
  by_cases hz:stepU (lenU u0) s u=0
  ·refine stepL_in (s':=s++[u.serial]) (by simp only [if_pos hz]) (by simp [hv]) (hb.1 hz) (gc_over (h:=[.map (setOf (s++[u.serial]))]) rfl rfl ?_ ?_)
   ·simp only [go_sem,seval,List.length_cons,List.length_nil]
   ·simp only [belowHeap,belowBox,belowEntries_set,Bool.and_self]
  ·exact stepL_out (d:=(stepU (lenU u0) s u,s,u)) (by simp only [if_neg hz]) (hb.2 hz)
theorem I36 (o:Option (List GUnit)) (hn:(o.getD []).length≤1073741824) (hs:∀ u∈o.getD [],sizeU u):callIso pr (X pr) 36 [sl 2 vunit o]=some (.int .i64 (unitsE (o.getD [])),false):=by
 have:∃ hh,callFn pr (X pr) 36 [sl 2 vunit o] []=some (.int .i64 (unitsE (o.getD [])),false,hh):=by
  rw [callFn_at (show pr.fns 36=some c36 from rfl) (by simp)]
  unfold unitsE
  by_cases h64:(o.getD []).length≤64
  ·have h64':¬ (64:Int) < ((o.getD []).length:Int):=by omega
   rw [if_pos h64]
   cases hc:o.getD [] with
   | nil=>
    have hlt:¬ ((0:Int) < ((o.getD []).length:Int)):=by rw [hc]; decide
    have hl:X pr (.loop c36_0) ⟨[(0,sl 2 vunit o,false),(3,.map 0,false),(11,sl 2 vunit o,false),(12,.int .i64 ((o.getD []).length:Int),false),(13,.int .i64 0,false)],[.map []]⟩=some (.exit 0,⟨[(0,sl 2 vunit o,false),(3,.map 0,false),(11,sl 2 vunit o,false),(12,.int .i64 ((o.getD []).length:Int),false),(13,.int .i64 0,false),(14,.bool false,false)],[.map []]⟩):=by
     rw [X_loop']
     simp only [go_sem,seval,c36_0,hlt]
    rw [show firstU (len0 []) [] []=0 from rfl]
    simp only [go_sem,seval,c36,h64',hl]
    exact ⟨_,rfl⟩
   | cons u0 l=>
    obtain ⟨hh,hl⟩:=l36 o u0 (by rw [hc]; rfl) hn hs
    rw [← hc,show len0 (o.getD [])=lenU u0 by rw [hc]; rfl]
    by_cases hz:firstU (lenU u0) [] (o.getD [])=0
    ·rw [if_pos hz] at hl
     simp only [go_sem,seval,c36,h64',hl,hz]
     exact ⟨_,rfl⟩
    ·rw [if_neg hz] at hl
     simp only [go_sem,seval,c36,h64',hl]
     exact ⟨_,rfl⟩
  ·have h64':(64:Int) < ((o.getD []).length:Int):=by omega
   rw [if_neg h64]
   simp only [go_sem,seval,c36,h64']
   exact ⟨_,rfl⟩
 obtain ⟨hh,this⟩:=this
 exact callIso_of rfl this rfl rfl
end Go.Z
