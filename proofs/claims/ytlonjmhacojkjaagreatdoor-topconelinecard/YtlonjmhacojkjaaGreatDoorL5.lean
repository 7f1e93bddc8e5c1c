/-
  The checks of units and masks: their runs.
-/
import Derived.Test.YtlonjmhacojkjaaGreatDoorL4
set_option linter.unusedVariables false
set_option linter.unusedSimpArgs false
set_option maxRecDepth 100000
namespace Go.Z
open Go Go.Abs
@[go_sem] theorem afterShared_same {h:Heap} {v:AVal}:afterShared h.length v h=h:=by
 unfold afterShared; rw [Nat.ble_eq_true_of_le (Nat.le_refl _)]; rfl
@[go_sem] theorem afterShared_nil {v:AVal}:afterShared 0 v []=[]:=rfl
theorem I41_3 (a b c:Int):callIso pr (X pr) 41 [.list false 1 [.int .i64 a,.int .i64 b,.int .i64 c]]=some (.int .i64 (firstNZ [a,b,c]),false):=I41 [a,b,c] (by simp)
def unitA (u:GUnit):Int:=firstNZ [whenE (!isName u.serial) 8,whenE (decide (((u.values.getD []).length:Int)=0)) 12,whenE (decide ((16:Int) < ((u.values.getD []).length:Int))) 5]
def unitE (u:GUnit):Int:=firstNZ [whenE (!isName u.serial) 8,whenE (decide (((u.values.getD []).length:Int)=0)) 12,whenE (decide ((16:Int) < ((u.values.getD []).length:Int))) 5,checkEach (-100000) 100000 (u.values.getD [])]
theorem unitE_eq (u:GUnit):unitE u=if unitA u=0 then checkEach (-100000) 100000 (u.values.getD []) else unitA u:=by
 simp only [unitE,unitA,firstNZ]
 split <;> try split <;> try split <;> try split <;> simp_all
 all_goals (try split) <;> simp_all
def sizeU (u:GUnit):Prop:=u.serial.length≤1073741824∧(u.values.getD []).length≤1073741824
theorem l73 (o:Option (List Int)) (hn:(o.getD []).length≤1073741824):
  X pr (.loop c73_0) ⟨[(1,.fn (.func 74) [] [],false),(5,.list true 0 [],false),(8,sl 1 vint o,false),(9,.int .i64 ((o.getD []).length:Int),false),(10,.int .i64 0,false)],[]⟩ =
   some (.exit 0,⟨[(1,.fn (.func 74) [] [],false),(5,acc 1 vint ((o.getD []).map fun n=>checkRange n (-100000) 100000),accO (o.getD [])),(8,sl 1 vint o,false),(9,.int .i64 ((o.getD []).length:Int),false),(10,.int .i64 ((o.getD []).length:Int),false),(11,.bool false,false)],[]⟩):=by
 have:=X_loop_list (p:=pr) (c:=c73_0) (o.getD []) (fun i (s:List Int)=>⟨[(1,.fn (.func 74) [] [],false),(5,acc 1 vint s,accO s),(8,sl 1 vint o,false),(9,.int .i64 ((o.getD []).length:Int),false),(10,.int .i64 (i:Int),false)],[]⟩)
  (fun _ s n=>.inl (s++[checkRange n (-100000) 100000])) (fun s=>(.exit 0,⟨[(1,.fn (.func 74) [] [],false),(5,acc 1 vint s,accO s),(8,sl 1 vint o,false),(9,.int .i64 ((o.getD []).length:Int),false),(10,.int .i64 ((o.getD []).length:Int),false),(11,.bool false,false)],[]⟩))
  (fun d:Empty=>nomatch d) (fun i s=>s.length=i) [] (fun _ h=>by cases h) (fun d=>nomatch d) ?_ ?_ rfl
 ·rw [Int.natCast_zero,runL_map] at this
  rw [outL_inl,List.nil_append,accO_map] at this
  exact this
 ·intro s _
  have hlt:¬ (((o.getD []).length:Int) < ((o.getD []).length:Int)):=by omega
  simp only [go_sem,seval,c73_0,hlt]
 ·intro i s x hx hi hs
  have hlt:(i:Int) < ((o.getD []).length:Int):=by omega
  have hw:=wrap_succ hi (by omega)
  refine ⟨by simp [hs],?_⟩
  cases s with
  | nil=>
   refine ⟨_,?_,gc_same (Nat.le_refl _)⟩
   simp only [go_sem,seval,c73_0,hlt,idx_sl hx,F74,hw,acc,accO]
   rfl
  | cons a s=>
   have h9:s.length≤1073741822:=by simp at hs; omega
   refine ⟨_,?_,gc_same (Nat.le_refl _)⟩
   simp only [go_sem,seval,c73_0,hlt,idx_sl hx,F74,hw,acc,accO,List.length_map,h9,List.map_append]
   rfl
theorem I73 (o:Option (List Int)) (hn:(o.getD []).length≤1073741824):callIso pr (X pr) 73 [sl 1 vint o,.fn (.func 74) [] []]=some (sl 1 vint (nonNil ((o.getD []).map fun n=>checkRange n (-100000) 100000)),accO (o.getD [])):=by
 have hc:callFn pr (X pr) 73 [sl 1 vint o,.fn (.func 74) [] []] []=some (acc 1 vint ((o.getD []).map fun n=>checkRange n (-100000) 100000),accO (o.getD []),[]):=by
  rw [callFn_at (show pr.fns 73=some c73 from rfl) (by simp)]
  simp only [go_sem,seval,c73,l73 o hn]
 rw [acc_sl] at hc
 exact callIso_sl rfl hc below_ints
theorem first_each:∀ l:List Int,firstNZ (l.map fun n=>checkRange n (-100000) 100000)=checkEach (-100000) 100000 l
 | []=>rfl
 | n::l=>by
  simp only [List.map_cons,firstNZ,checkEach]
  split
  ·exact first_each l
  ·next hz=>
   unfold checkRange at hz ⊢
   split
   ·rfl
   ·split
    ·rfl
    ·simp_all
theorem I50 (u:GUnit) (hu:sizeU u):callIso pr (X pr) 50 [.agg [.str u.serial,sl 1 vint u.values]]=some (.int .i64 (unitE u),false):=by
 have:∃ hh,callFn pr (X pr) 50 [.agg [.str u.serial,sl 1 vint u.values]] []=some (.int .i64 (unitE u),false,hh):=by
  rw [callFn_at (show pr.fns 50=some c50 from rfl) (by simp),unitE_eq]
  have h134:=I72 u.serial (Nat.le_trans hu.1 (by decide))
  by_cases hz:unitA u=0
  ·rw [if_pos hz]
   have hne:u.values.getD [] ≠ []:=by
    intro hh
    have:unitA u ≠ 0:=by
     simp only [unitA,hh,firstNZ,whenE]
     cases isName u.serial <;> simp
    exact this hz
   obtain ⟨n,l,hl⟩:∃ n l,u.values.getD []=n::l:=by
    cases hv:u.values.getD [] with
    | nil=>exact absurd hv hne
    | cons n l=>exact ⟨n,l,rfl⟩
   have h135:=I73 u.values hu.2
   have h87:callIso pr (X pr) 41 [sl 1 vint (nonNil ((u.values.getD []).map fun n=>checkRange n (-100000) 100000))]=some (.int .i64 (checkEach (-100000) 100000 (u.values.getD [])),false):=by
    rw [← first_each,hl]
    exact I41 ((n::l).map fun n=>checkRange n (-100000) 100000) (by rw [List.length_map,← hl]; have:=hu.2; omega)
   have hz':firstNZ [whenE (!isName u.serial) 8,whenE (decide (((u.values.getD []).length:Int)=0)) 12,whenE (decide ((16:Int) < ((u.values.getD []).length:Int))) 5]=0:=hz
   simp only [go_sem,seval,c50,h134,I43,I41_3,hz',h135,h87]
   exact ⟨_,rfl⟩
  ·rw [if_neg hz]
   have hz':¬ firstNZ [whenE (!isName u.serial) 8,whenE (decide (((u.values.getD []).length:Int)=0)) 12,whenE (decide ((16:Int) < ((u.values.getD []).length:Int))) 5]=0:=hz
   simp only [go_sem,seval,c50,h134,I43,I41_3,hz',unitA]
   exact ⟨_,rfl⟩
 obtain ⟨hh,this⟩:=this
 exact callIso_of rfl this rfl rfl
end Go.Z
/-
 The checks of lists of units and of masks: their runs.
-/
namespace Go.Z
open Go Go.Abs
theorem runL_first {α:Type} (q:α→Int):∀ (l:List α) (i:Nat),runL (γ:=Unit) (δ:=Int) (fun _ _ x=>if q x=0 then .inl () else .inr (q x)) i () l=if firstNZ (l.map q)=0 then .inl () else .inr (firstNZ (l.map q))
 | [],_=>rfl
 | x::l,i=>by
  simp only [runL,List.map_cons,firstNZ]
  by_cases hz:q x=0
  ·simp only [hz,if_true]
   exact runL_first q l (i + 1)
  ·simp only [if_neg hz]
def maskA (m:GMask):Int:=firstNZ [whenE (decide (((m.least.getD []).length:Int)=0)) 12,whenE (decide ((16:Int) < ((m.least.getD []).length:Int))) 5,whenE (!decide (((m.most.getD []).length:Int)=((m.least.getD []).length:Int))) 2]
def pairE (xy:Int × Int):Int:=firstNZ [checkRange xy.1 (-100000) 100000,checkRange xy.2 (-100000) 100000,whenE (decide (xy.2 < xy.1)) 11]
def maskE (m:GMask):Int:=if maskA m=0 then firstNZ (((m.least.getD []).zip (m.most.getD [])).map pairE) else maskA m
theorem maskA_len {m:GMask} (h:maskA m=0):(m.least.getD []).length=(m.most.getD []).length:=by
 by_cases hh:((m.most.getD []).length:Int)=((m.least.getD []).length:Int)
 ·omega
 ·exfalso
  revert h
  simp only [maskA,firstNZ,whenE,hh]
  split <;> simp_all <;> split <;> simp_all
theorem l70 (m:GMask) (hn:(m.least.getD []).length≤1073741824) (he:(m.least.getD []).length=(m.most.getD []).length):
  X pr (.loop c70_0) ⟨[(1,.ptr 0 0,false),(27,.int .i64 ((m.least.getD []).length:Int),false),(28,.int .i64 0,false)],[.cells [(sl 1 vint m.least,false),(sl 1 vint m.most,false)]]⟩ =
   some (if firstNZ (((m.least.getD []).zip (m.most.getD [])).map pairE)=0 then (.exit 0,⟨[(1,.ptr 0 0,false),(27,.int .i64 ((m.least.getD []).length:Int),false),(28,.int .i64 ((m.least.getD []).length:Int),false),(29,.bool false,false)],[.cells [(sl 1 vint m.least,false),(sl 1 vint m.most,false)]]⟩)
    else (.ret,⟨[(2,.int .i64 (firstNZ (((m.least.getD []).zip (m.most.getD [])).map pairE)),false)],[.cells [(sl 1 vint m.least,false),(sl 1 vint m.most,false)]]⟩)):=by
 have hz:((m.least.getD []).zip (m.most.getD [])).length=(m.least.getD []).length:=by rw [List.length_zip]; omega
 have:=X_loop_list (p:=pr) (c:=c70_0) ((m.least.getD []).zip (m.most.getD [])) (fun i (_:Unit)=>⟨[(1,.ptr 0 0,false),(27,.int .i64 ((m.least.getD []).length:Int),false),(28,.int .i64 (i:Int),false)],[.cells [(sl 1 vint m.least,false),(sl 1 vint m.most,false)]]⟩)
  (fun _ _ x=>if pairE x=0 then .inl () else .inr (pairE x)) (fun _=>(.exit 0,⟨[(1,.ptr 0 0,false),(27,.int .i64 ((m.least.getD []).length:Int),false),(28,.int .i64 ((m.least.getD []).length:Int),false),(29,.bool false,false)],[.cells [(sl 1 vint m.least,false),(sl 1 vint m.most,false)]]⟩))
  (fun (e:Int)=>(.ret,⟨[(2,.int .i64 e,false)],[.cells [(sl 1 vint m.least,false),(sl 1 vint m.most,false)]]⟩)) (fun _ _=>True) () (fun _ h=>by cases h) (fun _ h=>by cases h) ?_ ?_ trivial
 ·rw [Int.natCast_zero] at this
  rw [this,runL_first]
  split <;> rfl
 ·intro s _
  have hlt:¬ (((m.least.getD []).length:Int) < ((m.least.getD []).length:Int)):=by omega
  simp only [hz]
  simp only [go_sem,seval,c70_0,hlt]
 ·intro i s xy hx hi _
  have hi':i < (m.least.getD []).length:=by omega
  have hlt:(i:Int) < ((m.least.getD []).length:Int):=by omega
  obtain ⟨x,y⟩:=xy
  obtain ⟨hxa,hxb⟩:(m.least.getD [])[i]?=some x∧(m.most.getD [])[i]?=some y:=by
   rw [List.getElem?_zip_eq_some] at hx; exact hx
  have hw:=wrap_succ hi' (by omega)
  unfold stepL
  by_cases hxy:pairE (x,y)=0
  ·simp only [if_pos hxy]
   refine ⟨trivial,_,?_,gc_same (Nat.le_refl _)⟩
   simp only [pairE] at hxy
   simp only [go_sem,seval,c70_0,hlt,idx_sl hxa,idx_sl hxb,I74,I43,I41_3,hw,hxy]
  ·simp only [if_neg hxy]
   simp only [pairE] at hxy
   simp only [go_sem,seval,c70_0,hlt,idx_sl hxa,idx_sl hxb,I74,I43,I41_3,hxy,pairE]
theorem I70 (m:GMask) (hn:(m.least.getD []).length≤1073741824):callIso pr (X pr) 70 [.agg [sl 1 vint m.least,sl 1 vint m.most]]=some (.int .i64 (maskE m),false):=by
 have:∃ hh,callFn pr (X pr) 70 [.agg [sl 1 vint m.least,sl 1 vint m.most]] []=some (.int .i64 (maskE m),false,hh):=by
  rw [callFn_at (show pr.fns 70=some c70 from rfl) (by simp)]
  unfold maskE
  by_cases hz:maskA m=0
  ·rw [if_pos hz]
   have hl:=l70 m hn (maskA_len hz)
   simp only [maskA] at hz
   by_cases h3:firstNZ (((m.least.getD []).zip (m.most.getD [])).map pairE)=0
   ·rw [if_pos h3] at hl
    rw [h3]
    simp only [go_sem,seval,c70,I43,I41_3,hz,hl]
    exact ⟨_,rfl⟩
   ·rw [if_neg h3] at hl
    simp only [go_sem,seval,c70,I43,I41_3,hz,hl]
    exact ⟨_,rfl⟩
  ·rw [if_neg hz]
   simp only [maskA] at hz ⊢
   simp only [go_sem,seval,c70,I43,I41_3,hz]
   exact ⟨_,rfl⟩
 obtain ⟨hh,this⟩:=this
 exact callIso_of rfl this rfl rfl
@[go_sem] theorem fieldAddr_vunit0 {h:Heap} {u:GUnit}:fieldAddrR false 0 1 h (some (.vptr (vunit u)))=some ⟨.vptr (.str u.serial),false,none,h⟩:=rfl
@[go_sem] theorem fieldAddr_vunit1 {h:Heap} {u:GUnit}:fieldAddrR false 1 1 h (some (.vptr (vunit u)))=some ⟨.vptr (sl 1 vint u.values),false,none,h⟩:=by
 show vptrR false h (some (sl 1 vint u.values))=_
 rw [vptrR_sl]
theorem idx_sl0 {α:Type} {z:Nat} {f:α→AVal} {l:Option (List α)} {k:IntKind} {x:α} {h:Heap} (hx:(l.getD [])[0]?=some x):idxR z h (some (sl z f l)) (some (.int k 0))=some ⟨.vptr (f x),false,none,h⟩:=by
 have:=idx_sl (z:=z) (f:=f) (k:=k) (h:=h) hx
 simpa using this
def lenU (u:GUnit):Int:=((u.values.getD []).length:Int)
def stepU (n0:Int) (seen:List (List UInt8)) (u:GUnit):Int:=firstNZ [unitE u,whenE (!decide (lenU u=n0)) 2,whenE (decide (u.serial∈seen)) 9]
def firstU (n0:Int):List (List UInt8)→List GUnit→Int
 | _,[]=>0
 | seen,u::l=>if stepU n0 seen u=0 then firstU n0 (seen++[u.serial]) l else stepU n0 seen u
def len0:List GUnit→Int
 | []=>0
 | u::_=>lenU u
def unitsE (l:List GUnit):Int:=if l.length≤64 then firstU (len0 l) [] l else 5
theorem stepU_ref (n0:Int) (seen:List (List UInt8)) (u:GUnit):stepU n0 seen u=if firstNZ [unitE u,whenE (!decide (lenU u=n0)) 2]=0 then (if u.serial∈seen then 9 else 0) else firstNZ [unitE u,whenE (!decide (lenU u=n0)) 2]:=by
 simp only [stepU,firstNZ,whenE]
 by_cases h1:unitE u=0
 ·simp only [h1,if_true]
  by_cases h2:lenU u=n0
  ·simp [h2]
  ·simp [h2]
 ·simp only [if_neg h1]
end Go.Z
/-
 The product's check of a list of units: its run.
-/
namespace Go.Z
open Go Go.Abs
theorem belowEntries_set {n:Nat}:∀ l:List (List UInt8),belowEntries n (setOf l)=true
 | []=>rfl
 | s::l=>by
  show (below n (.str s) && below n (.bool true) && belowEntries n (setOf l))=true
  rw [belowEntries_set l]; rfl
theorem stepU_known (n0:Int) (seen:List (List UInt8)) (u:GUnit) (h:stepU n0 seen u=0):u.serial ∉ seen:=by
 intro hm
 rw [stepU_ref,if_pos hm] at h
 split at h
 ·cases h
 ·next hz=>exact hz h
theorem b32 (o:Option (List GUnit)) (u0 u:GUnit) (i:Nat) (seen:List (List UInt8)) (h0:(o.getD [])[0]?=some u0) (hn:(o.getD []).length≤1073741824) (hx:(o.getD [])[i]?=some u) (hu:sizeU u) (hs:seen.length=i):
  (stepU (lenU u0) seen u=0→X pr c32_0 ⟨[(0,sl 2 vunit o,false),(3,.map 0,false),(11,sl 2 vunit o,false),(12,.int .i64 ((o.getD []).length:Int),false),(13,.int .i64 (i:Int),false)],[.map (setOf seen)]⟩ =
   some (.normal,⟨[(0,sl 2 vunit o,false),(3,.map 0,false),(11,sl 2 vunit o,false),(12,.int .i64 ((o.getD []).length:Int),false),(13,.int .i64 ((i + 1:Nat):Int),false)],[.map (setOf (seen++[u.serial])),.cells [(.str u.serial,false),(sl 1 vint u.values,false)]]⟩)) ∧
  (¬ stepU (lenU u0) seen u=0→X pr c32_0 ⟨[(0,sl 2 vunit o,false),(3,.map 0,false),(11,sl 2 vunit o,false),(12,.int .i64 ((o.getD []).length:Int),false),(13,.int .i64 (i:Int),false)],[.map (setOf seen)]⟩ =
   some (.ret,⟨[(2,.int .i64 (stepU (lenU u0) seen u),false)],[.map (setOf seen),.cells [(.str u.serial,false),(sl 1 vint u.values,false)]]⟩)):=by
 have hi:i < (o.getD []).length:=(List.getElem?_eq_some_iff.1 hx).1
 have hlt:(i:Int) < ((o.getD []).length:Int):=by omega
 have hw:=wrap_succ hi (by omega)
 have h97:=I50 u hu
 have hsz:seen.length≤1073741824:=by omega
 constructor
 ·intro hz
  have hm:=stepU_known _ _ _ hz
  rw [← setOf_snoc]
  delta stepU lenU at hz
  simp only [hm,decide_false] at hz
  simp only [go_sem,seval,c32_0,hlt,idx_sl hx,idx_sl0 h0,h97,I43,I41_3,hm,hz,hsz,hw]
 ·intro hz
  by_cases hm:u.serial∈seen
  ·delta stepU lenU at hz ⊢
   simp only [hm,decide_true] at hz ⊢
   simp only [go_sem,seval,c32_0,hlt,idx_sl hx,idx_sl0 h0,h97,I43,I41_3,hm,hz]
  ·delta stepU lenU at hz ⊢
   simp only [hm,decide_false] at hz ⊢
   simp only [go_sem,seval,c32_0,hlt,idx_sl hx,idx_sl0 h0,h97,I43,I41_3,hm,hz]
theorem l32 (o:Option (List GUnit)) (u0:GUnit) (h0:(o.getD [])[0]?=some u0) (hn:(o.getD []).length≤1073741824) (hs:∀ u∈o.getD [],sizeU u):
  ∃ hh,X pr (.loop c32_0) ⟨[(0,sl 2 vunit o,false),(3,.map 0,false),(11,sl 2 vunit o,false),(12,.int .i64 ((o.getD []).length:Int),false),(13,.int .i64 0,false)],[.map []]⟩ =
   some (if firstU (lenU u0) [] (o.getD [])=0 then (.exit 0,⟨[(0,sl 2 vunit o,false),(3,.map 0,false),(11,sl 2 vunit o,false),(12,.int .i64 ((o.getD []).length:Int),false),(13,.int .i64 ((o.getD []).length:Int),false),(14,.bool false,false)],hh⟩)
    else (.ret,⟨[(2,.int .i64 (firstU (lenU u0) [] (o.getD [])),false)],hh⟩)):=by
 have:=X_loop_list (p:=pr) (c:=c32_0) (o.getD []) (fun i (s:List (List UInt8))=>⟨[(0,sl 2 vunit o,false),(3,.map 0,false),(11,sl 2 vunit o,false),(12,.int .i64 ((o.getD []).length:Int),false),(13,.int .i64 (i:Int),false)],[.map (setOf s)]⟩)
  (fun _ seen u=>if stepU (lenU u0) seen u=0 then .inl (seen++[u.serial]) else .inr ((stepU (lenU u0) seen u,seen,u):Int × List (List UInt8) × GUnit))
  (fun s=>(.exit 0,⟨[(0,sl 2 vunit o,false),(3,.map 0,false),(11,sl 2 vunit o,false),(12,.int .i64 ((o.getD []).length:Int),false),(13,.int .i64 ((o.getD []).length:Int),false),(14,.bool false,false)],[.map (setOf s)]⟩))
  (fun e=>(.ret,⟨[(2,.int .i64 e.1,false)],[.map (setOf e.2.1),.cells [(.str e.2.2.serial,false),(sl 1 vint e.2.2.values,false)]]⟩)) (fun i s=>s.length=i) [] (fun _ h=>by cases h) (fun _ h=>by cases h) ?_ ?_ rfl
 ·rw [Int.natCast_zero] at this
  have hr:∀ (l:List GUnit) (i:Nat) (seen:List (List UInt8)),(firstU (lenU u0) seen l=0→∃ s,runL (fun _ seen u=>if stepU (lenU u0) seen u=0 then .inl (seen++[u.serial]) else .inr ((stepU (lenU u0) seen u,seen,u):Int × List (List UInt8) × GUnit)) i seen l=.inl s) ∧
    (¬ firstU (lenU u0) seen l=0→∃ e,runL (fun _ seen u=>if stepU (lenU u0) seen u=0 then .inl (seen++[u.serial]) else .inr ((stepU (lenU u0) seen u,seen,u):Int × List (List UInt8) × GUnit)) i seen l=.inr (firstU (lenU u0) seen l,e)):=by
   intro l
   induction l with
   | nil=>intro i seen; exact ⟨fun _=>⟨seen,rfl⟩,fun h=>absurd rfl h⟩
   | cons u l ih=>
    intro i seen
    simp only [runL,firstU]
    by_cases hz:stepU (lenU u0) seen u=0
    ·simp only [if_pos hz]
     exact ih (i + 1) _
    ·simp only [if_neg hz]
     exact ⟨fun h=>absurd h hz,fun _=>⟨(seen,u),rfl⟩⟩
  have hr0:=hr (o.getD []) 0 []
  by_cases hz:firstU (lenU u0) [] (o.getD [])=0
  ·obtain ⟨s,hs'⟩:=hr0.1 hz
   rw [hs'] at this
   exact ⟨[.map (setOf s)],by rw [if_pos hz]; exact this⟩
  ·obtain ⟨e,hs'⟩:=hr0.2 hz
   rw [hs'] at this
   exact ⟨_,by rw [if_neg hz]; exact this⟩
 ·intro s _
  have hlt:¬ (((o.getD []).length:Int) < ((o.getD []).length:Int)):=by omega
  simp only [go_sem,seval,c32_0,hlt]
 ·intro i s u hx hi hv
  have hb:=b32 o u0 u i s h0 hn hx (hs u (List.mem_of_getElem? hx)) hv
  by_cases hz:stepU (lenU u0) s u=0
  ·refine stepL_in (s':=s++[u.serial]) (by simp only [if_pos hz]) (by simp [hv]) (hb.1 hz) (gc_over (h:=[.map (setOf (s++[u.serial]))]) rfl rfl ?_ ?_)
   ·simp only [go_sem,seval,List.length_cons,List.length_nil]
   ·simp only [belowHeap,belowBox,belowEntries_set,Bool.and_self]
  ·exact stepL_out (d:=(stepU (lenU u0) s u,s,u)) (by simp only [if_neg hz]) (hb.2 hz)
theorem I32 (o:Option (List GUnit)) (hn:(o.getD []).length≤1073741824) (hs:∀ u∈o.getD [],sizeU u):callIso pr (X pr) 32 [sl 2 vunit o]=some (.int .i64 (unitsE (o.getD [])),false):=by
 have:∃ hh,callFn pr (X pr) 32 [sl 2 vunit o] []=some (.int .i64 (unitsE (o.getD [])),false,hh):=by
  rw [callFn_at (show pr.fns 32=some c32 from rfl) (by simp)]
  unfold unitsE
  by_cases h64:(o.getD []).length≤64
  ·have h64':¬ (64:Int) < ((o.getD []).length:Int):=by omega
   rw [if_pos h64]
   cases hc:o.getD [] with
   | nil=>
    have hlt:¬ ((0:Int) < ((o.getD []).length:Int)):=by rw [hc]; decide
    have hl:X pr (.loop c32_0) ⟨[(0,sl 2 vunit o,false),(3,.map 0,false),(11,sl 2 vunit o,false),(12,.int .i64 ((o.getD []).length:Int),false),(13,.int .i64 0,false)],[.map []]⟩=some (.exit 0,⟨[(0,sl 2 vunit o,false),(3,.map 0,false),(11,sl 2 vunit o,false),(12,.int .i64 ((o.getD []).length:Int),false),(13,.int .i64 0,false),(14,.bool false,false)],[.map []]⟩):=by
     rw [X_loop']
     simp only [go_sem,seval,c32_0,hlt]
    rw [show firstU (len0 []) [] []=0 from rfl]
    simp only [go_sem,seval,c32,h64',hl]
    exact ⟨_,rfl⟩
   | cons u0 l=>
    obtain ⟨hh,hl⟩:=l32 o u0 (by rw [hc]; rfl) hn hs
    rw [← hc,show len0 (o.getD [])=lenU u0 by rw [hc]; rfl]
    by_cases hz:firstU (lenU u0) [] (o.getD [])=0
    ·rw [if_pos hz] at hl
     simp only [go_sem,seval,c32,h64',hl,hz]
     exact ⟨_,rfl⟩
    ·rw [if_neg hz] at hl
     simp only [go_sem,seval,c32,h64',hl]
     exact ⟨_,rfl⟩
  ·have h64':(64:Int) < ((o.getD []).length:Int):=by omega
   rw [if_neg h64]
   simp only [go_sem,seval,c32,h64']
   exact ⟨_,rfl⟩
 obtain ⟨hh,this⟩:=this
 exact callIso_of rfl this rfl rfl
end Go.Z
