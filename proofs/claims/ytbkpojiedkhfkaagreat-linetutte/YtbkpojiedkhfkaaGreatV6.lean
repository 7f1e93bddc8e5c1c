/-
  LineProofs: Prove: its run.
-/
import Derived.Test.YtbkpojiedkhfkaaGreatV4
set_option linter.unusedVariables false
set_option linter.unusedSimpArgs false
set_option maxRecDepth 100000
set_option maxHeartbeats 4000000
namespace Go.Z
open Go Go.Abs
section
variable {o:Option (List GUnit)} {below:Int} {R:AVal} {E n size n1 i:Int}
def H6 (o:Option (List GUnit)) (below:Int) (R:AVal) (E n size:Int):Heap:=
 [.cells [(sl 2 vunit o,false)],.cells [(.int .i64 below,false)],.cells [(R,false)],.cells [(.int .i64 E,false)],.cells [(.int .i64 n,false)],.cells [(.int .i64 size,false)]]
theorem W140 {k:Nat} {r:Found} (h:f141 o below n size k none 0=some r):callFn pr (X pr) 140 [.fn (.yield 6) [] [],.ptr 5 0,.ptr 4 0] (H6 o below R E n size++[.loop ⟨E60 n1 i,[32],as60,bd60,none⟩])=some (.tup [],false,HP o below (outR R r) (outE E r) n size n1 i (outP r)):=by
 have h1:=W141 (R:=R) (E:=E) (n1:=n1) (i:=i) k h
 have ha:∀ v R E pd,afterShared 9 v (HP o below R E n size n1 i pd)=HP o below R E n size n1 i pd:=fun _ _ _ _=>after_same rfl
 unfold call141 at h1
 rw [show sl 1 vint (none:Option (List Int))=.list true 0 [] from rfl] at h1
 rw [callFn_at (show pr.fns 140=some c140 from rfl) (by simp)]
 simp only [HP,H6] at h1 ha ⊢
 simp only [go_sem,seval,c140,h1,ha] <;> rfl
theorem range60 {k:Nat} {r:Found} (hR:Abs.below 6 R=true) (h:f141 o below n size k none 0=some r):X pr rf60 ⟨E60 n1 i,H6 o below R E n size⟩=some (match r with | none=>.normal | some _=>.ret,⟨E60 n1 i,H6 o below (outR R r) (outE E r) n size⟩):=by
 have h1:=W140 (R:=R) (E:=E) (n1:=n1) (i:=i) h
 have hb:belowHeap 6 (H6 o below (outR R r) (outE E r) n size)=true:=by
  have hx:Abs.below 6 (outR R r)=true:=by
   cases r with
   | none=>exact hR
   | some x=>show Abs.below 6 (sl 1 vint x)=true; simp only [go_sem,seval]
  have ho:Abs.below 6 (sl 2 vunit o)=true:=by simp only [go_sem,seval]
  show ((Abs.below 6 (sl 2 vunit o) && true) && ((true && true) && ((Abs.below 6 (outR R r) && true) && ((true && true) && ((true && true) && ((true && true) && true))))))=true
  rw [hx,ho]; rfl
 rw [rf60_eq,X_range]
 unfold xrange
 have hn:(noRange as60 && noRange bd60)=true:=rfl
 have he:evalO (E60 n1 i) (.tmp 31)=some (.fn (.func 140) [] [.ptr 5 0,.ptr 4 0]):=rfl
 have hl:(H6 o below R E n size).length=6:=rfl
 have hg:getBox (HP o below (outR R r) (outE E r) n size n1 i (outP r)) 6=some (.loop ⟨E60 n1 i,[32],as60,bd60,outP r⟩):=rfl
 have ht:(HP o below (outR R r) (outE E r) n size n1 i (outP r)).take 6=H6 o below (outR R r) (outE E r) n size:=rfl
 simp only [hn,cond_true,he,hl,List.nil_append,List.cons_append,h1,hg,ht,hb]
 cases r <;> rfl
noncomputable def s60 (o:Option (List GUnit)) (below:Int) (i:Int):Option (Int ⊕ (Int ⊕ (Int × Option (List Int)))):=
 cond (decide (i < wrapF .i64 (((o.getD []).length:Int) + 1)))
  (obind (f141 o below ((o.getD []).length:Int) i 12 none 0) fun r=>
   match r with
   | none=>some (.inl (wrapF .i64 (i + 1)))
   | some x=>some (.inr (.inr (i,x))))
  (some (.inr (.inl i)))
def H4 (o:Option (List GUnit)) (below:Int) (R:AVal) (E:Int):Heap:=
 [.cells [(sl 2 vunit o,false)],.cells [(.int .i64 below,false)],.cells [(R,false)],.cells [(.int .i64 E,false)]]
def St60 (o:Option (List GUnit)) (below:Int) (i:Int):ASt:=⟨[(2,.ptr 0 0,false),(3,.ptr 1 0,false),(4,.ptr 2 0,false),(5,.ptr 3 0,false),(24,.int .i64 (wrapF .i64 (((o.getD []).length:Int) + 1)),false),(25,.int .i64 i,false)],H4 o below (.list true 0 []) 0⟩
def Ex60 (o:Option (List GUnit)) (below:Int):Int ⊕ (Int × Option (List Int))→AExit × ASt
 | .inl i=>(.exit 0,⟨[(2,.ptr 0 0,false),(3,.ptr 1 0,false),(4,.ptr 2 0,false),(5,.ptr 3 0,false),(24,.int .i64 (wrapF .i64 (((o.getD []).length:Int) + 1)),false),(25,.int .i64 i,false),(26,.bool false,false)],H4 o below (.list true 0 []) 0⟩)
 | .inr x=>(.ret,⟨E60 (wrapF .i64 (((o.getD []).length:Int) + 1)) x.1,H6 o below (sl 1 vint x.2) 0 ((o.getD []).length:Int) x.1⟩)
end
def a60H:ACode:=pcL c60_0
def a60C:ACode:=pcL (pcR c60_0)
def a60B:ACode:=pcB (pcL (pcR (pcR c60_0)))
def a60a:ACode:=pcL a60B
def a60b:ACode:=pcL (pcR a60B)
def a60E:ACode:=pcR (pcR (pcR c60_0))
theorem c60_0_eq:c60_0=.seq a60H (.seq a60C (.seq (.block 1 (.seq a60a (.seq a60b (.block 2 rf60)))) a60E)):=rfl
theorem W118 {o:Option (List GUnit)} {below n size:Int}:callFn pr (X pr) 118 [.int .i64 n,.int .i64 size] (H4 o below (.list true 0 []) 0)=some (.fn (.func 140) [] [.ptr 5 0,.ptr 4 0],false,H6 o below (.list true 0 []) 0 n size):=by
 rw [callFn_at (show pr.fns 118=some c118 from rfl) (by simp)]
 simp only [go_sem,seval,c118,H4,H6] <;> rfl
theorem b60 {o:Option (List GUnit)} {below:Int} (i:Int) (r) (h:s60 o below i=some r):stepO pr c60_0 (St60 o below) (Ex60 o below) i r:=by
 unfold s60 at h
 rcases cond_split h with ⟨h1,h⟩ | ⟨h1,h⟩
 ·obtain ⟨x,h2,h⟩:=obind_some h
  have h3:=range60 (R:=.list true 0 []) (E:=0) (n1:=wrapF .i64 (((o.getD []).length:Int) + 1)) (i:=i) rfl h2
  have h4:=W118 (o:=o) (below:=below) (n:=((o.getD []).length:Int)) (size:=i)
  have ha:afterShared 4 (.fn (.func 140) [] [.ptr 5 0,.ptr 4 0]) (H6 o below (.list true 0 []) 0 ((o.getD []).length:Int) i)=H6 o below (.list true 0 []) 0 ((o.getD []).length:Int) i:=rfl
  have rH:X pr a60H (St60 o below i)=some (.normal,⟨[(2,.ptr 0 0,false),(3,.ptr 1 0,false),(4,.ptr 2 0,false),(5,.ptr 3 0,false),(24,.int .i64 (wrapF .i64 (((o.getD []).length:Int) + 1)),false),(25,.int .i64 i,false),(26,.bool true,false)],H4 o below (.list true 0 []) 0⟩):=by
   simp only [go_sem,seval,a60H,pcL,c60_0,St60,H4,h1] <;> rfl
  have rC:X pr a60C ⟨[(2,.ptr 0 0,false),(3,.ptr 1 0,false),(4,.ptr 2 0,false),(5,.ptr 3 0,false),(24,.int .i64 (wrapF .i64 (((o.getD []).length:Int) + 1)),false),(25,.int .i64 i,false),(26,.bool true,false)],H4 o below (.list true 0 []) 0⟩=some (.normal,⟨[(2,.ptr 0 0,false),(3,.ptr 1 0,false),(4,.ptr 2 0,false),(5,.ptr 3 0,false),(24,.int .i64 (wrapF .i64 (((o.getD []).length:Int) + 1)),false),(25,.int .i64 i,false),(26,.bool true,false)],H4 o below (.list true 0 []) 0⟩):=by
   simp only [go_sem,seval,a60C,pcL,pcR,c60_0] <;> rfl
  have ra:X pr a60a ⟨[(2,.ptr 0 0,false),(3,.ptr 1 0,false),(4,.ptr 2 0,false),(5,.ptr 3 0,false),(24,.int .i64 (wrapF .i64 (((o.getD []).length:Int) + 1)),false),(25,.int .i64 i,false),(26,.bool true,false)],H4 o below (.list true 0 []) 0⟩=some (.normal,⟨[(2,.ptr 0 0,false),(3,.ptr 1 0,false),(4,.ptr 2 0,false),(5,.ptr 3 0,false),(7,.int .i64 i,false),(24,.int .i64 (wrapF .i64 (((o.getD []).length:Int) + 1)),false),(25,.int .i64 i,false)],H4 o below (.list true 0 []) 0⟩):=by
   simp only [go_sem,seval,a60a,a60B,pcL,pcR,pcB,c60_0] <;> rfl
  have rb:X pr a60b ⟨[(2,.ptr 0 0,false),(3,.ptr 1 0,false),(4,.ptr 2 0,false),(5,.ptr 3 0,false),(7,.int .i64 i,false),(24,.int .i64 (wrapF .i64 (((o.getD []).length:Int) + 1)),false),(25,.int .i64 i,false)],H4 o below (.list true 0 []) 0⟩=some (.normal,⟨E60 (wrapF .i64 (((o.getD []).length:Int) + 1)) i,H6 o below (.list true 0 []) 0 ((o.getD []).length:Int) i⟩):=by
   simp only [H4] at h4 ⊢
   simp only [go_sem,seval,a60b,a60B,pcL,pcR,pcB,c60_0,h4,ha] <;> rfl
  cases x with
  | some x=>
   cases h
   simp only [outR,outE] at h3
   refine stepO_out ?_
   rw [c60_0_eq]
   simp only [go_sem,seval,rH,rC,ra,rb,h3,Ex60]
  | none=>
   cases h
   simp only [outR,outE] at h3
   have rE:X pr a60E ⟨E60 (wrapF .i64 (((o.getD []).length:Int) + 1)) i,H6 o below (.list true 0 []) 0 ((o.getD []).length:Int) i⟩=some (.normal,⟨[(2,.ptr 0 0,false),(3,.ptr 1 0,false),(4,.ptr 2 0,false),(5,.ptr 3 0,false),(24,.int .i64 (wrapF .i64 (((o.getD []).length:Int) + 1)),false),(25,.int .i64 (wrapF .i64 (i + 1)),false)],H6 o below (.list true 0 []) 0 ((o.getD []).length:Int) i⟩):=by
    simp only [go_sem,seval,a60E,pcR,c60_0,E60] <;> rfl
   refine stepO_in (st':=⟨_,_⟩) ?_ (gc_over (h:=H4 o below (.list true 0 []) 0) (h':=[.cells [(.int .i64 ((o.getD []).length:Int),false)],.cells [(.int .i64 i,false)]]) rfl rfl rfl ?_)
   ·rw [c60_0_eq]
    simp only [go_sem,seval,rH,rC,ra,rb,h3,rE] <;> rfl
   ·have ho:Abs.below 4 (sl 2 vunit o)=true:=by simp only [go_sem,seval]
    show ((Abs.below 4 (sl 2 vunit o) && true) && ((true && true) && ((true && true) && ((true && true) && true))))=true
    rw [ho]; rfl
 ·cases h
  have rH:X pr a60H (St60 o below i)=some (.normal,⟨[(2,.ptr 0 0,false),(3,.ptr 1 0,false),(4,.ptr 2 0,false),(5,.ptr 3 0,false),(24,.int .i64 (wrapF .i64 (((o.getD []).length:Int) + 1)),false),(25,.int .i64 i,false),(26,.bool false,false)],H4 o below (.list true 0 []) 0⟩):=by
   simp only [go_sem,seval,a60H,pcL,c60_0,St60,H4,h1] <;> rfl
  have rC:X pr a60C ⟨[(2,.ptr 0 0,false),(3,.ptr 1 0,false),(4,.ptr 2 0,false),(5,.ptr 3 0,false),(24,.int .i64 (wrapF .i64 (((o.getD []).length:Int) + 1)),false),(25,.int .i64 i,false),(26,.bool false,false)],H4 o below (.list true 0 []) 0⟩=some (.exit 0,⟨[(2,.ptr 0 0,false),(3,.ptr 1 0,false),(4,.ptr 2 0,false),(5,.ptr 3 0,false),(24,.int .i64 (wrapF .i64 (((o.getD []).length:Int) + 1)),false),(25,.int .i64 i,false),(26,.bool false,false)],H4 o below (.list true 0 []) 0⟩):=by
   simp only [go_sem,seval,a60C,pcL,pcR,c60_0] <;> rfl
  refine stepO_out ?_
  rw [c60_0_eq]
  simp only [go_sem,seval,rH,rC,Ex60]
noncomputable def f60 (o:Option (List GUnit)) (below:Int):Option (Option (List Int) × Int):=
 obind (E22 o) fun v10=>
 obind (E24 (decide (8 < ((o.getD []).length:Int))) 23) fun v14=>
 obind (f117 below) fun v16=>
 obind (E94 (some [v10,v14,v16])) fun v18=>
 cond (decide (v18=0))
  (obind (itO (s60 o below) 0) fun d=>match d with
   | .inl _=>some (none,7)
   | .inr x=>some (x.2,0))
  (some (none,v18))
theorem W60 {o:Option (List GUnit)} {below:Int} {r} (h:f60 o below=some r):callIso pr (X pr) 60 [sl 2 vunit o,.int .i64 below]=some (.tup [sl 1 vint r.1,.int .i64 r.2],false):=by
 unfold f60 at h
 obtain ⟨v10,h1,h⟩:=obind_some h
 obtain ⟨v14,h2,h⟩:=obind_some h
 obtain ⟨v16,h3,h⟩:=obind_some h
 obtain ⟨v18,h4,h⟩:=obind_some h
 have w1:=WE28 h1
 have w2:=WE89 h2
 have w3:=W117 h3
 have w4:callIso pr (X pr) 87 [.list false 1 [.int .i64 v10,.int .i64 v14,.int .i64 v16]]=some (.int .i64 v18,false):=WE87 h4
 rcases cond_split h with ⟨h5,h⟩ | ⟨h5,h⟩
 ·obtain ⟨d,h6,h⟩:=obind_some h
  have hl:X pr (.loop c60_0) (St60 o below 0)=some (Ex60 o below d):=X_itO b60 (fun d=>by rcases d with d | d <;> (intro hh; cases hh)) h6
  cases d with
  | inl i=>
   cases h
   simp only [St60,Ex60,H4] at hl
   have this:∃ hh,callFn pr (X pr) 60 [sl 2 vunit o,.int .i64 below] []=some (.tup [sl 1 vint (none:Option (List Int)),.int .i64 7],false,hh):=by
    rw [callFn_at (show pr.fns 60=some c60 from rfl) (by simp)]
    simp only [go_sem,seval,c60,w1,w2,w3,w4,h5,hl]
    exact ⟨_,rfl⟩
   obtain ⟨hh,this⟩:=this
   exact callIso_of rfl this (by first | rfl | simp only [go_sem,seval]) (by first | rfl | simp only [go_sem,seval])
  | inr x=>
   cases h
   simp only [St60,Ex60,H4,H6,E60] at hl
   have this:∃ hh,callFn pr (X pr) 60 [sl 2 vunit o,.int .i64 below] []=some (.tup [sl 1 vint x.2,.int .i64 0],false,hh):=by
    rw [callFn_at (show pr.fns 60=some c60 from rfl) (by simp)]
    simp only [go_sem,seval,c60,w1,w2,w3,w4,h5,hl]
    exact ⟨_,rfl⟩
   obtain ⟨hh,this⟩:=this
   exact callIso_of rfl this (by first | rfl | simp only [go_sem,seval]) (by first | rfl | simp only [go_sem,seval])
 ·cases h
  have this:∃ hh,callFn pr (X pr) 60 [sl 2 vunit o,.int .i64 below] []=some (.tup [sl 1 vint (none:Option (List Int)),.int .i64 v18],false,hh):=by
   rw [callFn_at (show pr.fns 60=some c60 from rfl) (by simp)]
   simp only [go_sem,seval,c60,w1,w2,w3,w4,h5]
   exact ⟨_,rfl⟩
  obtain ⟨hh,this⟩:=this
  exact callIso_of rfl this (by first | rfl | simp only [go_sem,seval]) (by first | rfl | simp only [go_sem,seval])
end Go.Z
/-
 LineProofs: the law: a function that mirrors the run,and the run (printed by walk.py).
-/
namespace Go.Z
open Go Go.Abs
end Go.Z
