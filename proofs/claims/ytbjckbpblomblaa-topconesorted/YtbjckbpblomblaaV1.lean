/-
  LineProofs: the reference's functions, the checks: functions that mirror the runs, and the runs (printed by walk.py).
-/
import Derived.Test.YtbjckbpblomblaaR5
set_option linter.unusedVariables false
set_option linter.unusedSimpArgs false
set_option maxRecDepth 100000
set_option maxHeartbeats 4000000
namespace Go.Z
open Go Go.Abs
noncomputable def f24 (a0:Int):Option Int:=
 obind (E49 a0 1 200001) fun v1=>
 some v1
theorem W24 {a0:Int} {r} (h:f24 a0=some r):callIso pr (X pr) 24 [.int .i64 a0]=some (.int .i64 r,false):=by
 unfold f24 at h
 obtain ⟨v1,h2,h⟩:=obind_some h
 have wh2:callIso pr (X pr) 43 [.int .i64 a0,.int .i64 1,.int .i64 200001]=some (.int .i64 v1,false):=WE43 h2
 have hr:v1=r:=Option.some.inj h
 subst hr
 have this:∃ hh,callFn pr (X pr) 24 [.int .i64 a0] []=some (.int .i64 v1,false,hh):=by
  rw [callFn_at (show pr.fns 24=some c24 from rfl) (by simp)]
  simp only [go_sem,seval,c24,wh2]
  exact ⟨_,rfl⟩
 obtain ⟨hh,this⟩:=this
 exact callIso_of rfl this (by first | rfl | simp only [go_sem,seval]) (by first | rfl | simp only [go_sem,seval])
noncomputable def f47 (a0:Option (List Int)) (a1:Int):Option Bool:=
 obind (f65 a0 a1) fun v1=>
 some (decide (0≤v1))
theorem W47 {a0:Option (List Int)} {a1:Int} {r} (h:f47 a0 a1=some r):callIso pr (X pr) 47 [sl 1 vint a0,.int .i64 a1]=some (.bool r,false):=by
 unfold f47 at h
 obtain ⟨v1,h2,h⟩:=obind_some h
 have wh2:callIso pr (X pr) 65 [sl 1 vint a0,.int .i64 a1]=some (.int .i64 v1,false):=W65 h2
 have hr:decide (0≤v1)=r:=Option.some.inj h
 subst hr
 have this:∃ hh,callFn pr (X pr) 47 [sl 1 vint a0,.int .i64 a1] []=some (.bool (decide (0≤v1)),false,hh):=by
  rw [callFn_at (show pr.fns 47=some c47 from rfl) (by simp)]
  simp only [go_sem,seval,c47,wh2]
  exact ⟨_,rfl⟩
 obtain ⟨hh,this⟩:=this
 exact callIso_of rfl this (by first | rfl | simp only [go_sem,seval]) (by first | rfl | simp only [go_sem,seval])
end Go.Z
/-
 LineProofs: the product's part of a set: a function that mirrors the run,and the run,on any heap behind the set.
-/
namespace Go.Z
open Go Go.Abs
abbrev RecP:=Option (List GUnit)→Int→Int→List Int→Option (Int × List Int)
noncomputable def s48 (rec:RecP) (o:Option (List GUnit)) (below frm:Int) (s:Int × Int × List Int):Option ((Int × Int × List Int) ⊕ (Int × Int × List Int)):=
 cond (decide (s.2.1 < ((o.getD []).length:Int)))
  (obind (idxO (o.getD []) s.2.1) fun u=>
   cond (memI s.2.2 s.2.1)
    (obind (idxO (o.getD []) frm) fun w=>
     obind (f42 w u) fun d=>
     cond (decide (d < below))
      (obind (rec o below s.2.1 s.2.2) fun r=>some (.inl (wrapF .i64 (s.1 + r.1),wrapF .i64 (s.2.1 + 1),r.2)))
      (some (.inl (s.1,wrapF .i64 (s.2.1 + 1),s.2.2))))
    (some (.inl (s.1,wrapF .i64 (s.2.1 + 1),s.2.2))))
  (some (.inr s))
noncomputable def F48 (rec:RecP):RecP:=fun o below frm m=>
 obind (itO (s48 rec o below frm) (1,0,m.erase frm)) fun d=>some (d.1,d.2.2)
noncomputable def f48:Nat→RecP
 | 0=>fun _ _ _ _=>none
 | n + 1=>F48 (f48 n)
theorem erase_entry:∀ (l:List Int) (i:Nat) (k:Int),l[i]?=some k→(∀ j,j < i→l[j]? ≠ some k)→(mapI l).eraseIdx i=mapI (l.erase k)
 | [],i,k,h,_=>by simp at h
 | x::l,0,k,h,_=>by
  have:x=k:=by simpa using h
  subst this
  simp [mapI]
 | x::l,i + 1,k,h,hn=>by
  have hne:x ≠ k:=by
   intro e
   have:=hn 0 (by omega)
   simp [e] at this
  have ih:=erase_entry l i k (by simpa using h) (fun j hj=>by have:=hn (j + 1) (by omega); simpa using this)
  rw [List.erase_cons_tail (by simpa using hne)]
  show (AVal.int .i64 x,AVal.bool true)::(mapI l).eraseIdx i=_
  rw [ih]; rfl
theorem findFirst (k:Int):∀ (l:List Int) (i:Nat),memI l k=true→∃ j,findEntry .int (.int .i64 k) (mapI l) i=some (some (i + j,.bool true))∧l[j]?=some k∧∀ t,t < j→l[t]? ≠ some k
 | [],i,h=>by simp [memI] at h
 | x::l,i,h=>by
  have he:findEntry .int (.int .i64 k) (mapI (x::l)) i=match (some (k == x):Option Bool) with
   | some true=>some (some (i,.bool true))
   | some false=>findEntry .int (.int .i64 k) (mapI l) (i + 1)
   | none=>none:=rfl
  have hm:memI (x::l) k=(k == x || memI l k):=by unfold memI; rw [List.contains_cons]
  rw [he]
  rw [hm] at h
  cases hx:(k == x) with
  | true=>exact ⟨0,rfl,by simp at hx; simp [hx],fun t ht=>by omega⟩
  | false=>
   rw [hx,Bool.false_or] at h
   obtain ⟨j,g1,g2,g3⟩:=findFirst k l (i + 1) h
   refine ⟨j + 1,by rw [show i + (j + 1)=i + 1 + j by omega]; exact g1,by simpa using g2,fun t ht=>?_⟩
   cases t with
   | zero=>simp at hx ⊢; exact fun e=>hx e.symm
   | succ t=>have:=g3 t (by omega); simpa using this
theorem delI_O {h:Heap} {b:Nat} {l:List Int} {k:Int}:∃ e,findEntry .int (.int .i64 k) (mapI l) 0=some e∧delEntry (mapI l) e=mapI (l.erase k):=by
 cases hm:memI l k with
 | false=>
  refine ⟨none,(findI k l 0).1 hm,?_⟩
  have:k ∉ l:=by unfold memI at hm; rw [List.contains_eq_mem] at hm; simpa using hm
  rw [List.erase_of_not_mem this]; rfl
 | true=>
  obtain ⟨j,h1,h2,h3⟩:=findFirst k l 0 hm
  refine ⟨_,h1,?_⟩
  rw [Nat.zero_add]
  exact erase_entry l j k h2 h3
theorem tail_get {T:Heap} {b:ABox}:(T++[b])[T.length]?=some b:=by simp
theorem dec_pos {n:Nat}:decide (0 < n + 1)=true:=by simp
theorem dec_succ {n:Nat}:decide (n < n + 1)=true:=by simp
theorem tail_set {T:Heap} {b b':ABox}:(T++[b]).set T.length b'=T++[b']:=by simp
def pcL:ACode→ACode
 | .seq a _=>a
 | x=>x
def pcR:ACode→ACode
 | .seq _ b=>b
 | x=>x
def pcB:ACode→ACode
 | .block _ b=>b
 | x=>x
def a144H:ACode:=pcL c48_0
def a144C:ACode:=pcL (pcR c48_0)
def a144B:ACode:=pcB (pcL (pcR (pcR c48_0)))
def a144a:ACode:=pcL a144B
def a144b:ACode:=pcL (pcR a144B)
def a144c:ACode:=pcR (pcR a144B)
def a144E:ACode:=pcR (pcR (pcR c48_0))
theorem c48_0_eq:c48_0=.seq a144H (.seq a144C (.seq (.block 1 (.seq a144a (.seq a144b a144c))) a144E)):=rfl
section
variable {p:AProg} {o:Option (List GUnit)} {below frm:Int} {T:Heap}
def St48 (o:Option (List GUnit)) (below frm:Int) (T:Heap) (s:Int × Int × List Int):ASt:=
 ⟨[(0,sl 2 vunit o,false),(1,.int .i64 below,false),(2,.int .i64 frm,false),(3,.map 0,false),(9,.int .i64 s.1,false),(14,sl 2 vunit o,false),(15,.int .i64 ((o.getD []).length:Int),false),(16,.int .i64 s.2.1,false)],.map (mapI s.2.2)::T⟩
theorem r144a {c i:Int} {m:List Int} {u:GUnit} (hu:idxO (o.getD []) i=some u):X p a144a ⟨[(0,sl 2 vunit o,false),(1,.int .i64 below,false),(2,.int .i64 frm,false),(3,.map 0,false),(9,.int .i64 c,false),(14,sl 2 vunit o,false),(15,.int .i64 ((o.getD []).length:Int),false),(16,.int .i64 i,false),(17,.bool true,false)],.map (mapI m)::T⟩ =
  some (.normal,⟨[(0,sl 2 vunit o,false),(1,.int .i64 below,false),(2,.int .i64 frm,false),(3,.map 0,false),(9,.int .i64 c,false),(10,.int .i64 i,false),(11,.ptr (T.length + 1) 0,false),(14,sl 2 vunit o,false),(15,.int .i64 ((o.getD []).length:Int),false),(16,.int .i64 i,false)],.map (mapI m)::(T++[.cells [(.str u.serial,false),(sl 1 vint u.values,false)]])⟩):=by
 simp only [go_sem,seval,a144a,a144B,pcL,pcR,pcB,c48_0,idxR_O hu,Nat.add_zero,Nat.zero_add,tail_get,tail_set,dec_pos,dec_succ,List.set_cons_succ,List.getElem?_cons_succ,List.length_append,List.length_cons,List.length_nil] <;> rfl
theorem r144n {c i:Int} {m:List Int} {u:GUnit} (hm:memI m i=false):X p a144b ⟨[(0,sl 2 vunit o,false),(1,.int .i64 below,false),(2,.int .i64 frm,false),(3,.map 0,false),(9,.int .i64 c,false),(10,.int .i64 i,false),(11,.ptr (T.length + 1) 0,false),(14,sl 2 vunit o,false),(15,.int .i64 ((o.getD []).length:Int),false),(16,.int .i64 i,false)],.map (mapI m)::(T++[.cells [(.str u.serial,false),(sl 1 vint u.values,false)]])⟩ =
  some (.normal,⟨[(0,sl 2 vunit o,false),(1,.int .i64 below,false),(2,.int .i64 frm,false),(3,.map 0,false),(9,.int .i64 c,false),(10,.int .i64 i,false),(14,sl 2 vunit o,false),(15,.int .i64 ((o.getD []).length:Int),false),(16,.int .i64 i,false),(33,.bool false,false)],.map (mapI m)::(T++[.cells [(.str u.serial,false),(sl 1 vint u.values,false)]])⟩):=by
 simp only [go_sem,seval,a144b,a144B,pcL,pcR,pcB,c48_0,lookI,hm,Nat.add_zero,Nat.zero_add,tail_get,tail_set,dec_pos,dec_succ,List.set_cons_succ,List.getElem?_cons_succ,List.length_append,List.length_cons,List.length_nil] <;> rfl
theorem r144y {c i d:Int} {m:List Int} {u w:GUnit} (hm:memI m i=true) (hw:idxO (o.getD []) frm=some w) (hd:callIso p (X p) 42 [.agg [.str w.serial,sl 1 vint w.values],.agg [.str u.serial,sl 1 vint u.values]]=some (.int .i64 d,false)):
  X p a144b ⟨[(0,sl 2 vunit o,false),(1,.int .i64 below,false),(2,.int .i64 frm,false),(3,.map 0,false),(9,.int .i64 c,false),(10,.int .i64 i,false),(11,.ptr (T.length + 1) 0,false),(14,sl 2 vunit o,false),(15,.int .i64 ((o.getD []).length:Int),false),(16,.int .i64 i,false)],.map (mapI m)::(T++[.cells [(.str u.serial,false),(sl 1 vint u.values,false)]])⟩ =
  some (.normal,⟨[(0,sl 2 vunit o,false),(1,.int .i64 below,false),(2,.int .i64 frm,false),(3,.map 0,false),(9,.int .i64 c,false),(10,.int .i64 i,false),(14,sl 2 vunit o,false),(15,.int .i64 ((o.getD []).length:Int),false),(16,.int .i64 i,false),(33,.bool (decide (d < below)),false)],.map (mapI m)::(T++[.cells [(.str u.serial,false),(sl 1 vint u.values,false)]])⟩):=by
 simp only [go_sem,seval,a144b,a144B,pcL,pcR,pcB,c48_0,lookI,hm,idxR_O hw,hd,Nat.add_zero,Nat.zero_add,tail_get,tail_set,dec_pos,dec_succ,List.set_cons_succ,List.getElem?_cons_succ,List.length_append,List.length_cons,List.length_nil] <;> rfl
theorem r144f {c i:Int} {m:List Int} {u:GUnit}:X p a144c ⟨[(0,sl 2 vunit o,false),(1,.int .i64 below,false),(2,.int .i64 frm,false),(3,.map 0,false),(9,.int .i64 c,false),(10,.int .i64 i,false),(14,sl 2 vunit o,false),(15,.int .i64 ((o.getD []).length:Int),false),(16,.int .i64 i,false),(33,.bool false,false)],.map (mapI m)::(T++[.cells [(.str u.serial,false),(sl 1 vint u.values,false)]])⟩ =
  some (.normal,⟨[(0,sl 2 vunit o,false),(1,.int .i64 below,false),(2,.int .i64 frm,false),(3,.map 0,false),(9,.int .i64 c,false),(10,.int .i64 i,false),(14,sl 2 vunit o,false),(15,.int .i64 ((o.getD []).length:Int),false),(16,.int .i64 i,false),(33,.bool false,false)],.map (mapI m)::(T++[.cells [(.str u.serial,false),(sl 1 vint u.values,false)]])⟩):=by
 simp only [go_sem,seval,a144c,a144B,pcL,pcR,pcB,c48_0] <;> rfl
theorem after_same {n:Nat} {v:AVal} {h:Heap} (hn:h.length=n):afterShared n v h=h:=by
 unfold afterShared
 rw [Nat.ble_eq_true_of_le (by omega)]; rfl
theorem r144t {c i:Int} {m m':List Int} {u:GUnit} {r:Int} (hr:callFn p (X p) 48 [sl 2 vunit o,.int .i64 below,.int .i64 i,.map 0] (.map (mapI m)::(T++[.cells [(.str u.serial,false),(sl 1 vint u.values,false)]]))=some (.int .i64 r,false,.map (mapI m')::(T++[.cells [(.str u.serial,false),(sl 1 vint u.values,false)]]))):
  X p a144c ⟨[(0,sl 2 vunit o,false),(1,.int .i64 below,false),(2,.int .i64 frm,false),(3,.map 0,false),(9,.int .i64 c,false),(10,.int .i64 i,false),(14,sl 2 vunit o,false),(15,.int .i64 ((o.getD []).length:Int),false),(16,.int .i64 i,false),(33,.bool true,false)],.map (mapI m)::(T++[.cells [(.str u.serial,false),(sl 1 vint u.values,false)]])⟩ =
  some (.normal,⟨[(0,sl 2 vunit o,false),(1,.int .i64 below,false),(2,.int .i64 frm,false),(3,.map 0,false),(9,.int .i64 (wrapF .i64 (c + r)),false),(14,sl 2 vunit o,false),(15,.int .i64 ((o.getD []).length:Int),false),(16,.int .i64 i,false)],.map (mapI m')::(T++[.cells [(.str u.serial,false),(sl 1 vint u.values,false)]])⟩):=by
 have ha:∀ v,afterShared (ABox.map (mapI m)::(T++[.cells [(.str u.serial,false),(sl 1 vint u.values,false)]])).length v (.map (mapI m')::(T++[.cells [(.str u.serial,false),(sl 1 vint u.values,false)]]))=.map (mapI m')::(T++[.cells [(.str u.serial,false),(sl 1 vint u.values,false)]]):=fun v=>after_same (by simp)
 simp only [go_sem,seval,a144c,a144B,pcL,pcR,pcB,c48_0,hr,ha] <;> rfl
def TailOk (T:Heap):Prop:=∀ n,T.length < n→belowHeap n T=true
theorem belowHeap_app {n:Nat}:∀ {T U:Heap},belowHeap n (T++U)=(belowHeap n T && belowHeap n U)
 | [],U=>rfl
 | b::T,U=>by
  show (belowBox n b && belowHeap n (T++U))=_
  rw [belowHeap_app,← Bool.and_assoc]; rfl
theorem tailOk_unit (hT:TailOk T) (u:GUnit):TailOk (T++[.cells [(.str u.serial,false),(sl 1 vint u.values,false)]]):=by
 intro n hn
 rw [belowHeap_app,hT n (by simp at hn; omega)]
 simp only [go_sem,seval,Bool.true_and] <;> rfl
theorem r144Ea {c i:Int} {H:Heap}:X p a144E ⟨[(0,sl 2 vunit o,false),(1,.int .i64 below,false),(2,.int .i64 frm,false),(3,.map 0,false),(9,.int .i64 c,false),(14,sl 2 vunit o,false),(15,.int .i64 ((o.getD []).length:Int),false),(16,.int .i64 i,false)],H⟩=some (.normal,⟨[(0,sl 2 vunit o,false),(1,.int .i64 below,false),(2,.int .i64 frm,false),(3,.map 0,false),(9,.int .i64 c,false),(14,sl 2 vunit o,false),(15,.int .i64 ((o.getD []).length:Int),false),(16,.int .i64 (wrapF .i64 (i + 1)),false)],H⟩):=by
 simp only [go_sem,seval,a144E,pcR,c48_0] <;> rfl
theorem r144Eb {c i:Int} {H:Heap}:X p a144E ⟨[(0,sl 2 vunit o,false),(1,.int .i64 below,false),(2,.int .i64 frm,false),(3,.map 0,false),(9,.int .i64 c,false),(10,.int .i64 i,false),(14,sl 2 vunit o,false),(15,.int .i64 ((o.getD []).length:Int),false),(16,.int .i64 i,false),(33,.bool false,false)],H⟩=some (.normal,⟨[(0,sl 2 vunit o,false),(1,.int .i64 below,false),(2,.int .i64 frm,false),(3,.map 0,false),(9,.int .i64 c,false),(14,sl 2 vunit o,false),(15,.int .i64 ((o.getD []).length:Int),false),(16,.int .i64 (wrapF .i64 (i + 1)),false)],H⟩):=by
 simp only [go_sem,seval,a144E,pcR,c48_0] <;> rfl
theorem r144H {s:Int × Int × List Int}:X p a144H (St48 o below frm T s)=some (.normal,⟨[(0,sl 2 vunit o,false),(1,.int .i64 below,false),(2,.int .i64 frm,false),(3,.map 0,false),(9,.int .i64 s.1,false),(14,sl 2 vunit o,false),(15,.int .i64 ((o.getD []).length:Int),false),(16,.int .i64 s.2.1,false),(17,.bool (decide (s.2.1 < ((o.getD []).length:Int))),false)],.map (mapI s.2.2)::T⟩):=by
 simp only [go_sem,seval,a144H,pcL,c48_0,St48] <;> rfl
def Ex48 (o:Option (List GUnit)) (below frm:Int) (T:Heap) (s:Int × Int × List Int):AExit × ASt:=
 (.exit 0,⟨[(0,sl 2 vunit o,false),(1,.int .i64 below,false),(2,.int .i64 frm,false),(3,.map 0,false),(9,.int .i64 s.1,false),(14,sl 2 vunit o,false),(15,.int .i64 ((o.getD []).length:Int),false),(16,.int .i64 s.2.1,false),(17,.bool false,false)],.map (mapI s.2.2)::T⟩)
theorem gc_144 (hT:TailOk T) {s:Int × Int × List Int} {c i:Int} {m:List Int} {u:GUnit}:gc (St48 o below frm T s).heap.length ⟨[(0,sl 2 vunit o,false),(1,.int .i64 below,false),(2,.int .i64 frm,false),(3,.map 0,false),(9,.int .i64 c,false),(14,sl 2 vunit o,false),(15,.int .i64 ((o.getD []).length:Int),false),(16,.int .i64 i,false)],.map (mapI m)::(T++[.cells [(.str u.serial,false),(sl 1 vint u.values,false)]])⟩=⟨[(0,sl 2 vunit o,false),(1,.int .i64 below,false),(2,.int .i64 frm,false),(3,.map 0,false),(9,.int .i64 c,false),(14,sl 2 vunit o,false),(15,.int .i64 ((o.getD []).length:Int),false),(16,.int .i64 i,false)],.map (mapI m)::T⟩:=by
 have hl:(St48 o below frm T s).heap.length=T.length + 1:=rfl
 rw [hl]
 refine gc_over (h:=.map (mapI m)::T) (h':=[.cells [(.str u.serial,false),(sl 1 vint u.values,false)]]) rfl rfl ?_ ?_
 ·simp only [go_sem,seval,belowEnv] <;> rfl
 ·show (belowBox (T.length + 1) (.map (mapI m)) && belowHeap (T.length + 1) T)=true
  rw [hT _ (by omega),below_mapI]; rfl
theorem b48 {rec:RecP} (hT:TailOk T) (hrec:∀ {T:Heap} {i:Int} {m:List Int} {r},TailOk T→rec o below i m=some r→callFn pr (X pr) 48 [sl 2 vunit o,.int .i64 below,.int .i64 i,.map 0] (.map (mapI m)::T)=some (.int .i64 r.1,false,.map (mapI r.2)::T))
  (s:Int × Int × List Int) (r) (h:s48 rec o below frm s=some r):stepO pr c48_0 (St48 o below frm T) (Ex48 o below frm T) s r:=by
 obtain ⟨c,i,m⟩:=s
 have hH:=r144H (p:=pr) (o:=o) (below:=below) (frm:=frm) (T:=T) (s:=(c,i,m))
 unfold s48 at h
 simp only [] at h hH
 rcases cond_split h with ⟨h1,h⟩ | ⟨h1,h⟩
 ·rw [h1] at hH
  have hC:X pr a144C ⟨[(0,sl 2 vunit o,false),(1,.int .i64 below,false),(2,.int .i64 frm,false),(3,.map 0,false),(9,.int .i64 c,false),(14,sl 2 vunit o,false),(15,.int .i64 ((o.getD []).length:Int),false),(16,.int .i64 i,false),(17,.bool true,false)],.map (mapI m)::T⟩=some (.normal,⟨[(0,sl 2 vunit o,false),(1,.int .i64 below,false),(2,.int .i64 frm,false),(3,.map 0,false),(9,.int .i64 c,false),(14,sl 2 vunit o,false),(15,.int .i64 ((o.getD []).length:Int),false),(16,.int .i64 i,false),(17,.bool true,false)],.map (mapI m)::T⟩):=by
   simp only [go_sem,seval,a144C,pcL,pcR,c48_0] <;> rfl
  obtain ⟨u,h2,h⟩:=obind_some h
  have ha:=r144a (p:=pr) (below:=below) (frm:=frm) (T:=T) (c:=c) (m:=m) h2
  rcases cond_split h with ⟨h3,h⟩ | ⟨h3,h⟩
  ·obtain ⟨w,h4,h⟩:=obind_some h
   obtain ⟨d,h5,h⟩:=obind_some h
   have hb:=r144y (p:=pr) (below:=below) (T:=T) (c:=c) (u:=u) h3 h4 (W42 h5)
   rcases cond_split h with ⟨h6,h⟩ | ⟨h6,h⟩
   ·obtain ⟨r',h7,h⟩:=obind_some h
    cases h
    rw [h6] at hb
    have hc:=r144t (p:=pr) (frm:=frm) (T:=T) (c:=c) (u:=u) (hrec (tailOk_unit hT u) h7)
    refine stepO_in (st':=⟨_,_⟩) ?_ (gc_144 (u:=u) hT)
    rw [c48_0_eq]
    simp only [go_sem,seval,hH,hC,ha,hb,hc,r144Ea]
   ·cases h
    rw [h6] at hb
    refine stepO_in (st':=⟨_,_⟩) ?_ (gc_144 (u:=u) hT)
    rw [c48_0_eq]
    simp only [go_sem,seval,hH,hC,ha,hb,r144f,r144Eb]
  ·cases h
   have hb:=r144n (p:=pr) (o:=o) (below:=below) (frm:=frm) (T:=T) (c:=c) (u:=u) h3
   refine stepO_in (st':=⟨_,_⟩) ?_ (gc_144 (u:=u) hT)
   rw [c48_0_eq]
   simp only [go_sem,seval,hH,hC,ha,hb,r144f,r144Eb]
 ·cases h
  rw [h1] at hH
  have hC:X pr a144C ⟨[(0,sl 2 vunit o,false),(1,.int .i64 below,false),(2,.int .i64 frm,false),(3,.map 0,false),(9,.int .i64 c,false),(14,sl 2 vunit o,false),(15,.int .i64 ((o.getD []).length:Int),false),(16,.int .i64 i,false),(17,.bool false,false)],.map (mapI m)::T⟩=some (.exit 0,⟨[(0,sl 2 vunit o,false),(1,.int .i64 below,false),(2,.int .i64 frm,false),(3,.map 0,false),(9,.int .i64 c,false),(14,sl 2 vunit o,false),(15,.int .i64 ((o.getD []).length:Int),false),(16,.int .i64 i,false),(17,.bool false,false)],.map (mapI m)::T⟩):=by
   simp only [go_sem,seval,a144C,pcL,pcR,c48_0] <;> rfl
  refine stepO_out ?_
  rw [c48_0_eq]
  simp only [go_sem,seval,hH,hC,Ex48]
end
theorem s_delI {p:AProg} {xc:XC} {h0:Nat} {e:Env} {T:Heap} {m:List Int} {k:Int} {x y:AOpd} (hx:evalO e x=some (.map 0)) (hy:evalO e y=some (.int .i64 k)):
  stepOp p xc h0 none e (.map (mapI m)::T) (.delete .int x y)=some ⟨.tup [],false,none,.map (mapI (m.erase k))::T⟩:=by
 obtain ⟨r,h1,h2⟩:=delI_O (h:=T) (b:=0) (l:=m) (k:=k)
 show stepWrite h0 none e (.map (mapI m)::T) (.delete .int x y)=_
 simp only [stepWrite,hx,hy,okBox,cond_true,getBox,List.getElem?_cons_zero,h1,h2]
 rfl
theorem W48 {o:Option (List GUnit)} {below:Int}:∀ (n:Nat) {T:Heap} {frm:Int} {m:List Int} {r},TailOk T→f48 n o below frm m=some r→callFn pr (X pr) 48 [sl 2 vunit o,.int .i64 below,.int .i64 frm,.map 0] (.map (mapI m)::T)=some (.int .i64 r.1,false,.map (mapI r.2)::T)
 | 0,_,_,_,_,_,h=>by cases h
 | n + 1,T,frm,m,r,hT,h=>by
  have h:F48 (f48 n) o below frm m=some r:=h
  unfold F48 at h
  obtain ⟨d,h1,h⟩:=obind_some h
  cases h
  have hl:X pr (.loop c48_0) (St48 o below frm T (1,0,m.erase frm))=some (Ex48 o below frm T d):=X_itO (b48 hT (fun hT' h'=>W48 n hT' h')) (fun d hh=>by cases hh) h1
  unfold St48 Ex48 at hl
  simp only [] at hl
  rw [callFn_at (show pr.fns 48=some c48 from rfl) (by simp)]
  simp only [go_sem,seval,c48]
  rw [s_delI rfl rfl]
  simp only [go_sem,seval,hl] <;> rfl
end Go.Z
