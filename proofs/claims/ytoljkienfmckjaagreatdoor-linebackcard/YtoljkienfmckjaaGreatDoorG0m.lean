/-
  Slices that are written, arrays of numbers, own slices that grow: the pieces for the printed walks.
-/
import Derived.Test.YtoljkienfmckjaaGreatDoorG0
import Derived.Test.YtoljkienfmckjaaGreatDoorAbsL
import Derived.Test.YtoljkienfmckjaaGreatDoorL14
import Derived.Test.YtoljkienfmckjaaGreatDoorAbsH
set_option linter.unusedVariables false
set_option linter.unusedSimpArgs false
set_option maxRecDepth 100000
namespace Go.Z
open Go Go.Abs
section
variable {p:AProg} {xc:XC} {h0:Nat} {al:Option (List Nat)} {e:Env} {h:Heap} {α:Type}
def mkslR (h0 r sz bytes:Nat) (zero:List AVal) (h:Heap) (n c:Option AVal):Option ORes:=match n,c with
 | some (.int .i64 (.ofNat n)),some (.int .i64 (.ofNat c))=>
  bif Nat.beq n c && Nat.ble n 1073741824 && Nat.ble bytes 4096 && Nat.beq zero.length sz && Nat.blt 0 sz && zero.all isScalarCell then
   (match newBox h0 h r (.cells (cellsOf (List.replicate n zero).flatten)) with
    | some h'=>val h' (.ms (h0 + r) 0 n)
    | none=>none) else none
 | _,_=>none
@[go_sem] theorem s_mkslB {r sz b:Nat} {z:List AVal} {n c:AOpd}:stepOp p xc h0 al e h (.mkslice (some r) sz b z n c)=mkslR h0 r sz b z h (evalO e n) (evalO e c):=by
 simp only [stepOp,stepWrite,mkslR]
 rfl
def appBR (h0 r sz bytes:Nat) (h:Heap) (own:Option Nat) (x y:Option AVal):Option ORes:=match x,y with
 | some (.list false sz' []),some vy=>
  bif own.isSome && Nat.beq sz sz' then
   (match srcElems sz vy with
    | some ys=>
     bif Nat.ble ys.length 1073741824 && Nat.ble bytes 4096 && Nat.blt 0 sz then
      (match newBox h0 h r (.cells (cellsOf (ys.flatMap AVal.flat))) with
       | some h'=>some ⟨.ms (h0 + r) 0 ys.length,false,own,h'⟩
       | none=>none)
     else none
    | none=>none)
  else none
 | _,_=>none
@[go_sem] theorem s_appendB {r sz b:Nat} {x y:AOpd}:stepOp p xc h0 al e h (.append (some r) sz b x y)=appBR h0 r sz b h (isOwnTmp e x) (evalO e x) (evalO e y):=by
 simp only [stepOp,stepWrite,appBR]
 rfl
def boxOwn (own:Option Nat) (v:AVal) (r:Option Heap):Option ORes:=match r with
 | some h'=>some ⟨v,false,own,h'⟩
 | none=>none
@[go_sem] theorem boxOwn_some {own:Option Nat} {v:AVal}:boxOwn own v (some h)=some ⟨v,false,own,h⟩:=rfl
def sliceArrR (len sz:Nat) (h:Heap) (x:Option AVal) (lo hi:Option (Option AVal)):Option ORes:=match x with
 | some (.ptr b o)=>(match bndV len len hi with
  | some j=>(match bndV 0 j lo with
   | some i=>bif Nat.beq i 0 || Nat.blt i j then val h (.ms b (o + i * sz) (j - i)) else none
   | none=>none)
  | none=>none)
 | _=>none
@[go_sem] theorem s_sliceArr {len sz:Nat} {x:AOpd} {lo hi:Option AOpd}:stepOp p xc h0 al e h (.sliceArr len sz x lo hi)=sliceArrR len sz h (evalO e x) (lo.map (evalO e)) (hi.map (evalO e)):=by
 simp only [stepOp,stepPure,sliceArrR,bnd_V]
 cases evalO e x with
 | none=>rfl
 | some v=>cases v <;> rfl
@[go_sem] theorem sliceArr_all {len b o:Nat}:sliceArrR len 1 h (some (.ptr b o)) none none=some ⟨.ms b o len,false,none,h⟩:=by
 simp [sliceArrR,bndV,val]
def frzM (c:Option (List (AVal × Bool))) (off len:Nat):Option AVal:=match c with
 | some cs=>(match loadCellsA cs off len with
  | some vs=>some (.list false 1 vs)
  | none=>none)
 | none=>none
@[go_sem] theorem frzR_ms {b o n:Nat}:freezeR h (.ms b o n)=frzM (boxCells h b) o n:=by
 simp only [freezeR,freezeV,frzM]; rfl
@[go_sem] theorem nilEq_sl_t {z:Nat} {f:α→AVal} {o:Option (List α)}:nilEqR 0 true h (some (sl z f o))=some ⟨.bool (!o.isNone),false,none,h⟩:=by cases o <;> rfl
@[go_sem] theorem nilEq_sl_f {z:Nat} {f:α→AVal} {o:Option (List α)}:nilEqR 0 false h (some (sl z f o))=some ⟨.bool o.isNone,false,none,h⟩:=by cases o <;> rfl
theorem app_none {z b:Nat} {f:α→AVal} {x:α} {y:AVal} {o v:Option (List α)} (hz:0 < z) (hy:srcElems z y=some [f x]) (hn:o.isNone=true) (hv:apO o [x]=some v):appR z b h none (some (sl z f o)) (some y)=ifR (decide (b≤4096)) (some ⟨sl z f v,true,none,h⟩):=by
 cases o with
 | some l=>cases hn
 | none=>
  by_cases hb:b≤4096
  ·rw [app_gen hz hb hy hv (.inl rfl)]; simp [ifR,hb]
  ·have hb':decide (b≤4096)=false:=by simp [hb]
   rw [hb']
   simp [sl,appR,appR.appS,ifR,hb,hy,nat_ble]
theorem app_vint_N {b:Nat} {bb:Bool} {x:Int} {o v:Option (List Int)} (hv:apO o [x]=some v) (hn:o.isNone=true):appR 1 b h none (some (sl 1 vint o)) (some (.list bb 1 [.int .i64 x]))=ifR (decide (b≤4096)) (some ⟨sl 1 vint v,true,none,h⟩):=app_none (by omega) rfl hn hv
attribute [go_sem] Nat.le_refl
end
end Go.Z
/-
 A place's next.
-/
namespace Go.Z
open Go Go.Abs
theorem wrap_nat {i:Nat} (h:i < 9223372036854775807):wrapF .i64 ((i:Int) + 1)=((i + 1:Nat):Int):=by
 rw [wrapF_i64 (by omega) (by omega)]; rfl
end Go.Z
/-
 Maps of numbers to true: what is looked up,what is added.
-/
namespace Go.Z
open Go Go.Abs
def mapI (l:List Int):List (AVal × AVal):=l.map fun k=>(.int .i64 k,.bool true)
@[go_sem] theorem below_mapI {n:Nat}:∀ {l:List Int},belowBox n (.map (mapI l))=true
 | []=>rfl
 | x::l=>by
  have:=below_mapI (n:=n) (l:=l)
  simp only [belowBox] at this ⊢
  show (below n (.int .i64 x) && below n (.bool true) && belowEntries n (mapI l))=true
  rw [this]; rfl
end Go.Z
/-
 Runs with ghost places: loops; boxes of truth values; a box that is shut,a list that is thawed.
-/
namespace Go.Z
open Go Go.Abs
section
variable {p:AProg} {xc:XC} {h0:Nat} {al:Option (List Nat)} {e:Env} {h:Heap}
end
noncomputable def withP (p:AProg) (more:Prims) (op:Nat→Bool):AProg:={ fns:=p.fns,sprims:=p.sprims,prims:=fun k=>bif op k then none else match more k with
 | some f=>some f
 | none=>bif (p.fns k).isSome || (p.prims k).isSome || (p.sprims k).isSome then some fun args=>callIso p (X p) k args else none }
theorem callIso_known {p:AProg} {xc:XC} {k:Nat} {args:List AVal} {r:AVal × Bool} (h:callIso p xc k args=some r):((p.fns k).isSome || (p.prims k).isSome || (p.sprims k).isSome)=true:=by
 unfold callIso at h
 split at h
 ·rename_i f hf; simp [hf]
 ·split at h
  ·rename_i hc
   unfold callFn at hc
   split at hc
   ·rename_i f hf; simp [hf]
   ·split at hc
    ·rename_i f hf; simp [hf]
    ·cases hc
  ·cases h
theorem withP_call {p:AProg} {more:Prims} {op:Nat→Bool} {k:Nat} (ho:op k=false) (hm:more k=none) {xc:XC} {args:List AVal} {v:AVal} {o:Bool} (h:callIso p (X p) k args=some (v,o)) (hv:pureV v=true):callIso (withP p more op) xc k args=some (v,o):=by
 have hk:=callIso_known h
 unfold callIso
 have:(withP p more op).prims k=some fun args=>callIso p (X p) k args:=by simp only [withP,ho,cond_false,hm,hk,cond_true]
 rw [this]
 simp only [h,hv,cond_true]
theorem withP_more {p:AProg} {more:Prims} {op:Nat→Bool} {k:Nat} {f:List AVal→Option (AVal × Bool)} (ho:op k=false) (hm:more k=some f) {xc:XC} {args:List AVal} {v:AVal} {o:Bool} (h:f args=some (v,o)) (hv:pureV v=true):callIso (withP p more op) xc k args=some (v,o):=by
 unfold callIso
 have:(withP p more op).prims k=some f:=by simp only [withP,ho,cond_false,hm]
 rw [this]
 simp only [h,hv,cond_true]
theorem withP_ok {P:Program} {p:AProg} {more:Prims} {op:Nat→Bool} (hp:ProgOk P p) (hm:∀ k f,more k=some f→Enters P k∧∀ args v o,f args=some (v,o)→pureV v=true→belowL 0 args=true→IsoCall P k args v o):ProgOk P (withP p more op) where
 fn:=hp.fn
 prim:=by
  intro k f hf
  cases ho:op k with
  | true=>
   have:(withP p more op).prims k=none:=by simp only [withP,ho,cond_true]
   rw [this] at hf; cases hf
  | false=>
  cases hmk:more k with
  | some g=>
   have:(withP p more op).prims k=some g:=by simp only [withP,ho,cond_false,hmk]
   rw [this] at hf
   cases hf
   exact hm k _ hmk
  | none=>
   cases hk:((p.fns k).isSome || (p.prims k).isSome || (p.sprims k).isSome) with
   | false=>
    have:(withP p more op).prims k=none:=by simp only [withP,ho,hmk,hk,cond_false]
    rw [this] at hf; cases hf
   | true=>
    have:(withP p more op).prims k=some fun args=>callIso p (X p) k args:=by simp only [withP,ho,cond_false,hmk,hk,cond_true]
    rw [this] at hf
    cases hf
    refine ⟨?_,fun args v o h _ hb=>callX_ok hp h hb⟩
    simp only [Bool.or_eq_true] at hk
    rcases hk with (h | h) | h
    ·obtain ⟨af,ha⟩:=Option.isSome_iff_exists.1 h
     exact hp.enters ha
    ·obtain ⟨g,hg⟩:=Option.isSome_iff_exists.1 h
     exact (hp.prim k g hg).1
    ·obtain ⟨g,hg⟩:=Option.isSome_iff_exists.1 h
     exact (hp.sprim k g hg).1
 mixed:=hp.mixed
 sprim:=hp.sprim
end Go.Z
