/-
  Slices that are written, arrays of numbers, own slices that grow: the pieces for the printed walks.
-/
import Derived.Test.YtlonjmhacojkjaaGreatDoorG0
import Derived.Test.YtlonjmhacojkjaaGreatDoorAbsL
import Derived.Test.YtlonjmhacojkjaaGreatDoorL14
import Derived.Test.YtlonjmhacojkjaaGreatDoorAbsH
set_option linter.unusedVariables false
set_option linter.unusedSimpArgs false
set_option maxRecDepth 100000
namespace Go.Z
open Go Go.Abs
section
variable {p:AProg} {xc:XC} {h0:Nat} {al:Option (List Nat)} {e:Env} {h:Heap} {α:Type}
def icl (xs:List Int):List (AVal × Bool):=xs.map fun x=>(.int .i64 x,false)
theorem icl_len {xs:List Int}:(icl xs).length=xs.length:=by simp [icl]
def idxM (n:Nat) (l:List Int) (i:Int):Option Int:=if 0≤i∧i < n then l[i.toNat]? else none
theorem idxM_some {n:Nat} {l:List Int} {i v:Int} (hv:idxM n l i=some v):0≤i∧i < n∧l[i.toNat]?=some v:=by
 unfold idxM at hv
 split at hv
 ·next hi=>exact ⟨hi.1,hi.2,hv⟩
 ·cases hv
theorem idx_ms_O {n b:Nat} {k:IntKind} {l:List Int} {i v:Int} (hv:idxM n l i=some v):idxR 1 h (some (.ms b 0 n)) (some (.int k i))=some ⟨.ptr b i.toNat,false,none,h⟩:=by
 obtain ⟨h1,h2,_⟩:=idxM_some hv
 simp only [idxR,idx_int,idxI_in h1 h2,val,Nat.zero_add,Nat.mul_one]
theorem ld_icl {l:List Int} {i:Nat} {v:Int} (hv:l[i]?=some v):loadCellsA (icl l) i 1=some [.int .i64 v]:=by
 obtain ⟨h1,h2⟩:=List.getElem?_eq_some_iff.1 hv
 simp only [loadCells_eq,icl_len,show i + 1≤l.length by omega,decide_true,ldC_true]
 have hd:(icl l).drop i=(.int .i64 v,false)::(icl l).drop (i + 1):=by
  have:(icl l)[i]?=some (.int .i64 v,false):=by simp [icl,hv]
  exact drop_cons this
 rw [hd]
 rfl
theorem st_icl {l:List Int} {i:Nat} {v x:Int} (hv:l[i]?=some v):storeCellsA (icl l) i [.int .i64 x]=some (icl (l.set i x)):=by
 obtain ⟨h1,h2⟩:=List.getElem?_eq_some_iff.1 hv
 simp only [storeCells_eq,icl_len,List.length_cons,List.length_nil,show i + (0 + 1)≤l.length by omega,decide_true,List.all_cons,List.all_nil,sc_int,Bool.and_self,stC_true,List.map_cons,List.map_nil]
 congr 1
 unfold icl
 rw [List.map_set,List.set_eq_take_append_cons_drop,if_pos (by rw [List.length_map]; exact h1),List.append_assoc]
 rfl
theorem ld_ms_O {n:Nat} {l:List Int} {i v:Int} (hv:idxM n l i=some v):loadCellsA (icl l) i.toNat 1=some [.int .i64 v]:=ld_icl (idxM_some hv).2.2
theorem st_ms_O {n:Nat} {l:List Int} {i v x:Int} (hv:idxM n l i=some v):storeCellsA (icl l) i.toNat [.int .i64 x]=some (icl (l.set i.toNat x)):=st_icl (idxM_some hv).2.2
def mkO (n:Nat):Option (List Int):=if n≤1073741824 then some (List.replicate n 0) else none
def mkslR (h0 r sz bytes:Nat) (zero:List AVal) (h:Heap) (n c:Option AVal):Option ORes:=match n,c with
 | some (.int .i64 (.ofNat n)),some (.int .i64 (.ofNat c))=>
  bif Nat.beq n c && Nat.ble n 1073741824 && Nat.ble bytes 4096 && Nat.beq zero.length sz && Nat.blt 0 sz && zero.all isScalarCell then
   (match newBox h0 h r (.cells (cellsOf (List.replicate n zero).flatten)) with
    | some h'=>val h' (.ms (h0 + r) 0 n)
    | none=>none) else none
 | _,_=>none
@[go_sem] theorem s_mkslB {r sz b:Nat} {z:List AVal} {n c:AOpd}:stepOp p xc h0 al e h (.mkslice (some r) sz b z n c)=mkslR h0 r sz b z h (evalO e n) (evalO e c):=by
 simp only [stepOp,stepWrite,mkslR]
 rfl
theorem cells_repl {n:Nat}:cellsOf (List.replicate n [AVal.int .i64 0]).flatten=icl (List.replicate n 0):=by
 induction n with
 | zero=>rfl
 | succ n ih=>simp only [List.replicate_succ,List.flatten_cons]; simp only [cellsOf,icl] at ih ⊢; simp only [List.map_append,ih]; rfl
theorem mksl_O {r b n:Nat} {v:List Int} (hv:mkO n=some v):mkslR h0 r 1 b [.int .i64 0] h (some (.int .i64 (n:Int))) (some (.int .i64 (n:Int)))=ifR (decide (b≤4096)) (newR (newBox h0 h r (.cells (icl v))) (.ms (h0 + r) 0 n)):=by
 unfold mkO at hv
 split at hv
 ·next hn=>
  cases hv
  show (bif Nat.beq n n && Nat.ble n 1073741824 && Nat.ble b 4096 && Nat.beq 1 1 && Nat.blt 0 1 && true then _ else _)=_
  simp only [nat_beq,nat_ble,nat_blt,hn,decide_true,Bool.true_and,Bool.and_true,show (0:Nat) < 1 from by decide]
  rw [cells_repl]
  by_cases hb:b≤4096
  ·simp only [hb,decide_true,cond_true,ifR,newR]
   cases newBox h0 h r (.cells (icl (List.replicate n 0))) <;> rfl
  ·simp only [hb,decide_false,cond_false,ifR]
 ·cases hv
def appBR (h0 r sz bytes:Nat) (h:Heap) (own:Option Nat) (x y:Option AVal):Option ORes:=match x,y with
 | some (.list false sz' []),some vy=>
  bif own.isSome && Nat.beq sz sz' then
   (match srcElems sz vy with
    | some ys=>
     bif Nat.ble ys.length 1073741824 && Nat.ble bytes 4096 && Nat.blt 0 sz then
      (match newBox h0 h r (.cells (cellsOf (ys.flatMap AVal.flat))) with
       | some h'=>some ⟨.ms (h0 + r) 0 ys.length,false,own,h'⟩
       | none=>none)
     else none
    | none=>none)
  else none
 | _,_=>none
@[go_sem] theorem s_appendB {r sz b:Nat} {x y:AOpd}:stepOp p xc h0 al e h (.append (some r) sz b x y)=appBR h0 r sz b h (isOwnTmp e x) (evalO e x) (evalO e y):=by
 simp only [stepOp,stepWrite,appBR]
 rfl
def boxOwn (own:Option Nat) (v:AVal) (r:Option Heap):Option ORes:=match r with
 | some h'=>some ⟨v,false,own,h'⟩
 | none=>none
@[go_sem] theorem boxOwn_some {own:Option Nat} {v:AVal}:boxOwn own v (some h)=some ⟨v,false,own,h⟩:=rfl
def sliceArrR (len sz:Nat) (h:Heap) (x:Option AVal) (lo hi:Option (Option AVal)):Option ORes:=match x with
 | some (.ptr b o)=>(match bndV len len hi with
  | some j=>(match bndV 0 j lo with
   | some i=>bif Nat.beq i 0 || Nat.blt i j then val h (.ms b (o + i * sz) (j - i)) else none
   | none=>none)
  | none=>none)
 | _=>none
@[go_sem] theorem s_sliceArr {len sz:Nat} {x:AOpd} {lo hi:Option AOpd}:stepOp p xc h0 al e h (.sliceArr len sz x lo hi)=sliceArrR len sz h (evalO e x) (lo.map (evalO e)) (hi.map (evalO e)):=by
 simp only [stepOp,stepPure,sliceArrR,bnd_V]
 cases evalO e x with
 | none=>rfl
 | some v=>cases v <;> rfl
@[go_sem] theorem sliceArr_all {len b o:Nat}:sliceArrR len 1 h (some (.ptr b o)) none none=some ⟨.ms b o len,false,none,h⟩:=by
 simp [sliceArrR,bndV,val]
def takeM (n:Nat) (l:List Int):Option (List Int):=if n≤l.length then some (l.take n) else none
def frzM (c:Option (List (AVal × Bool))) (off len:Nat):Option AVal:=match c with
 | some cs=>(match loadCellsA cs off len with
  | some vs=>some (.list false 1 vs)
  | none=>none)
 | none=>none
@[go_sem] theorem frzR_ms {b o n:Nat}:freezeR h (.ms b o n)=frzM (boxCells h b) o n:=by
 simp only [freezeR,freezeV,frzM]; rfl
theorem frz_ms_O {n:Nat} {l v:List Int} (hv:takeM n l=some v):frzM (some (icl l)) 0 n=some (.list false 1 (v.map vint)):=by
 unfold takeM at hv
 split at hv
 ·next hn=>
  cases hv
  simp only [frzM,loadCells_eq,icl_len,Nat.zero_add,hn,decide_true,ldC_true,List.drop_zero]
  simp only [icl,← List.map_take,List.map_map]
  rfl
 ·cases hv
@[go_sem] theorem nilEq_sl_t {z:Nat} {f:α→AVal} {o:Option (List α)}:nilEqR 0 true h (some (sl z f o))=some ⟨.bool (!o.isNone),false,none,h⟩:=by cases o <;> rfl
@[go_sem] theorem nilEq_sl_f {z:Nat} {f:α→AVal} {o:Option (List α)}:nilEqR 0 false h (some (sl z f o))=some ⟨.bool o.isNone,false,none,h⟩:=by cases o <;> rfl
theorem app_none {z b:Nat} {f:α→AVal} {x:α} {y:AVal} {o v:Option (List α)} (hz:0 < z) (hy:srcElems z y=some [f x]) (hn:o.isNone=true) (hv:apO o [x]=some v):appR z b h none (some (sl z f o)) (some y)=ifR (decide (b≤4096)) (some ⟨sl z f v,true,none,h⟩):=by
 cases o with
 | some l=>cases hn
 | none=>
  by_cases hb:b≤4096
  ·rw [app_gen hz hb hy hv (.inl rfl)]; simp [ifR,hb]
  ·have hb':decide (b≤4096)=false:=by simp [hb]
   rw [hb']
   simp [sl,appR,appR.appS,ifR,hb,hy,nat_ble]
theorem app_vint_N {b:Nat} {bb:Bool} {x:Int} {o v:Option (List Int)} (hv:apO o [x]=some v) (hn:o.isNone=true):appR 1 b h none (some (sl 1 vint o)) (some (.list bb 1 [.int .i64 x]))=ifR (decide (b≤4096)) (some ⟨sl 1 vint v,true,none,h⟩):=app_none (by omega) rfl hn hv
attribute [go_sem] Nat.le_refl
end
end Go.Z
/-
 A place's next.
-/
namespace Go.Z
open Go Go.Abs
theorem wrap_nat {i:Nat} (h:i < 9223372036854775807):wrapF .i64 ((i:Int) + 1)=((i + 1:Nat):Int):=by
 rw [wrapF_i64 (by omega) (by omega)]; rfl
end Go.Z
/-
 Appends of several elements,and of a list to nothing: further pieces for the printed walks.
-/
namespace Go.Z
open Go Go.Abs
section
variable {p:AProg} {xc:XC} {h0:Nat} {al:Option (List Nat)} {e:Env} {h:Heap} {α:Type}
theorem app_elsN {z b:Nat} {f:α→AVal} {xs:List α} {y:AVal} {o v:Option (List α)} (hz:0 < z) (hy:srcElems z y=some (xs.map f)) (hn:o.isNone=true) (hv:apO o xs=some v):appR z b h none (some (sl z f o)) (some y)=ifR (decide (b≤4096)) (some ⟨sl z f v,true,none,h⟩):=by
 cases o with
 | some l=>cases hn
 | none=>
  by_cases hb:b≤4096
  ·rw [app_gen hz hb hy hv (.inl rfl)]; simp [ifR,hb]
  ·have hb':decide (b≤4096)=false:=by simp [hb]
   rw [hb']
   simp [sl,appR,appR.appS,ifR,hb,hy,nat_ble]
theorem app_sl_N {z b:Nat} {f:α→AVal} {o o2 v:Option (List α)} (hv:apO o (o2.getD [])=some v) (hn:o.isNone=true):appR (z + 1) b h none (some (sl (z + 1) f o)) (some (sl (z + 1) f o2))=ifR (decide (b≤4096)) (some ⟨sl (z + 1) f v,true,none,h⟩):=app_elsN (by omega) src_sl hn hv
end
end Go.Z
/-
 Maps of numbers to true: what is looked up,what is added.
-/
namespace Go.Z
open Go Go.Abs
def mapI (l:List Int):List (AVal × AVal):=l.map fun k=>(.int .i64 k,.bool true)
@[go_sem] theorem below_mapI {n:Nat}:∀ {l:List Int},belowBox n (.map (mapI l))=true
 | []=>rfl
 | x::l=>by
  have:=below_mapI (n:=n) (l:=l)
  simp only [belowBox] at this ⊢
  show (below n (.int .i64 x) && below n (.bool true) && belowEntries n (mapI l))=true
  rw [this]; rfl
end Go.Z
/-
 Runs with ghost places: loops; boxes of truth values; a box that is shut,a list that is thawed.
-/
namespace Go.Z
open Go Go.Abs
section
variable {p:AProg} {xc:XC} {h0:Nat} {al:Option (List Nat)} {e:Env} {h:Heap}
end
noncomputable def withP (p:AProg) (more:Prims) (op:Nat→Bool):AProg:={ fns:=p.fns,sprims:=p.sprims,prims:=fun k=>bif op k then none else match more k with
 | some f=>some f
 | none=>bif (p.fns k).isSome || (p.prims k).isSome || (p.sprims k).isSome then some fun args=>callIso p (X p) k args else none }
theorem callIso_known {p:AProg} {xc:XC} {k:Nat} {args:List AVal} {r:AVal × Bool} (h:callIso p xc k args=some r):((p.fns k).isSome || (p.prims k).isSome || (p.sprims k).isSome)=true:=by
 unfold callIso at h
 split at h
 ·rename_i f hf; simp [hf]
 ·split at h
  ·rename_i hc
   unfold callFn at hc
   split at hc
   ·rename_i f hf; simp [hf]
   ·split at hc
    ·rename_i f hf; simp [hf]
    ·cases hc
  ·cases h
theorem withP_call {p:AProg} {more:Prims} {op:Nat→Bool} {k:Nat} (ho:op k=false) (hm:more k=none) {xc:XC} {args:List AVal} {v:AVal} {o:Bool} (h:callIso p (X p) k args=some (v,o)) (hv:pureV v=true):callIso (withP p more op) xc k args=some (v,o):=by
 have hk:=callIso_known h
 unfold callIso
 have:(withP p more op).prims k=some fun args=>callIso p (X p) k args:=by simp only [withP,ho,cond_false,hm,hk,cond_true]
 rw [this]
 simp only [h,hv,cond_true]
theorem withP_more {p:AProg} {more:Prims} {op:Nat→Bool} {k:Nat} {f:List AVal→Option (AVal × Bool)} (ho:op k=false) (hm:more k=some f) {xc:XC} {args:List AVal} {v:AVal} {o:Bool} (h:f args=some (v,o)) (hv:pureV v=true):callIso (withP p more op) xc k args=some (v,o):=by
 unfold callIso
 have:(withP p more op).prims k=some f:=by simp only [withP,ho,cond_false,hm]
 rw [this]
 simp only [h,hv,cond_true]
theorem withP_ok {P:Program} {p:AProg} {more:Prims} {op:Nat→Bool} (hp:ProgOk P p) (hm:∀ k f,more k=some f→Enters P k∧∀ args v o,f args=some (v,o)→pureV v=true→belowL 0 args=true→IsoCall P k args v o):ProgOk P (withP p more op) where
 fn:=hp.fn
 prim:=by
  intro k f hf
  cases ho:op k with
  | true=>
   have:(withP p more op).prims k=none:=by simp only [withP,ho,cond_true]
   rw [this] at hf; cases hf
  | false=>
  cases hmk:more k with
  | some g=>
   have:(withP p more op).prims k=some g:=by simp only [withP,ho,cond_false,hmk]
   rw [this] at hf
   cases hf
   exact hm k _ hmk
  | none=>
   cases hk:((p.fns k).isSome || (p.prims k).isSome || (p.sprims k).isSome) with
   | false=>
    have:(withP p more op).prims k=none:=by simp only [withP,ho,hmk,hk,cond_false]
    rw [this] at hf; cases hf
   | true=>
    have:(withP p more op).prims k=some fun args=>callIso p (X p) k args:=by simp only [withP,ho,cond_false,hmk,hk,cond_true]
    rw [this] at hf
    cases hf
    refine ⟨?_,fun args v o h _ hb=>callX_ok hp h hb⟩
    simp only [Bool.or_eq_true] at hk
    rcases hk with (h | h) | h
    ·obtain ⟨af,ha⟩:=Option.isSome_iff_exists.1 h
     exact hp.enters ha
    ·obtain ⟨g,hg⟩:=Option.isSome_iff_exists.1 h
     exact (hp.prim k g hg).1
    ·obtain ⟨g,hg⟩:=Option.isSome_iff_exists.1 h
     exact (hp.sprim k g hg).1
 mixed:=hp.mixed
 sprim:=hp.sprim
end Go.Z
/-
 Lists of lists of numbers,and lists that are made with a computed length.
-/
namespace Go.Z
open Go Go.Abs
@[go_sem] theorem loadR_vsl {h0:Nat} {al:Option (List Nat)} {h:Heap} {b:Option (List Int)}:loadR h0 al false 1 h (some (.vptr (sl 1 vint b)))=some ⟨sl 1 vint b,false,none,h⟩:=by cases b <;> rfl
@[go_sem] theorem below_sls {n:Nat} {l:Option (List (Option (List Int)))}:below n (sl 1 (sl 1 vint) l)=true:=below_sl fun _=>below_sl fun _=>rfl
def mkIO (z:Int):Option (List Int):=if 0≤z then mkO z.toNat else none
theorem mkslI_O {h0 r b:Nat} {h:Heap} {z:Int} {v:List Int} (hv:mkIO z=some v):mkslR h0 r 1 b [.int .i64 0] h (some (.int .i64 z)) (some (.int .i64 z))=ifR (decide (b≤4096)) (newR (newBox h0 h r (.cells (icl v))) (.ms (h0 + r) 0 z.toNat)):=by
 unfold mkIO at hv
 split at hv
 ·rename_i hz
  obtain ⟨n,rfl⟩:∃ n:Nat,z=(n:Int):=⟨z.toNat,by omega⟩
  exact mksl_O hv
 ·cases hv
end Go.Z
