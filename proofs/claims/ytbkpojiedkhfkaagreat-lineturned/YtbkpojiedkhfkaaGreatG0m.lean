/-
  Slices that are written, arrays of numbers, own slices that grow: the pieces for the printed walks.
-/
import Derived.Test.YtbkpojiedkhfkaaGreatG0
import Derived.Test.YtbkpojiedkhfkaaGreatAbsL
set_option linter.unusedVariables false
set_option linter.unusedSimpArgs false
set_option maxRecDepth 100000
namespace Go.Z
open Go Go.Abs
section
variable {p:AProg} {xc:XC} {h0:Nat} {al:Option (List Nat)} {e:Env} {h:Heap} {α:Type}
def icl (xs:List Int):List (AVal × Bool):=xs.map fun x=>(.int .i64 x,false)
theorem icl_len {xs:List Int}:(icl xs).length=xs.length:=by simp [icl]
def idxM (n:Nat) (l:List Int) (i:Int):Option Int:=if 0≤i∧i < n then l[i.toNat]? else none
theorem idxM_some {n:Nat} {l:List Int} {i v:Int} (hv:idxM n l i=some v):0≤i∧i < n∧l[i.toNat]?=some v:=by
 unfold idxM at hv
 split at hv
 ·next hi=>exact ⟨hi.1,hi.2,hv⟩
 ·cases hv
theorem idx_ms_O {n b:Nat} {k:IntKind} {l:List Int} {i v:Int} (hv:idxM n l i=some v):idxR 1 h (some (.ms b 0 n)) (some (.int k i))=some ⟨.ptr b i.toNat,false,none,h⟩:=by
 obtain ⟨h1,h2,_⟩:=idxM_some hv
 simp only [idxR,idx_int,idxI_in h1 h2,val,Nat.zero_add,Nat.mul_one]
theorem ld_icl {l:List Int} {i:Nat} {v:Int} (hv:l[i]?=some v):loadCellsA (icl l) i 1=some [.int .i64 v]:=by
 obtain ⟨h1,h2⟩:=List.getElem?_eq_some_iff.1 hv
 simp only [loadCells_eq,icl_len,show i + 1≤l.length by omega,decide_true,ldC_true]
 have hd:(icl l).drop i=(.int .i64 v,false)::(icl l).drop (i + 1):=by
  have:(icl l)[i]?=some (.int .i64 v,false):=by simp [icl,hv]
  exact drop_cons this
 rw [hd]
 rfl
theorem st_icl {l:List Int} {i:Nat} {v x:Int} (hv:l[i]?=some v):storeCellsA (icl l) i [.int .i64 x]=some (icl (l.set i x)):=by
 obtain ⟨h1,h2⟩:=List.getElem?_eq_some_iff.1 hv
 simp only [storeCells_eq,icl_len,List.length_cons,List.length_nil,show i + (0 + 1)≤l.length by omega,decide_true,List.all_cons,List.all_nil,sc_int,Bool.and_self,stC_true,List.map_cons,List.map_nil]
 congr 1
 unfold icl
 rw [List.map_set,List.set_eq_take_append_cons_drop,if_pos (by rw [List.length_map]; exact h1),List.append_assoc]
 rfl
theorem ld_ms_O {n:Nat} {l:List Int} {i v:Int} (hv:idxM n l i=some v):loadCellsA (icl l) i.toNat 1=some [.int .i64 v]:=ld_icl (idxM_some hv).2.2
theorem st_ms_O {n:Nat} {l:List Int} {i v x:Int} (hv:idxM n l i=some v):storeCellsA (icl l) i.toNat [.int .i64 x]=some (icl (l.set i.toNat x)):=st_icl (idxM_some hv).2.2
def appBR (h0 r sz bytes:Nat) (h:Heap) (own:Option Nat) (x y:Option AVal):Option ORes:=match x,y with
 | some (.list false sz' []),some vy=>
  bif own.isSome && Nat.beq sz sz' then
   (match srcElems sz vy with
    | some ys=>
     bif Nat.ble ys.length 1073741824 && Nat.ble bytes 4096 && Nat.blt 0 sz then
      (match newBox h0 h r (.cells (cellsOf (ys.flatMap AVal.flat))) with
       | some h'=>some ⟨.ms (h0 + r) 0 ys.length,false,own,h'⟩
       | none=>none)
     else none
    | none=>none)
  else none
 | _,_=>none
def boxOwn (own:Option Nat) (v:AVal) (r:Option Heap):Option ORes:=match r with
 | some h'=>some ⟨v,false,own,h'⟩
 | none=>none
@[go_sem] theorem boxOwn_some {own:Option Nat} {v:AVal}:boxOwn own v (some h)=some ⟨v,false,own,h⟩:=rfl
def takeM (n:Nat) (l:List Int):Option (List Int):=if n≤l.length then some (l.take n) else none
def frzM (c:Option (List (AVal × Bool))) (off len:Nat):Option AVal:=match c with
 | some cs=>(match loadCellsA cs off len with
  | some vs=>some (.list false 1 vs)
  | none=>none)
 | none=>none
@[go_sem] theorem frzR_ms {b o n:Nat}:freezeR h (.ms b o n)=frzM (boxCells h b) o n:=by
 simp only [freezeR,freezeV,frzM]; rfl
theorem frz_ms_O {n:Nat} {l v:List Int} (hv:takeM n l=some v):frzM (some (icl l)) 0 n=some (.list false 1 (v.map vint)):=by
 unfold takeM at hv
 split at hv
 ·next hn=>
  cases hv
  simp only [frzM,loadCells_eq,icl_len,Nat.zero_add,hn,decide_true,ldC_true,List.drop_zero]
  simp only [icl,← List.map_take,List.map_map]
  rfl
 ·cases hv
@[go_sem] theorem nilEq_sl_f {z:Nat} {f:α→AVal} {o:Option (List α)}:nilEqR 0 false h (some (sl z f o))=some ⟨.bool o.isNone,false,none,h⟩:=by cases o <;> rfl
theorem app_none {z b:Nat} {f:α→AVal} {x:α} {y:AVal} {o v:Option (List α)} (hz:0 < z) (hy:srcElems z y=some [f x]) (hn:o.isNone=true) (hv:apO o [x]=some v):appR z b h none (some (sl z f o)) (some y)=ifR (decide (b≤4096)) (some ⟨sl z f v,true,none,h⟩):=by
 cases o with
 | some l=>cases hn
 | none=>
  by_cases hb:b≤4096
  ·rw [app_gen hz hb hy hv (.inl rfl)]; simp [ifR,hb]
  ·have hb':decide (b≤4096)=false:=by simp [hb]
   rw [hb']
   simp [sl,appR,appR.appS,ifR,hb,hy,nat_ble]
theorem app_vint_N {b:Nat} {bb:Bool} {x:Int} {o v:Option (List Int)} (hv:apO o [x]=some v) (hn:o.isNone=true):appR 1 b h none (some (sl 1 vint o)) (some (.list bb 1 [.int .i64 x]))=ifR (decide (b≤4096)) (some ⟨sl 1 vint v,true,none,h⟩):=app_none (by omega) rfl hn hv
attribute [go_sem] Nat.le_refl
end
end Go.Z
/-
 A place's next.
-/
namespace Go.Z
open Go Go.Abs
theorem wrap_nat {i:Nat} (h:i < 9223372036854775807):wrapF .i64 ((i:Int) + 1)=((i + 1:Nat):Int):=by
 rw [wrapF_i64 (by omega) (by omega)]; rfl
end Go.Z
/-
 Appends of several elements,and of a list to nothing: further pieces for the printed walks.
-/
namespace Go.Z
open Go Go.Abs
section
variable {p:AProg} {xc:XC} {h0:Nat} {al:Option (List Nat)} {e:Env} {h:Heap} {α:Type}
theorem app_elsN {z b:Nat} {f:α→AVal} {xs:List α} {y:AVal} {o v:Option (List α)} (hz:0 < z) (hy:srcElems z y=some (xs.map f)) (hn:o.isNone=true) (hv:apO o xs=some v):appR z b h none (some (sl z f o)) (some y)=ifR (decide (b≤4096)) (some ⟨sl z f v,true,none,h⟩):=by
 cases o with
 | some l=>cases hn
 | none=>
  by_cases hb:b≤4096
  ·rw [app_gen hz hb hy hv (.inl rfl)]; simp [ifR,hb]
  ·have hb':decide (b≤4096)=false:=by simp [hb]
   rw [hb']
   simp [sl,appR,appR.appS,ifR,hb,hy,nat_ble]
theorem app_sl_N {z b:Nat} {f:α→AVal} {o o2 v:Option (List α)} (hv:apO o (o2.getD [])=some v) (hn:o.isNone=true):appR (z + 1) b h none (some (sl (z + 1) f o)) (some (sl (z + 1) f o2))=ifR (decide (b≤4096)) (some ⟨sl (z + 1) f v,true,none,h⟩):=app_elsN (by omega) src_sl hn hv
end
end Go.Z
/-
 Maps of numbers to true: what is looked up,what is added.
-/
namespace Go.Z
open Go Go.Abs
def memI (l:List Int) (k:Int):Bool:=l.contains k
end Go.Z
