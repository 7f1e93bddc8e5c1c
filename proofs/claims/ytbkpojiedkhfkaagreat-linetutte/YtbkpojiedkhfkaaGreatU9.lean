/-
  LineTutte: arrays of truth values, arrays of eight numbers: the pieces for the printed walks.
-/
import Derived.Test.YtbkpojiedkhfkaaGreatG0m
set_option linter.unusedVariables false
set_option linter.unusedSimpArgs false
set_option maxRecDepth 100000
namespace Go.Z
open Go Go.Abs
section
variable {p:AProg} {xc:XC} {h0:Nat} {al:Option (List Nat)} {e:Env} {h:Heap} {α:Type}
def tcl (xs:List Bool):List (AVal × Bool):=xs.map fun x=>(.bool x,false)
theorem tcl_len {xs:List Bool}:(tcl xs).length=xs.length:=by simp [tcl]
def idxT (n:Nat) (l:List Bool) (i:Int):Option Bool:=if 0≤i∧i < n then l[i.toNat]? else none
theorem idxT_some {n:Nat} {l:List Bool} {i:Int} {v:Bool} (hv:idxT n l i=some v):0≤i∧i < n∧l[i.toNat]?=some v:=by
 unfold idxT at hv
 split at hv
 ·next hi=>exact ⟨hi.1,hi.2,hv⟩
 ·cases hv
theorem idx_arrB_O {n b:Nat} {k:IntKind} {l:List Bool} {i:Int} {v:Bool} (hv:idxT n l i=some v):indexArrR false n 1 h (some (.ptr b 0)) (some (.int k i))=some ⟨.ptr b i.toNat,false,none,h⟩:=by
 obtain ⟨h1,h2,_⟩:=idxT_some hv
 simp only [indexArrR,idx_int,idxI_in h1 h2,val,Nat.zero_add,Nat.mul_one]
theorem ld_tcl {l:List Bool} {i:Nat} {v:Bool} (hv:l[i]?=some v):loadCellsA (tcl l) i 1=some [.bool v]:=by
 obtain ⟨h1,h2⟩:=List.getElem?_eq_some_iff.1 hv
 simp only [loadCells_eq,tcl_len,show i + 1≤l.length by omega,decide_true,ldC_true]
 have hd:(tcl l).drop i=(.bool v,false)::(tcl l).drop (i + 1):=by
  have:(tcl l)[i]?=some (.bool v,false):=by simp [tcl,hv]
  exact drop_cons this
 rw [hd]
 rfl
theorem st_tcl {l:List Bool} {i:Nat} {v x:Bool} (hv:l[i]?=some v):storeCellsA (tcl l) i [.bool x]=some (tcl (l.set i x)):=by
 obtain ⟨h1,h2⟩:=List.getElem?_eq_some_iff.1 hv
 have hs:isScalarCell (.bool x)=true:=rfl
 simp only [storeCells_eq,tcl_len,List.length_cons,List.length_nil,show i + (0 + 1)≤l.length by omega,decide_true,List.all_cons,List.all_nil,hs,Bool.and_self,stC_true,List.map_cons,List.map_nil]
 congr 1
 unfold tcl
 rw [List.map_set,List.set_eq_take_append_cons_drop,if_pos (by rw [List.length_map]; exact h1),List.append_assoc]
 rfl
theorem ld_b_O {n:Nat} {l:List Bool} {i:Int} {v:Bool} (hv:idxT n l i=some v):loadCellsA (tcl l) i.toNat 1=some [.bool v]:=ld_tcl (idxT_some hv).2.2
theorem st_b_O {n:Nat} {l:List Bool} {i:Int} {v x:Bool} (hv:idxT n l i=some v):storeCellsA (tcl l) i.toNat [.bool x]=some (tcl (l.set i.toNat x)):=st_tcl (idxT_some hv).2.2
def lenO (n:Nat) (l:List α):Option (List α):=if l.length=n then some l else none
theorem lenO_some {n:Nat} {l v:List α} (hv:lenO n l=some v):l.length=n∧v=l:=by
 unfold lenO at hv
 split at hv
 ·next h=>cases hv; exact ⟨h,rfl⟩
 ·cases hv
theorem bv_sc {l:List Bool}:(l.map AVal.bool).all isScalarCell=true:=by rw [List.all_map,List.all_eq_true]; intro x _; rfl
theorem bv_cells:∀ {l:List Bool},cellsOf (l.map AVal.bool)=tcl l
 | []=>rfl
 | x::l=>by show (AVal.bool x,false)::cellsOf (l.map AVal.bool)=_; rw [bv_cells]; rfl
theorem box_b_O {n r:Nat} {l v:List Bool} (hv:lenO n l=some v):boxR h0 r n h (some (.agg (l.map AVal.bool)))=newR (newBox h0 h r (.cells (tcl l))) (.ptr (h0 + r) 0):=by
 have h1:(AVal.agg (l.map AVal.bool)).flat=l.map AVal.bool:=rfl
 have h2:Nat.beq (l.map AVal.bool).length n=true:=by rw [List.length_map,(lenO_some hv).1]; exact Nat.beq_refl n
 rw [boxR_some,h1,bv_sc,bv_cells,h2]
 rfl
theorem ld_whole {cs:List (AVal × Bool)} {vs:List AVal} (h:cs=vs.map fun x=>(x,false)):loadCellsA cs 0 vs.length=some vs:=by
 subst h
 simp only [loadCells_eq,List.length_map,show 0 + vs.length≤vs.length by omega,decide_true,ldC_true,List.drop_zero]
 have e1:((vs.map fun x=>(x,false)).take vs.length:List (AVal × Bool))=vs.map fun x=>(x,false):=by rw [List.take_of_length_le (by simp)]
 simp only [e1]
 clear e1
 induction vs with
 | nil=>rfl
 | cons v vs ih=>simpa using ih
@[go_sem] theorem below_bvals {n:Nat} {l:List Bool}:belowL n (l.map AVal.bool)=true:=by
 induction l with
 | nil=>simp [belowL]
 | cons x l ih=>simp [belowL,below,ih]
theorem ld_wb {n:Nat} {l v:List Bool} (hv:lenO n l=some v):loadCellsA (tcl l) 0 n=some (l.map AVal.bool):=by
 have:=ld_whole (cs:=tcl l) (vs:=l.map AVal.bool) (by unfold tcl; rw [List.map_map]; rfl)
 rw [List.length_map,(lenO_some hv).1] at this
 exact this
theorem ld_wi {n:Nat} {l v:List Int} (hv:lenO n l=some v):loadCellsA (icl l) 0 n=some (l.map (AVal.int .i64)):=by
 have:=ld_whole (cs:=icl l) (vs:=l.map (AVal.int .i64)) (by unfold icl; rw [List.map_map]; rfl)
 rw [List.length_map,(lenO_some hv).1] at this
 exact this
theorem index_i_O {n:Nat} {k:IntKind} {l:List Int} {i v:Int} (hv:idxM n l i=some v):indexR false n 1 h (some (.agg (l.map (AVal.int .i64)))) (some (.int k i))=some ⟨.int .i64 v,false,none,h⟩:=by
 obtain ⟨h1,h2,h3⟩:=idxM_some hv
 simp only [indexR,idx_int,idxI_in h1 h2,Nat.mul_one]
 have:Go.Abs.part false (l.map (AVal.int .i64)) i.toNat 1=some (.int .i64 v):=by
  show (l.map (AVal.int .i64))[i.toNat]?=_
  rw [List.getElem?_map,h3]; rfl
 rw [this]
 rfl
theorem alloc8_O {r:Nat}:stepOp p xc h0 al e h (.alloc r [.int .i64 0,.int .i64 0,.int .i64 0,.int .i64 0,.int .i64 0,.int .i64 0,.int .i64 0,.int .i64 0])=newR (newBox h0 h r (.cells (icl [0,0,0,0,0,0,0,0]))) (.ptr (h0 + r) 0):=by
 simp only [go_sem,icl]
theorem st8_O:storeCellsA (icl [0,0,0,0,0,0,0,0]) 0 [.int .i64 0,.int .i64 0,.int .i64 0,.int .i64 0,.int .i64 0,.int .i64 0,.int .i64 0,.int .i64 0]=some (icl [0,0,0,0,0,0,0,0]):=rfl
end
end Go.Z
