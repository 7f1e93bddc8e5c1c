/-
  Learn: its run.
-/
import Derived.Test.YtoljkienfmckjaaGreatDoorL5
set_option linter.unusedVariables false
set_option linter.unusedSimpArgs false
set_option maxRecDepth 100000
namespace Go.Z
open Go Go.Abs
@[go_sem] theorem afterS {n:Nat} {v:AVal} {h:Heap}:afterShared n v h=bif Nat.ble h.length n then h else bif below n v && belowHeap n (h.take n) then h.take n else h:=rfl
@[go_sem] theorem belowHeap_nil {n:Nat}:belowHeap n []=true:=rfl
@[go_sem] theorem belowHeap_cons {n:Nat} {b:ABox} {h:Heap}:belowHeap n (b::h)=(belowBox n b && belowHeap n h):=rfl
@[go_sem] theorem belowBox_cells {n:Nat} {cs:List (AVal × Bool)}:belowBox n (.cells cs)=belowCells n cs:=rfl
@[go_sem] theorem belowCells_nil {n:Nat}:belowCells n []=true:=rfl
@[go_sem] theorem belowCells_cons {n:Nat} {v:AVal} {o:Bool} {cs:List (AVal × Bool)}:belowCells n ((v,o)::cs)=(below n v && belowCells n cs):=rfl
@[go_sem] theorem below_accI {n:Nat} {l:List Int}:below n (acc 1 vint l)=true:=below_acc (fun _=>rfl) l
end Go.Z
/-
 Slices that are written; Narrow,both: their runs.
-/
namespace Go.Z
open Go Go.Abs
def copyR (h0:Nat) (al:Option (List Nat)) (sz:Nat) (h:Heap) (x y:Option AVal):Option ORes:=match x,y with
  | some (.ms b o len),some vy=>bif okBox h0 al b then (match boxCells h b with
   | some cs=>(match copySrc sz len vy with
    | some (n,vs)=>(match storeCellsA cs o vs with
     | some cs'=>bif Nat.beq vs.length (n * sz) then (match setBox h b (.cells cs') with
      | some h'=>val h' (.int .i64 n)
      | none=>none) else none
     | none=>none)
    | none=>none)
   | none=>none) else none
  | _,_=>none
@[go_sem] theorem s_copy {p:AProg} {xc:XC} {h0:Nat} {al:Option (List Nat)} {e:Env} {h:Heap} {sz:Nat} {x y:AOpd}:stepOp p xc h0 al e h (.copy sz x y)=copyR h0 al sz h (evalO e x) (evalO e y):=rfl
end Go.Z
/-
 LineMasks: its run gives true.
-/
namespace Go.Z
open Go Go.Abs
theorem firstU_own (n0:Int):∀ (l:List GUnit) (seen:List (List UInt8)),firstU n0 seen (l.map ownU)=firstU n0 seen l
 | [],_=>rfl
 | u::l,seen=>by
  simp only [List.map_cons,firstU]
  rw [show stepU n0 seen (ownU u)=stepU n0 seen u from rfl,show (ownU u).serial=u.serial from rfl,firstU_own n0 l]
theorem len0_own:∀ l:List GUnit,len0 (l.map ownU)=len0 l
 | []=>rfl
 | _::_=>rfl
theorem unitsE_own (l:List GUnit):unitsE (l.map ownU)=unitsE l:=by
 unfold unitsE
 rw [List.length_map,len0_own,firstU_own]
theorem I5:callIso pr (X pr) 5 []=some (.bool true,false):=rfl
end Go.Z
