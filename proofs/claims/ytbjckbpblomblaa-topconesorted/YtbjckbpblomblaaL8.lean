/-
  Learn: its run.
-/
import Derived.Test.YtbjckbpblomblaaL5
set_option linter.unusedVariables false
set_option linter.unusedSimpArgs false
set_option maxRecDepth 100000
namespace Go.Z
open Go Go.Abs
theorem runL_fold {α γ δ:Type} (f:γ→α→γ):∀ (l:List α) (i:Nat) (s:γ),runL (δ:=δ) (fun _ s x=>.inl (f s x)) i s l=.inl (l.foldl f s)
 | [],_,_=>rfl
 | x::l,i,s=>by simp only [runL,List.foldl_cons]; exact runL_fold f l (i + 1) (f s x)
def maxL:List Int→Int
 | []=>0
 | x::l=>l.foldl max x
theorem I39 (l:List Int) (x:Int) (hn:(x::l).length≤1073741824):callIso pr (X pr) 39 [.list false 1 ((x::l).map vint)]=some (.int .i64 (maxL (x::l)),false):=by
 have hn':((some (x::l)).getD []).length≤1073741824:=hn
 have hl:=X_loop_inv (p:=pr) (c:=c39_0) (δ:=Empty) (x::l) (fun i (s:Int)=>⟨[(0,sl 1 vint (some (x::l)),false),(3,.int .i64 s,false),(4,.int .i64 (i:Int),false)],[]⟩)
  (fun _ s y=>.inl (max s y)) (fun s=>(.exit 0,⟨[(0,sl 1 vint (some (x::l)),false),(3,.int .i64 s,false),(4,.int .i64 ((x::l).length:Int),false),(15,.bool false,false)],[]⟩)) (fun d=>nomatch d) (fun _ _=>True)
  (fun _ h=>by cases h) (fun d=>nomatch d) ?_ ?_ l.length 1 x (by simp; omega) trivial
 ·have:callFn pr (X pr) 39 [sl 1 vint (some (x::l))] []=some (.int .i64 (maxL (x::l)),false,[]):=by
   rw [callFn_at (show pr.fns 39=some c39 from rfl) (by simp)]
   rw [runL_fold] at hl
   simp only [outL_inl,List.drop_succ_cons,List.drop_zero,Int.natCast_one] at hl
   have h1:¬ ((((some (x::l)).getD []).length:Int) < 1):=by simp; omega
   have h0:((some (x::l)).getD [])[0]?=some x:=rfl
   simp only [go_sem,seval,c39,h1,idx_sl0 h0,hl,maxL]
  exact callIso_of rfl this rfl rfl
 ·intro s _
  have hlt:¬ (((l.length + 1:Nat):Int) < ((l.length + 1:Nat):Int)):=by omega
  simp only [go_sem,seval,c39_0,Option.getD_some,hlt]
 ·intro i s y hy hi _
  have hy':((some (x::l)).getD [])[i]?=some y:=hy
  have hlt:(i:Int) < (((some (x::l)).getD []).length:Int):=by show (i:Int) < ((x::l).length:Int); omega
  have hw:=wrap_succ hi (by omega)
  refine stepL_in rfl trivial ?_ (gc_same (Nat.le_refl _))
  simp only [go_sem,seval,c39_0,hlt,idx_sl hy',hw]
def valU (t:Nat) (u:GUnit):Int:=(u.values.getD []).getD t 0
def col (t:Nat) (l:List GUnit):List Int:=l.map (valU t)
@[go_sem] theorem afterS {n:Nat} {v:AVal} {h:Heap}:afterShared n v h=bif Nat.ble h.length n then h else bif below n v && belowHeap n (h.take n) then h.take n else h:=rfl
@[go_sem] theorem belowHeap_nil {n:Nat}:belowHeap n []=true:=rfl
@[go_sem] theorem belowHeap_cons {n:Nat} {b:ABox} {h:Heap}:belowHeap n (b::h)=(belowBox n b && belowHeap n h):=rfl
@[go_sem] theorem belowBox_cells {n:Nat} {cs:List (AVal × Bool)}:belowBox n (.cells cs)=belowCells n cs:=rfl
@[go_sem] theorem belowCells_nil {n:Nat}:belowCells n []=true:=rfl
@[go_sem] theorem belowCells_cons {n:Nat} {v:AVal} {o:Bool} {cs:List (AVal × Bool)}:belowCells n ((v,o)::cs)=(below n v && belowCells n cs):=rfl
@[go_sem] theorem below_accI {n:Nat} {l:List Int}:below n (acc 1 vint l)=true:=below_acc (fun _=>rfl) l
end Go.Z
/-
 Slices that are written; Narrow,both: their runs.
-/
namespace Go.Z
open Go Go.Abs
def copyR (h0:Nat) (al:Option (List Nat)) (sz:Nat) (h:Heap) (x y:Option AVal):Option ORes:=match x,y with
  | some (.ms b o len),some vy=>bif okBox h0 al b then (match boxCells h b with
   | some cs=>(match copySrc sz len vy with
    | some (n,vs)=>(match storeCellsA cs o vs with
     | some cs'=>bif Nat.beq vs.length (n * sz) then (match setBox h b (.cells cs') with
      | some h'=>val h' (.int .i64 n)
      | none=>none) else none
     | none=>none)
    | none=>none)
   | none=>none) else none
  | _,_=>none
@[go_sem] theorem s_copy {p:AProg} {xc:XC} {h0:Nat} {al:Option (List Nat)} {e:Env} {h:Heap} {sz:Nat} {x y:AOpd}:stepOp p xc h0 al e h (.copy sz x y)=copyR h0 al sz h (evalO e x) (evalO e y):=rfl
end Go.Z
/-
 LineMasks: its run gives true.
-/
namespace Go.Z
open Go Go.Abs
theorem firstU_own (n0:Int):∀ (l:List GUnit) (seen:List (List UInt8)),firstU n0 seen (l.map ownU)=firstU n0 seen l
 | [],_=>rfl
 | u::l,seen=>by
  simp only [List.map_cons,firstU]
  rw [show stepU n0 seen (ownU u)=stepU n0 seen u from rfl,show (ownU u).serial=u.serial from rfl,firstU_own n0 l]
theorem len0_own:∀ l:List GUnit,len0 (l.map ownU)=len0 l
 | []=>rfl
 | _::_=>rfl
theorem unitsE_own (l:List GUnit):unitsE (l.map ownU)=unitsE l:=by
 unfold unitsE
 rw [List.length_map,len0_own,firstU_own]
theorem I5:callIso pr (X pr) 5 []=some (.bool true,false):=rfl
end Go.Z
