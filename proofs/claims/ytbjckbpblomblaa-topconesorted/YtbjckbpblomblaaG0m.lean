/-
  Slices that are written, arrays of numbers, own slices that grow: the pieces for the printed walks.
-/
import Derived.Test.YtbjckbpblomblaaG0
import Derived.Test.YtbjckbpblomblaaAbsL
set_option linter.unusedVariables false
set_option linter.unusedSimpArgs false
set_option maxRecDepth 100000
namespace Go.Z
open Go Go.Abs
section
variable {p:AProg} {xc:XC} {h0:Nat} {al:Option (List Nat)} {e:Env} {h:Heap} {α:Type}
def icl (xs:List Int):List (AVal × Bool):=xs.map fun x=>(.int .i64 x,false)
theorem icl_len {xs:List Int}:(icl xs).length=xs.length:=by simp [icl]
def idxM (n:Nat) (l:List Int) (i:Int):Option Int:=if 0≤i∧i < n then l[i.toNat]? else none
theorem idxM_some {n:Nat} {l:List Int} {i v:Int} (hv:idxM n l i=some v):0≤i∧i < n∧l[i.toNat]?=some v:=by
 unfold idxM at hv
 split at hv
 ·next hi=>exact ⟨hi.1,hi.2,hv⟩
 ·cases hv
theorem idx_ms_O {n b:Nat} {k:IntKind} {l:List Int} {i v:Int} (hv:idxM n l i=some v):idxR 1 h (some (.ms b 0 n)) (some (.int k i))=some ⟨.ptr b i.toNat,false,none,h⟩:=by
 obtain ⟨h1,h2,_⟩:=idxM_some hv
 simp only [idxR,idx_int,idxI_in h1 h2,val,Nat.zero_add,Nat.mul_one]
theorem ld_icl {l:List Int} {i:Nat} {v:Int} (hv:l[i]?=some v):loadCellsA (icl l) i 1=some [.int .i64 v]:=by
 obtain ⟨h1,h2⟩:=List.getElem?_eq_some_iff.1 hv
 simp only [loadCells_eq,icl_len,show i + 1≤l.length by omega,decide_true,ldC_true]
 have hd:(icl l).drop i=(.int .i64 v,false)::(icl l).drop (i + 1):=by
  have:(icl l)[i]?=some (.int .i64 v,false):=by simp [icl,hv]
  exact drop_cons this
 rw [hd]
 rfl
theorem st_icl {l:List Int} {i:Nat} {v x:Int} (hv:l[i]?=some v):storeCellsA (icl l) i [.int .i64 x]=some (icl (l.set i x)):=by
 obtain ⟨h1,h2⟩:=List.getElem?_eq_some_iff.1 hv
 simp only [storeCells_eq,icl_len,List.length_cons,List.length_nil,show i + (0 + 1)≤l.length by omega,decide_true,List.all_cons,List.all_nil,sc_int,Bool.and_self,stC_true,List.map_cons,List.map_nil]
 congr 1
 unfold icl
 rw [List.map_set,List.set_eq_take_append_cons_drop,if_pos (by rw [List.length_map]; exact h1),List.append_assoc]
 rfl
theorem ld_ms_O {n:Nat} {l:List Int} {i v:Int} (hv:idxM n l i=some v):loadCellsA (icl l) i.toNat 1=some [.int .i64 v]:=ld_icl (idxM_some hv).2.2
theorem st_ms_O {n:Nat} {l:List Int} {i v x:Int} (hv:idxM n l i=some v):storeCellsA (icl l) i.toNat [.int .i64 x]=some (icl (l.set i.toNat x)):=st_icl (idxM_some hv).2.2
def mkslR (h0 r sz bytes:Nat) (zero:List AVal) (h:Heap) (n c:Option AVal):Option ORes:=match n,c with
 | some (.int .i64 (.ofNat n)),some (.int .i64 (.ofNat c))=>
  bif Nat.beq n c && Nat.ble n 1073741824 && Nat.ble bytes 4096 && Nat.beq zero.length sz && Nat.blt 0 sz && zero.all isScalarCell then
   (match newBox h0 h r (.cells (cellsOf (List.replicate n zero).flatten)) with
    | some h'=>val h' (.ms (h0 + r) 0 n)
    | none=>none) else none
 | _,_=>none
@[go_sem] theorem s_mkslB {r sz b:Nat} {z:List AVal} {n c:AOpd}:stepOp p xc h0 al e h (.mkslice (some r) sz b z n c)=mkslR h0 r sz b z h (evalO e n) (evalO e c):=by
 simp only [stepOp,stepWrite,mkslR]
 rfl
def capO (l:List Int):Option (List Int):=if l.length≤1073741824 then some l else none
def appBR (h0 r sz bytes:Nat) (h:Heap) (own:Option Nat) (x y:Option AVal):Option ORes:=match x,y with
 | some (.list false sz' []),some vy=>
  bif own.isSome && Nat.beq sz sz' then
   (match srcElems sz vy with
    | some ys=>
     bif Nat.ble ys.length 1073741824 && Nat.ble bytes 4096 && Nat.blt 0 sz then
      (match newBox h0 h r (.cells (cellsOf (ys.flatMap AVal.flat))) with
       | some h'=>some ⟨.ms (h0 + r) 0 ys.length,false,own,h'⟩
       | none=>none)
     else none
    | none=>none)
  else none
 | _,_=>none
@[go_sem] theorem s_appendB {r sz b:Nat} {x y:AOpd}:stepOp p xc h0 al e h (.append (some r) sz b x y)=appBR h0 r sz b h (isOwnTmp e x) (evalO e x) (evalO e y):=by
 simp only [stepOp,stepWrite,appBR]
 rfl
theorem cells_ints {l:List Int}:cellsOf ((l.map vint).flatMap AVal.flat)=icl l:=by
 induction l with
 | nil=>rfl
 | cons x l ih=>simp only [List.map_cons,List.flatMap_cons]; simp only [cellsOf,icl] at ih ⊢; simp only [List.map_append,ih]; rfl
def boxOwn (own:Option Nat) (v:AVal) (r:Option Heap):Option ORes:=match r with
 | some h'=>some ⟨v,false,own,h'⟩
 | none=>none
@[go_sem] theorem boxOwn_some {own:Option Nat} {v:AVal}:boxOwn own v (some h)=some ⟨v,false,own,h⟩:=rfl
theorem appB_O {r b t:Nat} {o:Option (List Int)} {v:List Int} (hv:capO (o.getD [])=some v):appBR h0 r 1 b h (some t) (some (.list false 1 [])) (some (sl 1 vint o))=ifR (decide (b≤4096)) (boxOwn (some t) (.ms (h0 + r) 0 v.length) (newBox h0 h r (.cells (icl v)))):=by
 unfold capO at hv
 split at hv
 ·next hn=>
  cases hv
  simp only [appBR,Option.isSome_some,nat_beq,decide_true,Bool.and_self,cond_true,src_sl,List.length_map,nat_ble,nat_blt,hn,Bool.true_and,cells_ints]
  by_cases hb:b≤4096
  ·simp only [hb,decide_true,Bool.and_self,cond_true,ifR,boxOwn,show (0:Nat) < 1 from by decide]
  ·simp only [hb,decide_false,Bool.false_and,cond_false,ifR]
 ·cases hv
def sliceArrR (len sz:Nat) (h:Heap) (x:Option AVal) (lo hi:Option (Option AVal)):Option ORes:=match x with
 | some (.ptr b o)=>(match bndV len len hi with
  | some j=>(match bndV 0 j lo with
   | some i=>bif Nat.beq i 0 || Nat.blt i j then val h (.ms b (o + i * sz) (j - i)) else none
   | none=>none)
  | none=>none)
 | _=>none
@[go_sem] theorem s_sliceArr {len sz:Nat} {x:AOpd} {lo hi:Option AOpd}:stepOp p xc h0 al e h (.sliceArr len sz x lo hi)=sliceArrR len sz h (evalO e x) (lo.map (evalO e)) (hi.map (evalO e)):=by
 simp only [stepOp,stepPure,sliceArrR,bnd_V]
 cases evalO e x with
 | none=>rfl
 | some v=>cases v <;> rfl
@[go_sem] theorem sliceArr_all {len b o:Nat}:sliceArrR len 1 h (some (.ptr b o)) none none=some ⟨.ms b o len,false,none,h⟩:=by
 simp [sliceArrR,bndV,val]
def takeM (n:Nat) (l:List Int):Option (List Int):=if n≤l.length then some (l.take n) else none
def frzM (c:Option (List (AVal × Bool))) (off len:Nat):Option AVal:=match c with
 | some cs=>(match loadCellsA cs off len with
  | some vs=>some (.list false 1 vs)
  | none=>none)
 | none=>none
@[go_sem] theorem frzR_ms {b o n:Nat}:freezeR h (.ms b o n)=frzM (boxCells h b) o n:=by
 simp only [freezeR,freezeV,frzM]; rfl
theorem frz_ms_O {n:Nat} {l v:List Int} (hv:takeM n l=some v):frzM (some (icl l)) 0 n=some (.list false 1 (v.map vint)):=by
 unfold takeM at hv
 split at hv
 ·next hn=>
  cases hv
  simp only [frzM,loadCells_eq,icl_len,Nat.zero_add,hn,decide_true,ldC_true,List.drop_zero]
  simp only [icl,← List.map_take,List.map_map]
  rfl
 ·cases hv
@[go_sem] theorem nilEq_sl_t {z:Nat} {f:α→AVal} {o:Option (List α)}:nilEqR 0 true h (some (sl z f o))=some ⟨.bool (!o.isNone),false,none,h⟩:=by cases o <;> rfl
@[go_sem] theorem nilEq_sl_f {z:Nat} {f:α→AVal} {o:Option (List α)}:nilEqR 0 false h (some (sl z f o))=some ⟨.bool o.isNone,false,none,h⟩:=by cases o <;> rfl
theorem app_none {z b:Nat} {f:α→AVal} {x:α} {y:AVal} {o v:Option (List α)} (hz:0 < z) (hy:srcElems z y=some [f x]) (hn:o.isNone=true) (hv:apO o [x]=some v):appR z b h none (some (sl z f o)) (some y)=ifR (decide (b≤4096)) (some ⟨sl z f v,true,none,h⟩):=by
 cases o with
 | some l=>cases hn
 | none=>
  by_cases hb:b≤4096
  ·rw [app_gen hz hb hy hv (.inl rfl)]; simp [ifR,hb]
  ·have hb':decide (b≤4096)=false:=by simp [hb]
   rw [hb']
   simp [sl,appR,appR.appS,ifR,hb,hy,nat_ble]
theorem app_vint_N {b:Nat} {bb:Bool} {x:Int} {o v:Option (List Int)} (hv:apO o [x]=some v) (hn:o.isNone=true):appR 1 b h none (some (sl 1 vint o)) (some (.list bb 1 [.int .i64 x]))=ifR (decide (b≤4096)) (some ⟨sl 1 vint v,true,none,h⟩):=app_none (by omega) rfl hn hv
attribute [go_sem] Nat.le_refl
end
end Go.Z
/-
 A place's next.
-/
namespace Go.Z
open Go Go.Abs
theorem wrap_nat {i:Nat} (h:i < 9223372036854775807):wrapF .i64 ((i:Int) + 1)=((i + 1:Nat):Int):=by
 rw [wrapF_i64 (by omega) (by omega)]; rfl
end Go.Z
/-
 Appends of several elements,and of a list to nothing: further pieces for the printed walks.
-/
namespace Go.Z
open Go Go.Abs
section
variable {p:AProg} {xc:XC} {h0:Nat} {al:Option (List Nat)} {e:Env} {h:Heap} {α:Type}
theorem app_elsN {z b:Nat} {f:α→AVal} {xs:List α} {y:AVal} {o v:Option (List α)} (hz:0 < z) (hy:srcElems z y=some (xs.map f)) (hn:o.isNone=true) (hv:apO o xs=some v):appR z b h none (some (sl z f o)) (some y)=ifR (decide (b≤4096)) (some ⟨sl z f v,true,none,h⟩):=by
 cases o with
 | some l=>cases hn
 | none=>
  by_cases hb:b≤4096
  ·rw [app_gen hz hb hy hv (.inl rfl)]; simp [ifR,hb]
  ·have hb':decide (b≤4096)=false:=by simp [hb]
   rw [hb']
   simp [sl,appR,appR.appS,ifR,hb,hy,nat_ble]
theorem app_sl_N {z b:Nat} {f:α→AVal} {o o2 v:Option (List α)} (hv:apO o (o2.getD [])=some v) (hn:o.isNone=true):appR (z + 1) b h none (some (sl (z + 1) f o)) (some (sl (z + 1) f o2))=ifR (decide (b≤4096)) (some ⟨sl (z + 1) f v,true,none,h⟩):=app_elsN (by omega) src_sl hn hv
end
end Go.Z
/-
 Maps of numbers to true: what is looked up,what is added.
-/
namespace Go.Z
open Go Go.Abs
def mapI (l:List Int):List (AVal × AVal):=l.map fun k=>(.int .i64 k,.bool true)
def memI (l:List Int) (k:Int):Bool:=l.contains k
def addO (l:List Int) (k:Int):Option (List Int):=if memI l k then some l else if l.length≤1073741824 then some (l++[k]) else none
theorem findI (k:Int):∀ (l:List Int) (i:Nat),(memI l k=false→findEntry .int (.int .i64 k) (mapI l) i=some none)∧(memI l k=true→∃ j,findEntry .int (.int .i64 k) (mapI l) i=some (some (i + j,.bool true))∧l[j]?=some k)
 | [],i=>⟨fun _=>rfl,fun h=>by simp [memI] at h⟩
 | x::l,i=>by
  obtain ⟨h1,h2⟩:=findI k l (i + 1)
  have he:findEntry .int (.int .i64 k) (mapI (x::l)) i=match (some (k == x):Option Bool) with
   | some true=>some (some (i,.bool true))
   | some false=>findEntry .int (.int .i64 k) (mapI l) (i + 1)
   | none=>none:=rfl
  have hm:memI (x::l) k=(k == x || memI l k):=by unfold memI; rw [List.contains_cons]
  rw [he,hm]
  cases hx:(k == x) with
  | true=>exact ⟨fun h=>by simp at h,fun _=>⟨0,rfl,by simp at hx; simp [hx]⟩⟩
  | false=>
   simp only [Bool.false_or]
   refine ⟨h1,fun h=>?_⟩
   obtain ⟨j,g1,g2⟩:=h2 h
   exact ⟨j + 1,by rw [g1,show i + 1 + j=i + (j + 1) by omega],by simpa using g2⟩
theorem lookI {h:Heap} {l:List Int} {k:Int}:lookB h .int (.bool false) (.int .i64 k) (some (.map (mapI l)))=some ⟨.bool (memI l k),false,none,h⟩:=by
 rw [lookB_map]
 cases hm:memI l k with
 | false=>rw [(findI k l 0).1 hm]; rfl
 | true=>
  obtain ⟨j,h1,_⟩:=(findI k l 0).2 hm
  rw [h1]; rfl
theorem updEntry_same:∀ (l:List Int) (i:Nat) (k:Int),l[i]?=some k→updEntry (mapI l) i (.bool true)=mapI l
 | [],i,k,h=>by simp at h
 | x::l,0,k,h=>rfl
 | x::l,i + 1,k,h=>by
  have:=updEntry_same l i k (by simpa using h)
  show (AVal.int .i64 x,AVal.bool true)::updEntry (mapI l) i (.bool true)=_
  rw [this]; rfl
theorem updI_O {h:Heap} {b:Nat} {l v:List Int} {k:Int} (hv:addO l k=some v):updB h b .int (.int .i64 k) (.bool true) (some (.map (mapI l)))=newR (setBox h b (.map (mapI v))) .undef:=by
 rw [updB_map]
 unfold addO at hv
 cases hm:memI l k with
 | false=>
  rw [(findI k l 0).1 hm]
  rw [hm] at hv
  simp only [Bool.false_eq_true,if_false] at hv
  split at hv
  ·rename_i hl
   cases hv
   have hb:Nat.ble (mapI l).length 1073741824=true:=Nat.ble_eq_true_of_le (by unfold mapI; rw [List.length_map]; exact hl)
   rw [updE_none,hb]
   show newR (setBox h b (.map (mapI l++[(.int .i64 k,.bool true)]))) .undef=_
   rw [show mapI l++[(AVal.int .i64 k,AVal.bool true)]=mapI (l++[k]) by unfold mapI; rw [List.map_append]; rfl]
  ·cases hv
 | true=>
  obtain ⟨j,h1,h2⟩:=(findI k l 0).2 hm
  rw [h1]
  rw [hm] at hv
  simp only [if_true,Option.some.injEq] at hv
  subst hv
  show newR (setBox h b (.map (updEntry (mapI l) (0 + j) (.bool true)))) .undef=_
  rw [Nat.zero_add,updEntry_same l j k h2]
@[go_sem] theorem below_mapI {n:Nat}:∀ {l:List Int},belowBox n (.map (mapI l))=true
 | []=>rfl
 | x::l=>by
  have:=below_mapI (n:=n) (l:=l)
  simp only [belowBox] at this ⊢
  show (below n (.int .i64 x) && below n (.bool true) && belowEntries n (mapI l))=true
  rw [this]; rfl
theorem mkmapI {p:AProg} {xc:XC} {h0:Nat} {al:Option (List Nat)} {e:Env} {h:Heap} {r:Nat}:stepOp p xc h0 al e h (.mkmap r)=newR (newBox h0 h r (.map (mapI []))) (.map (h0 + r)):=s_mkmap
end Go.Z
