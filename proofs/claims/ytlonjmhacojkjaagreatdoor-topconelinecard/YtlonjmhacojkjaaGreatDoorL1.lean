/-
  What the line's functions compute, and the small functions of the checks: their runs.
-/
import Derived.Test.YtlonjmhacojkjaaGreatDoorZC
import Derived.Test.YtlonjmhacojkjaaGreatDoorAbsJ
set_option linter.unusedVariables false
set_option linter.unusedSimpArgs false
set_option maxRecDepth 100000
namespace Go.Z
open Go Go.Abs
def awakeT:List AVal→Option (AVal × Bool)
 | []=>some (.bool true,false)
 | _=>none
def pr:AProg:=tree.prog (fun k=>bif Nat.beq k 5 then some awakeT else none)
theorem drop_cons {α:Type} {l:List α} {i:Nat} {x:α} (hx:l[i]?=some x):l.drop i=x::l.drop (i + 1):=by
 obtain ⟨h1,h2⟩:=List.getElem?_eq_some_iff.1 hx
 rw [List.drop_eq_getElem_cons h1,h2]
theorem wrap_succ {i:Nat} {n:Nat} (h:i < n) (hn:n≤9223372036854775807):wrapF .i64 ((i:Int) + 1)=((i + 1:Nat):Int):=by
 rw [wrapF_i64 (by omega) (by omega)]; rfl
def checkRange (n lo hi:Int):Int:=if n < lo then 3 else if hi < n then 3 else 0
def whenE (b:Bool) (e:Int):Int:=if b then e else 0
def firstNZ:List Int→Int
 | []=>0
 | x::l=>if x=0 then firstNZ l else x
def checkEach (lo hi:Int):List Int→Int
 | []=>0
 | x::l=>if checkRange x lo hi=0 then checkEach lo hi l else 3
theorem F43 (b:Bool) (e:Int) (h:Heap):callFn pr (X pr) 43 [.bool b,.int .i64 e] h=some (.int .i64 (whenE b e),false,h):=by
 rw [callFn_at (show pr.fns 43=some c43 from rfl) (by simp)]
 cases b <;> simp only [go_sem,seval,whenE,Bool.false_eq_true]
theorem I43 (b:Bool) (e:Int):callIso pr (X pr) 43 [.bool b,.int .i64 e]=some (.int .i64 (whenE b e),false):=callIso_of rfl (F43 b e []) rfl rfl
theorem l17 (o:Option (List Int)) (h:Heap) (hn:(o.getD []).length≤9223372036854775807):∀ (k i:Nat),i + k=(o.getD []).length →
  X pr (.loop c17_0) ⟨[(0,sl 1 vint o,false),(3,.int .i64 (i:Int),false)],h⟩ =
   if firstNZ ((o.getD []).drop i)=0 then some (.exit 0,⟨[(0,sl 1 vint o,false),(3,.int .i64 ((o.getD []).length:Int),false),(7,.bool false,false)],h⟩)
   else some (.ret,⟨[(2,.int .i64 (firstNZ ((o.getD []).drop i)),false)],h⟩)
 | 0,i,hi=>by
  have hd:(o.getD []).drop i=[]:=List.drop_eq_nil_of_le (by omega)
  have hlt:¬ ((i:Int) < ((o.getD []).length:Int)):=by omega
  have hii:(i:Int)=((o.getD []).length:Int):=by omega
  rw [X_loop',hd]
  simp only [go_sem,seval,c17_0,hlt,firstNZ]
  rw [hii]
 | k + 1,i,hi=>by
  have hlt:(i:Int) < ((o.getD []).length:Int):=by omega
  obtain ⟨x,hx⟩:∃ x,(o.getD [])[i]?=some x:=⟨_,List.getElem?_eq_getElem (by omega)⟩
  have hw:=wrap_succ (show i < (o.getD []).length by omega) hn
  rw [X_loop',drop_cons hx]
  by_cases hz:x=0
  ·have hb:X pr c17_0 ⟨[(0,sl 1 vint o,false),(3,.int .i64 (i:Int),false)],h⟩=some (.normal,⟨[(0,sl 1 vint o,false),(3,.int .i64 ((i + 1:Nat):Int),false)],h⟩):=by
    simp only [go_sem,seval,c17_0,hlt,idx_sl hx,hz,hw]
   rw [hb,loopX_normal,gc_at,l17 o h hn k (i + 1) (by omega)]
   simp only [firstNZ,hz,if_true]
  ·have hb:X pr c17_0 ⟨[(0,sl 1 vint o,false),(3,.int .i64 (i:Int),false)],h⟩=some (.ret,⟨[(2,.int .i64 x,false)],h⟩):=by
    simp only [go_sem,seval,c17_0,hlt,idx_sl hx,hz]
   rw [hb,loopX_ret]
   simp only [firstNZ,hz,if_false]
theorem F17 (o:Option (List Int)) (h:Heap) (hn:(o.getD []).length≤9223372036854775807):callFn pr (X pr) 17 [sl 1 vint o] h=some (.int .i64 (firstNZ (o.getD [])),false,h):=by
 rw [callFn_at (show pr.fns 17=some c17 from rfl) (by simp)]
 have hl:=l17 o h hn (o.getD []).length 0 (by omega)
 rw [List.drop_zero] at hl
 simp only [Int.natCast_zero] at hl
 by_cases hz:firstNZ (o.getD [])=0
 ·simp only [hz,if_true] at hl
  simp only [go_sem,seval,c17,hl,hz]
 ·simp only [hz,if_false] at hl
  simp only [go_sem,seval,c17,hl]
theorem I17 (o:Option (List Int)) (hn:(o.getD []).length≤9223372036854775807):callIso pr (X pr) 17 [sl 1 vint o]=some (.int .i64 (firstNZ (o.getD [])),false):=callIso_of rfl (F17 o [] hn) rfl rfl
theorem F42 (n lo hi:Int) (h:Heap):callFn pr (X pr) 42 [.int .i64 n,.int .i64 lo,.int .i64 hi] h=some (.int .i64 (checkRange n lo hi),false,h):=by
 rw [callFn_at (show pr.fns 42=some c42 from rfl) (by simp)]
 by_cases h1:n < lo <;> by_cases h2:hi < n <;> simp only [go_sem,seval,checkRange,h1,h2,I43,whenE,Bool.false_eq_true]
theorem I42 (n lo hi:Int):callIso pr (X pr) 42 [.int .i64 n,.int .i64 lo,.int .i64 hi]=some (.int .i64 (checkRange n lo hi),false):=
 callIso_of rfl (F42 n lo hi []) rfl rfl
theorem F74 (n:Int) (h:Heap):callFn pr (X pr) 74 [.int .i64 n] h=some (.int .i64 (checkRange n (-100000) 100000),false,h):=by
 rw [callFn_at (show pr.fns 74=some c74 from rfl) (by simp)]
 simp only [go_sem,seval,I42]
theorem I74 (n:Int):callIso pr (X pr) 74 [.int .i64 n]=some (.int .i64 (checkRange n (-100000) 100000),false):=callIso_of rfl (F74 n []) rfl rfl
theorem l41 (l:List Int) (h:Heap) (hn:l.length≤9223372036854775807):∀ (k i:Nat),i + k=l.length →
  X pr (.loop c41_0) ⟨[(5,sl 1 vint (some l),false),(6,.int .i64 (l.length:Int),false),(7,.int .i64 (i:Int),false)],h⟩ =
   if firstNZ (l.drop i)=0 then some (.exit 0,⟨[(5,sl 1 vint (some l),false),(6,.int .i64 (l.length:Int),false),(7,.int .i64 (l.length:Int),false),(8,.bool false,false)],h⟩)
   else some (.ret,⟨[(2,.int .i64 (firstNZ (l.drop i)),false)],h⟩)
 | 0,i,hi=>by
  have hd:l.drop i=[]:=List.drop_eq_nil_of_le (by omega)
  have hlt:¬ ((i:Int) < (l.length:Int)):=by omega
  have hii:(i:Int)=(l.length:Int):=by omega
  rw [X_loop',hd]
  simp only [go_sem,seval,c41_0,hlt,firstNZ]
  rw [hii]
 | k + 1,i,hi=>by
  have hlt:(i:Int) < (l.length:Int):=by omega
  obtain ⟨x,hx⟩:∃ x,l[i]?=some x:=⟨_,List.getElem?_eq_getElem (by omega)⟩
  have hx':((some l).getD [])[i]?=some x:=hx
  have hw:=wrap_succ (show i < l.length by omega) hn
  rw [X_loop',drop_cons hx]
  by_cases hz:x=0
  ·have hb:X pr c41_0 ⟨[(5,sl 1 vint (some l),false),(6,.int .i64 (l.length:Int),false),(7,.int .i64 (i:Int),false)],h⟩=some (.normal,⟨[(5,sl 1 vint (some l),false),(6,.int .i64 (l.length:Int),false),(7,.int .i64 ((i + 1:Nat):Int),false)],h⟩):=by
    simp only [go_sem,seval,c41_0,hlt,idx_sl hx',hz,hw]
   rw [hb,loopX_normal,gc_at,l41 l h hn k (i + 1) (by omega)]
   simp only [firstNZ,hz,if_true]
  ·have hb:X pr c41_0 ⟨[(5,sl 1 vint (some l),false),(6,.int .i64 (l.length:Int),false),(7,.int .i64 (i:Int),false)],h⟩=some (.ret,⟨[(2,.int .i64 x,false)],h⟩):=by
    simp only [go_sem,seval,c41_0,hlt,idx_sl hx',hz]
   rw [hb,loopX_ret]
   simp only [firstNZ,hz,if_false]
theorem I41 (l:List Int) (hn:l.length≤9223372036854775807):callIso pr (X pr) 41 [.list false 1 (l.map vint)]=some (.int .i64 (firstNZ l),false):=by
 have:callFn pr (X pr) 41 [sl 1 vint (some l)] []=some (.int .i64 (firstNZ l),false,[]):=by
  rw [callFn_at (show pr.fns 41=some c41 from rfl) (by simp)]
  have hl:=l41 l [] hn l.length 0 (by omega)
  rw [List.drop_zero] at hl
  simp only [Int.natCast_zero] at hl
  by_cases hz:firstNZ l=0
  ·simp only [hz,if_true] at hl
   simp only [go_sem,seval,c41,hl,hz,Option.getD_some]
  ·simp only [hz,if_false] at hl
   simp only [go_sem,seval,c41,hl,Option.getD_some]
 exact callIso_of rfl this rfl rfl
end Go.Z
