/-
  What the line's functions compute, and the small functions of the checks: their runs.
-/
import Derived.Test.YtoljkienfmckjaaGreatDoorZC
import Derived.Test.YtoljkienfmckjaaGreatDoorAbsJ
set_option linter.unusedVariables false
set_option linter.unusedSimpArgs false
set_option maxRecDepth 100000
namespace Go.Z
open Go Go.Abs
def awakeT:List AVal→Option (AVal × Bool)
 | []=>some (.bool true,false)
 | _=>none
def pr:AProg:=tree.prog (fun k=>bif Nat.beq k 5 then some awakeT else none)
theorem drop_cons {α:Type} {l:List α} {i:Nat} {x:α} (hx:l[i]?=some x):l.drop i=x::l.drop (i + 1):=by
 obtain ⟨h1,h2⟩:=List.getElem?_eq_some_iff.1 hx
 rw [List.drop_eq_getElem_cons h1,h2]
theorem wrap_succ {i:Nat} {n:Nat} (h:i < n) (hn:n≤9223372036854775807):wrapF .i64 ((i:Int) + 1)=((i + 1:Nat):Int):=by
 rw [wrapF_i64 (by omega) (by omega)]; rfl
def checkRange (n lo hi:Int):Int:=if n < lo then 3 else if hi < n then 3 else 0
def whenE (b:Bool) (e:Int):Int:=if b then e else 0
def firstNZ:List Int→Int
 | []=>0
 | x::l=>if x=0 then firstNZ l else x
def checkEach (lo hi:Int):List Int→Int
 | []=>0
 | x::l=>if checkRange x lo hi=0 then checkEach lo hi l else 3
theorem F122 (n lo hi:Int) (h:Heap):callFn pr (X pr) 122 [.int .i64 n,.int .i64 lo,.int .i64 hi] h=some (.int .i64 (checkRange n lo hi),false,h):=by
 rw [callFn_at (show pr.fns 122=some c122 from rfl) (by simp)]
 by_cases h1:n < lo <;> by_cases h2:hi < n <;> simp only [go_sem,seval,checkRange,h1,h2]
theorem I122 (n lo hi:Int):callIso pr (X pr) 122 [.int .i64 n,.int .i64 lo,.int .i64 hi]=some (.int .i64 (checkRange n lo hi),false):=
 callIso_of rfl (F122 n lo hi []) rfl rfl
theorem F53 (b:Bool) (e:Int) (h:Heap):callFn pr (X pr) 53 [.bool b,.int .i64 e] h=some (.int .i64 (whenE b e),false,h):=by
 rw [callFn_at (show pr.fns 53=some c53 from rfl) (by simp)]
 cases b <;> simp only [go_sem,seval,whenE,Bool.false_eq_true]
theorem I53 (b:Bool) (e:Int):callIso pr (X pr) 53 [.bool b,.int .i64 e]=some (.int .i64 (whenE b e),false):=callIso_of rfl (F53 b e []) rfl rfl
theorem F48 (b:Bool) (e:Int) (h:Heap):callFn pr (X pr) 48 [.bool b,.int .i64 e] h=some (.int .i64 (whenE b e),false,h):=by
 rw [callFn_at (show pr.fns 48=some c48 from rfl) (by simp)]
 cases b <;> simp only [go_sem,seval,whenE,Bool.false_eq_true]
theorem I48 (b:Bool) (e:Int):callIso pr (X pr) 48 [.bool b,.int .i64 e]=some (.int .i64 (whenE b e),false):=callIso_of rfl (F48 b e []) rfl rfl
theorem l46 (o:Option (List Int)) (h:Heap) (hn:(o.getD []).length≤9223372036854775807):∀ (k i:Nat),i + k=(o.getD []).length →
  X pr (.loop c46_0) ⟨[(0,sl 1 vint o,false),(3,.int .i64 (i:Int),false)],h⟩ =
   if firstNZ ((o.getD []).drop i)=0 then some (.exit 0,⟨[(0,sl 1 vint o,false),(3,.int .i64 ((o.getD []).length:Int),false),(7,.bool false,false)],h⟩)
   else some (.ret,⟨[(2,.int .i64 (firstNZ ((o.getD []).drop i)),false)],h⟩)
 | 0,i,hi=>by
  have hd:(o.getD []).drop i=[]:=List.drop_eq_nil_of_le (by omega)
  have hlt:¬ ((i:Int) < ((o.getD []).length:Int)):=by omega
  have hii:(i:Int)=((o.getD []).length:Int):=by omega
  rw [X_loop',hd]
  simp only [go_sem,seval,c46_0,hlt,firstNZ]
  rw [hii]
 | k + 1,i,hi=>by
  have hlt:(i:Int) < ((o.getD []).length:Int):=by omega
  obtain ⟨x,hx⟩:∃ x,(o.getD [])[i]?=some x:=⟨_,List.getElem?_eq_getElem (by omega)⟩
  have hw:=wrap_succ (show i < (o.getD []).length by omega) hn
  rw [X_loop',drop_cons hx]
  by_cases hz:x=0
  ·have hb:X pr c46_0 ⟨[(0,sl 1 vint o,false),(3,.int .i64 (i:Int),false)],h⟩=some (.normal,⟨[(0,sl 1 vint o,false),(3,.int .i64 ((i + 1:Nat):Int),false)],h⟩):=by
    simp only [go_sem,seval,c46_0,hlt,idx_sl hx,hz,hw]
   rw [hb,loopX_normal,gc_at,l46 o h hn k (i + 1) (by omega)]
   simp only [firstNZ,hz,if_true]
  ·have hb:X pr c46_0 ⟨[(0,sl 1 vint o,false),(3,.int .i64 (i:Int),false)],h⟩=some (.ret,⟨[(2,.int .i64 x,false)],h⟩):=by
    simp only [go_sem,seval,c46_0,hlt,idx_sl hx,hz]
   rw [hb,loopX_ret]
   simp only [firstNZ,hz,if_false]
theorem F46 (o:Option (List Int)) (h:Heap) (hn:(o.getD []).length≤9223372036854775807):callFn pr (X pr) 46 [sl 1 vint o] h=some (.int .i64 (firstNZ (o.getD [])),false,h):=by
 rw [callFn_at (show pr.fns 46=some c46 from rfl) (by simp)]
 have hl:=l46 o h hn (o.getD []).length 0 (by omega)
 rw [List.drop_zero] at hl
 simp only [Int.natCast_zero] at hl
 by_cases hz:firstNZ (o.getD [])=0
 ·simp only [hz,if_true] at hl
  simp only [go_sem,seval,c46,hl,hz]
 ·simp only [hz,if_false] at hl
  simp only [go_sem,seval,c46,hl]
theorem I46 (o:Option (List Int)) (hn:(o.getD []).length≤9223372036854775807):callIso pr (X pr) 46 [sl 1 vint o]=some (.int .i64 (firstNZ (o.getD [])),false):=callIso_of rfl (F46 o [] hn) rfl rfl
theorem I46c (l:List Int) (hn:l.length≤100):callIso pr (X pr) 46 [.list false 1 (l.map vint)]=some (.int .i64 (firstNZ l),false):=I46 (some l) (by simp; omega)
theorem F52 (n lo hi:Int) (h:Heap):callFn pr (X pr) 52 [.int .i64 n,.int .i64 lo,.int .i64 hi] h=some (.int .i64 (checkRange n lo hi),false,h):=by
 rw [callFn_at (show pr.fns 52=some c52 from rfl) (by simp)]
 by_cases h1:n < lo <;> by_cases h2:hi < n <;> simp only [go_sem,seval,checkRange,h1,h2,I53,whenE,Bool.false_eq_true]
theorem I52 (n lo hi:Int):callIso pr (X pr) 52 [.int .i64 n,.int .i64 lo,.int .i64 hi]=some (.int .i64 (checkRange n lo hi),false):=
 callIso_of rfl (F52 n lo hi []) rfl rfl
theorem F98 (n:Int) (h:Heap):callFn pr (X pr) 98 [.int .i64 n] h=some (.int .i64 (checkRange n (-100000) 100000),false,h):=by
 rw [callFn_at (show pr.fns 98=some c98 from rfl) (by simp)]
 simp only [go_sem,seval,I52]
theorem l51 (l:List Int) (h:Heap) (hn:l.length≤9223372036854775807):∀ (k i:Nat),i + k=l.length →
  X pr (.loop c51_0) ⟨[(5,sl 1 vint (some l),false),(6,.int .i64 (l.length:Int),false),(7,.int .i64 (i:Int),false)],h⟩ =
   if firstNZ (l.drop i)=0 then some (.exit 0,⟨[(5,sl 1 vint (some l),false),(6,.int .i64 (l.length:Int),false),(7,.int .i64 (l.length:Int),false),(8,.bool false,false)],h⟩)
   else some (.ret,⟨[(2,.int .i64 (firstNZ (l.drop i)),false)],h⟩)
 | 0,i,hi=>by
  have hd:l.drop i=[]:=List.drop_eq_nil_of_le (by omega)
  have hlt:¬ ((i:Int) < (l.length:Int)):=by omega
  have hii:(i:Int)=(l.length:Int):=by omega
  rw [X_loop',hd]
  simp only [go_sem,seval,c51_0,hlt,firstNZ]
  rw [hii]
 | k + 1,i,hi=>by
  have hlt:(i:Int) < (l.length:Int):=by omega
  obtain ⟨x,hx⟩:∃ x,l[i]?=some x:=⟨_,List.getElem?_eq_getElem (by omega)⟩
  have hx':((some l).getD [])[i]?=some x:=hx
  have hw:=wrap_succ (show i < l.length by omega) hn
  rw [X_loop',drop_cons hx]
  by_cases hz:x=0
  ·have hb:X pr c51_0 ⟨[(5,sl 1 vint (some l),false),(6,.int .i64 (l.length:Int),false),(7,.int .i64 (i:Int),false)],h⟩=some (.normal,⟨[(5,sl 1 vint (some l),false),(6,.int .i64 (l.length:Int),false),(7,.int .i64 ((i + 1:Nat):Int),false)],h⟩):=by
    simp only [go_sem,seval,c51_0,hlt,idx_sl hx',hz,hw]
   rw [hb,loopX_normal,gc_at,l51 l h hn k (i + 1) (by omega)]
   simp only [firstNZ,hz,if_true]
  ·have hb:X pr c51_0 ⟨[(5,sl 1 vint (some l),false),(6,.int .i64 (l.length:Int),false),(7,.int .i64 (i:Int),false)],h⟩=some (.ret,⟨[(2,.int .i64 x,false)],h⟩):=by
    simp only [go_sem,seval,c51_0,hlt,idx_sl hx',hz]
   rw [hb,loopX_ret]
   simp only [firstNZ,hz,if_false]
theorem I51 (l:List Int) (hn:l.length≤9223372036854775807):callIso pr (X pr) 51 [.list false 1 (l.map vint)]=some (.int .i64 (firstNZ l),false):=by
 have:callFn pr (X pr) 51 [sl 1 vint (some l)] []=some (.int .i64 (firstNZ l),false,[]):=by
  rw [callFn_at (show pr.fns 51=some c51 from rfl) (by simp)]
  have hl:=l51 l [] hn l.length 0 (by omega)
  rw [List.drop_zero] at hl
  simp only [Int.natCast_zero] at hl
  by_cases hz:firstNZ l=0
  ·simp only [hz,if_true] at hl
   simp only [go_sem,seval,c51,hl,hz,Option.getD_some]
  ·simp only [hz,if_false] at hl
   simp only [go_sem,seval,c51,hl,Option.getD_some]
 exact callIso_of rfl this rfl rfl
theorem l94 (o:Option (List Int)) (lo hi:Int) (h:Heap) (hn:(o.getD []).length≤9223372036854775807):∀ (k i:Nat),i + k=(o.getD []).length →
  X pr (.loop c94_0) ⟨[(0,sl 1 vint o,false),(1,.int .i64 lo,false),(2,.int .i64 hi,false),(7,.int .i64 (i:Int),false)],h⟩ =
   if checkEach lo hi ((o.getD []).drop i)=0 then some (.exit 0,⟨[(0,sl 1 vint o,false),(1,.int .i64 lo,false),(2,.int .i64 hi,false),(7,.int .i64 ((o.getD []).length:Int),false),(11,.bool false,false)],h⟩)
   else some (.ret,⟨[(6,.int .i64 3,false)],h⟩)
 | 0,i,hi'=>by
  have hd:(o.getD []).drop i=[]:=List.drop_eq_nil_of_le (by omega)
  have hlt:¬ ((i:Int) < ((o.getD []).length:Int)):=by omega
  have hii:(i:Int)=((o.getD []).length:Int):=by omega
  rw [X_loop',hd]
  simp only [go_sem,seval,c94_0,hlt,checkEach]
  rw [hii]
 | k + 1,i,hi'=>by
  have hlt:(i:Int) < ((o.getD []).length:Int):=by omega
  obtain ⟨x,hx⟩:∃ x,(o.getD [])[i]?=some x:=⟨_,List.getElem?_eq_getElem (by omega)⟩
  have hw:=wrap_succ (show i < (o.getD []).length by omega) hn
  rw [X_loop',drop_cons hx]
  by_cases hz:checkRange x lo hi=0
  ·have hb:X pr c94_0 ⟨[(0,sl 1 vint o,false),(1,.int .i64 lo,false),(2,.int .i64 hi,false),(7,.int .i64 (i:Int),false)],h⟩=some (.normal,⟨[(0,sl 1 vint o,false),(1,.int .i64 lo,false),(2,.int .i64 hi,false),(7,.int .i64 ((i + 1:Nat):Int),false)],h⟩):=by
    simp only [go_sem,seval,c94_0,hlt,idx_sl hx,I122,hz,hw]
   rw [hb,loopX_normal,gc_at,l94 o lo hi h hn k (i + 1) (by omega)]
   simp only [checkEach,hz,if_true]
  ·have hb:X pr c94_0 ⟨[(0,sl 1 vint o,false),(1,.int .i64 lo,false),(2,.int .i64 hi,false),(7,.int .i64 (i:Int),false)],h⟩=some (.ret,⟨[(6,.int .i64 3,false)],h⟩):=by
    simp only [go_sem,seval,c94_0,hlt,idx_sl hx,I122,hz]
   rw [hb,loopX_ret]
   simp only [checkEach,hz,if_false]
   rfl
theorem checkEach_or (lo hi:Int):∀ l,checkEach lo hi l=0∨checkEach lo hi l=3
 | []=>.inl rfl
 | x::l=>by
  simp only [checkEach]
  split
  ·exact checkEach_or lo hi l
  ·exact .inr rfl
theorem I94 (o:Option (List Int)) (lo hi:Int) (hn:(o.getD []).length≤9223372036854775807):callIso pr (X pr) 94 [sl 1 vint o,.int .i64 lo,.int .i64 hi]=some (.int .i64 (checkEach lo hi (o.getD [])),false):=by
 have:callFn pr (X pr) 94 [sl 1 vint o,.int .i64 lo,.int .i64 hi] []=some (.int .i64 (checkEach lo hi (o.getD [])),false,[]):=by
  rw [callFn_at (show pr.fns 94=some c94 from rfl) (by simp)]
  have hl:=l94 o lo hi [] hn (o.getD []).length 0 (by omega)
  rw [List.drop_zero] at hl
  simp only [Int.natCast_zero] at hl
  rcases checkEach_or lo hi (o.getD []) with hz | hz
  ·simp only [hz,if_true] at hl
   simp only [go_sem,seval,c94,hl,hz]
  ·rw [if_neg (by rw [hz]; decide)] at hl
   simp only [go_sem,seval,c94,hl,hz]
 exact callIso_of rfl this rfl rfl
end Go.Z
