/-
  Copies, comparisons, sizes: their runs.
-/
import Derived.Test.YtbkpojiedkhfkaaGreatL1
import Derived.Test.YtbkpojiedkhfkaaGreatAbsL
set_option linter.unusedVariables false
set_option linter.unusedSimpArgs false
set_option maxRecDepth 100000
namespace Go.Z
open Go Go.Abs
structure GUnit where
 serial:List UInt8
 values:Option (List Int)
def vunit (u:GUnit):AVal:=.agg [.str u.serial,sl 1 vint u.values]
@[go_sem] theorem flat_vunit {u:GUnit}:(vunit u).flat=[.str u.serial,sl 1 vint u.values]:=rfl
theorem below_vunit {n:Nat} (u:GUnit):below n (vunit u)=true:=by simp only [vunit,go_sem]
@[go_sem] theorem below_units {n:Nat} {l:Option (List GUnit)}:below n (sl 2 vunit l)=true:=below_sl below_vunit
def ownI (o:Option (List Int)):Option (List Int):=some (o.getD [])
theorem I62 (o:Option (List Int)) (hn:(o.getD []).length≤1073741824):callIso pr (X pr) 62 [sl 1 vint o]=some (sl 1 vint (ownI o),true):=by
 have:callFn pr (X pr) 62 [sl 1 vint o] []=some (sl 1 vint (ownI o),true,[]):=by
  rw [callFn_at (show pr.fns 62=some c62 from rfl) (by simp)]
  show _=some (AVal.list false 1 ((o.getD []).map vint),true,[])
  simp only [go_sem,seval,List.length_map,Nat.zero_add,hn]
 exact callIso_of rfl this (by simp only [go_sem,seval]) (by simp only [go_sem,seval])
theorem I32 (u:GUnit) (hn:(u.values.getD []).length≤1073741824):callIso pr (X pr) 32 [vunit u]=some (vunit ⟨u.serial,ownI u.values⟩,false):=by
 have:∃ hh,callFn pr (X pr) 32 [vunit u] []=some (vunit ⟨u.serial,ownI u.values⟩,false,hh):=by
  rw [callFn_at (show pr.fns 32=some c32 from rfl) (by simp)]
  simp only [go_sem,seval,vunit,I62 _ hn]
  exact ⟨_,rfl⟩
 obtain ⟨hh,this⟩:=this
 exact callIso_of rfl this (by simp only [go_sem,seval,vunit]) (by simp only [go_sem,seval,vunit])
end Go.Z
/-
 Lists of units; comparisons; sizes; names: their runs.
-/
namespace Go.Z
open Go Go.Abs
attribute [go_sem] below_vunit
def acc {α:Type} (z:Nat) (f:α→AVal) (l:List α):AVal:=match l with
 | []=>.list true 0 []
 | a::l=>.list false z ((a::l).map f)
def accO {α:Type} (l:List α):Bool:=!l.isEmpty
def nonNil {α:Type} (l:List α):Option (List α):=match l with
 | []=>none
 | a::l=>some (a::l)
theorem acc_sl {α:Type} {z:Nat} {f:α→AVal} (l:List α):acc z f l=sl z f (nonNil l):=by cases l <;> rfl
@[go_sem] theorem acc_nil {α:Type} {z:Nat} {f:α→AVal}:acc z f []=.list true 0 []:=rfl
@[go_sem] theorem accO_nil {α:Type}:accO (α:=α) []=false:=rfl
theorem accO_map {α β:Type} (f:α→β) (l:List α):accO (l.map f)=accO l:=by cases l <;> rfl
theorem callIso_sl {α:Type} {p:AProg} {xc:XC} {h:Heap} {k z:Nat} {args:List AVal} {f:α→AVal} {l:Option (List α)} {o:Bool} (hp:p.prims k=none) (hc:callFn p xc k args []=some (sl z f l,o,h)) (hv:below 0 (sl z f l)=true):callIso p xc k args=some (sl z f l,o):=by
 rw [callIso_of hp hc frzR_sl hv,isList_sl,Bool.and_true]
theorem belowL_append {n:Nat}:∀ {l m:List AVal},belowL n (l++m)=(belowL n l && belowL n m)
 | [],m=>by simp [belowL]
 | x::l,m=>by rw [List.cons_append,belowL_cons,belowL_cons,belowL_append,Bool.and_assoc]
@[go_sem] theorem belowEnv_nil {n:Nat}:belowEnv n []=true:=rfl
@[go_sem] theorem belowEnv_cons {n t:Nat} {v:AVal} {o:Bool} {e:Env}:belowEnv n ((t,v,o)::e)=(below n v && belowEnv n e):=rfl
def ownU (u:GUnit):GUnit:=⟨u.serial,ownI u.values⟩
def okLen (u:GUnit):Prop:=(u.values.getD []).length≤1073741824
theorem I32' (u:GUnit) (hn:okLen u):callIso pr (X pr) 32 [.agg [.str u.serial,sl 1 vint u.values]]=some (vunit (ownU u),false):=I32 u hn
@[go_sem] theorem loadR_vunit {h0:Nat} {al:Option (List Nat)} {h:Heap} {u:GUnit}:loadR h0 al true 2 h (some (.vptr (vunit u)))=some ⟨.agg [.str u.serial,sl 1 vint u.values],false,none,h⟩:=rfl
def s18 (o:Option (List GUnit)) (i:Nat) (s:List GUnit):ASt:=
 ⟨[(3,acc 2 vunit s,accO s),(6,sl 2 vunit o,false),(7,.int .i64 ((o.getD []).length:Int),false),(8,.int .i64 (i:Int),false)],[]⟩
theorem l18 (o:Option (List GUnit)) (hn:(o.getD []).length≤1073741824) (hu:∀ u∈o.getD [],okLen u):
  X pr (.loop c18_0) (s18 o 0 [])=some (outL (fun s=>(.exit 0,⟨[(3,acc 2 vunit s,accO s),(6,sl 2 vunit o,false),(7,.int .i64 ((o.getD []).length:Int),false),(8,.int .i64 ((o.getD []).length:Int),false),(9,.bool false,false)],[]⟩)) (fun d:Empty=>nomatch d)
   (runL (fun _ s u=>.inl (s++[ownU u])) 0 [] (o.getD []))):=by
 refine X_loop_list (o.getD []) (s18 o) _ _ _ (fun i s=>s.length=i) [] (fun _ h=>by cases h) (fun d=>nomatch d) ?_ ?_ rfl
 ·intro s hs
  have hlt:¬ (((o.getD []).length:Int) < ((o.getD []).length:Int)):=by omega
  simp only [go_sem,seval,s18,c18_0,hlt]
 ·intro i s u hu' hi hs
  have hlt:(i:Int) < ((o.getD []).length:Int):=by omega
  have hw:=wrap_succ hi (by omega)
  have hok:=I32' u (hu u (List.mem_of_getElem? hu'))
  have h8:s.length + 1≤1073741824:=by omega
  refine ⟨by simp [hs],?_⟩
  cases s with
  | nil=>
   simp only [go_sem,seval,s18,c18_0,hlt,idx_sl hu',hok,hw,acc,accO]
   exact ⟨_,rfl,gc_over (h:=[]) rfl rfl (by simp only [go_sem,seval]) rfl⟩
  | cons a s=>
   have h9:s.length≤1073741822:=by simp at h8; omega
   simp only [go_sem,seval,s18,c18_0,hlt,idx_sl hu',hok,hw,acc,accO,List.length_map,h9,List.map_append]
   exact ⟨_,rfl,gc_over (h:=[]) rfl rfl (by simp only [go_sem,seval,belowL_append,belowL_map below_vunit]) rfl⟩
theorem runL_map {α β δ:Type} (f:α→β):∀ (l:List α) (i:Nat) (s:List β),runL (δ:=δ) (fun _ s u=>.inl (s++[f u])) i s l=.inl (s++l.map f)
 | [],i,s=>by simp [runL]
 | x::l,i,s=>by simp only [runL]; rw [runL_map f l (i + 1)]; simp
theorem I18 (o:Option (List GUnit)) (hn:(o.getD []).length≤1073741824) (hu:∀ u∈o.getD [],okLen u):callIso pr (X pr) 18 [sl 2 vunit o]=some (sl 2 vunit (nonNil ((o.getD []).map ownU)),accO (o.getD [])):=by
 have hl:=l18 o hn hu
 rw [runL_map] at hl
 simp only [outL_inl,List.nil_append,s18,acc_nil,accO_nil,Int.natCast_zero] at hl
 have hc:callFn pr (X pr) 18 [sl 2 vunit o] []=some (acc 2 vunit ((o.getD []).map ownU),accO ((o.getD []).map ownU),[]):=by
  rw [callFn_at (show pr.fns 18=some c18 from rfl) (by simp)]
  simp only [go_sem,seval,c18,hl]
 rw [acc_sl] at hc
 rw [callIso_sl rfl hc (below_units),accO_map]
def shortU (u:GUnit):Bool:=decide (u.serial.length≤60) && decide ((u.values.getD []).length≤17)
end Go.Z
