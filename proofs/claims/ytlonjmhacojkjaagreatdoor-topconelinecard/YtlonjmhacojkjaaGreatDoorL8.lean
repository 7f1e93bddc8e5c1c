/-
  Learn: its run.
-/
import Derived.Test.YtlonjmhacojkjaaGreatDoorL5
set_option linter.unusedVariables false
set_option linter.unusedSimpArgs false
set_option maxRecDepth 100000
namespace Go.Z
open Go Go.Abs
theorem runL_fold {α γ δ:Type} (f:γ→α→γ):∀ (l:List α) (i:Nat) (s:γ),runL (δ:=δ) (fun _ s x=>.inl (f s x)) i s l=.inl (l.foldl f s)
 | [],_,_=>rfl
 | x::l,i,s=>by simp only [runL,List.foldl_cons]; exact runL_fold f l (i + 1) (f s x)
def minL:List Int→Int
 | []=>0
 | x::l=>l.foldl min x
def maxL:List Int→Int
 | []=>0
 | x::l=>l.foldl max x
theorem I46 (l:List Int) (x:Int) (hn:(x::l).length≤1073741824):callIso pr (X pr) 46 [.list false 1 ((x::l).map vint)]=some (.int .i64 (minL (x::l)),false):=by
 have hn':((some (x::l)).getD []).length≤1073741824:=hn
 have hl:=X_loop_inv (p:=pr) (c:=c46_0) (δ:=Empty) (x::l) (fun i (s:Int)=>⟨[(0,sl 1 vint (some (x::l)),false),(3,.int .i64 s,false),(4,.int .i64 (i:Int),false)],[]⟩)
  (fun _ s y=>.inl (min s y)) (fun s=>(.exit 0,⟨[(0,sl 1 vint (some (x::l)),false),(3,.int .i64 s,false),(4,.int .i64 ((x::l).length:Int),false),(15,.bool false,false)],[]⟩)) (fun d=>nomatch d) (fun _ _=>True)
  (fun _ h=>by cases h) (fun d=>nomatch d) ?_ ?_ l.length 1 x (by simp; omega) trivial
 ·have:callFn pr (X pr) 46 [sl 1 vint (some (x::l))] []=some (.int .i64 (minL (x::l)),false,[]):=by
   rw [callFn_at (show pr.fns 46=some c46 from rfl) (by simp)]
   rw [runL_fold] at hl
   simp only [outL_inl,List.drop_succ_cons,List.drop_zero,Int.natCast_one] at hl
   have h1:¬ ((((some (x::l)).getD []).length:Int) < 1):=by simp; omega
   have h0:((some (x::l)).getD [])[0]?=some x:=rfl
   simp only [go_sem,seval,c46,h1,idx_sl0 h0,hl,minL]
  exact callIso_of rfl this rfl rfl
 ·intro s _
  have hlt:¬ (((l.length + 1:Nat):Int) < ((l.length + 1:Nat):Int)):=by omega
  simp only [go_sem,seval,c46_0,Option.getD_some,hlt]
 ·intro i s y hy hi _
  have hy':((some (x::l)).getD [])[i]?=some y:=hy
  have hlt:(i:Int) < (((some (x::l)).getD []).length:Int):=by show (i:Int) < ((x::l).length:Int); omega
  have hw:=wrap_succ hi (by omega)
  refine stepL_in rfl trivial ?_ (gc_same (Nat.le_refl _))
  simp only [go_sem,seval,c46_0,hlt,idx_sl hy',hw]
theorem I47 (l:List Int) (x:Int) (hn:(x::l).length≤1073741824):callIso pr (X pr) 47 [.list false 1 ((x::l).map vint)]=some (.int .i64 (maxL (x::l)),false):=by
 have hn':((some (x::l)).getD []).length≤1073741824:=hn
 have hl:=X_loop_inv (p:=pr) (c:=c47_0) (δ:=Empty) (x::l) (fun i (s:Int)=>⟨[(0,sl 1 vint (some (x::l)),false),(3,.int .i64 s,false),(4,.int .i64 (i:Int),false)],[]⟩)
  (fun _ s y=>.inl (max s y)) (fun s=>(.exit 0,⟨[(0,sl 1 vint (some (x::l)),false),(3,.int .i64 s,false),(4,.int .i64 ((x::l).length:Int),false),(15,.bool false,false)],[]⟩)) (fun d=>nomatch d) (fun _ _=>True)
  (fun _ h=>by cases h) (fun d=>nomatch d) ?_ ?_ l.length 1 x (by simp; omega) trivial
 ·have:callFn pr (X pr) 47 [sl 1 vint (some (x::l))] []=some (.int .i64 (maxL (x::l)),false,[]):=by
   rw [callFn_at (show pr.fns 47=some c47 from rfl) (by simp)]
   rw [runL_fold] at hl
   simp only [outL_inl,List.drop_succ_cons,List.drop_zero,Int.natCast_one] at hl
   have h1:¬ ((((some (x::l)).getD []).length:Int) < 1):=by simp; omega
   have h0:((some (x::l)).getD [])[0]?=some x:=rfl
   simp only [go_sem,seval,c47,h1,idx_sl0 h0,hl,maxL]
  exact callIso_of rfl this rfl rfl
 ·intro s _
  have hlt:¬ (((l.length + 1:Nat):Int) < ((l.length + 1:Nat):Int)):=by omega
  simp only [go_sem,seval,c47_0,Option.getD_some,hlt]
 ·intro i s y hy hi _
  have hy':((some (x::l)).getD [])[i]?=some y:=hy
  have hlt:(i:Int) < (((some (x::l)).getD []).length:Int):=by show (i:Int) < ((x::l).length:Int); omega
  have hw:=wrap_succ hi (by omega)
  refine stepL_in rfl trivial ?_ (gc_same (Nat.le_refl _))
  simp only [go_sem,seval,c47_0,hlt,idx_sl hy',hw]
def valU (t:Nat) (u:GUnit):Int:=(u.values.getD []).getD t 0
def col (t:Nat) (l:List GUnit):List Int:=l.map (valU t)
theorem valU_get {t:Nat} {u:GUnit} (h:t < (u.values.getD []).length):(u.values.getD [])[t]?=some (valU t u):=by
 simp [valU,List.getD_eq_getElem?_getD,List.getElem?_eq_getElem h]
@[go_sem] theorem afterS {n:Nat} {v:AVal} {h:Heap}:afterShared n v h=bif Nat.ble h.length n then h else bif below n v && belowHeap n (h.take n) then h.take n else h:=rfl
@[go_sem] theorem belowHeap_nil {n:Nat}:belowHeap n []=true:=rfl
@[go_sem] theorem belowHeap_cons {n:Nat} {b:ABox} {h:Heap}:belowHeap n (b::h)=(belowBox n b && belowHeap n h):=rfl
@[go_sem] theorem belowBox_cells {n:Nat} {cs:List (AVal × Bool)}:belowBox n (.cells cs)=belowCells n cs:=rfl
@[go_sem] theorem belowCells_nil {n:Nat}:belowCells n []=true:=rfl
@[go_sem] theorem belowCells_cons {n:Nat} {v:AVal} {o:Bool} {cs:List (AVal × Bool)}:belowCells n ((v,o)::cs)=(below n v && belowCells n cs):=rfl
@[go_sem] theorem below_accI {n:Nat} {l:List Int}:below n (acc 1 vint l)=true:=below_acc (fun _=>rfl) l
theorem F45 (b1000 b1001 b1003:ABox) (t:Nat) (u:GUnit) (ht:t < (u.values.getD []).length):
  callFn pr (X pr) 45 [.agg [.str u.serial,sl 1 vint u.values],.ptr 2 0] [b1000,b1001,.cells [(.int .i64 (t:Int),false)],b1003]=some (.int .i64 (valU t u),false,[b1000,b1001,.cells [(.int .i64 (t:Int),false)],b1003,.cells [(.str u.serial,false),(sl 1 vint u.values,false)]]):=by
 rw [callFn_at (show pr.fns 45=some c45 from rfl) (by simp)]
 simp only [go_sem,seval,c45,idx_sl (valU_get ht)]
theorem l44 (b1000 b1001:ABox) (hb0:∀ n,belowBox n b1000=true) (hb1:∀ n,belowBox n b1001=true) (t:Nat) (o:Option (List GUnit)) (hn:(o.getD []).length≤1073741824) (ht:∀ u∈o.getD [],t < (u.values.getD []).length):
  X pr (.loop c44_0) ⟨[(1,.fn (.func 45) [] [.ptr 2 0],false),(5,.list true 0 [],false),(8,sl 2 vunit o,false),(9,.int .i64 ((o.getD []).length:Int),false),(10,.int .i64 0,false)],[b1000,b1001,.cells [(.int .i64 (t:Int),false)]]⟩ =
   some (.exit 0,⟨[(1,.fn (.func 45) [] [.ptr 2 0],false),(5,acc 1 vint (col t (o.getD [])),accO (o.getD [])),(8,sl 2 vunit o,false),(9,.int .i64 ((o.getD []).length:Int),false),(10,.int .i64 ((o.getD []).length:Int),false),(11,.bool false,false)],[b1000,b1001,.cells [(.int .i64 (t:Int),false)]]⟩):=by
 have:=X_loop_list (p:=pr) (c:=c44_0) (δ:=Empty) (o.getD []) (fun i (s:List Int)=>⟨[(1,.fn (.func 45) [] [.ptr 2 0],false),(5,acc 1 vint s,accO s),(8,sl 2 vunit o,false),(9,.int .i64 ((o.getD []).length:Int),false),(10,.int .i64 (i:Int),false)],[b1000,b1001,.cells [(.int .i64 (t:Int),false)]]⟩)
  (fun _ s u=>.inl (s++[valU t u])) (fun s=>(.exit 0,⟨[(1,.fn (.func 45) [] [.ptr 2 0],false),(5,acc 1 vint s,accO s),(8,sl 2 vunit o,false),(9,.int .i64 ((o.getD []).length:Int),false),(10,.int .i64 ((o.getD []).length:Int),false),(11,.bool false,false)],[b1000,b1001,.cells [(.int .i64 (t:Int),false)]]⟩))
  (fun d=>nomatch d) (fun i s=>s.length=i) [] (fun _ h=>by cases h) (fun d=>nomatch d) ?_ ?_ rfl
 ·rw [Int.natCast_zero,runL_map] at this
  rw [outL_inl,List.nil_append,accO_map] at this
  exact this
 ·intro s _
  have hlt:¬ (((o.getD []).length:Int) < ((o.getD []).length:Int)):=by omega
  simp only [go_sem,seval,c44_0,hlt]
 ·intro i s u hx hi hs
  have hlt:(i:Int) < ((o.getD []).length:Int):=by omega
  have hw:=wrap_succ hi (by omega)
  have h91:=fun b1003=>F45 b1000 b1001 b1003 t u (ht u (List.mem_of_getElem? hx))
  refine stepL_in (s':=s++[valU t u]) (st':=⟨[(1,.fn (.func 45) [] [.ptr 2 0],false),(5,acc 1 vint (s++[valU t u]),accO (s++[valU t u])),(8,sl 2 vunit o,false),(9,.int .i64 ((o.getD []).length:Int),false),(10,.int .i64 ((i + 1:Nat):Int),false)],[b1000,b1001,.cells [(.int .i64 (t:Int),false)]]++[.cells [(.str u.serial,false),(sl 1 vint u.values,false)]]⟩) rfl (by simp [hs]) ?_ (gc_over rfl rfl ?_ ?_)
  ·cases s with
   | nil=>
    simp only [go_sem,seval,c44_0,hlt,idx_sl hx,h91,hw,acc,accO,hb0,hb1]
    rfl
   | cons a s=>
    have h9:s.length≤1073741822:=by simp at hs; omega
    simp only [go_sem,seval,c44_0,hlt,idx_sl hx,h91,hw,acc,accO,List.length_map,h9,List.map_append,hb0,hb1]
    rfl
  ·simp only [go_sem,seval]
  ·simp only [go_sem,seval,hb0,hb1]
theorem F44 (b1000 b1001:ABox) (hb0:∀ n,belowBox n b1000=true) (hb1:∀ n,belowBox n b1001=true) (t:Nat) (o:Option (List GUnit)) (hn:(o.getD []).length≤1073741824) (ht:∀ u∈o.getD [],t < (u.values.getD []).length):
  callFn pr (X pr) 44 [sl 2 vunit o,.fn (.func 45) [] [.ptr 2 0]] [b1000,b1001,.cells [(.int .i64 (t:Int),false)]]=some (acc 1 vint (col t (o.getD [])),accO (o.getD []),[b1000,b1001,.cells [(.int .i64 (t:Int),false)]]):=by
 rw [callFn_at (show pr.fns 44=some c44 from rfl) (by simp)]
 simp only [go_sem,seval,c44,l44 b1000 b1001 hb0 hb1 t o hn ht]
theorem acc_cons {α:Type} {z:Nat} {f:α→AVal} {a:α} {l:List α}:acc z f (a::l)=.list false z (f a::l.map f):=rfl
theorem accO_cons {α:Type} {a:α} {l:List α}:accO (a::l)=true:=rfl
theorem I46a (c:List Int) (hc:c ≠ []) (hn:c.length≤1073741824):callIso pr (X pr) 46 [acc 1 vint c]=some (.int .i64 (minL c),false):=by
 cases c with
 | nil=>exact absurd rfl hc
 | cons x l=>exact I46 l x hn
theorem I47a (c:List Int) (hc:c ≠ []) (hn:c.length≤1073741824):callIso pr (X pr) 47 [acc 1 vint c]=some (.int .i64 (maxL c),false):=by
 cases c with
 | nil=>exact absurd rfl hc
 | cons x l=>exact I47 l x hn
def loF (g:Int) (c:List Int):Int:=max (-100000) (wrapF .i64 (minL c - g))
def hiF (g:Int) (c:List Int):Int:=min 100000 (wrapF .i64 (maxL c + g))
abbrev nn:ABox:=.cells [(.list true 0 [],false),(.list true 0 [],false)]
abbrev accBox (s:List Int × List Int):ABox:=.cells [(acc 1 vint s.1,accO s.1),(acc 1 vint s.2,accO s.2)]
theorem l12 (o:Option (List GUnit)) (g:Int) (n:Nat) (hne:o.getD [] ≠ []) (hn:(o.getD []).length≤1073741824) (hm:n≤1073741824) (ht:∀ t < n,∀ u∈o.getD [],t < (u.values.getD []).length):
  X pr (.loop c12_0) ⟨[(0,sl 2 vunit o,false),(1,.int .i64 g,false),(4,.ptr 0 0,false),(7,.ptr 1 0,false),(28,.int .i64 (n:Int),false),(29,.int .i64 0,false)],[nn,nn]⟩ =
   some (.exit 0,⟨[(0,sl 2 vunit o,false),(1,.int .i64 g,false),(4,.ptr 0 0,false),(7,.ptr 1 0,false),(28,.int .i64 (n:Int),false),(29,.int .i64 (n:Int),false),(30,.bool false,false)],
    [nn,accBox ((List.range n).map fun t=>loF g (col t (o.getD [])),(List.range n).map fun t=>hiF g (col t (o.getD [])))]⟩):=by
 have hlen:(List.range n).length=n:=List.length_range
 have:=X_loop_list (p:=pr) (c:=c12_0) (δ:=Empty) (List.range n) (fun i (s:List Int × List Int)=>⟨[(0,sl 2 vunit o,false),(1,.int .i64 g,false),(4,.ptr 0 0,false),(7,.ptr 1 0,false),(28,.int .i64 (n:Int),false),(29,.int .i64 (i:Int),false)],[nn,accBox s]⟩)
  (fun _ s t=>.inl (s.1++[loF g (col t (o.getD []))],s.2++[hiF g (col t (o.getD []))]))
  (fun s=>(.exit 0,⟨[(0,sl 2 vunit o,false),(1,.int .i64 g,false),(4,.ptr 0 0,false),(7,.ptr 1 0,false),(28,.int .i64 (n:Int),false),(29,.int .i64 (n:Int),false),(30,.bool false,false)],[nn,accBox s]⟩))
  (fun d=>nomatch d) (fun i s=>s.1.length=i∧s.2.length=i) ([],[]) (fun _ h=>by cases h) (fun d=>nomatch d) ?_ ?_ ⟨rfl,rfl⟩
 ·rw [Int.natCast_zero,runL_fold (fun (s:List Int × List Int) t=>(s.1++[loF g (col t (o.getD []))],s.2++[hiF g (col t (o.getD []))]))] at this
  have hf:∀ (l:List Nat) (s:List Int × List Int),l.foldl (fun (s:List Int × List Int) t=>(s.1++[loF g (col t (o.getD []))],s.2++[hiF g (col t (o.getD []))])) s=(s.1++l.map (fun t=>loF g (col t (o.getD []))),s.2++l.map (fun t=>hiF g (col t (o.getD [])))):=by
   intro l
   induction l with
   | nil=>intro s; simp
   | cons t l ih=>intro s; rw [List.foldl_cons,ih]; simp
  rw [hf] at this
  exact this
 ·intro s _
  have hlt:¬ ((n:Int) < (n:Int)):=by omega
  simp only [hlen]
  simp only [go_sem,seval,c12_0,hlt]
 ·intro i s t hx hi hs
  rw [hlen] at hi
  have hti:t=i:=by
   have:=List.getElem?_eq_some_iff.1 hx
   obtain ⟨h1,h2⟩:=this
   simpa using h2.symm
  subst hti
  have hlt:(t:Int) < (n:Int):=by omega
  have hw:=wrap_succ hi (by omega)
  have hcn:col t (o.getD []) ≠ []:=by simp [col,hne]
  have hcl:(col t (o.getD [])).length≤1073741824:=by simpa [col] using hn
  have h92:=I46a _ hcn hcl
  have h93:=I47a _ hcn hcl
  have h90:=F44 nn (accBox s) (fun n=>by simp only [go_sem,seval]) (fun n=>by simp only [go_sem,seval]) t o hn (ht t hi)
  obtain ⟨s1001,s1002⟩:=s
  obtain ⟨hs1,hs2⟩:=hs
  simp only at hs1 hs2
  refine stepL_in (s':=(s1001++[loF g (col t (o.getD []))],s1002++[hiF g (col t (o.getD []))])) (st':=⟨[(0,sl 2 vunit o,false),(1,.int .i64 g,false),(4,.ptr 0 0,false),(7,.ptr 1 0,false),(28,.int .i64 (n:Int),false),(29,.int .i64 ((t + 1:Nat):Int),false)],[nn,accBox (s1001++[loF g (col t (o.getD []))],s1002++[hiF g (col t (o.getD []))])]++[.cells [(.int .i64 (t:Int),false)]]⟩) rfl ⟨by simp [hs1],by simp [hs2]⟩ ?_ (gc_over rfl rfl ?_ ?_)
  ·cases s1001 with
   | nil=>
    cases s1002 with
    | nil=>
     simp only [accBox,nn,acc_nil,accO_nil] at h90
     simp only [go_sem,seval,c12_0,hlt,h90,h92,h93,hw,accBox,nn,acc_cons,accO_cons,loF,hiF]
     rfl
    | cons b s1002=>simp at hs1 hs2; omega
   | cons a s1001=>
    cases s1002 with
    | nil=>simp at hs1 hs2; omega
    | cons b s1002=>
     have h9:s1001.length≤1073741822:=by simp at hs1; omega
     have h8:s1002.length≤1073741822:=by simp at hs2; omega
     simp only [accBox,nn,acc_cons,accO_cons] at h90
     simp only [go_sem,seval,c12_0,hlt,h90,h92,h93,hw,List.length_map,h9,h8,List.map_append,accBox,nn,acc_cons,accO_cons,loF,hiF]
     rfl
  ·simp only [go_sem,seval]
  ·simp only [go_sem,seval]
end Go.Z
/-
 Learn,both: their runs.
-/
namespace Go.Z
open Go Go.Abs
def lenN:List GUnit→Nat
 | []=>0
 | u::_=>(u.values.getD []).length
def learnE (l:List GUnit) (g:Int):Int:=firstNZ [unitsE l,checkRange g 0 100000,whenE (decide ((l.length:Int)=0)) 12]
def learnedM (l:List GUnit) (g:Int):GMask:=⟨nonNil ((List.range (lenN l)).map fun t=>loF g (col t l)),nonNil ((List.range (lenN l)).map fun t=>hiF g (col t l))⟩
def learnM (l:List GUnit) (g:Int):GMask:=if learnE l g=0 then learnedM l g else ⟨none,none⟩
theorem stepU_len {n0:Int} {seen:List (List UInt8)} {u:GUnit} (h:stepU n0 seen u=0):lenU u=n0:=by
 by_cases hh:lenU u=n0
 ·exact hh
 ·exfalso
  revert h
  simp only [stepU,firstNZ,whenE,hh,decide_false,Bool.not_false,if_true]
  split <;> simp_all
theorem firstU_len {n0:Int}:∀ {l:List GUnit} {seen:List (List UInt8)},firstU n0 seen l=0→∀ u∈l,lenU u=n0
 | u::l,seen,h,x,hx=>by
  simp only [firstU] at h
  by_cases hz:stepU n0 seen u=0
  ·rw [if_pos hz] at h
   cases hx with
   | head=>exact stepU_len hz
   | tail _ hx=>exact firstU_len h x hx
  ·rw [if_neg hz] at h; exact absurd h hz
theorem learnE_units {l:List GUnit} {g:Int} (h:learnE l g=0):unitsE l=0:=by
 by_cases hh:unitsE l=0
 ·exact hh
 ·simp only [learnE,firstNZ,if_neg hh] at h; exact h
theorem learnE_ne {l:List GUnit} {g:Int} (h:learnE l g=0):l ≠ []:=by
 intro hh
 rw [hh] at h
 have:learnE [] g ≠ 0:=by
  simp only [learnE,unitsE,firstNZ,firstU,whenE]
  by_cases hc:checkRange g 0 100000=0 <;> simp [hc]
 exact this h
theorem units_len {l:List GUnit} (h:unitsE l=0):∀ u∈l,(u.values.getD []).length=lenN l:=by
 intro u hu
 unfold unitsE at h
 split at h
 ·have:=firstU_len h u hu
  cases l with
  | nil=>cases hu
  | cons a l=>
   simp only [len0,lenU] at this
   simp only [lenN]
   omega
 ·cases h
theorem len_first {o:Option (List GUnit)} {u0:GUnit} (h0:(o.getD [])[0]?=some u0):(u0.values.getD []).length=lenN (o.getD []):=by
 cases hc:o.getD [] with
 | nil=>rw [hc] at h0; cases h0
 | cons a l=>rw [hc] at h0; cases h0; rfl
theorem I12 (o:Option (List GUnit)) (g:Int) (hn:(o.getD []).length≤1073741824) (hs:∀ u∈o.getD [],sizeU u):
  callIso pr (X pr) 12 [sl 2 vunit o,.int .i64 g]=some (.tup [.agg [sl 1 vint (learnM (o.getD []) g).least,sl 1 vint (learnM (o.getD []) g).most],.int .i64 (learnE (o.getD []) g)],false):=by
 have:∃ hh,callFn pr (X pr) 12 [sl 2 vunit o,.int .i64 g] []=some (.tup [.agg [sl 1 vint (learnM (o.getD []) g).least,sl 1 vint (learnM (o.getD []) g).most],.int .i64 (learnE (o.getD []) g)],false,hh):=by
  rw [callFn_at (show pr.fns 12=some c12 from rfl) (by simp)]
  have h28:=I32 o hn hs
  by_cases hz:learnE (o.getD []) g=0
  ·have hne:=learnE_ne hz
   have hlen:=units_len (learnE_units hz)
   obtain ⟨u0,h0⟩:∃ u0,(o.getD [])[0]?=some u0:=by
    cases hc:o.getD [] with
    | nil=>exact absurd hc hne
    | cons a l=>exact ⟨a,rfl⟩
   have hu0:=hs u0 (List.mem_of_getElem? h0)
   have hl:=l12 o g (u0.values.getD []).length hne hn hu0.2 (fun t ht u hu=>by rw [hlen u hu,← len_first h0]; exact ht)
   have hM:learnM (o.getD []) g=learnedM (o.getD []) g:=if_pos hz
   rw [hM,hz]
   simp only [accBox,nn,acc_sl] at hl
   rw [len_first h0] at hl
   have h0n:(((u0.values.getD []).length:Nat):Int)=((lenN (o.getD []):Nat):Int):=by rw [len_first h0]
   simp only [learnE] at hz
   simp only [go_sem,seval,c12,h28,I42,I43,I41_3,hz,idx_sl0 h0,h0n,hl,learnedM]
   exact ⟨_,rfl⟩
  ·have hM:learnM (o.getD []) g=⟨none,none⟩:=if_neg hz
   rw [hM]
   simp only [learnE] at hz ⊢
   simp only [go_sem,seval,c12,h28,I42,I43,I41_3,hz]
   exact ⟨_,rfl⟩
 obtain ⟨hh,this⟩:=this
 exact callIso_of rfl this (by simp only [go_sem,seval]) (by simp only [go_sem,seval])
end Go.Z
/-
 Slices that are written; Narrow,both: their runs.
-/
namespace Go.Z
open Go Go.Abs
def copyR (h0:Nat) (al:Option (List Nat)) (sz:Nat) (h:Heap) (x y:Option AVal):Option ORes:=match x,y with
  | some (.ms b o len),some vy=>bif okBox h0 al b then (match boxCells h b with
   | some cs=>(match copySrc sz len vy with
    | some (n,vs)=>(match storeCellsA cs o vs with
     | some cs'=>bif Nat.beq vs.length (n * sz) then (match setBox h b (.cells cs') with
      | some h'=>val h' (.int .i64 n)
      | none=>none) else none
     | none=>none)
    | none=>none)
   | none=>none) else none
  | _,_=>none
@[go_sem] theorem s_copy {p:AProg} {xc:XC} {h0:Nat} {al:Option (List Nat)} {e:Env} {h:Heap} {sz:Nat} {x y:AOpd}:stepOp p xc h0 al e h (.copy sz x y)=copyR h0 al sz h (evalO e x) (evalO e y):=rfl
abbrev mBox (m:GMask):ABox:=.cells [(sl 1 vint m.least,false),(sl 1 vint m.most,false)]
end Go.Z
/-
 The product's Narrow: its run.
-/
namespace Go.Z
open Go Go.Abs
theorem maskE_len {m:GMask} (h:maskE m=0):(m.least.getD []).length=(m.most.getD []).length:=by
 unfold maskE at h
 by_cases hz:maskA m=0
 ·exact maskA_len hz
 ·rw [if_neg hz] at h; exact absurd h hz
end Go.Z
/-
 LineMasks: its run gives true.
-/
namespace Go.Z
open Go Go.Abs
theorem I5:callIso pr (X pr) 5 []=some (.bool true,false):=rfl
end Go.Z
