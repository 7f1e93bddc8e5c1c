/-
  The program with the builder's methods by contract: Print in it.
-/
import Derived.Test.YtoljkienfmckjaaGreatDoorZL
import Derived.Test.YtoljkienfmckjaaGreatDoorAbsN
set_option linter.unusedVariables false
set_option linter.unusedSimpArgs false
set_option maxRecDepth 100000
namespace Go.Z
open Go Go.Abs Go.Proofs
noncomputable def withS (p:AProg) (s:SPrims):AProg:={ fns:=fun k=>bif (s k).isSome then none else p.fns k,prims:=p.prims,sprims:=fun k=>match s k with
 | some f=>some f
 | none=>p.sprims k }
theorem withS_ok {P:Program} {p:AProg} {s:SPrims} (hp:ProgOk P p) (hs:∀ k f,s k=some f→Abs.Enters P k∧∀ args h v o h',f args h=some (v,o,h')→ShrOk P k args h v o h'):ProgOk P (withS p s) where
 fn:=by
  intro k f hf
  simp only [withS,Bool.cond_eq_ite] at hf
  split at hf
  ·cases hf
  ·exact hp.fn k f hf
 prim:=hp.prim
 mixed:=hp.mixed
 sprim:=by
  intro k f hf
  simp only [withS] at hf
  split at hf
  ·rename_i g hg; cases hf; exact hs k _ hg
  ·exact hp.sprim k f hf
theorem withS_call {p:AProg} {s:SPrims} {xc:XC} {k:Nat} {args:List AVal} {h:Heap} {f:List AVal→Heap→Option (AVal × Bool × Heap)} (hs:s k=some f):callFn (withS p s) xc k args h=f args h:=by
 unfold callFn
 have e1:(withS p s).fns k=none:=by simp only [withS,hs,Option.isSome_some,cond_true]
 have e2:(withS p s).sprims k=some f:=by simp only [withS,hs]
 rw [e1,e2]
def E37 (l s:List UInt8):Option (List UInt8):=if l.length + s.length≤140737488355328 then some (l++s) else none
def q37:List AVal→Heap→Option (AVal × Bool × Heap)
 | [.ptr b 0,.str s],h=>match h[b]? with
  | some (.bld t e l)=>bif Nat.beq t 89 && Nat.beq e 5 then (match E37 l s with
   | some r=>some (.tup [.int .i64 (s.length:Int),.any],false,h.set b (.bld 89 5 r))
   | none=>none) else none
  | _=>none
 | _,_=>none
def q41:List AVal→Heap→Option (AVal × Bool × Heap)
 | [.ptr b 0],h=>match h[b]? with
  | some (.bld t e l)=>bif Nat.beq t 89 && Nat.beq e 5 then some (.str l,false,h.set b .dead) else none
  | _=>none
 | _,_=>none
def sE:SPrims:=fun k=>bif Nat.beq k 37 then some q37 else bif Nat.beq k 41 then some q41 else none
theorem q37_ok {args h v o h'} (hq:q37 args h=some (v,o,h')):ShrOk Tryz.prog 37 args h v o h':=by
 unfold q37 at hq
 split at hq
 ·split at hq
  ·rename_i t e l hb
   simp only [Bool.cond_eq_ite,Bool.and_eq_true] at hq
   split at hq
   ·rename_i hte
    obtain rfl:=Nat.eq_of_beq_eq_true hte.1
    obtain rfl:=Nat.eq_of_beq_eq_true hte.2
    split at hq
    ·rename_i r hr
     cases hq
     unfold E37 at hr
     split at hr
     ·rename_i hl
      cases hr
      exact write_shr Tryz.lays166 Tryz.Builder_Extra_156 hb hl
     ·cases hr
    ·cases hq
   ·cases hq
  ·cases hq
 ·cases hq
theorem q41_ok {args h v o h'} (hq:q41 args h=some (v,o,h')):ShrOk Tryz.prog 41 args h v o h':=by
 unfold q41 at hq
 split at hq
 ·split at hq
  ·rename_i t e l hb
   simp only [Bool.cond_eq_ite,Bool.and_eq_true] at hq
   split at hq
   ·rename_i hte
    obtain rfl:=Nat.eq_of_beq_eq_true hte.1
    obtain rfl:=Nat.eq_of_beq_eq_true hte.2
    cases hq
    exact string_shr Tryz.lays169 Tryz.Builder_Extra_169 hb
   ·cases hq
  ·cases hq
 ·cases hq
def opE:Nat→Bool:=fun k=>Nat.beq k 7 || (Nat.beq k 39 || (Nat.beq k 3 || Nat.beq k 4))
noncomputable def prE:AProg:=withS (withP prD (fun _=>none) opE) sE
theorem okE:ProgOk Tryz.prog prE:=withS_ok (withP_ok okD (by intro k f hf; cases hf)) (by
 intro k f hf
 simp only [sE,Bool.cond_eq_ite] at hf
 split at hf
 ·next hb=>cases hf; obtain rfl:=Nat.eq_of_beq_eq_true hb; exact ⟨enters_tree (k:=37) (by kernel_rfl),fun args h v o h' hq=>q37_ok hq⟩
 split at hf
 ·next hb=>cases hf; obtain rfl:=Nat.eq_of_beq_eq_true hb; exact ⟨enters_tree (k:=41) (by kernel_rfl),fun args h v o h' hq=>q41_ok hq⟩
 ·cases hf)
theorem atE {k:Nat} (ho:opE k=false) {args:List AVal} {v:AVal} {o:Bool} (h:callIso prD (X prD) k args=some (v,o)) (hv:below 0 v=true):callIso prE (X prE) k args=some (v,o):=by
 have hk:=callIso_known h
 unfold callIso
 have:prE.prims k=some fun args=>callIso prD (X prD) k args:=by
  show (withP prD (fun _=>none) opE).prims k=_
  simp only [withP,ho,cond_false,hk,cond_true]
 rw [this]
 simp only [h,pureV,hv,cond_true]
theorem W37 {l s r:List UInt8} {b:Nat} {h:Heap} (hb:h[b]?=some (.bld 89 5 l)) (hr:E37 l s=some r):callFn prE (X prE) 37 [.ptr b 0,.str s] h=some (.tup [.int .i64 (s.length:Int),.any],false,h.set b (.bld 89 5 r)):=by
 show callFn (withS _ sE) _ 37 _ _=_
 rw [withS_call (f:=q37) rfl]
 simp only [q37,hb,hr,Nat.beq_refl,Bool.and_self,cond_true]
theorem W41 {l r:List UInt8} {b:Nat} {h:Heap} (hb:h[b]?=some (.bld 89 5 l)) (hr:some l=some r):callFn prE (X prE) 41 [.ptr b 0] h=some (.str r,false,h.set b .dead):=by
 cases hr
 show callFn (withS _ sE) _ 41 _ _=_
 rw [withS_call (f:=q41) rfl]
 simp only [q41,hb,Nat.beq_refl,Bool.and_self,cond_true]
end Go.Z
