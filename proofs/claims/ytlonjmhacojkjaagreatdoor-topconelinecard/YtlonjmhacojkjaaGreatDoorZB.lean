/-
  The program with the builder's methods by contract: Print in it.
-/
import Derived.Test.YtlonjmhacojkjaaGreatDoorZL
import Derived.Test.YtlonjmhacojkjaaGreatDoorAbsN
import Derived.Test.YtlonjmhacojkjaaGreatDoorN4
import Derived.Test.YtlonjmhacojkjaaGreatDoorL5
import Derived.Test.YtlonjmhacojkjaaGreatDoorR1
import Derived.Test.YtlonjmhacojkjaaGreatDoorG0m
import Derived.Test.YtlonjmhacojkjaaGreatDoorN0
set_option linter.unusedVariables false
set_option linter.unusedSimpArgs false
set_option maxRecDepth 100000
namespace Go.Z
open Go Go.Abs Go.Proofs
noncomputable def withS (p:AProg) (s:SPrims):AProg:={ fns:=fun k=>bif (s k).isSome then none else p.fns k,prims:=p.prims,sprims:=fun k=>match s k with
 | some f=>some f
 | none=>p.sprims k }
theorem withS_ok {P:Program} {p:AProg} {s:SPrims} (hp:ProgOk P p) (hs:∀ k f,s k=some f→Abs.Enters P k∧∀ args h v o h',f args h=some (v,o,h')→ShrOk P k args h v o h'):ProgOk P (withS p s) where
 fn:=by
  intro k f hf
  simp only [withS,Bool.cond_eq_ite] at hf
  split at hf
  ·cases hf
  ·exact hp.fn k f hf
 prim:=hp.prim
 mixed:=hp.mixed
 sprim:=by
  intro k f hf
  simp only [withS] at hf
  split at hf
  ·rename_i g hg; cases hf; exact hs k _ hg
  ·exact hp.sprim k f hf
theorem withS_call {p:AProg} {s:SPrims} {xc:XC} {k:Nat} {args:List AVal} {h:Heap} {f:List AVal→Heap→Option (AVal × Bool × Heap)} (hs:s k=some f):callFn (withS p s) xc k args h=f args h:=by
 unfold callFn
 have e1:(withS p s).fns k=none:=by simp only [withS,hs,Option.isSome_some,cond_true]
 have e2:(withS p s).sprims k=some f:=by simp only [withS,hs]
 rw [e1,e2]
def E33 (l s:List UInt8):Option (List UInt8):=if l.length + s.length≤140737488355328 then some (l++s) else none
def q37:List AVal→Heap→Option (AVal × Bool × Heap)
 | [.ptr b 0,.str s],h=>match h[b]? with
  | some (.bld t e l)=>bif Nat.beq t 78 && Nat.beq e 5 then (match E33 l s with
   | some r=>some (.tup [.int .i64 (s.length:Int),.any],false,h.set b (.bld 78 5 r))
   | none=>none) else none
  | _=>none
 | _,_=>none
def q41:List AVal→Heap→Option (AVal × Bool × Heap)
 | [.ptr b 0],h=>match h[b]? with
  | some (.bld t e l)=>bif Nat.beq t 78 && Nat.beq e 5 then some (.str l,false,h.set b .dead) else none
  | _=>none
 | _,_=>none
def sE:SPrims:=fun k=>bif Nat.beq k 33 then some q37 else bif Nat.beq k 37 then some q41 else none
theorem q37_ok {args h v o h'} (hq:q37 args h=some (v,o,h')):ShrOk Tryz.prog 33 args h v o h':=by
 unfold q37 at hq
 split at hq
 ·split at hq
  ·rename_i t e l hb
   simp only [Bool.cond_eq_ite,Bool.and_eq_true] at hq
   split at hq
   ·rename_i hte
    obtain rfl:=Nat.eq_of_beq_eq_true hte.1
    obtain rfl:=Nat.eq_of_beq_eq_true hte.2
    split at hq
    ·rename_i r hr
     cases hq
     unfold E33 at hr
     split at hr
     ·rename_i hl
      cases hr
      exact write_shr Tryz.lays166 Tryz.Builder_Extra_156 hb hl
     ·cases hr
    ·cases hq
   ·cases hq
  ·cases hq
 ·cases hq
theorem q41_ok {args h v o h'} (hq:q41 args h=some (v,o,h')):ShrOk Tryz.prog 37 args h v o h':=by
 unfold q41 at hq
 split at hq
 ·split at hq
  ·rename_i t e l hb
   simp only [Bool.cond_eq_ite,Bool.and_eq_true] at hq
   split at hq
   ·rename_i hte
    obtain rfl:=Nat.eq_of_beq_eq_true hte.1
    obtain rfl:=Nat.eq_of_beq_eq_true hte.2
    cases hq
    exact string_shr Tryz.lays169 Tryz.Builder_Extra_169 hb
   ·cases hq
  ·cases hq
 ·cases hq
def opE:Nat→Bool:=fun k=>Nat.beq k 10 || (Nat.beq k 35 || Nat.beq k 3)
noncomputable def prE:AProg:=withS (withP prD (fun _=>none) opE) sE
theorem okE:ProgOk Tryz.prog prE:=withS_ok (withP_ok okD (by intro k f hf; cases hf)) (by
 intro k f hf
 simp only [sE,Bool.cond_eq_ite] at hf
 split at hf
 ·next hb=>cases hf; obtain rfl:=Nat.eq_of_beq_eq_true hb; exact ⟨enters_tree (k:=33) (by kernel_rfl),fun args h v o h' hq=>q37_ok hq⟩
 split at hf
 ·next hb=>cases hf; obtain rfl:=Nat.eq_of_beq_eq_true hb; exact ⟨enters_tree (k:=37) (by kernel_rfl),fun args h v o h' hq=>q41_ok hq⟩
 ·cases hf)
theorem atE {k:Nat} (ho:opE k=false) {args:List AVal} {v:AVal} {o:Bool} (h:callIso prD (X prD) k args=some (v,o)) (hv:below 0 v=true):callIso prE (X prE) k args=some (v,o):=by
 have hk:=callIso_known h
 unfold callIso
 have:prE.prims k=some fun args=>callIso prD (X prD) k args:=by
  show (withP prD (fun _=>none) opE).prims k=_
  simp only [withP,ho,cond_false,hk,cond_true]
 rw [this]
 simp only [h,pureV,hv,cond_true]
theorem W33 {l s r:List UInt8} {b:Nat} {h:Heap} (hb:h[b]?=some (.bld 78 5 l)) (hr:E33 l s=some r):callFn prE (X prE) 33 [.ptr b 0,.str s] h=some (.tup [.int .i64 (s.length:Int),.any],false,h.set b (.bld 78 5 r)):=by
 show callFn (withS _ sE) _ 33 _ _=_
 rw [withS_call (f:=q37) rfl]
 simp only [q37,hb,hr,Nat.beq_refl,Bool.and_self,cond_true]
theorem W37 {l r:List UInt8} {b:Nat} {h:Heap} (hb:h[b]?=some (.bld 78 5 l)) (hr:some l=some r):callFn prE (X prE) 37 [.ptr b 0] h=some (.str r,false,h.set b .dead):=by
 cases hr
 show callFn (withS _ sE) _ 37 _ _=_
 rw [withS_call (f:=q41) rfl]
 simp only [q41,hb,Nat.beq_refl,Bool.and_self,cond_true]
end Go.Z
/-
 The contracts that Print needs,as calls of the program.
-/
namespace Go.Z
open Go Go.Abs
theorem N36 {n:Int} {r} (h:E36 n=some r):callIso prE (X prE) 36 [.int .i64 n]=some (.str r,false):=atE rfl (M36 h) rfl
theorem N34 {o:Option (List (List UInt8))} {p:List UInt8} {r} (h:(o.bind fun l=>E34 l p)=some r):callIso prE (X prE) 34 [sl 1 vstr o,.str p]=some (.str r,false):=by
 cases o with
 | none=>cases h
 | some l=>
  refine atE rfl ?_ rfl
  refine withP_more (f:=t38) rfl rfl ?_ rfl
  show ((strsOf (l.map vstr)).bind fun ss=>(E34 ss p).map fun r=>(AVal.str r,false))=_
  rw [strsOf_map]
  show (E34 l p).map (fun r=>(AVal.str r,false))=_
  rw [show E34 l p=some r from h]; rfl
theorem N32 {o r} (h:E1022 o=some r):callIso prE (X prE) 32 [sl 2 vunit o]=some (.int .i64 r,false):=atE rfl (M32 h) rfl
end Go.Z
/-
 LineTexts: the program's Print: functions that mirror the runs,and the runs (printed by walk.py; seat .ZD).
-/
set_option maxHeartbeats 4000000
namespace Go.Z
open Go Go.Abs
noncomputable def E34o (o:Option (List (List UInt8))) (p:List UInt8):Option (List UInt8):=o.bind fun l=>E34 l p
noncomputable def s35_0 (a0:Option (List Int)) (s1000:(Option (List (List UInt8))) × Int × Bool):Option (((Option (List (List UInt8))) × Int × Bool) ⊕ (((Option (List (List UInt8))) × Bool × Int))):=
 cond (decide (s1000.2.1 < ((a0.getD []).length:Int)))
  (obind (idxO (a0.getD []) s1000.2.1) fun v18=>
  obind (E36 v18) fun v20=>
  cond s1000.2.2
   (obind (apO s1000.1 [v20]) fun v23=>
   some (.inl (v23,wrapF .i64 (s1000.2.1 + 1),true)))
   (cond s1000.1.isNone
    (obind (apO s1000.1 [v20]) fun v26=>
    some (.inl (v26,wrapF .i64 (s1000.2.1 + 1),true)))
    (none)))
  (some (.inr (s1000.1,s1000.2.2,s1000.2.1)))
def St35_0 (a0:Option (List Int)) (s1000:(Option (List (List UInt8))) × Int × Bool):ASt:=⟨[(1,.fn (.func 36) [] [],false),(5,sl 1 vstr s1000.1,s1000.2.2),(8,sl 1 vint a0,false),(9,.int .i64 ((a0.getD []).length:Int),false),(10,.int .i64 s1000.2.1,false)],[]⟩
def Ex35_0 (a0:Option (List Int)) (d:((Option (List (List UInt8))) × Bool × Int)):AExit × ASt:=(.exit 0,⟨[(1,.fn (.func 36) [] [],false),(5,sl 1 vstr d.1,d.2.1),(8,sl 1 vint a0,false),(9,.int .i64 ((a0.getD []).length:Int),false),(10,.int .i64 d.2.2,false),(11,.bool false,false)],[]⟩)
theorem b35_0 (a0:Option (List Int)) (s1000:(Option (List (List UInt8))) × Int × Bool) (r) (h:s35_0 a0 s1000=some r):stepO prE c35_0 (St35_0 a0) (Ex35_0 a0) s1000 r:=by
 unfold s35_0 at h
 rcases cond_split h with ⟨h17,h⟩ | ⟨h17,h⟩
 ·obtain ⟨v18,h19,h⟩:=obind_some h
  obtain ⟨v20,h21,h⟩:=obind_some h
  have wh21:callIso prE (X prE) 36 [.int .i64 v18]=some (.str v20,false):=N36 h21
  rcases cond_split h with ⟨h22,h⟩ | ⟨h22,h⟩
  ·obtain ⟨v23,h24,h⟩:=obind_some h
   cases h
   exact stepO_in (st':=⟨[(1,.fn (.func 36) [] [],false),(5,sl 1 vstr v23,true),(8,sl 1 vint a0,false),(9,.int .i64 ((a0.getD []).length:Int),false),(10,.int .i64 (wrapF .i64 (s1000.2.1 + 1)),false)],[]⟩) (by simp only [go_sem,seval,c35_0,St35_0,h17,idxR_O h19,wh21,h22,app_vstr_O h24] <;> rfl) (gc_same (Nat.le_refl _))
  ·rcases cond_split h with ⟨h25,h⟩ | ⟨h25,h⟩
   ·obtain ⟨v26,h27,h⟩:=obind_some h
    cases h
    exact stepO_in (st':=⟨[(1,.fn (.func 36) [] [],false),(5,sl 1 vstr v26,true),(8,sl 1 vint a0,false),(9,.int .i64 ((a0.getD []).length:Int),false),(10,.int .i64 (wrapF .i64 (s1000.2.1 + 1)),false)],[]⟩) (by simp only [go_sem,seval,c35_0,St35_0,h17,idxR_O h19,wh21,h22,h25,app_vstr_N h27 h25] <;> rfl) (gc_same (Nat.le_refl _))
   ·cases h
 ·cases h
  exact stepO_out (by simp only [go_sem,seval,c35_0,St35_0,h17,Ex35_0] <;> rfl)
theorem l35_0 (a0:Option (List Int)) {s1000:(Option (List (List UInt8))) × Int × Bool} {d} (h:itO (s35_0 a0) s1000=some d):X prE (.loop c35_0) (St35_0 a0 s1000)=some (Ex35_0 a0 d):=X_itO (b35_0 a0) (fun d hh=>by cases hh) h
noncomputable def f35 (a0:Option (List Int)):Option ((Option (List (List UInt8))) × Bool):=
 obind (itO (s35_0 a0) (none,0,false)) fun d28=>
 some (d28.1,d28.2.1)
theorem W35 {a0:Option (List Int)} {r} (h:f35 a0=some r):callIso prE (X prE) 35 [sl 1 vint a0,.fn (.func 36) [] []]=some (sl 1 vstr r.1,r.2):=by
 unfold f35 at h
 obtain ⟨d28,h29,h⟩:=obind_some h
 have wh29:X prE (.loop c35_0) ⟨[(1,.fn (.func 36) [] [],false),(5,.list true 0 [],false),(8,sl 1 vint a0,false),(9,.int .i64 ((a0.getD []).length:Int),false),(10,.int .i64 0,false)],[]⟩=some (.exit 0,⟨[(1,.fn (.func 36) [] [],false),(5,sl 1 vstr d28.1,d28.2.1),(8,sl 1 vint a0,false),(9,.int .i64 ((a0.getD []).length:Int),false),(10,.int .i64 d28.2.2,false),(11,.bool false,false)],[]⟩):=l35_0 a0 h29
 have hr:(d28.1,d28.2.1)=r:=Option.some.inj h
 subst hr
 have this:∃ hh,callFn prE (X prE) 35 [sl 1 vint a0,.fn (.func 36) [] []] []=some (sl 1 vstr d28.1,d28.2.1,hh):=by
  rw [callFn_at (show prE.fns 35=some c35 from rfl) (by simp)]
  simp only [go_sem,seval,c35,wh29]
  exact ⟨_,rfl⟩
 obtain ⟨hh,this⟩:=this
 exact callIso_of_dyn rfl this (by first | rfl | simp only [go_sem,seval]) (by first | rfl | simp only [go_sem,seval]) (by first | rfl | simp only [go_sem,seval])
noncomputable def s10_0 (a0:Option (List GUnit)) (s1000:Int × (List UInt8)):Option ((Int × (List UInt8)) ⊕ ((Int × (List UInt8)))):=
 cond (decide (s1000.1 < ((a0.getD []).length:Int)))
  (obind (idxO (a0.getD []) s1000.1) fun v31=>
  obind (f35 v31.values) fun v33=>
  obind (apO (some [v31.serial]) (v33.1.getD [])) fun v35=>
  obind (E34o v35 ([32]:List UInt8)) fun v37=>
  obind (catO v37 ([10]:List UInt8)) fun v39=>
  obind (E33 s1000.2 v39) fun v41=>
  some (.inl (wrapF .i64 (s1000.1 + 1),v41)))
  (some (.inr (s1000.1,s1000.2)))
def St10_0 (a0:Option (List GUnit)) (s1000:Int × (List UInt8)):ASt:=⟨[(5,.ptr 0 0,false),(13,sl 2 vunit a0,false),(14,.int .i64 ((a0.getD []).length:Int),false),(15,.int .i64 s1000.1,false)],[.bld 78 5 s1000.2]⟩
def Ex10_0 (a0:Option (List GUnit)) (d:(Int × (List UInt8))):AExit × ASt:=(.exit 0,⟨[(5,.ptr 0 0,false),(13,sl 2 vunit a0,false),(14,.int .i64 ((a0.getD []).length:Int),false),(15,.int .i64 d.1,false),(16,.bool false,false)],[.bld 78 5 d.2]⟩)
theorem b10_0 (a0:Option (List GUnit)) (s1000:Int × (List UInt8)) (r) (h:s10_0 a0 s1000=some r):stepO prE c10_0 (St10_0 a0) (Ex10_0 a0) s1000 r:=by
 unfold s10_0 at h
 rcases cond_split h with ⟨h30,h⟩ | ⟨h30,h⟩
 ·obtain ⟨v31,h32,h⟩:=obind_some h
  obtain ⟨v33,h34,h⟩:=obind_some h
  have wh34:callIso prE (X prE) 35 [sl 1 vint v31.values,.fn (.func 36) [] []]=some (sl 1 vstr v33.1,v33.2):=W35 h34
  obtain ⟨v35,h36,h⟩:=obind_some h
  obtain ⟨v37,h38,h⟩:=obind_some h
  have wh38:callIso prE (X prE) 34 [sl 1 vstr v35,.str ([32]:List UInt8)]=some (.str v37,false):=N34 h38
  obtain ⟨v39,h40,h⟩:=obind_some h
  obtain ⟨v41,h42,h⟩:=obind_some h
  have wh42:callFn prE (X prE) 33 [.ptr 0 0,.str v39] [.bld 78 5 s1000.2,.cells [(.str v31.serial,false),(sl 1 vint v31.values,false)]]=some (.tup [.int .i64 (v39.length:Int),.any],false,[.bld 78 5 v41,.cells [(.str v31.serial,false),(sl 1 vint v31.values,false)]]):=W33 rfl h42
  cases h
  exact stepO_in (st':=⟨[(5,.ptr 0 0,false),(13,sl 2 vunit a0,false),(14,.int .i64 ((a0.getD []).length:Int),false),(15,.int .i64 (wrapF .i64 (s1000.1 + 1)),false)],[.bld 78 5 v41]++[.cells [(.str v31.serial,false),(sl 1 vint v31.values,false)]]⟩) (by simp only [go_sem,seval,c10_0,St10_0,h30,idxR_O h32,wh34,(show ∀ (b t:Nat) (hq:Heap),appR 1 b hq (some t) (some (.list false 1 [.str v31.serial])) (some (sl 1 vstr v33.1))=ifR (decide (b≤4096)) (some ⟨sl 1 vstr v35,true,some t,hq⟩) from fun _ _ _=>app_sl_O (o:=some [v31.serial]) h36),wh38,b_cat_O h40,wh42] <;> rfl) (gc_over rfl rfl (by first | simp only [go_sem,seval,St10_0] | rfl) (by first | simp only [go_sem,seval,St10_0] | rfl))
 ·cases h
  exact stepO_out (by simp only [go_sem,seval,c10_0,St10_0,h30,Ex10_0] <;> rfl)
theorem l10_0 (a0:Option (List GUnit)) {s1000:Int × (List UInt8)} {d} (h:itO (s10_0 a0) s1000=some d):X prE (.loop c10_0) (St10_0 a0 s1000)=some (Ex10_0 a0 d):=X_itO (b10_0 a0) (fun d hh=>by cases hh) h
noncomputable def f10 (a0:Option (List GUnit)):Option ((List UInt8) × Int):=
 obind (E1022 a0) fun v1=>
 cond (decide (v1=0))
  (obind (itO (s10_0 a0) (0,[])) fun d43=>
  obind (some d43.2) fun v45=>
  some (v45,0))
  (some ([],v1))
theorem W10 {a0:Option (List GUnit)} {r} (h:f10 a0=some r):callIso prE (X prE) 10 [sl 2 vunit a0]=some (.tup [.str r.1,.int .i64 r.2],false):=by
 unfold f10 at h
 obtain ⟨v1,h2,h⟩:=obind_some h
 have wh2:callIso prE (X prE) 32 [sl 2 vunit a0]=some (.int .i64 v1,false):=N32 h2
 rcases cond_split h with ⟨h3,h⟩ | ⟨h3,h⟩
 ·obtain ⟨d43,h44,h⟩:=obind_some h
  have wh44:X prE (.loop c10_0) ⟨[(5,.ptr 0 0,false),(13,sl 2 vunit a0,false),(14,.int .i64 ((a0.getD []).length:Int),false),(15,.int .i64 0,false)],[.bld 78 5 []]⟩=some (.exit 0,⟨[(5,.ptr 0 0,false),(13,sl 2 vunit a0,false),(14,.int .i64 ((a0.getD []).length:Int),false),(15,.int .i64 d43.1,false),(16,.bool false,false)],[.bld 78 5 d43.2]⟩):=l10_0 a0 h44
  obtain ⟨v45,h46,h⟩:=obind_some h
  have wh46:callFn prE (X prE) 37 [.ptr 0 0] [.bld 78 5 d43.2]=some (.str v45,false,[.dead]):=W37 rfl h46
  have hr:(v45,0)=r:=Option.some.inj h
  subst hr
  have this:∃ hh,callFn prE (X prE) 10 [sl 2 vunit a0] []=some (.tup [.str v45,.int .i64 0],false,hh):=by
   rw [callFn_at (show prE.fns 10=some c10 from rfl) (by simp)]
   simp only [go_sem,seval,c10,wh2,h3,wh44,wh46]
   exact ⟨_,rfl⟩
  obtain ⟨hh,this⟩:=this
  exact callIso_of rfl this (by first | rfl | simp only [go_sem,seval]) (by first | rfl | simp only [go_sem,seval])
 ·have hr:([],v1)=r:=Option.some.inj h
  subst hr
  have this:∃ hh,callFn prE (X prE) 10 [sl 2 vunit a0] []=some (.tup [.str [],.int .i64 v1],false,hh):=by
   rw [callFn_at (show prE.fns 10=some c10 from rfl) (by simp)]
   simp only [go_sem,seval,c10,wh2,h3]
   exact ⟨_,rfl⟩
  obtain ⟨hh,this⟩:=this
  exact callIso_of rfl this (by first | rfl | simp only [go_sem,seval]) (by first | rfl | simp only [go_sem,seval])
end Go.Z
