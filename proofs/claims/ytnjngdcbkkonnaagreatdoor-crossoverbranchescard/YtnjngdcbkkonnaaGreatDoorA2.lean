/-
  Chapter 4: Print: functions that mirror the runs, and the runs (printed by walk.py).
-/
import Derived.Test.YtnjngdcbkkonnaaGreatDoorZL
import Derived.Test.YtnjngdcbkkonnaaGreatDoorA1
import Derived.Test.YtnjngdcbkkonnaaGreatDoorPB
import Derived.Test.YtnjngdcbkkonnaaGreatDoorZWI
set_option linter.unusedVariables false
set_option linter.unusedSimpArgs false
set_option maxRecDepth 100000
set_option maxHeartbeats 4000000
namespace Go.Z
open Go Go.Abs
theorem N23 {a0:Option (List GPart)} {r} (h:f23 a0=some r):callIso prE (X prE) 23 [sl 8 vpart a0]=some (.int .i64 r,false):=atE rfl rfl (W23 h) rfl
noncomputable def s147_0 (a0:Option (List Int)) (s0:(Option (List (List UInt8))) × Int × Bool):Option (((Option (List (List UInt8))) × Int × Bool) ⊕ (((Option (List (List UInt8))) × Bool × Int))):=
 cond (decide (s0.2.1 < ((a0.getD []).length:Int)))
  (obind (idxO (a0.getD []) s0.2.1) fun v18=>
  obind (E148 v18) fun v20=>
  cond s0.2.2
   (obind (apO s0.1 [v20]) fun v23=>
   some (.inl (v23,wrapF .i64 (s0.2.1 + 1),true)))
   (cond s0.1.isNone
    (obind (apO s0.1 [v20]) fun v26=>
    some (.inl (v26,wrapF .i64 (s0.2.1 + 1),true)))
    (none)))
  (some (.inr (s0.1,s0.2.2,s0.2.1)))
def St147_0 (a0:Option (List Int)) (s0:(Option (List (List UInt8))) × Int × Bool):ASt:=⟨[(1,.fn (.func 148) [] [],false),(5,sl 1 vstr s0.1,s0.2.2),(8,sl 1 vint a0,false),(9,.int .i64 ((a0.getD []).length:Int),false),(10,.int .i64 s0.2.1,false)],[]⟩
def Ex147_0 (a0:Option (List Int)) (d:((Option (List (List UInt8))) × Bool × Int)):AExit × ASt:=(.exit 0,⟨[(1,.fn (.func 148) [] [],false),(5,sl 1 vstr d.1,d.2.1),(8,sl 1 vint a0,false),(9,.int .i64 ((a0.getD []).length:Int),false),(10,.int .i64 d.2.2,false),(11,.bool false,false)],[]⟩)
theorem b147_0 (a0:Option (List Int)) (s0:(Option (List (List UInt8))) × Int × Bool) (r) (h:s147_0 a0 s0=some r):stepO prE c147_0 (St147_0 a0) (Ex147_0 a0) s0 r:=by
 unfold s147_0 at h
 rcases cond_split h with ⟨h17,h⟩ | ⟨h17,h⟩
 ·obtain ⟨v18,h19,h⟩:=obind_some h
  obtain ⟨v20,h21,h⟩:=obind_some h
  rcases cond_split h with ⟨h22,h⟩ | ⟨h22,h⟩
  ·obtain ⟨v23,h24,h⟩:=obind_some h
   cases h
   exact stepO_in (st':=⟨[(1,.fn (.func 148) [] [],false),(5,sl 1 vstr v23,true),(8,sl 1 vint a0,false),(9,.int .i64 ((a0.getD []).length:Int),false),(10,.int .i64 (wrapF .i64 (s0.2.1 + 1)),false)],[]⟩) (by simp only [go_sem,seval,c147_0,St147_0,h17,idxR_O h19,N148 h21,h22,app_vstr_O h24] <;> rfl) (gc_same (Nat.le_refl _))
  ·rcases cond_split h with ⟨h25,h⟩ | ⟨h25,h⟩
   ·obtain ⟨v26,h27,h⟩:=obind_some h
    cases h
    exact stepO_in (st':=⟨[(1,.fn (.func 148) [] [],false),(5,sl 1 vstr v26,true),(8,sl 1 vint a0,false),(9,.int .i64 ((a0.getD []).length:Int),false),(10,.int .i64 (wrapF .i64 (s0.2.1 + 1)),false)],[]⟩) (by simp only [go_sem,seval,c147_0,St147_0,h17,idxR_O h19,N148 h21,h22,h25,app_vstr_N h27 h25] <;> rfl) (gc_same (Nat.le_refl _))
   ·cases h
 ·cases h
  exact stepO_out (by simp only [go_sem,seval,c147_0,St147_0,h17,Ex147_0] <;> rfl)
theorem l147_0 (a0:Option (List Int)) {s0:(Option (List (List UInt8))) × Int × Bool} {d} (h:itO (s147_0 a0) s0=some d):X prE (.loop c147_0) (St147_0 a0 s0)=some (Ex147_0 a0 d):=X_itO (b147_0 a0) (fun d hh=>by cases hh) h
noncomputable def f147 (a0:Option (List Int)):Option ((Option (List (List UInt8))) × Bool):=
 obind (itO (s147_0 a0) (none,0,false)) fun d28=>
 some (d28.1,d28.2.1)
theorem W147 {a0:Option (List Int)} {r} (h:f147 a0=some r):callIso prE (X prE) 147 [sl 1 vint a0,.fn (.func 148) [] []]=some (sl 1 vstr r.1,r.2):=by
 unfold f147 at h
 obtain ⟨d28,h29,h⟩:=obind_some h
 have wh29:X prE (.loop c147_0) ⟨[(1,.fn (.func 148) [] [],false),(5,.list true 0 [],false),(8,sl 1 vint a0,false),(9,.int .i64 ((a0.getD []).length:Int),false),(10,.int .i64 0,false)],[]⟩=some (.exit 0,⟨[(1,.fn (.func 148) [] [],false),(5,sl 1 vstr d28.1,d28.2.1),(8,sl 1 vint a0,false),(9,.int .i64 ((a0.getD []).length:Int),false),(10,.int .i64 d28.2.2,false),(11,.bool false,false)],[]⟩):=l147_0 a0 h29
 have hr:(d28.1,d28.2.1)=r:=Option.some.inj h
 subst hr
 have this:∃ hh,callFn prE (X prE) 147 [sl 1 vint a0,.fn (.func 148) [] []] []=some (sl 1 vstr d28.1,d28.2.1,hh):=by
  rw [callFn_at (show prE.fns 147=some c147 from rfl) (by simp)]
  simp only [go_sem,seval,c147,wh29]
  exact ⟨_,rfl⟩
 obtain ⟨hh,this⟩:=this
 exact callIso_of_dyn rfl this (by first | rfl | simp only [go_sem,seval]) (by first | rfl | simp only [go_sem,seval]) (by first | rfl | simp only [go_sem,seval])
noncomputable def s92_0 (a0:Option (List GPart)) (s0:Int × (List UInt8)):Option ((Int × (List UInt8)) ⊕ ((Int × (List UInt8)))):=
 cond (decide (s0.1 < ((a0.getD []).length:Int)))
  (obind (idxO (a0.getD []) s0.1) fun v31=>
  obind (f147 (some [v31.pa,v31.pb,v31.sa,v31.sb,v31.cost,v31.stock])) fun v33=>
  obind (apO (some [v31.name,v31.kd]) (v33.1.getD [])) fun v35=>
  obind (E146o v35 ([32]:List UInt8)) fun v37=>
  obind (catO v37 ([10]:List UInt8)) fun v39=>
  obind (E145 s0.2 v39) fun v41=>
  some (.inl (wrapF .i64 (s0.1 + 1),v41)))
  (some (.inr (s0.1,s0.2)))
def St92_0 (a0:Option (List GPart)) (s0:Int × (List UInt8)):ASt:=⟨[(5,.ptr 0 0,false),(14,sl 8 vpart a0,false),(15,.int .i64 ((a0.getD []).length:Int),false),(16,.int .i64 s0.1,false)],[.bld 226 5 s0.2]⟩
def Ex92_0 (a0:Option (List GPart)) (d:(Int × (List UInt8))):AExit × ASt:=(.exit 0,⟨[(5,.ptr 0 0,false),(14,sl 8 vpart a0,false),(15,.int .i64 ((a0.getD []).length:Int),false),(16,.int .i64 d.1,false),(17,.bool false,false)],[.bld 226 5 d.2]⟩)
theorem b92_0 (a0:Option (List GPart)) (s0:Int × (List UInt8)) (r) (h:s92_0 a0 s0=some r):stepO prE c92_0 (St92_0 a0) (Ex92_0 a0) s0 r:=by
 unfold s92_0 at h
 rcases cond_split h with ⟨h30,h⟩ | ⟨h30,h⟩
 ·obtain ⟨v31,h32,h⟩:=obind_some h
  obtain ⟨v33,h34,h⟩:=obind_some h
  have wh34:callIso prE (X prE) 147 [.list false 1 [.int .i64 v31.pa,.int .i64 v31.pb,.int .i64 v31.sa,.int .i64 v31.sb,.int .i64 v31.cost,.int .i64 v31.stock],.fn (.func 148) [] []]=some (sl 1 vstr v33.1,v33.2):=W147 h34
  obtain ⟨v35,h36,h⟩:=obind_some h
  obtain ⟨v37,h38,h⟩:=obind_some h
  have wh38:callIso prE (X prE) 146 [sl 1 vstr v35,.str ([32]:List UInt8)]=some (.str v37,false):=N146 h38
  obtain ⟨v39,h40,h⟩:=obind_some h
  obtain ⟨v41,h42,h⟩:=obind_some h
  have wh42:callFn prE (X prE) 145 [.ptr 0 0,.str v39] [.bld 226 5 s0.2,.cells [(.str v31.name,false),(.str v31.kd,false),(.int .i64 v31.pa,false),(.int .i64 v31.pb,false),(.int .i64 v31.sa,false),(.int .i64 v31.sb,false),(.int .i64 v31.cost,false),(.int .i64 v31.stock,false)]]=some (.tup [.int .i64 (v39.length:Int),.any],false,[.bld 226 5 v41,.cells [(.str v31.name,false),(.str v31.kd,false),(.int .i64 v31.pa,false),(.int .i64 v31.pb,false),(.int .i64 v31.sa,false),(.int .i64 v31.sb,false),(.int .i64 v31.cost,false),(.int .i64 v31.stock,false)]]):=W145 rfl h42
  cases h
  exact stepO_in (st':=⟨[(5,.ptr 0 0,false),(14,sl 8 vpart a0,false),(15,.int .i64 ((a0.getD []).length:Int),false),(16,.int .i64 (wrapF .i64 (s0.1 + 1)),false)],[.bld 226 5 v41]++[.cells [(.str v31.name,false),(.str v31.kd,false),(.int .i64 v31.pa,false),(.int .i64 v31.pb,false),(.int .i64 v31.sa,false),(.int .i64 v31.sb,false),(.int .i64 v31.cost,false),(.int .i64 v31.stock,false)]]⟩) (by simp only [go_sem,seval,c92_0,St92_0,h30,idxR_O h32,wh34,(show ∀ (b t:Nat) (hq:Heap),appR 1 b hq (some t) (some (.list false 1 [.str v31.name,.str v31.kd])) (some (sl 1 vstr v33.1))=ifR (decide (b≤4096)) (some ⟨sl 1 vstr v35,true,some t,hq⟩) from fun _ _ _=>app_sl_O (o:=some [v31.name,v31.kd]) h36),wh38,b_cat_O h40,wh42] <;> rfl) (gc_over rfl rfl (by first | simp only [go_sem,seval,St92_0] | rfl) (by first | simp only [go_sem,seval,St92_0] | rfl))
 ·cases h
  exact stepO_out (by simp only [go_sem,seval,c92_0,St92_0,h30,Ex92_0] <;> rfl)
theorem l92_0 (a0:Option (List GPart)) {s0:Int × (List UInt8)} {d} (h:itO (s92_0 a0) s0=some d):X prE (.loop c92_0) (St92_0 a0 s0)=some (Ex92_0 a0 d):=X_itO (b92_0 a0) (fun d hh=>by cases hh) h
noncomputable def f92 (a0:Option (List GPart)):Option ((List UInt8) × Int):=
 obind (f23 a0) fun v1=>
 cond (decide (v1=0))
  (obind (itO (s92_0 a0) (0,[])) fun d43=>
  obind (some d43.2) fun v45=>
  some (v45,0))
  (some ([],v1))
theorem W92 {a0:Option (List GPart)} {r} (h:f92 a0=some r):callIso prE (X prE) 92 [sl 8 vpart a0]=some (.tup [.str r.1,.int .i64 r.2],false):=by
 unfold f92 at h
 obtain ⟨v1,h2,h⟩:=obind_some h
 rcases cond_split h with ⟨h3,h⟩ | ⟨h3,h⟩
 ·obtain ⟨d43,h44,h⟩:=obind_some h
  have wh44:X prE (.loop c92_0) ⟨[(5,.ptr 0 0,false),(14,sl 8 vpart a0,false),(15,.int .i64 ((a0.getD []).length:Int),false),(16,.int .i64 0,false)],[.bld 226 5 []]⟩=some (.exit 0,⟨[(5,.ptr 0 0,false),(14,sl 8 vpart a0,false),(15,.int .i64 ((a0.getD []).length:Int),false),(16,.int .i64 d43.1,false),(17,.bool false,false)],[.bld 226 5 d43.2]⟩):=l92_0 a0 h44
  obtain ⟨v45,h46,h⟩:=obind_some h
  have wh46:callFn prE (X prE) 149 [.ptr 0 0] [.bld 226 5 d43.2]=some (.str v45,false,[.dead]):=W149 rfl h46
  have hr:(v45,0)=r:=Option.some.inj h
  subst hr
  refine iso_F rfl ?_ (fun _=>by first | rfl | simp only [go_sem,seval]) (by first | rfl | simp only [go_sem,seval])
  rw [callFn_at (show prE.fns 92=some c92 from rfl) (by simp)]
  simp only [go_sem,seval,c92,N23 h2,h3,wh44,wh46]
  exact ⟨_,rfl⟩
 ·have hr:([],v1)=r:=Option.some.inj h
  subst hr
  refine iso_F rfl ?_ (fun _=>by first | rfl | simp only [go_sem,seval]) (by first | rfl | simp only [go_sem,seval])
  rw [callFn_at (show prE.fns 92=some c92 from rfl) (by simp)]
  simp only [go_sem,seval,c92,N23 h2,h3]
  exact ⟨_,rfl⟩
end Go.Z
/-
 The program's Print at the fixed example; the fixed examples as a whole; the program with their result.
-/
namespace Go.Z
open Go Go.Abs Go.Proofs
theorem dec_small {u:Nat} (h:u < 10):Lib.decDigits u=[UInt8.ofNat (48 + u)]:=by rw [Lib.decDigits,dif_pos h]
theorem f147_eq {l:List Int} (hl:l.length≤1073741824) (hr:∀ x∈l,-9223372036854775808≤x∧x≤9223372036854775807):f147 (some l)=some (nonNil (l.map Lib.itoa),accO (l.map Lib.itoa)):=by
 unfold f147
 rw [itO_map l (s147_0 (some l)) Lib.itoa hl (fun a=>by unfold s147_0; simp only [Option.getD_some]; rw [nlt_len]; rfl) (fun i x a hx hi ha=>by
  unfold s147_0
  simp only [Option.getD_some]
  rw [lt_len hi,cond_true,idxO_at hx,obind_at,show E148 x=some (Lib.itoa x) from exO_of (hr x (List.mem_of_getElem? hx)),obind_at,own_step ha,wrap_succ hi (by omega)]),obind_at]
theorem tab_in:∀ (t:List (Nat × List Row)),(t.all fun p=>(tree.find p.1).isSome)=true→∀ k l,lookTab t k=some l→(tree.find k).isSome=true
 | (j,m)::t,h,k,l,hk=>by
  simp only [List.all_cons,Bool.and_eq_true] at h
  simp only [lookTab,Bool.cond_eq_ite] at hk
  split at hk
  ·next hb=>rw [← Nat.eq_of_beq_eq_true hb]; exact h.1
  ·exact tab_in t h.2 k l hk
def cPart:GPart:=⟨[99],[115,104,117,110,116],0,1,0,0,5,1⟩
theorem f92_c:f92 (some [cPart])=some ([99,32,115,104,117,110,116,32,48,32,49,32,48,32,48,32,53,32,49,10],0):=by
 have h23:f23 (some [cPart])=some 0:=by
  rw [f23_eq]
  exact congrArg some (by decide +kernel)
 have i0:Lib.itoa 0=[48]:=by show Lib.decDigits 0=_; rw [dec_small (by decide)]; rfl
 have i1:Lib.itoa 1=[49]:=by show Lib.decDigits 1=_; rw [dec_small (by decide)]; rfl
 have i5:Lib.itoa 5=[53]:=by show Lib.decDigits 5=_; rw [dec_small (by decide)]; rfl
 have h147:f147 (some [0,1,0,0,5,1])=some (some [[48],[49],[48],[48],[53],[49]],true):=by
  rw [f147_eq (by decide) (by decide)]
  simp only [List.map_cons,List.map_nil,i0,i1,i5]
  rfl
 have s0:s92_0 (some [cPart]) (0,[])=some (.inl (1,[99,32,115,104,117,110,116,32,48,32,49,32,48,32,48,32,53,32,49,10])):=by
  unfold s92_0
  have e0:idxO ((some [cPart]).getD []) 0=some cPart:=rfl
  show cond true (obind (idxO ((some [cPart]).getD []) 0) _) _=_
  rw [cond_true,e0,obind_at]
  show obind (f147 (some [0,1,0,0,5,1])) _=_
  rw [h147,obind_at]
  have ea:apO (some [cPart.name,cPart.kd]) ((some [[48],[49],[48],[48],[53],[49]]).getD [])=some (some [[99],[115,104,117,110,116],[48],[49],[48],[48],[53],[49]]):=rfl
  rw [ea,obind_at]
  have ej:E146o (some [[99],[115,104,117,110,116],[48],[49],[48],[48],[53],[49]]) [32]=some [99,32,115,104,117,110,116,32,48,32,49,32,48,32,48,32,53,32,49]:=by
   show E146 _ _=_
   exact (exO_of (by decide)).trans (congrArg some (by decide))
  rw [ej,obind_at]
  rfl
 have s1:s92_0 (some [cPart]) (1,[99,32,115,104,117,110,116,32,48,32,49,32,48,32,48,32,53,32,49,10])=some (.inr (1,[99,32,115,104,117,110,116,32,48,32,49,32,48,32,48,32,53,32,49,10])):=rfl
 unfold f92
 rw [h23,obind_at]
 show cond true _ _=_
 rw [cond_true,itO_in s0,itO_out s1]
 rfl
theorem print_iso:IsoCall Tryz.prog 92 [(.list false 8 [(.agg [(.str [99]),(.str [115,104,117,110,116]),(.int .i64 0),(.int .i64 1),(.int .i64 0),(.int .i64 0),(.int .i64 5),(.int .i64 1)])])] (.tup [(.str [99,32,115,104,117,110,116,32,48,32,49,32,48,32,48,32,53,32,49,10]),(.int .i64 0)]) false:=
 callX_ok okE (W92 f92_c) rfl
theorem awake_iso:IsoCall Tryz.prog 16 [] (.bool true) false:=
 iso_of_run (progOk_tab okPr (tabOk okPr print_iso) (fun k l h=>enters_tree (tab_in tabL (by kernel_rfl) k l h))) awakeRun
end Go.Z
