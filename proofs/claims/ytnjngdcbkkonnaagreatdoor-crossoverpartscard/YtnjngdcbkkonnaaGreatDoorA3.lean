/-
  The program with the result of the fixed examples.
-/
import Derived.Test.YtnjngdcbkkonnaaGreatDoorA2
set_option linter.unusedVariables false
set_option linter.unusedSimpArgs false
set_option maxRecDepth 100000
namespace Go.Z
open Go Go.Abs Go.Proofs
def tAw:List AVal→Option (AVal × Bool)
 | []=>some (.bool true,false)
 | _=>none
def moreZ:Prims:=fun k=>bif Nat.beq k 16 then some tAw else none
def opZ:Nat→Bool:=fun k=>Nat.ble 3 k && Nat.ble k 15
noncomputable def prZ:AProg:=withP prE moreZ opZ
theorem okZ:ProgOk Tryz.prog prZ:=withP_ok okE (by
 intro k f hf
 simp only [moreZ,Bool.cond_eq_ite] at hf
 split at hf
 ·next hb=>
  cases hf
  obtain rfl:=Nat.eq_of_beq_eq_true hb
  refine ⟨enters_tree (k:=16) (by kernel_rfl),fun args v o h _ _=>?_⟩
  cases args with
  | nil=>cases h; exact awake_iso
  | cons a l=>cases h
 ·cases hf)
theorem atZ {k:Nat} (ho:opZ k=false) (hm:moreZ k=none) {args:List AVal} {v:AVal} {o:Bool} (h:callIso prE (X prE) k args=some (v,o)) (hv:below 0 v=true):callIso prZ (X prZ) k args=some (v,o):=withP_call ho hm h hv
def E16:Option Bool:=some true
theorem Q16 {r} (h:E16=some r):callIso prZ (X prZ) 16 []=some (.bool r,false):=by
 cases h
 exact withP_more (f:=tAw) rfl rfl rfl rfl
end Go.Z
/-
 Chapter 4: the law CrossoverParts: functions that mirror the runs,and the runs (printed by walk.py).
-/
set_option maxHeartbeats 4000000
namespace Go.Z
open Go Go.Abs
theorem Q17 {a0:Option (List GPart)} {r} (h:f17 a0=some r):callIso prZ (X prZ) 17 [sl 8 vpart a0]=some (.bool r,false):=atZ rfl rfl (atE rfl rfl (W17 h) (by first | rfl | simp only [go_sem,seval])) (by first | rfl | simp only [go_sem,seval])
theorem Q18 {a0:GPart} {r} (h:f18 a0=some r):callIso prZ (X prZ) 18 [.agg [.str a0.name,.str a0.kd,.int .i64 a0.pa,.int .i64 a0.pb,.int .i64 a0.sa,.int .i64 a0.sb,.int .i64 a0.cost,.int .i64 a0.stock]]=some (.tup [sl 3 vel r.1,.int .i64 r.2],false):=atZ rfl rfl (atE rfl rfl (W18 h) (by first | rfl | simp only [go_sem,seval])) (by first | rfl | simp only [go_sem,seval])
theorem Q19 {a0:GPart} {r} (h:f19 a0=some r):callIso prZ (X prZ) 19 [.agg [.str a0.name,.str a0.kd,.int .i64 a0.pa,.int .i64 a0.pb,.int .i64 a0.sa,.int .i64 a0.sb,.int .i64 a0.cost,.int .i64 a0.stock]]=some (.agg [.str r.name,.str r.kd,.int .i64 r.pa,.int .i64 r.pb,.int .i64 r.sa,.int .i64 r.sb,.int .i64 r.cost,.int .i64 r.stock],false):=atZ rfl rfl (atE rfl rfl (W19 h) (by first | rfl | simp only [go_sem,seval])) (by first | rfl | simp only [go_sem,seval])
theorem Q20 {a0:GPart} {r} (h:f20 a0=some r):callIso prZ (X prZ) 20 [.agg [.str a0.name,.str a0.kd,.int .i64 a0.pa,.int .i64 a0.pb,.int .i64 a0.sa,.int .i64 a0.sb,.int .i64 a0.cost,.int .i64 a0.stock]]=some (.int .i64 r,false):=atZ rfl rfl (atE rfl rfl (W20 h) (by first | rfl | simp only [go_sem,seval])) (by first | rfl | simp only [go_sem,seval])
theorem Q21 {a0:GPart} {r} (h:f21 a0=some r):callIso prZ (X prZ) 21 [.agg [.str a0.name,.str a0.kd,.int .i64 a0.pa,.int .i64 a0.pb,.int .i64 a0.sa,.int .i64 a0.sb,.int .i64 a0.cost,.int .i64 a0.stock]]=some (sl 3 vel r.1,r.2):=atZ rfl rfl (atE rfl rfl (W21 h) (by first | rfl | simp only [go_sem,seval])) (by first | rfl | simp only [go_sem,seval])
theorem Q22 {a0:GPart} {r} (h:f22 a0=some r):callIso prZ (X prZ) 22 [.agg [.str a0.name,.str a0.kd,.int .i64 a0.pa,.int .i64 a0.pb,.int .i64 a0.sa,.int .i64 a0.sb,.int .i64 a0.cost,.int .i64 a0.stock]]=some (.int .i64 r,false):=atZ rfl rfl (atE rfl rfl (W22 h) (by first | rfl | simp only [go_sem,seval])) (by first | rfl | simp only [go_sem,seval])
theorem Q23 {a0:Option (List GPart)} {r} (h:f23 a0=some r):callIso prZ (X prZ) 23 [sl 8 vpart a0]=some (.int .i64 r,false):=atZ rfl rfl (atE rfl rfl (W23 h) (by first | rfl | simp only [go_sem,seval])) (by first | rfl | simp only [go_sem,seval])
theorem Q24 {a0:Option (List GPart)} {r} (h:f24 a0=some r):callIso prZ (X prZ) 24 [sl 8 vpart a0]=some (sl 8 vpart r.1,r.2):=atZ rfl rfl (atE rfl rfl (W24 h) (by first | rfl | simp only [go_sem,seval])) (by first | rfl | simp only [go_sem,seval])
theorem Q25 {a0:Option (List GPart)} {r} (h:f25 a0=some r):callIso prZ (X prZ) 25 [sl 8 vpart a0]=some (.int .i64 r,false):=atZ rfl rfl (atE rfl rfl (W25 h) (by first | rfl | simp only [go_sem,seval])) (by first | rfl | simp only [go_sem,seval])
theorem Q26 {a0:Option (List GEl)} {a1:Option (List GEl)} {r} (h:f26 a0 a1=some r):callIso prZ (X prZ) 26 [sl 3 vel a0,sl 3 vel a1]=some (.bool r,false):=atZ rfl rfl (atE rfl rfl (W26 h) (by first | rfl | simp only [go_sem,seval])) (by first | rfl | simp only [go_sem,seval])
theorem Q27 {a0:Option (List GEl)} {r} (h:f27 a0=some r):callIso prZ (X prZ) 27 [sl 3 vel a0]=some (sl 3 vel r.1,r.2):=atZ rfl rfl (atE rfl rfl (W27 h) (by first | rfl | simp only [go_sem,seval])) (by first | rfl | simp only [go_sem,seval])
noncomputable def f3 (a0:GPart) (a1:Option (List GPart)):Option Bool:=
 obind (E16) fun v1=>
 cond v1
  (obind (f17 (some [a0])) fun v4=>
  cond v4
   (obind (f17 a1) fun v7=>
   cond v7
    (obind (f19 a0) fun v10=>
    obind (f18 v10) fun v12=>
    obind (f20 a0) fun v14=>
    cond (decide (v14=0))
     (obind (f21 a0) fun v17=>
     obind (f22 v10) fun v19=>
     cond (decide (v19=v14))
      (obind (f24 a1) fun v22=>
      obind (f23 v22.1) fun v24=>
      obind (f25 a1) fun v26=>
      cond (decide (v24=v26))
       (obind (f27 v12.1) fun v29=>
       obind (f26 v29.1 v17.1) fun v31=>
       cond v31
        (some (decide (v12.2=v14)))
        (some false))
       (some false))
      (some false))
     (obind (f22 v10) fun v34=>
     cond (decide (v34=v14))
      (obind (f24 a1) fun v37=>
      obind (f23 v37.1) fun v39=>
      obind (f25 a1) fun v41=>
      cond (decide (v39=v41))
       (obind (f27 v12.1) fun v44=>
       obind (f26 v44.1 none) fun v46=>
       cond v46
        (some (decide (v12.2=v14)))
        (some false))
       (some false))
      (some false)))
    (some v1))
   (some v1))
  (some v1)
theorem W3 {a0:GPart} {a1:Option (List GPart)} {r} (h:f3 a0 a1=some r):callIso prZ (X prZ) 3 [.agg [.str a0.name,.str a0.kd,.int .i64 a0.pa,.int .i64 a0.pb,.int .i64 a0.sa,.int .i64 a0.sb,.int .i64 a0.cost,.int .i64 a0.stock],sl 8 vpart a1]=some (.bool r,false):=by
 unfold f3 at h
 obtain ⟨v1,h2,h⟩:=obind_some h
 have wh2:callIso prZ (X prZ) 16 []=some (.bool v1,false):=Q16 h2
 rcases cond_split h with ⟨h3,h⟩ | ⟨h3,h⟩
 ·obtain ⟨v4,h5,h⟩:=obind_some h
  have wh5:callIso prZ (X prZ) 17 [.list false 8 [.agg [.str a0.name,.str a0.kd,.int .i64 a0.pa,.int .i64 a0.pb,.int .i64 a0.sa,.int .i64 a0.sb,.int .i64 a0.cost,.int .i64 a0.stock]]]=some (.bool v4,false):=Q17 h5
  rcases cond_split h with ⟨h6,h⟩ | ⟨h6,h⟩
  ·obtain ⟨v7,h8,h⟩:=obind_some h
   have wh8:callIso prZ (X prZ) 17 [sl 8 vpart a1]=some (.bool v7,false):=Q17 h8
   rcases cond_split h with ⟨h9,h⟩ | ⟨h9,h⟩
   ·obtain ⟨v10,h11,h⟩:=obind_some h
    have wh11:callIso prZ (X prZ) 19 [.agg [.str a0.name,.str a0.kd,.int .i64 a0.pa,.int .i64 a0.pb,.int .i64 a0.sa,.int .i64 a0.sb,.int .i64 a0.cost,.int .i64 a0.stock]]=some (.agg [.str v10.name,.str v10.kd,.int .i64 v10.pa,.int .i64 v10.pb,.int .i64 v10.sa,.int .i64 v10.sb,.int .i64 v10.cost,.int .i64 v10.stock],false):=Q19 h11
    obtain ⟨v12,h13,h⟩:=obind_some h
    have wh13:callIso prZ (X prZ) 18 [.agg [.str v10.name,.str v10.kd,.int .i64 v10.pa,.int .i64 v10.pb,.int .i64 v10.sa,.int .i64 v10.sb,.int .i64 v10.cost,.int .i64 v10.stock]]=some (.tup [sl 3 vel v12.1,.int .i64 v12.2],false):=Q18 h13
    obtain ⟨v14,h15,h⟩:=obind_some h
    have wh15:callIso prZ (X prZ) 20 [.agg [.str a0.name,.str a0.kd,.int .i64 a0.pa,.int .i64 a0.pb,.int .i64 a0.sa,.int .i64 a0.sb,.int .i64 a0.cost,.int .i64 a0.stock]]=some (.int .i64 v14,false):=Q20 h15
    rcases cond_split h with ⟨h16,h⟩ | ⟨h16,h⟩
    ·obtain ⟨v17,h18,h⟩:=obind_some h
     have wh18:callIso prZ (X prZ) 21 [.agg [.str a0.name,.str a0.kd,.int .i64 a0.pa,.int .i64 a0.pb,.int .i64 a0.sa,.int .i64 a0.sb,.int .i64 a0.cost,.int .i64 a0.stock]]=some (sl 3 vel v17.1,v17.2):=Q21 h18
     obtain ⟨v19,h20,h⟩:=obind_some h
     have wh20:callIso prZ (X prZ) 22 [.agg [.str v10.name,.str v10.kd,.int .i64 v10.pa,.int .i64 v10.pb,.int .i64 v10.sa,.int .i64 v10.sb,.int .i64 v10.cost,.int .i64 v10.stock]]=some (.int .i64 v19,false):=Q22 h20
     rcases cond_split h with ⟨h21,h⟩ | ⟨h21,h⟩
     ·obtain ⟨v22,h23,h⟩:=obind_some h
      have wh23:callIso prZ (X prZ) 24 [sl 8 vpart a1]=some (sl 8 vpart v22.1,v22.2):=Q24 h23
      obtain ⟨v24,h25,h⟩:=obind_some h
      have wh25:callIso prZ (X prZ) 23 [sl 8 vpart v22.1]=some (.int .i64 v24,false):=Q23 h25
      obtain ⟨v26,h27,h⟩:=obind_some h
      have wh27:callIso prZ (X prZ) 25 [sl 8 vpart a1]=some (.int .i64 v26,false):=Q25 h27
      rcases cond_split h with ⟨h28,h⟩ | ⟨h28,h⟩
      ·obtain ⟨v29,h30,h⟩:=obind_some h
       have wh30:callIso prZ (X prZ) 27 [sl 3 vel v12.1]=some (sl 3 vel v29.1,v29.2):=Q27 h30
       obtain ⟨v31,h32,h⟩:=obind_some h
       have wh32:callIso prZ (X prZ) 26 [sl 3 vel v29.1,sl 3 vel v17.1]=some (.bool v31,false):=Q26 h32
       rcases cond_split h with ⟨h33,h⟩ | ⟨h33,h⟩
       ·have hr:decide (v12.2=v14)=r:=Option.some.inj h
        subst hr
        have this:∃ hh,callFn prZ (X prZ) 3 [.agg [.str a0.name,.str a0.kd,.int .i64 a0.pa,.int .i64 a0.pb,.int .i64 a0.sa,.int .i64 a0.sb,.int .i64 a0.cost,.int .i64 a0.stock],sl 8 vpart a1] []=some (.bool (decide (v12.2=v14)),false,hh):=by
         rw [callFn_at (show prZ.fns 3=some c3 from rfl) (by simp)]
         simp only [go_sem,seval,c3,wh2,h3,wh5,h6,wh8,h9,wh11,wh13,wh15,h16,wh18,wh20,h21,wh23,wh25,wh27,h28,wh30,wh32,h33]
         exact ⟨_,rfl⟩
        obtain ⟨hh,this⟩:=this
        exact callIso_of rfl this (by first | rfl | simp only [go_sem,seval]) (by first | rfl | simp only [go_sem,seval])
       ·have hr:false=r:=Option.some.inj h
        subst hr
        have this:∃ hh,callFn prZ (X prZ) 3 [.agg [.str a0.name,.str a0.kd,.int .i64 a0.pa,.int .i64 a0.pb,.int .i64 a0.sa,.int .i64 a0.sb,.int .i64 a0.cost,.int .i64 a0.stock],sl 8 vpart a1] []=some (.bool false,false,hh):=by
         rw [callFn_at (show prZ.fns 3=some c3 from rfl) (by simp)]
         simp only [go_sem,seval,c3,wh2,h3,wh5,h6,wh8,h9,wh11,wh13,wh15,h16,wh18,wh20,h21,wh23,wh25,wh27,h28,wh30,wh32,h33]
         exact ⟨_,rfl⟩
        obtain ⟨hh,this⟩:=this
        exact callIso_of rfl this (by first | rfl | simp only [go_sem,seval]) (by first | rfl | simp only [go_sem,seval])
      ·have hr:false=r:=Option.some.inj h
       subst hr
       have this:∃ hh,callFn prZ (X prZ) 3 [.agg [.str a0.name,.str a0.kd,.int .i64 a0.pa,.int .i64 a0.pb,.int .i64 a0.sa,.int .i64 a0.sb,.int .i64 a0.cost,.int .i64 a0.stock],sl 8 vpart a1] []=some (.bool false,false,hh):=by
        rw [callFn_at (show prZ.fns 3=some c3 from rfl) (by simp)]
        simp only [go_sem,seval,c3,wh2,h3,wh5,h6,wh8,h9,wh11,wh13,wh15,h16,wh18,wh20,h21,wh23,wh25,wh27,h28]
        exact ⟨_,rfl⟩
       obtain ⟨hh,this⟩:=this
       exact callIso_of rfl this (by first | rfl | simp only [go_sem,seval]) (by first | rfl | simp only [go_sem,seval])
     ·have hr:false=r:=Option.some.inj h
      subst hr
      have this:∃ hh,callFn prZ (X prZ) 3 [.agg [.str a0.name,.str a0.kd,.int .i64 a0.pa,.int .i64 a0.pb,.int .i64 a0.sa,.int .i64 a0.sb,.int .i64 a0.cost,.int .i64 a0.stock],sl 8 vpart a1] []=some (.bool false,false,hh):=by
       rw [callFn_at (show prZ.fns 3=some c3 from rfl) (by simp)]
       simp only [go_sem,seval,c3,wh2,h3,wh5,h6,wh8,h9,wh11,wh13,wh15,h16,wh18,wh20,h21]
       exact ⟨_,rfl⟩
      obtain ⟨hh,this⟩:=this
      exact callIso_of rfl this (by first | rfl | simp only [go_sem,seval]) (by first | rfl | simp only [go_sem,seval])
    ·obtain ⟨v34,h35,h⟩:=obind_some h
     have wh35:callIso prZ (X prZ) 22 [.agg [.str v10.name,.str v10.kd,.int .i64 v10.pa,.int .i64 v10.pb,.int .i64 v10.sa,.int .i64 v10.sb,.int .i64 v10.cost,.int .i64 v10.stock]]=some (.int .i64 v34,false):=Q22 h35
     rcases cond_split h with ⟨h36,h⟩ | ⟨h36,h⟩
     ·obtain ⟨v37,h38,h⟩:=obind_some h
      have wh38:callIso prZ (X prZ) 24 [sl 8 vpart a1]=some (sl 8 vpart v37.1,v37.2):=Q24 h38
      obtain ⟨v39,h40,h⟩:=obind_some h
      have wh40:callIso prZ (X prZ) 23 [sl 8 vpart v37.1]=some (.int .i64 v39,false):=Q23 h40
      obtain ⟨v41,h42,h⟩:=obind_some h
      have wh42:callIso prZ (X prZ) 25 [sl 8 vpart a1]=some (.int .i64 v41,false):=Q25 h42
      rcases cond_split h with ⟨h43,h⟩ | ⟨h43,h⟩
      ·obtain ⟨v44,h45,h⟩:=obind_some h
       have wh45:callIso prZ (X prZ) 27 [sl 3 vel v12.1]=some (sl 3 vel v44.1,v44.2):=Q27 h45
       obtain ⟨v46,h47,h⟩:=obind_some h
       have wh47:callIso prZ (X prZ) 26 [sl 3 vel v44.1,.list true 0 []]=some (.bool v46,false):=Q26 h47
       rcases cond_split h with ⟨h48,h⟩ | ⟨h48,h⟩
       ·have hr:decide (v12.2=v14)=r:=Option.some.inj h
        subst hr
        have this:∃ hh,callFn prZ (X prZ) 3 [.agg [.str a0.name,.str a0.kd,.int .i64 a0.pa,.int .i64 a0.pb,.int .i64 a0.sa,.int .i64 a0.sb,.int .i64 a0.cost,.int .i64 a0.stock],sl 8 vpart a1] []=some (.bool (decide (v12.2=v14)),false,hh):=by
         rw [callFn_at (show prZ.fns 3=some c3 from rfl) (by simp)]
         simp only [go_sem,seval,c3,wh2,h3,wh5,h6,wh8,h9,wh11,wh13,wh15,h16,wh35,h36,wh38,wh40,wh42,h43,wh45,wh47,h48]
         exact ⟨_,rfl⟩
        obtain ⟨hh,this⟩:=this
        exact callIso_of rfl this (by first | rfl | simp only [go_sem,seval]) (by first | rfl | simp only [go_sem,seval])
       ·have hr:false=r:=Option.some.inj h
        subst hr
        have this:∃ hh,callFn prZ (X prZ) 3 [.agg [.str a0.name,.str a0.kd,.int .i64 a0.pa,.int .i64 a0.pb,.int .i64 a0.sa,.int .i64 a0.sb,.int .i64 a0.cost,.int .i64 a0.stock],sl 8 vpart a1] []=some (.bool false,false,hh):=by
         rw [callFn_at (show prZ.fns 3=some c3 from rfl) (by simp)]
         simp only [go_sem,seval,c3,wh2,h3,wh5,h6,wh8,h9,wh11,wh13,wh15,h16,wh35,h36,wh38,wh40,wh42,h43,wh45,wh47,h48]
         exact ⟨_,rfl⟩
        obtain ⟨hh,this⟩:=this
        exact callIso_of rfl this (by first | rfl | simp only [go_sem,seval]) (by first | rfl | simp only [go_sem,seval])
      ·have hr:false=r:=Option.some.inj h
       subst hr
       have this:∃ hh,callFn prZ (X prZ) 3 [.agg [.str a0.name,.str a0.kd,.int .i64 a0.pa,.int .i64 a0.pb,.int .i64 a0.sa,.int .i64 a0.sb,.int .i64 a0.cost,.int .i64 a0.stock],sl 8 vpart a1] []=some (.bool false,false,hh):=by
        rw [callFn_at (show prZ.fns 3=some c3 from rfl) (by simp)]
        simp only [go_sem,seval,c3,wh2,h3,wh5,h6,wh8,h9,wh11,wh13,wh15,h16,wh35,h36,wh38,wh40,wh42,h43]
        exact ⟨_,rfl⟩
       obtain ⟨hh,this⟩:=this
       exact callIso_of rfl this (by first | rfl | simp only [go_sem,seval]) (by first | rfl | simp only [go_sem,seval])
     ·have hr:false=r:=Option.some.inj h
      subst hr
      have this:∃ hh,callFn prZ (X prZ) 3 [.agg [.str a0.name,.str a0.kd,.int .i64 a0.pa,.int .i64 a0.pb,.int .i64 a0.sa,.int .i64 a0.sb,.int .i64 a0.cost,.int .i64 a0.stock],sl 8 vpart a1] []=some (.bool false,false,hh):=by
       rw [callFn_at (show prZ.fns 3=some c3 from rfl) (by simp)]
       simp only [go_sem,seval,c3,wh2,h3,wh5,h6,wh8,h9,wh11,wh13,wh15,h16,wh35,h36]
       exact ⟨_,rfl⟩
      obtain ⟨hh,this⟩:=this
      exact callIso_of rfl this (by first | rfl | simp only [go_sem,seval]) (by first | rfl | simp only [go_sem,seval])
   ·have hr:v1=r:=Option.some.inj h
    subst hr
    have this:∃ hh,callFn prZ (X prZ) 3 [.agg [.str a0.name,.str a0.kd,.int .i64 a0.pa,.int .i64 a0.pb,.int .i64 a0.sa,.int .i64 a0.sb,.int .i64 a0.cost,.int .i64 a0.stock],sl 8 vpart a1] []=some (.bool v1,false,hh):=by
     rw [callFn_at (show prZ.fns 3=some c3 from rfl) (by simp)]
     simp only [go_sem,seval,c3,wh2,h3,wh5,h6,wh8,h9]
     exact ⟨_,rfl⟩
    obtain ⟨hh,this⟩:=this
    exact callIso_of rfl this (by first | rfl | simp only [go_sem,seval]) (by first | rfl | simp only [go_sem,seval])
  ·have hr:v1=r:=Option.some.inj h
   subst hr
   have this:∃ hh,callFn prZ (X prZ) 3 [.agg [.str a0.name,.str a0.kd,.int .i64 a0.pa,.int .i64 a0.pb,.int .i64 a0.sa,.int .i64 a0.sb,.int .i64 a0.cost,.int .i64 a0.stock],sl 8 vpart a1] []=some (.bool v1,false,hh):=by
    rw [callFn_at (show prZ.fns 3=some c3 from rfl) (by simp)]
    simp only [go_sem,seval,c3,wh2,h3,wh5,h6]
    exact ⟨_,rfl⟩
   obtain ⟨hh,this⟩:=this
   exact callIso_of rfl this (by first | rfl | simp only [go_sem,seval]) (by first | rfl | simp only [go_sem,seval])
 ·have hr:v1=r:=Option.some.inj h
  subst hr
  have this:∃ hh,callFn prZ (X prZ) 3 [.agg [.str a0.name,.str a0.kd,.int .i64 a0.pa,.int .i64 a0.pb,.int .i64 a0.sa,.int .i64 a0.sb,.int .i64 a0.cost,.int .i64 a0.stock],sl 8 vpart a1] []=some (.bool v1,false,hh):=by
   rw [callFn_at (show prZ.fns 3=some c3 from rfl) (by simp)]
   simp only [go_sem,seval,c3,wh2,h3]
   exact ⟨_,rfl⟩
  obtain ⟨hh,this⟩:=this
  exact callIso_of rfl this (by first | rfl | simp only [go_sem,seval]) (by first | rfl | simp only [go_sem,seval])
end Go.Z
/-
 CrossoverParts: the law runs true.
-/
set_option maxHeartbeats 1000000
namespace Go.Z
open Go Go.Abs
theorem f26_same {a b:Option (List GEl)} (hn:(a.getD []).length≤1073741824) (h:a.getD []=b.getD []):f26 a b=some true:=by
 obtain ⟨r,h1,h2⟩:=f26_eq (b:=b) hn
 rw [h1,h2.2 h]
theorem short_len {l:List GPart} (h:shortP l=true):l.length≤7:=by
 unfold shortP at h
 simp only [Bool.and_eq_true,Bool.or_eq_true,decide_eq_true_eq] at h
 omega
theorem f3_true {p:GPart} {o:Option (List GPart)}:f3 p o=some true:=by
 unfold f3
 rw [show E16=some true from rfl,obind_at,cond_true,f17_eq,obind_at]
 cases h1:shortP ((some [p]).getD []) with
 | false=>rfl
 | true=>
  rw [cond_true,f17_eq,obind_at]
  cases h2:shortP (o.getD []) with
  | false=>rfl
  | true=>
   have hl:=short_len h2
   have hv:=vals_le (p:=p) (c:=false)
   rw [cond_true,show f19 p=some p from rfl,obind_at,f18_eq,obind_at,f20_eq,obind_at]
   by_cases hp:partE p=0
   ·rw [decide_eq_true hp,cond_true,f21_eq hp,obind_at,f22_eq,obind_at,decide_eq_true rfl,cond_true,f24_eq (by omega),obind_at,f23_eq,obind_at,f25_eq,obind_at,nonNil_getD,decide_eq_true rfl,cond_true,if_pos hp]
    rw [f27_eq (by simp only [Option.getD_some]; omega),obind_at,f26_same (by rw [nonNil_getD,Option.getD_some]; omega) (by rw [nonNil_getD]),obind_at,cond_true,hp]
    rfl
   ·rw [decide_eq_false hp,cond_false,f22_eq,obind_at,decide_eq_true rfl,cond_true,f24_eq (by omega),obind_at,f23_eq,obind_at,f25_eq,obind_at,nonNil_getD,decide_eq_true rfl,cond_true,if_neg hp]
    rw [show f27 ((none:Option (List GEl)),partE p).1=some (none,false) from f27_eq (o:=none) (by simp),obind_at,f26_same (a:=none) (b:=none) (by simp) rfl,obind_at,cond_true]
    exact congrArg some (decide_eq_true rfl)
theorem I3 (p:GPart) (o:Option (List GPart)):callIso prZ (X prZ) 3 [.agg [.str p.name,.str p.kd,.int .i64 p.pa,.int .i64 p.pb,.int .i64 p.sa,.int .i64 p.sb,.int .i64 p.cost,.int .i64 p.stock],sl 8 vpart o]=some (.bool true,false):=W3 f3_true
end Go.Z
