/- Chapter 4. -/
import Derived.Test.YtnjngdcbkkonnaaGreatDoorZL
import Derived.Test.YtnjngdcbkkonnaaGreatDoorA1
import Derived.Test.YtnjngdcbkkonnaaGreatDoorPB
import Derived.Test.YtnjngdcbkkonnaaGreatDoorZWI
set_option linter.unusedVariables false
set_option linter.unusedSimpArgs false
set_option maxRecDepth 100000
set_option maxHeartbeats 4000000
namespace Go.Z
open Go Go.Abs
theorem N23 {a0:Option (List qi)} {r} (h:f23 a0=some r):qc prE (X prE) 23 [sl 8 qm a0]=some (.int .i64 r,false):=atE rfl rfl (W23 h) rfl
noncomputable def qhz (a0:Option (List Int)) (s0:(Option (List (List UInt8))) × Int × Bool):Option (((Option (List (List UInt8))) × Int × Bool) ⊕ (((Option (List (List UInt8))) × Bool × Int))):=
 cond (decide (s0.2.1 < ((a0.getD []).length:Int)))
  (qe (zw (a0.getD []) s0.2.1) fun v18=>
  qe (qv3 v18) fun v20=>
  cond s0.2.2
   (qe (apO s0.1 [v20]) fun v23=>
   some (.inl (v23,qf .i64 (s0.2.1 + 1),true)))
   (cond s0.1.isNone
    (qe (apO s0.1 [v20]) fun v26=>
    some (.inl (v26,qf .i64 (s0.2.1 + 1),true)))
    (none)))
  (some (.inr (s0.1,s0.2.2,s0.2.1)))
def qj5 (a0:Option (List Int)) (s0:(Option (List (List UInt8))) × Int × Bool):ASt:=⟨[(1,.fn (.func 148) [] [],false),(5,sl 1 qao s0.1,s0.2.2),(8,sl 1 qo a0,false),(9,.int .i64 ((a0.getD []).length:Int),false),(10,.int .i64 s0.2.1,false)],[]⟩
def qtx (a0:Option (List Int)) (d:((Option (List (List UInt8))) × Bool × Int)):ji × ASt:=(.exit 0,⟨[(1,.fn (.func 148) [] [],false),(5,sl 1 qao d.1,d.2.1),(8,sl 1 qo a0,false),(9,.int .i64 ((a0.getD []).length:Int),false),(10,.int .i64 d.2.2,false),(11,.bool false,false)],[]⟩)
theorem jfb (a0:Option (List Int)) (s0:(Option (List (List UInt8))) × Int × Bool) (r) (h:qhz a0 s0=some r):zj prE qil (qj5 a0) (qtx a0) s0 r:=by
 unfold qhz at h
 rcases qb h with ⟨h17,h⟩ | ⟨h17,h⟩
 ·obtain ⟨v18,h19,h⟩:=qa h
  obtain ⟨v20,h21,h⟩:=qa h
  rcases qb h with ⟨h22,h⟩ | ⟨h22,h⟩
  ·obtain ⟨v23,h24,h⟩:=qa h
   cases h
   exact qq (st':=⟨[(1,.fn (.func 148) [] [],false),(5,sl 1 qao v23,true),(8,sl 1 qo a0,false),(9,.int .i64 ((a0.getD []).length:Int),false),(10,.int .i64 (qf .i64 (s0.2.1 + 1)),false)],[]⟩) (by simp only [go_sem,seval,qil,qj5,h17,q9 h19,jfc h21,h22,q1t h24] <;> rfl) (jb (Nat.le_refl _))
  ·rcases qb h with ⟨h25,h⟩ | ⟨h25,h⟩
   ·obtain ⟨v26,h27,h⟩:=qa h
    cases h
    exact qq (st':=⟨[(1,.fn (.func 148) [] [],false),(5,sl 1 qao v26,true),(8,sl 1 qo a0,false),(9,.int .i64 ((a0.getD []).length:Int),false),(10,.int .i64 (qf .i64 (s0.2.1 + 1)),false)],[]⟩) (by simp only [go_sem,seval,qil,qj5,h17,q9 h19,jfc h21,h22,h25,q2e h27 h25] <;> rfl) (jb (Nat.le_refl _))
   ·cases h
 ·cases h
  exact qj (by simp only [go_sem,seval,qil,qj5,h17,qtx] <;> rfl)
theorem jep (a0:Option (List Int)) {s0:(Option (List (List UInt8))) × Int × Bool} {d} (h:itO (qhz a0) s0=some d):X prE (.loop qil) (qj5 a0 s0)=some (qtx a0 d):=z7 (jfb a0) (fun d hh=>by cases hh) h
noncomputable def f147 (a0:Option (List Int)):Option ((Option (List (List UInt8))) × Bool):=
 qe (itO (qhz a0) (none,0,false)) fun d28=>
 some (d28.1,d28.2.1)
theorem jrw {a0:Option (List Int)} {r} (h:f147 a0=some r):qc prE (X prE) 147 [sl 1 qo a0,.fn (.func 148) [] []]=some (sl 1 qao r.1,r.2):=by
 unfold f147 at h
 obtain ⟨d28,h29,h⟩:=qa h
 have wh29:X prE (.loop qil) ⟨[(1,.fn (.func 148) [] [],false),(5,.list true 0 [],false),(8,sl 1 qo a0,false),(9,.int .i64 ((a0.getD []).length:Int),false),(10,.int .i64 0,false)],[]⟩=some (.exit 0,⟨[(1,.fn (.func 148) [] [],false),(5,sl 1 qao d28.1,d28.2.1),(8,sl 1 qo a0,false),(9,.int .i64 ((a0.getD []).length:Int),false),(10,.int .i64 d28.2.2,false),(11,.bool false,false)],[]⟩):=jep a0 h29
 have hr:(d28.1,d28.2.1)=r:=Option.some.inj h
 subst hr
 have this:∃ hh,jl prE (X prE) 147 [sl 1 qo a0,.fn (.func 148) [] []] []=some (sl 1 qao d28.1,d28.2.1,hh):=by
  rw [qh (show prE.fns 147=some c147 from rfl) (by simp)]
  simp only [go_sem,seval,c147,wh29]
  exact ⟨_,rfl⟩
 obtain ⟨hh,this⟩:=this
 exact z6 rfl this (by first | rfl | simp only [go_sem,seval]) (by first | rfl | simp only [go_sem,seval]) (by first | rfl | simp only [go_sem,seval])
noncomputable def qmk (a0:Option (List qi)) (s0:Int × (List UInt8)):Option ((Int × (List UInt8)) ⊕ ((Int × (List UInt8)))):=
 cond (decide (s0.1 < ((a0.getD []).length:Int)))
  (qe (zw (a0.getD []) s0.1) fun v31=>
  qe (f147 (some [v31.pa,v31.pb,v31.sa,v31.sb,v31.cost,v31.stock])) fun v33=>
  qe (apO (some [v31.name,v31.kd]) (v33.1.getD [])) fun v35=>
  qe (q10 v35 ([32]:List UInt8)) fun v37=>
  qe (q7n v37 ([10]:List UInt8)) fun v39=>
  qe (q2a s0.2 v39) fun v41=>
  some (.inl (qf .i64 (s0.1 + 1),v41)))
  (some (.inr (s0.1,s0.2)))
def qkx (a0:Option (List qi)) (s0:Int × (List UInt8)):ASt:=⟨[(5,.ptr 0 0,false),(14,sl 8 qm a0,false),(15,.int .i64 ((a0.getD []).length:Int),false),(16,.int .i64 s0.1,false)],[.bld 226 5 s0.2]⟩
def qvz (a0:Option (List qi)) (d:(Int × (List UInt8))):ji × ASt:=(.exit 0,⟨[(5,.ptr 0 0,false),(14,sl 8 qm a0,false),(15,.int .i64 ((a0.getD []).length:Int),false),(16,.int .i64 d.1,false),(17,.bool false,false)],[.bld 226 5 d.2]⟩)
theorem jnc (a0:Option (List qi)) (s0:Int × (List UInt8)) (r) (h:qmk a0 s0=some r):zj prE qos (qkx a0) (qvz a0) s0 r:=by
 unfold qmk at h
 rcases qb h with ⟨h30,h⟩ | ⟨h30,h⟩
 ·obtain ⟨v31,h32,h⟩:=qa h
  obtain ⟨v33,h34,h⟩:=qa h
  have wh34:qc prE (X prE) 147 [.list false 1 [.int .i64 v31.pa,.int .i64 v31.pb,.int .i64 v31.sa,.int .i64 v31.sb,.int .i64 v31.cost,.int .i64 v31.stock],.fn (.func 148) [] []]=some (sl 1 qao v33.1,v33.2):=jrw h34
  obtain ⟨v35,h36,h⟩:=qa h
  obtain ⟨v37,h38,h⟩:=qa h
  have wh38:qc prE (X prE) 146 [sl 1 qao v35,.str ([32]:List UInt8)]=some (.str v37,false):=jrh h38
  obtain ⟨v39,h40,h⟩:=qa h
  obtain ⟨v41,h42,h⟩:=qa h
  have wh42:jl prE (X prE) 145 [.ptr 0 0,.str v39] [.bld 226 5 s0.2,.cells [(.str v31.name,false),(.str v31.kd,false),(.int .i64 v31.pa,false),(.int .i64 v31.pb,false),(.int .i64 v31.sa,false),(.int .i64 v31.sb,false),(.int .i64 v31.cost,false),(.int .i64 v31.stock,false)]]=some (.tup [.int .i64 (v39.length:Int),.any],false,[.bld 226 5 v41,.cells [(.str v31.name,false),(.str v31.kd,false),(.int .i64 v31.pa,false),(.int .i64 v31.pb,false),(.int .i64 v31.sa,false),(.int .i64 v31.sb,false),(.int .i64 v31.cost,false),(.int .i64 v31.stock,false)]]):=jp8 rfl h42
  cases h
  exact qq (st':=⟨[(5,.ptr 0 0,false),(14,sl 8 qm a0,false),(15,.int .i64 ((a0.getD []).length:Int),false),(16,.int .i64 (qf .i64 (s0.1 + 1)),false)],[.bld 226 5 v41]++[.cells [(.str v31.name,false),(.str v31.kd,false),(.int .i64 v31.pa,false),(.int .i64 v31.pb,false),(.int .i64 v31.sa,false),(.int .i64 v31.sb,false),(.int .i64 v31.cost,false),(.int .i64 v31.stock,false)]]⟩) (by simp only [go_sem,seval,qos,qkx,h30,q9 h32,wh34,(show ∀ (b t:Nat) (hq:qk),appR 1 b hq (some t) (some (.list false 1 [.str v31.name,.str v31.kd])) (some (sl 1 qao v33.1))=ifR (decide (b≤4096)) (some ⟨sl 1 qao v35,true,some t,hq⟩) from fun _ _ _=>qxx (o:=some [v31.name,v31.kd]) h36),wh38,q96 h40,wh42] <;> rfl) (zz rfl rfl (by first | simp only [go_sem,seval,qkx] | rfl) (by first | simp only [go_sem,seval,qkx] | rfl))
 ·cases h
  exact qj (by simp only [go_sem,seval,qos,qkx,h30,qvz] <;> rfl)
theorem jhn (a0:Option (List qi)) {s0:Int × (List UInt8)} {d} (h:itO (qmk a0) s0=some d):X prE (.loop qos) (qkx a0 s0)=some (qvz a0 d):=z7 (jnc a0) (fun d hh=>by cases hh) h
noncomputable def f92 (a0:Option (List qi)):Option ((List UInt8) × Int):=
 qe (f23 a0) fun v1=>
 cond (decide (v1=0))
  (qe (itO (qmk a0) (0,[])) fun d43=>
  qe (some d43.2) fun v45=>
  some (v45,0))
  (some ([],v1))
theorem W92 {a0:Option (List qi)} {r} (h:f92 a0=some r):qc prE (X prE) 92 [sl 8 qm a0]=some (.tup [.str r.1,.int .i64 r.2],false):=by
 unfold f92 at h
 obtain ⟨v1,h2,h⟩:=qa h
 rcases qb h with ⟨h3,h⟩ | ⟨h3,h⟩
 ·obtain ⟨d43,h44,h⟩:=qa h
  have wh44:X prE (.loop qos) ⟨[(5,.ptr 0 0,false),(14,sl 8 qm a0,false),(15,.int .i64 ((a0.getD []).length:Int),false),(16,.int .i64 0,false)],[.bld 226 5 []]⟩=some (.exit 0,⟨[(5,.ptr 0 0,false),(14,sl 8 qm a0,false),(15,.int .i64 ((a0.getD []).length:Int),false),(16,.int .i64 d43.1,false),(17,.bool false,false)],[.bld 226 5 d43.2]⟩):=jhn a0 h44
  obtain ⟨v45,h46,h⟩:=qa h
  have wh46:jl prE (X prE) 149 [.ptr 0 0] [.bld 226 5 d43.2]=some (.str v45,false,[.dead]):=jrg rfl h46
  have hr:(v45,0)=r:=Option.some.inj h
  subst hr
  refine qy rfl ?_ (fun _=>by first | rfl | simp only [go_sem,seval]) (by first | rfl | simp only [go_sem,seval])
  rw [qh (show prE.fns 92=some c92 from rfl) (by simp)]
  simp only [go_sem,seval,c92,N23 h2,h3,wh44,wh46]
  exact ⟨_,rfl⟩
 ·have hr:([],v1)=r:=Option.some.inj h
  subst hr
  refine qy rfl ?_ (fun _=>by first | rfl | simp only [go_sem,seval]) (by first | rfl | simp only [go_sem,seval])
  rw [qh (show prE.fns 92=some c92 from rfl) (by simp)]
  simp only [go_sem,seval,c92,N23 h2,h3]
  exact ⟨_,rfl⟩
end Go.Z
namespace Go.Z
open Go Go.Abs Go.Proofs
theorem qn7 {u:Nat} (h:u < 10):Lib.decDigits u=[UInt8.ofNat (48 + u)]:=by rw [Lib.decDigits,dif_pos h]
theorem jam {l:List Int} (hl:l.length≤1073741824) (hr:∀ x∈l,-9223372036854775808≤x∧x≤9223372036854775807):f147 (some l)=some (qt (l.map Lib.itoa),yw (l.map Lib.itoa)):=by
 unfold f147
 rw [qku l (qhz (some l)) Lib.itoa hl (fun a=>by unfold qhz; simp only [Option.getD_some]; rw [yg]; rfl) (fun i x a hx hi ha=>by
  unfold qhz
  simp only [Option.getD_some]
  rw [yu hi,cond_true,yk hx,qd,show qv3 x=some (Lib.itoa x) from q3n (hr x (List.mem_of_getElem? hx)),qd,qch ha,ze hi (by omega)]),qd]
theorem q4x:∀ (t:List (Nat × List Row)),(t.all fun p=>(tree.find p.1).isSome)=true→∀ k l,qhs t k=some l→(tree.find k).isSome=true
 | (j,m)::t,h,k,l,hk=>by
  simp only [List.all_cons,Bool.and_eq_true] at h
  simp only [qhs,Bool.cond_eq_ite] at hk
  split at hk
  ·next hb=>rw [← Nat.eq_of_beq_eq_true hb]; exact h.1
  ·exact q4x t h.2 k l hk
def cPart:qi:=⟨[99],[115,104,117,110,116],0,1,0,0,5,1⟩
theorem jmg:f92 (some [cPart])=some ([99,32,115,104,117,110,116,32,48,32,49,32,48,32,48,32,53,32,49,10],0):=by
 have h23:f23 (some [cPart])=some 0:=by
  rw [q5w]
  exact congrArg some (by decide +kernel)
 have i0:Lib.itoa 0=[48]:=by show Lib.decDigits 0=_; rw [qn7 (by decide)]; rfl
 have i1:Lib.itoa 1=[49]:=by show Lib.decDigits 1=_; rw [qn7 (by decide)]; rfl
 have i5:Lib.itoa 5=[53]:=by show Lib.decDigits 5=_; rw [qn7 (by decide)]; rfl
 have h147:f147 (some [0,1,0,0,5,1])=some (some [[48],[49],[48],[48],[53],[49]],true):=by
  rw [jam (by decide) (by decide)]
  simp only [List.map_cons,List.map_nil,i0,i1,i5]
  rfl
 have s0:qmk (some [cPart]) (0,[])=some (.inl (1,[99,32,115,104,117,110,116,32,48,32,49,32,48,32,48,32,53,32,49,10])):=by
  unfold qmk
  have e0:zw ((some [cPart]).getD []) 0=some cPart:=rfl
  show cond true (qe (zw ((some [cPart]).getD []) 0) _) _=_
  rw [cond_true,e0,qd]
  show qe (f147 (some [0,1,0,0,5,1])) _=_
  rw [h147,qd]
  have ea:apO (some [cPart.name,cPart.kd]) ((some [[48],[49],[48],[48],[53],[49]]).getD [])=some (some [[99],[115,104,117,110,116],[48],[49],[48],[48],[53],[49]]):=rfl
  rw [ea,qd]
  have ej:q10 (some [[99],[115,104,117,110,116],[48],[49],[48],[48],[53],[49]]) [32]=some [99,32,115,104,117,110,116,32,48,32,49,32,48,32,48,32,53,32,49]:=by
   show qtu _ _=_
   exact (q3n (by decide)).trans (congrArg some (by decide))
  rw [ej,qd]
  rfl
 have s1:qmk (some [cPart]) (1,[99,32,115,104,117,110,116,32,48,32,49,32,48,32,48,32,53,32,49,10])=some (.inr (1,[99,32,115,104,117,110,116,32,48,32,49,32,48,32,48,32,53,32,49,10])):=rfl
 unfold f92
 rw [h23,qd]
 show cond true _ _=_
 rw [cond_true,qcp s0,qal s1]
 rfl
theorem q5d:qac Tryz.prog 92 [(.list false 8 [(.agg [(.str [99]),(.str [115,104,117,110,116]),(.int .i64 0),(.int .i64 1),(.int .i64 0),(.int .i64 0),(.int .i64 5),(.int .i64 1)])])] (.tup [(.str [99,32,115,104,117,110,116,32,48,32,49,32,48,32,48,32,53,32,49,10]),(.int .i64 0)]) false:=
 qp6 okE (W92 jmg) rfl
theorem q41:qac Tryz.prog 16 [] (.bool true) false:=
 zt (q1e okPr (jmz okPr q5d) (fun k l h=>qcz (q4x q7p (by kernel_rfl) k l h))) q6j
end Go.Z
