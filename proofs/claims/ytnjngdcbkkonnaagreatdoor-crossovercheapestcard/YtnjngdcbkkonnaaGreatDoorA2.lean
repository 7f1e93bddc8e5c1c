/- Chapter 4. -/
import Derived.Test.YtnjngdcbkkonnaaGreatDoorZL
import Derived.Test.YtnjngdcbkkonnaaGreatDoorA1
import Derived.Test.YtnjngdcbkkonnaaGreatDoorPB
import Derived.Test.YtnjngdcbkkonnaaGreatDoorZWI
set_option linter.unusedVariables false
set_option linter.unusedSimpArgs false
set_option maxRecDepth 100000
set_option maxHeartbeats 4000000
namespace Go.Z
open Go Go.Abs
theorem N23 {a0:TP} {r} (h:f23 a0=some r):qf prE (X prE) 23 [sl 8 qq a0]=some (.int .i64 r,false):=atE rfl rfl (W23 h) rfl
noncomputable def qj6 (a0:TI) (s0:(Option (List (List UInt8))) × Int × Bool):Option (((Option (List (List UInt8))) × Int × Bool) ⊕ (((Option (List (List UInt8))) × Bool × Int))):=
 cond (decide (s0.2.1 < ((a0.getD []).length:Int)))
  (qc (js (a0.getD []) s0.2.1) fun v18=>
  qc (qy6 v18) fun v20=>
  cond s0.2.2
   (qc (apO s0.1 [v20]) fun v23=>
   some (.inl (v23,qg .i64 (s0.2.1 + 1),true)))
   (cond s0.1.isNone
    (qc (apO s0.1 [v20]) fun v26=>
    some (.inl (v26,qg .i64 (s0.2.1 + 1),true)))
    (none)))
  (some (.inr (s0.1,s0.2.2,s0.2.1)))
def qin (a0:TI) (s0:(Option (List (List UInt8))) × Int × Bool):ASt:=⟨[(1,.fn (.func 148) [] [],false),(5,sl 1 qbz s0.1,s0.2.2),(8,sl 1 qm a0,false),(9,.int .i64 ((a0.getD []).length:Int),false),(10,.int .i64 s0.2.1,false)],[]⟩
def qq9 (a0:TI) (d:((Option (List (List UInt8))) × Bool × Int)):jb × ASt:=(.exit 0,⟨[(1,.fn (.func 148) [] [],false),(5,sl 1 qbz d.1,d.2.1),(8,sl 1 qm a0,false),(9,.int .i64 ((a0.getD []).length:Int),false),(10,.int .i64 d.2.2,false),(11,.bool false,false)],[]⟩)
theorem ji5 (a0:TI) (s0:(Option (List (List UInt8))) × Int × Bool) (r) (h:qj6 a0 s0=some r):jt prE ql7 (qin a0) (qq9 a0) s0 r:=by
 unfold qj6 at h
 rcases qb h with ⟨h17,h⟩ | ⟨h17,h⟩
 ·obtain ⟨v18,h19,h⟩:=qa h
  obtain ⟨v20,h21,h⟩:=qa h
  rcases qb h with ⟨h22,h⟩ | ⟨h22,h⟩
  ·obtain ⟨v23,h24,h⟩:=qa h
   cases h
   exact qw (by simp only [go_sem,seval,ql7,qin,h17,qu h19,jgk h21,h22,q38 h24] <;> rfl) (Nat.le_refl _)
  rcases qb h with ⟨h25,h⟩ | ⟨h25,h⟩
  ·obtain ⟨v26,h27,h⟩:=qa h
   cases h
   exact qw (by simp only [go_sem,seval,ql7,qin,h17,qu h19,jgk h21,h22,h25,q39 h27 h25] <;> rfl) (Nat.le_refl _)
  cases h
 cases h
 exact qh (by simp only [go_sem,seval,ql7,qin,h17,qq9] <;> rfl)
theorem ji0 (a0:TI) {s0:(Option (List (List UInt8))) × Int × Bool} {d} (h:itO (qj6 a0) s0=some d):X prE (.loop ql7) (qin a0 s0)=some (qq9 a0 d):=j9 (ji5 a0) (fun d hh=>by cases hh) h
noncomputable def f147 (a0:TI):Option ((Option (List (List UInt8))) × Bool):=
 qc (itO (qj6 a0) (none,0,false)) fun d28=>
 some (d28.1,d28.2.1)
theorem jwq {a0:TI} {r} (h:f147 a0=some r):qf prE (X prE) 147 [sl 1 qm a0,.fn (.func 148) [] []]=some (sl 1 qbz r.1,r.2):=by
 unfold f147 at h
 obtain ⟨d28,h29,h⟩:=qa h
 have wh29:=ji0 a0 h29
 dsimp only [qin,qq9,qdx] at wh29
 have hr:(d28.1,d28.2.1)=r:=Option.some.inj h
 subst hr
 have this:∃ hh,jg prE (X prE) 147 [sl 1 qm a0,.fn (.func 148) [] []] []=some (sl 1 qbz d28.1,d28.2.1,hh):=by
  rw [j8 (show prE.fns 147=some c147 from rfl) (by simp)]
  simp only [go_sem,seval,c147,wh29]
  exact ⟨_,rfl⟩
 obtain ⟨hh,this⟩:=this
 exact zk rfl this (by first | rfl | simp only [go_sem,seval]) (by first | rfl | simp only [go_sem,seval]) (by first | rfl | simp only [go_sem,seval])
noncomputable def qnw (a0:TP) (s0:Int × (List UInt8)):Option ((Int × (List UInt8)) ⊕ ((Int × (List UInt8)))):=
 cond (decide (s0.1 < ((a0.getD []).length:Int)))
  (qc (js (a0.getD []) s0.1) fun v31=>
  qc (f147 (some [v31.pa,v31.pb,v31.sa,v31.sb,v31.cost,v31.stock])) fun v33=>
  qc (apO (some [v31.name,v31.kd]) (v33.1.getD [])) fun v35=>
  qc (q5n v35 ([32]:List UInt8)) fun v37=>
  qc (q98 v37 ([10]:List UInt8)) fun v39=>
  qc (q4q s0.2 v39) fun v41=>
  some (.inl (qg .i64 (s0.1 + 1),v41)))
  (some (.inr (s0.1,s0.2)))
def qi6 (a0:TP) (s0:Int × (List UInt8)):ASt:=⟨[(5,.ptr 0 0,false),(14,sl 8 qq a0,false),(15,.int .i64 ((a0.getD []).length:Int),false),(16,.int .i64 s0.1,false)],[.bld 226 5 s0.2]⟩
def quz (a0:TP) (d:(Int × (List UInt8))):jb × ASt:=(.exit 0,⟨[(5,.ptr 0 0,false),(14,sl 8 qq a0,false),(15,.int .i64 ((a0.getD []).length:Int),false),(16,.int .i64 d.1,false),(17,.bool false,false)],[.bld 226 5 d.2]⟩)
theorem jp8 (a0:TP) (s0:Int × (List UInt8)) (r) (h:qnw a0 s0=some r):jt prE qup (qi6 a0) (quz a0) s0 r:=by
 unfold qnw at h
 rcases qb h with ⟨h30,h⟩ | ⟨h30,h⟩
 ·obtain ⟨v31,h32,h⟩:=qa h
  obtain ⟨v33,h34,h⟩:=qa h
  have wh34:qf prE (X prE) 147 [.list false 1 [.int .i64 v31.pa,.int .i64 v31.pb,.int .i64 v31.sa,.int .i64 v31.sb,.int .i64 v31.cost,.int .i64 v31.stock],.fn (.func 148) [] []]=some (sl 1 qbz v33.1,v33.2):=jwq h34
  obtain ⟨v35,h36,h⟩:=qa h
  obtain ⟨v37,h38,h⟩:=qa h
  have wh38:=jwy h38
  obtain ⟨v39,h40,h⟩:=qa h
  obtain ⟨v41,h42,h⟩:=qa h
  have wh42:jg prE (X prE) 145 [.ptr 0 0,.str v39] [.bld 226 5 s0.2,.cells [(.str v31.name,false),(.str v31.kd,false),(.int .i64 v31.pa,false),(.int .i64 v31.pb,false),(.int .i64 v31.sa,false),(.int .i64 v31.sb,false),(.int .i64 v31.cost,false),(.int .i64 v31.stock,false)]]=some (.tup [.int .i64 (v39.length:Int),.any],false,[.bld 226 5 v41,.cells [(.str v31.name,false),(.str v31.kd,false),(.int .i64 v31.pa,false),(.int .i64 v31.pb,false),(.int .i64 v31.sa,false),(.int .i64 v31.sb,false),(.int .i64 v31.cost,false),(.int .i64 v31.stock,false)]]):=jyk rfl h42
  cases h
  exact zt (by simp only [go_sem,seval,qup,qi6,h30,qu h32,wh34,(show ∀ (b t:Nat) (hq:qk),appR 1 b hq (some t) (some (.list false 1 [.str v31.name,.str v31.kd])) (some (sl 1 qbz v33.1))=ifR (decide (b≤4096)) (some ⟨sl 1 qbz v35,true,some t,hq⟩) from fun _ _ _=>qn6 (o:=some [v31.name,v31.kd]) h36),wh38,jc4 h40,wh42]; exact ⟨_,rfl⟩) rfl (by first | simp only [go_sem,seval,qi6] | rfl) (by first | simp only [go_sem,seval,qi6] | rfl)
 cases h
 exact qh (by simp only [go_sem,seval,qup,qi6,h30,quz] <;> rfl)
theorem jq3 (a0:TP) {s0:Int × (List UInt8)} {d} (h:itO (qnw a0) s0=some d):X prE (.loop qup) (qi6 a0 s0)=some (quz a0 d):=j9 (jp8 a0) (fun d hh=>by cases hh) h
noncomputable def f92 (a0:TP):Option ((List UInt8) × Int):=
 qc (f23 a0) fun v1=>
 cond (decide (v1=0))
  (qc (itO (qnw a0) (0,[])) fun d43=>
  qc (some d43.2) fun v45=>
  some (v45,0))
  (some ([],v1))
theorem W92 {a0:TP} {r} (h:f92 a0=some r):qf prE (X prE) 92 [sl 8 qq a0]=some (.tup [.str r.1,.int .i64 r.2],false):=by
 unfold f92 at h
 obtain ⟨v1,h2,h⟩:=qa h
 rcases qb h with ⟨h3,h⟩ | ⟨h3,h⟩
 ·obtain ⟨d43,h44,h⟩:=qa h
  have wh44:=jq3 a0 h44
  dsimp only [qi6,quz] at wh44
  obtain ⟨v45,h46,h⟩:=qa h
  have wh46:jg prE (X prE) 149 [.ptr 0 0] [.bld 226 5 d43.2]=some (.str v45,false,[.dead]):=jwv rfl h46
  obtain rfl:=Option.some.inj h
  refine qn (f:=c92) rfl rfl rfl (by first | rfl | simp only [go_sem,seval]) ?_
  simp only [go_sem,seval,c92,N23 h2,h3,wh44,wh46]
  exact ⟨_,rfl⟩
 obtain rfl:=Option.some.inj h
 refine qn (f:=c92) rfl rfl rfl (by first | rfl | simp only [go_sem,seval]) ?_
 simp only [go_sem,seval,c92,N23 h2,h3]
 exact ⟨_,rfl⟩
end Go.Z
namespace Go.Z
open Go Go.Abs Go.Proofs
theorem qo7 {u:Nat} (h:u < 10):Lib.decDigits u=[UInt8.ofNat (48 + u)]:=by rw [Lib.decDigits,dif_pos h]
theorem jdv {l:List Int} (hl:l.length≤1073741824) (hr:∀ x∈l,-9223372036854775808≤x∧x≤9223372036854775807):f147 (some l)=some (qi (l.map Lib.itoa),zh (l.map Lib.itoa)):=by
 unfold f147
 rw [qqu l (qj6 (some l)) Lib.itoa hl (fun a=>by unfold qj6; simp only [Option.getD_some]; rw [zj]; rfl) (fun i x a hx hi ha=>by
  unfold qj6
  simp only [Option.getD_some]
  rw [zu hi,cond_true,zn hx,qd,show qy6 x=some (Lib.itoa x) from q6v (hr x (List.mem_of_getElem? hx)),qd,qby ha,jo hi (by omega)]),qd]
theorem q6c:∀ (t:List (Nat × List Row)),(t.all fun p=>(tree.find p.1).isSome)=true→∀ k l,qii t k=some l→(tree.find k).isSome=true
 | (j,m)::t,h,k,l,hk=>by
  simp only [List.all_cons,Bool.and_eq_true] at h
  simp only [qii,Bool.cond_eq_ite] at hk
  split at hk
  ·next hb=>rw [← Nat.eq_of_beq_eq_true hb]; exact h.1
  ·exact q6c t h.2 k l hk
def cPart:ql:=⟨[99],[115,104,117,110,116],0,1,0,0,5,1⟩
theorem jql:f92 (some [cPart])=some ([99,32,115,104,117,110,116,32,48,32,49,32,48,32,48,32,53,32,49,10],0):=by
 have h23:f23 (some [cPart])=some 0:=by
  rw [q59]
  exact congrArg some (by decide +kernel)
 have i0:Lib.itoa 0=[48]:=by show Lib.decDigits 0=_; rw [qo7 (by decide)]; rfl
 have i1:Lib.itoa 1=[49]:=by show Lib.decDigits 1=_; rw [qo7 (by decide)]; rfl
 have i5:Lib.itoa 5=[53]:=by show Lib.decDigits 5=_; rw [qo7 (by decide)]; rfl
 have h147:f147 (some [0,1,0,0,5,1])=some (some [[48],[49],[48],[48],[53],[49]],true):=by
  rw [jdv (by decide) (by decide)]
  simp only [List.map_cons,List.map_nil,i0,i1,i5]
  rfl
 have s0:qnw (some [cPart]) (0,[])=some (.inl (1,[99,32,115,104,117,110,116,32,48,32,49,32,48,32,48,32,53,32,49,10])):=by
  unfold qnw
  have e0:js ((some [cPart]).getD []) 0=some cPart:=rfl
  show cond true (qc (js ((some [cPart]).getD []) 0) _) _=_
  rw [cond_true,e0,qd]
  show qc (f147 (some [0,1,0,0,5,1])) _=_
  rw [h147,qd]
  have ea:apO (some [cPart.name,cPart.kd]) ((some [[48],[49],[48],[48],[53],[49]]).getD [])=some (some [[99],[115,104,117,110,116],[48],[49],[48],[48],[53],[49]]):=rfl
  rw [ea,qd]
  have ej:q5n (some [[99],[115,104,117,110,116],[48],[49],[48],[48],[53],[49]]) [32]=some [99,32,115,104,117,110,116,32,48,32,49,32,48,32,48,32,53,32,49]:=by
   show qvy _ _=_
   exact (q6v (by decide)).trans (congrArg some (by decide))
  rw [ej,qd]
  rfl
 have s1:qnw (some [cPart]) (1,[99,32,115,104,117,110,116,32,48,32,49,32,48,32,48,32,53,32,49,10])=some (.inr (1,[99,32,115,104,117,110,116,32,48,32,49,32,48,32,48,32,53,32,49,10])):=rfl
 unfold f92
 rw [h23,qd]
 show cond true _ _=_
 rw [cond_true,qab s0,zy s1]
 rfl
theorem q6a:yx Tryz.prog 92 [(.list false 8 [(.agg [(.str [99]),(.str [115,104,117,110,116]),(.int .i64 0),(.int .i64 1),(.int .i64 0),(.int .i64 0),(.int .i64 5),(.int .i64 1)])])] (.tup [(.str [99,32,115,104,117,110,116,32,48,32,49,32,48,32,48,32,53,32,49,10]),(.int .i64 0)]) false:=
 qs0 okE (W92 jql) rfl
theorem q8p:yx Tryz.prog 16 [] (.bool true) false:=
 zw (q4o okPr (jk6 okPr q6a) (fun k l h=>qbb (q6c jbb (by kernel_rfl) k l h))) q9q
end Go.Z
