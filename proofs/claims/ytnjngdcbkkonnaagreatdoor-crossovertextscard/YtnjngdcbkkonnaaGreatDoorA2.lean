/- Chapter 4. -/
import Derived.Test.YtnjngdcbkkonnaaGreatDoorZL
import Derived.Test.YtnjngdcbkkonnaaGreatDoorA1
import Derived.Test.YtnjngdcbkkonnaaGreatDoorPB
import Derived.Test.YtnjngdcbkkonnaaGreatDoorZWI
set_option linter.unusedVariables false
set_option linter.unusedSimpArgs false
set_option maxRecDepth 100000
set_option maxHeartbeats 4000000
namespace Go.Z
open Go Go.Abs
theorem N23 {a0:Option (List qf)} {r} (h:f23 a0=some r):qd prE (X prE) 23 [sl 8 qn a0]=some (.int .i64 r,false):=atE rfl rfl (W23 h) rfl
noncomputable def qgm (a0:Option (List Int)) (s0:(Option (List (List UInt8))) × Int × Bool):Option (((Option (List (List UInt8))) × Int × Bool) ⊕ (((Option (List (List UInt8))) × Bool × Int))):=
 cond (decide (s0.2.1 < ((a0.getD []).length:Int)))
  (qg (jy (a0.getD []) s0.2.1) fun v18=>
  qg (qth v18) fun v20=>
  cond s0.2.2
   (qg (apO s0.1 [v20]) fun v23=>
   some (.inl (v23,qi .i64 (s0.2.1 + 1),true)))
   (cond s0.1.isNone
    (qg (apO s0.1 [v20]) fun v26=>
    some (.inl (v26,qi .i64 (s0.2.1 + 1),true)))
    (none)))
  (some (.inr (s0.1,s0.2.2,s0.2.1)))
def qik (a0:Option (List Int)) (s0:(Option (List (List UInt8))) × Int × Bool):ASt:=⟨[(1,.fn (.func 148) [] [],false),(5,sl 1 j5 s0.1,s0.2.2),(8,sl 1 jo a0,false),(9,.int .i64 ((a0.getD []).length:Int),false),(10,.int .i64 s0.2.1,false)],[]⟩
def qpg (a0:Option (List Int)) (d:((Option (List (List UInt8))) × Bool × Int)):je × ASt:=(.exit 0,⟨[(1,.fn (.func 148) [] [],false),(5,sl 1 j5 d.1,d.2.1),(8,sl 1 jo a0,false),(9,.int .i64 ((a0.getD []).length:Int),false),(10,.int .i64 d.2.2,false),(11,.bool false,false)],[]⟩)
theorem q7a (a0:Option (List Int)) (s0:(Option (List (List UInt8))) × Int × Bool) (r) (h:qgm a0 s0=some r):zh prE qgw (qik a0) (qpg a0) s0 r:=by
 unfold qgm at h
 rcases qa h with ⟨h17,h⟩ | ⟨h17,h⟩
 ·obtain ⟨v18,h19,h⟩:=qb h
  obtain ⟨v20,h21,h⟩:=qb h
  rcases qa h with ⟨h22,h⟩ | ⟨h22,h⟩
  ·obtain ⟨v23,h24,h⟩:=qb h
   cases h
   exact qq (st':=⟨[(1,.fn (.func 148) [] [],false),(5,sl 1 j5 v23,true),(8,sl 1 jo a0,false),(9,.int .i64 ((a0.getD []).length:Int),false),(10,.int .i64 (qi .i64 (s0.2.1 + 1)),false)],[]⟩) (by simp only [go_sem,seval,qgw,qik,h17,q9 h19,q7x h21,h22,qjo h24] <;> rfl) (qw (Nat.le_refl _))
  ·rcases qa h with ⟨h25,h⟩ | ⟨h25,h⟩
   ·obtain ⟨v26,h27,h⟩:=qb h
    cases h
    exact qq (st':=⟨[(1,.fn (.func 148) [] [],false),(5,sl 1 j5 v26,true),(8,sl 1 jo a0,false),(9,.int .i64 ((a0.getD []).length:Int),false),(10,.int .i64 (qi .i64 (s0.2.1 + 1)),false)],[]⟩) (by simp only [go_sem,seval,qgw,qik,h17,q9 h19,q7x h21,h22,h25,qj7 h27 h25] <;> rfl) (qw (Nat.le_refl _))
   ·cases h
 ·cases h
  exact qk (by simp only [go_sem,seval,qgw,qik,h17,qpg] <;> rfl)
theorem q6b (a0:Option (List Int)) {s0:(Option (List (List UInt8))) × Int × Bool} {d} (h:itO (qgm a0) s0=some d):X prE (.loop qgw) (qik a0 s0)=some (qpg a0 d):=zz (q7a a0) (fun d hh=>by cases hh) h
noncomputable def f147 (a0:Option (List Int)):Option ((Option (List (List UInt8))) × Bool):=
 qg (itO (qgm a0) (none,0,false)) fun d28=>
 some (d28.1,d28.2.1)
theorem jkb {a0:Option (List Int)} {r} (h:f147 a0=some r):qd prE (X prE) 147 [sl 1 jo a0,.fn (.func 148) [] []]=some (sl 1 j5 r.1,r.2):=by
 unfold f147 at h
 obtain ⟨d28,h29,h⟩:=qb h
 have wh29:X prE (.loop qgw) ⟨[(1,.fn (.func 148) [] [],false),(5,.list true 0 [],false),(8,sl 1 jo a0,false),(9,.int .i64 ((a0.getD []).length:Int),false),(10,.int .i64 0,false)],[]⟩=some (.exit 0,⟨[(1,.fn (.func 148) [] [],false),(5,sl 1 j5 d28.1,d28.2.1),(8,sl 1 jo a0,false),(9,.int .i64 ((a0.getD []).length:Int),false),(10,.int .i64 d28.2.2,false),(11,.bool false,false)],[]⟩):=q6b a0 h29
 have hr:(d28.1,d28.2.1)=r:=Option.some.inj h
 subst hr
 have this:∃ hh,ja prE (X prE) 147 [sl 1 jo a0,.fn (.func 148) [] []] []=some (sl 1 j5 d28.1,d28.2.1,hh):=by
  rw [ql (show prE.fns 147=some c147 from rfl) (by simp)]
  simp only [go_sem,seval,c147,wh29]
  exact ⟨_,rfl⟩
 obtain ⟨hh,this⟩:=this
 exact zx rfl this (by first | rfl | simp only [go_sem,seval]) (by first | rfl | simp only [go_sem,seval]) (by first | rfl | simp only [go_sem,seval])
noncomputable def qdh (a0:Option (List qf)) (s0:Int × (List UInt8)):Option ((Int × (List UInt8)) ⊕ ((Int × (List UInt8)))):=
 cond (decide (s0.1 < ((a0.getD []).length:Int)))
  (qg (jy (a0.getD []) s0.1) fun v31=>
  qg (f147 (some [v31.pa,v31.pb,v31.sa,v31.sb,v31.cost,v31.stock])) fun v33=>
  qg (apO (some [v31.name,v31.kd]) (v33.1.getD [])) fun v35=>
  qg (qrv v35 ([32]:List UInt8)) fun v37=>
  qg (kx v37 ([10]:List UInt8)) fun v39=>
  qg (qpq s0.2 v39) fun v41=>
  some (.inl (qi .i64 (s0.1 + 1),v41)))
  (some (.inr (s0.1,s0.2)))
def qih (a0:Option (List qf)) (s0:Int × (List UInt8)):ASt:=⟨[(5,.ptr 0 0,false),(14,sl 8 qn a0,false),(15,.int .i64 ((a0.getD []).length:Int),false),(16,.int .i64 s0.1,false)],[.bld 226 5 s0.2]⟩
def qse (a0:Option (List qf)) (d:(Int × (List UInt8))):je × ASt:=(.exit 0,⟨[(5,.ptr 0 0,false),(14,sl 8 qn a0,false),(15,.int .i64 ((a0.getD []).length:Int),false),(16,.int .i64 d.1,false),(17,.bool false,false)],[.bld 226 5 d.2]⟩)
theorem jb0 (a0:Option (List qf)) (s0:Int × (List UInt8)) (r) (h:qdh a0 s0=some r):zh prE qlz (qih a0) (qse a0) s0 r:=by
 unfold qdh at h
 rcases qa h with ⟨h30,h⟩ | ⟨h30,h⟩
 ·obtain ⟨v31,h32,h⟩:=qb h
  obtain ⟨v33,h34,h⟩:=qb h
  have wh34:qd prE (X prE) 147 [.list false 1 [.int .i64 v31.pa,.int .i64 v31.pb,.int .i64 v31.sa,.int .i64 v31.sb,.int .i64 v31.cost,.int .i64 v31.stock],.fn (.func 148) [] []]=some (sl 1 j5 v33.1,v33.2):=jkb h34
  obtain ⟨v35,h36,h⟩:=qb h
  obtain ⟨v37,h38,h⟩:=qb h
  have wh38:qd prE (X prE) 146 [sl 1 j5 v35,.str ([32]:List UInt8)]=some (.str v37,false):=jkx h38
  obtain ⟨v39,h40,h⟩:=qb h
  obtain ⟨v41,h42,h⟩:=qb h
  have wh42:ja prE (X prE) 145 [.ptr 0 0,.str v39] [.bld 226 5 s0.2,.cells [(.str v31.name,false),(.str v31.kd,false),(.int .i64 v31.pa,false),(.int .i64 v31.pb,false),(.int .i64 v31.sa,false),(.int .i64 v31.sb,false),(.int .i64 v31.cost,false),(.int .i64 v31.stock,false)]]=some (.tup [.int .i64 (v39.length:Int),.any],false,[.bld 226 5 v41,.cells [(.str v31.name,false),(.str v31.kd,false),(.int .i64 v31.pa,false),(.int .i64 v31.pb,false),(.int .i64 v31.sa,false),(.int .i64 v31.sb,false),(.int .i64 v31.cost,false),(.int .i64 v31.stock,false)]]):=jin rfl h42
  cases h
  exact qq (st':=⟨[(5,.ptr 0 0,false),(14,sl 8 qn a0,false),(15,.int .i64 ((a0.getD []).length:Int),false),(16,.int .i64 (qi .i64 (s0.1 + 1)),false)],[.bld 226 5 v41]++[.cells [(.str v31.name,false),(.str v31.kd,false),(.int .i64 v31.pa,false),(.int .i64 v31.pb,false),(.int .i64 v31.sa,false),(.int .i64 v31.sb,false),(.int .i64 v31.cost,false),(.int .i64 v31.stock,false)]]⟩) (by simp only [go_sem,seval,qlz,qih,h30,q9 h32,wh34,(show ∀ (b t:Nat) (hq:qm),appR 1 b hq (some t) (some (.list false 1 [.str v31.name,.str v31.kd])) (some (sl 1 j5 v33.1))=ifR (decide (b≤4096)) (some ⟨sl 1 j5 v35,true,some t,hq⟩) from fun _ _ _=>q16 (o:=some [v31.name,v31.kd]) h36),wh38,qco h40,wh42] <;> rfl) (kn rfl rfl (by first | simp only [go_sem,seval,qih] | rfl) (by first | simp only [go_sem,seval,qih] | rfl))
 ·cases h
  exact qk (by simp only [go_sem,seval,qlz,qih,h30,qse] <;> rfl)
theorem jc7 (a0:Option (List qf)) {s0:Int × (List UInt8)} {d} (h:itO (qdh a0) s0=some d):X prE (.loop qlz) (qih a0 s0)=some (qse a0 d):=zz (jb0 a0) (fun d hh=>by cases hh) h
noncomputable def f92 (a0:Option (List qf)):Option ((List UInt8) × Int):=
 qg (f23 a0) fun v1=>
 cond (decide (v1=0))
  (qg (itO (qdh a0) (0,[])) fun d43=>
  qg (some d43.2) fun v45=>
  some (v45,0))
  (some ([],v1))
theorem W92 {a0:Option (List qf)} {r} (h:f92 a0=some r):qd prE (X prE) 92 [sl 8 qn a0]=some (.tup [.str r.1,.int .i64 r.2],false):=by
 unfold f92 at h
 obtain ⟨v1,h2,h⟩:=qb h
 rcases qa h with ⟨h3,h⟩ | ⟨h3,h⟩
 ·obtain ⟨d43,h44,h⟩:=qb h
  have wh44:X prE (.loop qlz) ⟨[(5,.ptr 0 0,false),(14,sl 8 qn a0,false),(15,.int .i64 ((a0.getD []).length:Int),false),(16,.int .i64 0,false)],[.bld 226 5 []]⟩=some (.exit 0,⟨[(5,.ptr 0 0,false),(14,sl 8 qn a0,false),(15,.int .i64 ((a0.getD []).length:Int),false),(16,.int .i64 d43.1,false),(17,.bool false,false)],[.bld 226 5 d43.2]⟩):=jc7 a0 h44
  obtain ⟨v45,h46,h⟩:=qb h
  have wh46:ja prE (X prE) 149 [.ptr 0 0] [.bld 226 5 d43.2]=some (.str v45,false,[.dead]):=jjl rfl h46
  have hr:(v45,0)=r:=Option.some.inj h
  subst hr
  refine jp rfl ?_ (fun _=>by first | rfl | simp only [go_sem,seval]) (by first | rfl | simp only [go_sem,seval])
  rw [ql (show prE.fns 92=some c92 from rfl) (by simp)]
  simp only [go_sem,seval,c92,N23 h2,h3,wh44,wh46]
  exact ⟨_,rfl⟩
 ·have hr:([],v1)=r:=Option.some.inj h
  subst hr
  refine jp rfl ?_ (fun _=>by first | rfl | simp only [go_sem,seval]) (by first | rfl | simp only [go_sem,seval])
  rw [ql (show prE.fns 92=some c92 from rfl) (by simp)]
  simp only [go_sem,seval,c92,N23 h2,h3]
  exact ⟨_,rfl⟩
end Go.Z
namespace Go.Z
open Go Go.Abs Go.Proofs
theorem qcf {u:Nat} (h:u < 10):Lib.decDigits u=[UInt8.ofNat (48 + u)]:=by rw [Lib.decDigits,dif_pos h]
theorem qvf {l:List Int} (hl:l.length≤1073741824) (hr:∀ x∈l,-9223372036854775808≤x∧x≤9223372036854775807):f147 (some l)=some (ze (l.map Lib.itoa),qah (l.map Lib.itoa)):=by
 unfold f147
 rw [qmm l (qgm (some l)) Lib.itoa hl (fun a=>by unfold qgm; simp only [Option.getD_some]; rw [yu]; rfl) (fun i x a hx hi ha=>by
  unfold qgm
  simp only [Option.getD_some]
  rw [kr hi,cond_true,yp hx,qj,show qth x=some (Lib.itoa x) from qi0 (hr x (List.mem_of_getElem? hx)),qj,qc3 ha,z8 hi (by omega)]),qj]
theorem qzs:∀ (t:List (Nat × List Row)),(t.all fun p=>(tree.find p.1).isSome)=true→∀ k l,qfw t k=some l→(tree.find k).isSome=true
 | (j,m)::t,h,k,l,hk=>by
  simp only [List.all_cons,Bool.and_eq_true] at h
  simp only [qfw,Bool.cond_eq_ite] at hk
  split at hk
  ·next hb=>rw [← Nat.eq_of_beq_eq_true hb]; exact h.1
  ·exact qzs t h.2 k l hk
def cPart:qf:=⟨[99],[115,104,117,110,116],0,1,0,0,5,1⟩
theorem jax:f92 (some [cPart])=some ([99,32,115,104,117,110,116,32,48,32,49,32,48,32,48,32,53,32,49,10],0):=by
 have h23:f23 (some [cPart])=some 0:=by
  rw [qnt]
  exact congrArg some (by decide +kernel)
 have i0:Lib.itoa 0=[48]:=by show Lib.decDigits 0=_; rw [qcf (by decide)]; rfl
 have i1:Lib.itoa 1=[49]:=by show Lib.decDigits 1=_; rw [qcf (by decide)]; rfl
 have i5:Lib.itoa 5=[53]:=by show Lib.decDigits 5=_; rw [qcf (by decide)]; rfl
 have h147:f147 (some [0,1,0,0,5,1])=some (some [[48],[49],[48],[48],[53],[49]],true):=by
  rw [qvf (by decide) (by decide)]
  simp only [List.map_cons,List.map_nil,i0,i1,i5]
  rfl
 have s0:qdh (some [cPart]) (0,[])=some (.inl (1,[99,32,115,104,117,110,116,32,48,32,49,32,48,32,48,32,53,32,49,10])):=by
  unfold qdh
  have e0:jy ((some [cPart]).getD []) 0=some cPart:=rfl
  show cond true (qg (jy ((some [cPart]).getD []) 0) _) _=_
  rw [cond_true,e0,qj]
  show qg (f147 (some [0,1,0,0,5,1])) _=_
  rw [h147,qj]
  have ea:apO (some [cPart.name,cPart.kd]) ((some [[48],[49],[48],[48],[53],[49]]).getD [])=some (some [[99],[115,104,117,110,116],[48],[49],[48],[48],[53],[49]]):=rfl
  rw [ea,qj]
  have ej:qrv (some [[99],[115,104,117,110,116],[48],[49],[48],[48],[53],[49]]) [32]=some [99,32,115,104,117,110,116,32,48,32,49,32,48,32,48,32,53,32,49]:=by
   show qlr _ _=_
   exact (qi0 (by decide)).trans (congrArg some (by decide))
  rw [ej,qj]
  rfl
 have s1:qdh (some [cPart]) (1,[99,32,115,104,117,110,116,32,48,32,49,32,48,32,48,32,53,32,49,10])=some (.inr (1,[99,32,115,104,117,110,116,32,48,32,49,32,48,32,48,32,53,32,49,10])):=rfl
 unfold f92
 rw [h23,qj]
 show cond true _ _=_
 rw [cond_true,qau s0,zo s1]
 rfl
theorem qyx:zm Tryz.prog 92 [(.list false 8 [(.agg [(.str [99]),(.str [115,104,117,110,116]),(.int .i64 0),(.int .i64 1),(.int .i64 0),(.int .i64 0),(.int .i64 5),(.int .i64 1)])])] (.tup [(.str [99,32,115,104,117,110,116,32,48,32,49,32,48,32,48,32,53,32,49,10]),(.int .i64 0)]) false:=
 qnj okE (W92 jax) rfl
theorem q0i:zm Tryz.prog 16 [] (.bool true) false:=
 za (qx0 okPr (jce okPr qyx) (fun k l h=>qab (qzs q1h (by kernel_rfl) k l h))) q1p
end Go.Z
