/- Chapter 4. -/
import Derived.Test.YtnjngdcbkkonnaaGreatDoorZL
import Derived.Test.YtnjngdcbkkonnaaGreatDoorA1
import Derived.Test.YtnjngdcbkkonnaaGreatDoorPB
import Derived.Test.YtnjngdcbkkonnaaGreatDoorZWI
set_option linter.unusedVariables false
set_option linter.unusedSimpArgs false
set_option maxRecDepth 100000
set_option maxHeartbeats 4000000
namespace Go.Z
open Go Go.Abs
theorem N23 {a0:Option (List qg)} {r} (h:f23 a0=some r):qd prE (X prE) 23 [sl 8 qq a0]=some (.int .i64 r,false):=atE rfl rfl (W23 h) rfl
noncomputable def qf0 (a0:Option (List Int)) (s0:(Option (List (List UInt8))) × Int × Bool):Option (((Option (List (List UInt8))) × Int × Bool) ⊕ (((Option (List (List UInt8))) × Bool × Int))):=
 cond (decide (s0.2.1 < ((a0.getD []).length:Int)))
  (qi (zz (a0.getD []) s0.2.1) fun v18=>
  qi (qrm v18) fun v20=>
  cond s0.2.2
   (qi (apO s0.1 [v20]) fun v23=>
   some (.inl (v23,qk .i64 (s0.2.1 + 1),true)))
   (cond s0.1.isNone
    (qi (apO s0.1 [v20]) fun v26=>
    some (.inl (v26,qk .i64 (s0.2.1 + 1),true)))
    (none)))
  (some (.inr (s0.1,s0.2.2,s0.2.1)))
def qio (a0:Option (List Int)) (s0:(Option (List (List UInt8))) × Int × Bool):ASt:=⟨[(1,.fn (.func 148) [] [],false),(5,sl 1 zi s0.1,s0.2.2),(8,sl 1 jr a0,false),(9,.int .i64 ((a0.getD []).length:Int),false),(10,.int .i64 s0.2.1,false)],[]⟩
def qol (a0:Option (List Int)) (d:((Option (List (List UInt8))) × Bool × Int)):jg × ASt:=(.exit 0,⟨[(1,.fn (.func 148) [] [],false),(5,sl 1 zi d.1,d.2.1),(8,sl 1 jr a0,false),(9,.int .i64 ((a0.getD []).length:Int),false),(10,.int .i64 d.2.2,false),(11,.bool false,false)],[]⟩)
theorem q59 (a0:Option (List Int)) (s0:(Option (List (List UInt8))) × Int × Bool) (r) (h:qf0 a0 s0=some r):z6 prE qfx (qio a0) (qol a0) s0 r:=by
 unfold qf0 at h
 rcases qa h with ⟨h17,h⟩ | ⟨h17,h⟩
 ·obtain ⟨v18,h19,h⟩:=qb h
  obtain ⟨v20,h21,h⟩:=qb h
  rcases qa h with ⟨h22,h⟩ | ⟨h22,h⟩
  ·obtain ⟨v23,h24,h⟩:=qb h
   cases h
   exact qr (st':=⟨[(1,.fn (.func 148) [] [],false),(5,sl 1 zi v23,true),(8,sl 1 jr a0,false),(9,.int .i64 ((a0.getD []).length:Int),false),(10,.int .i64 (qk .i64 (s0.2.1 + 1)),false)],[]⟩) (by simp only [go_sem,seval,qfx,qio,h17,jj h19,q7v h21,h22,qi3 h24] <;> rfl) (qz (Nat.le_refl _))
  ·rcases qa h with ⟨h25,h⟩ | ⟨h25,h⟩
   ·obtain ⟨v26,h27,h⟩:=qb h
    cases h
    exact qr (st':=⟨[(1,.fn (.func 148) [] [],false),(5,sl 1 zi v26,true),(8,sl 1 jr a0,false),(9,.int .i64 ((a0.getD []).length:Int),false),(10,.int .i64 (qk .i64 (s0.2.1 + 1)),false)],[]⟩) (by simp only [go_sem,seval,qfx,qio,h17,jj h19,q7v h21,h22,h25,qjq h27 h25] <;> rfl) (qz (Nat.le_refl _))
   ·cases h
 ·cases h
  exact qm (by simp only [go_sem,seval,qfx,qio,h17,qol] <;> rfl)
theorem q7p (a0:Option (List Int)) {s0:(Option (List (List UInt8))) × Int × Bool} {d} (h:itO (qf0 a0) s0=some d):X prE (.loop qfx) (qio a0 s0)=some (qol a0 d):=yp (q59 a0) (fun d hh=>by cases hh) h
noncomputable def f147 (a0:Option (List Int)):Option ((Option (List (List UInt8))) × Bool):=
 qi (itO (qf0 a0) (none,0,false)) fun d28=>
 some (d28.1,d28.2.1)
theorem jis {a0:Option (List Int)} {r} (h:f147 a0=some r):qd prE (X prE) 147 [sl 1 jr a0,.fn (.func 148) [] []]=some (sl 1 zi r.1,r.2):=by
 unfold f147 at h
 obtain ⟨d28,h29,h⟩:=qb h
 have wh29:X prE (.loop qfx) ⟨[(1,.fn (.func 148) [] [],false),(5,.list true 0 [],false),(8,sl 1 jr a0,false),(9,.int .i64 ((a0.getD []).length:Int),false),(10,.int .i64 0,false)],[]⟩=some (.exit 0,⟨[(1,.fn (.func 148) [] [],false),(5,sl 1 zi d28.1,d28.2.1),(8,sl 1 jr a0,false),(9,.int .i64 ((a0.getD []).length:Int),false),(10,.int .i64 d28.2.2,false),(11,.bool false,false)],[]⟩):=q7p a0 h29
 have hr:(d28.1,d28.2.1)=r:=Option.some.inj h
 subst hr
 have this:∃ hh,jc prE (X prE) 147 [sl 1 jr a0,.fn (.func 148) [] []] []=some (sl 1 zi d28.1,d28.2.1,hh):=by
  rw [qj (show prE.fns 147=some c147 from rfl) (by simp)]
  simp only [go_sem,seval,c147,wh29]
  exact ⟨_,rfl⟩
 obtain ⟨hh,this⟩:=this
 exact zr rfl this (by first | rfl | simp only [go_sem,seval]) (by first | rfl | simp only [go_sem,seval]) (by first | rfl | simp only [go_sem,seval])
noncomputable def qdb (a0:Option (List qg)) (s0:Int × (List UInt8)):Option ((Int × (List UInt8)) ⊕ ((Int × (List UInt8)))):=
 cond (decide (s0.1 < ((a0.getD []).length:Int)))
  (qi (zz (a0.getD []) s0.1) fun v31=>
  qi (f147 (some [v31.pa,v31.pb,v31.sa,v31.sb,v31.cost,v31.stock])) fun v33=>
  qi (apO (some [v31.name,v31.kd]) (v33.1.getD [])) fun v35=>
  qi (qq6 v35 ([32]:List UInt8)) fun v37=>
  qi (qtm v37 ([10]:List UInt8)) fun v39=>
  qi (qof s0.2 v39) fun v41=>
  some (.inl (qk .i64 (s0.1 + 1),v41)))
  (some (.inr (s0.1,s0.2)))
def qh5 (a0:Option (List qg)) (s0:Int × (List UInt8)):ASt:=⟨[(5,.ptr 0 0,false),(14,sl 8 qq a0,false),(15,.int .i64 ((a0.getD []).length:Int),false),(16,.int .i64 s0.1,false)],[.bld 226 5 s0.2]⟩
def qs3 (a0:Option (List qg)) (d:(Int × (List UInt8))):jg × ASt:=(.exit 0,⟨[(5,.ptr 0 0,false),(14,sl 8 qq a0,false),(15,.int .i64 ((a0.getD []).length:Int),false),(16,.int .i64 d.1,false),(17,.bool false,false)],[.bld 226 5 d.2]⟩)
theorem jc2 (a0:Option (List qg)) (s0:Int × (List UInt8)) (r) (h:qdb a0 s0=some r):z6 prE qld (qh5 a0) (qs3 a0) s0 r:=by
 unfold qdb at h
 rcases qa h with ⟨h30,h⟩ | ⟨h30,h⟩
 ·obtain ⟨v31,h32,h⟩:=qb h
  obtain ⟨v33,h34,h⟩:=qb h
  have wh34:qd prE (X prE) 147 [.list false 1 [.int .i64 v31.pa,.int .i64 v31.pb,.int .i64 v31.sa,.int .i64 v31.sb,.int .i64 v31.cost,.int .i64 v31.stock],.fn (.func 148) [] []]=some (sl 1 zi v33.1,v33.2):=jis h34
  obtain ⟨v35,h36,h⟩:=qb h
  obtain ⟨v37,h38,h⟩:=qb h
  have wh38:qd prE (X prE) 146 [sl 1 zi v35,.str ([32]:List UInt8)]=some (.str v37,false):=jkk h38
  obtain ⟨v39,h40,h⟩:=qb h
  obtain ⟨v41,h42,h⟩:=qb h
  have wh42:jc prE (X prE) 145 [.ptr 0 0,.str v39] [.bld 226 5 s0.2,.cells [(.str v31.name,false),(.str v31.kd,false),(.int .i64 v31.pa,false),(.int .i64 v31.pb,false),(.int .i64 v31.sa,false),(.int .i64 v31.sb,false),(.int .i64 v31.cost,false),(.int .i64 v31.stock,false)]]=some (.tup [.int .i64 (v39.length:Int),.any],false,[.bld 226 5 v41,.cells [(.str v31.name,false),(.str v31.kd,false),(.int .i64 v31.pa,false),(.int .i64 v31.pb,false),(.int .i64 v31.sa,false),(.int .i64 v31.sb,false),(.int .i64 v31.cost,false),(.int .i64 v31.stock,false)]]):=jik rfl h42
  cases h
  exact qr (st':=⟨[(5,.ptr 0 0,false),(14,sl 8 qq a0,false),(15,.int .i64 ((a0.getD []).length:Int),false),(16,.int .i64 (qk .i64 (s0.1 + 1)),false)],[.bld 226 5 v41]++[.cells [(.str v31.name,false),(.str v31.kd,false),(.int .i64 v31.pa,false),(.int .i64 v31.pb,false),(.int .i64 v31.sa,false),(.int .i64 v31.sb,false),(.int .i64 v31.cost,false),(.int .i64 v31.stock,false)]]⟩) (by simp only [go_sem,seval,qld,qh5,h30,jj h32,wh34,(show ∀ (b t:Nat) (hq:qh),appR 1 b hq (some t) (some (.list false 1 [.str v31.name,.str v31.kd])) (some (sl 1 zi v33.1))=ifR (decide (b≤4096)) (some ⟨sl 1 zi v35,true,some t,hq⟩) from fun _ _ _=>q12 (o:=some [v31.name,v31.kd]) h36),wh38,q3y h40,wh42] <;> rfl) (kz rfl rfl (by first | simp only [go_sem,seval,qh5] | rfl) (by first | simp only [go_sem,seval,qh5] | rfl))
 ·cases h
  exact qm (by simp only [go_sem,seval,qld,qh5,h30,qs3] <;> rfl)
theorem jda (a0:Option (List qg)) {s0:Int × (List UInt8)} {d} (h:itO (qdb a0) s0=some d):X prE (.loop qld) (qh5 a0 s0)=some (qs3 a0 d):=yp (jc2 a0) (fun d hh=>by cases hh) h
noncomputable def f92 (a0:Option (List qg)):Option ((List UInt8) × Int):=
 qi (f23 a0) fun v1=>
 cond (decide (v1=0))
  (qi (itO (qdb a0) (0,[])) fun d43=>
  qi (some d43.2) fun v45=>
  some (v45,0))
  (some ([],v1))
theorem W92 {a0:Option (List qg)} {r} (h:f92 a0=some r):qd prE (X prE) 92 [sl 8 qq a0]=some (.tup [.str r.1,.int .i64 r.2],false):=by
 unfold f92 at h
 obtain ⟨v1,h2,h⟩:=qb h
 rcases qa h with ⟨h3,h⟩ | ⟨h3,h⟩
 ·obtain ⟨d43,h44,h⟩:=qb h
  have wh44:X prE (.loop qld) ⟨[(5,.ptr 0 0,false),(14,sl 8 qq a0,false),(15,.int .i64 ((a0.getD []).length:Int),false),(16,.int .i64 0,false)],[.bld 226 5 []]⟩=some (.exit 0,⟨[(5,.ptr 0 0,false),(14,sl 8 qq a0,false),(15,.int .i64 ((a0.getD []).length:Int),false),(16,.int .i64 d43.1,false),(17,.bool false,false)],[.bld 226 5 d43.2]⟩):=jda a0 h44
  obtain ⟨v45,h46,h⟩:=qb h
  have wh46:jc prE (X prE) 149 [.ptr 0 0] [.bld 226 5 d43.2]=some (.str v45,false,[.dead]):=jjn rfl h46
  have hr:(v45,0)=r:=Option.some.inj h
  subst hr
  refine jn rfl ?_ (fun _=>by first | rfl | simp only [go_sem,seval]) (by first | rfl | simp only [go_sem,seval])
  rw [qj (show prE.fns 92=some c92 from rfl) (by simp)]
  simp only [go_sem,seval,c92,N23 h2,h3,wh44,wh46]
  exact ⟨_,rfl⟩
 ·have hr:([],v1)=r:=Option.some.inj h
  subst hr
  refine jn rfl ?_ (fun _=>by first | rfl | simp only [go_sem,seval]) (by first | rfl | simp only [go_sem,seval])
  rw [qj (show prE.fns 92=some c92 from rfl) (by simp)]
  simp only [go_sem,seval,c92,N23 h2,h3]
  exact ⟨_,rfl⟩
end Go.Z
namespace Go.Z
open Go Go.Abs Go.Proofs
theorem kl {u:Nat} (h:u < 10):Lib.decDigits u=[UInt8.ofNat (48 + u)]:=by rw [Lib.decDigits,dif_pos h]
theorem qvg {l:List Int} (hl:l.length≤1073741824) (hr:∀ x∈l,-9223372036854775808≤x∧x≤9223372036854775807):f147 (some l)=some (j5 (l.map Lib.itoa),qaf (l.map Lib.itoa)):=by
 unfold f147
 rw [qlm l (qf0 (some l)) Lib.itoa hl (fun a=>by unfold qf0; simp only [Option.getD_some]; rw [yu]; rfl) (fun i x a hx hi ha=>by
  unfold qf0
  simp only [Option.getD_some]
  rw [ko hi,cond_true,yn hx,ql,show qrm x=some (Lib.itoa x) from qhy (hr x (List.mem_of_getElem? hx)),ql,qcw ha,zx hi (by omega)]),ql]
theorem qyk:∀ (t:List (Nat × List Row)),(t.all fun p=>(tree.find p.1).isSome)=true→∀ k l,qfq t k=some l→(tree.find k).isSome=true
 | (j,m)::t,h,k,l,hk=>by
  simp only [List.all_cons,Bool.and_eq_true] at h
  simp only [qfq,Bool.cond_eq_ite] at hk
  split at hk
  ·next hb=>rw [← Nat.eq_of_beq_eq_true hb]; exact h.1
  ·exact qyk t h.2 k l hk
def cPart:qg:=⟨[99],[115,104,117,110,116],0,1,0,0,5,1⟩
theorem jdv:f92 (some [cPart])=some ([99,32,115,104,117,110,116,32,48,32,49,32,48,32,48,32,53,32,49,10],0):=by
 have h23:f23 (some [cPart])=some 0:=by
  rw [qs6]
  exact congrArg some (by decide +kernel)
 have i0:Lib.itoa 0=[48]:=by show Lib.decDigits 0=_; rw [kl (by decide)]; rfl
 have i1:Lib.itoa 1=[49]:=by show Lib.decDigits 1=_; rw [kl (by decide)]; rfl
 have i5:Lib.itoa 5=[53]:=by show Lib.decDigits 5=_; rw [kl (by decide)]; rfl
 have h147:f147 (some [0,1,0,0,5,1])=some (some [[48],[49],[48],[48],[53],[49]],true):=by
  rw [qvg (by decide) (by decide)]
  simp only [List.map_cons,List.map_nil,i0,i1,i5]
  rfl
 have s0:qdb (some [cPart]) (0,[])=some (.inl (1,[99,32,115,104,117,110,116,32,48,32,49,32,48,32,48,32,53,32,49,10])):=by
  unfold qdb
  have e0:zz ((some [cPart]).getD []) 0=some cPart:=rfl
  show cond true (qi (zz ((some [cPart]).getD []) 0) _) _=_
  rw [cond_true,e0,ql]
  show qi (f147 (some [0,1,0,0,5,1])) _=_
  rw [h147,ql]
  have ea:apO (some [cPart.name,cPart.kd]) ((some [[48],[49],[48],[48],[53],[49]]).getD [])=some (some [[99],[115,104,117,110,116],[48],[49],[48],[48],[53],[49]]):=rfl
  rw [ea,ql]
  have ej:qq6 (some [[99],[115,104,117,110,116],[48],[49],[48],[48],[53],[49]]) [32]=some [99,32,115,104,117,110,116,32,48,32,49,32,48,32,48,32,53,32,49]:=by
   show qkk _ _=_
   exact (qhy (by decide)).trans (congrArg some (by decide))
  rw [ej,ql]
  rfl
 have s1:qdb (some [cPart]) (1,[99,32,115,104,117,110,116,32,48,32,49,32,48,32,48,32,53,32,49,10])=some (.inr (1,[99,32,115,104,117,110,116,32,48,32,49,32,48,32,48,32,53,32,49,10])):=rfl
 unfold f92
 rw [h23,ql]
 show cond true _ _=_
 rw [cond_true,qed s0,qat s1]
 rfl
theorem qy8:zj Tryz.prog 92 [(.list false 8 [(.agg [(.str [99]),(.str [115,104,117,110,116]),(.int .i64 0),(.int .i64 1),(.int .i64 0),(.int .i64 0),(.int .i64 5),(.int .i64 1)])])] (.tup [(.str [99,32,115,104,117,110,116,32,48,32,49,32,48,32,48,32,53,32,49,10]),(.int .i64 0)]) false:=
 qmk okE (W92 jdv) rfl
theorem qyo:zj Tryz.prog 16 [] (.bool true) false:=
 j8 (qv4 okPr (jcv okPr qy8) (fun k l h=>qaa (qyk q18 (by kernel_rfl) k l h))) q1c
end Go.Z
