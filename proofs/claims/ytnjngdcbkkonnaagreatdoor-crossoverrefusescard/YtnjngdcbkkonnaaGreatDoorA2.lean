/- Chapter 4. -/
import Derived.Test.YtnjngdcbkkonnaaGreatDoorZL
import Derived.Test.YtnjngdcbkkonnaaGreatDoorA1
import Derived.Test.YtnjngdcbkkonnaaGreatDoorPB
import Derived.Test.YtnjngdcbkkonnaaGreatDoorZWI
set_option linter.unusedVariables false
set_option linter.unusedSimpArgs false
set_option maxRecDepth 100000
set_option maxHeartbeats 4000000
noncomputable section
namespace Go.Z
open Go Go.Abs
theorem N23 {a0:TP}{r}(h:f23 a0=some r):j7 prE (X prE) 23 [sl 8 zi a0]=some (Iv r,false):=atE rfl rfl (W23 h) rfl
def qmc (a0:TI)(s0:(Option (List (List UInt8)))×Int×Bool):Option (((Option (List (List UInt8)))×Int×Bool)⊕(((Option (List (List UInt8)))×Bool×Int))):=
 cond (decide (s0.2.1<((a0.getD []).length:Int)))
  (j5 (yd (a0.getD []) s0.2.1) fun v18=>
  j5 (q2m v18) fun v20=>
  cond s0.2.2
   (j5 (apO s0.1 [v20]) fun v23=>
   some (.inl (v23,za .i64 (s0.2.1+1),true)))
   (cond s0.1.isNone
    (j5 (apO s0.1 [v20]) fun v26=>
    some (.inl (v26,za .i64 (s0.2.1+1),true)))
    (none)))
  (some (.inr (s0.1,s0.2.2,s0.2.1)))
def qky (a0:TI)(s0:(Option (List (List UInt8)))×Int×Bool):qc:=⟨[(1,.fn (.func 148) [] [],false),(5,sl 1 qd1 s0.1,s0.2.2),(8,sl 1 zh a0,false),(9,Lv a0,false),(10,Iv s0.2.1,false)],[]⟩
def qto (a0:TI)(d:((Option (List (List UInt8)))×Bool×Int)):qi×qc:=(.exit 0,⟨[(1,.fn (.func 148) [] [],false),(5,sl 1 qd1 d.1,d.2.1),(8,sl 1 zh a0,false),(9,Lv a0,false),(10,Iv d.2.2,false),(11,.bool false,false)],[]⟩)
theorem jnk (a0:TI)(s0:(Option (List (List UInt8)))×Int×Bool)(r)(h:qmc a0 s0=some r):yh prE qol (qky a0) (qto a0) s0 r:=by
 unfold qmc at h
 rcases j0 h with⟨h17,h⟩|⟨h17,h⟩
 ·obtain⟨v18,h19,h⟩:=jz h
  obtain⟨v20,h21,h⟩:=jz h
  rcases j0 h with⟨h22,h⟩|⟨h22,h⟩
  ·obtain⟨v23,h24,h⟩:=jz h
   cases h
   exact zp (by simp only[go_sem,seval,qol,qky,h17,zf h19,jlo h21,h22,q8v h24]<;>rfl)
  rcases j0 h with⟨h25,h⟩|⟨h25,h⟩
  ·obtain⟨v26,h27,h⟩:=jz h
   cases h
   exact zp (by simp only[go_sem,seval,qol,qky,h17,zf h19,jlo h21,h22,h25,q8d h27 h25]<;>rfl)
  cases h
 cases h
 exact j8 (by simp only[go_sem,seval,qol,qky,h17,qto]<;>rfl)
theorem jme (a0:TI){s0:(Option (List (List UInt8)))×Int×Bool}{d}(h:itO (qmc a0) s0=some d):X prE (.loop qol) (qky a0 s0)=some (qto a0 d):=yo (jnk a0) (fun d hh=>by cases hh) h
def f147 (a0:TI):Option ((Option (List (List UInt8)))×Bool):=
 j5 (itO (qmc a0) (none,0,false)) fun d28=>
 some (d28.1,d28.2.1)
theorem j2o {a0:TI}{r}(h:f147 a0=some r):j7 prE (X prE) 147 [sl 1 zh a0,.fn (.func 148) [] []]=some (sl 1 qd1 r.1,r.2):=by
 unfold f147 at h
 obtain⟨d28,h29,h⟩:=jz h
 have wh29:=jme a0 h29
 dsimp only[qky,qto,qc9]at wh29
 obtain rfl:=oi h
 refine qcb c147 ?_
 simp only[go_sem,seval,c147,wh29]
 exact⟨_,rfl⟩
def qp1 (a0:TP)(s0:Int×(List UInt8)):Option ((Int×(List UInt8))⊕((Int×(List UInt8)))):=
 cond (decide (s0.1<((a0.getD []).length:Int)))
  (j5 (yd (a0.getD []) s0.1) fun v31=>
  j5 (f147 (some [v31.pa,v31.pb,v31.sa,v31.sb,v31.cost,v31.stock])) fun v33=>
  j5 (apO (some [v31.name,v31.kd]) (v33.1.getD [])) fun v35=>
  j5 (q8t v35 ([32]:List UInt8)) fun v37=>
  j5 (jc4 v37 ([10]:List UInt8)) fun v39=>
  j5 (q77 s0.2 v39) fun v41=>
  some (.inl (za .i64 (s0.1+1),v41)))
  (some (.inr (s0.1,s0.2)))
def qlj (a0:TP)(s0:Int×(List UInt8)):qc:=⟨[(5,.ptr 0 0,false),(14,sl 8 zi a0,false),(15,Lv a0,false),(16,Iv s0.1,false)],[.bld 226 5 s0.2]⟩
def qxl (a0:TP)(d:(Int×(List UInt8))):qi×qc:=(.exit 0,⟨[(5,.ptr 0 0,false),(14,sl 8 zi a0,false),(15,Lv a0,false),(16,Iv d.1,false),(17,.bool false,false)],[.bld 226 5 d.2]⟩)
theorem jsb (a0:TP)(s0:Int×(List UInt8))(r)(h:qp1 a0 s0=some r):yh prE qxr (qlj a0) (qxl a0) s0 r:=by
 unfold qp1 at h
 rcases j0 h with⟨h30,h⟩|⟨h30,h⟩
 ·obtain⟨v31,h32,h⟩:=jz h
  obtain⟨v33,h34,h⟩:=jz h
  have wh34:j7 prE (X prE) 147 [.list false 1 [Iv v31.pa,Iv v31.pb,Iv v31.sa,Iv v31.sb,Iv v31.cost,Iv v31.stock],.fn (.func 148) [] []]=some (sl 1 qd1 v33.1,v33.2):=j2o h34
  obtain⟨v35,h36,h⟩:=jz h
  obtain⟨v37,h38,h⟩:=jz h
  have wh38:=jzy h38
  obtain⟨v39,h40,h⟩:=jz h
  obtain⟨v41,h42,h⟩:=jz h
  have wh42:yk prE (X prE) 145 [.ptr 0 0,.str v39] [.bld 226 5 s0.2,.cells [(.str v31.name,false),(.str v31.kd,false),(Iv v31.pa,false),(Iv v31.pb,false),(Iv v31.sa,false),(Iv v31.sb,false),(Iv v31.cost,false),(Iv v31.stock,false)]]=some (.tup [Iv (v39.length:Int),.any],false,[.bld 226 5 v41,.cells [(.str v31.name,false),(.str v31.kd,false),(Iv v31.pa,false),(Iv v31.pb,false),(Iv v31.sa,false),(Iv v31.sb,false),(Iv v31.cost,false),(Iv v31.stock,false)]]):=j2p rfl h42
  cases h
  exact ko (by simp only[go_sem,seval,qxr,qlj,h30,zf h32,wh34,(show ∀(b t:Nat) (hq:zd),appR 1 b hq (some t) (some (.list false 1 [.str v31.name,.str v31.kd])) (some (sl 1 qd1 v33.1))=ifR (decide (b≤4096)) (some ⟨sl 1 qd1 v35,true,some t,hq⟩)from fun _ _ _=>qp9 (o:=some [v31.name,v31.kd]) h36),wh38,jgy h40,wh42];exact⟨_,rfl⟩) rfl (by first|simp only[go_sem,seval,qlj]|rfl) (by first|simp only[go_sem,seval,qlj]|rfl)
 cases h
 exact j8 (by simp only[go_sem,seval,qxr,qlj,h30,qxl]<;>rfl)
theorem jt3 (a0:TP){s0:Int×(List UInt8)}{d}(h:itO (qp1 a0) s0=some d):X prE (.loop qxr) (qlj a0 s0)=some (qxl a0 d):=yo (jsb a0) (fun d hh=>by cases hh) h
def f92 (a0:TP):Option ((List UInt8)×Int):=
 j5 (f23 a0) fun v1=>
 cond (decide (v1=0))
  (j5 (itO (qp1 a0) (0,[])) fun d43=>
  j5 (some d43.2) fun v45=>
  some (v45,0))
  (some ([],v1))
theorem W92 {a0:TP}{r}(h:f92 a0=some r):j7 prE (X prE) 92 [sl 8 zi a0]=some (.tup [.str r.1,Iv r.2],false):=by
 unfold f92 at h
 obtain⟨v1,h2,h⟩:=jz h
 rcases j0 h with⟨h3,h⟩|⟨h3,h⟩
 ·obtain⟨d43,h44,h⟩:=jz h
  have wh44:=jt3 a0 h44
  dsimp only[qlj,qxl]at wh44
  obtain⟨v45,h46,h⟩:=jz h
  have wh46:yk prE (X prE) 149 [.ptr 0 0] [.bld 226 5 d43.2]=some (.str v45,false,[.dead]):=jzp rfl h46
  obtain rfl:=oi h
  refine zg c92 ?_
  simp only[go_sem,seval,c92,N23 h2,h3,wh44,wh46]
  exact⟨_,rfl⟩
 obtain rfl:=oi h
 refine zg c92 ?_
 simp only[go_sem,seval,c92,N23 h2,h3]
 exact⟨_,rfl⟩
end Go.Z
namespace Go.Z
open Go Go.Abs Go.Proofs
theorem qr8 {u:Nat}(h:u<10):Lib.decDigits u=[UInt8.ofNat (48+u)]:=by rw[Lib.decDigits,dif_pos h]
theorem jhl {l:List Int}(hl:l.length≤1073741824)(hr:∀x∈l,-9223372036854775808≤x∧x≤9223372036854775807):f147 (some l)=some (zb (l.map Lib.itoa),kh (l.map Lib.itoa)):=by
 unfold f147
 rw[qgn l (qmc (some l)) Lib.itoa hl (fun a=>by unfold qmc;simp only[Option.getD_some];rw[yu];rfl) (fun i x a hx hi ha=>by
  unfold qmc
  simp only[Option.getD_some]
  rw[kc hi,cT,yn hx,j6,show q2m x=some (Lib.itoa x)from jar (hr x (List.mem_of_getElem? hx)),j6,qbk ha,yb hi (by omega)]),j6]
theorem jbs:∀ (t:List (Nat×List Row)),(t.all fun p=>(tree.find p.1).isSome)=true→∀k l,qku t k=some l→(tree.find k).isSome=true
 |(j,m)::t,h,k,l,hk=>by
  simp only[List.all_cons,Bool.and_eq_true]at h
  simp only[qku,Bool.cond_eq_ite]at hk
  split at hk
  ·next hb=>rw[←Nat.eq_of_beq_eq_true hb];exact h.1
  ·exact jbs t h.2 k l hk
def cPart:qb:=⟨[99],[115,104,117,110,116],0,1,0,0,5,1⟩
theorem jwn:f92 (some [cPart])=some ([99,32,115,104,117,110,116,32,48,32,49,32,48,32,48,32,53,32,49,10],0):=by
 have h23:f23 (some [cPart])=some 0:=by
  rw[ja3]
  exact congrArg some (by decide +kernel)
 have i0:Lib.itoa 0=[48]:=by show Lib.decDigits 0=_;rw[qr8 (by decide)];rfl
 have i1:Lib.itoa 1=[49]:=by show Lib.decDigits 1=_;rw[qr8 (by decide)];rfl
 have i5:Lib.itoa 5=[53]:=by show Lib.decDigits 5=_;rw[qr8 (by decide)];rfl
 have h147:f147 (some [0,1,0,0,5,1])=some (some [[48],[49],[48],[48],[53],[49]],true):=by
  rw[jhl (by decide) (by decide)]
  simp only[List.map_cons,List.map_nil,i0,i1,i5]
  rfl
 have s0:qp1 (some [cPart]) (0,[])=some (.inl (1,[99,32,115,104,117,110,116,32,48,32,49,32,48,32,48,32,53,32,49,10])):=by
  unfold qp1
  have e0:yd ((some [cPart]).getD []) 0=some cPart:=rfl
  show cond true (j5 (yd ((some [cPart]).getD []) 0) _) _=_
  rw[cT,e0,j6]
  show j5 (f147 (some [0,1,0,0,5,1])) _=_
  rw[h147,j6]
  have ea:apO (some [cPart.name,cPart.kd]) ((some [[48],[49],[48],[48],[53],[49]]).getD [])=some (some [[99],[115,104,117,110,116],[48],[49],[48],[48],[53],[49]]):=rfl
  rw[ea,j6]
  have ej:q8t (some [[99],[115,104,117,110,116],[48],[49],[48],[48],[53],[49]]) [32]=some [99,32,115,104,117,110,116,32,48,32,49,32,48,32,48,32,53,32,49]:=by
   show qzo _ _=_
   exact(jar (by decide)).trans (congrArg some (by decide))
  rw[ej,j6]
  rfl
 have s1:qp1 (some [cPart]) (1,[99,32,115,104,117,110,116,32,48,32,49,32,48,32,48,32,53,32,49,10])=some (.inr (1,[99,32,115,104,117,110,116,32,48,32,49,32,48,32,48,32,53,32,49,10])):=rfl
 unfold f92
 rw[h23,j6]
 show cond true _ _=_
 rw[cT,qbi s0,qab s1]
 rfl
theorem jb9:qa3 Tryz.prog 92 [(.list false 8 [(.agg [(.str [99]),(.str [115,104,117,110,116]),(.int .i64 0),(.int .i64 1),(.int .i64 0),(.int .i64 0),(.int .i64 5),(.int .i64 1)])])] (.tup [(.str [99,32,115,104,117,110,116,32,48,32,49,32,48,32,48,32,53,32,49,10]),(.int .i64 0)]) false:=
 qvy okE (W92 jwn) rfl
theorem q98:qa3 Tryz.prog 16 [] (.bool true) false:=
 qad (q70 okPr (jqq okPr jb9) (fun k l h=>qcw (jbs jdb (by kernel_rfl) k l h))) jdk
end Go.Z
end
