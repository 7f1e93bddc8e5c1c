/- Chapter 4. -/
import Derived.Test.YtnjngdcbkkonnaaGreatDoorZL
import Derived.Test.YtnjngdcbkkonnaaGreatDoorA1
import Derived.Test.YtnjngdcbkkonnaaGreatDoorPB
import Derived.Test.YtnjngdcbkkonnaaGreatDoorZWI
set_option linter.unusedVariables false
set_option linter.unusedSimpArgs false
set_option maxRecDepth 100000
set_option maxHeartbeats 4000000
noncomputable section
namespace Go.Z
open Go Go.Abs
theorem N23 {a0:TP}{r}(h:f23 a0=some r):zb prE (X prE) 23 [sl 8 zd a0]=some (Iv r,false):=atE rfl rfl (W23 h) rfl
def qln (a0:TI)(s0:(Option (List (List UInt8)))×Int×Bool):Option (((Option (List (List UInt8)))×Int×Bool)⊕(((Option (List (List UInt8)))×Bool×Int))):=
 cond (decide (s0.2.1<((a0.getD []).length:Int)))
  (j5 (yo (a0.getD []) s0.2.1) fun v18=>
  j5 (q4u v18) fun v20=>
  cond s0.2.2
   (j5 (apO s0.1 [v20]) fun v23=>
   some (.inl (v23,j9 .i64 (s0.2.1+1),true)))
   (cond s0.1.isNone
    (j5 (apO s0.1 [v20]) fun v26=>
    some (.inl (v26,j9 .i64 (s0.2.1+1),true)))
    (none)))
  (some (.inr (s0.1,s0.2.2,s0.2.1)))
def qk4 (a0:TI)(s0:(Option (List (List UInt8)))×Int×Bool):qd:=⟨[(1,.fn (.func 148) [] [],false),(5,sl 1 qdz s0.1,s0.2.2),(8,sl 1 zg a0,false),(9,Lv a0,false),(10,Iv s0.2.1,false)],[]⟩
def qtq (a0:TI)(d:((Option (List (List UInt8)))×Bool×Int)):qj×qd:=(.exit 0,⟨[(1,.fn (.func 148) [] [],false),(5,sl 1 qdz d.1,d.2.1),(8,sl 1 zg a0,false),(9,Lv a0,false),(10,Iv d.2.2,false),(11,.bool false,false)],[]⟩)
theorem jn4 (a0:TI)(s0:(Option (List (List UInt8)))×Int×Bool)(r)(h:qln a0 s0=some r):yt prE qpc (qk4 a0) (qtq a0) s0 r:=by
 unfold qln at h
 rcases j4 h with⟨h17,h⟩|⟨h17,h⟩
 ·obtain⟨v18,h19,h⟩:=j0 h
  obtain⟨v20,h21,h⟩:=j0 h
  rcases j4 h with⟨h22,h⟩|⟨h22,h⟩
  ·obtain⟨v23,h24,h⟩:=j0 h
   cases h
   exact zq (by simp only[go_sem,seval,qpc,qk4,h17,zm h19,jpf h21,h22,q8m h24]<;>rfl)
  rcases j4 h with⟨h25,h⟩|⟨h25,h⟩
  ·obtain⟨v26,h27,h⟩:=j0 h
   cases h
   exact zq (by simp only[go_sem,seval,qpc,qk4,h17,zm h19,jpf h21,h22,h25,q78 h27 h25]<;>rfl)
  cases h
 cases h
 exact zc (by simp only[go_sem,seval,qpc,qk4,h17,qtq]<;>rfl)
theorem jmo (a0:TI){s0:(Option (List (List UInt8)))×Int×Bool}{d}(h:itO (qln a0) s0=some d):X prE (.loop qpc) (qk4 a0 s0)=some (qtq a0 d):=kg (jn4 a0) (fun d hh=>by cases hh) h
def f147 (a0:TI):Option ((Option (List (List UInt8)))×Bool):=
 j5 (itO (qln a0) (none,0,false)) fun d28=>
 some (d28.1,d28.2.1)
theorem jz1 {a0:TI}{r}(h:f147 a0=some r):zb prE (X prE) 147 [sl 1 zg a0,.fn (.func 148) [] []]=some (sl 1 qdz r.1,r.2):=by
 unfold f147 at h
 obtain⟨d28,h29,h⟩:=j0 h
 have wh29:=jmo a0 h29
 dsimp only[qk4,qtq,ql7]at wh29
 obtain rfl:=oi h
 refine qdm c147 ?_
 simp only[go_sem,seval,c147,wh29]
 exact⟨_,rfl⟩
def qp3 (a0:TP)(s0:Int×(List UInt8)):Option ((Int×(List UInt8))⊕((Int×(List UInt8)))):=
 cond (decide (s0.1<((a0.getD []).length:Int)))
  (j5 (yo (a0.getD []) s0.1) fun v31=>
  j5 (f147 (some [v31.pa,v31.pb,v31.sa,v31.sb,v31.cost,v31.stock])) fun v33=>
  j5 (apO (some [v31.name,v31.kd]) (v33.1.getD [])) fun v35=>
  j5 (q9y v35 ([32]:List UInt8)) fun v37=>
  j5 (jfu v37 ([10]:List UInt8)) fun v39=>
  j5 (q9b s0.2 v39) fun v41=>
  some (.inl (j9 .i64 (s0.1+1),v41)))
  (some (.inr (s0.1,s0.2)))
def qmd (a0:TP)(s0:Int×(List UInt8)):qd:=⟨[(5,.ptr 0 0,false),(14,sl 8 zd a0,false),(15,Lv a0,false),(16,Iv s0.1,false)],[.bld 226 5 s0.2]⟩
def qxa (a0:TP)(d:(Int×(List UInt8))):qj×qd:=(.exit 0,⟨[(5,.ptr 0 0,false),(14,sl 8 zd a0,false),(15,Lv a0,false),(16,Iv d.1,false),(17,.bool false,false)],[.bld 226 5 d.2]⟩)
theorem jvo (a0:TP)(s0:Int×(List UInt8))(r)(h:qp3 a0 s0=some r):yt prE qx0 (qmd a0) (qxa a0) s0 r:=by
 unfold qp3 at h
 rcases j4 h with⟨h30,h⟩|⟨h30,h⟩
 ·obtain⟨v31,h32,h⟩:=j0 h
  obtain⟨v33,h34,h⟩:=j0 h
  have wh34:zb prE (X prE) 147 [.list false 1 [Iv v31.pa,Iv v31.pb,Iv v31.sa,Iv v31.sb,Iv v31.cost,Iv v31.stock],.fn (.func 148) [] []]=some (sl 1 qdz v33.1,v33.2):=jz1 h34
  obtain⟨v35,h36,h⟩:=j0 h
  obtain⟨v37,h38,h⟩:=j0 h
  have wh38:=j0x h38
  obtain⟨v39,h40,h⟩:=j0 h
  obtain⟨v41,h42,h⟩:=j0 h
  have wh42:ye prE (X prE) 145 [.ptr 0 0,.str v39] [.bld 226 5 s0.2,.cells [(.str v31.name,false),(.str v31.kd,false),(Iv v31.pa,false),(Iv v31.pb,false),(Iv v31.sa,false),(Iv v31.sb,false),(Iv v31.cost,false),(Iv v31.stock,false)]]=some (.tup [Iv (v39.length:Int),.any],false,[.bld 226 5 v41,.cells [(.str v31.name,false),(.str v31.kd,false),(Iv v31.pa,false),(Iv v31.pb,false),(Iv v31.sa,false),(Iv v31.sb,false),(Iv v31.cost,false),(Iv v31.stock,false)]]):=j05 rfl h42
  cases h
  exact qag (by simp only[go_sem,seval,qx0,qmd,h30,zm h32,wh34,(show ∀(b t:Nat) (hq:ze),appR 1 b hq (some t) (some (.list false 1 [.str v31.name,.str v31.kd])) (some (sl 1 qdz v33.1))=ifR (decide (b≤4096)) (some ⟨sl 1 qdz v35,true,some t,hq⟩)from fun _ _ _=>qvz (o:=some [v31.name,v31.kd]) h36),wh38,jky h40,wh42];exact⟨_,rfl⟩) rfl (by first|simp only[go_sem,seval,qmd]|rfl) (by first|simp only[go_sem,seval,qmd]|rfl)
 cases h
 exact zc (by simp only[go_sem,seval,qx0,qmd,h30,qxa]<;>rfl)
theorem jvy (a0:TP){s0:Int×(List UInt8)}{d}(h:itO (qp3 a0) s0=some d):X prE (.loop qx0) (qmd a0 s0)=some (qxa a0 d):=kg (jvo a0) (fun d hh=>by cases hh) h
def f92 (a0:TP):Option ((List UInt8)×Int):=
 j5 (f23 a0) fun v1=>
 cond (decide (v1=0))
  (j5 (itO (qp3 a0) (0,[])) fun d43=>
  j5 (some d43.2) fun v45=>
  some (v45,0))
  (some ([],v1))
theorem W92 {a0:TP}{r}(h:f92 a0=some r):zb prE (X prE) 92 [sl 8 zd a0]=some (.tup [.str r.1,Iv r.2],false):=by
 unfold f92 at h
 obtain⟨v1,h2,h⟩:=j0 h
 rcases j4 h with⟨h3,h⟩|⟨h3,h⟩
 ·obtain⟨d43,h44,h⟩:=j0 h
  have wh44:=jvy a0 h44
  dsimp only[qmd,qxa]at wh44
  obtain⟨v45,h46,h⟩:=j0 h
  have wh46:ye prE (X prE) 149 [.ptr 0 0] [.bld 226 5 d43.2]=some (.str v45,false,[.dead]):=j4c rfl h46
  obtain rfl:=oi h
  refine zk c92 ?_
  simp only[go_sem,seval,c92,N23 h2,h3,wh44,wh46]
  exact⟨_,rfl⟩
 obtain rfl:=oi h
 refine zk c92 ?_
 simp only[go_sem,seval,c92,N23 h2,h3]
 exact⟨_,rfl⟩
end Go.Z
namespace Go.Z
open Go Go.Abs Go.Proofs
theorem qro {u:Nat}(h:u<10):Lib.decDigits u=[UInt8.ofNat (48+u)]:=by rw[Lib.decDigits,dif_pos h]
theorem jk0 {l:List Int}(hl:l.length≤1073741824)(hr:∀x∈l,-9223372036854775808≤x∧x≤9223372036854775807):f147 (some l)=some (za (l.map Lib.itoa),yx (l.map Lib.itoa)):=by
 unfold f147
 rw[qo4 l (qln (some l)) Lib.itoa hl (fun a=>by unfold qln;simp only[Option.getD_some];rw[kc];rfl) (fun i x a hx hi ha=>by
  unfold qln
  simp only[Option.getD_some]
  rw[kl hi,cT,y8 hx,j6,show q4u x=some (Lib.itoa x)from jav (hr x (List.mem_of_getElem? hx)),j6,qc3 ha,yg hi (by omega)]),j6]
theorem jb2:∀ (t:List (Nat×List Row)),(t.all fun p=>(tree.find p.1).isSome)=true→∀k l,qkt t k=some l→(tree.find k).isSome=true
 |(j,m)::t,h,k,l,hk=>by
  simp only[List.all_cons,Bool.and_eq_true]at h
  simp only[qkt,Bool.cond_eq_ite]at hk
  split at hk
  ·next hb=>rw[←Nat.eq_of_beq_eq_true hb];exact h.1
  ·exact jb2 t h.2 k l hk
def cPart:qb:=⟨[99],[115,104,117,110,116],0,1,0,0,5,1⟩
theorem jvu:f92 (some [cPart])=some ([99,32,115,104,117,110,116,32,48,32,49,32,48,32,48,32,53,32,49,10],0):=by
 have h23:f23 (some [cPart])=some 0:=by
  rw[qye]
  exact congrArg some (by decide +kernel)
 have i0:Lib.itoa 0=[48]:=by show Lib.decDigits 0=_;rw[qro (by decide)];rfl
 have i1:Lib.itoa 1=[49]:=by show Lib.decDigits 1=_;rw[qro (by decide)];rfl
 have i5:Lib.itoa 5=[53]:=by show Lib.decDigits 5=_;rw[qro (by decide)];rfl
 have h147:f147 (some [0,1,0,0,5,1])=some (some [[48],[49],[48],[48],[53],[49]],true):=by
  rw[jk0 (by decide) (by decide)]
  simp only[List.map_cons,List.map_nil,i0,i1,i5]
  rfl
 have s0:qp3 (some [cPart]) (0,[])=some (.inl (1,[99,32,115,104,117,110,116,32,48,32,49,32,48,32,48,32,53,32,49,10])):=by
  unfold qp3
  have e0:yo ((some [cPart]).getD []) 0=some cPart:=rfl
  show cond true (j5 (yo ((some [cPart]).getD []) 0) _) _=_
  rw[cT,e0,j6]
  show j5 (f147 (some [0,1,0,0,5,1])) _=_
  rw[h147,j6]
  have ea:apO (some [cPart.name,cPart.kd]) ((some [[48],[49],[48],[48],[53],[49]]).getD [])=some (some [[99],[115,104,117,110,116],[48],[49],[48],[48],[53],[49]]):=rfl
  rw[ea,j6]
  have ej:q9y (some [[99],[115,104,117,110,116],[48],[49],[48],[48],[53],[49]]) [32]=some [99,32,115,104,117,110,116,32,48,32,49,32,48,32,48,32,53,32,49]:=by
   show qzh _ _=_
   exact(jav (by decide)).trans (congrArg some (by decide))
  rw[ej,j6]
  rfl
 have s1:qp3 (some [cPart]) (1,[99,32,115,104,117,110,116,32,48,32,49,32,48,32,48,32,53,32,49,10])=some (.inr (1,[99,32,115,104,117,110,116,32,48,32,49,32,48,32,48,32,53,32,49,10])):=rfl
 unfold f92
 rw[h23,j6]
 show cond true _ _=_
 rw[cT,qbb s0,k9 s1]
 rfl
theorem jbx:qa6 Tryz.prog 92 [(.list false 8 [(.agg [(.str [99]),(.str [115,104,117,110,116]),(.int .i64 0),(.int .i64 1),(.int .i64 0),(.int .i64 0),(.int .i64 5),(.int .i64 1)])])] (.tup [(.str [99,32,115,104,117,110,116,32,48,32,49,32,48,32,48,32,53,32,49,10]),(.int .i64 0)]) false:=
 qvh okE (W92 jvu) rfl
theorem jbl:qa6 Tryz.prog 16 [] (.bool true) false:=
 qad (q82 okPr (jtb okPr jbx) (fun k l h=>qc7 (jb2 jen (by kernel_rfl) k l h))) jfo
end Go.Z
end
