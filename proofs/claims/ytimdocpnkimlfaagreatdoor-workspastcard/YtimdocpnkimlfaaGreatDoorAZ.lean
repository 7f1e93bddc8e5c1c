/- The examples' lines, one by one, run by the kernel. -/
import Derived.Test.YtimdocpnkimlfaaGreatDoorLA
set_option linter.unusedVariables false
set_option linter.unusedSimpArgs false
set_option maxRecDepth 100000
open Option renaming some→I
open Bool renaming cond_eq_ite→En,false→Ga
namespace Go.Z
open Go Go.Abs
theorem u1:qo ej xA 40 r1.1 r1.2.1=I r1.2.2:=by kernel_rfl
theorem u9:qo ej xA 40 r9.1 r9.2.1=I r9.2.2:=by kernel_rfl
theorem u17:qo ej xA 40 JP.1 JP.2.1=I JP.2.2:=by kernel_rfl
theorem u25:qo ej xA 40 JQ.1 JQ.2.1=I JQ.2.2:=by kernel_rfl
theorem u33:qo ej xA 40 JR.1 JR.2.1=I JR.2.2:=by kernel_rfl
theorem u2:qo ej xA 40 r2.1 r2.2.1=I r2.2.2:=by kernel_rfl
theorem u10:qo ej xA 40 JS.1 JS.2.1=I JS.2.2:=by kernel_rfl
theorem u18:qo ej xA 40 JT.1 JT.2.1=I JT.2.2:=by kernel_rfl
theorem u26:qo ej xA 40 JU.1 JU.2.1=I JU.2.2:=by kernel_rfl
theorem u34:qo ej xA 40 JV.1 JV.2.1=I JV.2.2:=by kernel_rfl
theorem u3:qo ej xA 40 r3.1 r3.2.1=I r3.2.2:=by kernel_rfl
theorem u11:qo ej xA 40 JW.1 JW.2.1=I JW.2.2:=by kernel_rfl
theorem u19:qo ej xA 40 JX.1 JX.2.1=I JX.2.2:=by kernel_rfl
theorem u27:qo ej xA 40 JY.1 JY.2.1=I JY.2.2:=by kernel_rfl
theorem u35:qo ej xA 40 JZ.1 JZ.2.1=I JZ.2.2:=by kernel_rfl
theorem u4:qo ej xA 40 r4.1 r4.2.1=I r4.2.2:=by kernel_rfl
theorem u12:qo ej xA 40 J0.1 J0.2.1=I J0.2.2:=by kernel_rfl
theorem u20:qo ej xA 40 J1.1 J1.2.1=I J1.2.2:=by kernel_rfl
theorem u28:qo ej xA 40 J2.1 J2.2.1=I J2.2.2:=by kernel_rfl
theorem u36:qo ej xA 40 J3.1 J3.2.1=I J3.2.2:=by kernel_rfl
theorem u5:qo ej xA 40 r5.1 r5.2.1=I r5.2.2:=by kernel_rfl
theorem u13:qo ej xA 40 J4.1 J4.2.1=I J4.2.2:=by kernel_rfl
theorem u21:qo ej xA 40 J5.1 J5.2.1=I J5.2.2:=by kernel_rfl
theorem u29:qo ej xA 40 J6.1 J6.2.1=I J6.2.2:=by kernel_rfl
theorem u6:qo ej xA 40 r6.1 r6.2.1=I r6.2.2:=by kernel_rfl
theorem u14:qo ej xA 40 J7.1 J7.2.1=I J7.2.2:=by kernel_rfl
theorem u22:qo ej xA 40 J8.1 J8.2.1=I J8.2.2:=by kernel_rfl
theorem u30:qo ej xA 40 J9.1 J9.2.1=I J9.2.2:=by kernel_rfl
theorem u7:qo ej xA 40 r7.1 r7.2.1=I r7.2.2:=by kernel_rfl
theorem u15:qo ej xA 40 Ka.1 Ka.2.1=I Ka.2.2:=by kernel_rfl
theorem u23:qo ej xA 40 Kb.1 Kb.2.1=I Kb.2.2:=by kernel_rfl
theorem u31:qo ej xA 40 Kc.1 Kc.2.1=I Kc.2.2:=by kernel_rfl
theorem u8:qo ej xA 40 r8.1 r8.2.1=I r8.2.2:=by kernel_rfl
theorem u16:qo ej xA 40 Ke.1 Ke.2.1=I Ke.2.2:=by kernel_rfl
theorem u24:qo ej xA 40 Kf.1 Kf.2.1=I Kf.2.2:=by kernel_rfl
theorem u32:qo ej xA 40 Kg.1 Kg.2.1=I Kg.2.2:=by kernel_rfl
theorem v1:qc ej xA 20 Qi.1=I Qi.2:=by kernel_rfl
theorem v2:qc ej xA 23 Qj.1=I Qj.2:=by kernel_rfl
theorem v3:qc ej xA 30 Qk.1=I Qk.2:=by kernel_rfl
end Go.Z
namespace Go.Z
open Go Go.Abs Go.Proofs
def jdh:List kf:=[r1,r2,r3,r4,r5,r6,r7,r8,r9,JS,JW,J0,J4,J7,Ka,Ke,JP,JT,JX,J1,J5,J8,Kb,Kf,JQ,JU,JY,J2,J6,J9,Kc,Kg,JR,JV,JZ,J3]
theorem je8:Ql Tryz.prog 40 jdh:=⟨jx eo u1,jx eo u2,jx eo u3,jx eo u4,jx eo u5,jx eo u6,jx eo u7,jx eo u8,jx eo u9,jx eo u10,jx eo u11,jx eo u12,jx eo u13,jx eo u14,jx eo u15,jx eo u16,jx eo u17,jx eo u18,jx eo u19,jx eo u20,jx eo u21,jx eo u22,jx eo u23,jx eo u24,jx eo u25,jx eo u26,jx eo u27,jx eo u28,jx eo u29,jx eo u30,jx eo u31,jx eo u32,jx eo u33,jx eo u34,jx eo u35,jx eo u36,trivial⟩
def Kh:List (Nat×List Row):=[(20,[Qi]),(23,[Qj]),(30,[Qk])]
theorem jua:Qm Tryz.prog (xP Kh):=
 Qn (t:=Kh) ⟨⟨qg eo v1,trivial⟩,⟨qg eo v2,trivial⟩,⟨qg eo v3,trivial⟩,trivial⟩
def Dn:jz:={ bO:=fun k=>bif Nat.beq k 40 then none else ej.bO k,cN:=fun k=>match xP Kh k with
 |some l=>I fun args=>Dp args l
 |none=>ej.cN k,dS:=fun k=>bif Nat.beq k 40 then I (fun args h=>Ki args h jdh)else ej.dS k,maps:=ej.maps }
theorem okB:bZ Tryz.prog Dn where
 fn:=by
  intro k f hf
  simp only[Dn,En]at hf
  split at hf
  ·cases hf
  ·exact eo.fn k f hf
 iL:=by
  intro k f hf
  simp only[Dn]at hf
  split at hf
  ·rename_i l hl
   cases hf
   exact⟨uO (Qo Kh (by kernel_rfl) k l hl),fun args v o hv _ _=>jua k l hl _ (Qp hv)⟩
  ·exact eo.iL k f hf
 mixed:=eo.mixed
 fW:=by
  intro k f hf
  simp only[Dn,En]at hf
  split at hf
  ·next hb=>
   cases hf
   obtain rfl:=Nat.eq_of_beq_eq_true hb
   exact⟨uO (k:=40) (by kernel_rfl),fun args h v o h' hq=>q4s je8 _ (qzy hq)⟩
  ·exact eo.fW k f hf
 maps:=eo.maps
theorem jlk:qc Dn (iM Dn 1000) 15 []=I (.bool true,Ga):=by kernel_rfl
theorem jjh:IsoCall Tryz.prog 15 [] (.bool true) Ga:=qg okB jlk
end Go.Z
namespace Go.Z
open Go Go.Abs Go.Proofs
def tAw:List AVal→Option (AVal×Bool)
 | []=>I (.bool true,Ga)
 |_=>none
def Qq:xQ:=fun k=>bif Nat.beq k 15 then I tAw else none
def opZ:Nat→Bool:=fun k=>Nat.ble 3 k&&Nat.ble k 10
noncomputable def gD:jz:=mb pr Qq opZ
theorem okZ:bZ Tryz.prog gD:=jh2 (okM ok0) (by
 intro k f hf
 simp only[Qq,En]at hf
 split at hf
 ·next hb=>
  cases hf
  obtain rfl:=Nat.eq_of_beq_eq_true hb
  refine⟨uO (k:=15) (by kernel_rfl),fun args v o h _ _=>?_⟩
  cases args with
  |nil=>cases h;exact jjh
  |cons a l=>cases h
 ·cases hf)
theorem Ff {k}(ho:opZ k=Ga)(hm:Qq k=none){args v o}(h:qc pr (X pr) k args=I (v,o))(hv:below 0 v=true):qc gD (X gD) k args=I (v,o):=q8t ho hm h hv
def Kj:Option Bool:=I true
theorem Q8 {r}(h:Kj=I r):qc gD (X gD) 15 []=I (.bool r,Ga):=by
 cases h
 exact q9u (f:=tAw) rfl rfl rfl rfl
end Go.Z
