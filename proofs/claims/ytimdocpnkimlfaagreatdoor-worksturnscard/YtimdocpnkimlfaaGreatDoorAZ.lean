/- The examples' lines, one by one, run by the kernel. -/
import Derived.Test.YtimdocpnkimlfaaGreatDoorLA
set_option linter.unusedVariables false
set_option linter.unusedSimpArgs false
set_option maxRecDepth 100000
open Option renaming some→I
open Bool renaming cond_eq_ite→En,false→Es
namespace Go.Z
open Go Go.Abs
theorem u1:qm dZ xA 40 r1.1 r1.2.1=I r1.2.2:=by kernel_rfl
theorem u9:qm dZ xA 40 r9.1 r9.2.1=I r9.2.2:=by kernel_rfl
theorem u17:qm dZ xA 40 JN.1 JN.2.1=I JN.2.2:=by kernel_rfl
theorem u25:qm dZ xA 40 JO.1 JO.2.1=I JO.2.2:=by kernel_rfl
theorem u33:qm dZ xA 40 JP.1 JP.2.1=I JP.2.2:=by kernel_rfl
theorem u2:qm dZ xA 40 r2.1 r2.2.1=I r2.2.2:=by kernel_rfl
theorem u10:qm dZ xA 40 JQ.1 JQ.2.1=I JQ.2.2:=by kernel_rfl
theorem u18:qm dZ xA 40 JR.1 JR.2.1=I JR.2.2:=by kernel_rfl
theorem u26:qm dZ xA 40 JS.1 JS.2.1=I JS.2.2:=by kernel_rfl
theorem u34:qm dZ xA 40 JT.1 JT.2.1=I JT.2.2:=by kernel_rfl
theorem u3:qm dZ xA 40 r3.1 r3.2.1=I r3.2.2:=by kernel_rfl
theorem u11:qm dZ xA 40 JU.1 JU.2.1=I JU.2.2:=by kernel_rfl
theorem u19:qm dZ xA 40 JV.1 JV.2.1=I JV.2.2:=by kernel_rfl
theorem u27:qm dZ xA 40 JW.1 JW.2.1=I JW.2.2:=by kernel_rfl
theorem u35:qm dZ xA 40 JX.1 JX.2.1=I JX.2.2:=by kernel_rfl
theorem u4:qm dZ xA 40 r4.1 r4.2.1=I r4.2.2:=by kernel_rfl
theorem u12:qm dZ xA 40 JY.1 JY.2.1=I JY.2.2:=by kernel_rfl
theorem u20:qm dZ xA 40 JZ.1 JZ.2.1=I JZ.2.2:=by kernel_rfl
theorem u28:qm dZ xA 40 J0.1 J0.2.1=I J0.2.2:=by kernel_rfl
theorem u36:qm dZ xA 40 J1.1 J1.2.1=I J1.2.2:=by kernel_rfl
theorem u5:qm dZ xA 40 r5.1 r5.2.1=I r5.2.2:=by kernel_rfl
theorem u13:qm dZ xA 40 J2.1 J2.2.1=I J2.2.2:=by kernel_rfl
theorem u21:qm dZ xA 40 J3.1 J3.2.1=I J3.2.2:=by kernel_rfl
theorem u29:qm dZ xA 40 J4.1 J4.2.1=I J4.2.2:=by kernel_rfl
theorem u6:qm dZ xA 40 r6.1 r6.2.1=I r6.2.2:=by kernel_rfl
theorem u14:qm dZ xA 40 J5.1 J5.2.1=I J5.2.2:=by kernel_rfl
theorem u22:qm dZ xA 40 J6.1 J6.2.1=I J6.2.2:=by kernel_rfl
theorem u30:qm dZ xA 40 J7.1 J7.2.1=I J7.2.2:=by kernel_rfl
theorem u7:qm dZ xA 40 r7.1 r7.2.1=I r7.2.2:=by kernel_rfl
theorem u15:qm dZ xA 40 J8.1 J8.2.1=I J8.2.2:=by kernel_rfl
theorem u23:qm dZ xA 40 J9.1 J9.2.1=I J9.2.2:=by kernel_rfl
theorem u31:qm dZ xA 40 Ka.1 Ka.2.1=I Ka.2.2:=by kernel_rfl
theorem u8:qm dZ xA 40 r8.1 r8.2.1=I r8.2.2:=by kernel_rfl
theorem u16:qm dZ xA 40 Kb.1 Kb.2.1=I Kb.2.2:=by kernel_rfl
theorem u24:qm dZ xA 40 Kc.1 Kc.2.1=I Kc.2.2:=by kernel_rfl
theorem u32:qm dZ xA 40 Ke.1 Ke.2.1=I Ke.2.2:=by kernel_rfl
theorem v1:qc dZ xA 20 P0.1=I P0.2:=by kernel_rfl
theorem v2:qc dZ xA 23 P1.1=I P1.2:=by kernel_rfl
theorem v3:qc dZ xA 30 P2.1=I P2.2:=by kernel_rfl
end Go.Z
namespace Go.Z
open Go Go.Abs Go.Proofs
def jc9:List kf:=[r1,r2,r3,r4,r5,r6,r7,r8,r9,JQ,JU,JY,J2,J5,J8,Kb,JN,JR,JV,JZ,J3,J6,J9,Kc,JO,JS,JW,J0,J4,J7,Ka,Ke,JP,JT,JX,J1]
theorem jcy:P3 Tryz.prog 40 jc9:=⟨ju ef u1,ju ef u2,ju ef u3,ju ef u4,ju ef u5,ju ef u6,ju ef u7,ju ef u8,ju ef u9,ju ef u10,ju ef u11,ju ef u12,ju ef u13,ju ef u14,ju ef u15,ju ef u16,ju ef u17,ju ef u18,ju ef u19,ju ef u20,ju ef u21,ju ef u22,ju ef u23,ju ef u24,ju ef u25,ju ef u26,ju ef u27,ju ef u28,ju ef u29,ju ef u30,ju ef u31,ju ef u32,ju ef u33,ju ef u34,ju ef u35,ju ef u36,trivial⟩
def Kf:List (Nat×List Row):=[(20,[P0]),(23,[P1]),(30,[P2])]
theorem jwk:P4 Tryz.prog (xD Kf):=
 P5 (t:=Kf) ⟨⟨qg ef v1,trivial⟩,⟨qg ef v2,trivial⟩,⟨qg ef v3,trivial⟩,trivial⟩
def De:jz:={ bG:=fun k=>bif Nat.beq k 40 then none else dZ.bG k,cO:=fun k=>match xD Kf k with
 |some l=>I fun args=>Df args l
 |none=>dZ.cO k,dL:=fun k=>bif Nat.beq k 40 then I (fun args h=>Kg args h jc9)else dZ.dL k,maps:=dZ.maps }
theorem okB:b6 Tryz.prog De where
 fn:=by
  intro k f hf
  simp only[De,En]at hf
  split at hf
  ·cases hf
  ·exact ef.fn k f hf
 iK:=by
  intro k f hf
  simp only[De]at hf
  split at hf
  ·rename_i l hl
   cases hf
   exact⟨uE (P6 Kf (by kernel_rfl) k l hl),fun args v o hv _ _=>jwk k l hl _ (P7 hv)⟩
  ·exact ef.iK k f hf
 mixed:=ef.mixed
 fT:=by
  intro k f hf
  simp only[De,En]at hf
  split at hf
  ·next hb=>
   cases hf
   obtain rfl:=Nat.eq_of_beq_eq_true hb
   exact⟨uE (k:=40) (by kernel_rfl),fun args h v o h' hq=>q5c jcy _ (qzg hq)⟩
  ·exact ef.fT k f hf
 maps:=ef.maps
theorem jgl:qc De (iL De 1000) 15 []=I (.bool true,Es):=by kernel_rfl
theorem jhe:IsoCall Tryz.prog 15 [] (.bool true) Es:=qg okB jgl
end Go.Z
namespace Go.Z
open Go Go.Abs Go.Proofs
def tAw:List AVal→Option (AVal×Bool)
 | []=>I (.bool true,Es)
 |_=>none
def P8:xE:=fun k=>bif Nat.beq k 15 then I tAw else none
def opZ:Nat→Bool:=fun k=>Nat.ble 3 k&&Nat.ble k 10
noncomputable def iM:jz:=mE pr P8 opZ
theorem okZ:b6 Tryz.prog iM:=jhf (okM ok0) (by
 intro k f hf
 simp only[P8,En]at hf
 split at hf
 ·next hb=>
  cases hf
  obtain rfl:=Nat.eq_of_beq_eq_true hb
  refine⟨uE (k:=15) (by kernel_rfl),fun args v o h _ _=>?_⟩
  cases args with
  |nil=>cases h;exact jhe
  |cons a l=>cases h
 ·cases hf)
theorem zW {k}(ho:opZ k=Es)(hm:P8 k=none){args v o}(h:qc pr (X pr) k args=I (v,o))(hv:below 0 v=true):qc iM (X iM) k args=I (v,o):=q79 ho hm h hv
def nT:Option Bool:=I true
theorem Q8 {r}(h:nT=I r):qc iM (X iM) 15 []=I (.bool r,Es):=by
 cases h
 exact q9b (f:=tAw) rfl rfl rfl rfl
end Go.Z
