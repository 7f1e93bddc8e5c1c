/- The examples' lines, one by one, run by the kernel. -/
import Derived.Test.YtimdocpnkimlfaaGreatDoorAW
set_option linter.unusedVariables false
set_option linter.unusedSimpArgs false
set_option maxRecDepth 100000
open Option renaming some→I
open Bool renaming cond_eq_ite→Ea
namespace Go.Z
open Go Go.Abs
theorem u1:ah dj xA 40 r1.1 r1.2.1=I r1.2.2:=by kernel_rfl
theorem u9:ah dj xA 40 r9.1 r9.2.1=I r9.2.2:=by kernel_rfl
theorem u17:ah dj xA 40 GJ.1 GJ.2.1=I GJ.2.2:=by kernel_rfl
theorem u25:ah dj xA 40 GU.1 GU.2.1=I GU.2.2:=by kernel_rfl
theorem u33:ah dj xA 40 G3.1 G3.2.1=I G3.2.2:=by kernel_rfl
theorem u2:ah dj xA 40 r2.1 r2.2.1=I r2.2.2:=by kernel_rfl
theorem u10:ah dj xA 40 Gy.1 Gy.2.1=I Gy.2.2:=by kernel_rfl
theorem u18:ah dj xA 40 GK.1 GK.2.1=I GK.2.2:=by kernel_rfl
theorem u26:ah dj xA 40 GV.1 GV.2.1=I GV.2.2:=by kernel_rfl
theorem u34:ah dj xA 40 G4.1 G4.2.1=I G4.2.2:=by kernel_rfl
theorem u3:ah dj xA 40 r3.1 r3.2.1=I r3.2.2:=by kernel_rfl
theorem u11:ah dj xA 40 Gz.1 Gz.2.1=I Gz.2.2:=by kernel_rfl
theorem u19:ah dj xA 40 GL.1 GL.2.1=I GL.2.2:=by kernel_rfl
theorem u27:ah dj xA 40 GX.1 GX.2.1=I GX.2.2:=by kernel_rfl
theorem u35:ah dj xA 40 G5.1 G5.2.1=I G5.2.2:=by kernel_rfl
theorem u4:ah dj xA 40 r4.1 r4.2.1=I r4.2.2:=by kernel_rfl
theorem u12:ah dj xA 40 GD.1 GD.2.1=I GD.2.2:=by kernel_rfl
theorem u20:ah dj xA 40 GM.1 GM.2.1=I GM.2.2:=by kernel_rfl
theorem u28:ah dj xA 40 GY.1 GY.2.1=I GY.2.2:=by kernel_rfl
theorem u36:ah dj xA 40 G6.1 G6.2.1=I G6.2.2:=by kernel_rfl
theorem u5:ah dj xA 40 r5.1 r5.2.1=I r5.2.2:=by kernel_rfl
theorem u13:ah dj xA 40 GF.1 GF.2.1=I GF.2.2:=by kernel_rfl
theorem u21:ah dj xA 40 GN.1 GN.2.1=I GN.2.2:=by kernel_rfl
theorem u29:ah dj xA 40 GZ.1 GZ.2.1=I GZ.2.2:=by kernel_rfl
theorem u6:ah dj xA 40 r6.1 r6.2.1=I r6.2.2:=by kernel_rfl
theorem u14:ah dj xA 40 GG.1 GG.2.1=I GG.2.2:=by kernel_rfl
theorem u22:ah dj xA 40 GO.1 GO.2.1=I GO.2.2:=by kernel_rfl
theorem u30:ah dj xA 40 G0.1 G0.2.1=I G0.2.2:=by kernel_rfl
theorem u7:ah dj xA 40 r7.1 r7.2.1=I r7.2.2:=by kernel_rfl
theorem u15:ah dj xA 40 GH.1 GH.2.1=I GH.2.2:=by kernel_rfl
theorem u23:ah dj xA 40 GQ.1 GQ.2.1=I GQ.2.2:=by kernel_rfl
theorem u31:ah dj xA 40 G1.1 G1.2.1=I G1.2.2:=by kernel_rfl
theorem u8:ah dj xA 40 r8.1 r8.2.1=I r8.2.2:=by kernel_rfl
theorem u16:ah dj xA 40 GI.1 GI.2.1=I GI.2.2:=by kernel_rfl
theorem u24:ah dj xA 40 GR.1 GR.2.1=I GR.2.2:=by kernel_rfl
theorem u32:ah dj xA 40 G2.1 G2.2.1=I G2.2.2:=by kernel_rfl
theorem v1:ae dj xA 20 Nn.1=I Nn.2:=by kernel_rfl
theorem v2:ae dj xA 23 Np.1=I Np.2:=by kernel_rfl
theorem v3:ae dj xA 30 Nq.1=I Nq.2:=by kernel_rfl
end Go.Z
namespace Go.Z
open Go Go.Abs Go.Proofs
def WZ:List zz:=[r1,r2,r3,r4,r5,r6,r7,r8,r9,Gy,Gz,GD,GF,GG,GH,GI,GJ,GK,GL,GM,GN,GO,GQ,GR,GU,GV,GX,GY,GZ,G0,G1,G2,G3,G4,G5,G6]
theorem q6p:Nw Tryz.prog 40 WZ:=⟨jf dp u1,jf dp u2,jf dp u3,jf dp u4,jf dp u5,jf dp u6,jf dp u7,jf dp u8,jf dp u9,jf dp u10,jf dp u11,jf dp u12,jf dp u13,jf dp u14,jf dp u15,jf dp u16,jf dp u17,jf dp u18,jf dp u19,jf dp u20,jf dp u21,jf dp u22,jf dp u23,jf dp u24,jf dp u25,jf dp u26,jf dp u27,jf dp u28,jf dp u29,jf dp u30,jf dp u31,jf dp u32,jf dp u33,jf dp u34,jf dp u35,jf dp u36,trivial⟩
def G7:List (Nat×List Row):=[(20,[Nn]),(23,[Np]),(30,[Nq])]
theorem jh1:Ns Tryz.prog (s6 G7):=
 Nt (t:=G7) ⟨⟨qd dp v1,trivial⟩,⟨qd dp v2,trivial⟩,⟨qd dp v3,trivial⟩,trivial⟩
def AQ:jg:={ bn:=fun k=>bif Nat.beq k 40 then none else dj.bn k,bM:=fun k=>match s6 G7 k with
 |some l=>I fun args=>AP args l
 |none=>dj.bM k,bR:=fun k=>bif Nat.beq k 40 then I (fun args h=>G8 args h WZ)else dj.bR k,maps:=dj.maps }
theorem okB:bu Tryz.prog AQ where
 fn:=by
  intro k f hf
  simp only[AQ,Ea]at hf
  split at hf
  ·cases hf
  ·exact dp.fn k f hf
 eW:=by
  intro k f hf
  simp only[AQ]at hf
  split at hf
  ·rename_i l hl
   cases hf
   exact⟨kf (Nu G7 (by kernel_rfl) k l hl),fun args v o hv _ _=>jh1 k l hl _ (Nv hv)⟩
  ·exact dp.eW k f hf
 mixed:=dp.mixed
 dY:=by
  intro k f hf
  simp only[AQ,Ea]at hf
  split at hf
  ·next hb=>
   cases hf
   obtain rfl:=Nat.eq_of_beq_eq_true hb
   exact⟨kf (k:=40) (by kernel_rfl),fun args h v o h' hq=>W0 q6p _ (W1 hq)⟩
  ·exact dp.dY k f hf
 maps:=dp.maps
theorem jay:ae AQ (yj AQ 1000) 15 []=I (.bool true,false):=by kernel_rfl
theorem q8f:IsoCall Tryz.prog 15 [] (.bool true) false:=qd okB jay
end Go.Z
namespace Go.Z
open Go Go.Abs Go.Proofs
def Nx:List AVal→Option (AVal×Bool)
 | []=>I (.bool true,false)
 |_=>none
def W2:uL:=fun k=>bif Nat.beq k 15 then I Nx else none
def opZ:Nat→Bool:=fun k=>Nat.ble 3 k&&Nat.ble k 10
noncomputable def prZ:jg:=qB pr W2 opZ
theorem okZ:bu Tryz.prog prZ:=q7z (W3 Ny) (by
 intro k f hf
 simp only[W2,Ea]at hf
 split at hf
 ·next hb=>
  cases hf
  obtain rfl:=Nat.eq_of_beq_eq_true hb
  refine⟨kf (k:=15) (by kernel_rfl),fun args v o h _ _=>?_⟩
  cases args with
  |nil=>cases h;exact q8f
  |cons a l=>cases h
 ·cases hf)
def CK:Option Bool:=I true
end Go.Z
