/- The examples' lines, one by one, run by the kernel. -/
import Derived.Test.YtfopaakmgogpiaaGreatDoorAW
set_option linter.unusedVariables false
set_option linter.unusedSimpArgs false
set_option maxRecDepth 100000
open Option renaming some→I
namespace Go.Z
open Go Go.Abs
theorem u1:zg dz xA 97 r1.1 r1.2.1=I r1.2.2:=by kernel_rfl
theorem u9:zg dz xA 97 r9.1 r9.2.1=I r9.2.2:=by kernel_rfl
theorem u17:zg dz xA 97 LD.1 LD.2.1=I LD.2.2:=by kernel_rfl
theorem u25:zg dz xA 97 LN.1 LN.2.1=I LN.2.2:=by kernel_rfl
theorem u33:zg dz xA 97 LW.1 LW.2.1=I LW.2.2:=by kernel_rfl
theorem u2:zg dz xA 97 r2.1 r2.2.1=I r2.2.2:=by kernel_rfl
theorem u10:zg dz xA 97 De.1 De.2.1=I De.2.2:=by kernel_rfl
theorem u18:zg dz xA 97 LG.1 LG.2.1=I LG.2.2:=by kernel_rfl
theorem u26:zg dz xA 97 LO.1 LO.2.1=I LO.2.2:=by kernel_rfl
theorem u34:zg dz xA 97 LX.1 LX.2.1=I LX.2.2:=by kernel_rfl
theorem u3:zg dz xA 97 r3.1 r3.2.1=I r3.2.2:=by kernel_rfl
theorem u11:zg dz xA 97 Lx.1 Lx.2.1=I Lx.2.2:=by kernel_rfl
theorem u19:zg dz xA 97 LH.1 LH.2.1=I LH.2.2:=by kernel_rfl
theorem u27:zg dz xA 97 LP.1 LP.2.1=I LP.2.2:=by kernel_rfl
theorem u35:zg dz xA 97 LY.1 LY.2.1=I LY.2.2:=by kernel_rfl
theorem u4:zg dz xA 97 r4.1 r4.2.1=I r4.2.2:=by kernel_rfl
theorem u12:zg dz xA 97 Ly.1 Ly.2.1=I Ly.2.2:=by kernel_rfl
theorem u20:zg dz xA 97 LI.1 LI.2.1=I LI.2.2:=by kernel_rfl
theorem u28:zg dz xA 97 LQ.1 LQ.2.1=I LQ.2.2:=by kernel_rfl
theorem u36:zg dz xA 97 LZ.1 LZ.2.1=I LZ.2.2:=by kernel_rfl
theorem u5:zg dz xA 97 r5.1 r5.2.1=I r5.2.2:=by kernel_rfl
theorem u13:zg dz xA 97 Lz.1 Lz.2.1=I Lz.2.2:=by kernel_rfl
theorem u21:zg dz xA 97 LJ.1 LJ.2.1=I LJ.2.2:=by kernel_rfl
theorem u29:zg dz xA 97 LR.1 LR.2.1=I LR.2.2:=by kernel_rfl
theorem u6:zg dz xA 97 r6.1 r6.2.1=I r6.2.2:=by kernel_rfl
theorem u14:zg dz xA 97 LA.1 LA.2.1=I LA.2.2:=by kernel_rfl
theorem u22:zg dz xA 97 LK.1 LK.2.1=I LK.2.2:=by kernel_rfl
theorem u30:zg dz xA 97 LS.1 LS.2.1=I LS.2.2:=by kernel_rfl
theorem u7:zg dz xA 97 r7.1 r7.2.1=I r7.2.2:=by kernel_rfl
theorem u15:zg dz xA 97 LB.1 LB.2.1=I LB.2.2:=by kernel_rfl
theorem u23:zg dz xA 97 LL.1 LL.2.1=I LL.2.2:=by kernel_rfl
theorem u31:zg dz xA 97 LU.1 LU.2.1=I LU.2.2:=by kernel_rfl
theorem u8:zg dz xA 97 r8.1 r8.2.1=I r8.2.2:=by kernel_rfl
theorem u16:zg dz xA 97 LC.1 LC.2.1=I LC.2.2:=by kernel_rfl
theorem u24:zg dz xA 97 LM.1 LM.2.1=I LM.2.2:=by kernel_rfl
theorem u32:zg dz xA 97 LV.1 LV.2.1=I LV.2.2:=by kernel_rfl
theorem v1:jz dz xA 35 RQ.1=I RQ.2:=by kernel_rfl
theorem v2:jz dz xA 36 RR.1=I RR.2:=by kernel_rfl
theorem v3:jz dz xA 44 RS.1=I RS.2:=by kernel_rfl
end Go.Z
namespace Go.Z
open Go Go.Abs Go.Proofs
def jbh:List dN:=[r1,r2,r3,r4,r5,r6,r7,r8,r9,De,Lx,Ly,Lz,LA,LB,LC,LD,LG,LH,LI,LJ,LK,LL,LM,LN,LO,LP,LQ,LR,LS,LU,LV,LW,LX,LY,LZ]
theorem jcg:RX Tryz.prog 97 jbh:=⟨yn dG u1,yn dG u2,yn dG u3,yn dG u4,yn dG u5,yn dG u6,yn dG u7,yn dG u8,yn dG u9,yn dG u10,yn dG u11,yn dG u12,yn dG u13,yn dG u14,yn dG u15,yn dG u16,yn dG u17,yn dG u18,yn dG u19,yn dG u20,yn dG u21,yn dG u22,yn dG u23,yn dG u24,yn dG u25,yn dG u26,yn dG u27,yn dG u28,yn dG u29,yn dG u30,yn dG u31,yn dG u32,yn dG u33,yn dG u34,yn dG u35,yn dG u36,trivial⟩
def L3:List (Nat×List Row):=[(35,[RQ]),(36,[RR]),(44,[RS])]
theorem jso:L0 Tryz.prog (wU L3):=
 RU (t:=L3) ⟨⟨zb dG v1,trivial⟩,⟨zb dG v2,trivial⟩,⟨zb dG v3,trivial⟩,trivial⟩
def Df:qr:={ bH:=fun k=>bif Nat.beq k 97 then none else dz.bH k,cq:=fun k=>match wU L3 k with
 |some l=>I fun args=>zj args l
 |none=>dz.cq k,dj:=fun k=>bif Nat.beq k 97 then I (fun args h=>L4 args h jbh)else dz.dj k,maps:=dz.maps }
theorem okB:qx Tryz.prog Df where
 fn:=by
  intro k f hf
  simp only[Df,Bool.cond_eq_ite]at hf
  split at hf
  ·cases hf
  ·exact dG.fn k f hf
 gJ:=by
  intro k f hf
  simp only[Df]at hf
  split at hf
  ·rename_i l hl
   cases hf
   exact⟨ud (RW L3 (by kernel_rfl) k l hl),fun args v o hv _ _=>jso k l hl _ (L2 hv)⟩
  ·exact dG.gJ k f hf
 mixed:=dG.mixed
 fC:=by
  intro k f hf
  simp only[Df,Bool.cond_eq_ite]at hf
  split at hf
  ·next hb=>
   cases hf
   obtain rfl:=Nat.eq_of_beq_eq_true hb
   exact⟨ud (k:=97) (by kernel_rfl),fun args h v o h' hq=>q3p jcg _ (qzl hq)⟩
  ·exact dG.fC k f hf
 maps:=dG.maps
theorem jfv:jz Df (ib Df 1000) 8 []=I (.bool true,false):=by kernel_rfl
theorem jf4:IsoCall Tryz.prog 8 [] (.bool true) false:=zb okB jfv
end Go.Z
