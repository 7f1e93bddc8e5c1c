/- The examples' lines, one by one, run by the kernel. -/
import Derived.Test.YtfopaakmgogpiaaGreatDoorAW
set_option maxRecDepth 100000
open Option renaming some→I
namespace Go.Z
open Go Go.Abs
theorem u1:zg dw xA 97 r1.1 r1.2.1=I r1.2.2:=by kernel_rfl
theorem u9:zg dw xA 97 r9.1 r9.2.1=I r9.2.2:=by kernel_rfl
theorem u17:zg dw xA 97 wo.1 wo.2.1=I wo.2.2:=by kernel_rfl
theorem u25:zg dw xA 97 LG.1 LG.2.1=I LG.2.2:=by kernel_rfl
theorem u33:zg dw xA 97 LO.1 LO.2.1=I LO.2.2:=by kernel_rfl
theorem u2:zg dw xA 97 r2.1 r2.2.1=I r2.2.2:=by kernel_rfl
theorem u10:zg dw xA 97 Lq.1 Lq.2.1=I Lq.2.2:=by kernel_rfl
theorem u18:zg dw xA 97 yG.1 yG.2.1=I yG.2.2:=by kernel_rfl
theorem u26:zg dw xA 97 LH.1 LH.2.1=I LH.2.2:=by kernel_rfl
theorem u34:zg dw xA 97 LP.1 LP.2.1=I LP.2.2:=by kernel_rfl
theorem u3:zg dw xA 97 r3.1 r3.2.1=I r3.2.2:=by kernel_rfl
theorem u11:zg dw xA 97 Lr.1 Lr.2.1=I Lr.2.2:=by kernel_rfl
theorem u19:zg dw xA 97 Ly.1 Ly.2.1=I Ly.2.2:=by kernel_rfl
theorem u27:zg dw xA 97 LI.1 LI.2.1=I LI.2.2:=by kernel_rfl
theorem u35:zg dw xA 97 LQ.1 LQ.2.1=I LQ.2.2:=by kernel_rfl
theorem u4:zg dw xA 97 r4.1 r4.2.1=I r4.2.2:=by kernel_rfl
theorem u12:zg dw xA 97 Ls.1 Ls.2.1=I Ls.2.2:=by kernel_rfl
theorem u20:zg dw xA 97 Lz.1 Lz.2.1=I Lz.2.2:=by kernel_rfl
theorem u28:zg dw xA 97 LJ.1 LJ.2.1=I LJ.2.2:=by kernel_rfl
theorem u36:zg dw xA 97 LR.1 LR.2.1=I LR.2.2:=by kernel_rfl
theorem u5:zg dw xA 97 r5.1 r5.2.1=I r5.2.2:=by kernel_rfl
theorem u13:zg dw xA 97 Lt.1 Lt.2.1=I Lt.2.2:=by kernel_rfl
theorem u21:zg dw xA 97 LA.1 LA.2.1=I LA.2.2:=by kernel_rfl
theorem u29:zg dw xA 97 LK.1 LK.2.1=I LK.2.2:=by kernel_rfl
theorem u6:zg dw xA 97 r6.1 r6.2.1=I r6.2.2:=by kernel_rfl
theorem u14:zg dw xA 97 Lu.1 Lu.2.1=I Lu.2.2:=by kernel_rfl
theorem u22:zg dw xA 97 LB.1 LB.2.1=I LB.2.2:=by kernel_rfl
theorem u30:zg dw xA 97 LL.1 LL.2.1=I LL.2.2:=by kernel_rfl
theorem u7:zg dw xA 97 r7.1 r7.2.1=I r7.2.2:=by kernel_rfl
theorem u15:zg dw xA 97 Lw.1 Lw.2.1=I Lw.2.2:=by kernel_rfl
theorem u23:zg dw xA 97 LC.1 LC.2.1=I LC.2.2:=by kernel_rfl
theorem u31:zg dw xA 97 LM.1 LM.2.1=I LM.2.2:=by kernel_rfl
theorem u8:zg dw xA 97 r8.1 r8.2.1=I r8.2.2:=by kernel_rfl
theorem u16:zg dw xA 97 Lx.1 Lx.2.1=I Lx.2.2:=by kernel_rfl
theorem u24:zg dw xA 97 LD.1 LD.2.1=I LD.2.2:=by kernel_rfl
theorem u32:zg dw xA 97 LN.1 LN.2.1=I LN.2.2:=by kernel_rfl
theorem v1:jz dw xA 35 RL.1=I RL.2:=by kernel_rfl
theorem v2:jz dw xA 36 RM.1=I RM.2:=by kernel_rfl
theorem v3:jz dw xA 44 RN.1=I RN.2:=by kernel_rfl
end Go.Z
namespace Go.Z
open Go Go.Abs Go.Proofs
def jdc:List dH:=[r1,r2,r3,r4,r5,r6,r7,r8,r9,Lq,Lr,Ls,Lt,Lu,Lw,Lx,wo,yG,Ly,Lz,LA,LB,LC,LD,LG,LH,LI,LJ,LK,LL,LM,LN,LO,LP,LQ,LR]
theorem jbq:RS Tryz.prog 97 jdc:=⟨yn dA u1,yn dA u2,yn dA u3,yn dA u4,yn dA u5,yn dA u6,yn dA u7,yn dA u8,yn dA u9,yn dA u10,yn dA u11,yn dA u12,yn dA u13,yn dA u14,yn dA u15,yn dA u16,yn dA u17,yn dA u18,yn dA u19,yn dA u20,yn dA u21,yn dA u22,yn dA u23,yn dA u24,yn dA u25,yn dA u26,yn dA u27,yn dA u28,yn dA u29,yn dA u30,yn dA u31,yn dA u32,yn dA u33,yn dA u34,yn dA u35,yn dA u36,trivial⟩
def LV:List (Nat×List Row):=[(35,[RL]),(36,[RM]),(44,[RN])]
theorem jpw:LS Tryz.prog (wu LV):=
 RP (t:=LV) ⟨⟨zb dA v1,trivial⟩,⟨zb dA v2,trivial⟩,⟨zb dA v3,trivial⟩,trivial⟩
def CT:qt:={ bL:=fun k=>bif Nat.beq k 97 then none else dw.bL k,cm:=fun k=>match wu LV k with
 |some l=>I fun args=>yH args l
 |none=>dw.cm k,di:=fun k=>bif Nat.beq k 97 then I (fun args h=>LW args h jdc)else dw.di k,maps:=dw.maps }
theorem okB:qx Tryz.prog CT where
 fn:=by
  intro k f hf
  simp only[CT,Bool.cond_eq_ite]at hf
  split at hf
  ·cases hf
  ·exact dA.fn k f hf
 gF:=by
  intro k f hf
  simp only[CT]at hf
  split at hf
  ·rename_i l hl
   cases hf
   exact⟨tP (RR LV (by kernel_rfl) k l hl),fun args v o hv _ _=>jpw k l hl _ (LU hv)⟩
  ·exact dA.gF k f hf
 mixed:=dA.mixed
 fA:=by
  intro k f hf
  simp only[CT,Bool.cond_eq_ite]at hf
  split at hf
  ·next hb=>
   cases hf
   obtain rfl:=Nat.eq_of_beq_eq_true hb
   exact⟨tP (k:=97) (by kernel_rfl),fun args h v o h' hq=>q46 jbq _ (q0j hq)⟩
  ·exact dA.fA k f hf
 maps:=dA.maps
theorem jit:jz CT (hM CT 1000) 8 []=I (.bool true,false):=by kernel_rfl
theorem jec:IsoCall Tryz.prog 8 [] (.bool true) false:=zb okB jit
end Go.Z
