/- The examples' lines, one by one, run by the kernel. -/
import Derived.Test.YtfopaakmgogpiaaGreatDoorAW
set_option linter.unusedVariables false
set_option linter.unusedSimpArgs false
set_option maxRecDepth 100000
open Option renaming some→I
namespace Go.Z
open Go Go.Abs
theorem u1:zf dA xA 97 r1.1 r1.2.1=I r1.2.2:=by kernel_rfl
theorem u9:zf dA xA 97 r9.1 r9.2.1=I r9.2.2:=by kernel_rfl
theorem u17:zf dA xA 97 Ls.1 Ls.2.1=I Ls.2.2:=by kernel_rfl
theorem u25:zf dA xA 97 LB.1 LB.2.1=I LB.2.2:=by kernel_rfl
theorem u33:zf dA xA 97 LL.1 LL.2.1=I LL.2.2:=by kernel_rfl
theorem u2:zf dA xA 97 r2.1 r2.2.1=I r2.2.2:=by kernel_rfl
theorem u10:zf dA xA 97 yU.1 yU.2.1=I yU.2.2:=by kernel_rfl
theorem u18:zf dA xA 97 Lt.1 Lt.2.1=I Lt.2.2:=by kernel_rfl
theorem u26:zf dA xA 97 LC.1 LC.2.1=I LC.2.2:=by kernel_rfl
theorem u34:zf dA xA 97 LM.1 LM.2.1=I LM.2.2:=by kernel_rfl
theorem u3:zf dA xA 97 r3.1 r3.2.1=I r3.2.2:=by kernel_rfl
theorem u11:zf dA xA 97 Ll.1 Ll.2.1=I Ll.2.2:=by kernel_rfl
theorem u19:zf dA xA 97 Lu.1 Lu.2.1=I Lu.2.2:=by kernel_rfl
theorem u27:zf dA xA 97 LD.1 LD.2.1=I LD.2.2:=by kernel_rfl
theorem u35:zf dA xA 97 LN.1 LN.2.1=I LN.2.2:=by kernel_rfl
theorem u4:zf dA xA 97 r4.1 r4.2.1=I r4.2.2:=by kernel_rfl
theorem u12:zf dA xA 97 Lm.1 Lm.2.1=I Lm.2.2:=by kernel_rfl
theorem u20:zf dA xA 97 Lw.1 Lw.2.1=I Lw.2.2:=by kernel_rfl
theorem u28:zf dA xA 97 LG.1 LG.2.1=I LG.2.2:=by kernel_rfl
theorem u36:zf dA xA 97 LO.1 LO.2.1=I LO.2.2:=by kernel_rfl
theorem u5:zf dA xA 97 r5.1 r5.2.1=I r5.2.2:=by kernel_rfl
theorem u13:zf dA xA 97 Ln.1 Ln.2.1=I Ln.2.2:=by kernel_rfl
theorem u21:zf dA xA 97 Lx.1 Lx.2.1=I Lx.2.2:=by kernel_rfl
theorem u29:zf dA xA 97 LH.1 LH.2.1=I LH.2.2:=by kernel_rfl
theorem u6:zf dA xA 97 r6.1 r6.2.1=I r6.2.2:=by kernel_rfl
theorem u14:zf dA xA 97 Lp.1 Lp.2.1=I Lp.2.2:=by kernel_rfl
theorem u22:zf dA xA 97 Ly.1 Ly.2.1=I Ly.2.2:=by kernel_rfl
theorem u30:zf dA xA 97 LI.1 LI.2.1=I LI.2.2:=by kernel_rfl
theorem u7:zf dA xA 97 r7.1 r7.2.1=I r7.2.2:=by kernel_rfl
theorem u15:zf dA xA 97 Lq.1 Lq.2.1=I Lq.2.2:=by kernel_rfl
theorem u23:zf dA xA 97 Lz.1 Lz.2.1=I Lz.2.2:=by kernel_rfl
theorem u31:zf dA xA 97 LJ.1 LJ.2.1=I LJ.2.2:=by kernel_rfl
theorem u8:zf dA xA 97 r8.1 r8.2.1=I r8.2.2:=by kernel_rfl
theorem u16:zf dA xA 97 Lr.1 Lr.2.1=I Lr.2.2:=by kernel_rfl
theorem u24:zf dA xA 97 LA.1 LA.2.1=I LA.2.2:=by kernel_rfl
theorem u32:zf dA xA 97 LK.1 LK.2.1=I LK.2.2:=by kernel_rfl
theorem v1:jy dA xA 35 RJ.1=I RJ.2:=by kernel_rfl
theorem v2:jy dA xA 36 RL.1=I RL.2:=by kernel_rfl
theorem v3:jy dA xA 44 RM.1=I RM.2:=by kernel_rfl
end Go.Z
namespace Go.Z
open Go Go.Abs Go.Proofs
def jbs:List dL:=[r1,r2,r3,r4,r5,r6,r7,r8,r9,yU,Ll,Lm,Ln,Lp,Lq,Lr,Ls,Lt,Lu,Lw,Lx,Ly,Lz,LA,LB,LC,LD,LG,LH,LI,LJ,LK,LL,LM,LN,LO]
theorem jc7:RR Tryz.prog 97 jbs:=⟨yo dD u1,yo dD u2,yo dD u3,yo dD u4,yo dD u5,yo dD u6,yo dD u7,yo dD u8,yo dD u9,yo dD u10,yo dD u11,yo dD u12,yo dD u13,yo dD u14,yo dD u15,yo dD u16,yo dD u17,yo dD u18,yo dD u19,yo dD u20,yo dD u21,yo dD u22,yo dD u23,yo dD u24,yo dD u25,yo dD u26,yo dD u27,yo dD u28,yo dD u29,yo dD u30,yo dD u31,yo dD u32,yo dD u33,yo dD u34,yo dD u35,yo dD u36,trivial⟩
def LR:List (Nat×List Row):=[(35,[RJ]),(36,[RL]),(44,[RM])]
theorem js0:LP Tryz.prog (wK LR):=
 RO (t:=LR) ⟨⟨za dD v1,trivial⟩,⟨za dD v2,trivial⟩,⟨za dD v3,trivial⟩,trivial⟩
def Db:qt:={ bj:=fun k=>bif Nat.beq k 97 then none else dA.bj k,cq:=fun k=>match wK LR k with
 |some l=>I fun args=>yV args l
 |none=>dA.cq k,dl:=fun k=>bif Nat.beq k 97 then I (fun args h=>LS args h jbs)else dA.dl k,maps:=dA.maps }
theorem okB:qx Tryz.prog Db where
 fn:=by
  intro k f hf
  simp only[Db,Bool.cond_eq_ite]at hf
  split at hf
  ·cases hf
  ·exact dD.fn k f hf
 gG:=by
  intro k f hf
  simp only[Db]at hf
  split at hf
  ·rename_i l hl
   cases hf
   exact⟨tU (RQ LR (by kernel_rfl) k l hl),fun args v o hv _ _=>js0 k l hl _ (LQ hv)⟩
  ·exact dD.gG k f hf
 mixed:=dD.mixed
 fD:=by
  intro k f hf
  simp only[Db,Bool.cond_eq_ite]at hf
  split at hf
  ·next hb=>
   cases hf
   obtain rfl:=Nat.eq_of_beq_eq_true hb
   exact⟨tU (k:=97) (by kernel_rfl),fun args h v o h' hq=>q4j jc7 _ (qz7 hq)⟩
  ·exact dD.fD k f hf
 maps:=dD.maps
theorem jfa:jy Db (hZ Db 1000) 8 []=I (.bool true,false):=by kernel_rfl
theorem jeh:IsoCall Tryz.prog 8 [] (.bool true) false:=za okB jfa
end Go.Z
