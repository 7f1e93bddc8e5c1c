/- The examples' lines, one by one, run by the kernel. -/
import Derived.Test.YtimdocpnkimlfaaGreatDoorAW
set_option linter.unusedVariables false
set_option linter.unusedSimpArgs false
set_option maxRecDepth 100000
open Option renaming some→I
open Bool renaming cond_eq_ite→En,false→Ey
namespace Go.Z
open Go Go.Abs
theorem u1:qm ef xA 40 r1.1 r1.2.1=I r1.2.2:=by kernel_rfl
theorem u9:qm ef xA 40 r9.1 r9.2.1=I r9.2.2:=by kernel_rfl
theorem u17:qm ef xA 40 Ln.1 Ln.2.1=I Ln.2.2:=by kernel_rfl
theorem u25:qm ef xA 40 Lx.1 Lx.2.1=I Lx.2.2:=by kernel_rfl
theorem u33:qm ef xA 40 LH.1 LH.2.1=I LH.2.2:=by kernel_rfl
theorem u2:qm ef xA 40 r2.1 r2.2.1=I r2.2.2:=by kernel_rfl
theorem u10:qm ef xA 40 Lg.1 Lg.2.1=I Lg.2.2:=by kernel_rfl
theorem u18:qm ef xA 40 Lp.1 Lp.2.1=I Lp.2.2:=by kernel_rfl
theorem u26:qm ef xA 40 Ly.1 Ly.2.1=I Ly.2.2:=by kernel_rfl
theorem u34:qm ef xA 40 LI.1 LI.2.1=I LI.2.2:=by kernel_rfl
theorem u3:qm ef xA 40 r3.1 r3.2.1=I r3.2.2:=by kernel_rfl
theorem u11:qm ef xA 40 Lh.1 Lh.2.1=I Lh.2.2:=by kernel_rfl
theorem u19:qm ef xA 40 Lq.1 Lq.2.1=I Lq.2.2:=by kernel_rfl
theorem u27:qm ef xA 40 Lz.1 Lz.2.1=I Lz.2.2:=by kernel_rfl
theorem u35:qm ef xA 40 LJ.1 LJ.2.1=I LJ.2.2:=by kernel_rfl
theorem u4:qm ef xA 40 r4.1 r4.2.1=I r4.2.2:=by kernel_rfl
theorem u12:qm ef xA 40 Li.1 Li.2.1=I Li.2.2:=by kernel_rfl
theorem u20:qm ef xA 40 Lr.1 Lr.2.1=I Lr.2.2:=by kernel_rfl
theorem u28:qm ef xA 40 LA.1 LA.2.1=I LA.2.2:=by kernel_rfl
theorem u36:qm ef xA 40 LK.1 LK.2.1=I LK.2.2:=by kernel_rfl
theorem u5:qm ef xA 40 r5.1 r5.2.1=I r5.2.2:=by kernel_rfl
theorem u13:qm ef xA 40 Lj.1 Lj.2.1=I Lj.2.2:=by kernel_rfl
theorem u21:qm ef xA 40 Ls.1 Ls.2.1=I Ls.2.2:=by kernel_rfl
theorem u29:qm ef xA 40 LB.1 LB.2.1=I LB.2.2:=by kernel_rfl
theorem u6:qm ef xA 40 r6.1 r6.2.1=I r6.2.2:=by kernel_rfl
theorem u14:qm ef xA 40 Lk.1 Lk.2.1=I Lk.2.2:=by kernel_rfl
theorem u22:qm ef xA 40 Lt.1 Lt.2.1=I Lt.2.2:=by kernel_rfl
theorem u30:qm ef xA 40 LC.1 LC.2.1=I LC.2.2:=by kernel_rfl
theorem u7:qm ef xA 40 r7.1 r7.2.1=I r7.2.2:=by kernel_rfl
theorem u15:qm ef xA 40 Ll.1 Ll.2.1=I Ll.2.2:=by kernel_rfl
theorem u23:qm ef xA 40 Lu.1 Lu.2.1=I Lu.2.2:=by kernel_rfl
theorem u31:qm ef xA 40 LD.1 LD.2.1=I LD.2.2:=by kernel_rfl
theorem u8:qm ef xA 40 r8.1 r8.2.1=I r8.2.2:=by kernel_rfl
theorem u16:qm ef xA 40 Lm.1 Lm.2.1=I Lm.2.2:=by kernel_rfl
theorem u24:qm ef xA 40 Lw.1 Lw.2.1=I Lw.2.2:=by kernel_rfl
theorem u32:qm ef xA 40 LG.1 LG.2.1=I LG.2.2:=by kernel_rfl
theorem v1:qc ef xA 20 Ut.1=I Ut.2:=by kernel_rfl
theorem v2:qc ef xA 23 Uu.1=I Uu.2:=by kernel_rfl
theorem v3:qc ef xA 30 Uv.1=I Uv.2:=by kernel_rfl
end Go.Z
namespace Go.Z
open Go Go.Abs Go.Proofs
def jgt:List kh:=[r1,r2,r3,r4,r5,r6,r7,r8,r9,Lg,Lh,Li,Lj,Lk,Ll,Lm,Ln,Lp,Lq,Lr,Ls,Lt,Lu,Lw,Lx,Ly,Lz,LA,LB,LC,LD,LG,LH,LI,LJ,LK]
theorem jf9:UC Tryz.prog 40 jgt:=⟨j6 ei u1,j6 ei u2,j6 ei u3,j6 ei u4,j6 ei u5,j6 ei u6,j6 ei u7,j6 ei u8,j6 ei u9,j6 ei u10,j6 ei u11,j6 ei u12,j6 ei u13,j6 ei u14,j6 ei u15,j6 ei u16,j6 ei u17,j6 ei u18,j6 ei u19,j6 ei u20,j6 ei u21,j6 ei u22,j6 ei u23,j6 ei u24,j6 ei u25,j6 ei u26,j6 ei u27,j6 ei u28,j6 ei u29,j6 ei u30,j6 ei u31,j6 ei u32,j6 ei u33,j6 ei u34,j6 ei u35,j6 ei u36,trivial⟩
def LL:List (Nat×List Row):=[(20,[Ut]),(23,[Uu]),(30,[Uv])]
theorem jw7:Ux Tryz.prog (yH LL):=
 Uy (t:=LL) ⟨⟨qg ei v1,trivial⟩,⟨qg ei v2,trivial⟩,⟨qg ei v3,trivial⟩,trivial⟩
def Ep:zb:={ bQ:=fun k=>bif Nat.beq k 40 then none else ef.bQ k,cO:=fun k=>match yH LL k with
 |some l=>I fun args=>Eo args l
 |none=>ef.cO k,dP:=fun k=>bif Nat.beq k 40 then I (fun args h=>LM args h jgt)else ef.dP k,maps:=ef.maps }
theorem okB:bX Tryz.prog Ep where
 fn:=by
  intro k f hf
  simp only[Ep,En]at hf
  split at hf
  ·cases hf
  ·exact ei.fn k f hf
 iM:=by
  intro k f hf
  simp only[Ep]at hf
  split at hf
  ·rename_i l hl
   cases hf
   exact⟨vf (UA LL (by kernel_rfl) k l hl),fun args v o hv _ _=>jw7 k l hl _ (UB hv)⟩
  ·exact ei.iM k f hf
 mixed:=ei.mixed
 gh:=by
  intro k f hf
  simp only[Ep,En]at hf
  split at hf
  ·next hb=>
   cases hf
   obtain rfl:=Nat.eq_of_beq_eq_true hb
   exact⟨vf (k:=40) (by kernel_rfl),fun args h v o h' hq=>q33 jf9 _ (q0e hq)⟩
  ·exact ei.gh k f hf
 maps:=ei.maps
theorem jlj:qc Ep (iL Ep 1000) 15 []=I (.bool true,Ey):=by kernel_rfl
theorem jjf:IsoCall Tryz.prog 15 [] (.bool true) Ey:=qg okB jlj
end Go.Z
namespace Go.Z
open Go Go.Abs Go.Proofs
def tAw:List AVal→Option (AVal×Bool)
 | []=>I (.bool true,Ey)
 |_=>none
def UD:yI:=fun k=>bif Nat.beq k 15 then I tAw else none
def opZ:Nat→Bool:=fun k=>Nat.ble 3 k&&Nat.ble k 10
noncomputable def dp:zb:=mF pr UD opZ
theorem okZ:bX Tryz.prog dp:=jhe (okM ok0) (by
 intro k f hf
 simp only[UD,En]at hf
 split at hf
 ·next hb=>
  cases hf
  obtain rfl:=Nat.eq_of_beq_eq_true hb
  refine⟨vf (k:=15) (by kernel_rfl),fun args v o h _ _=>?_⟩
  cases args with
  |nil=>cases h;exact jjf
  |cons a l=>cases h
 ·cases hf)
theorem oO {k}(ho:opZ k=Ey)(hm:UD k=none){args v o}(h:qc pr (X pr) k args=I (v,o))(hv:below 0 v=true):qc dp (X dp) k args=I (v,o):=jc2 ho hm h hv
def Ge:Option Bool:=I true
theorem Q8 {r}(h:Ge=I r):qc dp (X dp) 15 []=I (.bool r,Ey):=by
 cases h
 exact jc1 (f:=tAw) rfl rfl rfl rfl
end Go.Z
