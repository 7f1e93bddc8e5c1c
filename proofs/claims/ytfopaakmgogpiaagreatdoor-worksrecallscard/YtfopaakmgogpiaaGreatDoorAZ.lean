/- The examples' lines, one by one, run by the kernel. -/
import Derived.Test.YtfopaakmgogpiaaGreatDoorAW
set_option linter.unusedVariables false
set_option linter.unusedSimpArgs false
set_option maxRecDepth 100000
open Option renaming some→I
namespace Go.Z
open Go Go.Abs
theorem u1:ze dy xA 97 r1.1 r1.2.1=I r1.2.2:=by kernel_rfl
theorem u9:ze dy xA 97 r9.1 r9.2.1=I r9.2.2:=by kernel_rfl
theorem u17:ze dy xA 97 M3.1 M3.2.1=I M3.2.2:=by kernel_rfl
theorem u25:ze dy xA 97 Nb.1 Nb.2.1=I Nb.2.2:=by kernel_rfl
theorem u33:ze dy xA 97 Nk.1 Nk.2.1=I Nk.2.2:=by kernel_rfl
theorem u2:ze dy xA 97 r2.1 r2.2.1=I r2.2.2:=by kernel_rfl
theorem u10:ze dy xA 97 D8.1 D8.2.1=I D8.2.2:=by kernel_rfl
theorem u18:ze dy xA 97 M4.1 M4.2.1=I M4.2.2:=by kernel_rfl
theorem u26:ze dy xA 97 Nc.1 Nc.2.1=I Nc.2.2:=by kernel_rfl
theorem u34:ze dy xA 97 Nn.1 Nn.2.1=I Nn.2.2:=by kernel_rfl
theorem u3:ze dy xA 97 r3.1 r3.2.1=I r3.2.2:=by kernel_rfl
theorem u11:ze dy xA 97 MX.1 MX.2.1=I MX.2.2:=by kernel_rfl
theorem u19:ze dy xA 97 M5.1 M5.2.1=I M5.2.2:=by kernel_rfl
theorem u27:ze dy xA 97 Nd.1 Nd.2.1=I Nd.2.2:=by kernel_rfl
theorem u35:ze dy xA 97 Np.1 Np.2.1=I Np.2.2:=by kernel_rfl
theorem u4:ze dy xA 97 r4.1 r4.2.1=I r4.2.2:=by kernel_rfl
theorem u12:ze dy xA 97 MY.1 MY.2.1=I MY.2.2:=by kernel_rfl
theorem u20:ze dy xA 97 M6.1 M6.2.1=I M6.2.2:=by kernel_rfl
theorem u28:ze dy xA 97 Nf.1 Nf.2.1=I Nf.2.2:=by kernel_rfl
theorem u36:ze dy xA 97 Nq.1 Nq.2.1=I Nq.2.2:=by kernel_rfl
theorem u5:ze dy xA 97 r5.1 r5.2.1=I r5.2.2:=by kernel_rfl
theorem u13:ze dy xA 97 MZ.1 MZ.2.1=I MZ.2.2:=by kernel_rfl
theorem u21:ze dy xA 97 M7.1 M7.2.1=I M7.2.2:=by kernel_rfl
theorem u29:ze dy xA 97 Ng.1 Ng.2.1=I Ng.2.2:=by kernel_rfl
theorem u6:ze dy xA 97 r6.1 r6.2.1=I r6.2.2:=by kernel_rfl
theorem u14:ze dy xA 97 M0.1 M0.2.1=I M0.2.2:=by kernel_rfl
theorem u22:ze dy xA 97 M8.1 M8.2.1=I M8.2.2:=by kernel_rfl
theorem u30:ze dy xA 97 Nh.1 Nh.2.1=I Nh.2.2:=by kernel_rfl
theorem u7:ze dy xA 97 r7.1 r7.2.1=I r7.2.2:=by kernel_rfl
theorem u15:ze dy xA 97 M1.1 M1.2.1=I M1.2.2:=by kernel_rfl
theorem u23:ze dy xA 97 M9.1 M9.2.1=I M9.2.2:=by kernel_rfl
theorem u31:ze dy xA 97 Ni.1 Ni.2.1=I Ni.2.2:=by kernel_rfl
theorem u8:ze dy xA 97 r8.1 r8.2.1=I r8.2.2:=by kernel_rfl
theorem u16:ze dy xA 97 M2.1 M2.2.1=I M2.2.2:=by kernel_rfl
theorem u24:ze dy xA 97 Na.1 Na.2.1=I Na.2.2:=by kernel_rfl
theorem u32:ze dy xA 97 Nj.1 Nj.2.1=I Nj.2.2:=by kernel_rfl
theorem v1:jy dy xA 35 Tw.1=I Tw.2:=by kernel_rfl
theorem v2:jy dy xA 36 Tx.1=I Tx.2:=by kernel_rfl
theorem v3:jy dy xA 44 Ty.1=I Ty.2:=by kernel_rfl
end Go.Z
namespace Go.Z
open Go Go.Abs Go.Proofs
def jdq:List dM:=[r1,r2,r3,r4,r5,r6,r7,r8,r9,D8,MX,MY,MZ,M0,M1,M2,M3,M4,M5,M6,M7,M8,M9,Na,Nb,Nc,Nd,Nf,Ng,Nh,Ni,Nj,Nk,Nn,Np,Nq]
theorem jcp:TE Tryz.prog 97 jdq:=⟨yo dC u1,yo dC u2,yo dC u3,yo dC u4,yo dC u5,yo dC u6,yo dC u7,yo dC u8,yo dC u9,yo dC u10,yo dC u11,yo dC u12,yo dC u13,yo dC u14,yo dC u15,yo dC u16,yo dC u17,yo dC u18,yo dC u19,yo dC u20,yo dC u21,yo dC u22,yo dC u23,yo dC u24,yo dC u25,yo dC u26,yo dC u27,yo dC u28,yo dC u29,yo dC u30,yo dC u31,yo dC u32,yo dC u33,yo dC u34,yo dC u35,yo dC u36,trivial⟩
def Nt:List (Nat×List Row):=[(35,[Tw]),(36,[Tx]),(44,[Ty])]
theorem jvi:Nr Tryz.prog (xl Nt):=
 TB (t:=Nt) ⟨⟨j9 dC v1,trivial⟩,⟨j9 dC v2,trivial⟩,⟨j9 dC v3,trivial⟩,trivial⟩
def D9:qr:={ bB:=fun k=>bif Nat.beq k 97 then none else dy.bB k,cn:=fun k=>match xl Nt k with
 |some l=>I fun args=>zV args l
 |none=>dy.cn k,dk:=fun k=>bif Nat.beq k 97 then I (fun args h=>Nu args h jdq)else dy.dk k,maps:=dy.maps }
theorem okB:qw Tryz.prog D9 where
 fn:=by
  intro k f hf
  simp only[D9,Bool.cond_eq_ite]at hf
  split at hf
  ·cases hf
  ·exact dC.fn k f hf
 gF:=by
  intro k f hf
  simp only[D9]at hf
  split at hf
  ·rename_i l hl
   cases hf
   exact⟨uD (TD Nt (by kernel_rfl) k l hl),fun args v o hv _ _=>jvi k l hl _ (Ns hv)⟩
  ·exact dC.gF k f hf
 mixed:=dC.mixed
 fD:=by
  intro k f hf
  simp only[D9,Bool.cond_eq_ite]at hf
  split at hf
  ·next hb=>
   cases hf
   obtain rfl:=Nat.eq_of_beq_eq_true hb
   exact⟨uD (k:=97) (by kernel_rfl),fun args h v o h' hq=>q32 jcp _ (q01 hq)⟩
  ·exact dC.fD k f hf
 maps:=dC.maps
theorem jiy:jy D9 (hZ D9 1000) 8 []=I (.bool true,false):=by kernel_rfl
theorem jfm:IsoCall Tryz.prog 8 [] (.bool true) false:=j9 okB jiy
end Go.Z
