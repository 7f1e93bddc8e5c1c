/- The examples' lines, one by one, run by the kernel. -/
import Derived.Test.YtimdocpnkimlfaaGreatDoorLA
set_option linter.unusedVariables false
set_option linter.unusedSimpArgs false
set_option maxRecDepth 100000
open Option renaming some→I
open Bool renaming cond_eq_ite→En,false→E3
namespace Go.Z
open Go Go.Abs
theorem u1:ql dT xA 40 r1.1 r1.2.1=I r1.2.2:=by kernel_rfl
theorem u9:ql dT xA 40 r9.1 r9.2.1=I r9.2.2:=by kernel_rfl
theorem u17:ql dT xA 40 Kf.1 Kf.2.1=I Kf.2.2:=by kernel_rfl
theorem u25:ql dT xA 40 Kg.1 Kg.2.1=I Kg.2.2:=by kernel_rfl
theorem u33:ql dT xA 40 Kh.1 Kh.2.1=I Kh.2.2:=by kernel_rfl
theorem u2:ql dT xA 40 r2.1 r2.2.1=I r2.2.2:=by kernel_rfl
theorem u10:ql dT xA 40 Ki.1 Ki.2.1=I Ki.2.2:=by kernel_rfl
theorem u18:ql dT xA 40 Kj.1 Kj.2.1=I Kj.2.2:=by kernel_rfl
theorem u26:ql dT xA 40 Kk.1 Kk.2.1=I Kk.2.2:=by kernel_rfl
theorem u34:ql dT xA 40 Kl.1 Kl.2.1=I Kl.2.2:=by kernel_rfl
theorem u3:ql dT xA 40 r3.1 r3.2.1=I r3.2.2:=by kernel_rfl
theorem u11:ql dT xA 40 Km.1 Km.2.1=I Km.2.2:=by kernel_rfl
theorem u19:ql dT xA 40 Kn.1 Kn.2.1=I Kn.2.2:=by kernel_rfl
theorem u27:ql dT xA 40 Ko.1 Ko.2.1=I Ko.2.2:=by kernel_rfl
theorem u35:ql dT xA 40 Kp.1 Kp.2.1=I Kp.2.2:=by kernel_rfl
theorem u4:ql dT xA 40 r4.1 r4.2.1=I r4.2.2:=by kernel_rfl
theorem u12:ql dT xA 40 Kq.1 Kq.2.1=I Kq.2.2:=by kernel_rfl
theorem u20:ql dT xA 40 Kr.1 Kr.2.1=I Kr.2.2:=by kernel_rfl
theorem u28:ql dT xA 40 Ks.1 Ks.2.1=I Ks.2.2:=by kernel_rfl
theorem u36:ql dT xA 40 Kt.1 Kt.2.1=I Kt.2.2:=by kernel_rfl
theorem u5:ql dT xA 40 r5.1 r5.2.1=I r5.2.2:=by kernel_rfl
theorem u13:ql dT xA 40 Ku.1 Ku.2.1=I Ku.2.2:=by kernel_rfl
theorem u21:ql dT xA 40 Kv.1 Kv.2.1=I Kv.2.2:=by kernel_rfl
theorem u29:ql dT xA 40 Kx.1 Kx.2.1=I Kx.2.2:=by kernel_rfl
theorem u6:ql dT xA 40 r6.1 r6.2.1=I r6.2.2:=by kernel_rfl
theorem u14:ql dT xA 40 Ky.1 Ky.2.1=I Ky.2.2:=by kernel_rfl
theorem u22:ql dT xA 40 Kz.1 Kz.2.1=I Kz.2.2:=by kernel_rfl
theorem u30:ql dT xA 40 KA.1 KA.2.1=I KA.2.2:=by kernel_rfl
theorem u7:ql dT xA 40 r7.1 r7.2.1=I r7.2.2:=by kernel_rfl
theorem u15:ql dT xA 40 KB.1 KB.2.1=I KB.2.2:=by kernel_rfl
theorem u23:ql dT xA 40 KC.1 KC.2.1=I KC.2.2:=by kernel_rfl
theorem u31:ql dT xA 40 KD.1 KD.2.1=I KD.2.2:=by kernel_rfl
theorem u8:ql dT xA 40 r8.1 r8.2.1=I r8.2.2:=by kernel_rfl
theorem u16:ql dT xA 40 KE.1 KE.2.1=I KE.2.2:=by kernel_rfl
theorem u24:ql dT xA 40 KF.1 KF.2.1=I KF.2.2:=by kernel_rfl
theorem u32:ql dT xA 40 KG.1 KG.2.1=I KG.2.2:=by kernel_rfl
theorem v1:qc dT xA 20 Qm.1=I Qm.2:=by kernel_rfl
theorem v2:qc dT xA 23 Qn.1=I Qn.2:=by kernel_rfl
theorem v3:qc dT xA 30 Qo.1=I Qo.2:=by kernel_rfl
end Go.Z
namespace Go.Z
open Go Go.Abs Go.Proofs
def jfx:List kh:=[r1,r2,r3,r4,r5,r6,r7,r8,r9,Ki,Km,Kq,Ku,Ky,KB,KE,Kf,Kj,Kn,Kr,Kv,Kz,KC,KF,Kg,Kk,Ko,Ks,Kx,KA,KD,KG,Kh,Kl,Kp,Kt]
theorem jf1:Qp Tryz.prog 40 jfx:=⟨jx dX u1,jx dX u2,jx dX u3,jx dX u4,jx dX u5,jx dX u6,jx dX u7,jx dX u8,jx dX u9,jx dX u10,jx dX u11,jx dX u12,jx dX u13,jx dX u14,jx dX u15,jx dX u16,jx dX u17,jx dX u18,jx dX u19,jx dX u20,jx dX u21,jx dX u22,jx dX u23,jx dX u24,jx dX u25,jx dX u26,jx dX u27,jx dX u28,jx dX u29,jx dX u30,jx dX u31,jx dX u32,jx dX u33,jx dX u34,jx dX u35,jx dX u36,trivial⟩
def KH:List (Nat×List Row):=[(20,[Qm]),(23,[Qn]),(30,[Qo])]
theorem jvd:Qq Tryz.prog (xJ KH):=
 Qr (t:=KH) ⟨⟨qg dX v1,trivial⟩,⟨qg dX v2,trivial⟩,⟨qg dX v3,trivial⟩,trivial⟩
def Dm:j8:={ bM:=fun k=>bif Nat.beq k 40 then none else dT.bM k,cG:=fun k=>match xJ KH k with
 |some l=>I fun args=>Dn args l
 |none=>dT.cG k,dG:=fun k=>bif Nat.beq k 40 then I (fun args h=>KI args h jfx)else dT.dG k,maps:=dT.maps }
theorem okB:bW Tryz.prog Dm where
 fn:=by
  intro k f hf
  simp only[Dm,En]at hf
  split at hf
  ·cases hf
  ·exact dX.fn k f hf
 iE:=by
  intro k f hf
  simp only[Dm]at hf
  split at hf
  ·rename_i l hl
   cases hf
   exact⟨uW (Qs KH (by kernel_rfl) k l hl),fun args v o hv _ _=>jvd k l hl _ (Qt hv)⟩
  ·exact dX.iE k f hf
 mixed:=dX.mixed
 fU:=by
  intro k f hf
  simp only[Dm,En]at hf
  split at hf
  ·next hb=>
   cases hf
   obtain rfl:=Nat.eq_of_beq_eq_true hb
   exact⟨uW (k:=40) (by kernel_rfl),fun args h v o h' hq=>q4l jf1 _ (qzy hq)⟩
  ·exact dX.fU k f hf
 maps:=dX.maps
theorem jld:qc Dm (iF Dm 1000) 15 []=I (.bool true,E3):=by kernel_rfl
theorem jky:IsoCall Tryz.prog 15 [] (.bool true) E3:=qg okB jld
end Go.Z
namespace Go.Z
open Go Go.Abs Go.Proofs
def tAw:List AVal→Option (AVal×Bool)
 | []=>I (.bool true,E3)
 |_=>none
def Qu:xK:=fun k=>bif Nat.beq k 15 then I tAw else none
def opZ:Nat→Bool:=fun k=>Nat.ble 3 k&&Nat.ble k 10
noncomputable def gA:j8:=mf pr Qu opZ
theorem okZ:bW Tryz.prog gA:=jg5 (okM ok0) (by
 intro k f hf
 simp only[Qu,En]at hf
 split at hf
 ·next hb=>
  cases hf
  obtain rfl:=Nat.eq_of_beq_eq_true hb
  refine⟨uW (k:=15) (by kernel_rfl),fun args v o h _ _=>?_⟩
  cases args with
  |nil=>cases h;exact jky
  |cons a l=>cases h
 ·cases hf)
theorem Dp {k}(ho:opZ k=E3)(hm:Qu k=none){args v o}(h:qc pr (X pr) k args=I (v,o))(hv:below 0 v=true):qc gA (X gA) k args=I (v,o):=jaj ho hm h hv
def Ff:Option Bool:=I true
theorem Q8 {r}(h:Ff=I r):qc gA (X gA) 15 []=I (.bool r,E3):=by
 cases h
 exact jc8 (f:=tAw) rfl rfl rfl rfl
end Go.Z
