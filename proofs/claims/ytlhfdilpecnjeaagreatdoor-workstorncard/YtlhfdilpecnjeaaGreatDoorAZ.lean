/- The examples' lines, one by one, run by the kernel. -/
import Derived.Test.YtlhfdilpecnjeaaGreatDoorLA
set_option linter.unusedVariables false
set_option linter.unusedSimpArgs false
set_option maxRecDepth 100000
noncomputable section
open Option renaming some->I
open Bool renaming cond_eq_ite->En
namespace Go.Z
open Go Go.Abs
theorem u1:ai dZ xA 10 r1.1 r1.2.1=I r1.2.2:=by kernel_rfl
theorem u9:ai dZ xA 10 r9.1 r9.2.1=I r9.2.2:=by kernel_rfl
theorem u17:ai dZ xA 10 Mr.1 Mr.2.1=I Mr.2.2:=by kernel_rfl
theorem u25:ai dZ xA 10 Ms.1 Ms.2.1=I Ms.2.2:=by kernel_rfl
theorem u33:ai dZ xA 10 Mt.1 Mt.2.1=I Mt.2.2:=by kernel_rfl
theorem u2:ai dZ xA 10 r2.1 r2.2.1=I r2.2.2:=by kernel_rfl
theorem u10:ai dZ xA 10 Mu.1 Mu.2.1=I Mu.2.2:=by kernel_rfl
theorem u18:ai dZ xA 10 Mv.1 Mv.2.1=I Mv.2.2:=by kernel_rfl
theorem u26:ai dZ xA 10 Mw.1 Mw.2.1=I Mw.2.2:=by kernel_rfl
theorem u34:ai dZ xA 10 Mx.1 Mx.2.1=I Mx.2.2:=by kernel_rfl
theorem u3:ai dZ xA 10 r3.1 r3.2.1=I r3.2.2:=by kernel_rfl
theorem u11:ai dZ xA 10 My.1 My.2.1=I My.2.2:=by kernel_rfl
theorem u19:ai dZ xA 10 Mz.1 Mz.2.1=I Mz.2.2:=by kernel_rfl
theorem u27:ai dZ xA 10 MA.1 MA.2.1=I MA.2.2:=by kernel_rfl
theorem u35:ai dZ xA 10 MB.1 MB.2.1=I MB.2.2:=by kernel_rfl
theorem u4:ai dZ xA 10 r4.1 r4.2.1=I r4.2.2:=by kernel_rfl
theorem u12:ai dZ xA 10 MC.1 MC.2.1=I MC.2.2:=by kernel_rfl
theorem u20:ai dZ xA 10 MD.1 MD.2.1=I MD.2.2:=by kernel_rfl
theorem u28:ai dZ xA 10 ME.1 ME.2.1=I ME.2.2:=by kernel_rfl
theorem u36:ai dZ xA 10 MF.1 MF.2.1=I MF.2.2:=by kernel_rfl
theorem u5:ai dZ xA 10 r5.1 r5.2.1=I r5.2.2:=by kernel_rfl
theorem u13:ai dZ xA 10 MG.1 MG.2.1=I MG.2.2:=by kernel_rfl
theorem u21:ai dZ xA 10 MH.1 MH.2.1=I MH.2.2:=by kernel_rfl
theorem u29:ai dZ xA 10 MI.1 MI.2.1=I MI.2.2:=by kernel_rfl
theorem u6:ai dZ xA 10 r6.1 r6.2.1=I r6.2.2:=by kernel_rfl
theorem u14:ai dZ xA 10 MJ.1 MJ.2.1=I MJ.2.2:=by kernel_rfl
theorem u22:ai dZ xA 10 MK.1 MK.2.1=I MK.2.2:=by kernel_rfl
theorem u30:ai dZ xA 10 ML.1 ML.2.1=I ML.2.2:=by kernel_rfl
theorem u7:ai dZ xA 10 r7.1 r7.2.1=I r7.2.2:=by kernel_rfl
theorem u15:ai dZ xA 10 MN.1 MN.2.1=I MN.2.2:=by kernel_rfl
theorem u23:ai dZ xA 10 MO.1 MO.2.1=I MO.2.2:=by kernel_rfl
theorem u31:ai dZ xA 10 MP.1 MP.2.1=I MP.2.2:=by kernel_rfl
theorem u8:ai dZ xA 10 r8.1 r8.2.1=I r8.2.2:=by kernel_rfl
theorem u16:ai dZ xA 10 MQ.1 MQ.2.1=I MQ.2.2:=by kernel_rfl
theorem u24:ai dZ xA 10 MR.1 MR.2.1=I MR.2.2:=by kernel_rfl
theorem u32:ai dZ xA 10 MS.1 MS.2.1=I MS.2.2:=by kernel_rfl
theorem v1:ae dZ xA 22 SQ.1=I SQ.2:=by kernel_rfl
theorem v2:ae dZ xA 23 SR.1=I SR.2:=by kernel_rfl
theorem v3:ae dZ xA 17 SU.1=I SU.2:=by kernel_rfl
end Go.Z
namespace Go.Z
open Go Go.Abs Go.Proofs
def jjn:List kl:=[r1,r2,r3,r4,r5,r6,r7,r8,r9,Mu,My,MC,MG,MJ,MN,MQ,Mr,Mv,Mz,MD,MH,MK,MO,MR,Ms,Mw,MA,ME,MI,ML,MP,MS,Mt,Mx,MB,MF]
theorem jht:SV Tryz.prog 10 jjn:=⟨j9 dS u1,j9 dS u2,j9 dS u3,j9 dS u4,j9 dS u5,j9 dS u6,j9 dS u7,j9 dS u8,j9 dS u9,j9 dS u10,j9 dS u11,j9 dS u12,j9 dS u13,j9 dS u14,j9 dS u15,j9 dS u16,j9 dS u17,j9 dS u18,j9 dS u19,j9 dS u20,j9 dS u21,j9 dS u22,j9 dS u23,j9 dS u24,j9 dS u25,j9 dS u26,j9 dS u27,j9 dS u28,j9 dS u29,j9 dS u30,j9 dS u31,j9 dS u32,j9 dS u33,j9 dS u34,j9 dS u35,j9 dS u36,trivial⟩
def MT:List (Nat×List Row):=[(22,[SQ]),(23,[SR]),(17,[SU])]
theorem jy2:SW Tryz.prog (xF MT):=
 SX (t:=MT) ⟨⟨jj dS v1,trivial⟩,⟨jj dS v2,trivial⟩,⟨jj dS v3,trivial⟩,trivial⟩
def Fl:j8:={ br:=fun k=>bif Nat.beq k 10 then none else dZ.br k,cB:=fun k=>match xF MT k with
 |some l=>I fun args=>Fm args l
 |none=>dZ.cB k,cF:=fun k=>bif Nat.beq k 10 then I (fun args h=>MU args h jjn)else dZ.cF k,maps:=dZ.maps }
theorem okB:bX Tryz.prog Fl where
 fn:=by
  intro k f hf;simp only[Fl,En]at hf;split at hf
  .cases hf
  .exact dS.fn k f hf
 fM:=by
  intro k f hf;simp only[Fl]at hf;split at hf
  .rename_i l hl;cases hf;exact⟨ui (SY MT (by kernel_rfl) k l hl),fun args v o hv _ _=>jy2 k l hl _ (SZ hv)⟩
  .exact dS.fM k f hf
 mixed:=dS.mixed
 eU:=by
  intro k f hf;simp only[Fl,En]at hf;split at hf
  .next hb=>
   cases hf;obtain rfl:=Nat.eq_of_beq_eq_true hb;exact⟨ui (k:=10) (by kernel_rfl),fun args h v o h' hq=>jad jht _ (q4w hq)⟩
  .exact dS.eU k f hf
 maps:=dS.maps
theorem jqm:ae Fl (iX Fl 1000) 5 []=I (.bool true,false):=by kernel_rfl
theorem jk1:IsoCall Tryz.prog 5 [] (.bool true) false:=jj okB jqm
end Go.Z
namespace Go.Z
open Go Go.Abs Go.Proofs
def S1:List AVal->Option (AVal×Bool)
 | []=>I (.bool true,false)|_=>none
def jqx:Aw:=fun k=>bif Nat.beq k 5 then I S1 else none
def opZ:Nat->Bool:=fun k=>Nat.ble 3 k&&Nat.ble k 4
def prZ:j8:=uj pr jqx opZ
theorem okZ:bX Tryz.prog prZ:=jmw (okM S2) (by
 intro k f hf;simp only[jqx,En]at hf;split at hf
 ·next hb=>
  cases hf;obtain rfl:=Nat.eq_of_beq_eq_true hb;refine⟨ui (k:=5) (by kernel_rfl),fun args v o h _ _=>?_⟩
  cases args with
  |nil=>cases h;exact jk1|cons a l=>cases h
 ·cases hf)
def E5:Option Bool:=I true
end Go.Z
end
