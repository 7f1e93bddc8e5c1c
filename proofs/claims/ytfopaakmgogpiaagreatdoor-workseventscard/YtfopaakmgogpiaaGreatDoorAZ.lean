/- The examples' lines, one by one, run by the kernel. -/
import Derived.Test.YtfopaakmgogpiaaGreatDoorAW
set_option linter.unusedVariables false
set_option linter.unusedSimpArgs false
set_option maxRecDepth 100000
namespace Go.Z
open Go Go.Abs
theorem u1:zf prA xA 97 r1.1 r1.2.1=some r1.2.2:=by kernel_rfl
theorem u9:zf prA xA 97 r9.1 r9.2.1=some r9.2.2:=by kernel_rfl
theorem u17:zf prA xA 97 r17.1 r17.2.1=some r17.2.2:=by kernel_rfl
theorem u25:zf prA xA 97 r25.1 r25.2.1=some r25.2.2:=by kernel_rfl
theorem u33:zf prA xA 97 r33.1 r33.2.1=some r33.2.2:=by kernel_rfl
theorem u2:zf prA xA 97 r2.1 r2.2.1=some r2.2.2:=by kernel_rfl
theorem u10:zf prA xA 97 r10.1 r10.2.1=some r10.2.2:=by kernel_rfl
theorem u18:zf prA xA 97 r18.1 r18.2.1=some r18.2.2:=by kernel_rfl
theorem u26:zf prA xA 97 r26.1 r26.2.1=some r26.2.2:=by kernel_rfl
theorem u34:zf prA xA 97 r34.1 r34.2.1=some r34.2.2:=by kernel_rfl
theorem u3:zf prA xA 97 r3.1 r3.2.1=some r3.2.2:=by kernel_rfl
theorem u11:zf prA xA 97 r11.1 r11.2.1=some r11.2.2:=by kernel_rfl
theorem u19:zf prA xA 97 r19.1 r19.2.1=some r19.2.2:=by kernel_rfl
theorem u27:zf prA xA 97 r27.1 r27.2.1=some r27.2.2:=by kernel_rfl
theorem u35:zf prA xA 97 r35.1 r35.2.1=some r35.2.2:=by kernel_rfl
theorem u4:zf prA xA 97 r4.1 r4.2.1=some r4.2.2:=by kernel_rfl
theorem u12:zf prA xA 97 r12.1 r12.2.1=some r12.2.2:=by kernel_rfl
theorem u20:zf prA xA 97 r20.1 r20.2.1=some r20.2.2:=by kernel_rfl
theorem u28:zf prA xA 97 r28.1 r28.2.1=some r28.2.2:=by kernel_rfl
theorem u36:zf prA xA 97 r36.1 r36.2.1=some r36.2.2:=by kernel_rfl
theorem u5:zf prA xA 97 r5.1 r5.2.1=some r5.2.2:=by kernel_rfl
theorem u13:zf prA xA 97 r13.1 r13.2.1=some r13.2.2:=by kernel_rfl
theorem u21:zf prA xA 97 r21.1 r21.2.1=some r21.2.2:=by kernel_rfl
theorem u29:zf prA xA 97 r29.1 r29.2.1=some r29.2.2:=by kernel_rfl
theorem u6:zf prA xA 97 r6.1 r6.2.1=some r6.2.2:=by kernel_rfl
theorem u14:zf prA xA 97 r14.1 r14.2.1=some r14.2.2:=by kernel_rfl
theorem u22:zf prA xA 97 r22.1 r22.2.1=some r22.2.2:=by kernel_rfl
theorem u30:zf prA xA 97 r30.1 r30.2.1=some r30.2.2:=by kernel_rfl
theorem u7:zf prA xA 97 r7.1 r7.2.1=some r7.2.2:=by kernel_rfl
theorem u15:zf prA xA 97 r15.1 r15.2.1=some r15.2.2:=by kernel_rfl
theorem u23:zf prA xA 97 r23.1 r23.2.1=some r23.2.2:=by kernel_rfl
theorem u31:zf prA xA 97 r31.1 r31.2.1=some r31.2.2:=by kernel_rfl
theorem u8:zf prA xA 97 r8.1 r8.2.1=some r8.2.2:=by kernel_rfl
theorem u16:zf prA xA 97 r16.1 r16.2.1=some r16.2.2:=by kernel_rfl
theorem u24:zf prA xA 97 r24.1 r24.2.1=some r24.2.2:=by kernel_rfl
theorem u32:zf prA xA 97 r32.1 r32.2.1=some r32.2.2:=by kernel_rfl
theorem v1:jy prA xA 35 ee1.1=some ee1.2:=by kernel_rfl
theorem v2:jy prA xA 36 ee2.1=some ee2.2:=by kernel_rfl
theorem v3:jy prA xA 44 ee3.1=some ee3.2:=by kernel_rfl
end Go.Z
namespace Go.Z
open Go Go.Abs Go.Proofs
def jc3:List qaw:=[r1,r2,r3,r4,r5,r6,r7,r8,r9,r10,r11,r12,r13,r14,r15,r16,r17,r18,r19,r20,r21,r22,r23,r24,r25,r26,r27,r28,r29,r30,r31,r32,r33,r34,r35,r36]
theorem jcv:jd0 Tryz.prog 97 jc3:=⟨yp okA u1,yp okA u2,yp okA u3,yp okA u4,yp okA u5,yp okA u6,yp okA u7,yp okA u8,yp okA u9,yp okA u10,yp okA u11,yp okA u12,yp okA u13,yp okA u14,yp okA u15,yp okA u16,yp okA u17,yp okA u18,yp okA u19,yp okA u20,yp okA u21,yp okA u22,yp okA u23,yp okA u24,yp okA u25,yp okA u26,yp okA u27,yp okA u28,yp okA u29,yp okA u30,yp okA u31,yp okA u32,yp okA u33,yp okA u34,yp okA u35,yp okA u36,trivial⟩
def q1h:List (Nat×List Row):=[(35,[ee1]),(36,[ee2]),(44,[ee3])]
theorem jt5:q1p Tryz.prog (qg1 q1h):=
 q2c (t:=q1h) ⟨⟨za okA v1,trivial⟩,⟨za okA v2,trivial⟩,⟨za okA v3,trivial⟩,trivial⟩
def prB:qt:={ fns:=fun k=>bif Nat.beq k 97 then none else prA.fns k,prims:=fun k=>match qg1 q1h k with
 |some l=>some fun args=>qh4 args l
 |none=>prA.prims k,sprims:=fun k=>bif Nat.beq k 97 then some (fun args h=>qxb args h jc3)else prA.sprims k,maps:=prA.maps }
theorem okB:qx Tryz.prog prB where
 fn:=by
  intro k f hf
  simp only[prB,Bool.cond_eq_ite]at hf
  split at hf
  ·cases hf
  ·exact okA.fn k f hf
 prim:=by
  intro k f hf
  simp only[prB]at hf
  split at hf
  ·rename_i l hl
   cases hf
   exact⟨qb1 (q2y q1h (by kernel_rfl) k l hl),fun args v o hv _ _=>jt5 k l hl _ (qij hv)⟩
  ·exact okA.prim k f hf
 mixed:=okA.mixed
 sprim:=by
  intro k f hf
  simp only[prB,Bool.cond_eq_ite]at hf
  split at hf
  ·next hb=>
   cases hf
   obtain rfl:=Nat.eq_of_beq_eq_true hb
   exact⟨qb1 (k:=97) (by kernel_rfl),fun args h v o h' hq=>q4p jcv _ (qz8 hq)⟩
  ·exact okA.sprim k f hf
 maps:=okA.maps
theorem jdw:jy prB (qbc prB 1000) 8 []=some (.bool true,false):=by kernel_rfl
theorem jh6:IsoCall Tryz.prog 8 [] (.bool true) false:=za okB jdw
end Go.Z
