/-
  The compiled functions are those of the given program.
-/
import Derived.Test.YtbjckbpblomblaaZC
import Derived.Test.YtbjckbpblomblaaAbsH
import Derived.Test.YtbjckbpblomblaaChecked
import Derived.KernelRfl
set_option linter.unusedVariables false
set_option linter.unusedSimpArgs false
set_option maxRecDepth 100000
namespace Go.Z
open Go Go.Abs Go.Proofs
def Is (k:Nat) (f:AFun):Prop:=∃ fn h,Try.prog.funcs[k]?=some fn∧cFun Try.prog h fn=some f
theorem ok3:Is 3 c3:=⟨Try.f3,h3,Try.func3,by kernel_rfl⟩
theorem ok4:Is 4 c4:=⟨Try.f4,h4,Try.func4,by kernel_rfl⟩
theorem ok5:Is 5 c5:=⟨Try.f5,h5,Try.func5,by kernel_rfl⟩
theorem ok6:Is 6 c6:=⟨Try.f6,h6,Try.func6,by kernel_rfl⟩
theorem ok7:Is 7 c7:=⟨Try.f7,h7,Try.func7,by kernel_rfl⟩
theorem ok8:Is 8 c8:=⟨Try.f8,h8,Try.func8,by kernel_rfl⟩
theorem ok9:Is 9 c9:=⟨Try.f9,h9,Try.func9,by kernel_rfl⟩
theorem ok10:Is 10 c10:=⟨Try.f10,h10,Try.func10,by kernel_rfl⟩
theorem ok11:Is 11 c11:=⟨Try.f11,h11,Try.func11,by kernel_rfl⟩
theorem ok12:Is 12 c12:=⟨Try.f12,h12,Try.func12,by kernel_rfl⟩
theorem ok13:Is 13 c13:=⟨Try.f13,h13,Try.func13,by kernel_rfl⟩
theorem ok14:Is 14 c14:=⟨Try.f14,h14,Try.func14,by kernel_rfl⟩
theorem ok15:Is 15 c15:=⟨Try.f15,h15,Try.func15,by kernel_rfl⟩
theorem ok16:Is 16 c16:=⟨Try.f16,h16,Try.func16,by kernel_rfl⟩
theorem ok17:Is 17 c17:=⟨Try.f17,h17,Try.func17,by kernel_rfl⟩
theorem ok18:Is 18 c18:=⟨Try.f18,h18,Try.func18,by kernel_rfl⟩
theorem ok19:Is 19 c19:=⟨Try.f19,h19,Try.func19,by kernel_rfl⟩
theorem ok20:Is 20 c20:=⟨Try.f20,h20,Try.func20,by kernel_rfl⟩
theorem ok21:Is 21 c21:=⟨Try.f21,h21,Try.func21,by kernel_rfl⟩
theorem ok22:Is 22 c22:=⟨Try.f22,h22,Try.func22,by kernel_rfl⟩
theorem ok23:Is 23 c23:=⟨Try.f23,h23,Try.func23,by kernel_rfl⟩
theorem ok24:Is 24 c24:=⟨Try.f24,h24,Try.func24,by kernel_rfl⟩
theorem ok25:Is 25 c25:=⟨Try.f25,h25,Try.func25,by kernel_rfl⟩
theorem ok26:Is 26 c26:=⟨Try.f26,h26,Try.func26,by kernel_rfl⟩
theorem ok27:Is 27 c27:=⟨Try.f27,h27,Try.func27,by kernel_rfl⟩
theorem ok28:Is 28 c28:=⟨Try.f28,h28,Try.func28,by kernel_rfl⟩
theorem ok29:Is 29 c29:=⟨Try.f29,h29,Try.func29,by kernel_rfl⟩
theorem ok30:Is 30 c30:=⟨Try.f30,h30,Try.func30,by kernel_rfl⟩
theorem ok31:Is 31 c31:=⟨Try.f31,h31,Try.func31,by kernel_rfl⟩
theorem ok32:Is 32 c32:=⟨Try.f32,h32,Try.func32,by kernel_rfl⟩
theorem ok33:Is 33 c33:=⟨Try.f33,h33,Try.func33,by kernel_rfl⟩
theorem ok34:Is 34 c34:=⟨Try.f34,h34,Try.func34,by kernel_rfl⟩
theorem ok35:Is 35 c35:=⟨Try.f35,h35,Try.func35,by kernel_rfl⟩
theorem ok36:Is 36 c36:=⟨Try.f36,h36,Try.func36,by kernel_rfl⟩
theorem ok37:Is 37 c37:=⟨Try.f37,h37,Try.func37,by kernel_rfl⟩
theorem ok38:Is 38 c38:=⟨Try.f38,h38,Try.func38,by kernel_rfl⟩
theorem ok39:Is 39 c39:=⟨Try.f39,h39,Try.func39,by kernel_rfl⟩
theorem ok40:Is 40 c40:=⟨Try.f40,h40,Try.func40,by kernel_rfl⟩
theorem ok41:Is 41 c41:=⟨Try.f41,h41,Try.func41,by kernel_rfl⟩
theorem ok42:Is 42 c42:=⟨Try.f42,h42,Try.func42,by kernel_rfl⟩
theorem ok43:Is 43 c43:=⟨Try.f43,h43,Try.func43,by kernel_rfl⟩
theorem ok44:Is 44 c44:=⟨Try.f44,h44,Try.func44,by kernel_rfl⟩
theorem ok45:Is 45 c45:=⟨Try.f45,h45,Try.func45,by kernel_rfl⟩
theorem ok46:Is 46 c46:=⟨Try.f46,h46,Try.func46,by kernel_rfl⟩
theorem ok47:Is 47 c47:=⟨Try.f47,h47,Try.func47,by kernel_rfl⟩
theorem ok48:Is 48 c48:=⟨Try.f48,h48,Try.func48,by kernel_rfl⟩
theorem ok49:Is 49 c49:=⟨Try.f49,h49,Try.func49,by kernel_rfl⟩
theorem ok50:Is 50 c50:=⟨Try.f50,h50,Try.func50,by kernel_rfl⟩
theorem ok51:Is 51 c51:=⟨Try.f51,h51,Try.func51,by kernel_rfl⟩
theorem ok52:Is 52 c52:=⟨Try.f52,h52,Try.func52,by kernel_rfl⟩
theorem ok53:Is 53 c53:=⟨Try.f53,h53,Try.func53,by kernel_rfl⟩
theorem ok54:Is 54 c54:=⟨Try.f54,h54,Try.func54,by kernel_rfl⟩
theorem ok55:Is 55 c55:=⟨Try.f55,h55,Try.func55,by kernel_rfl⟩
theorem ok56:Is 56 c56:=⟨Try.f56,h56,Try.func56,by kernel_rfl⟩
theorem ok57:Is 57 c57:=⟨Try.f57,h57,Try.func57,by kernel_rfl⟩
theorem ok58:Is 58 c58:=⟨Try.f58,h58,Try.func58,by kernel_rfl⟩
theorem ok59:Is 59 c59:=⟨Try.f59,h59,Try.func59,by kernel_rfl⟩
theorem ok60:Is 60 c60:=⟨Try.f60,h60,Try.func60,by kernel_rfl⟩
theorem ok61:Is 61 c61:=⟨Try.f61,h61,Try.func61,by kernel_rfl⟩
theorem ok62:Is 62 c62:=⟨Try.f62,h62,Try.func62,by kernel_rfl⟩
theorem ok63:Is 63 c63:=⟨Try.f63,h63,Try.func63,by kernel_rfl⟩
theorem ok64:Is 64 c64:=⟨Try.f64,h64,Try.func64,by kernel_rfl⟩
theorem ok65:Is 65 c65:=⟨Try.f65,h65,Try.func65,by kernel_rfl⟩
theorem ok66:Is 66 c66:=⟨Try.f66,h66,Try.func66,by kernel_rfl⟩
theorem ok67:Is 67 c67:=⟨Try.f67,h67,Try.func67,by kernel_rfl⟩
theorem ok68:Is 68 c68:=⟨Try.f68,h68,Try.func68,by kernel_rfl⟩
theorem ok69:Is 69 c69:=⟨Try.f69,h69,Try.func69,by kernel_rfl⟩
theorem ok70:Is 70 c70:=⟨Try.f70,h70,Try.func70,by kernel_rfl⟩
theorem ok71:Is 71 c71:=⟨Try.f71,h71,Try.func71,by kernel_rfl⟩
theorem ok72:Is 72 c72:=⟨Try.f72,h72,Try.func72,by kernel_rfl⟩
theorem ok73:Is 73 c73:=⟨Try.f73,h73,Try.func73,by kernel_rfl⟩
theorem ok74:Is 74 c74:=⟨Try.f74,h74,Try.func74,by kernel_rfl⟩
theorem ok75:Is 75 c75:=⟨Try.f75,h75,Try.func75,by kernel_rfl⟩
theorem ok76:Is 76 c76:=⟨Try.f76,h76,Try.func76,by kernel_rfl⟩
theorem ok77:Is 77 c77:=⟨Try.f77,h77,Try.func77,by kernel_rfl⟩
theorem ok78:Is 78 c78:=⟨Try.f78,h78,Try.func78,by kernel_rfl⟩
theorem ok79:Is 79 c79:=⟨Try.f79,h79,Try.func79,by kernel_rfl⟩
theorem ok80:Is 80 c80:=⟨Try.f80,h80,Try.func80,by kernel_rfl⟩
theorem ok81:Is 81 c81:=⟨Try.f81,h81,Try.func81,by kernel_rfl⟩
theorem ok82:Is 82 c82:=⟨Try.f82,h82,Try.func82,by kernel_rfl⟩
theorem ok83:Is 83 c83:=⟨Try.f83,h83,Try.func83,by kernel_rfl⟩
theorem ok84:Is 84 c84:=⟨Try.f84,h84,Try.func84,by kernel_rfl⟩
theorem all:tree.All Is:=⟨⟨⟨⟨⟨⟨ok3,ok4⟩,⟨ok5,⟨ok6,ok7⟩⟩⟩,⟨⟨ok8,ok9⟩,⟨ok10,⟨ok11,ok12⟩⟩⟩⟩,⟨⟨⟨ok13,ok14⟩,⟨ok15,⟨ok16,ok17⟩⟩⟩,⟨⟨ok18,ok19⟩,⟨ok20,⟨ok21,ok22⟩⟩⟩⟩⟩,⟨⟨⟨⟨ok23,ok24⟩,⟨ok25,⟨ok26,ok27⟩⟩⟩,⟨⟨ok28,ok29⟩,⟨ok30,⟨ok31,ok32⟩⟩⟩⟩,⟨⟨⟨ok33,ok34⟩,⟨ok35,⟨ok36,ok37⟩⟩⟩,⟨⟨ok38,⟨ok39,ok40⟩⟩,⟨ok41,⟨ok42,ok43⟩⟩⟩⟩⟩⟩,⟨⟨⟨⟨⟨ok44,ok45⟩,⟨ok46,⟨ok47,ok48⟩⟩⟩,⟨⟨ok49,ok50⟩,⟨ok51,⟨ok52,ok53⟩⟩⟩⟩,⟨⟨⟨ok54,ok55⟩,⟨ok56,⟨ok57,ok58⟩⟩⟩,⟨⟨ok59,ok60⟩,⟨ok61,⟨ok62,ok63⟩⟩⟩⟩⟩,⟨⟨⟨⟨ok64,ok65⟩,⟨ok66,⟨ok67,ok68⟩⟩⟩,⟨⟨ok69,ok70⟩,⟨ok71,⟨ok72,ok73⟩⟩⟩⟩,⟨⟨⟨ok74,ok75⟩,⟨ok76,⟨ok77,ok78⟩⟩⟩,⟨⟨ok79,⟨ok80,ok81⟩⟩,⟨ok82,⟨ok83,ok84⟩⟩⟩⟩⟩⟩⟩
theorem ok0:ProgOk Try.prog (tree.prog fun _=>none) where
 fn:=fun k f hf=>FTree.find_all all hf
 prim:=by intro k f hf; simp [FTree.prog] at hf
 mixed:=by kernel_rfl
end Go.Z
