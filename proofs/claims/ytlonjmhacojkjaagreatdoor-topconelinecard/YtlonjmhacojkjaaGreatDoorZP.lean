/-
  The compiled functions are those of the given program.
-/
import Derived.Test.YtlonjmhacojkjaaGreatDoorZC
import Derived.Test.YtlonjmhacojkjaaGreatDoorAbsH
import Derived.Test.YtlonjmhacojkjaaGreatDoorChecked
import Derived.KernelRfl
set_option linter.unusedVariables false
set_option linter.unusedSimpArgs false
set_option maxRecDepth 100000
namespace Go.Z
open Go Go.Abs Go.Proofs
def Is (k:Nat) (f:AFun):Prop:=∃ fn h,Tryz.prog.funcs[k]?=some fn∧cFun Tryz.prog h fn=some f
theorem ok3:Is 3 c3:=⟨Tryz.f3,h3,Tryz.func3,by kernel_rfl⟩
theorem ok4:Is 4 c4:=⟨Tryz.f4,h4,Tryz.func4,by kernel_rfl⟩
theorem ok5:Is 5 c5:=⟨Tryz.f5,h5,Tryz.func5,by kernel_rfl⟩
theorem ok6:Is 6 c6:=⟨Tryz.f6,h6,Tryz.func6,by kernel_rfl⟩
theorem ok7:Is 7 c7:=⟨Tryz.f7,h7,Tryz.func7,by kernel_rfl⟩
theorem ok8:Is 8 c8:=⟨Tryz.f8,h8,Tryz.func8,by kernel_rfl⟩
theorem ok9:Is 9 c9:=⟨Tryz.f9,h9,Tryz.func9,by kernel_rfl⟩
theorem ok10:Is 10 c10:=⟨Tryz.f10,h10,Tryz.func10,by kernel_rfl⟩
theorem ok11:Is 11 c11:=⟨Tryz.f11,h11,Tryz.func11,by kernel_rfl⟩
theorem ok12:Is 12 c12:=⟨Tryz.f12,h12,Tryz.func12,by kernel_rfl⟩
theorem ok13:Is 13 c13:=⟨Tryz.f13,h13,Tryz.func13,by kernel_rfl⟩
theorem ok14:Is 14 c14:=⟨Tryz.f14,h14,Tryz.func14,by kernel_rfl⟩
theorem ok15:Is 15 c15:=⟨Tryz.f15,h15,Tryz.func15,by kernel_rfl⟩
theorem ok16:Is 16 c16:=⟨Tryz.f16,h16,Tryz.func16,by kernel_rfl⟩
theorem ok17:Is 17 c17:=⟨Tryz.f17,h17,Tryz.func17,by kernel_rfl⟩
theorem ok18:Is 18 c18:=⟨Tryz.f18,h18,Tryz.func18,by kernel_rfl⟩
theorem ok19:Is 19 c19:=⟨Tryz.f19,h19,Tryz.func19,by kernel_rfl⟩
theorem ok20:Is 20 c20:=⟨Tryz.f20,h20,Tryz.func20,by kernel_rfl⟩
theorem ok21:Is 21 c21:=⟨Tryz.f21,h21,Tryz.func21,by kernel_rfl⟩
theorem ok22:Is 22 c22:=⟨Tryz.f22,h22,Tryz.func22,by kernel_rfl⟩
theorem ok23:Is 23 c23:=⟨Tryz.f23,h23,Tryz.func23,by kernel_rfl⟩
theorem ok24:Is 24 c24:=⟨Tryz.f24,h24,Tryz.func24,by kernel_rfl⟩
theorem ok25:Is 25 c25:=⟨Tryz.f25,h25,Tryz.func25,by kernel_rfl⟩
theorem ok26:Is 26 c26:=⟨Tryz.f26,h26,Tryz.func26,by kernel_rfl⟩
theorem ok27:Is 27 c27:=⟨Tryz.f27,h27,Tryz.func27,by kernel_rfl⟩
theorem ok28:Is 28 c28:=⟨Tryz.f28,h28,Tryz.func28,by kernel_rfl⟩
theorem ok29:Is 29 c29:=⟨Tryz.f29,h29,Tryz.func29,by kernel_rfl⟩
theorem ok30:Is 30 c30:=⟨Tryz.f30,h30,Tryz.func30,by kernel_rfl⟩
theorem ok31:Is 31 c31:=⟨Tryz.f31,h31,Tryz.func31,by kernel_rfl⟩
theorem ok32:Is 32 c32:=⟨Tryz.f32,h32,Tryz.func32,by kernel_rfl⟩
theorem ok33:Is 33 c33:=⟨Tryz.f33,h33,Tryz.func33,by kernel_rfl⟩
theorem ok34:Is 34 c34:=⟨Tryz.f34,h34,Tryz.func34,by kernel_rfl⟩
theorem ok35:Is 35 c35:=⟨Tryz.f35,h35,Tryz.func35,by kernel_rfl⟩
theorem ok36:Is 36 c36:=⟨Tryz.f36,h36,Tryz.func36,by kernel_rfl⟩
theorem ok37:Is 37 c37:=⟨Tryz.f37,h37,Tryz.func37,by kernel_rfl⟩
theorem ok38:Is 38 c38:=⟨Tryz.f38,h38,Tryz.func38,by kernel_rfl⟩
theorem ok39:Is 39 c39:=⟨Tryz.f39,h39,Tryz.func39,by kernel_rfl⟩
theorem ok40:Is 40 c40:=⟨Tryz.f40,h40,Tryz.func40,by kernel_rfl⟩
theorem ok41:Is 41 c41:=⟨Tryz.f41,h41,Tryz.func41,by kernel_rfl⟩
theorem ok42:Is 42 c42:=⟨Tryz.f42,h42,Tryz.func42,by kernel_rfl⟩
theorem ok43:Is 43 c43:=⟨Tryz.f43,h43,Tryz.func43,by kernel_rfl⟩
theorem ok44:Is 44 c44:=⟨Tryz.f44,h44,Tryz.func44,by kernel_rfl⟩
theorem ok45:Is 45 c45:=⟨Tryz.f45,h45,Tryz.func45,by kernel_rfl⟩
theorem ok46:Is 46 c46:=⟨Tryz.f46,h46,Tryz.func46,by kernel_rfl⟩
theorem ok47:Is 47 c47:=⟨Tryz.f47,h47,Tryz.func47,by kernel_rfl⟩
theorem ok48:Is 48 c48:=⟨Tryz.f48,h48,Tryz.func48,by kernel_rfl⟩
theorem ok49:Is 49 c49:=⟨Tryz.f49,h49,Tryz.func49,by kernel_rfl⟩
theorem ok50:Is 50 c50:=⟨Tryz.f50,h50,Tryz.func50,by kernel_rfl⟩
theorem ok51:Is 51 c51:=⟨Tryz.f51,h51,Tryz.func51,by kernel_rfl⟩
theorem ok52:Is 52 c52:=⟨Tryz.f52,h52,Tryz.func52,by kernel_rfl⟩
theorem ok53:Is 53 c53:=⟨Tryz.f53,h53,Tryz.func53,by kernel_rfl⟩
theorem ok54:Is 54 c54:=⟨Tryz.f54,h54,Tryz.func54,by kernel_rfl⟩
theorem ok55:Is 55 c55:=⟨Tryz.f55,h55,Tryz.func55,by kernel_rfl⟩
theorem ok56:Is 56 c56:=⟨Tryz.f56,h56,Tryz.func56,by kernel_rfl⟩
theorem ok57:Is 57 c57:=⟨Tryz.f57,h57,Tryz.func57,by kernel_rfl⟩
theorem ok58:Is 58 c58:=⟨Tryz.f58,h58,Tryz.func58,by kernel_rfl⟩
theorem ok59:Is 59 c59:=⟨Tryz.f59,h59,Tryz.func59,by kernel_rfl⟩
theorem ok60:Is 60 c60:=⟨Tryz.f60,h60,Tryz.func60,by kernel_rfl⟩
theorem ok61:Is 61 c61:=⟨Tryz.f61,h61,Tryz.func61,by kernel_rfl⟩
theorem ok62:Is 62 c62:=⟨Tryz.f62,h62,Tryz.func62,by kernel_rfl⟩
theorem ok63:Is 63 c63:=⟨Tryz.f63,h63,Tryz.func63,by kernel_rfl⟩
theorem ok64:Is 64 c64:=⟨Tryz.f64,h64,Tryz.func64,by kernel_rfl⟩
theorem ok65:Is 65 c65:=⟨Tryz.f65,h65,Tryz.func65,by kernel_rfl⟩
theorem ok66:Is 66 c66:=⟨Tryz.f66,h66,Tryz.func66,by kernel_rfl⟩
theorem ok67:Is 67 c67:=⟨Tryz.f67,h67,Tryz.func67,by kernel_rfl⟩
theorem ok68:Is 68 c68:=⟨Tryz.f68,h68,Tryz.func68,by kernel_rfl⟩
theorem ok69:Is 69 c69:=⟨Tryz.f69,h69,Tryz.func69,by kernel_rfl⟩
theorem ok70:Is 70 c70:=⟨Tryz.f70,h70,Tryz.func70,by kernel_rfl⟩
theorem ok71:Is 71 c71:=⟨Tryz.f71,h71,Tryz.func71,by kernel_rfl⟩
theorem ok72:Is 72 c72:=⟨Tryz.f72,h72,Tryz.func72,by kernel_rfl⟩
theorem ok73:Is 73 c73:=⟨Tryz.f73,h73,Tryz.func73,by kernel_rfl⟩
theorem ok74:Is 74 c74:=⟨Tryz.f74,h74,Tryz.func74,by kernel_rfl⟩
theorem ok75:Is 75 c75:=⟨Tryz.f75,h75,Tryz.func75,by kernel_rfl⟩
theorem ok76:Is 76 c76:=⟨Tryz.f76,h76,Tryz.func76,by kernel_rfl⟩
theorem ok77:Is 77 c77:=⟨Tryz.f77,h77,Tryz.func77,by kernel_rfl⟩
theorem ok78:Is 78 c78:=⟨Tryz.f78,h78,Tryz.func78,by kernel_rfl⟩
theorem ok79:Is 79 c79:=⟨Tryz.f79,h79,Tryz.func79,by kernel_rfl⟩
theorem ok80:Is 80 c80:=⟨Tryz.f80,h80,Tryz.func80,by kernel_rfl⟩
theorem ok81:Is 81 c81:=⟨Tryz.f81,h81,Tryz.func81,by kernel_rfl⟩
theorem ok82:Is 82 c82:=⟨Tryz.f82,h82,Tryz.func82,by kernel_rfl⟩
theorem ok83:Is 83 c83:=⟨Tryz.f83,h83,Tryz.func83,by kernel_rfl⟩
theorem ok84:Is 84 c84:=⟨Tryz.f84,h84,Tryz.func84,by kernel_rfl⟩
theorem ok85:Is 85 c85:=⟨Tryz.f85,h85,Tryz.func85,by kernel_rfl⟩
theorem ok86:Is 86 c86:=⟨Tryz.f86,h86,Tryz.func86,by kernel_rfl⟩
theorem ok87:Is 87 c87:=⟨Tryz.f87,h87,Tryz.func87,by kernel_rfl⟩
theorem ok89:Is 89 c89:=⟨Tryz.f89,h89,Tryz.func89,by kernel_rfl⟩
theorem ok90:Is 90 c90:=⟨Tryz.f90,h90,Tryz.func90,by kernel_rfl⟩
theorem ok91:Is 91 c91:=⟨Tryz.f91,h91,Tryz.func91,by kernel_rfl⟩
theorem ok92:Is 92 c92:=⟨Tryz.f92,h92,Tryz.func92,by kernel_rfl⟩
theorem ok93:Is 93 c93:=⟨Tryz.f93,h93,Tryz.func93,by kernel_rfl⟩
theorem ok94:Is 94 c94:=⟨Tryz.f94,h94,Tryz.func94,by kernel_rfl⟩
theorem ok95:Is 95 c95:=⟨Tryz.f95,h95,Tryz.func95,by kernel_rfl⟩
theorem ok96:Is 96 c96:=⟨Tryz.f96,h96,Tryz.func96,by kernel_rfl⟩
theorem ok97:Is 97 c97:=⟨Tryz.f97,h97,Tryz.func97,by kernel_rfl⟩
theorem ok98:Is 98 c98:=⟨Tryz.f98,h98,Tryz.func98,by kernel_rfl⟩
theorem ok99:Is 99 c99:=⟨Tryz.f99,h99,Tryz.func99,by kernel_rfl⟩
theorem ok100:Is 100 c100:=⟨Tryz.f100,h100,Tryz.func100,by kernel_rfl⟩
theorem ok101:Is 101 c101:=⟨Tryz.f101,h101,Tryz.func101,by kernel_rfl⟩
theorem ok102:Is 102 c102:=⟨Tryz.f102,h102,Tryz.func102,by kernel_rfl⟩
theorem ok103:Is 103 c103:=⟨Tryz.f103,h103,Tryz.func103,by kernel_rfl⟩
theorem ok104:Is 104 c104:=⟨Tryz.f104,h104,Tryz.func104,by kernel_rfl⟩
theorem ok105:Is 105 c105:=⟨Tryz.f105,h105,Tryz.func105,by kernel_rfl⟩
theorem ok107:Is 107 c107:=⟨Tryz.f107,h107,Tryz.func107,by kernel_rfl⟩
theorem ok108:Is 108 c108:=⟨Tryz.f108,h108,Tryz.func108,by kernel_rfl⟩
theorem ok109:Is 109 c109:=⟨Tryz.f109,h109,Tryz.func109,by kernel_rfl⟩
theorem ok110:Is 110 c110:=⟨Tryz.f110,h110,Tryz.func110,by kernel_rfl⟩
theorem ok112:Is 112 c112:=⟨Tryz.f112,h112,Tryz.func112,by kernel_rfl⟩
theorem ok113:Is 113 c113:=⟨Tryz.f113,h113,Tryz.func113,by kernel_rfl⟩
theorem ok114:Is 114 c114:=⟨Tryz.f114,h114,Tryz.func114,by kernel_rfl⟩
theorem ok115:Is 115 c115:=⟨Tryz.f115,h115,Tryz.func115,by kernel_rfl⟩
theorem ok116:Is 116 c116:=⟨Tryz.f116,h116,Tryz.func116,by kernel_rfl⟩
theorem ok117:Is 117 c117:=⟨Tryz.f117,h117,Tryz.func117,by kernel_rfl⟩
theorem ok118:Is 118 c118:=⟨Tryz.f118,h118,Tryz.func118,by kernel_rfl⟩
theorem ok119:Is 119 c119:=⟨Tryz.f119,h119,Tryz.func119,by kernel_rfl⟩
theorem ok120:Is 120 c120:=⟨Tryz.f120,h120,Tryz.func120,by kernel_rfl⟩
theorem ok121:Is 121 c121:=⟨Tryz.f121,h121,Tryz.func121,by kernel_rfl⟩
theorem ok122:Is 122 c122:=⟨Tryz.f122,h122,Tryz.func122,by kernel_rfl⟩
theorem ok123:Is 123 c123:=⟨Tryz.f123,h123,Tryz.func123,by kernel_rfl⟩
theorem ok124:Is 124 c124:=⟨Tryz.f124,h124,Tryz.func124,by kernel_rfl⟩
theorem ok125:Is 125 c125:=⟨Tryz.f125,h125,Tryz.func125,by kernel_rfl⟩
theorem ok127:Is 127 c127:=⟨Tryz.f127,h127,Tryz.func127,by kernel_rfl⟩
theorem ok128:Is 128 c128:=⟨Tryz.f128,h128,Tryz.func128,by kernel_rfl⟩
theorem ok129:Is 129 c129:=⟨Tryz.f129,h129,Tryz.func129,by kernel_rfl⟩
theorem ok130:Is 130 c130:=⟨Tryz.f130,h130,Tryz.func130,by kernel_rfl⟩
theorem ok131:Is 131 c131:=⟨Tryz.f131,h131,Tryz.func131,by kernel_rfl⟩
theorem ok132:Is 132 c132:=⟨Tryz.f132,h132,Tryz.func132,by kernel_rfl⟩
theorem ok133:Is 133 c133:=⟨Tryz.f133,h133,Tryz.func133,by kernel_rfl⟩
theorem ok135:Is 135 c135:=⟨Tryz.f135,h135,Tryz.func135,by kernel_rfl⟩
theorem ok136:Is 136 c136:=⟨Tryz.f136,h136,Tryz.func136,by kernel_rfl⟩
theorem ok137:Is 137 c137:=⟨Tryz.f137,h137,Tryz.func137,by kernel_rfl⟩
theorem ok138:Is 138 c138:=⟨Tryz.f138,h138,Tryz.func138,by kernel_rfl⟩
theorem all:tree.All Is:=⟨⟨⟨⟨⟨⟨⟨ok3,ok4⟩,⟨ok5,ok6⟩⟩,⟨⟨ok7,ok8⟩,⟨ok9,ok10⟩⟩⟩,⟨⟨⟨ok11,ok12⟩,⟨ok13,ok14⟩⟩,⟨⟨ok15,ok16⟩,⟨ok17,ok18⟩⟩⟩⟩,⟨⟨⟨⟨ok19,ok20⟩,⟨ok21,ok22⟩⟩,⟨⟨ok23,ok24⟩,⟨ok25,ok26⟩⟩⟩,⟨⟨⟨ok27,ok28⟩,⟨ok29,ok30⟩⟩,⟨⟨ok31,ok32⟩,⟨ok33,ok34⟩⟩⟩⟩⟩,⟨⟨⟨⟨⟨ok35,ok36⟩,⟨ok37,ok38⟩⟩,⟨⟨ok39,ok40⟩,⟨ok41,ok42⟩⟩⟩,⟨⟨⟨ok43,ok44⟩,⟨ok45,ok46⟩⟩,⟨⟨ok47,ok48⟩,⟨ok49,ok50⟩⟩⟩⟩,⟨⟨⟨⟨ok51,ok52⟩,⟨ok53,ok54⟩⟩,⟨⟨ok55,ok56⟩,⟨ok57,ok58⟩⟩⟩,⟨⟨⟨ok59,ok60⟩,⟨ok61,ok62⟩⟩,⟨⟨ok63,ok64⟩,⟨ok65,⟨ok66,ok67⟩⟩⟩⟩⟩⟩⟩,⟨⟨⟨⟨⟨⟨ok68,ok69⟩,⟨ok70,ok71⟩⟩,⟨⟨ok72,ok73⟩,⟨ok74,ok75⟩⟩⟩,⟨⟨⟨ok76,ok77⟩,⟨ok78,ok79⟩⟩,⟨⟨ok80,ok81⟩,⟨ok82,ok83⟩⟩⟩⟩,⟨⟨⟨⟨ok84,ok85⟩,⟨ok86,ok87⟩⟩,⟨⟨ok89,ok90⟩,⟨ok91,ok92⟩⟩⟩,⟨⟨⟨ok93,ok94⟩,⟨ok95,ok96⟩⟩,⟨⟨ok97,ok98⟩,⟨ok99,⟨ok100,ok101⟩⟩⟩⟩⟩⟩,⟨⟨⟨⟨⟨ok102,ok103⟩,⟨ok104,ok105⟩⟩,⟨⟨ok107,ok108⟩,⟨ok109,ok110⟩⟩⟩,⟨⟨⟨ok112,ok113⟩,⟨ok114,ok115⟩⟩,⟨⟨ok116,ok117⟩,⟨ok118,ok119⟩⟩⟩⟩,⟨⟨⟨⟨ok120,ok121⟩,⟨ok122,ok123⟩⟩,⟨⟨ok124,ok125⟩,⟨ok127,ok128⟩⟩⟩,⟨⟨⟨ok129,ok130⟩,⟨ok131,ok132⟩⟩,⟨⟨ok133,ok135⟩,⟨ok136,⟨ok137,ok138⟩⟩⟩⟩⟩⟩⟩⟩
theorem ok0:ProgOk Tryz.prog (tree.prog fun _=>none) where
 fn:=fun k f hf=>FTree.find_all all hf
 prim:=by intro k f hf; simp [FTree.prog] at hf
 mixed:=by kernel_rfl
end Go.Z
