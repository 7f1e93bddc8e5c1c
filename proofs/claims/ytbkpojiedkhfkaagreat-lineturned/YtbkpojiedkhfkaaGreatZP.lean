/-
  The compiled functions are those of the given program.
-/
import Derived.Test.YtbkpojiedkhfkaaGreatZC
import Derived.Test.YtbkpojiedkhfkaaGreatAbsH
import Derived.Test.YtbkpojiedkhfkaaGreatChecked
import Derived.KernelRfl
set_option linter.unusedVariables false
set_option linter.unusedSimpArgs false
set_option maxRecDepth 100000
namespace Go.Z
open Go Go.Abs Go.Proofs
def Is (k:Nat) (f:AFun):Prop:=∃ fn h,Tryz.prog.funcs[k]?=some fn∧cFun Tryz.prog h fn=some f
theorem ok8:Is 8 c8:=⟨Tryz.f8,h8,Tryz.func8,by kernel_rfl⟩
theorem ok14:Is 14 c14:=⟨Tryz.f14,h14,Tryz.func14,by kernel_rfl⟩
theorem ok17:Is 17 c17:=⟨Tryz.f17,h17,Tryz.func17,by kernel_rfl⟩
theorem ok18:Is 18 c18:=⟨Tryz.f18,h18,Tryz.func18,by kernel_rfl⟩
theorem ok19:Is 19 c19:=⟨Tryz.f19,h19,Tryz.func19,by kernel_rfl⟩
theorem ok22:Is 22 c22:=⟨Tryz.f22,h22,Tryz.func22,by kernel_rfl⟩
theorem ok23:Is 23 c23:=⟨Tryz.f23,h23,Tryz.func23,by kernel_rfl⟩
theorem ok28:Is 28 c28:=⟨Tryz.f28,h28,Tryz.func28,by kernel_rfl⟩
theorem ok29:Is 29 c29:=⟨Tryz.f29,h29,Tryz.func29,by kernel_rfl⟩
theorem ok30:Is 30 c30:=⟨Tryz.f30,h30,Tryz.func30,by kernel_rfl⟩
theorem ok31:Is 31 c31:=⟨Tryz.f31,h31,Tryz.func31,by kernel_rfl⟩
theorem ok32:Is 32 c32:=⟨Tryz.f32,h32,Tryz.func32,by kernel_rfl⟩
theorem ok33:Is 33 c33:=⟨Tryz.f33,h33,Tryz.func33,by kernel_rfl⟩
theorem ok34:Is 34 c34:=⟨Tryz.f34,h34,Tryz.func34,by kernel_rfl⟩
theorem ok39:Is 39 c39:=⟨Tryz.f39,h39,Tryz.func39,by kernel_rfl⟩
theorem ok42:Is 42 c42:=⟨Tryz.f42,h42,Tryz.func42,by kernel_rfl⟩
theorem ok43:Is 43 c43:=⟨Tryz.f43,h43,Tryz.func43,by kernel_rfl⟩
theorem ok44:Is 44 c44:=⟨Tryz.f44,h44,Tryz.func44,by kernel_rfl⟩
theorem ok50:Is 50 c50:=⟨Tryz.f50,h50,Tryz.func50,by kernel_rfl⟩
theorem ok51:Is 51 c51:=⟨Tryz.f51,h51,Tryz.func51,by kernel_rfl⟩
theorem ok54:Is 54 c54:=⟨Tryz.f54,h54,Tryz.func54,by kernel_rfl⟩
theorem ok55:Is 55 c55:=⟨Tryz.f55,h55,Tryz.func55,by kernel_rfl⟩
theorem ok56:Is 56 c56:=⟨Tryz.f56,h56,Tryz.func56,by kernel_rfl⟩
theorem ok57:Is 57 c57:=⟨Tryz.f57,h57,Tryz.func57,by kernel_rfl⟩
theorem ok58:Is 58 c58:=⟨Tryz.f58,h58,Tryz.func58,by kernel_rfl⟩
theorem ok59:Is 59 c59:=⟨Tryz.f59,h59,Tryz.func59,by kernel_rfl⟩
theorem ok60:Is 60 c60:=⟨Tryz.f60,h60,Tryz.func60,by kernel_rfl⟩
theorem ok62:Is 62 c62:=⟨Tryz.f62,h62,Tryz.func62,by kernel_rfl⟩
theorem ok73:Is 73 c73:=⟨Tryz.f73,h73,Tryz.func73,by kernel_rfl⟩
theorem ok74:Is 74 c74:=⟨Tryz.f74,h74,Tryz.func74,by kernel_rfl⟩
theorem ok76:Is 76 c76:=⟨Tryz.f76,h76,Tryz.func76,by kernel_rfl⟩
theorem ok82:Is 82 c82:=⟨Tryz.f82,h82,Tryz.func82,by kernel_rfl⟩
theorem ok85:Is 85 c85:=⟨Tryz.f85,h85,Tryz.func85,by kernel_rfl⟩
theorem ok87:Is 87 c87:=⟨Tryz.f87,h87,Tryz.func87,by kernel_rfl⟩
theorem ok88:Is 88 c88:=⟨Tryz.f88,h88,Tryz.func88,by kernel_rfl⟩
theorem ok89:Is 89 c89:=⟨Tryz.f89,h89,Tryz.func89,by kernel_rfl⟩
theorem ok90:Is 90 c90:=⟨Tryz.f90,h90,Tryz.func90,by kernel_rfl⟩
theorem ok91:Is 91 c91:=⟨Tryz.f91,h91,Tryz.func91,by kernel_rfl⟩
theorem ok92:Is 92 c92:=⟨Tryz.f92,h92,Tryz.func92,by kernel_rfl⟩
theorem ok93:Is 93 c93:=⟨Tryz.f93,h93,Tryz.func93,by kernel_rfl⟩
theorem ok94:Is 94 c94:=⟨Tryz.f94,h94,Tryz.func94,by kernel_rfl⟩
theorem ok95:Is 95 c95:=⟨Tryz.f95,h95,Tryz.func95,by kernel_rfl⟩
theorem ok96:Is 96 c96:=⟨Tryz.f96,h96,Tryz.func96,by kernel_rfl⟩
theorem ok97:Is 97 c97:=⟨Tryz.f97,h97,Tryz.func97,by kernel_rfl⟩
theorem ok98:Is 98 c98:=⟨Tryz.f98,h98,Tryz.func98,by kernel_rfl⟩
theorem ok99:Is 99 c99:=⟨Tryz.f99,h99,Tryz.func99,by kernel_rfl⟩
theorem ok100:Is 100 c100:=⟨Tryz.f100,h100,Tryz.func100,by kernel_rfl⟩
theorem ok101:Is 101 c101:=⟨Tryz.f101,h101,Tryz.func101,by kernel_rfl⟩
theorem ok103:Is 103 c103:=⟨Tryz.f103,h103,Tryz.func103,by kernel_rfl⟩
theorem ok104:Is 104 c104:=⟨Tryz.f104,h104,Tryz.func104,by kernel_rfl⟩
theorem ok105:Is 105 c105:=⟨Tryz.f105,h105,Tryz.func105,by kernel_rfl⟩
theorem ok106:Is 106 c106:=⟨Tryz.f106,h106,Tryz.func106,by kernel_rfl⟩
theorem ok108:Is 108 c108:=⟨Tryz.f108,h108,Tryz.func108,by kernel_rfl⟩
theorem ok109:Is 109 c109:=⟨Tryz.f109,h109,Tryz.func109,by kernel_rfl⟩
theorem ok110:Is 110 c110:=⟨Tryz.f110,h110,Tryz.func110,by kernel_rfl⟩
theorem ok111:Is 111 c111:=⟨Tryz.f111,h111,Tryz.func111,by kernel_rfl⟩
theorem ok112:Is 112 c112:=⟨Tryz.f112,h112,Tryz.func112,by kernel_rfl⟩
theorem ok113:Is 113 c113:=⟨Tryz.f113,h113,Tryz.func113,by kernel_rfl⟩
theorem ok114:Is 114 c114:=⟨Tryz.f114,h114,Tryz.func114,by kernel_rfl⟩
theorem ok115:Is 115 c115:=⟨Tryz.f115,h115,Tryz.func115,by kernel_rfl⟩
theorem ok116:Is 116 c116:=⟨Tryz.f116,h116,Tryz.func116,by kernel_rfl⟩
theorem ok117:Is 117 c117:=⟨Tryz.f117,h117,Tryz.func117,by kernel_rfl⟩
theorem ok118:Is 118 c118:=⟨Tryz.f118,h118,Tryz.func118,by kernel_rfl⟩
theorem ok119:Is 119 c119:=⟨Tryz.f119,h119,Tryz.func119,by kernel_rfl⟩
theorem ok122:Is 122 c122:=⟨Tryz.f122,h122,Tryz.func122,by kernel_rfl⟩
theorem ok125:Is 125 c125:=⟨Tryz.f125,h125,Tryz.func125,by kernel_rfl⟩
theorem ok126:Is 126 c126:=⟨Tryz.f126,h126,Tryz.func126,by kernel_rfl⟩
theorem ok129:Is 129 c129:=⟨Tryz.f129,h129,Tryz.func129,by kernel_rfl⟩
theorem ok130:Is 130 c130:=⟨Tryz.f130,h130,Tryz.func130,by kernel_rfl⟩
theorem ok131:Is 131 c131:=⟨Tryz.f131,h131,Tryz.func131,by kernel_rfl⟩
theorem ok133:Is 133 c133:=⟨Tryz.f133,h133,Tryz.func133,by kernel_rfl⟩
theorem ok134:Is 134 c134:=⟨Tryz.f134,h134,Tryz.func134,by kernel_rfl⟩
theorem ok135:Is 135 c135:=⟨Tryz.f135,h135,Tryz.func135,by kernel_rfl⟩
theorem ok136:Is 136 c136:=⟨Tryz.f136,h136,Tryz.func136,by kernel_rfl⟩
theorem ok137:Is 137 c137:=⟨Tryz.f137,h137,Tryz.func137,by kernel_rfl⟩
theorem ok138:Is 138 c138:=⟨Tryz.f138,h138,Tryz.func138,by kernel_rfl⟩
theorem ok139:Is 139 c139:=⟨Tryz.f139,h139,Tryz.func139,by kernel_rfl⟩
theorem ok140:Is 140 c140:=⟨Tryz.f140,h140,Tryz.func140,by kernel_rfl⟩
theorem ok141:Is 141 c141:=⟨Tryz.f141,h141,Tryz.func141,by kernel_rfl⟩
theorem ok142:Is 142 c142:=⟨Tryz.f142,h142,Tryz.func142,by kernel_rfl⟩
theorem ok143:Is 143 c143:=⟨Tryz.f143,h143,Tryz.func143,by kernel_rfl⟩
theorem ok144:Is 144 c144:=⟨Tryz.f144,h144,Tryz.func144,by kernel_rfl⟩
theorem ok145:Is 145 c145:=⟨Tryz.f145,h145,Tryz.func145,by kernel_rfl⟩
theorem ok146:Is 146 c146:=⟨Tryz.f146,h146,Tryz.func146,by kernel_rfl⟩
theorem ok147:Is 147 c147:=⟨Tryz.f147,h147,Tryz.func147,by kernel_rfl⟩
theorem ok149:Is 149 c149:=⟨Tryz.f149,h149,Tryz.func149,by kernel_rfl⟩
theorem ok150:Is 150 c150:=⟨Tryz.f150,h150,Tryz.func150,by kernel_rfl⟩
theorem ok151:Is 151 c151:=⟨Tryz.f151,h151,Tryz.func151,by kernel_rfl⟩
theorem ok152:Is 152 c152:=⟨Tryz.f152,h152,Tryz.func152,by kernel_rfl⟩
theorem ok153:Is 153 c153:=⟨Tryz.f153,h153,Tryz.func153,by kernel_rfl⟩
theorem ok154:Is 154 c154:=⟨Tryz.f154,h154,Tryz.func154,by kernel_rfl⟩
theorem ok155:Is 155 c155:=⟨Tryz.f155,h155,Tryz.func155,by kernel_rfl⟩
theorem ok156:Is 156 c156:=⟨Tryz.f156,h156,Tryz.func156,by kernel_rfl⟩
theorem ok157:Is 157 c157:=⟨Tryz.f157,h157,Tryz.func157,by kernel_rfl⟩
theorem ok158:Is 158 c158:=⟨Tryz.f158,h158,Tryz.func158,by kernel_rfl⟩
theorem ok159:Is 159 c159:=⟨Tryz.f159,h159,Tryz.func159,by kernel_rfl⟩
theorem ok160:Is 160 c160:=⟨Tryz.f160,h160,Tryz.func160,by kernel_rfl⟩
theorem ok161:Is 161 c161:=⟨Tryz.f161,h161,Tryz.func161,by kernel_rfl⟩
theorem ok162:Is 162 c162:=⟨Tryz.f162,h162,Tryz.func162,by kernel_rfl⟩
theorem ok163:Is 163 c163:=⟨Tryz.f163,h163,Tryz.func163,by kernel_rfl⟩
theorem ok164:Is 164 c164:=⟨Tryz.f164,h164,Tryz.func164,by kernel_rfl⟩
theorem ok165:Is 165 c165:=⟨Tryz.f165,h165,Tryz.func165,by kernel_rfl⟩
theorem ok166:Is 166 c166:=⟨Tryz.f166,h166,Tryz.func166,by kernel_rfl⟩
theorem ok167:Is 167 c167:=⟨Tryz.f167,h167,Tryz.func167,by kernel_rfl⟩
theorem ok168:Is 168 c168:=⟨Tryz.f168,h168,Tryz.func168,by kernel_rfl⟩
theorem ok169:Is 169 c169:=⟨Tryz.f169,h169,Tryz.func169,by kernel_rfl⟩
theorem all:tree.All Is:=⟨⟨⟨⟨⟨⟨ok8,⟨ok14,ok17⟩⟩,⟨ok18,⟨ok19,ok22⟩⟩⟩,⟨⟨ok23,⟨ok28,ok29⟩⟩,⟨⟨ok30,ok31⟩,⟨ok32,ok33⟩⟩⟩⟩,⟨⟨⟨ok34,⟨ok39,ok42⟩⟩,⟨ok43,⟨ok44,ok50⟩⟩⟩,⟨⟨ok51,⟨ok54,ok55⟩⟩,⟨⟨ok56,ok57⟩,⟨ok58,ok59⟩⟩⟩⟩⟩,⟨⟨⟨⟨ok60,⟨ok62,ok73⟩⟩,⟨ok74,⟨ok76,ok82⟩⟩⟩,⟨⟨ok85,⟨ok87,ok88⟩⟩,⟨⟨ok89,ok90⟩,⟨ok91,ok92⟩⟩⟩⟩,⟨⟨⟨ok93,⟨ok94,ok95⟩⟩,⟨⟨ok96,ok97⟩,⟨ok98,ok99⟩⟩⟩,⟨⟨ok100,⟨ok101,ok103⟩⟩,⟨⟨ok104,ok105⟩,⟨ok106,ok108⟩⟩⟩⟩⟩⟩,⟨⟨⟨⟨⟨ok109,⟨ok110,ok111⟩⟩,⟨ok112,⟨ok113,ok114⟩⟩⟩,⟨⟨ok115,⟨ok116,ok117⟩⟩,⟨⟨ok118,ok119⟩,⟨ok122,ok125⟩⟩⟩⟩,⟨⟨⟨ok126,⟨ok129,ok130⟩⟩,⟨ok131,⟨ok133,ok134⟩⟩⟩,⟨⟨ok135,⟨ok136,ok137⟩⟩,⟨⟨ok138,ok139⟩,⟨ok140,ok141⟩⟩⟩⟩⟩,⟨⟨⟨⟨ok142,⟨ok143,ok144⟩⟩,⟨ok145,⟨ok146,ok147⟩⟩⟩,⟨⟨ok149,⟨ok150,ok151⟩⟩,⟨⟨ok152,ok153⟩,⟨ok154,ok155⟩⟩⟩⟩,⟨⟨⟨ok156,⟨ok157,ok158⟩⟩,⟨⟨ok159,ok160⟩,⟨ok161,ok162⟩⟩⟩,⟨⟨ok163,⟨ok164,ok165⟩⟩,⟨⟨ok166,ok167⟩,⟨ok168,ok169⟩⟩⟩⟩⟩⟩⟩
theorem ok0:ProgOk Tryz.prog (tree.prog fun _=>none) where
 fn:=fun k f hf=>FTree.find_all all hf
 prim:=by intro k f hf; simp [FTree.prog] at hf
 mixed:=by kernel_rfl
end Go.Z
