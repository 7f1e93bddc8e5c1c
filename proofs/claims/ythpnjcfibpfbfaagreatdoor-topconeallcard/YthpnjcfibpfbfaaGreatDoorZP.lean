/- The compiled functions are those of the given program. -/
import Derived.Test.YthpnjcfibpfbfaaGreatDoorZC
import Derived.Test.YthpnjcfibpfbfaaGreatDoorChecked
set_option linter.unusedVariables false
set_option linter.unusedSimpArgs false
set_option maxRecDepth 100000
namespace Go.Z
open Go Go.Abs Go.Proofs
def Is (k:Nat)(f:qx):Prop:=∃fn h,Tryz.prog.funcs[k]?=some fn∧qn9 Tryz.prog h fn=some f
theorem ok4:Is 4 c4:=⟨_,h4,Tryz.func4,by kernel_rfl⟩
theorem ok9:Is 9 c9:=⟨_,h9,Tryz.func9,by kernel_rfl⟩
theorem jdm:Is 24 c24:=⟨_,h24,Tryz.func24,by kernel_rfl⟩
theorem jce:Is 25 c25:=⟨_,h25,Tryz.func25,by kernel_rfl⟩
theorem jde:Is 26 c26:=⟨_,h26,Tryz.func26,by kernel_rfl⟩
theorem ja6:Is 27 c27:=⟨_,h27,Tryz.func27,by kernel_rfl⟩
theorem jdp:Is 28 c28:=⟨_,h28,Tryz.func28,by kernel_rfl⟩
theorem jb5:Is 29 c29:=⟨_,h29,Tryz.func29,by kernel_rfl⟩
theorem jb7:Is 32 c32:=⟨_,h32,Tryz.func32,by kernel_rfl⟩
theorem ja3:Is 37 c37:=⟨_,h37,Tryz.func37,by kernel_rfl⟩
theorem jc7:Is 46 c46:=⟨_,h46,Tryz.func46,by kernel_rfl⟩
theorem ja7:Is 47 c47:=⟨_,h47,Tryz.func47,by kernel_rfl⟩
theorem jbv:Is 48 c48:=⟨_,h48,Tryz.func48,by kernel_rfl⟩
theorem jb6:Is 49 c49:=⟨_,h49,Tryz.func49,by kernel_rfl⟩
theorem jb0:Is 51 c51:=⟨_,h51,Tryz.func51,by kernel_rfl⟩
theorem jca:Is 52 c52:=⟨_,h52,Tryz.func52,by kernel_rfl⟩
theorem ja2:Is 53 c53:=⟨_,h53,Tryz.func53,by kernel_rfl⟩
theorem ja4:Is 54 c54:=⟨_,h54,Tryz.func54,by kernel_rfl⟩
theorem jbf:Is 55 c55:=⟨_,h55,Tryz.func55,by kernel_rfl⟩
theorem jds:Is 59 c59:=⟨_,h59,Tryz.func59,by kernel_rfl⟩
theorem jbc:Is 60 c60:=⟨_,h60,Tryz.func60,by kernel_rfl⟩
theorem jct:Is 61 c61:=⟨_,h61,Tryz.func61,by kernel_rfl⟩
theorem jac:Is 62 c62:=⟨_,h62,Tryz.func62,by kernel_rfl⟩
theorem jb1:Is 63 c63:=⟨_,h63,Tryz.func63,by kernel_rfl⟩
theorem jah:Is 64 c64:=⟨_,h64,Tryz.func64,by kernel_rfl⟩
theorem jby:Is 65 c65:=⟨_,h65,Tryz.func65,by kernel_rfl⟩
theorem jdn:Is 66 c66:=⟨_,h66,Tryz.func66,by kernel_rfl⟩
theorem jdi:Is 67 c67:=⟨_,h67,Tryz.func67,by kernel_rfl⟩
theorem jbk:Is 68 c68:=⟨_,h68,Tryz.func68,by kernel_rfl⟩
theorem jab:Is 69 c69:=⟨_,h69,Tryz.func69,by kernel_rfl⟩
theorem jcn:Is 70 c70:=⟨_,h70,Tryz.func70,by kernel_rfl⟩
theorem jae:Is 71 c71:=⟨_,h71,Tryz.func71,by kernel_rfl⟩
theorem ja1:Is 72 c72:=⟨_,h72,Tryz.func72,by kernel_rfl⟩
theorem jbu:Is 73 c73:=⟨_,h73,Tryz.func73,by kernel_rfl⟩
theorem jbj:Is 76 c76:=⟨_,h76,Tryz.func76,by kernel_rfl⟩
theorem jad:Is 78 c78:=⟨_,h78,Tryz.func78,by kernel_rfl⟩
theorem jav:Is 85 c85:=⟨_,h85,Tryz.func85,by kernel_rfl⟩
theorem jda:Is 86 c86:=⟨_,h86,Tryz.func86,by kernel_rfl⟩
theorem jak:Is 87 c87:=⟨_,h87,Tryz.func87,by kernel_rfl⟩
theorem jdl:Is 88 c88:=⟨_,h88,Tryz.func88,by kernel_rfl⟩
theorem jcl:Is 89 c89:=⟨_,h89,Tryz.func89,by kernel_rfl⟩
theorem jcw:Is 90 c90:=⟨_,h90,Tryz.func90,by kernel_rfl⟩
theorem jb3:Is 91 c91:=⟨_,h91,Tryz.func91,by kernel_rfl⟩
theorem jbp:Is 92 c92:=⟨_,h92,Tryz.func92,by kernel_rfl⟩
theorem jb4:Is 93 c93:=⟨_,h93,Tryz.func93,by kernel_rfl⟩
theorem jbi:Is 96 c96:=⟨_,h96,Tryz.func96,by kernel_rfl⟩
theorem jci:Is 97 c97:=⟨_,h97,Tryz.func97,by kernel_rfl⟩
theorem jcp:Is 98 c98:=⟨_,h98,Tryz.func98,by kernel_rfl⟩
theorem jdr:Is 99 c99:=⟨_,h99,Tryz.func99,by kernel_rfl⟩
theorem q6e:Is 100 c100:=⟨_,h100,Tryz.func100,by kernel_rfl⟩
theorem q5p:Is 101 c101:=⟨_,h101,Tryz.func101,by kernel_rfl⟩
theorem q5h:Is 102 c102:=⟨_,h102,Tryz.func102,by kernel_rfl⟩
theorem q34:Is 103 c103:=⟨_,h103,Tryz.func103,by kernel_rfl⟩
theorem q7a:Is 104 c104:=⟨_,h104,Tryz.func104,by kernel_rfl⟩
theorem q5n:Is 105 c105:=⟨_,h105,Tryz.func105,by kernel_rfl⟩
theorem q3s:Is 106 c106:=⟨_,h106,Tryz.func106,by kernel_rfl⟩
theorem q5e:Is 107 c107:=⟨_,h107,Tryz.func107,by kernel_rfl⟩
theorem q7j:Is 108 c108:=⟨_,h108,Tryz.func108,by kernel_rfl⟩
theorem q62:Is 109 c109:=⟨_,h109,Tryz.func109,by kernel_rfl⟩
theorem q4l:Is 110 c110:=⟨_,h110,Tryz.func110,by kernel_rfl⟩
theorem q4v:Is 111 c111:=⟨_,h111,Tryz.func111,by kernel_rfl⟩
theorem q7k:Is 112 c112:=⟨_,h112,Tryz.func112,by kernel_rfl⟩
theorem q57:Is 119 c119:=⟨_,h119,Tryz.func119,by kernel_rfl⟩
theorem q4n:Is 120 c120:=⟨_,h120,Tryz.func120,by kernel_rfl⟩
theorem q6i:Is 121 c121:=⟨_,h121,Tryz.func121,by kernel_rfl⟩
theorem q3n:Is 122 c122:=⟨_,h122,Tryz.func122,by kernel_rfl⟩
theorem q48:Is 123 c123:=⟨_,h123,Tryz.func123,by kernel_rfl⟩
theorem q6f:Is 124 c124:=⟨_,h124,Tryz.func124,by kernel_rfl⟩
theorem q4z:Is 125 c125:=⟨_,h125,Tryz.func125,by kernel_rfl⟩
theorem q39:Is 126 c126:=⟨_,h126,Tryz.func126,by kernel_rfl⟩
theorem q4h:Is 127 c127:=⟨_,h127,Tryz.func127,by kernel_rfl⟩
theorem q63:Is 129 c129:=⟨_,h129,Tryz.func129,by kernel_rfl⟩
theorem q6k:Is 130 c130:=⟨_,h130,Tryz.func130,by kernel_rfl⟩
theorem q5d:Is 131 c131:=⟨_,h131,Tryz.func131,by kernel_rfl⟩
theorem q56:Is 132 c132:=⟨_,h132,Tryz.func132,by kernel_rfl⟩
theorem q68:Is 133 c133:=⟨_,h133,Tryz.func133,by kernel_rfl⟩
theorem q7r:Is 134 c134:=⟨_,h134,Tryz.func134,by kernel_rfl⟩
theorem q46:Is 142 c142:=⟨_,h142,Tryz.func142,by kernel_rfl⟩
theorem q5r:Is 143 c143:=⟨_,h143,Tryz.func143,by kernel_rfl⟩
theorem q7c:Is 144 c144:=⟨_,h144,Tryz.func144,by kernel_rfl⟩
theorem q3u:Is 145 c145:=⟨_,h145,Tryz.func145,by kernel_rfl⟩
theorem q6b:Is 146 c146:=⟨_,h146,Tryz.func146,by kernel_rfl⟩
theorem q6o:Is 147 c147:=⟨_,h147,Tryz.func147,by kernel_rfl⟩
theorem q5q:Is 148 c148:=⟨_,h148,Tryz.func148,by kernel_rfl⟩
theorem q58:Is 149 c149:=⟨_,h149,Tryz.func149,by kernel_rfl⟩
theorem q4u:Is 150 c150:=⟨_,h150,Tryz.func150,by kernel_rfl⟩
theorem q41:Is 151 c151:=⟨_,h151,Tryz.func151,by kernel_rfl⟩
theorem q3h:Is 152 c152:=⟨_,h152,Tryz.func152,by kernel_rfl⟩
theorem q5s:Is 153 c153:=⟨_,h153,Tryz.func153,by kernel_rfl⟩
theorem q47:Is 154 c154:=⟨_,h154,Tryz.func154,by kernel_rfl⟩
theorem q4k:Is 155 c155:=⟨_,h155,Tryz.func155,by kernel_rfl⟩
theorem q5v:Is 156 c156:=⟨_,h156,Tryz.func156,by kernel_rfl⟩
theorem q6g:Is 157 c157:=⟨_,h157,Tryz.func157,by kernel_rfl⟩
theorem q5l:Is 158 c158:=⟨_,h158,Tryz.func158,by kernel_rfl⟩
theorem q4j:Is 164 c164:=⟨_,h164,Tryz.func164,by kernel_rfl⟩
theorem q6d:Is 165 c165:=⟨_,h165,Tryz.func165,by kernel_rfl⟩
theorem q4g:Is 166 c166:=⟨_,h166,Tryz.func166,by kernel_rfl⟩
theorem q7g:Is 167 c167:=⟨_,h167,Tryz.func167,by kernel_rfl⟩
theorem q55:Is 168 c168:=⟨_,h168,Tryz.func168,by kernel_rfl⟩
theorem q6q:Is 173 c173:=⟨_,h173,Tryz.func173,by kernel_rfl⟩
theorem all:tree.All Is:=⟨⟨⟨⟨⟨⟨ok4,⟨ok9,jdm⟩⟩,⟨jce,⟨jde,ja6⟩⟩⟩,⟨⟨jdp,⟨jb5,jb7⟩⟩,⟨ja3,⟨jc7,ja7⟩⟩⟩⟩,⟨⟨⟨jbv,⟨jb6,jb0⟩⟩,⟨jca,⟨ja2,ja4⟩⟩⟩,⟨⟨jbf,⟨jds,jbc⟩⟩,⟨⟨jct,jac⟩,⟨jb1,jah⟩⟩⟩⟩⟩,⟨⟨⟨⟨jby,⟨jdn,jdi⟩⟩,⟨jbk,⟨jab,jcn⟩⟩⟩,⟨⟨jae,⟨ja1,jbu⟩⟩,⟨jbj,⟨jad,jav⟩⟩⟩⟩,⟨⟨⟨jda,⟨jak,jdl⟩⟩,⟨jcl,⟨jcw,jb3⟩⟩⟩,⟨⟨jbp,⟨jb4,jbi⟩⟩,⟨⟨jci,jcp⟩,⟨jdr,q6e⟩⟩⟩⟩⟩⟩,⟨⟨⟨⟨⟨q5p,⟨q5h,q34⟩⟩,⟨q7a,⟨q5n,q3s⟩⟩⟩,⟨⟨q5e,⟨q7j,q62⟩⟩,⟨q4l,⟨q4v,q7k⟩⟩⟩⟩,⟨⟨⟨q57,⟨q4n,q6i⟩⟩,⟨q3n,⟨q48,q6f⟩⟩⟩,⟨⟨q4z,⟨q39,q4h⟩⟩,⟨⟨q63,q6k⟩,⟨q5d,q56⟩⟩⟩⟩⟩,⟨⟨⟨⟨q68,⟨q7r,q46⟩⟩,⟨q5r,⟨q7c,q3u⟩⟩⟩,⟨⟨q6b,⟨q6o,q5q⟩⟩,⟨q58,⟨q4u,q41⟩⟩⟩⟩,⟨⟨⟨q3h,⟨q5s,q47⟩⟩,⟨q4k,⟨q5v,q6g⟩⟩⟩,⟨⟨q5l,⟨q4j,q6d⟩⟩,⟨⟨q4g,q7g⟩,⟨q55,q6q⟩⟩⟩⟩⟩⟩⟩
theorem ok0:ProgOk Tryz.prog (tree.prog fun _=>none) where
 fn:=fun k f hf=>FTree.find_all all hf
 prim:=by intro k f hf;simp[FTree.prog]at hf
 mixed:=by kernel_rfl
end Go.Z
