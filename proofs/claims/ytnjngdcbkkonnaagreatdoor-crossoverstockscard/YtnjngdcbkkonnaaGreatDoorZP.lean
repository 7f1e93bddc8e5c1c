/-
  The compiled functions are those of the given program.
-/
import Derived.Test.YtnjngdcbkkonnaaGreatDoorZC
import Derived.Test.YtnjngdcbkkonnaaGreatDoorAbsH
import Derived.Test.YtnjngdcbkkonnaaGreatDoorChecked
import Derived.KernelRfl
set_option linter.unusedVariables false
set_option linter.unusedSimpArgs false
set_option maxRecDepth 100000
namespace Go.Z
open Go Go.Abs Go.Proofs
def Is (k:Nat) (f:ja):Prop:=∃ fn h,Tryz.prog.funcs[k]?=some fn∧qsy Tryz.prog h fn=some f
theorem ok9:Is 9 c9:=⟨Tryz.f9,h9,Tryz.func9,by kernel_rfl⟩
theorem jji:Is 16 c16:=⟨Tryz.f16,h16,Tryz.func16,by kernel_rfl⟩
theorem jkr:Is 17 c17:=⟨Tryz.f17,h17,Tryz.func17,by kernel_rfl⟩
theorem jjk:Is 18 c18:=⟨Tryz.f18,h18,Tryz.func18,by kernel_rfl⟩
theorem jlo:Is 19 c19:=⟨Tryz.f19,h19,Tryz.func19,by kernel_rfl⟩
theorem jim:Is 20 c20:=⟨Tryz.f20,h20,Tryz.func20,by kernel_rfl⟩
theorem jj1:Is 22 c22:=⟨Tryz.f22,h22,Tryz.func22,by kernel_rfl⟩
theorem jlp:Is 23 c23:=⟨Tryz.f23,h23,Tryz.func23,by kernel_rfl⟩
theorem jlk:Is 24 c24:=⟨Tryz.f24,h24,Tryz.func24,by kernel_rfl⟩
theorem jkq:Is 25 c25:=⟨Tryz.f25,h25,Tryz.func25,by kernel_rfl⟩
theorem jjj:Is 26 c26:=⟨Tryz.f26,h26,Tryz.func26,by kernel_rfl⟩
theorem jkl:Is 27 c27:=⟨Tryz.f27,h27,Tryz.func27,by kernel_rfl⟩
theorem jlh:Is 29 c29:=⟨Tryz.f29,h29,Tryz.func29,by kernel_rfl⟩
theorem jl2:Is 30 c30:=⟨Tryz.f30,h30,Tryz.func30,by kernel_rfl⟩
theorem jln:Is 31 c31:=⟨Tryz.f31,h31,Tryz.func31,by kernel_rfl⟩
theorem jlm:Is 32 c32:=⟨Tryz.f32,h32,Tryz.func32,by kernel_rfl⟩
theorem jkc:Is 33 c33:=⟨Tryz.f33,h33,Tryz.func33,by kernel_rfl⟩
theorem jle:Is 37 c37:=⟨Tryz.f37,h37,Tryz.func37,by kernel_rfl⟩
theorem jiy:Is 40 c40:=⟨Tryz.f40,h40,Tryz.func40,by kernel_rfl⟩
theorem jje:Is 42 c42:=⟨Tryz.f42,h42,Tryz.func42,by kernel_rfl⟩
theorem jla:Is 43 c43:=⟨Tryz.f43,h43,Tryz.func43,by kernel_rfl⟩
theorem jko:Is 45 c45:=⟨Tryz.f45,h45,Tryz.func45,by kernel_rfl⟩
theorem jlj:Is 47 c47:=⟨Tryz.f47,h47,Tryz.func47,by kernel_rfl⟩
theorem jj0:Is 48 c48:=⟨Tryz.f48,h48,Tryz.func48,by kernel_rfl⟩
theorem jj6:Is 55 c55:=⟨Tryz.f55,h55,Tryz.func55,by kernel_rfl⟩
theorem jjy:Is 57 c57:=⟨Tryz.f57,h57,Tryz.func57,by kernel_rfl⟩
theorem jlu:Is 59 c59:=⟨Tryz.f59,h59,Tryz.func59,by kernel_rfl⟩
theorem jig:Is 60 c60:=⟨Tryz.f60,h60,Tryz.func60,by kernel_rfl⟩
theorem jlc:Is 67 c67:=⟨Tryz.f67,h67,Tryz.func67,by kernel_rfl⟩
theorem jin:Is 68 c68:=⟨Tryz.f68,h68,Tryz.func68,by kernel_rfl⟩
theorem jix:Is 69 c69:=⟨Tryz.f69,h69,Tryz.func69,by kernel_rfl⟩
theorem ji0:Is 70 c70:=⟨Tryz.f70,h70,Tryz.func70,by kernel_rfl⟩
theorem jjd:Is 71 c71:=⟨Tryz.f71,h71,Tryz.func71,by kernel_rfl⟩
theorem jky:Is 72 c72:=⟨Tryz.f72,h72,Tryz.func72,by kernel_rfl⟩
theorem jkx:Is 73 c73:=⟨Tryz.f73,h73,Tryz.func73,by kernel_rfl⟩
theorem jjf:Is 74 c74:=⟨Tryz.f74,h74,Tryz.func74,by kernel_rfl⟩
theorem jkh:Is 75 c75:=⟨Tryz.f75,h75,Tryz.func75,by kernel_rfl⟩
theorem jkj:Is 81 c81:=⟨Tryz.f81,h81,Tryz.func81,by kernel_rfl⟩
theorem jja:Is 84 c84:=⟨Tryz.f84,h84,Tryz.func84,by kernel_rfl⟩
theorem ji2:Is 92 c92:=⟨Tryz.f92,h92,Tryz.func92,by kernel_rfl⟩
theorem jls:Is 97 c97:=⟨Tryz.f97,h97,Tryz.func97,by kernel_rfl⟩
theorem jlq:Is 98 c98:=⟨Tryz.f98,h98,Tryz.func98,by kernel_rfl⟩
theorem ji3:Is 99 c99:=⟨Tryz.f99,h99,Tryz.func99,by kernel_rfl⟩
theorem je0:Is 100 c100:=⟨Tryz.f100,h100,Tryz.func100,by kernel_rfl⟩
theorem jaj:Is 101 c101:=⟨Tryz.f101,h101,Tryz.func101,by kernel_rfl⟩
theorem jef:Is 102 c102:=⟨Tryz.f102,h102,Tryz.func102,by kernel_rfl⟩
theorem jd6:Is 103 c103:=⟨Tryz.f103,h103,Tryz.func103,by kernel_rfl⟩
theorem jdy:Is 104 c104:=⟨Tryz.f104,h104,Tryz.func104,by kernel_rfl⟩
theorem jez:Is 105 c105:=⟨Tryz.f105,h105,Tryz.func105,by kernel_rfl⟩
theorem jad:Is 106 c106:=⟨Tryz.f106,h106,Tryz.func106,by kernel_rfl⟩
theorem jfl:Is 107 c107:=⟨Tryz.f107,h107,Tryz.func107,by kernel_rfl⟩
theorem jbf:Is 108 c108:=⟨Tryz.f108,h108,Tryz.func108,by kernel_rfl⟩
theorem jcl:Is 109 c109:=⟨Tryz.f109,h109,Tryz.func109,by kernel_rfl⟩
theorem jb6:Is 110 c110:=⟨Tryz.f110,h110,Tryz.func110,by kernel_rfl⟩
theorem jcm:Is 111 c111:=⟨Tryz.f111,h111,Tryz.func111,by kernel_rfl⟩
theorem jd9:Is 114 c114:=⟨Tryz.f114,h114,Tryz.func114,by kernel_rfl⟩
theorem je5:Is 115 c115:=⟨Tryz.f115,h115,Tryz.func115,by kernel_rfl⟩
theorem jbv:Is 116 c116:=⟨Tryz.f116,h116,Tryz.func116,by kernel_rfl⟩
theorem jet:Is 117 c117:=⟨Tryz.f117,h117,Tryz.func117,by kernel_rfl⟩
theorem jc7:Is 121 c121:=⟨Tryz.f121,h121,Tryz.func121,by kernel_rfl⟩
theorem jb3:Is 122 c122:=⟨Tryz.f122,h122,Tryz.func122,by kernel_rfl⟩
theorem jfm:Is 123 c123:=⟨Tryz.f123,h123,Tryz.func123,by kernel_rfl⟩
theorem jeq:Is 124 c124:=⟨Tryz.f124,h124,Tryz.func124,by kernel_rfl⟩
theorem je9:Is 125 c125:=⟨Tryz.f125,h125,Tryz.func125,by kernel_rfl⟩
theorem jcr:Is 126 c126:=⟨Tryz.f126,h126,Tryz.func126,by kernel_rfl⟩
theorem jf8:Is 127 c127:=⟨Tryz.f127,h127,Tryz.func127,by kernel_rfl⟩
theorem jaq:Is 131 c131:=⟨Tryz.f131,h131,Tryz.func131,by kernel_rfl⟩
theorem jeo:Is 132 c132:=⟨Tryz.f132,h132,Tryz.func132,by kernel_rfl⟩
theorem jfr:Is 133 c133:=⟨Tryz.f133,h133,Tryz.func133,by kernel_rfl⟩
theorem je2:Is 134 c134:=⟨Tryz.f134,h134,Tryz.func134,by kernel_rfl⟩
theorem jey:Is 135 c135:=⟨Tryz.f135,h135,Tryz.func135,by kernel_rfl⟩
theorem jdp:Is 136 c136:=⟨Tryz.f136,h136,Tryz.func136,by kernel_rfl⟩
theorem jcp:Is 138 c138:=⟨Tryz.f138,h138,Tryz.func138,by kernel_rfl⟩
theorem jdt:Is 139 c139:=⟨Tryz.f139,h139,Tryz.func139,by kernel_rfl⟩
theorem jba:Is 140 c140:=⟨Tryz.f140,h140,Tryz.func140,by kernel_rfl⟩
theorem jal:Is 143 c143:=⟨Tryz.f143,h143,Tryz.func143,by kernel_rfl⟩
theorem jc6:Is 145 c145:=⟨Tryz.f145,h145,Tryz.func145,by kernel_rfl⟩
theorem jbu:Is 146 c146:=⟨Tryz.f146,h146,Tryz.func146,by kernel_rfl⟩
theorem jb5:Is 147 c147:=⟨Tryz.f147,h147,Tryz.func147,by kernel_rfl⟩
theorem jdb:Is 148 c148:=⟨Tryz.f148,h148,Tryz.func148,by kernel_rfl⟩
theorem jbp:Is 149 c149:=⟨Tryz.f149,h149,Tryz.func149,by kernel_rfl⟩
theorem jdx:Is 155 c155:=⟨Tryz.f155,h155,Tryz.func155,by kernel_rfl⟩
theorem jby:Is 156 c156:=⟨Tryz.f156,h156,Tryz.func156,by kernel_rfl⟩
theorem jdm:Is 157 c157:=⟨Tryz.f157,h157,Tryz.func157,by kernel_rfl⟩
theorem jex:Is 158 c158:=⟨Tryz.f158,h158,Tryz.func158,by kernel_rfl⟩
theorem jbz:Is 159 c159:=⟨Tryz.f159,h159,Tryz.func159,by kernel_rfl⟩
theorem ja2:Is 161 c161:=⟨Tryz.f161,h161,Tryz.func161,by kernel_rfl⟩
theorem jd5:Is 162 c162:=⟨Tryz.f162,h162,Tryz.func162,by kernel_rfl⟩
theorem jco:Is 163 c163:=⟨Tryz.f163,h163,Tryz.func163,by kernel_rfl⟩
theorem jc5:Is 164 c164:=⟨Tryz.f164,h164,Tryz.func164,by kernel_rfl⟩
theorem jfx:Is 165 c165:=⟨Tryz.f165,h165,Tryz.func165,by kernel_rfl⟩
theorem jcb:Is 171 c171:=⟨Tryz.f171,h171,Tryz.func171,by kernel_rfl⟩
theorem jbj:Is 172 c172:=⟨Tryz.f172,h172,Tryz.func172,by kernel_rfl⟩
theorem jbl:Is 173 c173:=⟨Tryz.f173,h173,Tryz.func173,by kernel_rfl⟩
theorem jek:Is 174 c174:=⟨Tryz.f174,h174,Tryz.func174,by kernel_rfl⟩
theorem jau:Is 175 c175:=⟨Tryz.f175,h175,Tryz.func175,by kernel_rfl⟩
theorem jep:Is 176 c176:=⟨Tryz.f176,h176,Tryz.func176,by kernel_rfl⟩
theorem jfz:Is 177 c177:=⟨Tryz.f177,h177,Tryz.func177,by kernel_rfl⟩
theorem jdr:Is 178 c178:=⟨Tryz.f178,h178,Tryz.func178,by kernel_rfl⟩
theorem jer:Is 179 c179:=⟨Tryz.f179,h179,Tryz.func179,by kernel_rfl⟩
theorem jbm:Is 180 c180:=⟨Tryz.f180,h180,Tryz.func180,by kernel_rfl⟩
theorem jbr:Is 181 c181:=⟨Tryz.f181,h181,Tryz.func181,by kernel_rfl⟩
theorem jcv:Is 191 c191:=⟨Tryz.f191,h191,Tryz.func191,by kernel_rfl⟩
theorem jc8:Is 192 c192:=⟨Tryz.f192,h192,Tryz.func192,by kernel_rfl⟩
theorem jel:Is 193 c193:=⟨Tryz.f193,h193,Tryz.func193,by kernel_rfl⟩
theorem jds:Is 194 c194:=⟨Tryz.f194,h194,Tryz.func194,by kernel_rfl⟩
theorem jes:Is 195 c195:=⟨Tryz.f195,h195,Tryz.func195,by kernel_rfl⟩
theorem jah:Is 196 c196:=⟨Tryz.f196,h196,Tryz.func196,by kernel_rfl⟩
theorem jas:Is 197 c197:=⟨Tryz.f197,h197,Tryz.func197,by kernel_rfl⟩
theorem jed:Is 198 c198:=⟨Tryz.f198,h198,Tryz.func198,by kernel_rfl⟩
theorem jbi:Is 200 c200:=⟨Tryz.f200,h200,Tryz.func200,by kernel_rfl⟩
theorem jap:Is 201 c201:=⟨Tryz.f201,h201,Tryz.func201,by kernel_rfl⟩
theorem jcg:Is 202 c202:=⟨Tryz.f202,h202,Tryz.func202,by kernel_rfl⟩
theorem jcy:Is 203 c203:=⟨Tryz.f203,h203,Tryz.func203,by kernel_rfl⟩
theorem jcn:Is 204 c204:=⟨Tryz.f204,h204,Tryz.func204,by kernel_rfl⟩
theorem jev:Is 205 c205:=⟨Tryz.f205,h205,Tryz.func205,by kernel_rfl⟩
theorem jem:Is 206 c206:=⟨Tryz.f206,h206,Tryz.func206,by kernel_rfl⟩
theorem jdv:Is 207 c207:=⟨Tryz.f207,h207,Tryz.func207,by kernel_rfl⟩
theorem jb7:Is 208 c208:=⟨Tryz.f208,h208,Tryz.func208,by kernel_rfl⟩
theorem jdk:Is 209 c209:=⟨Tryz.f209,h209,Tryz.func209,by kernel_rfl⟩
theorem jbb:Is 210 c210:=⟨Tryz.f210,h210,Tryz.func210,by kernel_rfl⟩
theorem jej:Is 218 c218:=⟨Tryz.f218,h218,Tryz.func218,by kernel_rfl⟩
theorem jc3:Is 219 c219:=⟨Tryz.f219,h219,Tryz.func219,by kernel_rfl⟩
theorem jbw:Is 220 c220:=⟨Tryz.f220,h220,Tryz.func220,by kernel_rfl⟩
theorem ja1:Is 222 c222:=⟨Tryz.f222,h222,Tryz.func222,by kernel_rfl⟩
theorem jfn:Is 231 c231:=⟨Tryz.f231,h231,Tryz.func231,by kernel_rfl⟩
theorem jf2:Is 232 c232:=⟨Tryz.f232,h232,Tryz.func232,by kernel_rfl⟩
theorem jbt:Is 233 c233:=⟨Tryz.f233,h233,Tryz.func233,by kernel_rfl⟩
theorem jfj:Is 234 c234:=⟨Tryz.f234,h234,Tryz.func234,by kernel_rfl⟩
theorem all:tree.All Is:=⟨⟨⟨⟨⟨⟨⟨ok9,jji⟩,⟨jkr,jjk⟩⟩,⟨⟨jlo,jim⟩,⟨jj1,jlp⟩⟩⟩,⟨⟨⟨jlk,jkq⟩,⟨jjj,jkl⟩⟩,⟨⟨jlh,jl2⟩,⟨jln,jlm⟩⟩⟩⟩,⟨⟨⟨⟨jkc,jle⟩,⟨jiy,jje⟩⟩,⟨⟨jla,jko⟩,⟨jlj,jj0⟩⟩⟩,⟨⟨⟨jj6,jjy⟩,⟨jlu,jig⟩⟩,⟨⟨jlc,jin⟩,⟨jix,ji0⟩⟩⟩⟩⟩,⟨⟨⟨⟨⟨jjd,jky⟩,⟨jkx,jjf⟩⟩,⟨⟨jkh,jkj⟩,⟨jja,ji2⟩⟩⟩,⟨⟨⟨jls,jlq⟩,⟨ji3,je0⟩⟩,⟨⟨jaj,jef⟩,⟨jd6,jdy⟩⟩⟩⟩,⟨⟨⟨⟨jez,jad⟩,⟨jfl,jbf⟩⟩,⟨⟨jcl,jb6⟩,⟨jcm,jd9⟩⟩⟩,⟨⟨⟨je5,jbv⟩,⟨jet,jc7⟩⟩,⟨⟨jb3,jfm⟩,⟨jeq,je9⟩⟩⟩⟩⟩⟩,⟨⟨⟨⟨⟨⟨jcr,jf8⟩,⟨jaq,jeo⟩⟩,⟨⟨jfr,je2⟩,⟨jey,jdp⟩⟩⟩,⟨⟨⟨jcp,jdt⟩,⟨jba,jal⟩⟩,⟨⟨jc6,jbu⟩,⟨jb5,jdb⟩⟩⟩⟩,⟨⟨⟨⟨jbp,jdx⟩,⟨jby,jdm⟩⟩,⟨⟨jex,jbz⟩,⟨ja2,jd5⟩⟩⟩,⟨⟨⟨jco,jc5⟩,⟨jfx,jcb⟩⟩,⟨⟨jbj,jbl⟩,⟨jek,jau⟩⟩⟩⟩⟩,⟨⟨⟨⟨⟨jep,jfz⟩,⟨jdr,jer⟩⟩,⟨⟨jbm,jbr⟩,⟨jcv,jc8⟩⟩⟩,⟨⟨⟨jel,jds⟩,⟨jes,jah⟩⟩,⟨⟨jas,jed⟩,⟨jbi,jap⟩⟩⟩⟩,⟨⟨⟨⟨jcg,jcy⟩,⟨jcn,jev⟩⟩,⟨⟨jem,jdv⟩,⟨jb7,jdk⟩⟩⟩,⟨⟨⟨jbb,jej⟩,⟨jc3,jbw⟩⟩,⟨⟨ja1,jfn⟩,⟨jf2,⟨jbt,jfj⟩⟩⟩⟩⟩⟩⟩⟩
theorem ok0:ProgOk Tryz.prog (tree.prog fun _=>none) where
 fn:=fun k f hf=>FTree.find_all all hf
 prim:=by intro k f hf; simp [FTree.prog] at hf
 mixed:=by kernel_rfl
end Go.Z
