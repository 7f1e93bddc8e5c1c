/- Functions of the program for the abstract machine, printed by a program. -/
import Derived.Test.YtlhfdilpecnjeaaGreatDoorZCx1
set_option linter.unusedVariables false
set_option linter.unusedSimpArgs false
set_option maxRecDepth 100000
set_option maxHeartbeats 4000000
namespace Go.Z
open Go Go.Abs Go.Proofs
noncomputable section
def Ek:=bJ Tryz.f131 {}
def Cw:=bJ Tryz.f135 (bH [10,14] [1,5,8,12,16])
def GK:=cV Tryz.f136 {} [0]
def Ck:=dA Tryz.f136 {} GK
def tJ:=bJ Tryz.f137 (bH [22] [])
def Cu:=bJ Tryz.f138 {}
def Cn:=bJ Tryz.f139 {}
def Cz:=bJ Tryz.f140 (bH [] [9,36,39])
def LZ:jx:={ bH [8,10,14,16] []with shr:=[(5,2)] }
def vS:=cV Tryz.f144 LZ [0]
def oG:=dA Tryz.f144 LZ vS
def Ev:=bJ Tryz.f145 {}
def L0:jx:={ bH [8,10,17] []with shr:=[(4,5)] }
def jzg:=cV Tryz.f146 L0 [0]
def c146:=dA Tryz.f146 L0 jzg
def L2:jx:={ bH [14,21] [7,16]with shr:=[(5,3)] }
def Se:=cV Tryz.f147 L2 [0]
def EH:=dA Tryz.f147 L2 Se
def EG:=bJ Tryz.f148 (bH [] [1,4])
def L3:jx:=bH [8,10,17] []
def Rk:=cV Tryz.f149 L3 [0]
def El:=dA Tryz.f149 L3 Rk
def Ey:=bJ Tryz.f150 {}
def Eu:=bJ Tryz.f151 {}
def DT:=bJ Tryz.f152 (bH [] [3,9,13,70,86,90,94,16,48])
def E1:=bJ Tryz.f153 (bH [] [2,3,8,10,16,18,23,47,51,56,60,72,76,80,84,89,93,97,109,29,34,110])
def E0:=bJ Tryz.f154 (bH [] [2,3,8,10,16,18,23,29,31,38,40,43])
def L4:jx:=bH [131] [2,3,8,12,14,20,22,27,38,40,46,48,56,57,62,70,76,83,88,94,100,111,114,118,119,125,130,31,133]
def SC:=cV Tryz.f155 L4 [0]
def E4:=dA Tryz.f155 L4 SC
def Eo:=bJ Tryz.f157 (bH [] [2,3,6,7,9,15])
def L5:jx:=bH [44] [2,3,7,10,16,21,23,27,29,33,35,39,41]
def RL:=cV Tryz.f158 L5 [0]
def Ep:=dA Tryz.f158 L5 RL
def EI:=bJ Tryz.f159 (bH [] [2,4])
def L6:jx:={ bH [17,22] [7,15,18]with shr:=[(5,2)] }
def R7:=cV Tryz.f160 L6 [0]
def ED:=dA Tryz.f160 L6 R7
def EA:=bJ Tryz.f161 (bH [] [2,3,6,7,9,15])
def EC:=bJ Tryz.f162 (bH [] [2,5])
def L7:jx:=bH [] [2,3,7,10,17,19,23,25,28,37,44]
def R4:=cV Tryz.f163 L7 [0]
def EB:=dA Tryz.f163 L7 R4
def L8:jx:={ bH [14,21] [7,16]with shr:=[(5,3)] }
def Sb:=cV Tryz.f164 L8 [0]
def EF:=dA Tryz.f164 L8 Sb
def EE:=bJ Tryz.f165 (bH [] [1,4])
def Ew:=bJ Tryz.f166 {}
def L9:jx:={ bH [14,21] [7,16]with shr:=[(5,3)] }
def PR:=cV Tryz.f167 L9 [0]
def CH:=dA Tryz.f167 L9 PR
def CG:=bJ Tryz.f168 (bH [] [1,4])
def ER:=bJ Tryz.f169 (bH [] [3,7])
def ES:=bJ Tryz.f170 (bH [] [3,7])
def Dv:=bJ Tryz.f171 (bH [] [2,5])
def oE:=bJ Tryz.f172 { shr:=[(1,2)] }
def ub:=bJ Tryz.f173 (bH [] [5])
def l4:=bJ Tryz.f174 { shr:=[(1,6)] }
def Ma:jx:={ bH [17,22] [7,15,18]with shr:=[(5,2)] }
def Qz:=cV Tryz.f175 Ma [0]
def Dy:=dA Tryz.f175 Ma Qz
def Dx:=bJ Tryz.f176 { bH [] [2,5]with shr:=[(1,2)] }
def Dz:=bJ Tryz.f177 (bH [] [4,18])
def DA:=bJ Tryz.f178 (bH [] [2,5])
def tX:=bJ Tryz.f179 {}
def tZ:=bJ Tryz.f180 {}
def DC:=bJ Tryz.f181 (bH [] [4,18])
def De:=bJ Tryz.f182 { bH [19] []with gf:=[10],shr:=[(3,4)] }
def DI:=bJ Tryz.f183 {}
def EU:=bJ Tryz.f184 (bH [] [3,7])
def EZ:=bJ Tryz.f185 (bH [] [1,4,7])
def ET:=bJ Tryz.f186 (bH [] [3,7])
def Dw:=bJ Tryz.f187 (bH [] [2,5])
def Df:=bJ Tryz.f188 { bH [19] []with gf:=[10],shr:=[(3,4)] }
def Dr:=bJ Tryz.f189 {}
def DF:=bJ Tryz.f190 (bH [] [2,5])
def Mb:jx:={ bH [8,10,17] []with shr:=[(4,5)] }
def QI:=cV Tryz.f191 Mb [0]
def DG:=dA Tryz.f191 Mb QI
def tV:=bJ Tryz.f192 { bH [19] []with gf:=[10],shr:=[(3,4)] }
def ua:=bJ Tryz.f193 {}
def DH:=bJ Tryz.f194 (bH [] [4,18])
def DE:=bJ Tryz.f195 (bH [] [2,5])
def DJ:=bJ Tryz.f196 {}
def EY:=bJ Tryz.f197 (bH [] [3,7])
def Ez:=bJ Tryz.f198 (bH [] [2,3,6,7,9])
def Dn:=bJ Tryz.f199 {}
def Dp:=bJ Tryz.f200 {}
def Dq:=bJ Tryz.f201 {}
def Dj:=bJ Tryz.f202 {}
def Dk:=bJ Tryz.f203 {}
def kJ:=bJ Tryz.f204 { bH [12] [2,3,6,7,8,13,17,20,21,22,26,27,31,32]with shr:=[(2,2)] }
def Dl:=bJ Tryz.f205 {}
def Dm:=bJ Tryz.f206 {}
def Mc:jx:={ bH [14,21] []with shr:=[(5,3)] }
def Px:=cV Tryz.f210 Mc [0]
def Cv:=dA Tryz.f210 Mc Px
def Md:jx:={ bH [16] []with shr:=[(36,1),(37,1),(38,0),(39,1),(39,3),(40,0),(40,3),(41,0)] }
def j0a:=cV Tryz.f211 Md [0]
def c211:=dA Tryz.f211 Md j0a
def j0l:=cV Tryz.f212 (bH [94] []) [0]
def Ci:=dA Tryz.f212 (bH [94] []) j0l
def Ct:=bJ Tryz.f213 {}
def Me:jx:=bH [22,32,43,47] [3,20,30,33,40,44]
def QL:=cV Tryz.f217 Me [0]
def DN:=dA Tryz.f217 Me QL
def Mf:jx:=bH [22,26,35,39] [3,20,23,36]
def QO:=cV Tryz.f218 Mf [0]
def DQ:=dA Tryz.f218 Mf QO
def DL:=bJ Tryz.f219 { bH [] [5,15]with gf:=[10] }
def DK:=bJ Tryz.f220 { bH [] [5,15]with gf:=[10] }
def Mg:jx:=bH [] [3,5,11,15,19,21,27,29,35,37,41,44,45,50,58,69,71,77,81,91,96]
def Sy:=cV Tryz.f221 Mg [0] (q:=[((1,12),[0]),((1,13),[0])])
def E2:=dA Tryz.f221 Mg Sy (q:=[((1,12),[0]),((1,13),[0])])
def E3:=bJ Tryz.f222 (bH [] [3,5,12,16,18,24,26,33,46,53,62,69]) (q:=[((1,12),[0]),((1,13),[0])])
def Er:=bJ Tryz.f223 (bH [] [2,3,6,7,9])
def Mh:jx:=bH [] [2,3,7,9,10,11,14,15,18,19,25,31,32,34]
def RU:=cV Tryz.f224 Mh [0]
def Et:=dA Tryz.f224 Mh RU
def DM:=bJ Tryz.f225 { bH [] [5,15]with gf:=[10] }
def EJ:=bJ Tryz.f226 {}
def EK:=bJ Tryz.f227 {}
def Mi:jx:={ bH [8,10,17] []with shr:=[(4,5)] }
def qY:=cV Tryz.f228 Mi [0]
def l0:=dA Tryz.f228 Mi qY
def tY:=bJ Tryz.f229 { shr:=[(0,4)] }
def Dg:=bJ Tryz.f230 { bH [19] []with gf:=[10],shr:=[(3,4)] }
def Ds:=bJ Tryz.f231 {}
def EV:=bJ Tryz.f232 (bH [] [3,7])
def Mj:jx:={ bH [8,10,17] []with shr:=[(4,5)] }
def DB:=cV Tryz.f233 Mj [0]
def tW:=dA Tryz.f233 Mj DB
def Dh:=bJ Tryz.f234 { bH [19] []with gf:=[10],shr:=[(3,4)] }
def Dt:=bJ Tryz.f235 {}
def EW:=bJ Tryz.f236 (bH [] [3,7])
def EM:=bJ Tryz.f237 {}
def EN:=bJ Tryz.f238 {}
def EO:=bJ Tryz.f239 {}
def EL:=bJ Tryz.f240 {}
def Di:=bJ Tryz.f241 { bH [19] []with gf:=[10],shr:=[(3,4)] }
def Du:=bJ Tryz.f242 {}
def EX:=bJ Tryz.f243 (bH [] [3,7])
def EP:=bJ Tryz.f244 {}
def Fh:=bJ Tryz.f245 (bH [] [2,3])
def l5:=bJ Tryz.f246 { bH [] [2,3,5,6,9,10,14,16,20,21]with shr:=[(2,2),(6,5)] }
def c256:=bJ Tryz.f256 {}
def Ml:jx:={ bH [20] []with shr:=[(4,2)] }
def Cr:=cV Tryz.f260 Ml [0]
def Cs:=dA Tryz.f260 Ml Cr
def Mm:jx:=bH [30,36,42] []
def Lj:=cV Tryz.f262 Mm [0]
def DS:=dA Tryz.f262 Mm Lj
def Mn:jx:=bH [] [2,3,5,7,8,12,17,18,20,27]
def RO:=cV Tryz.f263 Mn [0]
def Es:=dA Tryz.f263 Mn RO
def EQ:=bJ Tryz.f264 {}
def Mp:jx:={ bH [] [5,18,23]with shr:=[(3,11)] }
def Lp:=cV Tryz.f265 Mp [0]
def Fe:=dA Tryz.f265 Mp Lp
def E7:=bJ Tryz.f266 (bH [] [2,6,9])
def Mq:jx:=bH [39] [3,4,11,17,18,20,33]
def RF:=cV Tryz.f277 Mq [0]
def Em:=dA Tryz.f277 Mq RF
end
end Go.Z
