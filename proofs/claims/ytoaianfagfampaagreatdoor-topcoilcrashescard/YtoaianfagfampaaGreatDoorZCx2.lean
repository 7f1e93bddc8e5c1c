/- Functions of the program for the abstract machine, printed by a program. -/
import Derived.Test.YtoaianfagfampaaGreatDoorZCx1
set_option linter.all false
set_option maxRecDepth 100000
set_option maxHeartbeats 4000000
namespace Go.Z
open Go Go.Abs Go.Proofs
noncomputable section
def Ef:=bJ Tryz.f110 (bF [] [3,9,13,70,86,90,94,16,48])
def Ek:=bJ Tryz.f111 (bF [] [2,3,8,10,16,18,23,47,51,56,60,72,76,80,84,89,93,97,109,29,34,110])
def Ej:=bJ Tryz.f112 (bF [] [2,3,8,10,16,18,23,29,31,38,40,43])
def K6:jt:=bF [131] [2,3,8,12,14,20,22,27,38,40,46,48,56,57,62,70,76,83,88,94,100,111,114,118,119,125,130,31,133]
def QK:=cW Tryz.f113 K6 [0]
def Eo:=dB Tryz.f113 K6 QK
def K7:jt:={ bF [8,10,14,16] []with shr:=[(5,2)] }
def vo:=cW Tryz.f117 K7 [0]
def ov:=dB Tryz.f117 K7 vo
def CX:=bJ Tryz.f118 {}
def K8:jt:={ bF [14,21] [7,16]with shr:=[(5,3)] }
def PR:=cW Tryz.f119 K8 [0]
def Da:=dB Tryz.f119 K8 PR
def C9:=bJ Tryz.f120 (bF [] [1,4])
def Db:=bJ Tryz.f121 (bF [] [2,4])
def K9:jt:={ bF [17,22] [7,15,18]with shr:=[(5,2)] }
def PK:=cW Tryz.f122 K9 [0]
def C6:=dB Tryz.f122 K9 PK
def CZ:=bJ Tryz.f123 (bF [] [2,3,6,7,9,15])
def C5:=bJ Tryz.f124 (bF [] [2,5])
def La:jt:=bF [] [2,3,7,10,17,19,23,25,28,37,44]
def PH:=cW Tryz.f125 La [0]
def C4:=dB Tryz.f125 La PH
def Lb:jt:={ bF [14,21] [7,16]with shr:=[(5,3)] }
def PO:=cW Tryz.f126 Lb [0]
def C8:=dB Tryz.f126 Lb PO
def C7:=bJ Tryz.f127 (bF [] [1,4])
def CW:=bJ Tryz.f128 {}
def Lc:jt:={ bF [14,21] [7,16]with shr:=[(5,3)] }
def N5:=cW Tryz.f129 Lc [0]
def Cd:=dB Tryz.f129 Lc N5
def Cc:=bJ Tryz.f130 (bF [] [1,4])
def Ld:jt:=bF [8,10,17] []
def OU:=cW Tryz.f131 Ld [0]
def CI:=dB Tryz.f131 Ld OU
def CV:=bJ Tryz.f132 (bF [] [2,3,6])
def Dk:=bJ Tryz.f133 (bF [] [3,7])
def Dl:=bJ Tryz.f134 (bF [] [3,7])
def DQ:=bJ Tryz.f135 (bF [] [2,5])
def ox:=bJ Tryz.f136 { shr:=[(1,2)] }
def tJ:=bJ Tryz.f137 (bF [] [5])
def lE:=bJ Tryz.f138 { shr:=[(1,6)] }
def Le:jt:={ bF [17,22] [7,15,18]with shr:=[(5,2)] }
def Qj:=cW Tryz.f139 Le [0]
def DT:=dB Tryz.f139 Le Qj
def DS:=bJ Tryz.f140 { bF [] [2,5]with shr:=[(1,2)] }
def DU:=bJ Tryz.f141 (bF [] [4,18])
def DV:=bJ Tryz.f142 (bF [] [2,5])
def tF:=bJ Tryz.f143 {}
def tH:=bJ Tryz.f144 {}
def DX:=bJ Tryz.f145 (bF [] [4,18])
def Dy:=bJ Tryz.f146 { bF [19] []with fZ:=[10],shr:=[(3,4)] }
def D3:=bJ Tryz.f147 {}
def Dn:=bJ Tryz.f148 (bF [] [3,7])
def Dt:=bJ Tryz.f149 (bF [] [1,4,7])
def Dm:=bJ Tryz.f150 (bF [] [3,7])
def DR:=bJ Tryz.f151 (bF [] [2,5])
def Dz:=bJ Tryz.f152 { bF [19] []with fZ:=[10],shr:=[(3,4)] }
def DL:=bJ Tryz.f153 {}
def DZ:=bJ Tryz.f154 (bF [] [2,5])
def Lf:jt:={ bF [8,10,17] []with shr:=[(4,5)] }
def Qt:=cW Tryz.f155 Lf [0]
def D0:=dB Tryz.f155 Lf Qt
def tD:=bJ Tryz.f156 { bF [19] []with fZ:=[10],shr:=[(3,4)] }
def tI:=bJ Tryz.f157 {}
def D1:=bJ Tryz.f158 (bF [] [4,18])
def DY:=bJ Tryz.f159 (bF [] [2,5])
def D5:=bJ Tryz.f160 {}
def Ds:=bJ Tryz.f161 (bF [] [3,7])
def CY:=bJ Tryz.f162 (bF [] [2,3,6,7,9])
def DI:=bJ Tryz.f163 {}
def DJ:=bJ Tryz.f164 {}
def DK:=bJ Tryz.f165 {}
def DE:=bJ Tryz.f166 {}
def DF:=bJ Tryz.f167 {}
def jQ:=bJ Tryz.f168 { bF [12] [2,3,6,7,8,13,17,20,21,22,26,27,31,32]with shr:=[(2,2)] }
def DG:=bJ Tryz.f169 {}
def DH:=bJ Tryz.f170 {}
def Lg:jt:={ bF [14,21] []with shr:=[(5,3)] }
def NQ:=cW Tryz.f174 Lg [0]
def BZ:=dB Tryz.f174 Lg NQ
def Lh:jt:={ bF [16] []with shr:=[(36,1),(37,1),(38,0),(39,1),(39,3),(40,0),(40,3),(41,0)] }
def jt8:=cW Tryz.f175 Lh [0]
def XM:=dB Tryz.f175 Lh jt8
def s7:=bJ Tryz.f176 (bF [22] [])
def BX:=bJ Tryz.f177 {}
def BQ:=bJ Tryz.f178 {}
def B2:=bJ Tryz.f179 (bF [] [9,36,39])
def Li:jt:={ bF [14,21] []with shr:=[(5,3)] }
def jr1:=cW Tryz.f180 Li [0]
def XO:=dB Tryz.f180 Li jr1
def XP:=bJ Tryz.f181 {}
def Lj:jt:=bF [21] [2,8,14]
def O2:=cW Tryz.f182 Lj [0]
def CK:=dB Tryz.f182 Lj O2
def Lk:jt:=bF [21] [2,8,14]
def O6:=cW Tryz.f183 Lk [0]
def CL:=dB Tryz.f183 Lk O6
def Ll:jt:=bF [21] [2,8,14]
def OY:=cW Tryz.f184 Ll [0]
def CJ:=dB Tryz.f184 Ll OY
def Lm:jt:=bF [22,32,43,47] [3,20,30,33,40,44]
def Qw:=cW Tryz.f185 Lm [0]
def Ea:=dB Tryz.f185 Lm Qw
def Ln:jt:=bF [22,26,35,39] [3,20,23,36]
def Qz:=cW Tryz.f186 Ln [0]
def Ec:=dB Tryz.f186 Ln Qz
def D7:=bJ Tryz.f187 { bF [] [5,15]with fZ:=[10] }
def D6:=bJ Tryz.f188 { bF [] [5,15]with fZ:=[10] }
def Lp:jt:=bF [] [3,5,11,15,19,21,27,29,35,37,41,44,45,50,58,69,71,77,81,91,96]
def QH:=cW Tryz.f189 Lp [0] (q:=[((1,12),[0]),((1,13),[0])])
def El:=dB Tryz.f189 Lp QH (q:=[((1,12),[0]),((1,13),[0])])
def Em:=bJ Tryz.f190 (bF [] [3,5,12,16,18,24,26,33,46,53,62,69]) (q:=[((1,12),[0]),((1,13),[0])])
def CN:=bJ Tryz.f191 (bF [] [2,3,6,7,9,15])
def CP:=bJ Tryz.f192 (bF [] [2,3,6,7,9])
def Lq:jt:=bF [] [2,3,7,9,10,11,14,15,18,19,25,31,32,34]
def Pv:=cW Tryz.f193 Lq [0]
def CS:=dB Tryz.f193 Lq Pv
def D8:=bJ Tryz.f194 { bF [] [5,15]with fZ:=[10] }
def jso:=cW Tryz.f198 (bF [94] []) [0]
def BM:=dB Tryz.f198 (bF [94] []) jso
def CU:=bJ Tryz.f199 {}
def Dc:=bJ Tryz.f200 {}
def Dd:=bJ Tryz.f201 {}
def Lr:jt:={ bF [8,10,17] []with shr:=[(4,5)] }
def qB:=cW Tryz.f202 Lr [0]
def lD:=dB Tryz.f202 Lr qB
def tG:=bJ Tryz.f203 { shr:=[(0,4)] }
def DA:=bJ Tryz.f204 { bF [19] []with fZ:=[10],shr:=[(3,4)] }
def DM:=bJ Tryz.f205 {}
def Dp:=bJ Tryz.f206 (bF [] [3,7])
def Ls:jt:={ bF [8,10,17] []with shr:=[(4,5)] }
def DW:=cW Tryz.f207 Ls [0]
def tE:=dB Tryz.f207 Ls DW
def DB:=bJ Tryz.f208 { bF [19] []with fZ:=[10],shr:=[(3,4)] }
def DN:=bJ Tryz.f209 {}
def Dq:=bJ Tryz.f210 (bF [] [3,7])
def Df:=bJ Tryz.f211 {}
def Dg:=bJ Tryz.f212 {}
def Dh:=bJ Tryz.f213 {}
def De:=bJ Tryz.f214 {}
def DC:=bJ Tryz.f215 { bF [19] []with fZ:=[10],shr:=[(3,4)] }
def DP:=bJ Tryz.f216 {}
def Dr:=bJ Tryz.f217 (bF [] [3,7])
def Di:=bJ Tryz.f218 {}
def Ew:=bJ Tryz.f219 (bF [] [2,3])
def lF:=bJ Tryz.f220 { bF [] [2,3,5,6,9,10,14,16,20,21]with shr:=[(2,2),(6,5)] }
def BW:=bJ Tryz.f230 {}
def Lt:jt:=bF [30,36,42] []
def KC:=cW Tryz.f231 Lt [0]
def Ee:=dB Tryz.f231 Lt KC
def Lu:jt:=bF [] [2,3,5,7,8,12,17,18,20,27]
def Pp:=cW Tryz.f232 Lu [0]
def CQ:=dB Tryz.f232 Lu Pp
def Lw:jt:=bF [26,35] [2,3,5,8,9,13,18,20,28]
def Ps:=cW Tryz.f233 Lw [0]
def CR:=dB Tryz.f233 Lw Ps
def XQ:=bJ Tryz.f235 {}
def Dj:=bJ Tryz.f239 {}
def Lx:jt:={ bF [] [5,18,23]with shr:=[(3,11)] }
def KG:=cW Tryz.f240 Lx [0]
def Et:=dB Tryz.f240 Lx KG
def Er:=bJ Tryz.f241 (bF [] [2,6,9])
def Ly:jt:={ bF [20] []with shr:=[(4,2)] }
def BU:=cW Tryz.f250 Ly [0]
def BV:=dB Tryz.f250 Ly BU
def Lz:jt:=bF [39] [3,4,11,17,18,20,33]
def Ph:=cW Tryz.f251 Lz [0]
def CM:=dB Tryz.f251 Lz Ph
def LA:jt:=bF [44] [2,3,7,10,16,21,23,27,29,33,35,39,41]
def Pm:=cW Tryz.f252 LA [0]
def CO:=dB Tryz.f252 LA Pm
end
end Go.Z
