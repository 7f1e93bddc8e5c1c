/- The values, states and rows of the examples' run. -/
import Derived.Test.YtimdocpnkimlfaaGreatDoorLA
set_option linter.unusedVariables false
set_option linter.unusedSimpArgs false
open Bool renaming false→I
open Option renaming some→En
namespace Go.Z
open Go Go.Abs Go.Proofs
abbrev xL:=iL bF 1000
def fS:AVal:=.list true 0 []
def ec:bh:=.cells [(fS,I),(fS,I),(.aw 2 0 1,I)]
def cn:AVal:=.int .i64 0
def yE:AVal:=.agg [cn,fS,fS,fS]
def gZ:AVal:=.int .i64 1
def AG:AVal:=.str [99,111,110,101,95,49]
def D2:AVal:=.str [99,111,110,101]
def wD:AVal:=.int .i64 10
def uZ:AVal:=.bool I
def xv9:AVal:=.agg [AG,D2,wD,wD,uZ]
def Rj:AVal:=.agg [gZ,.list I 5 [xv9],fS,fS]
def lv1:List AVal:=[yE,Rj]
def KW:AVal:=.str [108,111,116]
def lv2:List AVal:=[AG,D2]
def AH:AVal:=.agg [gZ,KW,.list I 1 lv2,.list I 1 [gZ,wD],.str []]
def bv2:bh:=.vec 5 0 [AH]
def bv3:bh:=.cells [(.aw 7 1 2,I),(.aw 5 1 2,I),(.aw 2 2 3,I)]
def wE:AVal:=.str [99,111,105,108,95,49]
def D3:AVal:=.str [99,111,105,108]
def AJ:AVal:=.int .i64 5
def jvw:AVal:=.agg [wE,D3,AJ,AJ,uZ]
def AK:AVal:=.list I 5 [xv9,jvw]
def Rk:AVal:=.agg [gZ,AK,fS,fS]
def lv3:List AVal:=lv1++[Rk]
def bv4:bh:=.vec 4 2 lv3
def vb:AVal:=.int .i64 2
def lv4:List AVal:=[wE,D3]
def D4:AVal:=.agg [vb,KW,.list I 1 lv4,.list I 1 [gZ,AJ],.str []]
def lv5:List AVal:=[AH,D4]
def KX:bh:=.vec 5 1 lv5
def bv6:bh:=.cells [(.aw 7 2 3,I),(.aw 5 2 3,I),(.aw 2 3 4,I)]
def mE:AVal:=.str [98,111,120]
def Rl:AVal:=.agg [gZ,AK,.list I 4 [.agg [mE,fS,fS,fS]],fS]
def lv6:List AVal:=lv3++[Rl]
def bv7:bh:=.vec 4 3 lv6
def pC:AVal:=.int .i64 3
def jyd:AVal:=.str [112,114,111,100,117,99,116]
def Rm:AVal:=.list I 1 [mE]
def D5:AVal:=.agg [pC,jyd,Rm,.list I 1 [gZ],.str []]
def lv7:List AVal:=lv5++[D5]
def KY:bh:=.vec 5 2 lv7
def bv9:bh:=.cells [(.aw 7 3 4,I),(.aw 5 3 4,I),(.aw 2 4 5,I)]
def jza:AVal:=.agg [D2,vb]
def Rn:AVal:=.agg [gZ,AK,.list I 4 [.agg [mE,.list I 2 [jza],fS,fS]],fS]
def lv8:List AVal:=lv6++[Rn]
def jyl:bh:=.vec 4 4 lv8
def KZ:AVal:=.int .i64 4
def K0:AVal:=.str [110,101,101,100]
def D6:AVal:=.agg [KZ,K0,.list I 1 [mE,D2],.list I 1 [gZ,vb],.str []]
def lv9:List AVal:=lv7++[D6]
def K1:bh:=.vec 5 3 lv9
def jym:bh:=.cells [(.aw 7 4 5,I),(.aw 5 4 5,I),(.aw 2 5 6,I)]
def Ro:AVal:=.list I 2 [jza,.agg [D3,gZ]]
def Rp:AVal:=.agg [gZ,AK,.list I 4 [.agg [mE,Ro,fS,fS]],fS]
def jyb:List AVal:=lv8++[Rp]
def jxu:bh:=.vec 4 5 jyb
def D7:AVal:=.agg [AJ,K0,.list I 1 [mE,D3],.list I 1 [gZ,gZ],.str []]
def jxw:List AVal:=lv9++[D7]
def K3:bh:=.vec 5 4 jxw
def jtf:bh:=.cells [(.aw 7 5 6,I),(.aw 5 5 6,I),(.aw 2 6 7,I)]
def zh0:List AVal:=[mE,Ro]
def AL:AVal:=.str [115,119,101,101,112]
def jvl:AVal:=.int .i64 80
def jti:AVal:=.int .i64 90
def jve:AVal:=.list I 3 [.agg [AL,jvl,jti]]
def Rq:List AVal:=zh0++[jve]
def Rr:AVal:=.agg [gZ,AK,.list I 4 [.agg ((Rq++[fS]))],fS]
def jwf:List AVal:=jyb++[Rr]
def jxb:bh:=.vec 4 6 jwf
def Rs:AVal:=.int .i64 6
def jzj:AVal:=.str [116,101,115,116]
def D8:AVal:=.agg [Rs,jzj,.list I 1 [mE,AL],.list I 1 [gZ,jvl,jti],.str []]
def jyh:List AVal:=jxw++[D8]
def K4:bh:=.vec 5 5 jyh
def jzn:bh:=.cells [(.aw 7 6 7,I),(.aw 5 6 7,I),(.aw 2 7 8,I)]
def Rt:AVal:=.agg [Ro,jve]
def FV:AVal:=.list I 4 [.agg ((Rq++[.list I 2 [Rt]]))]
def Ru:AVal:=.agg [vb,AK,FV,fS]
def juq:List AVal:=jwf++[Ru]
def jtk:bh:=.vec 4 7 juq
def Rv:AVal:=.int .i64 7
def Rw:AVal:=.str [105,115,115,117,101]
def D9:AVal:=.agg [Rv,Rw,Rm,.list I 1 [vb],.str []]
def jys:List AVal:=jyh++[D9]
def K5:bh:=.vec 5 6 jys
def ju6:bh:=.cells [(.aw 7 7 8,I),(.aw 5 7 8,I),(.aw 2 8 9,I)]
def pD:AVal:=.str [117,49]
def Rx:AVal:=.agg [pC,AK,FV,.list I 8 [.agg [pD,mE,gZ,fS,fS,.str [],uZ,cn]]]
def juv:List AVal:=juq++[Rx]
def jtj:bh:=.vec 4 8 juv
def K6:AVal:=.int .i64 8
def jxy:AVal:=.str [98,117,105,108,100]
def AO:List AVal:=[pD,mE]
def qK:AVal:=.list I 1 [pC]
def Ea:AVal:=.agg [K6,jxy,.list I 1 AO,qK,.str []]
def juu:List AVal:=jys++[Ea]
def K7:bh:=.vec 5 7 juu
def jv4:bh:=.cells [(.aw 7 8 9,I),(.aw 5 8 9,I),(.aw 2 9 10,I)]
def Ry:AVal:=.agg ((lv2++[wD,K6,uZ]))
def jx5:AVal:=.agg [AG,vb]
def K8:AVal:=.agg [pC,.list I 5 [Ry,jvw],FV,.list I 8 [.agg ((AO++[gZ,.list I 2 [jx5],fS,.str [],uZ,cn]))]]
def jwk:List AVal:=juv++[K8]
def juj:bh:=.vec 4 9 jwk
def Rz:AVal:=.int .i64 9
def K9:AVal:=.str [117,115,101]
def jzh:AVal:=.list I 1 [pD,AG]
def Eb:AVal:=.agg [Rz,K9,jzh,.list I 1 [pC,vb],.str []]
def jya:List AVal:=juu++[Eb]
def La:bh:=.vec 5 8 jya
def RA:bh:=.cells [(.aw 7 9 10,I),(.aw 5 9 10,I),(.aw 2 10 11,I)]
def zlf:List AVal:=lv4++[AJ]
def jtr:List AVal:=zlf++[KZ]
def jvs:List AVal:=[pC,.list I 5 [Ry,.agg ((jtr++[uZ]))]]
def Lb:List AVal:=jvs++[FV]
def FW:AVal:=.list I 2 [jx5,.agg [wE,gZ]]
def Lc:AVal:=.agg ((Lb++[.list I 8 [.agg ((AO++[gZ,FW,fS,.str [],uZ,cn]))]]))
def jy5:List AVal:=jwk++[Lc]
def RB:bh:=.vec 4 10 jy5
def jv3:AVal:=.list I 1 [pC,gZ]
def Ec:AVal:=.agg [wD,K9,.list I 1 [pD,wE],jv3,.str []]
def jvm:List AVal:=jya++[Ec]
def Ed:bh:=.vec 5 9 jvm
def RC:bh:=.cells [(.aw 7 10 11,I),(.aw 5 10 11,I),(.aw 2 11 12,I)]
def jyk:List AVal:=[AL,gZ]
def jze:AVal:=.int .i64 85
def jv5:AVal:=.agg ((jyk++[jze]))
def RD:AVal:=.list I 3 [jv5]
def RE:AVal:=.list I 8 [.agg ((AO++[gZ,FW,RD,.str [],uZ,cn]))]
def Ee:AVal:=.agg ((Lb++[RE]))
def FX:List AVal:=jy5++[Ee]
def RF:bh:=.vec 4 11 FX
def FY:AVal:=.int .i64 11
def RG:AVal:=.str [109,101,97,115,117,114,101]
def js3:AVal:=.list I 1 [pD,AL]
def Ef:AVal:=.agg [FY,RG,js3,.list I 1 [pC,jze],.str []]
def FZ:List AVal:=jvm++[Ef]
def Eg:bh:=.vec 5 10 FZ
def RH:bh:=.cells [(.aw 7 11 12,I),(.aw 5 11 12,I),(.aw 2 12 13,I)]
def fZ:AVal:=.bool true
def RI:AVal:=.agg [pC,.list I 5 [Ry,.agg ((jtr++[fZ]))],FV,RE]
def F0:bh:=.vec 4 12 ((FX++[RI]))
def RJ:AVal:=.int .i64 12
def jts:AVal:=.str [104,111,108,100]
def jxe:AVal:=.list I 1 [wE]
def Eh:AVal:=.agg [RJ,jts,jxe,qK,.str []]
def jx6:List AVal:=FZ++[Eh]
def yF:bh:=.vec 5 11 jx6
def jyf:bh:=.cells [(.aw 7 12 13,I),(.aw 5 11 11,I),(.aw 2 12 12,I)]
def F1:AVal:=.int .i64 13
def AP:AVal:=.str [117,110,100,111]
def F2:AVal:=.list I 1 []
def F3:AVal:=.agg [F1,AP,F2,fS,.str []]
def jzo:List AVal:=jx6++[F3]
def jyv:bh:=.vec 5 12 jzo
def jws:bh:=.cells [(.aw 7 13 14,I),(.aw 5 12 12,I),(.aw 2 13 13,I)]
def jx2:List AVal:=jvs++[.list I 4 [.agg ((Rq++[.list I 2 [Rt,Rt]]))]]
def Ld:AVal:=.agg ((jx2++[RE]))
def jwn:List AVal:=FX++[Ld]
def jwj:bh:=.vec 4 13 jwn
def RL:AVal:=.int .i64 14
def AQ:AVal:=.agg [RL,Rw,Rm,qK,.str []]
def jtc:List AVal:=FZ++[AQ]
def jy6:bh:=.vec 5 12 jtc
def jtn:List AVal:=jzo++[AQ]
def jx9:bh:=.vec 5 13 jtn
def jwu:bh:=.cells [(.aw 7 14 15,I),(.aw 5 13 13,I),(.aw 2 14 14,I)]
def RM:AVal:=.agg ((jx2++[.list I 8 [.agg ((AO++[vb,FW,RD,.str [],uZ,cn]))]]))
def Ei:bh:=.vec 4 14 ((jwn++[RM]))
def F4:AVal:=.int .i64 15
def jup:AVal:=.str [117,112,100,97,116,101]
def vd:AVal:=.list I 1 [pD]
def AR:AVal:=.agg [F4,jup,vd,qK,.str []]
def Ej:bh:=.vec 5 13 ((jtc++[AR]))
def jt9:List AVal:=jtn++[AR]
def jxr:bh:=.vec 5 14 jt9
def jux:bh:=.cells [(.aw 7 15 16,I),(.aw 5 13 12,I),(.aw 2 14 13,I)]
def F5:AVal:=.int .i64 16
def F6:AVal:=.agg [F5,AP,F2,fS,.str []]
def jwe:List AVal:=jt9++[F6]
def js6:bh:=.vec 5 15 jwe
def jug:bh:=.cells [(.aw 7 16 17,I),(.aw 5 13 11,I),(.aw 2 14 12,I)]
def RN:AVal:=.int .i64 17
def F7:AVal:=.agg [RN,AP,F2,fS,.str []]
def jvt:List AVal:=jwe++[F7]
def jtm:bh:=.vec 5 16 jvt
def jvn:bh:=.cells [(.aw 7 17 18,I),(.aw 5 14 12,I),(.aw 2 15 13,I)]
def jxv:AVal:=.int .i64 91
def RO:AVal:=.agg ((Lb++[.list I 8 [.agg ((AO++[gZ,FW,.list I 3 [jv5,.agg ((jyk++[jxv]))],.str [],uZ,cn]))]]))
def F8:bh:=.vec 4 15 ((FX++[RO]))
def RP:AVal:=.int .i64 18
def AU:AVal:=.agg [RP,RG,js3,.list I 1 [pC,jxv],.str []]
def F9:bh:=.vec 5 14 ((FZ++[AU]))
def jxh:List AVal:=jvt++[AU]
def jvq:bh:=.vec 5 17 jxh
def RQ:bh:=.cells [(.aw 7 18 19,I),(.aw 5 14 11,I),(.aw 2 15 12,I)]
def Ek:AVal:=.int .i64 19
def Ga:AVal:=.agg [Ek,AP,F2,fS,.str []]
def jtp:List AVal:=jxh++[Ga]
def RR:bh:=.vec 5 18 jtp
def RS:bh:=.cells [(.aw 7 19 20,I),(.aw 5 15 12,I),(.aw 2 16 13,I)]
def RT:AVal:=.agg ((Lb++[.list I 8 [.agg ((AO++[gZ,FW,RD,.str [],fZ,cn]))]]))
def RU:bh:=.vec 4 16 ((FX++[RT]))
def Le:AVal:=.int .i64 20
def yG:AVal:=.str [115,104,105,112]
def AV:AVal:=.agg [Le,yG,vd,qK,.str []]
def RV:bh:=.vec 5 15 ((FZ++[AV]))
def js5:List AVal:=jtp++[AV]
def RW:bh:=.vec 5 19 js5
def jxl:List AVal:=[Rw,mE]
def jwq:List AVal:=[K9,pD]
def zf5:List AVal:=jwq++[AG]
def jy4:List AVal:=zf5++[.str [51]]
def AW:AVal:=.list I 1 [yG,pD,.str [51]]
def RX:AVal:=.agg [wD,yG,vd,qK,.str []]
def RY:AVal:=.agg [FY,yG,vd,qK,.str []]
def jon:AVal:=.int .i64 31
def RZ:AVal:=.aB [yE,jon]
def zff:List AVal:=[RG,pD]
def ze1:List AVal:=zff++[AL]
def jwh:List AVal:=ze1++[.str [51]]
def R0:AVal:=.agg [F1,yG,vd,qK,.str []]
def jo4:AVal:=.int .i64 34
def Gb:AVal:=.list I 1 [AP]
def R1:AVal:=.agg [F4,yG,vd,qK,.str []]
def jn6:AVal:=.int .i64 32
def R2:AVal:=.agg [F5,yG,vd,qK,.str []]
def R3:AVal:=.agg [Ek,yG,vd,qK,.str []]
def El:AVal:=.int .i64 21
def jn4:AVal:=.agg [El,AP,F2,fS,.str []]
def R4:AVal:=.agg [El,K9,jzh,jv3,.str []]
def jos:AVal:=.str [49,32,108,111,116,32,99,111,110,101,95,49,32,99,111,110,101,32,49,32,49,48]
def joc:AVal:=.str [50,32,108,111,116,32,99,111,105,108,95,49,32,99,111,105,108,32,49,32,53]
def jpb:AVal:=.str [51,32,112,114,111,100,117,99,116,32,98,111,120,32,49]
def jn5:AVal:=.str [52,32,110,101,101,100,32,98,111,120,32,99,111,110,101,32,49,32,50]
def jod:AVal:=.str [53,32,110,101,101,100,32,98,111,120,32,99,111,105,108,32,49,32,49]
def jo0:AVal:=.str [54,32,116,101,115,116,32,98,111,120,32,115,119,101,101,112,32,49,32,56,48,32,57,48]
def jo1:AVal:=.str [55,32,105,115,115,117,101,32,98,111,120,32,50]
def jn9:AVal:=.str [56,32,98,117,105,108,100,32,117,49,32,98,111,120,32,51]
def joo:AVal:=.str [57,32,117,115,101,32,117,49,32,99,111,110,101,95,49,32,51,32,50]
def jn2:AVal:=.str [49,48,32,117,115,101,32,117,49,32,99,111,105,108,95,49,32,51,32,49]
def jot:AVal:=.str [49,49,32,109,101,97,115,117,114,101,32,117,49,32,115,119,101,101,112,32,51,32,56,53]
def jom:AVal:=.str [49,50,32,104,111,108,100,32,99,111,105,108,95,49,32,51]
def jpa:AVal:=.str [49,51,32,117,110,100,111]
def joy:AVal:=.str [49,52,32,105,115,115,117,101,32,98,111,120,32,51]
def joz:AVal:=.str [49,53,32,117,112,100,97,116,101,32,117,49,32,51]
def jo2:AVal:=.str [49,54,32,117,110,100,111]
def joi:AVal:=.str [49,55,32,117,110,100,111]
def jo3:AVal:=.str [49,56,32,109,101,97,115,117,114,101,32,117,49,32,115,119,101,101,112,32,51,32,57,49]
def joa:AVal:=.str [49,57,32,117,110,100,111]
def jpc:AVal:=.str [50,48,32,115,104,105,112,32,117,49,32,51]
def R5:AVal:=.list I 5 js5
def AX:List AVal:=[.ptr 0 0,.str [115,104,105,112,32,117,49,32,51]]
def R6:AVal:=.aB [.str [],jon]
def ju7:List AVal:=[.ptr 0 0,.str [109,105,115,115,105,110,103,32,117,49]]
def jop:AVal:=.aB [.str [110,111,110,101],cn]
def jxd:List AVal:=[.ptr 0 0,.str [115,116,111,99,107,32,99,111,105,108]]
def Gc:List AVal:=[.ptr 0 0,AP]
def jsx:List AVal:=[.ptr 0 0,.str [115,104,105,112,112,101,100]]
def hw1:qh:=[ec,ec,.vec 4 0 [yE]]
def hw2:qh:=[.cells [(.aw 7 0 1,I),(.aw 5 0 1,I),(.aw 2 1 2,I)],ec,.vec 4 1 lv1,.map jr,.map q9,bv2,.hole,bv2]
def hw3:qh:=[bv3,ec,bv4,.map jr,.map q9,KX,.hole,KX,.map jr,.map q9]
def hw4:qh:=[bv3,ec,bv4,.map jr,.map q9,KX,.hole,KX]
def hw5:qh:=[bv6,ec,bv7,.map jr,.map q9,KY,.hole,KY,.map jr,.map q9]
def hw6:qh:=[bv6,ec,bv7,.map jr,.map q9,KY,.hole,KY]
def hw7:qh:=[bv9,ec,jyl,.map jr,.map q9,K1,.hole,K1,.map jr,.map q9]
def hw8:qh:=[bv9,ec,jyl,.map jr,.map q9,K1,.hole,K1]
def hw9:qh:=[jym,ec,jxu,.map jr,.map q9,K3,.hole,K3,.map jr,.map q9]
def zk6:qh:=[jym,ec,jxu,.map jr,.map q9,K3,.hole,K3]
def zks:qh:=[jtf,ec,jxb,.map jr,.map q9,K4,.hole,K4,.map jr,.map q9]
def zhm:qh:=[jtf,ec,jxb,.map jr,.map q9,K4,.hole,K4]
def zin:qh:=[jzn,ec,jtk,.map jr,.map q9,K5,.hole,K5,.map jr,.map q9]
def zhv:qh:=[jzn,ec,jtk,.map jr,.map q9,K5,.hole,K5]
def zgc:qh:=[ju6,ec,jtj,.map jr,.map q9,K7,.hole,K7,.map jr,.map q9]
def zfd:qh:=[ju6,ec,jtj,.map jr,.map q9,K7,.hole,K7]
def jw1:qh:=[jv4,ec,juj,.map jr,.map q9,La,.hole,La,.map jr,.map q9]
def jth:qh:=[jv4,ec,juj,.map jr,.map q9,La,.hole,La]
def jvg:qh:=[RA,ec,RB,.map jr,.map q9,Ed,.hole,Ed,.map jr,.map q9]
def R7:qh:=[RA,ec,RB,.map jr,.map q9,Ed,.hole,Ed]
def zge:qh:=[RA,ec,RB,.map jr,.map q9,Ed,.hole,Ed,.map jr]
def zg8:qh:=[RC,ec,RF,.map jr,.map q9,Eg,.hole,Eg,.map jr,.map q9]
def jy2:qh:=[RC,ec,RF,.map jr,.map q9,Eg,.hole,Eg]
def zhn:qh:=[RC,ec,RF,.map jr,.map q9,Eg,.hole,Eg,.map jr]
def jxn:qh:=[RH,ec,F0,.map jr,.map q9,yF,.hole,yF,.map jr,.map q9]
def R8:qh:=[RH,ec,F0,.map jr,.map q9,yF,.hole,yF]
def zen:qh:=[RH,ec,F0,.map jr,.map q9,yF,.hole,yF,.map jr]
def zlo:qh:=[jyf,ec,F0,.map jr,.map q9,yF,.hole,jyv,.map jr,.map q9]
def zdu:qh:=[jyf,ec,F0,.map jr,.map q9,yF,.hole,jyv]
def jtd:qh:=[jws,ec,jwj,.map jr,.map q9,jy6,.hole,jx9,.map jr,.map q9]
def ju5:qh:=[jws,ec,jwj,.map jr,.map q9,jy6,.hole,jx9]
def jtb:qh:=[jwu,ec,Ei,.map jr,.map q9,Ej,.hole,jxr,.map jr,.map q9]
def jwb:qh:=[jwu,ec,Ei,.map jr,.map q9,Ej,.hole,jxr]
def zfb:qh:=[jux,ec,Ei,.map jr,.map q9,Ej,.hole,js6,.map jr,.map q9]
def zj3:qh:=[jux,ec,Ei,.map jr,.map q9,Ej,.hole,js6]
def zet:qh:=[jug,ec,Ei,.map jr,.map q9,Ej,.hole,jtm,.map jr,.map q9]
def zig:qh:=[jug,ec,Ei,.map jr,.map q9,Ej,.hole,jtm]
def jw4:qh:=[jvn,ec,F8,.map jr,.map q9,F9,.hole,jvq,.map jr,.map q9]
def ju1:qh:=[jvn,ec,F8,.map jr,.map q9,F9,.hole,jvq]
def zhs:qh:=[RQ,ec,F8,.map jr,.map q9,F9,.hole,RR,.map jr,.map q9]
def Gd:qh:=[RQ,ec,F8,.map jr,.map q9,F9,.hole,RR]
def Lf:qh:=[RQ,ec,F8,.map jr,.map q9,F9,.hole,RR,.map jr]
def R9:qh:=[RS,ec,RU,.map jr,.map q9,RV,.hole,RW,.map jr,.map q9]
def Sb:qh:=[RS,ec,RU,.map jr,.map q9,RV,.hole,RW]
def zi8:qh:=[RS,ec,RU,.map jr,.map q9,RV,.hole,RW,.map jr]
def e1:Row:=([.list I 1 [KW,AG,D2,.str [49],.str [49,48]],gZ],.aB [AH,fZ],I)
def e2:Row:=([AH],cn,I)
def e3:Row:=([yE,AH],.aB [Rj,cn],I)
def e4:Row:=([.list I 1 [KW,wE,D3,.str [49],.str [53]],vb],.aB [D4,fZ],I)
def e5:Row:=([D4],cn,I)
def e6:Row:=([Rj,D4],.aB [Rk,cn],I)
def e7:Row:=([.list I 1 [jyd,mE,.str [49]],pC],.aB [D5,fZ],I)
def e8:Row:=([D5],cn,I)
def e9:Row:=([Rk,D5],.aB [Rl,cn],I)
def Sc:Row:=([.list I 1 [K0,mE,D2,.str [49],.str [50]],KZ],.aB [D6,fZ],I)
def Sd:Row:=([D6],cn,I)
def Se:Row:=([Rl,D6],.aB [Rn,cn],I)
def Sf:Row:=([.list I 1 [K0,mE,D3,.str [49],.str [49]],AJ],.aB [D7,fZ],I)
def Sg:Row:=([D7],cn,I)
def Sh:Row:=([Rn,D7],.aB [Rp,cn],I)
def Si:Row:=([.list I 1 [jzj,mE,AL,.str [49],.str [56,48],.str [57,48]],Rs],.aB [D8,fZ],I)
def Sj:Row:=([D8],cn,I)
def Sk:Row:=([Rp,D8],.aB [Rr,cn],I)
def Sl:Row:=([.list I 1 ((jxl++[.str [50]])),Rv],.aB [D9,fZ],I)
def Sm:Row:=([D9],cn,I)
def Sn:Row:=([Rr,D9],.aB [Ru,cn],I)
def So:Row:=([.list I 1 [jxy,pD,mE,.str [51]],K6],.aB [Ea,fZ],I)
def Sp:Row:=([Ea],cn,I)
def Sr:Row:=([Ru,Ea],.aB [Rx,cn],I)
def Ss:Row:=([.list I 1 ((jy4++[.str [50]])),Rz],.aB [Eb,fZ],I)
def Sv:Row:=([Eb],cn,I)
def Sw:Row:=([Rx,Eb],.aB [K8,cn],I)
def Sx:Row:=([AW,wD],.aB [RX,fZ],I)
def Sy:Row:=([RX],cn,I)
def Sz:Row:=([K8,RX],.aB [yE,Le],I)
def SA:Row:=([.list I 1 ((jwq++[wE,.str [51],.str [49]])),wD],.aB [Ec,fZ],I)
def SC:Row:=([Ec],cn,I)
def SD:Row:=([K8,Ec],.aB [Lc,cn],I)
def SE:Row:=([AW,FY],.aB [RY,fZ],I)
def SF:Row:=([RY],cn,I)
def SG:Row:=([Lc,RY],RZ,I)
def SH:Row:=([.list I 1 ((jwh++[.str [56,53]])),FY],.aB [Ef,fZ],I)
def SI:Row:=([Ef],cn,I)
def SJ:Row:=([Lc,Ef],.aB [Ee,cn],I)
def SK:Row:=([.list I 1 [jts,wE,.str [51]],RJ],.aB [Eh,fZ],I)
def SL:Row:=([Eh],cn,I)
def SN:Row:=([Ee,Eh],.aB [RI,cn],I)
def SP:Row:=([AW,F1],.aB [R0,fZ],I)
def SQ:Row:=([R0],cn,I)
def SR:Row:=([RI,R0],.aB [yE,jo4],I)
def SS:Row:=([Gb,F1],.aB [F3,fZ],I)
def SU:Row:=([F3],cn,I)
def SV:Row:=([.list I 1 ((jxl++[.str [51]])),RL],.aB [AQ,fZ],I)
def SW:Row:=([AQ],cn,I)
def SX:Row:=([Ee,AQ],.aB [Ld,cn],I)
def SY:Row:=([AW,F4],.aB [R1,fZ],I)
def SZ:Row:=([R1],cn,I)
def S0:Row:=([Ld,R1],.aB [yE,jn6],I)
def S1:Row:=([.list I 1 [jup,pD,.str [51]],F4],.aB [AR,fZ],I)
def S2:Row:=([AR],cn,I)
def S3:Row:=([Ld,AR],.aB [RM,cn],I)
def S4:Row:=([AW,F5],.aB [R2,fZ],I)
def S5:Row:=([R2],cn,I)
def S6:Row:=([RM,R2],RZ,I)
def S7:Row:=([Gb,F5],.aB [F6,fZ],I)
def S8:Row:=([F6],cn,I)
def S9:Row:=([Gb,RN],.aB [F7,fZ],I)
def Ta:Row:=([F7],cn,I)
def Tb:Row:=([.list I 1 ((jwh++[.str [57,49]])),RP],.aB [AU,fZ],I)
def Tc:Row:=([AU],cn,I)
def Td:Row:=([Ee,AU],.aB [RO,cn],I)
def Te:Row:=([AW,Ek],.aB [R3,fZ],I)
def Tf:Row:=([R3],cn,I)
def Tg:Row:=([RO,R3],RZ,I)
def AY:Row:=([Gb,Ek],.aB [Ga,fZ],I)
def Ti:Row:=([Ga],cn,I)
def Tj:Row:=([AW,Le],.aB [AV,fZ],I)
def Em:Row:=([AV],cn,I)
def Tk:Row:=([Ee,AV],.aB [RT,cn],I)
def Tl:Row:=([Gb,El],.aB [jn4,fZ],I)
def Tm:Row:=([jn4],cn,I)
def Tn:Row:=([.list I 1 ((jy4++[.str [49]])),El],.aB [R4,fZ],I)
def Tp:Row:=([R4],cn,I)
def Tq:Row:=([RT,R4],.aB [yE,El],I)
def Ts:Row:=([AH],jos,I)
def Tt:Row:=([jos],.str [51,57,56,57,49,56,50],I)
def Tv:Row:=([D4],joc,I)
def Tw:Row:=([joc],.str [48,49,55,50,54,57,55],I)
def Tx:Row:=([D5],jpb,I)
def Ty:Row:=([jpb],.str [54,49,49,52,48,56,52],I)
def Tz:Row:=([D6],jn5,I)
def TA:Row:=([jn5],.str [49,55,56,55,50,51,49],I)
def TB:Row:=([D7],jod,I)
def TC:Row:=([jod],.str [50,52,55,55,51,52,50],I)
def TD:Row:=([D8],jo0,I)
def TE:Row:=([jo0],.str [50,48,50,49,51,55,56],I)
def TF:Row:=([D9],jo1,I)
def TG:Row:=([jo1],.str [57,55,57,50,54,57,53],I)
def TH:Row:=([Ea],jn9,I)
def TI:Row:=([jn9],.str [48,55,51,51,57,54,55],I)
def TJ:Row:=([Eb],joo,I)
def TK:Row:=([joo],.str [57,54,50,56,50,52,50],I)
def TL:Row:=([Ec],jn2,I)
def TM:Row:=([jn2],.str [51,51,55,48,50,52,48],I)
def TN:Row:=([Ef],jot,I)
def TP:Row:=([jot],.str [56,50,52,48,49,52,56],I)
def TQ:Row:=([Eh],jom,I)
def TR:Row:=([jom],.str [53,50,48,49,49,53,55],I)
def TS:Row:=([F3],jpa,I)
def TT:Row:=([jpa],.str [54,55,52,56,55,48,57],I)
def TU:Row:=([AQ],joy,I)
def TV:Row:=([joy],.str [48,56,53,50,57,54,53],I)
def TW:Row:=([AR],joz,I)
def TX:Row:=([joz],.str [50,52,56,53,48,49,51],I)
def TY:Row:=([F6],jo2,I)
def T0:Row:=([jo2],.str [56,51,50,54,51,57,51],I)
def T1:Row:=([F7],joi,I)
def T2:Row:=([joi],.str [50,49,56,53,54,57,53],I)
def T3:Row:=([AU],jo3,I)
def T4:Row:=([jo3],.str [50,51,54,49,51,49,55],I)
def T5:Row:=([Ga],joa,I)
def T6:Row:=([joa],.str [57,57,48,52,48,55,55],I)
def T7:Row:=([AV],jpc,I)
def T8:Row:=([jpc],.str [53,49,49,54,56,51,51],I)
def T9:Row:=([.str [49,32,108,111,116,32,99,111,110,101,95,49,32,99,111,110,101,32,49,32,49,48,35,51,57,56,57,49,56,50],cn],.aB [AH,cn],I)
def Ua:Row:=([.str [50,32,108,111,116,32,99,111,105,108,95,49,32,99,111,105,108,32,49,32,53,35,48,49,55,50,54,57,55],gZ],.aB [D4,cn],I)
def Ub:Row:=([.str [51,32,112,114,111,100,117,99,116,32,98,111,120,32,49,35,54,49,49,52,48,56,52],vb],.aB [D5,cn],I)
def Uc:Row:=([.str [52,32,110,101,101,100,32,98,111,120,32,99,111,110,101,32,49,32,50,35,49,55,56,55,50,51,49],pC],.aB [D6,cn],I)
def Ud:Row:=([.str [53,32,110,101,101,100,32,98,111,120,32,99,111,105,108,32,49,32,49,35,50,52,55,55,51,52,50],KZ],.aB [D7,cn],I)
def Ue:Row:=([.str [54,32,116,101,115,116,32,98,111,120,32,115,119,101,101,112,32,49,32,56,48,32,57,48,35,50,48,50,49,51,55,56],AJ],.aB [D8,cn],I)
def Uf:Row:=([.str [55,32,105,115,115,117,101,32,98,111,120,32,50,35,57,55,57,50,54,57,53],Rs],.aB [D9,cn],I)
def Ug:Row:=([.str [56,32,98,117,105,108,100,32,117,49,32,98,111,120,32,51,35,48,55,51,51,57,54,55],Rv],.aB [Ea,cn],I)
def Uh:Row:=([.str [57,32,117,115,101,32,117,49,32,99,111,110,101,95,49,32,51,32,50,35,57,54,50,56,50,52,50],K6],.aB [Eb,cn],I)
def Ui:Row:=([.str [49,48,32,117,115,101,32,117,49,32,99,111,105,108,95,49,32,51,32,49,35,51,51,55,48,50,52,48],Rz],.aB [Ec,cn],I)
def Uj:Row:=([.str [49,49,32,109,101,97,115,117,114,101,32,117,49,32,115,119,101,101,112,32,51,32,56,53,35,56,50,52,48,49,52,56],wD],.aB [Ef,cn],I)
def Uk:Row:=([.str [49,50,32,104,111,108,100,32,99,111,105,108,95,49,32,51,35,53,50,48,49,49,53,55],FY],.aB [Eh,cn],I)
def Ul:Row:=([.str [49,51,32,117,110,100,111,35,54,55,52,56,55,48,57],RJ],.aB [F3,cn],I)
def Um:Row:=([.str [49,52,32,105,115,115,117,101,32,98,111,120,32,51,35,48,56,53,50,57,54,53],F1],.aB [AQ,cn],I)
def Un:Row:=([.str [49,53,32,117,112,100,97,116,101,32,117,49,32,51,35,50,52,56,53,48,49,51],RL],.aB [AR,cn],I)
def Uo:Row:=([.str [49,54,32,117,110,100,111,35,56,51,50,54,51,57,51],F4],.aB [F6,cn],I)
def Up:Row:=([.str [49,55,32,117,110,100,111,35,50,49,56,53,54,57,53],F5],.aB [F7,cn],I)
def Uq:Row:=([.str [49,56,32,109,101,97,115,117,114,101,32,117,49,32,115,119,101,101,112,32,51,32,57,49,35,50,51,54,49,51,49,55],RN],.aB [AU,cn],I)
def Ur:Row:=([.str [49,57,32,117,110,100,111,35,57,57,48,52,48,55,55],RP],.aB [Ga,cn],I)
def Us:Row:=([.str [50,48,32,115,104,105,112,32,117,49,32,51,35,53,49,49,54,56,51,51],Ek],.aB [AV,cn],I)
def Ut:Row:=([R5,jxe],.aB [vd,cn],I)
def Uu:Row:=([R5,vd],.aB [.list I 1 [AG,wE],cn],I)
def Uv:Row:=([.str [49,32,108,111,116,32,99,111,110,101,95,49,32,99,111,110,101,32,49,32,49,48,35,51,57,56,57,49,56,50,10,50,32,108,111,116,32,99,111,105,108,95,49,32,99,111,105,108,32,49,32,53,35,48,49,55,50,54,57,55,10,51,32,112,114,111,100,117,99,116,32,98,111,120,32,49,35,54,49,49,52,48,56,52,10,52,32,110,101,101,100,32,98,111,120,32,99,111,110,101,32,49,32,50,35,49,55,56,55,50,51,49,10,53,32,110,101,101,100,32,98,111,120,32,99,111,105,108,32,49,32,49,35,50,52,55,55,51,52,50,10,54,32,116,101,115,116,32,98,111,120,32,115,119,101,101,112,32,49,32,56,48,32,57,48,35,50,48,50,49,51,55,56,10,55,32,105,115,115,117,101,32,98,111,120,32,50,35,57,55,57,50,54,57,53,10,56,32,98,117,105,108,100,32,117,49,32,98,111,120,32,51,35,48,55,51,51,57,54,55,10,57,32,117,115,101,32,117,49,32,99,111,110,101,95,49,32,51,32,50,35,57,54,50,56,50,52,50,10,49,48,32,117,115,101,32,117,49,32,99,111,105,108,95,49,32,51,32,49,35,51,51,55,48,50,52,48,10,49,49,32,109,101,97,115,117,114,101,32,117,49,32,115,119,101,101,112,32,51,32,56,53,35,56,50,52,48,49,52,56,10,49,50,32,104,111,108,100,32,99,111,105,108,95,49,32,51,35,53,50,48,49,49,53,55,10,49,51,32,117,110,100,111,35,54,55,52,56,55,48,57,10,49,52,32,105,115,115,117,101,32,98,111,120,32,51,35,48,56,53,50,57,54,53,10,49,53,32,117,112,100,97,116,101,32,117,49,32,51,35,50,52,56,53,48,49,51,10,49,54,32,117,110,100,111,35,56,51,50,54,51,57,51,10,49,55,32,117,110,100,111,35,50,49,56,53,54,57,53,10,49,56,32,109,101,97,115,117,114,101,32,117,49,32,115,119,101,101,112,32,51,32,57,49,35,50,51,54,49,51,49,55,10,49,57,32,117,110,100,111,35,57,57,48,52,48,55,55,10,50,48,32,115,104,105,112,32,117,49,32,51,35,53,49,49,54,56,51,51,10,49]],.aB [R5,.int .i64 500,.int .i64 29],I)
def r1:kh:=([.ptr 0 0,.str [108,111,116,32,99,111,110,101,95,49,32,99,111,110,101,32,49,32,49,48]],hw1,.aB [.str [100,111,110,101,32,49],cn],I,hw2)
def r2:kh:=([.ptr 0 0,.str [108,111,116,32,99,111,105,108,95,49,32,99,111,105,108,32,49,32,53]],hw2,.aB [.str [100,111,110,101,32,50],cn],I,hw3)
def r3:kh:=([.ptr 0 0,.str [112,114,111,100,117,99,116,32,98,111,120,32,49]],hw4,.aB [.str [100,111,110,101,32,51],cn],I,hw5)
def r4:kh:=([.ptr 0 0,.str [110,101,101,100,32,98,111,120,32,99,111,110,101,32,49,32,50]],hw6,.aB [.str [100,111,110,101,32,52],cn],I,hw7)
def r5:kh:=([.ptr 0 0,.str [110,101,101,100,32,98,111,120,32,99,111,105,108,32,49,32,49]],hw8,.aB [.str [100,111,110,101,32,53],cn],I,hw9)
def r6:kh:=([.ptr 0 0,.str [116,101,115,116,32,98,111,120,32,115,119,101,101,112,32,49,32,56,48,32,57,48]],zk6,.aB [.str [100,111,110,101,32,54],cn],I,zks)
def r7:kh:=([.ptr 0 0,.str [105,115,115,117,101,32,98,111,120,32,50]],zhm,.aB [.str [100,111,110,101,32,55],cn],I,zin)
def r8:kh:=([.ptr 0 0,.str [98,117,105,108,100,32,117,49,32,98,111,120,32,51]],zhv,.aB [.str [100,111,110,101,32,56],cn],I,zgc)
def r9:kh:=([.ptr 0 0,.str [117,115,101,32,117,49,32,99,111,110,101,95,49,32,51,32,50]],zfd,.aB [.str [100,111,110,101,32,57],cn],I,jw1)
def Lg:kh:=(AX,jth,.aB [.str [],Le],I,jw1)
def Lh:kh:=([.ptr 0 0,.str [117,115,101,32,117,49,32,99,111,105,108,95,49,32,51,32,49]],jth,.aB [.str [100,111,110,101,32,49,48],cn],I,jvg)
def Li:kh:=(AX,R7,R6,I,jvg)
def Lj:kh:=(ju7,R7,.aB [AL,cn],I,zge)
def Lk:kh:=([.ptr 0 0,.str [109,101,97,115,117,114,101,32,117,49,32,115,119,101,101,112,32,51,32,56,53]],R7,.aB [.str [100,111,110,101,32,49,49],cn],I,zg8)
def Ll:kh:=(ju7,jy2,jop,I,zhn)
def Lm:kh:=([.ptr 0 0,.str [104,111,108,100,32,99,111,105,108,95,49,32,51]],jy2,.aB [.str [100,111,110,101,32,49,50],cn],I,jxn)
def Ln:kh:=(AX,R8,.aB [.str [],jo4],I,jxn)
def Lp:kh:=(jxd,R8,.aB [.str [48],cn],I,zen)
def Lq:kh:=(Gc,R8,.aB [.str [100,111,110,101,32,49,51],cn],I,zlo)
def Lr:kh:=([.ptr 0 0,.str [105,115,115,117,101,32,98,111,120,32,51]],zdu,.aB [.str [100,111,110,101,32,49,52],cn],I,jtd)
def Ls:kh:=(AX,ju5,.aB [.str [],jn6],I,jtd)
def Lt:kh:=([.ptr 0 0,.str [117,112,100,97,116,101,32,117,49,32,51]],ju5,.aB [.str [100,111,110,101,32,49,53],cn],I,jtb)
def Lu:kh:=(AX,jwb,R6,I,jtb)
def Lw:kh:=(Gc,jwb,.aB [.str [100,111,110,101,32,49,54],cn],I,zfb)
def Lx:kh:=(Gc,zj3,.aB [.str [100,111,110,101,32,49,55],cn],I,zet)
def Ly:kh:=([.ptr 0 0,.str [109,101,97,115,117,114,101,32,117,49,32,115,119,101,101,112,32,51,32,57,49]],zig,.aB [.str [100,111,110,101,32,49,56],cn],I,jw4)
def Lz:kh:=(AX,ju1,R6,I,jw4)
def LA:kh:=(Gc,ju1,.aB [.str [100,111,110,101,32,49,57],cn],I,zhs)
def LB:kh:=([.ptr 0 0,.str [108,111,116,115,32,117,49]],Gd,.aB [.str [99,111,110,101,95,49,32,99,111,105,108,95,49],cn],I,Lf)
def LC:kh:=([.ptr 0 0,.str [115,116,111,99,107,32,99,111,110,101]],Gd,.aB [.str [56],cn],I,Lf)
def LD:kh:=(jxd,Gd,.aB [.str [52],cn],I,Lf)
def LG:kh:=(jsx,Gd,jop,I,Lf)
def LH:kh:=(AX,Gd,.aB [.str [100,111,110,101,32,50,48],cn],I,R9)
def LI:kh:=(Gc,Sb,.aB [.str [],Ek],I,R9)
def LJ:kh:=([.ptr 0 0,.str [117,115,101,32,117,49,32,99,111,110,101,95,49,32,51,32,49]],Sb,.aB [.str [],El],I,R9)
def LK:kh:=(jsx,Sb,.aB [pD,cn],I,zi8)
set_option maxRecDepth 100000
theorem w21:qc bF xL 113 Sn.1=En Sn.2:=by kernel_rfl
theorem w25:qc bF xL 102 Ss.1=En Ss.2:=by kernel_rfl
theorem w26:qc bF xL 47 Sv.1=En Sv.2:=by kernel_rfl
theorem w37:qc bF xL 102 SH.1=En SH.2:=by kernel_rfl
theorem w48:qc bF xL 102 SV.1=En SV.2:=by kernel_rfl
theorem w51:qc bF xL 102 SY.1=En SY.2:=by kernel_rfl
theorem w56:qc bF xL 113 S3.1=En S3.2:=by kernel_rfl
theorem w74:qc bF xL 113 Tk.1=En Tk.2:=by kernel_rfl
theorem w82:qc bF xL 137 Tv.1=En Tv.2:=by kernel_rfl
theorem w90:qc bF xL 137 TD.1=En TD.2:=by kernel_rfl
theorem w93:qc bF xL 138 TG.1=En TG.2:=by kernel_rfl
theorem zew:qc bF xL 138 T0.1=En T0.2:=by kernel_rfl
theorem zj8:qc bF xL 138 T4.1=En T4.2:=by kernel_rfl
theorem zky:qc bF xL 137 T5.1=En T5.2:=by kernel_rfl
theorem zhf:qc bF xL 137 T7.1=En T7.2:=by kernel_rfl
theorem zdn:qc bF xL 85 Ua.1=En Ua.2:=by kernel_rfl
theorem zep:qc bF xL 85 Ui.1=En Ui.2:=by kernel_rfl
theorem zh1:qc bF xL 85 Uo.1=En Uo.2:=by kernel_rfl
theorem w4:qc bF xL 102 e4.1=En e4.2:=by kernel_rfl
theorem w11:qc bF xL 47 Sd.1=En Sd.2:=by kernel_rfl
theorem w18:qc bF xL 113 Sk.1=En Sk.2:=by kernel_rfl
theorem w19:qc bF xL 102 Sl.1=En Sl.2:=by kernel_rfl
theorem w29:qc bF xL 47 Sy.1=En Sy.2:=by kernel_rfl
theorem w38:qc bF xL 47 SI.1=En SI.2:=by kernel_rfl
theorem w45:qc bF xL 113 SR.1=En SR.2:=by kernel_rfl
theorem w46:qc bF xL 102 SS.1=En SS.2:=by kernel_rfl
theorem w53:qc bF xL 113 S0.1=En S0.2:=by kernel_rfl
theorem w57:qc bF xL 102 S4.1=En S4.2:=by kernel_rfl
theorem w61:qc bF xL 47 S8.1=En S8.2:=by kernel_rfl
theorem w64:qc bF xL 102 Tb.1=En Tb.2:=by kernel_rfl
theorem w91:qc bF xL 138 TE.1=En TE.2:=by kernel_rfl
theorem w96:qc bF xL 137 TJ.1=En TJ.2:=by kernel_rfl
theorem zhb:qc bF xL 138 T2.1=En T2.2:=by kernel_rfl
theorem zi7:qc bF xL 85 Uc.1=En Uc.2:=by kernel_rfl
theorem zg9:qc bF xL 85 Uk.1=En Uk.2:=by kernel_rfl
theorem zc0:qc bF xL 85 Up.1=En Up.2:=by kernel_rfl
theorem w14:qc bF xL 47 Sg.1=En Sg.2:=by kernel_rfl
theorem w15:qc bF xL 113 Sh.1=En Sh.2:=by kernel_rfl
theorem w16:qc bF xL 102 Si.1=En Si.2:=by kernel_rfl
theorem w35:qc bF xL 47 SF.1=En SF.2:=by kernel_rfl
theorem w39:qc bF xL 113 SJ.1=En SJ.2:=by kernel_rfl
theorem w49:qc bF xL 47 SW.1=En SW.2:=by kernel_rfl
theorem w54:qc bF xL 102 S1.1=En S1.2:=by kernel_rfl
theorem w59:qc bF xL 113 S6.1=En S6.2:=by kernel_rfl
theorem w60:qc bF xL 102 S7.1=En S7.2:=by kernel_rfl
theorem w63:qc bF xL 47 Ta.1=En Ta.2:=by kernel_rfl
theorem w65:qc bF xL 47 Tc.1=En Tc.2:=by kernel_rfl
theorem w67:qc bF xL 102 Te.1=En Te.2:=by kernel_rfl
theorem zlw:qc bF xL 138 T6.1=En T6.2:=by kernel_rfl
theorem zfm:qc bF xL 85 T9.1=En T9.2:=by kernel_rfl
theorem zli:qc bF xL 85 Ud.1=En Ud.2:=by kernel_rfl
theorem zdj:qc bF xL 85 Uf.1=En Uf.2:=by kernel_rfl
theorem zdz:qc bF xL 85 Ug.1=En Ug.2:=by kernel_rfl
theorem zhx:qc bF xL 85 Ur.1=En Ur.2:=by kernel_rfl
theorem w7:qc bF xL 102 e7.1=En e7.2:=by kernel_rfl
theorem w8:qc bF xL 47 e8.1=En e8.2:=by kernel_rfl
theorem w10:qc bF xL 102 Sc.1=En Sc.2:=by kernel_rfl
theorem w12:qc bF xL 113 Se.1=En Se.2:=by kernel_rfl
theorem w36:qc bF xL 113 SG.1=En SG.2:=by kernel_rfl
theorem w44:qc bF xL 47 SQ.1=En SQ.2:=by kernel_rfl
theorem w62:qc bF xL 102 S9.1=En S9.2:=by kernel_rfl
theorem w69:qc bF xL 113 Tg.1=En Tg.2:=by kernel_rfl
theorem w71:qc bF xL 47 Ti.1=En Ti.2:=by kernel_rfl
theorem w72:qc bF xL 102 Tj.1=En Tj.2:=by kernel_rfl
theorem w83:qc bF xL 138 Tw.1=En Tw.2:=by kernel_rfl
theorem w86:qc bF xL 137 Tz.1=En Tz.2:=by kernel_rfl
theorem w95:qc bF xL 138 TI.1=En TI.2:=by kernel_rfl
theorem zjn:qc bF xL 137 TN.1=En TN.2:=by kernel_rfl
theorem zl3:qc bF xL 137 TU.1=En TU.2:=by kernel_rfl
theorem zkn:qc bF xL 85 Ub.1=En Ub.2:=by kernel_rfl
theorem zgg:qc bF xL 85 Uj.1=En Uj.2:=by kernel_rfl
theorem w9:qc bF xL 113 e9.1=En e9.2:=by kernel_rfl
theorem w13:qc bF xL 102 Sf.1=En Sf.2:=by kernel_rfl
theorem w20:qc bF xL 47 Sm.1=En Sm.2:=by kernel_rfl
theorem w22:qc bF xL 102 So.1=En So.2:=by kernel_rfl
theorem w33:qc bF xL 113 SD.1=En SD.2:=by kernel_rfl
theorem w40:qc bF xL 102 SK.1=En SK.2:=by kernel_rfl
theorem w41:qc bF xL 47 SL.1=En SL.2:=by kernel_rfl
theorem w52:qc bF xL 47 SZ.1=En SZ.2:=by kernel_rfl
theorem w66:qc bF xL 113 Td.1=En Td.2:=by kernel_rfl
theorem w70:qc bF xL 102 AY.1=En AY.2:=by kernel_rfl
theorem w76:qc bF xL 47 Tm.1=En Tm.2:=by kernel_rfl
theorem w87:qc bF xL 138 TA.1=En TA.2:=by kernel_rfl
theorem w88:qc bF xL 137 TB.1=En TB.2:=by kernel_rfl
theorem w99:qc bF xL 138 TM.1=En TM.2:=by kernel_rfl
theorem zj0:qc bF xL 138 TR.1=En TR.2:=by kernel_rfl
theorem zfu:qc bF xL 137 T3.1=En T3.2:=by kernel_rfl
theorem zji:qc bF xL 85 Uq.1=En Uq.2:=by kernel_rfl
theorem w2:qc bF xL 47 e2.1=En e2.2:=by kernel_rfl
theorem w6:qc bF xL 113 e6.1=En e6.2:=by kernel_rfl
theorem w28:qc bF xL 102 Sx.1=En Sx.2:=by kernel_rfl
theorem w30:qc bF xL 113 Sz.1=En Sz.2:=by kernel_rfl
theorem w32:qc bF xL 47 SC.1=En SC.2:=by kernel_rfl
theorem w55:qc bF xL 47 S2.1=En S2.2:=by kernel_rfl
theorem w58:qc bF xL 47 S5.1=En S5.2:=by kernel_rfl
theorem w75:qc bF xL 102 Tl.1=En Tl.2:=by kernel_rfl
theorem w79:qc bF xL 113 Tq.1=En Tq.2:=by kernel_rfl
theorem w84:qc bF xL 137 Tx.1=En Tx.2:=by kernel_rfl
theorem w85:qc bF xL 138 Ty.1=En Ty.2:=by kernel_rfl
theorem w89:qc bF xL 138 TC.1=En TC.2:=by kernel_rfl
theorem zd3:qc bF xL 137 TS.1=En TS.2:=by kernel_rfl
theorem zdk:qc bF xL 85 Ue.1=En Ue.2:=by kernel_rfl
theorem zid:qc bF xL 85 Uh.1=En Uh.2:=by kernel_rfl
theorem zjt:qc bF xL 85 Um.1=En Um.2:=by kernel_rfl
theorem zi9:qc bF xL 85 Us.1=En Us.2:=by kernel_rfl
theorem w3:qc bF xL 113 e3.1=En e3.2:=by kernel_rfl
theorem w23:qc bF xL 47 Sp.1=En Sp.2:=by kernel_rfl
theorem w27:qc bF xL 113 Sw.1=En Sw.2:=by kernel_rfl
theorem w31:qc bF xL 102 SA.1=En SA.2:=by kernel_rfl
theorem w34:qc bF xL 102 SE.1=En SE.2:=by kernel_rfl
theorem w42:qc bF xL 113 SN.1=En SN.2:=by kernel_rfl
theorem w68:qc bF xL 47 Tf.1=En Tf.2:=by kernel_rfl
theorem w78:qc bF xL 47 Tp.1=En Tp.2:=by kernel_rfl
theorem w80:qc bF xL 137 Ts.1=En Ts.2:=by kernel_rfl
theorem w81:qc bF xL 138 Tt.1=En Tt.2:=by kernel_rfl
theorem w92:qc bF xL 137 TF.1=En TF.2:=by kernel_rfl
theorem w97:qc bF xL 138 TK.1=En TK.2:=by kernel_rfl
theorem zim:qc bF xL 137 TQ.1=En TQ.2:=by kernel_rfl
theorem zih:qc bF xL 138 TV.1=En TV.2:=by kernel_rfl
theorem zjh:qc bF xL 137 TY.1=En TY.2:=by kernel_rfl
theorem zdm:qc bF xL 138 T8.1=En T8.2:=by kernel_rfl
theorem zk5:qc bF xL 85 Un.1=En Un.2:=by kernel_rfl
theorem w1:qc bF xL 102 e1.1=En e1.2:=by kernel_rfl
theorem w5:qc bF xL 47 e5.1=En e5.2:=by kernel_rfl
theorem w17:qc bF xL 47 Sj.1=En Sj.2:=by kernel_rfl
theorem w24:qc bF xL 113 Sr.1=En Sr.2:=by kernel_rfl
theorem w43:qc bF xL 102 SP.1=En SP.2:=by kernel_rfl
theorem w47:qc bF xL 47 SU.1=En SU.2:=by kernel_rfl
theorem w50:qc bF xL 113 SX.1=En SX.2:=by kernel_rfl
theorem w73:qc bF xL 47 Em.1=En Em.2:=by kernel_rfl
theorem w77:qc bF xL 102 Tn.1=En Tn.2:=by kernel_rfl
theorem w94:qc bF xL 137 TH.1=En TH.2:=by kernel_rfl
theorem w98:qc bF xL 137 TL.1=En TL.2:=by kernel_rfl
theorem zjm:qc bF xL 138 TP.1=En TP.2:=by kernel_rfl
theorem zgt:qc bF xL 138 TT.1=En TT.2:=by kernel_rfl
theorem zgb:qc bF xL 137 TW.1=En TW.2:=by kernel_rfl
theorem zcr:qc bF xL 138 TX.1=En TX.2:=by kernel_rfl
theorem zf3:qc bF xL 137 T1.1=En T1.2:=by kernel_rfl
theorem zk7:qc bF xL 85 Ul.1=En Ul.2:=by kernel_rfl
end Go.Z
namespace Go.Z
open Go Go.Abs Go.Proofs
def Uw:List (Nat×List Row):=[(47,[e2,e5,e8,Sd,Sg,Sj,Sm,Sp,Sv,Sy,SC,SF,SI,SL,SQ,SU,SW,SZ,S2,S5,S8,Ta,Tc,Tf,Ti,Em,Tm,Tp]),(85,[T9,Ua,Ub,Uc,Ud,Ue,Uf,Ug,Uh,Ui,Uj,Uk,Ul,Um,Un,Uo,Up,Uq,Ur,Us]),(113,[e3,e6,e9,Se,Sh,Sk,Sn,Sr,Sw,Sz,SD,SG,SJ,SN,SR,SX,S0,S3,S6,Td,Tg,Tk,Tq]),(102,[e1,e4,e7,Sc,Sf,Si,Sl,So,Ss,Sx,SA,SE,SH,SK,SP,SS,SV,SY,S1,S4,S7,S9,Tb,Te,AY,Tj,Tl,Tn]),(137,[Ts,Tv,Tx,Tz,TB,TD,TF,TH,TJ,TL,TN,TQ,TS,TU,TW,TY,T1,T3,T5,T7]),(138,[Tt,Tw,Ty,TA,TC,TE,TG,TI,TK,TM,TP,TR,TT,TV,TX,T0,T2,T4,T6,T8])]
def tab:Nat→Option (List Row):=yH Uw
theorem j1f:Ux Tryz.prog tab:=
 Uy (t:=Uw) ⟨⟨qg bI w2,qg bI w5,qg bI w8,qg bI w11,qg bI w14,qg bI w17,qg bI w20,qg bI w23,qg bI w26,qg bI w29,qg bI w32,qg bI w35,qg bI w38,qg bI w41,qg bI w44,qg bI w47,qg bI w49,qg bI w52,qg bI w55,qg bI w58,qg bI w61,qg bI w63,qg bI w65,qg bI w68,qg bI w71,qg bI w73,qg bI w76,qg bI w78,trivial⟩,⟨qg bI zfm,qg bI zdn,qg bI zkn,qg bI zi7,qg bI zli,qg bI zdk,qg bI zdj,qg bI zdz,qg bI zid,qg bI zep,qg bI zgg,qg bI zg9,qg bI zk7,qg bI zjt,qg bI zk5,qg bI zh1,qg bI zc0,qg bI zji,qg bI zhx,qg bI zi9,trivial⟩,⟨qg bI w3,qg bI w6,qg bI w9,qg bI w12,qg bI w15,qg bI w18,qg bI w21,qg bI w24,qg bI w27,qg bI w30,qg bI w33,qg bI w36,qg bI w39,qg bI w42,qg bI w45,qg bI w50,qg bI w53,qg bI w56,qg bI w59,qg bI w66,qg bI w69,qg bI w74,qg bI w79,trivial⟩,⟨qg bI w1,qg bI w4,qg bI w7,qg bI w10,qg bI w13,qg bI w16,qg bI w19,qg bI w22,qg bI w25,qg bI w28,qg bI w31,qg bI w34,qg bI w37,qg bI w40,qg bI w43,qg bI w46,qg bI w48,qg bI w51,qg bI w54,qg bI w57,qg bI w60,qg bI w62,qg bI w64,qg bI w67,qg bI w70,qg bI w72,qg bI w75,qg bI w77,trivial⟩,⟨qg bI w80,qg bI w82,qg bI w84,qg bI w86,qg bI w88,qg bI w90,qg bI w92,qg bI w94,qg bI w96,qg bI w98,qg bI zjn,qg bI zim,qg bI zd3,qg bI zl3,qg bI zgb,qg bI zjh,qg bI zf3,qg bI zfu,qg bI zky,qg bI zhf,trivial⟩,⟨qg bI w81,qg bI w83,qg bI w85,qg bI w87,qg bI w89,qg bI w91,qg bI w93,qg bI w95,qg bI w97,qg bI w99,qg bI zjm,qg bI zj0,qg bI zgt,qg bI zih,qg bI zcr,qg bI zew,qg bI zhb,qg bI zj8,qg bI zlw,qg bI zdm,trivial⟩,trivial⟩
def ef:zb:={ bQ:=bF.bQ,cO:=fun k=>match tab k with
 |some l=>En fun args=>Eo args l
 |none=>Uz k,dP:=bF.dP,maps:=bF.maps }
theorem ei:bX Tryz.prog ef where
 fn:=bI.fn
 iM:=by
  intro k f hf
  simp only[ef]at hf
  split at hf
  ·rename_i l hl
   cases hf
   exact⟨vf (UA Uw (by kernel_rfl) k l hl),fun args v o hv _ _=>j1f k l hl _ (UB hv)⟩
  ·exact bI.iM k f hf
 mixed:=bI.mixed
 gh:=bI.gh
 maps:=bI.maps
abbrev xA:=iL ef 1000
end Go.Z
