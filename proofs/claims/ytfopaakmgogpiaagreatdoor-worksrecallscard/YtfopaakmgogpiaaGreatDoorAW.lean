/- The values, states and rows of the examples' run. -/
import Derived.Test.YtfopaakmgogpiaaGreatDoorLA
set_option linter.unusedVariables false
set_option linter.unusedSimpArgs false
open Bool renaming false→I
open Option renaming some→Eh
namespace Go.Z
open Go Go.Abs Go.Proofs
abbrev xL:=hZ br 1000
def fe:qa:=.list true 0 []
def dx:qn:=.cells [(fe,I),(fe,I),(.au 2 0 1,I)]
def bS:qa:=.int .i64 0
def xi:qa:=.agg [bS,fe,fe,fe]
def gp:qa:=.int .i64 1
def zI:qa:=.str [99,111,110,101,95,49]
def DK:qa:=.str [99,111,110,101]
def vM:qa:=.int .i64 10
def uy:qa:=.bool I
def xv9:qa:=.agg [zI,DK,vM,vM,uy]
def Qh:qa:=.agg [gp,.list I 5 [xv9],fe,fe]
def lv1:List qa:=[xi,Qh]
def MD:qa:=.str [108,111,116]
def lv2:List qa:=[zI,DK]
def zJ:qa:=.agg [gp,MD,.list I 1 lv2,.list I 1 [gp,vM],.str []]
def bv2:qn:=.vec 5 0 [zJ]
def bv3:qn:=.cells [(.au 7 1 2,I),(.au 5 1 2,I),(.au 2 2 3,I)]
def vN:qa:=.str [99,111,105,108,95,49]
def DL:qa:=.str [99,111,105,108]
def zK:qa:=.int .i64 5
def jvm:qa:=.agg [vN,DL,zK,zK,uy]
def zL:qa:=.list I 5 [xv9,jvm]
def Qi:qa:=.agg [gp,zL,fe,fe]
def lv3:List qa:=lv1++[Qi]
def bv4:qn:=.vec 4 2 lv3
def uz:qa:=.int .i64 2
def lv4:List qa:=[vN,DL]
def DM:qa:=.agg [uz,MD,.list I 1 lv4,.list I 1 [gp,zK],.str []]
def lv5:List qa:=[zJ,DM]
def ME:qn:=.vec 5 1 lv5
def bv6:qn:=.cells [(.au 7 2 3,I),(.au 5 2 3,I),(.au 2 3 4,I)]
def l3:qa:=.str [98,111,120]
def Qj:qa:=.agg [gp,zL,.list I 4 [.agg [l3,fe,fe,fe]],fe]
def lv6:List qa:=lv3++[Qj]
def bv7:qn:=.vec 4 3 lv6
def pg:qa:=.int .i64 3
def jt8:qa:=.str [112,114,111,100,117,99,116]
def Qk:qa:=.list I 1 [l3]
def DN:qa:=.agg [pg,jt8,Qk,.list I 1 [gp],.str []]
def lv7:List qa:=lv5++[DN]
def MF:qn:=.vec 5 2 lv7
def bv9:qn:=.cells [(.au 7 3 4,I),(.au 5 3 4,I),(.au 2 4 5,I)]
def jqp:qa:=.agg [DK,uz]
def Ql:qa:=.agg [gp,zL,.list I 4 [.agg [l3,.list I 2 [jqp],fe,fe]],fe]
def lv8:List qa:=lv6++[Ql]
def jug:qn:=.vec 4 4 lv8
def MG:qa:=.int .i64 4
def MH:qa:=.str [110,101,101,100]
def DP:qa:=.agg [MG,MH,.list I 1 [l3,DK],.list I 1 [gp,uz],.str []]
def lv9:List qa:=lv7++[DP]
def MI:qn:=.vec 5 3 lv9
def ju7:qn:=.cells [(.au 7 4 5,I),(.au 5 4 5,I),(.au 2 5 6,I)]
def Qm:qa:=.list I 2 [jqp,.agg [DL,gp]]
def Qn:qa:=.agg [gp,zL,.list I 4 [.agg [l3,Qm,fe,fe]],fe]
def jsk:List qa:=lv8++[Qn]
def js3:qn:=.vec 4 5 jsk
def DQ:qa:=.agg [zK,MH,.list I 1 [l3,DL],.list I 1 [gp,gp],.str []]
def jqs:List qa:=lv9++[DQ]
def MJ:qn:=.vec 5 4 jqs
def jqx:qn:=.cells [(.au 7 5 6,I),(.au 5 5 6,I),(.au 2 6 7,I)]
def ze8:List qa:=[l3,Qm]
def zM:qa:=.str [115,119,101,101,112]
def jsl:qa:=.int .i64 80
def juq:qa:=.int .i64 90
def jrb:qa:=.list I 3 [.agg [zM,jsl,juq]]
def Qo:List qa:=ze8++[jrb]
def Qp:qa:=.agg [gp,zL,.list I 4 [.agg ((Qo++[fe]))],fe]
def jp6:List qa:=jsk++[Qp]
def jt5:qn:=.vec 4 6 jp6
def Qq:qa:=.int .i64 6
def jq2:qa:=.str [116,101,115,116]
def DR:qa:=.agg [Qq,jq2,.list I 1 [l3,zM],.list I 1 [gp,jsl,juq],.str []]
def jv0:List qa:=jqs++[DR]
def MK:qn:=.vec 5 5 jv0
def jwa:qn:=.cells [(.au 7 6 7,I),(.au 5 6 7,I),(.au 2 7 8,I)]
def Qr:qa:=.agg [Qm,jrb]
def FI:qa:=.list I 4 [.agg ((Qo++[.list I 2 [Qr]]))]
def Qs:qa:=.agg [uz,zL,FI,fe]
def jre:List qa:=jp6++[Qs]
def jsf:qn:=.vec 4 7 jre
def Qt:qa:=.int .i64 7
def Qu:qa:=.str [105,115,115,117,101]
def DS:qa:=.agg [Qt,Qu,Qk,.list I 1 [uz],.str []]
def juo:List qa:=jv0++[DS]
def ML:qn:=.vec 5 6 juo
def jrv:qn:=.cells [(.au 7 7 8,I),(.au 5 7 8,I),(.au 2 8 9,I)]
def ph:qa:=.str [117,49]
def Qv:qa:=.agg [pg,zL,FI,.list I 8 [.agg [ph,l3,gp,fe,fe,.str [],uy,bS]]]
def jve:List qa:=jre++[Qv]
def jwh:qn:=.vec 4 8 jve
def MN:qa:=.int .i64 8
def jvd:qa:=.str [98,117,105,108,100]
def zN:List qa:=[ph,l3]
def pU:qa:=.list I 1 [pg]
def DT:qa:=.agg [MN,jvd,.list I 1 zN,pU,.str []]
def jsi:List qa:=juo++[DT]
def MO:qn:=.vec 5 7 jsi
def jvr:qn:=.cells [(.au 7 8 9,I),(.au 5 8 9,I),(.au 2 9 10,I)]
def Qw:qa:=.agg ((lv2++[vM,MN,uy]))
def js8:qa:=.agg [zI,uz]
def MP:qa:=.agg [pg,.list I 5 [Qw,jvm],FI,.list I 8 [.agg ((zN++[gp,.list I 2 [js8],fe,.str [],uy,bS]))]]
def jsz:List qa:=jve++[MP]
def jq8:qn:=.vec 4 9 jsz
def Qx:qa:=.int .i64 9
def MQ:qa:=.str [117,115,101]
def jwf:qa:=.list I 1 [ph,zI]
def DU:qa:=.agg [Qx,MQ,jwf,.list I 1 [pg,uz],.str []]
def jsq:List qa:=jsi++[DU]
def MR:qn:=.vec 5 8 jsq
def Qy:qn:=.cells [(.au 7 9 10,I),(.au 5 9 10,I),(.au 2 10 11,I)]
def zci:List qa:=lv4++[zK]
def jsr:List qa:=zci++[MG]
def jpt:List qa:=[pg,.list I 5 [Qw,.agg ((jsr++[uy]))]]
def MS:List qa:=jpt++[FI]
def FJ:qa:=.list I 2 [js8,.agg [vN,gp]]
def MT:qa:=.agg ((MS++[.list I 8 [.agg ((zN++[gp,FJ,fe,.str [],uy,bS]))]]))
def jpw:List qa:=jsz++[MT]
def Qz:qn:=.vec 4 10 jpw
def jwe:qa:=.list I 1 [pg,gp]
def DV:qa:=.agg [vM,MQ,.list I 1 [ph,vN],jwe,.str []]
def jsv:List qa:=jsq++[DV]
def DW:qn:=.vec 5 9 jsv
def QA:qn:=.cells [(.au 7 10 11,I),(.au 5 10 11,I),(.au 2 11 12,I)]
def jv6:List qa:=[zM,gp]
def jry:qa:=.int .i64 85
def jsc:qa:=.agg ((jv6++[jry]))
def QB:qa:=.list I 3 [jsc]
def QC:qa:=.list I 8 [.agg ((zN++[gp,FJ,QB,.str [],uy,bS]))]
def DX:qa:=.agg ((MS++[QC]))
def FK:List qa:=jpw++[DX]
def QD:qn:=.vec 4 11 FK
def FL:qa:=.int .i64 11
def QE:qa:=.str [109,101,97,115,117,114,101]
def jrr:qa:=.list I 1 [ph,zM]
def DY:qa:=.agg [FL,QE,jrr,.list I 1 [pg,jry],.str []]
def FM:List qa:=jsv++[DY]
def DZ:qn:=.vec 5 10 FM
def QF:qn:=.cells [(.au 7 11 12,I),(.au 5 11 12,I),(.au 2 12 13,I)]
def fp:qa:=.bool true
def QG:qa:=.agg [pg,.list I 5 [Qw,.agg ((jsr++[fp]))],FI,QC]
def FN:qn:=.vec 4 12 ((FK++[QG]))
def QH:qa:=.int .i64 12
def js1:qa:=.str [104,111,108,100]
def jwm:qa:=.list I 1 [vN]
def D0:qa:=.agg [QH,js1,jwm,pU,.str []]
def juh:List qa:=FM++[D0]
def xj:qn:=.vec 5 11 juh
def jps:qn:=.cells [(.au 7 12 13,I),(.au 5 11 11,I),(.au 2 12 12,I)]
def FO:qa:=.int .i64 13
def zO:qa:=.str [117,110,100,111]
def FP:qa:=.list I 1 []
def FQ:qa:=.agg [FO,zO,FP,fe,.str []]
def jtz:List qa:=juh++[FQ]
def juw:qn:=.vec 5 12 jtz
def jp4:qn:=.cells [(.au 7 13 14,I),(.au 5 12 12,I),(.au 2 13 13,I)]
def jpu:List qa:=jpt++[.list I 4 [.agg ((Qo++[.list I 2 [Qr,Qr]]))]]
def MU:qa:=.agg ((jpu++[QC]))
def jsp:List qa:=FK++[MU]
def jpz:qn:=.vec 4 13 jsp
def QI:qa:=.int .i64 14
def zP:qa:=.agg [QI,Qu,Qk,pU,.str []]
def jqo:List qa:=FM++[zP]
def jq5:qn:=.vec 5 12 jqo
def jqi:List qa:=jtz++[zP]
def jt9:qn:=.vec 5 13 jqi
def jqn:qn:=.cells [(.au 7 14 15,I),(.au 5 13 13,I),(.au 2 14 14,I)]
def QJ:qa:=.agg ((jpu++[.list I 8 [.agg ((zN++[uz,FJ,QB,.str [],uy,bS]))]]))
def D3:qn:=.vec 4 14 ((jsp++[QJ]))
def FR:qa:=.int .i64 15
def jum:qa:=.str [117,112,100,97,116,101]
def uA:qa:=.list I 1 [ph]
def zQ:qa:=.agg [FR,jum,uA,pU,.str []]
def D4:qn:=.vec 5 13 ((jqo++[zQ]))
def jtr:List qa:=jqi++[zQ]
def jts:qn:=.vec 5 14 jtr
def jpx:qn:=.cells [(.au 7 15 16,I),(.au 5 13 12,I),(.au 2 14 13,I)]
def FT:qa:=.int .i64 16
def FU:qa:=.agg [FT,zO,FP,fe,.str []]
def jv2:List qa:=jtr++[FU]
def jqm:qn:=.vec 5 15 jv2
def jqg:qn:=.cells [(.au 7 16 17,I),(.au 5 13 11,I),(.au 2 14 12,I)]
def QK:qa:=.int .i64 17
def FV:qa:=.agg [QK,zO,FP,fe,.str []]
def jus:List qa:=jv2++[FV]
def jqz:qn:=.vec 5 16 jus
def jr6:qn:=.cells [(.au 7 17 18,I),(.au 5 14 12,I),(.au 2 15 13,I)]
def jq3:qa:=.int .i64 91
def QL:qa:=.agg ((MS++[.list I 8 [.agg ((zN++[gp,FJ,.list I 3 [jsc,.agg ((jv6++[jq3]))],.str [],uy,bS]))]]))
def FW:qn:=.vec 4 15 ((FK++[QL]))
def QM:qa:=.int .i64 18
def zR:qa:=.agg [QM,QE,jrr,.list I 1 [pg,jq3],.str []]
def FX:qn:=.vec 5 14 ((FM++[zR]))
def jp7:List qa:=jus++[zR]
def ju0:qn:=.vec 5 17 jp7
def QN:qn:=.cells [(.au 7 18 19,I),(.au 5 14 11,I),(.au 2 15 12,I)]
def D5:qa:=.int .i64 19
def FY:qa:=.agg [D5,zO,FP,fe,.str []]
def jtn:List qa:=jp7++[FY]
def QO:qn:=.vec 5 18 jtn
def QP:qn:=.cells [(.au 7 19 20,I),(.au 5 15 12,I),(.au 2 16 13,I)]
def QQ:qa:=.agg ((MS++[.list I 8 [.agg ((zN++[gp,FJ,QB,.str [],fp,bS]))]]))
def QR:qn:=.vec 4 16 ((FK++[QQ]))
def MV:qa:=.int .i64 20
def xk:qa:=.str [115,104,105,112]
def zS:qa:=.agg [MV,xk,uA,pU,.str []]
def QS:qn:=.vec 5 15 ((FM++[zS]))
def jvl:List qa:=jtn++[zS]
def QT:qn:=.vec 5 19 jvl
def jr1:List qa:=[Qu,l3]
def jwp:List qa:=[MQ,ph]
def zd9:List qa:=jwp++[zI]
def jut:List qa:=zd9++[.str [51]]
def zT:qa:=.list I 1 [xk,ph,.str [51]]
def QU:qa:=.agg [vM,xk,uA,pU,.str []]
def QV:qa:=.agg [FL,xk,uA,pU,.str []]
def jlg:qa:=.int .i64 31
def QW:qa:=.ay [xi,jlg]
def zhe:List qa:=[QE,ph]
def zdj:List qa:=zhe++[zM]
def jvb:List qa:=zdj++[.str [51]]
def QX:qa:=.agg [FO,xk,uA,pU,.str []]
def jk7:qa:=.int .i64 34
def FZ:qa:=.list I 1 [zO]
def QY:qa:=.agg [FR,xk,uA,pU,.str []]
def jlq:qa:=.int .i64 32
def QZ:qa:=.agg [FT,xk,uA,pU,.str []]
def Q0:qa:=.agg [D5,xk,uA,pU,.str []]
def D6:qa:=.int .i64 21
def jlx:qa:=.agg [D6,zO,FP,fe,.str []]
def Q5:qa:=.agg [D6,MQ,jwf,jwe,.str []]
def jkx:qa:=.str [49,32,108,111,116,32,99,111,110,101,95,49,32,99,111,110,101,32,49,32,49,48]
def jk5:qa:=.str [50,32,108,111,116,32,99,111,105,108,95,49,32,99,111,105,108,32,49,32,53]
def jlc:qa:=.str [51,32,112,114,111,100,117,99,116,32,98,111,120,32,49]
def jk9:qa:=.str [52,32,110,101,101,100,32,98,111,120,32,99,111,110,101,32,49,32,50]
def jla:qa:=.str [53,32,110,101,101,100,32,98,111,120,32,99,111,105,108,32,49,32,49]
def jk2:qa:=.str [54,32,116,101,115,116,32,98,111,120,32,115,119,101,101,112,32,49,32,56,48,32,57,48]
def jlw:qa:=.str [55,32,105,115,115,117,101,32,98,111,120,32,50]
def jlk:qa:=.str [56,32,98,117,105,108,100,32,117,49,32,98,111,120,32,51]
def jk3:qa:=.str [57,32,117,115,101,32,117,49,32,99,111,110,101,95,49,32,51,32,50]
def jl3:qa:=.str [49,48,32,117,115,101,32,117,49,32,99,111,105,108,95,49,32,51,32,49]
def jk1:qa:=.str [49,49,32,109,101,97,115,117,114,101,32,117,49,32,115,119,101,101,112,32,51,32,56,53]
def jl1:qa:=.str [49,50,32,104,111,108,100,32,99,111,105,108,95,49,32,51]
def jk0:qa:=.str [49,51,32,117,110,100,111]
def jlf:qa:=.str [49,52,32,105,115,115,117,101,32,98,111,120,32,51]
def jl0:qa:=.str [49,53,32,117,112,100,97,116,101,32,117,49,32,51]
def jle:qa:=.str [49,54,32,117,110,100,111]
def jly:qa:=.str [49,55,32,117,110,100,111]
def jky:qa:=.str [49,56,32,109,101,97,115,117,114,101,32,117,49,32,115,119,101,101,112,32,51,32,57,49]
def jlt:qa:=.str [49,57,32,117,110,100,111]
def jkz:qa:=.str [50,48,32,115,104,105,112,32,117,49,32,51]
def Q6:qa:=.list I 5 jvl
def zU:List qa:=[.ptr 0 0,.str [115,104,105,112,32,117,49,32,51]]
def Q7:qa:=.ay [.str [],jlg]
def jqc:List qa:=[.ptr 0 0,.str [109,105,115,115,105,110,103,32,117,49]]
def jlm:qa:=.ay [.str [110,111,110,101],bS]
def jqt:List qa:=[.ptr 0 0,.str [115,116,111,99,107,32,99,111,105,108]]
def F0:List qa:=[.ptr 0 0,zO]
def jtg:List qa:=[.ptr 0 0,.str [115,104,105,112,112,101,100]]
def hw1:za:=[dx,dx,.vec 4 0 [xi]]
def hw2:za:=[.cells [(.au 7 0 1,I),(.au 5 0 1,I),(.au 2 1 2,I)],dx,.vec 4 1 lv1,.map z8,.map z6,bv2,.hole,bv2]
def hw3:za:=[bv3,dx,bv4,.map z8,.map z6,ME,.hole,ME,.map z8,.map z6]
def hw4:za:=[bv3,dx,bv4,.map z8,.map z6,ME,.hole,ME]
def hw5:za:=[bv6,dx,bv7,.map z8,.map z6,MF,.hole,MF,.map z8,.map z6]
def hw6:za:=[bv6,dx,bv7,.map z8,.map z6,MF,.hole,MF]
def hw7:za:=[bv9,dx,jug,.map z8,.map z6,MI,.hole,MI,.map z8,.map z6]
def hw8:za:=[bv9,dx,jug,.map z8,.map z6,MI,.hole,MI]
def hw9:za:=[ju7,dx,js3,.map z8,.map z6,MJ,.hole,MJ,.map z8,.map z6]
def zi6:za:=[ju7,dx,js3,.map z8,.map z6,MJ,.hole,MJ]
def zet:za:=[jqx,dx,jt5,.map z8,.map z6,MK,.hole,MK,.map z8,.map z6]
def zf9:za:=[jqx,dx,jt5,.map z8,.map z6,MK,.hole,MK]
def zhg:za:=[jwa,dx,jsf,.map z8,.map z6,ML,.hole,ML,.map z8,.map z6]
def zeo:za:=[jwa,dx,jsf,.map z8,.map z6,ML,.hole,ML]
def zdk:za:=[jrv,dx,jwh,.map z8,.map z6,MO,.hole,MO,.map z8,.map z6]
def zht:za:=[jrv,dx,jwh,.map z8,.map z6,MO,.hole,MO]
def jru:za:=[jvr,dx,jq8,.map z8,.map z6,MR,.hole,MR,.map z8,.map z6]
def jwq:za:=[jvr,dx,jq8,.map z8,.map z6,MR,.hole,MR]
def jt7:za:=[Qy,dx,Qz,.map z8,.map z6,DW,.hole,DW,.map z8,.map z6]
def Q9:za:=[Qy,dx,Qz,.map z8,.map z6,DW,.hole,DW]
def zfg:za:=[Qy,dx,Qz,.map z8,.map z6,DW,.hole,DW,.map z8]
def zj1:za:=[QA,dx,QD,.map z8,.map z6,DZ,.hole,DZ,.map z8,.map z6]
def jqh:za:=[QA,dx,QD,.map z8,.map z6,DZ,.hole,DZ]
def zjt:za:=[QA,dx,QD,.map z8,.map z6,DZ,.hole,DZ,.map z8]
def jsu:za:=[QF,dx,FN,.map z8,.map z6,xj,.hole,xj,.map z8,.map z6]
def Ra:za:=[QF,dx,FN,.map z8,.map z6,xj,.hole,xj]
def zh8:za:=[QF,dx,FN,.map z8,.map z6,xj,.hole,xj,.map z8]
def zjv:za:=[jps,dx,FN,.map z8,.map z6,xj,.hole,juw,.map z8,.map z6]
def zc1:za:=[jps,dx,FN,.map z8,.map z6,xj,.hole,juw]
def jsb:za:=[jp4,dx,jpz,.map z8,.map z6,jq5,.hole,jt9,.map z8,.map z6]
def ju6:za:=[jp4,dx,jpz,.map z8,.map z6,jq5,.hole,jt9]
def jrp:za:=[jqn,dx,D3,.map z8,.map z6,D4,.hole,jts,.map z8,.map z6]
def jta:za:=[jqn,dx,D3,.map z8,.map z6,D4,.hole,jts]
def zgo:za:=[jpx,dx,D3,.map z8,.map z6,D4,.hole,jqm,.map z8,.map z6]
def zcf:za:=[jpx,dx,D3,.map z8,.map z6,D4,.hole,jqm]
def zcp:za:=[jqg,dx,D3,.map z8,.map z6,D4,.hole,jqz,.map z8,.map z6]
def zgz:za:=[jqg,dx,D3,.map z8,.map z6,D4,.hole,jqz]
def jri:za:=[jr6,dx,FW,.map z8,.map z6,FX,.hole,ju0,.map z8,.map z6]
def jq0:za:=[jr6,dx,FW,.map z8,.map z6,FX,.hole,ju0]
def zd6:za:=[QN,dx,FW,.map z8,.map z6,FX,.hole,QO,.map z8,.map z6]
def F1:za:=[QN,dx,FW,.map z8,.map z6,FX,.hole,QO]
def MW:za:=[QN,dx,FW,.map z8,.map z6,FX,.hole,QO,.map z8]
def Rb:za:=[QP,dx,QR,.map z8,.map z6,QS,.hole,QT,.map z8,.map z6]
def Rc:za:=[QP,dx,QR,.map z8,.map z6,QS,.hole,QT]
def zin:za:=[QP,dx,QR,.map z8,.map z6,QS,.hole,QT,.map z8]
def e1:Row:=([.list I 1 [MD,zI,DK,.str [49],.str [49,48]],gp],.ay [zJ,fp],I)
def e2:Row:=([zJ],bS,I)
def e3:Row:=([xi,zJ],.ay [Qh,bS],I)
def e4:Row:=([.list I 1 [MD,vN,DL,.str [49],.str [53]],uz],.ay [DM,fp],I)
def e5:Row:=([DM],bS,I)
def e6:Row:=([Qh,DM],.ay [Qi,bS],I)
def e7:Row:=([.list I 1 [jt8,l3,.str [49]],pg],.ay [DN,fp],I)
def e8:Row:=([DN],bS,I)
def e9:Row:=([Qi,DN],.ay [Qj,bS],I)
def Rf:Row:=([.list I 1 [MH,l3,DK,.str [49],.str [50]],MG],.ay [DP,fp],I)
def Rg:Row:=([DP],bS,I)
def Rh:Row:=([Qj,DP],.ay [Ql,bS],I)
def Ri:Row:=([.list I 1 [MH,l3,DL,.str [49],.str [49]],zK],.ay [DQ,fp],I)
def Rj:Row:=([DQ],bS,I)
def Rk:Row:=([Ql,DQ],.ay [Qn,bS],I)
def Rl:Row:=([.list I 1 [jq2,l3,zM,.str [49],.str [56,48],.str [57,48]],Qq],.ay [DR,fp],I)
def Rm:Row:=([DR],bS,I)
def Rn:Row:=([Qn,DR],.ay [Qp,bS],I)
def Ro:Row:=([.list I 1 ((jr1++[.str [50]])),Qt],.ay [DS,fp],I)
def Rp:Row:=([DS],bS,I)
def Rq:Row:=([Qp,DS],.ay [Qs,bS],I)
def Rr:Row:=([.list I 1 [jvd,ph,l3,.str [51]],MN],.ay [DT,fp],I)
def Rs:Row:=([DT],bS,I)
def Rt:Row:=([Qs,DT],.ay [Qv,bS],I)
def Ru:Row:=([.list I 1 ((jut++[.str [50]])),Qx],.ay [DU,fp],I)
def Rv:Row:=([DU],bS,I)
def Rw:Row:=([Qv,DU],.ay [MP,bS],I)
def Rx:Row:=([zT,vM],.ay [QU,fp],I)
def Ry:Row:=([QU],bS,I)
def Rz:Row:=([MP,QU],.ay [xi,MV],I)
def RA:Row:=([.list I 1 ((jwp++[vN,.str [51],.str [49]])),vM],.ay [DV,fp],I)
def RB:Row:=([DV],bS,I)
def RC:Row:=([MP,DV],.ay [MT,bS],I)
def RD:Row:=([zT,FL],.ay [QV,fp],I)
def RE:Row:=([QV],bS,I)
def RF:Row:=([MT,QV],QW,I)
def RG:Row:=([.list I 1 ((jvb++[.str [56,53]])),FL],.ay [DY,fp],I)
def D7:Row:=([DY],bS,I)
def uC:Row:=([MT,DY],.ay [DX,bS],I)
def RH:Row:=([.list I 1 [js1,vN,.str [51]],QH],.ay [D0,fp],I)
def RI:Row:=([D0],bS,I)
def RJ:Row:=([DX,D0],.ay [QG,bS],I)
def RL:Row:=([zT,FO],.ay [QX,fp],I)
def RM:Row:=([QX],bS,I)
def RN:Row:=([QG,QX],.ay [xi,jk7],I)
def RO:Row:=([FZ,FO],.ay [FQ,fp],I)
def RP:Row:=([FQ],bS,I)
def RQ:Row:=([.list I 1 ((jr1++[.str [51]])),QI],.ay [zP,fp],I)
def RR:Row:=([zP],bS,I)
def RS:Row:=([DX,zP],.ay [MU,bS],I)
def RT:Row:=([zT,FR],.ay [QY,fp],I)
def RU:Row:=([QY],bS,I)
def RV:Row:=([MU,QY],.ay [xi,jlq],I)
def RW:Row:=([.list I 1 [jum,ph,.str [51]],FR],.ay [zQ,fp],I)
def RX:Row:=([zQ],bS,I)
def RY:Row:=([MU,zQ],.ay [QJ,bS],I)
def RZ:Row:=([zT,FT],.ay [QZ,fp],I)
def R0:Row:=([QZ],bS,I)
def R1:Row:=([QJ,QZ],QW,I)
def R2:Row:=([FZ,FT],.ay [FU,fp],I)
def R3:Row:=([FU],bS,I)
def R4:Row:=([FZ,QK],.ay [FV,fp],I)
def R5:Row:=([FV],bS,I)
def R6:Row:=([.list I 1 ((jvb++[.str [57,49]])),QM],.ay [zR,fp],I)
def R7:Row:=([zR],bS,I)
def R8:Row:=([DX,zR],.ay [QL,bS],I)
def R9:Row:=([zT,D5],.ay [Q0,fp],I)
def Sb:Row:=([Q0],bS,I)
def Sc:Row:=([QL,Q0],QW,I)
def Sd:Row:=([FZ,D5],.ay [FY,fp],I)
def Se:Row:=([FY],bS,I)
def Sf:Row:=([zT,MV],.ay [zS,fp],I)
def Sg:Row:=([zS],bS,I)
def Sh:Row:=([DX,zS],.ay [QQ,bS],I)
def Si:Row:=([FZ,D6],.ay [jlx,fp],I)
def Sj:Row:=([jlx],bS,I)
def Sk:Row:=([.list I 1 ((jut++[.str [49]])),D6],.ay [Q5,fp],I)
def Sl:Row:=([Q5],bS,I)
def Sm:Row:=([QQ,Q5],.ay [xi,D6],I)
def Sn:Row:=([zJ],jkx,I)
def So:Row:=([jkx],.str [51,57,56,57,49,56,50],I)
def Sp:Row:=([DM],jk5,I)
def Sr:Row:=([jk5],.str [48,49,55,50,54,57,55],I)
def Ss:Row:=([DN],jlc,I)
def Sv:Row:=([jlc],.str [54,49,49,52,48,56,52],I)
def Sw:Row:=([DP],jk9,I)
def Sx:Row:=([jk9],.str [49,55,56,55,50,51,49],I)
def Sy:Row:=([DQ],jla,I)
def Sz:Row:=([jla],.str [50,52,55,55,51,52,50],I)
def SA:Row:=([DR],jk2,I)
def SC:Row:=([jk2],.str [50,48,50,49,51,55,56],I)
def SD:Row:=([DS],jlw,I)
def SE:Row:=([jlw],.str [57,55,57,50,54,57,53],I)
def SF:Row:=([DT],jlk,I)
def SG:Row:=([jlk],.str [48,55,51,51,57,54,55],I)
def SH:Row:=([DU],jk3,I)
def SI:Row:=([jk3],.str [57,54,50,56,50,52,50],I)
def SJ:Row:=([DV],jl3,I)
def SK:Row:=([jl3],.str [51,51,55,48,50,52,48],I)
def SL:Row:=([DY],jk1,I)
def SN:Row:=([jk1],.str [56,50,52,48,49,52,56],I)
def SP:Row:=([D0],jl1,I)
def SQ:Row:=([jl1],.str [53,50,48,49,49,53,55],I)
def SR:Row:=([FQ],jk0,I)
def SS:Row:=([jk0],.str [54,55,52,56,55,48,57],I)
def SU:Row:=([zP],jlf,I)
def SV:Row:=([jlf],.str [48,56,53,50,57,54,53],I)
def SW:Row:=([zQ],jl0,I)
def SX:Row:=([jl0],.str [50,52,56,53,48,49,51],I)
def SY:Row:=([FU],jle,I)
def SZ:Row:=([jle],.str [56,51,50,54,51,57,51],I)
def S0:Row:=([FV],jly,I)
def S1:Row:=([jly],.str [50,49,56,53,54,57,53],I)
def S2:Row:=([zR],jky,I)
def S3:Row:=([jky],.str [50,51,54,49,51,49,55],I)
def S4:Row:=([FY],jlt,I)
def S5:Row:=([jlt],.str [57,57,48,52,48,55,55],I)
def S6:Row:=([zS],jkz,I)
def S7:Row:=([jkz],.str [53,49,49,54,56,51,51],I)
def S8:Row:=([.str [49,32,108,111,116,32,99,111,110,101,95,49,32,99,111,110,101,32,49,32,49,48,35,51,57,56,57,49,56,50],bS],.ay [zJ,bS],I)
def S9:Row:=([.str [50,32,108,111,116,32,99,111,105,108,95,49,32,99,111,105,108,32,49,32,53,35,48,49,55,50,54,57,55],gp],.ay [DM,bS],I)
def Ta:Row:=([.str [51,32,112,114,111,100,117,99,116,32,98,111,120,32,49,35,54,49,49,52,48,56,52],uz],.ay [DN,bS],I)
def Tb:Row:=([.str [52,32,110,101,101,100,32,98,111,120,32,99,111,110,101,32,49,32,50,35,49,55,56,55,50,51,49],pg],.ay [DP,bS],I)
def Tc:Row:=([.str [53,32,110,101,101,100,32,98,111,120,32,99,111,105,108,32,49,32,49,35,50,52,55,55,51,52,50],MG],.ay [DQ,bS],I)
def Td:Row:=([.str [54,32,116,101,115,116,32,98,111,120,32,115,119,101,101,112,32,49,32,56,48,32,57,48,35,50,48,50,49,51,55,56],zK],.ay [DR,bS],I)
def Te:Row:=([.str [55,32,105,115,115,117,101,32,98,111,120,32,50,35,57,55,57,50,54,57,53],Qq],.ay [DS,bS],I)
def Tf:Row:=([.str [56,32,98,117,105,108,100,32,117,49,32,98,111,120,32,51,35,48,55,51,51,57,54,55],Qt],.ay [DT,bS],I)
def Tg:Row:=([.str [57,32,117,115,101,32,117,49,32,99,111,110,101,95,49,32,51,32,50,35,57,54,50,56,50,52,50],MN],.ay [DU,bS],I)
def Ti:Row:=([.str [49,48,32,117,115,101,32,117,49,32,99,111,105,108,95,49,32,51,32,49,35,51,51,55,48,50,52,48],Qx],.ay [DV,bS],I)
def Tj:Row:=([.str [49,49,32,109,101,97,115,117,114,101,32,117,49,32,115,119,101,101,112,32,51,32,56,53,35,56,50,52,48,49,52,56],vM],.ay [DY,bS],I)
def Tk:Row:=([.str [49,50,32,104,111,108,100,32,99,111,105,108,95,49,32,51,35,53,50,48,49,49,53,55],FL],.ay [D0,bS],I)
def Tl:Row:=([.str [49,51,32,117,110,100,111,35,54,55,52,56,55,48,57],QH],.ay [FQ,bS],I)
def Tm:Row:=([.str [49,52,32,105,115,115,117,101,32,98,111,120,32,51,35,48,56,53,50,57,54,53],FO],.ay [zP,bS],I)
def Tn:Row:=([.str [49,53,32,117,112,100,97,116,101,32,117,49,32,51,35,50,52,56,53,48,49,51],QI],.ay [zQ,bS],I)
def Tp:Row:=([.str [49,54,32,117,110,100,111,35,56,51,50,54,51,57,51],FR],.ay [FU,bS],I)
def Tq:Row:=([.str [49,55,32,117,110,100,111,35,50,49,56,53,54,57,53],FT],.ay [FV,bS],I)
def Ts:Row:=([.str [49,56,32,109,101,97,115,117,114,101,32,117,49,32,115,119,101,101,112,32,51,32,57,49,35,50,51,54,49,51,49,55],QK],.ay [zR,bS],I)
def Tt:Row:=([.str [49,57,32,117,110,100,111,35,57,57,48,52,48,55,55],QM],.ay [FY,bS],I)
def Tv:Row:=([.str [50,48,32,115,104,105,112,32,117,49,32,51,35,53,49,49,54,56,51,51],D5],.ay [zS,bS],I)
def Tw:Row:=([Q6,jwm],.ay [uA,bS],I)
def Tx:Row:=([Q6,uA],.ay [.list I 1 [zI,vN],bS],I)
def Ty:Row:=([.str [49,32,108,111,116,32,99,111,110,101,95,49,32,99,111,110,101,32,49,32,49,48,35,51,57,56,57,49,56,50,10,50,32,108,111,116,32,99,111,105,108,95,49,32,99,111,105,108,32,49,32,53,35,48,49,55,50,54,57,55,10,51,32,112,114,111,100,117,99,116,32,98,111,120,32,49,35,54,49,49,52,48,56,52,10,52,32,110,101,101,100,32,98,111,120,32,99,111,110,101,32,49,32,50,35,49,55,56,55,50,51,49,10,53,32,110,101,101,100,32,98,111,120,32,99,111,105,108,32,49,32,49,35,50,52,55,55,51,52,50,10,54,32,116,101,115,116,32,98,111,120,32,115,119,101,101,112,32,49,32,56,48,32,57,48,35,50,48,50,49,51,55,56,10,55,32,105,115,115,117,101,32,98,111,120,32,50,35,57,55,57,50,54,57,53,10,56,32,98,117,105,108,100,32,117,49,32,98,111,120,32,51,35,48,55,51,51,57,54,55,10,57,32,117,115,101,32,117,49,32,99,111,110,101,95,49,32,51,32,50,35,57,54,50,56,50,52,50,10,49,48,32,117,115,101,32,117,49,32,99,111,105,108,95,49,32,51,32,49,35,51,51,55,48,50,52,48,10,49,49,32,109,101,97,115,117,114,101,32,117,49,32,115,119,101,101,112,32,51,32,56,53,35,56,50,52,48,49,52,56,10,49,50,32,104,111,108,100,32,99,111,105,108,95,49,32,51,35,53,50,48,49,49,53,55,10,49,51,32,117,110,100,111,35,54,55,52,56,55,48,57,10,49,52,32,105,115,115,117,101,32,98,111,120,32,51,35,48,56,53,50,57,54,53,10,49,53,32,117,112,100,97,116,101,32,117,49,32,51,35,50,52,56,53,48,49,51,10,49,54,32,117,110,100,111,35,56,51,50,54,51,57,51,10,49,55,32,117,110,100,111,35,50,49,56,53,54,57,53,10,49,56,32,109,101,97,115,117,114,101,32,117,49,32,115,119,101,101,112,32,51,32,57,49,35,50,51,54,49,51,49,55,10,49,57,32,117,110,100,111,35,57,57,48,52,48,55,55,10,50,48,32,115,104,105,112,32,117,49,32,51,35,53,49,49,54,56,51,51,10,49]],.ay [Q6,.int .i64 500,.int .i64 29],I)
def r1:dM:=([.ptr 0 0,.str [108,111,116,32,99,111,110,101,95,49,32,99,111,110,101,32,49,32,49,48]],hw1,.ay [.str [100,111,110,101,32,49],bS],I,hw2)
def r2:dM:=([.ptr 0 0,.str [108,111,116,32,99,111,105,108,95,49,32,99,111,105,108,32,49,32,53]],hw2,.ay [.str [100,111,110,101,32,50],bS],I,hw3)
def r3:dM:=([.ptr 0 0,.str [112,114,111,100,117,99,116,32,98,111,120,32,49]],hw4,.ay [.str [100,111,110,101,32,51],bS],I,hw5)
def r4:dM:=([.ptr 0 0,.str [110,101,101,100,32,98,111,120,32,99,111,110,101,32,49,32,50]],hw6,.ay [.str [100,111,110,101,32,52],bS],I,hw7)
def r5:dM:=([.ptr 0 0,.str [110,101,101,100,32,98,111,120,32,99,111,105,108,32,49,32,49]],hw8,.ay [.str [100,111,110,101,32,53],bS],I,hw9)
def r6:dM:=([.ptr 0 0,.str [116,101,115,116,32,98,111,120,32,115,119,101,101,112,32,49,32,56,48,32,57,48]],zi6,.ay [.str [100,111,110,101,32,54],bS],I,zet)
def r7:dM:=([.ptr 0 0,.str [105,115,115,117,101,32,98,111,120,32,50]],zf9,.ay [.str [100,111,110,101,32,55],bS],I,zhg)
def r8:dM:=([.ptr 0 0,.str [98,117,105,108,100,32,117,49,32,98,111,120,32,51]],zeo,.ay [.str [100,111,110,101,32,56],bS],I,zdk)
def r9:dM:=([.ptr 0 0,.str [117,115,101,32,117,49,32,99,111,110,101,95,49,32,51,32,50]],zht,.ay [.str [100,111,110,101,32,57],bS],I,jru)
def D8:dM:=(zU,jwq,.ay [.str [],MV],I,jru)
def MX:dM:=([.ptr 0 0,.str [117,115,101,32,117,49,32,99,111,105,108,95,49,32,51,32,49]],jwq,.ay [.str [100,111,110,101,32,49,48],bS],I,jt7)
def MY:dM:=(zU,Q9,Q7,I,jt7)
def MZ:dM:=(jqc,Q9,.ay [zM,bS],I,zfg)
def M0:dM:=([.ptr 0 0,.str [109,101,97,115,117,114,101,32,117,49,32,115,119,101,101,112,32,51,32,56,53]],Q9,.ay [.str [100,111,110,101,32,49,49],bS],I,zj1)
def M1:dM:=(jqc,jqh,jlm,I,zjt)
def M2:dM:=([.ptr 0 0,.str [104,111,108,100,32,99,111,105,108,95,49,32,51]],jqh,.ay [.str [100,111,110,101,32,49,50],bS],I,jsu)
def M3:dM:=(zU,Ra,.ay [.str [],jk7],I,jsu)
def M4:dM:=(jqt,Ra,.ay [.str [48],bS],I,zh8)
def M5:dM:=(F0,Ra,.ay [.str [100,111,110,101,32,49,51],bS],I,zjv)
def M6:dM:=([.ptr 0 0,.str [105,115,115,117,101,32,98,111,120,32,51]],zc1,.ay [.str [100,111,110,101,32,49,52],bS],I,jsb)
def M7:dM:=(zU,ju6,.ay [.str [],jlq],I,jsb)
def M8:dM:=([.ptr 0 0,.str [117,112,100,97,116,101,32,117,49,32,51]],ju6,.ay [.str [100,111,110,101,32,49,53],bS],I,jrp)
def M9:dM:=(zU,jta,Q7,I,jrp)
def Na:dM:=(F0,jta,.ay [.str [100,111,110,101,32,49,54],bS],I,zgo)
def Nb:dM:=(F0,zcf,.ay [.str [100,111,110,101,32,49,55],bS],I,zcp)
def Nc:dM:=([.ptr 0 0,.str [109,101,97,115,117,114,101,32,117,49,32,115,119,101,101,112,32,51,32,57,49]],zgz,.ay [.str [100,111,110,101,32,49,56],bS],I,jri)
def Nd:dM:=(zU,jq0,Q7,I,jri)
def Nf:dM:=(F0,jq0,.ay [.str [100,111,110,101,32,49,57],bS],I,zd6)
def Ng:dM:=([.ptr 0 0,.str [108,111,116,115,32,117,49]],F1,.ay [.str [99,111,110,101,95,49,32,99,111,105,108,95,49],bS],I,MW)
def Nh:dM:=([.ptr 0 0,.str [115,116,111,99,107,32,99,111,110,101]],F1,.ay [.str [56],bS],I,MW)
def Ni:dM:=(jqt,F1,.ay [.str [52],bS],I,MW)
def Nj:dM:=(jtg,F1,jlm,I,MW)
def Nk:dM:=(zU,F1,.ay [.str [100,111,110,101,32,50,48],bS],I,Rb)
def Nn:dM:=(F0,Rc,.ay [.str [],D5],I,Rb)
def Np:dM:=([.ptr 0 0,.str [117,115,101,32,117,49,32,99,111,110,101,95,49,32,51,32,49]],Rc,.ay [.str [],D6],I,Rb)
def Nq:dM:=(jtg,Rc,.ay [ph,bS],I,zin)
set_option maxRecDepth 100000
theorem w21:jy br xL 121 Rq.1=Eh Rq.2:=by kernel_rfl
theorem w25:jy br xL 152 Ru.1=Eh Ru.2:=by kernel_rfl
theorem w26:jy br xL 11 Rv.1=Eh Rv.2:=by kernel_rfl
theorem w37:jy br xL 152 RG.1=Eh RG.2:=by kernel_rfl
theorem w48:jy br xL 152 RQ.1=Eh RQ.2:=by kernel_rfl
theorem w51:jy br xL 152 RT.1=Eh RT.2:=by kernel_rfl
theorem w56:jy br xL 121 RY.1=Eh RY.2:=by kernel_rfl
theorem w74:jy br xL 121 Sh.1=Eh Sh.2:=by kernel_rfl
theorem w82:jy br xL 157 Sp.1=Eh Sp.2:=by kernel_rfl
theorem w90:jy br xL 157 SA.1=Eh SA.2:=by kernel_rfl
theorem w93:jy br xL 158 SE.1=Eh SE.2:=by kernel_rfl
theorem zhi:jy br xL 158 SZ.1=Eh SZ.2:=by kernel_rfl
theorem zio:jy br xL 158 S3.1=Eh S3.2:=by kernel_rfl
theorem zfs:jy br xL 157 S4.1=Eh S4.2:=by kernel_rfl
theorem zcm:jy br xL 157 S6.1=Eh S6.2:=by kernel_rfl
theorem zee:jy br xL 103 S9.1=Eh S9.2:=by kernel_rfl
theorem zey:jy br xL 103 Ti.1=Eh Ti.2:=by kernel_rfl
theorem zeg:jy br xL 103 Tp.1=Eh Tp.2:=by kernel_rfl
theorem w4:jy br xL 152 e4.1=Eh e4.2:=by kernel_rfl
theorem w11:jy br xL 11 Rg.1=Eh Rg.2:=by kernel_rfl
theorem w18:jy br xL 121 Rn.1=Eh Rn.2:=by kernel_rfl
theorem w19:jy br xL 152 Ro.1=Eh Ro.2:=by kernel_rfl
theorem w29:jy br xL 11 Ry.1=Eh Ry.2:=by kernel_rfl
theorem w38:jy br xL 11 D7.1=Eh D7.2:=by kernel_rfl
theorem w45:jy br xL 121 RN.1=Eh RN.2:=by kernel_rfl
theorem w46:jy br xL 152 RO.1=Eh RO.2:=by kernel_rfl
theorem w53:jy br xL 121 RV.1=Eh RV.2:=by kernel_rfl
theorem w57:jy br xL 152 RZ.1=Eh RZ.2:=by kernel_rfl
theorem w61:jy br xL 11 R3.1=Eh R3.2:=by kernel_rfl
theorem w64:jy br xL 152 R6.1=Eh R6.2:=by kernel_rfl
theorem w91:jy br xL 158 SC.1=Eh SC.2:=by kernel_rfl
theorem w96:jy br xL 157 SH.1=Eh SH.2:=by kernel_rfl
theorem zba:jy br xL 158 S1.1=Eh S1.2:=by kernel_rfl
theorem ze1:jy br xL 103 Tb.1=Eh Tb.2:=by kernel_rfl
theorem ziu:jy br xL 103 Tk.1=Eh Tk.2:=by kernel_rfl
theorem zg5:jy br xL 103 Tq.1=Eh Tq.2:=by kernel_rfl
theorem w14:jy br xL 11 Rj.1=Eh Rj.2:=by kernel_rfl
theorem w15:jy br xL 121 Rk.1=Eh Rk.2:=by kernel_rfl
theorem w16:jy br xL 152 Rl.1=Eh Rl.2:=by kernel_rfl
theorem w35:jy br xL 11 RE.1=Eh RE.2:=by kernel_rfl
theorem Tz:jy br xL 121 uC.1=Eh uC.2:=by kernel_rfl
theorem w49:jy br xL 11 RR.1=Eh RR.2:=by kernel_rfl
theorem w54:jy br xL 152 RW.1=Eh RW.2:=by kernel_rfl
theorem w59:jy br xL 121 R1.1=Eh R1.2:=by kernel_rfl
theorem w60:jy br xL 152 R2.1=Eh R2.2:=by kernel_rfl
theorem w63:jy br xL 11 R5.1=Eh R5.2:=by kernel_rfl
theorem w65:jy br xL 11 R7.1=Eh R7.2:=by kernel_rfl
theorem w67:jy br xL 152 R9.1=Eh R9.2:=by kernel_rfl
theorem za7:jy br xL 158 S5.1=Eh S5.2:=by kernel_rfl
theorem zi7:jy br xL 103 S8.1=Eh S8.2:=by kernel_rfl
theorem zhf:jy br xL 103 Tc.1=Eh Tc.2:=by kernel_rfl
theorem zj8:jy br xL 103 Te.1=Eh Te.2:=by kernel_rfl
theorem zbe:jy br xL 103 Tf.1=Eh Tf.2:=by kernel_rfl
theorem zbf:jy br xL 103 Tt.1=Eh Tt.2:=by kernel_rfl
theorem w7:jy br xL 152 e7.1=Eh e7.2:=by kernel_rfl
theorem w8:jy br xL 11 e8.1=Eh e8.2:=by kernel_rfl
theorem w10:jy br xL 152 Rf.1=Eh Rf.2:=by kernel_rfl
theorem w12:jy br xL 121 Rh.1=Eh Rh.2:=by kernel_rfl
theorem w36:jy br xL 121 RF.1=Eh RF.2:=by kernel_rfl
theorem w44:jy br xL 11 RM.1=Eh RM.2:=by kernel_rfl
theorem w62:jy br xL 152 R4.1=Eh R4.2:=by kernel_rfl
theorem w69:jy br xL 121 Sc.1=Eh Sc.2:=by kernel_rfl
theorem w71:jy br xL 11 Se.1=Eh Se.2:=by kernel_rfl
theorem w72:jy br xL 152 Sf.1=Eh Sf.2:=by kernel_rfl
theorem w83:jy br xL 158 Sr.1=Eh Sr.2:=by kernel_rfl
theorem w86:jy br xL 157 Sw.1=Eh Sw.2:=by kernel_rfl
theorem w95:jy br xL 158 SG.1=Eh SG.2:=by kernel_rfl
theorem zgk:jy br xL 157 SL.1=Eh SL.2:=by kernel_rfl
theorem zd3:jy br xL 157 SU.1=Eh SU.2:=by kernel_rfl
theorem zdx:jy br xL 103 Ta.1=Eh Ta.2:=by kernel_rfl
theorem za3:jy br xL 103 Tj.1=Eh Tj.2:=by kernel_rfl
theorem w9:jy br xL 121 e9.1=Eh e9.2:=by kernel_rfl
theorem w13:jy br xL 152 Ri.1=Eh Ri.2:=by kernel_rfl
theorem w20:jy br xL 11 Rp.1=Eh Rp.2:=by kernel_rfl
theorem w22:jy br xL 152 Rr.1=Eh Rr.2:=by kernel_rfl
theorem w33:jy br xL 121 RC.1=Eh RC.2:=by kernel_rfl
theorem w40:jy br xL 152 RH.1=Eh RH.2:=by kernel_rfl
theorem w41:jy br xL 11 RI.1=Eh RI.2:=by kernel_rfl
theorem w52:jy br xL 11 RU.1=Eh RU.2:=by kernel_rfl
theorem w66:jy br xL 121 R8.1=Eh R8.2:=by kernel_rfl
theorem w70:jy br xL 152 Sd.1=Eh Sd.2:=by kernel_rfl
theorem w76:jy br xL 11 Sj.1=Eh Sj.2:=by kernel_rfl
theorem w87:jy br xL 158 Sx.1=Eh Sx.2:=by kernel_rfl
theorem w88:jy br xL 157 Sy.1=Eh Sy.2:=by kernel_rfl
theorem w99:jy br xL 158 SK.1=Eh SK.2:=by kernel_rfl
theorem zfo:jy br xL 158 SQ.1=Eh SQ.2:=by kernel_rfl
theorem zj5:jy br xL 157 S2.1=Eh S2.2:=by kernel_rfl
theorem zgh:jy br xL 103 Ts.1=Eh Ts.2:=by kernel_rfl
theorem w2:jy br xL 11 e2.1=Eh e2.2:=by kernel_rfl
theorem w6:jy br xL 121 e6.1=Eh e6.2:=by kernel_rfl
theorem w28:jy br xL 152 Rx.1=Eh Rx.2:=by kernel_rfl
theorem w30:jy br xL 121 Rz.1=Eh Rz.2:=by kernel_rfl
theorem w32:jy br xL 11 RB.1=Eh RB.2:=by kernel_rfl
theorem w55:jy br xL 11 RX.1=Eh RX.2:=by kernel_rfl
theorem w58:jy br xL 11 R0.1=Eh R0.2:=by kernel_rfl
theorem w75:jy br xL 152 Si.1=Eh Si.2:=by kernel_rfl
theorem w79:jy br xL 121 Sm.1=Eh Sm.2:=by kernel_rfl
theorem w84:jy br xL 157 Ss.1=Eh Ss.2:=by kernel_rfl
theorem w85:jy br xL 158 Sv.1=Eh Sv.2:=by kernel_rfl
theorem w89:jy br xL 158 Sz.1=Eh Sz.2:=by kernel_rfl
theorem zc5:jy br xL 157 SR.1=Eh SR.2:=by kernel_rfl
theorem zj0:jy br xL 103 Td.1=Eh Td.2:=by kernel_rfl
theorem zh5:jy br xL 103 Tg.1=Eh Tg.2:=by kernel_rfl
theorem zgg:jy br xL 103 Tm.1=Eh Tm.2:=by kernel_rfl
theorem zei:jy br xL 103 Tv.1=Eh Tv.2:=by kernel_rfl
theorem w3:jy br xL 121 e3.1=Eh e3.2:=by kernel_rfl
theorem w23:jy br xL 11 Rs.1=Eh Rs.2:=by kernel_rfl
theorem w27:jy br xL 121 Rw.1=Eh Rw.2:=by kernel_rfl
theorem w31:jy br xL 152 RA.1=Eh RA.2:=by kernel_rfl
theorem w34:jy br xL 152 RD.1=Eh RD.2:=by kernel_rfl
theorem w42:jy br xL 121 RJ.1=Eh RJ.2:=by kernel_rfl
theorem w68:jy br xL 11 Sb.1=Eh Sb.2:=by kernel_rfl
theorem w78:jy br xL 11 Sl.1=Eh Sl.2:=by kernel_rfl
theorem w80:jy br xL 157 Sn.1=Eh Sn.2:=by kernel_rfl
theorem w81:jy br xL 158 So.1=Eh So.2:=by kernel_rfl
theorem w92:jy br xL 157 SD.1=Eh SD.2:=by kernel_rfl
theorem w97:jy br xL 158 SI.1=Eh SI.2:=by kernel_rfl
theorem zdm:jy br xL 157 SP.1=Eh SP.2:=by kernel_rfl
theorem zdh:jy br xL 158 SV.1=Eh SV.2:=by kernel_rfl
theorem zdv:jy br xL 157 SY.1=Eh SY.2:=by kernel_rfl
theorem zi4:jy br xL 158 S7.1=Eh S7.2:=by kernel_rfl
theorem zc6:jy br xL 103 Tn.1=Eh Tn.2:=by kernel_rfl
theorem w1:jy br xL 152 e1.1=Eh e1.2:=by kernel_rfl
theorem w5:jy br xL 11 e5.1=Eh e5.2:=by kernel_rfl
theorem w17:jy br xL 11 Rm.1=Eh Rm.2:=by kernel_rfl
theorem w24:jy br xL 121 Rt.1=Eh Rt.2:=by kernel_rfl
theorem w43:jy br xL 152 RL.1=Eh RL.2:=by kernel_rfl
theorem w47:jy br xL 11 RP.1=Eh RP.2:=by kernel_rfl
theorem w50:jy br xL 121 RS.1=Eh RS.2:=by kernel_rfl
theorem w73:jy br xL 11 Sg.1=Eh Sg.2:=by kernel_rfl
theorem w77:jy br xL 152 Sk.1=Eh Sk.2:=by kernel_rfl
theorem w94:jy br xL 157 SF.1=Eh SF.2:=by kernel_rfl
theorem w98:jy br xL 157 SJ.1=Eh SJ.2:=by kernel_rfl
theorem zju:jy br xL 158 SN.1=Eh SN.2:=by kernel_rfl
theorem zg7:jy br xL 158 SS.1=Eh SS.2:=by kernel_rfl
theorem zds:jy br xL 157 SW.1=Eh SW.2:=by kernel_rfl
theorem zgt:jy br xL 158 SX.1=Eh SX.2:=by kernel_rfl
theorem ze0:jy br xL 157 S0.1=Eh S0.2:=by kernel_rfl
theorem zb8:jy br xL 103 Tl.1=Eh Tl.2:=by kernel_rfl
end Go.Z
namespace Go.Z
open Go Go.Abs Go.Proofs
def TA:List (Nat×List Row):=[(11,[e2,e5,e8,Rg,Rj,Rm,Rp,Rs,Rv,Ry,RB,RE,D7,RI,RM,RP,RR,RU,RX,R0,R3,R5,R7,Sb,Se,Sg,Sj,Sl]),(103,[S8,S9,Ta,Tb,Tc,Td,Te,Tf,Tg,Ti,Tj,Tk,Tl,Tm,Tn,Tp,Tq,Ts,Tt,Tv]),(121,[e3,e6,e9,Rh,Rk,Rn,Rq,Rt,Rw,Rz,RC,RF,uC,RJ,RN,RS,RV,RY,R1,R8,Sc,Sh,Sm]),(152,[e1,e4,e7,Rf,Ri,Rl,Ro,Rr,Ru,Rx,RA,RD,RG,RH,RL,RO,RQ,RT,RW,RZ,R2,R4,R6,R9,Sd,Sf,Si,Sk]),(157,[Sn,Sp,Ss,Sw,Sy,SA,SD,SF,SH,SJ,SL,SP,SR,SU,SW,SY,S0,S2,S4,S6]),(158,[So,Sr,Sv,Sx,Sz,SC,SE,SG,SI,SK,SN,SQ,SS,SV,SX,SZ,S1,S3,S5,S7])]
def tab:Nat→Option (List Row):=xl TA
theorem j3b:Nr Tryz.prog tab:=
 TB (t:=TA) ⟨⟨j9 bw w2,j9 bw w5,j9 bw w8,j9 bw w11,j9 bw w14,j9 bw w17,j9 bw w20,j9 bw w23,j9 bw w26,j9 bw w29,j9 bw w32,j9 bw w35,j9 bw w38,j9 bw w41,j9 bw w44,j9 bw w47,j9 bw w49,j9 bw w52,j9 bw w55,j9 bw w58,j9 bw w61,j9 bw w63,j9 bw w65,j9 bw w68,j9 bw w71,j9 bw w73,j9 bw w76,j9 bw w78,trivial⟩,⟨j9 bw zi7,j9 bw zee,j9 bw zdx,j9 bw ze1,j9 bw zhf,j9 bw zj0,j9 bw zj8,j9 bw zbe,j9 bw zh5,j9 bw zey,j9 bw za3,j9 bw ziu,j9 bw zb8,j9 bw zgg,j9 bw zc6,j9 bw zeg,j9 bw zg5,j9 bw zgh,j9 bw zbf,j9 bw zei,trivial⟩,⟨j9 bw w3,j9 bw w6,j9 bw w9,j9 bw w12,j9 bw w15,j9 bw w18,j9 bw w21,j9 bw w24,j9 bw w27,j9 bw w30,j9 bw w33,j9 bw w36,j9 bw Tz,j9 bw w42,j9 bw w45,j9 bw w50,j9 bw w53,j9 bw w56,j9 bw w59,j9 bw w66,j9 bw w69,j9 bw w74,j9 bw w79,trivial⟩,⟨j9 bw w1,j9 bw w4,j9 bw w7,j9 bw w10,j9 bw w13,j9 bw w16,j9 bw w19,j9 bw w22,j9 bw w25,j9 bw w28,j9 bw w31,j9 bw w34,j9 bw w37,j9 bw w40,j9 bw w43,j9 bw w46,j9 bw w48,j9 bw w51,j9 bw w54,j9 bw w57,j9 bw w60,j9 bw w62,j9 bw w64,j9 bw w67,j9 bw w70,j9 bw w72,j9 bw w75,j9 bw w77,trivial⟩,⟨j9 bw w80,j9 bw w82,j9 bw w84,j9 bw w86,j9 bw w88,j9 bw w90,j9 bw w92,j9 bw w94,j9 bw w96,j9 bw w98,j9 bw zgk,j9 bw zdm,j9 bw zc5,j9 bw zd3,j9 bw zds,j9 bw zdv,j9 bw ze0,j9 bw zj5,j9 bw zfs,j9 bw zcm,trivial⟩,⟨j9 bw w81,j9 bw w83,j9 bw w85,j9 bw w87,j9 bw w89,j9 bw w91,j9 bw w93,j9 bw w95,j9 bw w97,j9 bw w99,j9 bw zju,j9 bw zfo,j9 bw zg7,j9 bw zdh,j9 bw zgt,j9 bw zhi,j9 bw zba,j9 bw zio,j9 bw za7,j9 bw zi4,trivial⟩,trivial⟩
def dy:qr:={ bB:=br.bB,cn:=fun k=>match tab k with
 |some l=>Eh fun args=>zV args l
 |none=>TC k,dk:=br.dk,maps:=br.maps }
theorem dC:qw Tryz.prog dy where
 fn:=bw.fn
 gF:=by
  intro k f hf
  simp only[dy]at hf
  split at hf
  ·rename_i l hl
   cases hf
   exact⟨uD (TD TA (by kernel_rfl) k l hl),fun args v o hv _ _=>j3b k l hl _ (Ns hv)⟩
  ·exact bw.gF k f hf
 mixed:=bw.mixed
 fD:=bw.fD
 maps:=bw.maps
abbrev xA:=hZ dy 1000
end Go.Z
