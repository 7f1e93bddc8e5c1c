/- The values, states and rows of the examples' run. -/
import Derived.Test.YtfopaakmgogpiaaGreatDoorLA
set_option linter.unusedVariables false
set_option linter.unusedSimpArgs false
open Bool renaming false→I
open Option renaming some→Eh
namespace Go.Z
open Go Go.Abs Go.Proofs
abbrev xL:=ib bq 1000
def fc:qa:=.list true 0 []
def dy:qm:=.cells [(fc,I),(fc,I),(.au 2 0 1,I)]
def bS:qa:=.int .i64 0
def wP:qa:=.agg [bS,fc,fc,fc]
def gw:qa:=.int .i64 1
def yN:qa:=.str [99,111,110,101,95,49]
def CP:qa:=.str [99,111,110,101]
def vp:qa:=.int .i64 10
def tZ:qa:=.bool I
def xv9:qa:=.agg [yN,CP,vp,vp,tZ]
def OQ:qa:=.agg [gw,.list I 5 [xv9],fc,fc]
def lv1:List qa:=[wP,OQ]
def Lc:qa:=.str [108,111,116]
def lv2:List qa:=[yN,CP]
def yO:qa:=.agg [gw,Lc,.list I 1 lv2,.list I 1 [gw,vp],.str []]
def bv2:qm:=.vec 5 0 [yO]
def bv3:qm:=.cells [(.au 7 1 2,I),(.au 5 1 2,I),(.au 2 2 3,I)]
def vq:qa:=.str [99,111,105,108,95,49]
def CQ:qa:=.str [99,111,105,108]
def yP:qa:=.int .i64 5
def jog:qa:=.agg [vq,CQ,yP,yP,tZ]
def yQ:qa:=.list I 5 [xv9,jog]
def OS:qa:=.agg [gw,yQ,fc,fc]
def lv3:List qa:=lv1++[OS]
def bv4:qm:=.vec 4 2 lv3
def ua:qa:=.int .i64 2
def lv4:List qa:=[vq,CQ]
def CR:qa:=.agg [ua,Lc,.list I 1 lv4,.list I 1 [gw,yP],.str []]
def lv5:List qa:=[yO,CR]
def Ld:qm:=.vec 5 1 lv5
def bv6:qm:=.cells [(.au 7 2 3,I),(.au 5 2 3,I),(.au 2 3 4,I)]
def lP:qa:=.str [98,111,120]
def OT:qa:=.agg [gw,yQ,.list I 4 [.agg [lP,fc,fc,fc]],fc]
def lv6:List qa:=lv3++[OT]
def bv7:qm:=.vec 4 3 lv6
def oK:qa:=.int .i64 3
def jru:qa:=.str [112,114,111,100,117,99,116]
def OU:qa:=.list I 1 [lP]
def CS:qa:=.agg [oK,jru,OU,.list I 1 [gw],.str []]
def lv7:List qa:=lv5++[CS]
def Le:qm:=.vec 5 2 lv7
def bv9:qm:=.cells [(.au 7 3 4,I),(.au 5 3 4,I),(.au 2 4 5,I)]
def jr3:qa:=.agg [CP,ua]
def OV:qa:=.agg [gw,yQ,.list I 4 [.agg [lP,.list I 2 [jr3],fc,fc]],fc]
def lv8:List qa:=lv6++[OV]
def jt7:qm:=.vec 4 4 lv8
def Lf:qa:=.int .i64 4
def Lg:qa:=.str [110,101,101,100]
def CT:qa:=.agg [Lf,Lg,.list I 1 [lP,CP],.list I 1 [gw,ua],.str []]
def lv9:List qa:=lv7++[CT]
def Lh:qm:=.vec 5 3 lv9
def jot:qm:=.cells [(.au 7 4 5,I),(.au 5 4 5,I),(.au 2 5 6,I)]
def OW:qa:=.list I 2 [jr3,.agg [CQ,gw]]
def OX:qa:=.agg [gw,yQ,.list I 4 [.agg [lP,OW,fc,fc]],fc]
def jr8:List qa:=lv8++[OX]
def jqn:qm:=.vec 4 5 jr8
def CU:qa:=.agg [yP,Lg,.list I 1 [lP,CQ],.list I 1 [gw,gw],.str []]
def jq6:List qa:=lv9++[CU]
def Li:qm:=.vec 5 4 jq6
def jtk:qm:=.cells [(.au 7 5 6,I),(.au 5 5 6,I),(.au 2 6 7,I)]
def zam:List qa:=[lP,OW]
def yR:qa:=.str [115,119,101,101,112]
def jox:qa:=.int .i64 80
def jqu:qa:=.int .i64 90
def jrj:qa:=.list I 3 [.agg [yR,jox,jqu]]
def OY:List qa:=zam++[jrj]
def OZ:qa:=.agg [gw,yQ,.list I 4 [.agg ((OY++[fc]))],fc]
def jp5:List qa:=jr8++[OZ]
def jqh:qm:=.vec 4 6 jp5
def O0:qa:=.int .i64 6
def jq5:qa:=.str [116,101,115,116]
def CV:qa:=.agg [O0,jq5,.list I 1 [lP,yR],.list I 1 [gw,jox,jqu],.str []]
def jor:List qa:=jq6++[CV]
def Lj:qm:=.vec 5 5 jor
def jtz:qm:=.cells [(.au 7 6 7,I),(.au 5 6 7,I),(.au 2 7 8,I)]
def O1:qa:=.agg [OW,jrj]
def ED:qa:=.list I 4 [.agg ((OY++[.list I 2 [O1]]))]
def O2:qa:=.agg [ua,yQ,ED,fc]
def jp3:List qa:=jp5++[O2]
def js9:qm:=.vec 4 7 jp3
def O3:qa:=.int .i64 7
def O4:qa:=.str [105,115,115,117,101]
def CW:qa:=.agg [O3,O4,OU,.list I 1 [ua],.str []]
def joz:List qa:=jor++[CW]
def Lk:qm:=.vec 5 6 joz
def jol:qm:=.cells [(.au 7 7 8,I),(.au 5 7 8,I),(.au 2 8 9,I)]
def oL:qa:=.str [117,49]
def O5:qa:=.agg [oK,yQ,ED,.list I 8 [.agg [oL,lP,gw,fc,fc,.str [],tZ,bS]]]
def jry:List qa:=jp3++[O5]
def jn5:qm:=.vec 4 8 jry
def Ll:qa:=.int .i64 8
def jrl:qa:=.str [98,117,105,108,100]
def yS:List qa:=[oL,lP]
def pC:qa:=.list I 1 [oK]
def CX:qa:=.agg [Ll,jrl,.list I 1 yS,pC,.str []]
def jno:List qa:=joz++[CX]
def Lm:qm:=.vec 5 7 jno
def jnl:qm:=.cells [(.au 7 8 9,I),(.au 5 8 9,I),(.au 2 9 10,I)]
def O6:qa:=.agg ((lv2++[vp,Ll,tZ]))
def jtd:qa:=.agg [yN,ua]
def Ln:qa:=.agg [oK,.list I 5 [O6,jog],ED,.list I 8 [.agg ((yS++[gw,.list I 2 [jtd],fc,.str [],tZ,bS]))]]
def jnu:List qa:=jry++[Ln]
def jsy:qm:=.vec 4 9 jnu
def O7:qa:=.int .i64 9
def Lp:qa:=.str [117,115,101]
def jsi:qa:=.list I 1 [oL,yN]
def CY:qa:=.agg [O7,Lp,jsi,.list I 1 [oK,ua],.str []]
def jsh:List qa:=jno++[CY]
def Lq:qm:=.vec 5 8 jsh
def O8:qm:=.cells [(.au 7 9 10,I),(.au 5 9 10,I),(.au 2 10 11,I)]
def j90:List qa:=lv4++[yP]
def jsx:List qa:=j90++[Lf]
def jns:List qa:=[oK,.list I 5 [O6,.agg ((jsx++[tZ]))]]
def Lr:List qa:=jns++[ED]
def EE:qa:=.list I 2 [jtd,.agg [vq,gw]]
def Ls:qa:=.agg ((Lr++[.list I 8 [.agg ((yS++[gw,EE,fc,.str [],tZ,bS]))]]))
def jsa:List qa:=jnu++[Ls]
def O9:qm:=.vec 4 10 jsa
def jpf:qa:=.list I 1 [oK,gw]
def CZ:qa:=.agg [vp,Lp,.list I 1 [oL,vq],jpf,.str []]
def jn3:List qa:=jsh++[CZ]
def C4:qm:=.vec 5 9 jn3
def Pa:qm:=.cells [(.au 7 10 11,I),(.au 5 10 11,I),(.au 2 11 12,I)]
def jrv:List qa:=[yR,gw]
def jt5:qa:=.int .i64 85
def jrw:qa:=.agg ((jrv++[jt5]))
def Pb:qa:=.list I 3 [jrw]
def Pc:qa:=.list I 8 [.agg ((yS++[gw,EE,Pb,.str [],tZ,bS]))]
def C5:qa:=.agg ((Lr++[Pc]))
def EF:List qa:=jsa++[C5]
def Pd:qm:=.vec 4 11 EF
def EG:qa:=.int .i64 11
def Pe:qa:=.str [109,101,97,115,117,114,101]
def jrq:qa:=.list I 1 [oL,yR]
def C6:qa:=.agg [EG,Pe,jrq,.list I 1 [oK,jt5],.str []]
def EH:List qa:=jn3++[C6]
def C7:qm:=.vec 5 10 EH
def Pg:qm:=.cells [(.au 7 11 12,I),(.au 5 11 12,I),(.au 2 12 13,I)]
def fm:qa:=.bool true
def Ph:qa:=.agg [oK,.list I 5 [O6,.agg ((jsx++[fm]))],ED,Pc]
def EI:qm:=.vec 4 12 ((EF++[Ph]))
def Pj:qa:=.int .i64 12
def jsp:qa:=.str [104,111,108,100]
def jq0:qa:=.list I 1 [vq]
def C8:qa:=.agg [Pj,jsp,jq0,pC,.str []]
def jr7:List qa:=EH++[C8]
def wQ:qm:=.vec 5 11 jr7
def jr5:qm:=.cells [(.au 7 12 13,I),(.au 5 11 11,I),(.au 2 12 12,I)]
def EJ:qa:=.int .i64 13
def yT:qa:=.str [117,110,100,111]
def EK:qa:=.list I 1 []
def EL:qa:=.agg [EJ,yT,EK,fc,.str []]
def jqa:List qa:=jr7++[EL]
def jty:qm:=.vec 5 12 jqa
def jqq:qm:=.cells [(.au 7 13 14,I),(.au 5 12 12,I),(.au 2 13 13,I)]
def jr2:List qa:=jns++[.list I 4 [.agg ((OY++[.list I 2 [O1,O1]]))]]
def Lt:qa:=.agg ((jr2++[Pc]))
def jsu:List qa:=EF++[Lt]
def jst:qm:=.vec 4 13 jsu
def Pl:qa:=.int .i64 14
def yU:qa:=.agg [Pl,O4,OU,pC,.str []]
def joo:List qa:=EH++[yU]
def jpk:qm:=.vec 5 12 joo
def jtf:List qa:=jqa++[yU]
def jq2:qm:=.vec 5 13 jtf
def job:qm:=.cells [(.au 7 14 15,I),(.au 5 13 13,I),(.au 2 14 14,I)]
def Pm:qa:=.agg ((jr2++[.list I 8 [.agg ((yS++[ua,EE,Pb,.str [],tZ,bS]))]]))
def C9:qm:=.vec 4 14 ((jsu++[Pm]))
def EM:qa:=.int .i64 15
def jn4:qa:=.str [117,112,100,97,116,101]
def ub:qa:=.list I 1 [oL]
def yV:qa:=.agg [EM,jn4,ub,pC,.str []]
def Da:qm:=.vec 5 13 ((joo++[yV]))
def jnv:List qa:=jtf++[yV]
def jqw:qm:=.vec 5 14 jnv
def jop:qm:=.cells [(.au 7 15 16,I),(.au 5 13 12,I),(.au 2 14 13,I)]
def EN:qa:=.int .i64 16
def EO:qa:=.agg [EN,yT,EK,fc,.str []]
def js0:List qa:=jnv++[EO]
def jpx:qm:=.vec 5 15 js0
def jq9:qm:=.cells [(.au 7 16 17,I),(.au 5 13 11,I),(.au 2 14 12,I)]
def Pn:qa:=.int .i64 17
def EP:qa:=.agg [Pn,yT,EK,fc,.str []]
def joe:List qa:=js0++[EP]
def jnr:qm:=.vec 5 16 joe
def jqz:qm:=.cells [(.au 7 17 18,I),(.au 5 14 12,I),(.au 2 15 13,I)]
def jre:qa:=.int .i64 91
def Po:qa:=.agg ((Lr++[.list I 8 [.agg ((yS++[gw,EE,.list I 3 [jrw,.agg ((jrv++[jre]))],.str [],tZ,bS]))]]))
def EQ:qm:=.vec 4 15 ((EF++[Po]))
def Pp:qa:=.int .i64 18
def yW:qa:=.agg [Pp,Pe,jrq,.list I 1 [oK,jre],.str []]
def ER:qm:=.vec 5 14 ((EH++[yW]))
def jr9:List qa:=joe++[yW]
def jq1:qm:=.vec 5 17 jr9
def Pq:qm:=.cells [(.au 7 18 19,I),(.au 5 14 11,I),(.au 2 15 12,I)]
def Db:qa:=.int .i64 19
def ES:qa:=.agg [Db,yT,EK,fc,.str []]
def jrk:List qa:=jr9++[ES]
def Pr:qm:=.vec 5 18 jrk
def Ps:qm:=.cells [(.au 7 19 20,I),(.au 5 15 12,I),(.au 2 16 13,I)]
def Pt:qa:=.agg ((Lr++[.list I 8 [.agg ((yS++[gw,EE,Pb,.str [],fm,bS]))]]))
def Pu:qm:=.vec 4 16 ((EF++[Pt]))
def Lu:qa:=.int .i64 20
def wR:qa:=.str [115,104,105,112]
def yX:qa:=.agg [Lu,wR,ub,pC,.str []]
def Pv:qm:=.vec 5 15 ((EH++[yX]))
def jss:List qa:=jrk++[yX]
def Px:qm:=.vec 5 19 jss
def jpa:List qa:=[O4,lP]
def jqs:List qa:=[Lp,oL]
def zce:List qa:=jqs++[yN]
def jrg:List qa:=zce++[.str [51]]
def yY:qa:=.list I 1 [wR,oL,.str [51]]
def Py:qa:=.agg [vp,wR,ub,pC,.str []]
def Pz:qa:=.agg [EG,wR,ub,pC,.str []]
def jjg:qa:=.int .i64 31
def PA:qa:=.az [wP,jjg]
def zab:List qa:=[Pe,oL]
def zdt:List qa:=zab++[yR]
def jpw:List qa:=zdt++[.str [51]]
def PB:qa:=.agg [EJ,wR,ub,pC,.str []]
def jjd:qa:=.int .i64 34
def ET:qa:=.list I 1 [yT]
def PD:qa:=.agg [EM,wR,ub,pC,.str []]
def jjs:qa:=.int .i64 32
def PE:qa:=.agg [EN,wR,ub,pC,.str []]
def PF:qa:=.agg [Db,wR,ub,pC,.str []]
def Dc:qa:=.int .i64 21
def jjv:qa:=.agg [Dc,yT,EK,fc,.str []]
def PG:qa:=.agg [Dc,Lp,jsi,jpf,.str []]
def jjj:qa:=.str [49,32,108,111,116,32,99,111,110,101,95,49,32,99,111,110,101,32,49,32,49,48]
def jj2:qa:=.str [50,32,108,111,116,32,99,111,105,108,95,49,32,99,111,105,108,32,49,32,53]
def jjf:qa:=.str [51,32,112,114,111,100,117,99,116,32,98,111,120,32,49]
def jjh:qa:=.str [52,32,110,101,101,100,32,98,111,120,32,99,111,110,101,32,49,32,50]
def jjl:qa:=.str [53,32,110,101,101,100,32,98,111,120,32,99,111,105,108,32,49,32,49]
def jjr:qa:=.str [54,32,116,101,115,116,32,98,111,120,32,115,119,101,101,112,32,49,32,56,48,32,57,48]
def ji7:qa:=.str [55,32,105,115,115,117,101,32,98,111,120,32,50]
def jji:qa:=.str [56,32,98,117,105,108,100,32,117,49,32,98,111,120,32,51]
def jj4:qa:=.str [57,32,117,115,101,32,117,49,32,99,111,110,101,95,49,32,51,32,50]
def jj5:qa:=.str [49,48,32,117,115,101,32,117,49,32,99,111,105,108,95,49,32,51,32,49]
def jj1:qa:=.str [49,49,32,109,101,97,115,117,114,101,32,117,49,32,115,119,101,101,112,32,51,32,56,53]
def jjx:qa:=.str [49,50,32,104,111,108,100,32,99,111,105,108,95,49,32,51]
def jjn:qa:=.str [49,51,32,117,110,100,111]
def jjt:qa:=.str [49,52,32,105,115,115,117,101,32,98,111,120,32,51]
def jjm:qa:=.str [49,53,32,117,112,100,97,116,101,32,117,49,32,51]
def jja:qa:=.str [49,54,32,117,110,100,111]
def jjp:qa:=.str [49,55,32,117,110,100,111]
def jjb:qa:=.str [49,56,32,109,101,97,115,117,114,101,32,117,49,32,115,119,101,101,112,32,51,32,57,49]
def jj7:qa:=.str [49,57,32,117,110,100,111]
def ji9:qa:=.str [50,48,32,115,104,105,112,32,117,49,32,51]
def PH:qa:=.list I 5 jss
def yZ:List qa:=[.ptr 0 0,.str [115,104,105,112,32,117,49,32,51]]
def PI:qa:=.az [.str [],jjg]
def jsq:List qa:=[.ptr 0 0,.str [109,105,115,115,105,110,103,32,117,49]]
def jj0:qa:=.az [.str [110,111,110,101],bS]
def js6:List qa:=[.ptr 0 0,.str [115,116,111,99,107,32,99,111,105,108]]
def EU:List qa:=[.ptr 0 0,yT]
def jra:List qa:=[.ptr 0 0,.str [115,104,105,112,112,101,100]]
def hw1:j8:=[dy,dy,.vec 4 0 [wP]]
def hw2:j8:=[.cells [(.au 7 0 1,I),(.au 5 0 1,I),(.au 2 1 2,I)],dy,.vec 4 1 lv1,.map yc,.map ya,bv2,.hole,bv2]
def hw3:j8:=[bv3,dy,bv4,.map yc,.map ya,Ld,.hole,Ld,.map yc,.map ya]
def hw4:j8:=[bv3,dy,bv4,.map yc,.map ya,Ld,.hole,Ld]
def hw5:j8:=[bv6,dy,bv7,.map yc,.map ya,Le,.hole,Le,.map yc,.map ya]
def hw6:j8:=[bv6,dy,bv7,.map yc,.map ya,Le,.hole,Le]
def hw7:j8:=[bv9,dy,jt7,.map yc,.map ya,Lh,.hole,Lh,.map yc,.map ya]
def hw8:j8:=[bv9,dy,jt7,.map yc,.map ya,Lh,.hole,Lh]
def hw9:j8:=[jot,dy,jqn,.map yc,.map ya,Li,.hole,Li,.map yc,.map ya]
def zhc:j8:=[jot,dy,jqn,.map yc,.map ya,Li,.hole,Li]
def zf1:j8:=[jtk,dy,jqh,.map yc,.map ya,Lj,.hole,Lj,.map yc,.map ya]
def j8q:j8:=[jtk,dy,jqh,.map yc,.map ya,Lj,.hole,Lj]
def zac:j8:=[jtz,dy,js9,.map yc,.map ya,Lk,.hole,Lk,.map yc,.map ya]
def zdp:j8:=[jtz,dy,js9,.map yc,.map ya,Lk,.hole,Lk]
def zcn:j8:=[jol,dy,jn5,.map yc,.map ya,Lm,.hole,Lm,.map yc,.map ya]
def zaf:j8:=[jol,dy,jn5,.map yc,.map ya,Lm,.hole,Lm]
def jsz:j8:=[jnl,dy,jsy,.map yc,.map ya,Lq,.hole,Lq,.map yc,.map ya]
def jri:j8:=[jnl,dy,jsy,.map yc,.map ya,Lq,.hole,Lq]
def jtu:j8:=[O8,dy,O9,.map yc,.map ya,C4,.hole,C4,.map yc,.map ya]
def PJ:j8:=[O8,dy,O9,.map yc,.map ya,C4,.hole,C4]
def j8u:j8:=[O8,dy,O9,.map yc,.map ya,C4,.hole,C4,.map yc]
def j97:j8:=[Pa,dy,Pd,.map yc,.map ya,C7,.hole,C7,.map yc,.map ya]
def jqb:j8:=[Pa,dy,Pd,.map yc,.map ya,C7,.hole,C7]
def ze7:j8:=[Pa,dy,Pd,.map yc,.map ya,C7,.hole,C7,.map yc]
def jqf:j8:=[Pg,dy,EI,.map yc,.map ya,wQ,.hole,wQ,.map yc,.map ya]
def PK:j8:=[Pg,dy,EI,.map yc,.map ya,wQ,.hole,wQ]
def j9r:j8:=[Pg,dy,EI,.map yc,.map ya,wQ,.hole,wQ,.map yc]
def zdx:j8:=[jr5,dy,EI,.map yc,.map ya,wQ,.hole,jty,.map yc,.map ya]
def j94:j8:=[jr5,dy,EI,.map yc,.map ya,wQ,.hole,jty]
def jro:j8:=[jqq,dy,jst,.map yc,.map ya,jpk,.hole,jq2,.map yc,.map ya]
def jov:j8:=[jqq,dy,jst,.map yc,.map ya,jpk,.hole,jq2]
def jod:j8:=[job,dy,C9,.map yc,.map ya,Da,.hole,jqw,.map yc,.map ya]
def jrh:j8:=[job,dy,C9,.map yc,.map ya,Da,.hole,jqw]
def zdz:j8:=[jop,dy,C9,.map yc,.map ya,Da,.hole,jpx,.map yc,.map ya]
def zez:j8:=[jop,dy,C9,.map yc,.map ya,Da,.hole,jpx]
def zem:j8:=[jq9,dy,C9,.map yc,.map ya,Da,.hole,jnr,.map yc,.map ya]
def j8y:j8:=[jq9,dy,C9,.map yc,.map ya,Da,.hole,jnr]
def jqx:j8:=[jqz,dy,EQ,.map yc,.map ya,ER,.hole,jq1,.map yc,.map ya]
def jr4:j8:=[jqz,dy,EQ,.map yc,.map ya,ER,.hole,jq1]
def zds:j8:=[Pq,dy,EQ,.map yc,.map ya,ER,.hole,Pr,.map yc,.map ya]
def EV:j8:=[Pq,dy,EQ,.map yc,.map ya,ER,.hole,Pr]
def Lw:j8:=[Pq,dy,EQ,.map yc,.map ya,ER,.hole,Pr,.map yc]
def PL:j8:=[Ps,dy,Pu,.map yc,.map ya,Pv,.hole,Px,.map yc,.map ya]
def PN:j8:=[Ps,dy,Pu,.map yc,.map ya,Pv,.hole,Px]
def zdj:j8:=[Ps,dy,Pu,.map yc,.map ya,Pv,.hole,Px,.map yc]
def e1:Row:=([.list I 1 [Lc,yN,CP,.str [49],.str [49,48]],gw],.az [yO,fm],I)
def e2:Row:=([yO],bS,I)
def e3:Row:=([wP,yO],.az [OQ,bS],I)
def e4:Row:=([.list I 1 [Lc,vq,CQ,.str [49],.str [53]],ua],.az [CR,fm],I)
def e5:Row:=([CR],bS,I)
def e6:Row:=([OQ,CR],.az [OS,bS],I)
def e7:Row:=([.list I 1 [jru,lP,.str [49]],oK],.az [CS,fm],I)
def e8:Row:=([CS],bS,I)
def e9:Row:=([OS,CS],.az [OT,bS],I)
def PO:Row:=([.list I 1 [Lg,lP,CP,.str [49],.str [50]],Lf],.az [CT,fm],I)
def PP:Row:=([CT],bS,I)
def PQ:Row:=([OT,CT],.az [OV,bS],I)
def PR:Row:=([.list I 1 [Lg,lP,CQ,.str [49],.str [49]],yP],.az [CU,fm],I)
def PS:Row:=([CU],bS,I)
def PT:Row:=([OV,CU],.az [OX,bS],I)
def PU:Row:=([.list I 1 [jq5,lP,yR,.str [49],.str [56,48],.str [57,48]],O0],.az [CV,fm],I)
def PV:Row:=([CV],bS,I)
def PW:Row:=([OX,CV],.az [OZ,bS],I)
def vr:Row:=([.list I 1 ((jpa++[.str [50]])),O3],.az [CW,fm],I)
def uc:Row:=([CW],bS,I)
def vt:Row:=([OZ,CW],.az [O2,bS],I)
def vu:Row:=([.list I 1 [jrl,oL,lP,.str [51]],Ll],.az [CX,fm],I)
def vw:Row:=([CX],bS,I)
def PX:Row:=([O2,CX],.az [O5,bS],I)
def PY:Row:=([.list I 1 ((jrg++[.str [50]])),O7],.az [CY,fm],I)
def PZ:Row:=([CY],bS,I)
def wS:Row:=([O5,CY],.az [Ln,bS],I)
def Dd:Row:=([yY,vp],.az [Py,fm],I)
def P0:Row:=([Py],bS,I)
def P1:Row:=([Ln,Py],.az [wP,Lu],I)
def P2:Row:=([.list I 1 ((jqs++[vq,.str [51],.str [49]])),vp],.az [CZ,fm],I)
def zc:Row:=([CZ],bS,I)
def vz:Row:=([Ln,CZ],.az [Ls,bS],I)
def P3:Row:=([yY,EG],.az [Pz,fm],I)
def P4:Row:=([Pz],bS,I)
def P5:Row:=([Ls,Pz],PA,I)
def P6:Row:=([.list I 1 ((jpw++[.str [56,53]])),EG],.az [C6,fm],I)
def P7:Row:=([C6],bS,I)
def P8:Row:=([Ls,C6],.az [C5,bS],I)
def P9:Row:=([.list I 1 [jsp,vq,.str [51]],Pj],.az [C8,fm],I)
def Qa:Row:=([C8],bS,I)
def Qb:Row:=([C5,C8],.az [Ph,bS],I)
def Qc:Row:=([yY,EJ],.az [PB,fm],I)
def Qd:Row:=([PB],bS,I)
def Qe:Row:=([Ph,PB],.az [wP,jjd],I)
def Qf:Row:=([ET,EJ],.az [EL,fm],I)
def Qg:Row:=([EL],bS,I)
def Qh:Row:=([.list I 1 ((jpa++[.str [51]])),Pl],.az [yU,fm],I)
def Qi:Row:=([yU],bS,I)
def Qj:Row:=([C5,yU],.az [Lt,bS],I)
def Qk:Row:=([yY,EM],.az [PD,fm],I)
def Ql:Row:=([PD],bS,I)
def Qm:Row:=([Lt,PD],.az [wP,jjs],I)
def Qn:Row:=([.list I 1 [jn4,oL,.str [51]],EM],.az [yV,fm],I)
def Qo:Row:=([yV],bS,I)
def Qp:Row:=([Lt,yV],.az [Pm,bS],I)
def Qq:Row:=([yY,EN],.az [PE,fm],I)
def Qr:Row:=([PE],bS,I)
def Qs:Row:=([Pm,PE],PA,I)
def Qt:Row:=([ET,EN],.az [EO,fm],I)
def Qu:Row:=([EO],bS,I)
def Qv:Row:=([ET,Pn],.az [EP,fm],I)
def Qw:Row:=([EP],bS,I)
def Qx:Row:=([.list I 1 ((jpw++[.str [57,49]])),Pp],.az [yW,fm],I)
def Qy:Row:=([yW],bS,I)
def Qz:Row:=([C5,yW],.az [Po,bS],I)
def QA:Row:=([yY,Db],.az [PF,fm],I)
def QB:Row:=([PF],bS,I)
def QC:Row:=([Po,PF],PA,I)
def mb:Row:=([ET,Db],.az [ES,fm],I)
def QD:Row:=([ES],bS,I)
def QE:Row:=([yY,Lu],.az [yX,fm],I)
def EW:Row:=([yX],bS,I)
def QF:Row:=([C5,yX],.az [Pt,bS],I)
def QG:Row:=([ET,Dc],.az [jjv,fm],I)
def QH:Row:=([jjv],bS,I)
def QI:Row:=([.list I 1 ((jrg++[.str [49]])),Dc],.az [PG,fm],I)
def QJ:Row:=([PG],bS,I)
def QK:Row:=([Pt,PG],.az [wP,Dc],I)
def QL:Row:=([yO],jjj,I)
def QM:Row:=([jjj],.str [51,57,56,57,49,56,50],I)
def QN:Row:=([CR],jj2,I)
def QO:Row:=([jj2],.str [48,49,55,50,54,57,55],I)
def QP:Row:=([CS],jjf,I)
def QQ:Row:=([jjf],.str [54,49,49,52,48,56,52],I)
def QR:Row:=([CT],jjh,I)
def QS:Row:=([jjh],.str [49,55,56,55,50,51,49],I)
def QT:Row:=([CU],jjl,I)
def QU:Row:=([jjl],.str [50,52,55,55,51,52,50],I)
def QV:Row:=([CV],jjr,I)
def QW:Row:=([jjr],.str [50,48,50,49,51,55,56],I)
def QX:Row:=([CW],ji7,I)
def wT:Row:=([ji7],.str [57,55,57,50,54,57,53],I)
def QY:Row:=([CX],jji,I)
def QZ:Row:=([jji],.str [48,55,51,51,57,54,55],I)
def Q0:Row:=([CY],jj4,I)
def Q5:Row:=([jj4],.str [57,54,50,56,50,52,50],I)
def Q6:Row:=([CZ],jj5,I)
def Q7:Row:=([jj5],.str [51,51,55,48,50,52,48],I)
def Q9:Row:=([C6],jj1,I)
def Ra:Row:=([jj1],.str [56,50,52,48,49,52,56],I)
def Rb:Row:=([C8],jjx,I)
def Rc:Row:=([jjx],.str [53,50,48,49,49,53,55],I)
def Rf:Row:=([EL],jjn,I)
def Rg:Row:=([jjn],.str [54,55,52,56,55,48,57],I)
def Rh:Row:=([yU],jjt,I)
def Ri:Row:=([jjt],.str [48,56,53,50,57,54,53],I)
def Rj:Row:=([yV],jjm,I)
def Rk:Row:=([jjm],.str [50,52,56,53,48,49,51],I)
def Rl:Row:=([EO],jja,I)
def Rm:Row:=([jja],.str [56,51,50,54,51,57,51],I)
def Rn:Row:=([EP],jjp,I)
def Ro:Row:=([jjp],.str [50,49,56,53,54,57,53],I)
def Rp:Row:=([yW],jjb,I)
def Rq:Row:=([jjb],.str [50,51,54,49,51,49,55],I)
def Rr:Row:=([ES],jj7,I)
def Rs:Row:=([jj7],.str [57,57,48,52,48,55,55],I)
def Rt:Row:=([yX],ji9,I)
def Ru:Row:=([ji9],.str [53,49,49,54,56,51,51],I)
def Rv:Row:=([.str [49,32,108,111,116,32,99,111,110,101,95,49,32,99,111,110,101,32,49,32,49,48,35,51,57,56,57,49,56,50],bS],.az [yO,bS],I)
def Rw:Row:=([.str [50,32,108,111,116,32,99,111,105,108,95,49,32,99,111,105,108,32,49,32,53,35,48,49,55,50,54,57,55],gw],.az [CR,bS],I)
def Rx:Row:=([.str [51,32,112,114,111,100,117,99,116,32,98,111,120,32,49,35,54,49,49,52,48,56,52],ua],.az [CS,bS],I)
def Ry:Row:=([.str [52,32,110,101,101,100,32,98,111,120,32,99,111,110,101,32,49,32,50,35,49,55,56,55,50,51,49],oK],.az [CT,bS],I)
def Rz:Row:=([.str [53,32,110,101,101,100,32,98,111,120,32,99,111,105,108,32,49,32,49,35,50,52,55,55,51,52,50],Lf],.az [CU,bS],I)
def RA:Row:=([.str [54,32,116,101,115,116,32,98,111,120,32,115,119,101,101,112,32,49,32,56,48,32,57,48,35,50,48,50,49,51,55,56],yP],.az [CV,bS],I)
def RB:Row:=([.str [55,32,105,115,115,117,101,32,98,111,120,32,50,35,57,55,57,50,54,57,53],O0],.az [CW,bS],I)
def RC:Row:=([.str [56,32,98,117,105,108,100,32,117,49,32,98,111,120,32,51,35,48,55,51,51,57,54,55],O3],.az [CX,bS],I)
def RD:Row:=([.str [57,32,117,115,101,32,117,49,32,99,111,110,101,95,49,32,51,32,50,35,57,54,50,56,50,52,50],Ll],.az [CY,bS],I)
def RE:Row:=([.str [49,48,32,117,115,101,32,117,49,32,99,111,105,108,95,49,32,51,32,49,35,51,51,55,48,50,52,48],O7],.az [CZ,bS],I)
def RF:Row:=([.str [49,49,32,109,101,97,115,117,114,101,32,117,49,32,115,119,101,101,112,32,51,32,56,53,35,56,50,52,48,49,52,56],vp],.az [C6,bS],I)
def RG:Row:=([.str [49,50,32,104,111,108,100,32,99,111,105,108,95,49,32,51,35,53,50,48,49,49,53,55],EG],.az [C8,bS],I)
def RH:Row:=([.str [49,51,32,117,110,100,111,35,54,55,52,56,55,48,57],Pj],.az [EL,bS],I)
def RI:Row:=([.str [49,52,32,105,115,115,117,101,32,98,111,120,32,51,35,48,56,53,50,57,54,53],EJ],.az [yU,bS],I)
def RJ:Row:=([.str [49,53,32,117,112,100,97,116,101,32,117,49,32,51,35,50,52,56,53,48,49,51],Pl],.az [yV,bS],I)
def RL:Row:=([.str [49,54,32,117,110,100,111,35,56,51,50,54,51,57,51],EM],.az [EO,bS],I)
def RM:Row:=([.str [49,55,32,117,110,100,111,35,50,49,56,53,54,57,53],EN],.az [EP,bS],I)
def RN:Row:=([.str [49,56,32,109,101,97,115,117,114,101,32,117,49,32,115,119,101,101,112,32,51,32,57,49,35,50,51,54,49,51,49,55],Pn],.az [yW,bS],I)
def RO:Row:=([.str [49,57,32,117,110,100,111,35,57,57,48,52,48,55,55],Pp],.az [ES,bS],I)
def RP:Row:=([.str [50,48,32,115,104,105,112,32,117,49,32,51,35,53,49,49,54,56,51,51],Db],.az [yX,bS],I)
def RQ:Row:=([PH,jq0],.az [ub,bS],I)
def RR:Row:=([PH,ub],.az [.list I 1 [yN,vq],bS],I)
def RS:Row:=([.str [49,32,108,111,116,32,99,111,110,101,95,49,32,99,111,110,101,32,49,32,49,48,35,51,57,56,57,49,56,50,10,50,32,108,111,116,32,99,111,105,108,95,49,32,99,111,105,108,32,49,32,53,35,48,49,55,50,54,57,55,10,51,32,112,114,111,100,117,99,116,32,98,111,120,32,49,35,54,49,49,52,48,56,52,10,52,32,110,101,101,100,32,98,111,120,32,99,111,110,101,32,49,32,50,35,49,55,56,55,50,51,49,10,53,32,110,101,101,100,32,98,111,120,32,99,111,105,108,32,49,32,49,35,50,52,55,55,51,52,50,10,54,32,116,101,115,116,32,98,111,120,32,115,119,101,101,112,32,49,32,56,48,32,57,48,35,50,48,50,49,51,55,56,10,55,32,105,115,115,117,101,32,98,111,120,32,50,35,57,55,57,50,54,57,53,10,56,32,98,117,105,108,100,32,117,49,32,98,111,120,32,51,35,48,55,51,51,57,54,55,10,57,32,117,115,101,32,117,49,32,99,111,110,101,95,49,32,51,32,50,35,57,54,50,56,50,52,50,10,49,48,32,117,115,101,32,117,49,32,99,111,105,108,95,49,32,51,32,49,35,51,51,55,48,50,52,48,10,49,49,32,109,101,97,115,117,114,101,32,117,49,32,115,119,101,101,112,32,51,32,56,53,35,56,50,52,48,49,52,56,10,49,50,32,104,111,108,100,32,99,111,105,108,95,49,32,51,35,53,50,48,49,49,53,55,10,49,51,32,117,110,100,111,35,54,55,52,56,55,48,57,10,49,52,32,105,115,115,117,101,32,98,111,120,32,51,35,48,56,53,50,57,54,53,10,49,53,32,117,112,100,97,116,101,32,117,49,32,51,35,50,52,56,53,48,49,51,10,49,54,32,117,110,100,111,35,56,51,50,54,51,57,51,10,49,55,32,117,110,100,111,35,50,49,56,53,54,57,53,10,49,56,32,109,101,97,115,117,114,101,32,117,49,32,115,119,101,101,112,32,51,32,57,49,35,50,51,54,49,51,49,55,10,49,57,32,117,110,100,111,35,57,57,48,52,48,55,55,10,50,48,32,115,104,105,112,32,117,49,32,51,35,53,49,49,54,56,51,51,10,49]],.az [PH,.int .i64 500,.int .i64 29],I)
def r1:dN:=([.ptr 0 0,.str [108,111,116,32,99,111,110,101,95,49,32,99,111,110,101,32,49,32,49,48]],hw1,.az [.str [100,111,110,101,32,49],bS],I,hw2)
def r2:dN:=([.ptr 0 0,.str [108,111,116,32,99,111,105,108,95,49,32,99,111,105,108,32,49,32,53]],hw2,.az [.str [100,111,110,101,32,50],bS],I,hw3)
def r3:dN:=([.ptr 0 0,.str [112,114,111,100,117,99,116,32,98,111,120,32,49]],hw4,.az [.str [100,111,110,101,32,51],bS],I,hw5)
def r4:dN:=([.ptr 0 0,.str [110,101,101,100,32,98,111,120,32,99,111,110,101,32,49,32,50]],hw6,.az [.str [100,111,110,101,32,52],bS],I,hw7)
def r5:dN:=([.ptr 0 0,.str [110,101,101,100,32,98,111,120,32,99,111,105,108,32,49,32,49]],hw8,.az [.str [100,111,110,101,32,53],bS],I,hw9)
def r6:dN:=([.ptr 0 0,.str [116,101,115,116,32,98,111,120,32,115,119,101,101,112,32,49,32,56,48,32,57,48]],zhc,.az [.str [100,111,110,101,32,54],bS],I,zf1)
def r7:dN:=([.ptr 0 0,.str [105,115,115,117,101,32,98,111,120,32,50]],j8q,.az [.str [100,111,110,101,32,55],bS],I,zac)
def r8:dN:=([.ptr 0 0,.str [98,117,105,108,100,32,117,49,32,98,111,120,32,51]],zdp,.az [.str [100,111,110,101,32,56],bS],I,zcn)
def r9:dN:=([.ptr 0 0,.str [117,115,101,32,117,49,32,99,111,110,101,95,49,32,51,32,50]],zaf,.az [.str [100,111,110,101,32,57],bS],I,jsz)
def De:dN:=(yZ,jri,.az [.str [],Lu],I,jsz)
def Lx:dN:=([.ptr 0 0,.str [117,115,101,32,117,49,32,99,111,105,108,95,49,32,51,32,49]],jri,.az [.str [100,111,110,101,32,49,48],bS],I,jtu)
def Ly:dN:=(yZ,PJ,PI,I,jtu)
def Lz:dN:=(jsq,PJ,.az [yR,bS],I,j8u)
def LA:dN:=([.ptr 0 0,.str [109,101,97,115,117,114,101,32,117,49,32,115,119,101,101,112,32,51,32,56,53]],PJ,.az [.str [100,111,110,101,32,49,49],bS],I,j97)
def LB:dN:=(jsq,jqb,jj0,I,ze7)
def LC:dN:=([.ptr 0 0,.str [104,111,108,100,32,99,111,105,108,95,49,32,51]],jqb,.az [.str [100,111,110,101,32,49,50],bS],I,jqf)
def LD:dN:=(yZ,PK,.az [.str [],jjd],I,jqf)
def LG:dN:=(js6,PK,.az [.str [48],bS],I,j9r)
def LH:dN:=(EU,PK,.az [.str [100,111,110,101,32,49,51],bS],I,zdx)
def LI:dN:=([.ptr 0 0,.str [105,115,115,117,101,32,98,111,120,32,51]],j94,.az [.str [100,111,110,101,32,49,52],bS],I,jro)
def LJ:dN:=(yZ,jov,.az [.str [],jjs],I,jro)
def LK:dN:=([.ptr 0 0,.str [117,112,100,97,116,101,32,117,49,32,51]],jov,.az [.str [100,111,110,101,32,49,53],bS],I,jod)
def LL:dN:=(yZ,jrh,PI,I,jod)
def LM:dN:=(EU,jrh,.az [.str [100,111,110,101,32,49,54],bS],I,zdz)
def LN:dN:=(EU,zez,.az [.str [100,111,110,101,32,49,55],bS],I,zem)
def LO:dN:=([.ptr 0 0,.str [109,101,97,115,117,114,101,32,117,49,32,115,119,101,101,112,32,51,32,57,49]],j8y,.az [.str [100,111,110,101,32,49,56],bS],I,jqx)
def LP:dN:=(yZ,jr4,PI,I,jqx)
def LQ:dN:=(EU,jr4,.az [.str [100,111,110,101,32,49,57],bS],I,zds)
def LR:dN:=([.ptr 0 0,.str [108,111,116,115,32,117,49]],EV,.az [.str [99,111,110,101,95,49,32,99,111,105,108,95,49],bS],I,Lw)
def LS:dN:=([.ptr 0 0,.str [115,116,111,99,107,32,99,111,110,101]],EV,.az [.str [56],bS],I,Lw)
def LU:dN:=(js6,EV,.az [.str [52],bS],I,Lw)
def LV:dN:=(jra,EV,jj0,I,Lw)
def LW:dN:=(yZ,EV,.az [.str [100,111,110,101,32,50,48],bS],I,PL)
def LX:dN:=(EU,PN,.az [.str [],Db],I,PL)
def LY:dN:=([.ptr 0 0,.str [117,115,101,32,117,49,32,99,111,110,101,95,49,32,51,32,49]],PN,.az [.str [],Dc],I,PL)
def LZ:dN:=(jra,PN,.az [oL,bS],I,zdj)
set_option maxRecDepth 100000
theorem w21:jz bq xL 121 vt.1=Eh vt.2:=by kernel_rfl
theorem w25:jz bq xL 152 PY.1=Eh PY.2:=by kernel_rfl
theorem w26:jz bq xL 11 PZ.1=Eh PZ.2:=by kernel_rfl
theorem w37:jz bq xL 152 P6.1=Eh P6.2:=by kernel_rfl
theorem w48:jz bq xL 152 Qh.1=Eh Qh.2:=by kernel_rfl
theorem w51:jz bq xL 152 Qk.1=Eh Qk.2:=by kernel_rfl
theorem w56:jz bq xL 121 Qp.1=Eh Qp.2:=by kernel_rfl
theorem w74:jz bq xL 121 QF.1=Eh QF.2:=by kernel_rfl
theorem w82:jz bq xL 157 QN.1=Eh QN.2:=by kernel_rfl
theorem w90:jz bq xL 157 QV.1=Eh QV.2:=by kernel_rfl
theorem w93:jz bq xL 158 wT.1=Eh wT.2:=by kernel_rfl
theorem za5:jz bq xL 158 Rm.1=Eh Rm.2:=by kernel_rfl
theorem zb0:jz bq xL 158 Rq.1=Eh Rq.2:=by kernel_rfl
theorem zdw:jz bq xL 157 Rr.1=Eh Rr.2:=by kernel_rfl
theorem zgs:jz bq xL 157 Rt.1=Eh Rt.2:=by kernel_rfl
theorem j9g:jz bq xL 103 Rw.1=Eh Rw.2:=by kernel_rfl
theorem j9z:jz bq xL 103 RE.1=Eh RE.2:=by kernel_rfl
theorem zec:jz bq xL 103 RL.1=Eh RL.2:=by kernel_rfl
theorem w4:jz bq xL 152 e4.1=Eh e4.2:=by kernel_rfl
theorem w11:jz bq xL 11 PP.1=Eh PP.2:=by kernel_rfl
theorem w18:jz bq xL 121 PW.1=Eh PW.2:=by kernel_rfl
theorem w19:jz bq xL 152 vr.1=Eh vr.2:=by kernel_rfl
theorem w29:jz bq xL 11 P0.1=Eh P0.2:=by kernel_rfl
theorem w38:jz bq xL 11 P7.1=Eh P7.2:=by kernel_rfl
theorem w45:jz bq xL 121 Qe.1=Eh Qe.2:=by kernel_rfl
theorem w46:jz bq xL 152 Qf.1=Eh Qf.2:=by kernel_rfl
theorem w53:jz bq xL 121 Qm.1=Eh Qm.2:=by kernel_rfl
theorem w57:jz bq xL 152 Qq.1=Eh Qq.2:=by kernel_rfl
theorem w61:jz bq xL 11 Qu.1=Eh Qu.2:=by kernel_rfl
theorem w64:jz bq xL 152 Qx.1=Eh Qx.2:=by kernel_rfl
theorem w91:jz bq xL 158 QW.1=Eh QW.2:=by kernel_rfl
theorem w96:jz bq xL 157 Q0.1=Eh Q0.2:=by kernel_rfl
theorem zel:jz bq xL 158 Ro.1=Eh Ro.2:=by kernel_rfl
theorem zgv:jz bq xL 103 Ry.1=Eh Ry.2:=by kernel_rfl
theorem zeh:jz bq xL 103 RG.1=Eh RG.2:=by kernel_rfl
theorem j84:jz bq xL 103 RM.1=Eh RM.2:=by kernel_rfl
theorem w14:jz bq xL 11 PS.1=Eh PS.2:=by kernel_rfl
theorem w15:jz bq xL 121 PT.1=Eh PT.2:=by kernel_rfl
theorem w16:jz bq xL 152 PU.1=Eh PU.2:=by kernel_rfl
theorem w35:jz bq xL 11 P4.1=Eh P4.2:=by kernel_rfl
theorem w39:jz bq xL 121 P8.1=Eh P8.2:=by kernel_rfl
theorem w49:jz bq xL 11 Qi.1=Eh Qi.2:=by kernel_rfl
theorem w54:jz bq xL 152 Qn.1=Eh Qn.2:=by kernel_rfl
theorem w59:jz bq xL 121 Qs.1=Eh Qs.2:=by kernel_rfl
theorem w60:jz bq xL 152 Qt.1=Eh Qt.2:=by kernel_rfl
theorem w63:jz bq xL 11 Qw.1=Eh Qw.2:=by kernel_rfl
theorem w65:jz bq xL 11 Qy.1=Eh Qy.2:=by kernel_rfl
theorem w67:jz bq xL 152 QA.1=Eh QA.2:=by kernel_rfl
theorem zau:jz bq xL 158 Rs.1=Eh Rs.2:=by kernel_rfl
theorem zge:jz bq xL 103 Rv.1=Eh Rv.2:=by kernel_rfl
theorem zdk:jz bq xL 103 Rz.1=Eh Rz.2:=by kernel_rfl
theorem zhj:jz bq xL 103 RB.1=Eh RB.2:=by kernel_rfl
theorem zei:jz bq xL 103 RC.1=Eh RC.2:=by kernel_rfl
theorem j93:jz bq xL 103 RO.1=Eh RO.2:=by kernel_rfl
theorem w7:jz bq xL 152 e7.1=Eh e7.2:=by kernel_rfl
theorem w8:jz bq xL 11 e8.1=Eh e8.2:=by kernel_rfl
theorem w10:jz bq xL 152 PO.1=Eh PO.2:=by kernel_rfl
theorem w12:jz bq xL 121 PQ.1=Eh PQ.2:=by kernel_rfl
theorem w36:jz bq xL 121 P5.1=Eh P5.2:=by kernel_rfl
theorem w44:jz bq xL 11 Qd.1=Eh Qd.2:=by kernel_rfl
theorem w62:jz bq xL 152 Qv.1=Eh Qv.2:=by kernel_rfl
theorem w69:jz bq xL 121 QC.1=Eh QC.2:=by kernel_rfl
theorem w71:jz bq xL 11 QD.1=Eh QD.2:=by kernel_rfl
theorem w72:jz bq xL 152 QE.1=Eh QE.2:=by kernel_rfl
theorem w83:jz bq xL 158 QO.1=Eh QO.2:=by kernel_rfl
theorem w86:jz bq xL 157 QR.1=Eh QR.2:=by kernel_rfl
theorem w95:jz bq xL 158 QZ.1=Eh QZ.2:=by kernel_rfl
theorem za4:jz bq xL 157 Q9.1=Eh Q9.2:=by kernel_rfl
theorem zfb:jz bq xL 157 Rh.1=Eh Rh.2:=by kernel_rfl
theorem zaz:jz bq xL 103 Rx.1=Eh Rx.2:=by kernel_rfl
theorem zct:jz bq xL 103 RF.1=Eh RF.2:=by kernel_rfl
theorem w9:jz bq xL 121 e9.1=Eh e9.2:=by kernel_rfl
theorem w13:jz bq xL 152 PR.1=Eh PR.2:=by kernel_rfl
theorem w20:jz bq xL 11 uc.1=Eh uc.2:=by kernel_rfl
theorem w22:jz bq xL 152 vu.1=Eh vu.2:=by kernel_rfl
theorem w33:jz bq xL 121 vz.1=Eh vz.2:=by kernel_rfl
theorem w40:jz bq xL 152 P9.1=Eh P9.2:=by kernel_rfl
theorem w41:jz bq xL 11 Qa.1=Eh Qa.2:=by kernel_rfl
theorem w52:jz bq xL 11 Ql.1=Eh Ql.2:=by kernel_rfl
theorem w66:jz bq xL 121 Qz.1=Eh Qz.2:=by kernel_rfl
theorem w70:jz bq xL 152 mb.1=Eh mb.2:=by kernel_rfl
theorem w76:jz bq xL 11 QH.1=Eh QH.2:=by kernel_rfl
theorem w87:jz bq xL 158 QS.1=Eh QS.2:=by kernel_rfl
theorem w88:jz bq xL 157 QT.1=Eh QT.2:=by kernel_rfl
theorem w99:jz bq xL 158 Q7.1=Eh Q7.2:=by kernel_rfl
theorem zhe:jz bq xL 158 Rc.1=Eh Rc.2:=by kernel_rfl
theorem zba:jz bq xL 157 Rp.1=Eh Rp.2:=by kernel_rfl
theorem zgl:jz bq xL 103 RN.1=Eh RN.2:=by kernel_rfl
theorem w2:jz bq xL 11 e2.1=Eh e2.2:=by kernel_rfl
theorem w6:jz bq xL 121 e6.1=Eh e6.2:=by kernel_rfl
theorem w28:jz bq xL 152 Dd.1=Eh Dd.2:=by kernel_rfl
theorem w30:jz bq xL 121 P1.1=Eh P1.2:=by kernel_rfl
theorem w32:jz bq xL 11 zc.1=Eh zc.2:=by kernel_rfl
theorem w55:jz bq xL 11 Qo.1=Eh Qo.2:=by kernel_rfl
theorem w58:jz bq xL 11 Qr.1=Eh Qr.2:=by kernel_rfl
theorem w75:jz bq xL 152 QG.1=Eh QG.2:=by kernel_rfl
theorem w79:jz bq xL 121 QK.1=Eh QK.2:=by kernel_rfl
theorem w84:jz bq xL 157 QP.1=Eh QP.2:=by kernel_rfl
theorem w85:jz bq xL 158 QQ.1=Eh QQ.2:=by kernel_rfl
theorem w89:jz bq xL 158 QU.1=Eh QU.2:=by kernel_rfl
theorem zbr:jz bq xL 157 Rf.1=Eh Rf.2:=by kernel_rfl
theorem j8o:jz bq xL 103 RA.1=Eh RA.2:=by kernel_rfl
theorem zew:jz bq xL 103 RD.1=Eh RD.2:=by kernel_rfl
theorem zaq:jz bq xL 103 RI.1=Eh RI.2:=by kernel_rfl
theorem ze1:jz bq xL 103 RP.1=Eh RP.2:=by kernel_rfl
theorem w3:jz bq xL 121 e3.1=Eh e3.2:=by kernel_rfl
theorem w23:jz bq xL 11 vw.1=Eh vw.2:=by kernel_rfl
theorem w27:jz bq xL 121 wS.1=Eh wS.2:=by kernel_rfl
theorem w31:jz bq xL 152 P2.1=Eh P2.2:=by kernel_rfl
theorem w34:jz bq xL 152 P3.1=Eh P3.2:=by kernel_rfl
theorem w42:jz bq xL 121 Qb.1=Eh Qb.2:=by kernel_rfl
theorem w68:jz bq xL 11 QB.1=Eh QB.2:=by kernel_rfl
theorem w78:jz bq xL 11 QJ.1=Eh QJ.2:=by kernel_rfl
theorem w80:jz bq xL 157 QL.1=Eh QL.2:=by kernel_rfl
theorem w81:jz bq xL 158 QM.1=Eh QM.2:=by kernel_rfl
theorem w92:jz bq xL 157 QX.1=Eh QX.2:=by kernel_rfl
theorem w97:jz bq xL 158 Q5.1=Eh Q5.2:=by kernel_rfl
theorem zbz:jz bq xL 157 Rb.1=Eh Rb.2:=by kernel_rfl
theorem zgi:jz bq xL 158 Ri.1=Eh Ri.2:=by kernel_rfl
theorem zd1:jz bq xL 157 Rl.1=Eh Rl.2:=by kernel_rfl
theorem zfk:jz bq xL 158 Ru.1=Eh Ru.2:=by kernel_rfl
theorem zgz:jz bq xL 103 RJ.1=Eh RJ.2:=by kernel_rfl
theorem w1:jz bq xL 152 e1.1=Eh e1.2:=by kernel_rfl
theorem w5:jz bq xL 11 e5.1=Eh e5.2:=by kernel_rfl
theorem w17:jz bq xL 11 PV.1=Eh PV.2:=by kernel_rfl
theorem w24:jz bq xL 121 PX.1=Eh PX.2:=by kernel_rfl
theorem w43:jz bq xL 152 Qc.1=Eh Qc.2:=by kernel_rfl
theorem w47:jz bq xL 11 Qg.1=Eh Qg.2:=by kernel_rfl
theorem w50:jz bq xL 121 Qj.1=Eh Qj.2:=by kernel_rfl
theorem w73:jz bq xL 11 EW.1=Eh EW.2:=by kernel_rfl
theorem w77:jz bq xL 152 QI.1=Eh QI.2:=by kernel_rfl
theorem w94:jz bq xL 157 QY.1=Eh QY.2:=by kernel_rfl
theorem w98:jz bq xL 157 Q6.1=Eh Q6.2:=by kernel_rfl
theorem zbo:jz bq xL 158 Ra.1=Eh Ra.2:=by kernel_rfl
theorem zfn:jz bq xL 158 Rg.1=Eh Rg.2:=by kernel_rfl
theorem zav:jz bq xL 157 Rj.1=Eh Rj.2:=by kernel_rfl
theorem zfo:jz bq xL 158 Rk.1=Eh Rk.2:=by kernel_rfl
theorem zcs:jz bq xL 157 Rn.1=Eh Rn.2:=by kernel_rfl
theorem zb8:jz bq xL 103 RH.1=Eh RH.2:=by kernel_rfl
end Go.Z
namespace Go.Z
open Go Go.Abs Go.Proofs
def RT:List (Nat×List Row):=[(11,[e2,e5,e8,PP,PS,PV,uc,vw,PZ,P0,zc,P4,P7,Qa,Qd,Qg,Qi,Ql,Qo,Qr,Qu,Qw,Qy,QB,QD,EW,QH,QJ]),(103,[Rv,Rw,Rx,Ry,Rz,RA,RB,RC,RD,RE,RF,RG,RH,RI,RJ,RL,RM,RN,RO,RP]),(121,[e3,e6,e9,PQ,PT,PW,vt,PX,wS,P1,vz,P5,P8,Qb,Qe,Qj,Qm,Qp,Qs,Qz,QC,QF,QK]),(152,[e1,e4,e7,PO,PR,PU,vr,vu,PY,Dd,P2,P3,P6,P9,Qc,Qf,Qh,Qk,Qn,Qq,Qt,Qv,Qx,QA,mb,QE,QG,QI]),(157,[QL,QN,QP,QR,QT,QV,QX,QY,Q0,Q6,Q9,Rb,Rf,Rh,Rj,Rl,Rn,Rp,Rr,Rt]),(158,[QM,QO,QQ,QS,QU,QW,wT,QZ,Q5,Q7,Ra,Rc,Rg,Ri,Rk,Rm,Ro,Rq,Rs,Ru])]
def tab:Nat→Option (List Row):=wU RT
theorem j0n:L0 Tryz.prog tab:=
 RU (t:=RT) ⟨⟨zb bw w2,zb bw w5,zb bw w8,zb bw w11,zb bw w14,zb bw w17,zb bw w20,zb bw w23,zb bw w26,zb bw w29,zb bw w32,zb bw w35,zb bw w38,zb bw w41,zb bw w44,zb bw w47,zb bw w49,zb bw w52,zb bw w55,zb bw w58,zb bw w61,zb bw w63,zb bw w65,zb bw w68,zb bw w71,zb bw w73,zb bw w76,zb bw w78,trivial⟩,⟨zb bw zge,zb bw j9g,zb bw zaz,zb bw zgv,zb bw zdk,zb bw j8o,zb bw zhj,zb bw zei,zb bw zew,zb bw j9z,zb bw zct,zb bw zeh,zb bw zb8,zb bw zaq,zb bw zgz,zb bw zec,zb bw j84,zb bw zgl,zb bw j93,zb bw ze1,trivial⟩,⟨zb bw w3,zb bw w6,zb bw w9,zb bw w12,zb bw w15,zb bw w18,zb bw w21,zb bw w24,zb bw w27,zb bw w30,zb bw w33,zb bw w36,zb bw w39,zb bw w42,zb bw w45,zb bw w50,zb bw w53,zb bw w56,zb bw w59,zb bw w66,zb bw w69,zb bw w74,zb bw w79,trivial⟩,⟨zb bw w1,zb bw w4,zb bw w7,zb bw w10,zb bw w13,zb bw w16,zb bw w19,zb bw w22,zb bw w25,zb bw w28,zb bw w31,zb bw w34,zb bw w37,zb bw w40,zb bw w43,zb bw w46,zb bw w48,zb bw w51,zb bw w54,zb bw w57,zb bw w60,zb bw w62,zb bw w64,zb bw w67,zb bw w70,zb bw w72,zb bw w75,zb bw w77,trivial⟩,⟨zb bw w80,zb bw w82,zb bw w84,zb bw w86,zb bw w88,zb bw w90,zb bw w92,zb bw w94,zb bw w96,zb bw w98,zb bw za4,zb bw zbz,zb bw zbr,zb bw zfb,zb bw zav,zb bw zd1,zb bw zcs,zb bw zba,zb bw zdw,zb bw zgs,trivial⟩,⟨zb bw w81,zb bw w83,zb bw w85,zb bw w87,zb bw w89,zb bw w91,zb bw w93,zb bw w95,zb bw w97,zb bw w99,zb bw zbo,zb bw zhe,zb bw zfn,zb bw zgi,zb bw zfo,zb bw za5,zb bw zel,zb bw zb0,zb bw zau,zb bw zfk,trivial⟩,trivial⟩
def dz:qr:={ bH:=bq.bH,cq:=fun k=>match tab k with
 |some l=>Eh fun args=>zj args l
 |none=>RV k,dj:=bq.dj,maps:=bq.maps }
theorem dG:qx Tryz.prog dz where
 fn:=bw.fn
 gJ:=by
  intro k f hf
  simp only[dz]at hf
  split at hf
  ·rename_i l hl
   cases hf
   exact⟨ud (RW RT (by kernel_rfl) k l hl),fun args v o hv _ _=>j0n k l hl _ (L2 hv)⟩
  ·exact bw.gJ k f hf
 mixed:=bw.mixed
 fC:=bw.fC
 maps:=bw.maps
abbrev xA:=ib dz 1000
end Go.Z
