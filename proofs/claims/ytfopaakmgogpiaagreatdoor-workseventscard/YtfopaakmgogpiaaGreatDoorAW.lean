/- The values, states and rows of the examples' run. -/
import Derived.Test.YtfopaakmgogpiaaGreatDoorLA
import Derived.Test.YtfopaakmgogpiaaGreatDoorAbsH
set_option linter.unusedVariables false
set_option linter.unusedSimpArgs false
open Bool renaming false→I
open Option renaming some→Ef
namespace Go.Z
open Go Go.Abs Go.Proofs
abbrev xL:=hZ bu 1000
def fa:qa:=.list true 0 []
def dz:qn:=.cells [(fa,I),(fa,I),(.ak 2 0 1,I)]
def bS:qa:=.int .i64 0
def wH:qa:=.agg [bS,fa,fa,fa]
def gu:qa:=.int .i64 1
def yH:qa:=.str [99,111,110,101,95,49]
def CN:qa:=.str [99,111,110,101]
def vf:qa:=.int .i64 10
def tR:qa:=.bool I
def xv9:qa:=.agg [yH,CN,vf,vf,tR]
def Ov:qa:=.agg [gu,.list I 5 [xv9],fa,fa]
def lv1:List qa:=[wH,Ov]
def K1:qa:=.str [108,111,116]
def lv2:List qa:=[yH,CN]
def yI:qa:=.agg [gu,K1,.list I 1 lv2,.list I 1 [gu,vf],.str []]
def bv2:qn:=.vec 5 0 [yI]
def bv3:qn:=.cells [(.ak 7 1 2,I),(.ak 5 1 2,I),(.ak 2 2 3,I)]
def vg:qa:=.str [99,111,105,108,95,49]
def CO:qa:=.str [99,111,105,108]
def yJ:qa:=.int .i64 5
def jp1:qa:=.agg [vg,CO,yJ,yJ,tR]
def yK:qa:=.list I 5 [xv9,jp1]
def Ow:qa:=.agg [gu,yK,fa,fa]
def lv3:List qa:=lv1++[Ow]
def bv4:qn:=.vec 4 2 lv3
def tS:qa:=.int .i64 2
def lv4:List qa:=[vg,CO]
def CP:qa:=.agg [tS,K1,.list I 1 lv4,.list I 1 [gu,yJ],.str []]
def lv5:List qa:=[yI,CP]
def K3:qn:=.vec 5 1 lv5
def bv6:qn:=.cells [(.ak 7 2 3,I),(.ak 5 2 3,I),(.ak 2 3 4,I)]
def lT:qa:=.str [98,111,120]
def Ox:qa:=.agg [gu,yK,.list I 4 [.agg [lT,fa,fa,fa]],fa]
def lv6:List qa:=lv3++[Ox]
def bv7:qn:=.vec 4 3 lv6
def oP:qa:=.int .i64 3
def ju5:qa:=.str [112,114,111,100,117,99,116]
def Oy:qa:=.list I 1 [lT]
def CQ:qa:=.agg [oP,ju5,Oy,.list I 1 [gu],.str []]
def lv7:List qa:=lv5++[CQ]
def K4:qn:=.vec 5 2 lv7
def bv9:qn:=.cells [(.ak 7 3 4,I),(.ak 5 3 4,I),(.ak 2 4 5,I)]
def jr3:qa:=.agg [CN,tS]
def Oz:qa:=.agg [gu,yK,.list I 4 [.agg [lT,.list I 2 [jr3],fa,fa]],fa]
def lv8:List qa:=lv6++[Oz]
def jqf:qn:=.vec 4 4 lv8
def K5:qa:=.int .i64 4
def K6:qa:=.str [110,101,101,100]
def CR:qa:=.agg [K5,K6,.list I 1 [lT,CN],.list I 1 [gu,tS],.str []]
def lv9:List qa:=lv7++[CR]
def K7:qn:=.vec 5 3 lv9
def jor:qn:=.cells [(.ak 7 4 5,I),(.ak 5 4 5,I),(.ak 2 5 6,I)]
def OA:qa:=.list I 2 [jr3,.agg [CO,gu]]
def OB:qa:=.agg [gu,yK,.list I 4 [.agg [lT,OA,fa,fa]],fa]
def jrg:List qa:=lv8++[OB]
def jty:qn:=.vec 4 5 jrg
def CS:qa:=.agg [yJ,K6,.list I 1 [lT,CO],.list I 1 [gu,gu],.str []]
def jp4:List qa:=lv9++[CS]
def K8:qn:=.vec 5 4 jp4
def jo8:qn:=.cells [(.ak 7 5 6,I),(.ak 5 5 6,I),(.ak 2 6 7,I)]
def zen:List qa:=[lT,OA]
def yL:qa:=.str [115,119,101,101,112]
def joo:qa:=.int .i64 80
def jpj:qa:=.int .i64 90
def jsy:qa:=.list I 3 [.agg [yL,joo,jpj]]
def OC:List qa:=zen++[jsy]
def OD:qa:=.agg [gu,yK,.list I 4 [.agg ((OC++[fa]))],fa]
def jox:List qa:=jrg++[OD]
def js2:qn:=.vec 4 6 jox
def OE:qa:=.int .i64 6
def jq5:qa:=.str [116,101,115,116]
def CT:qa:=.agg [OE,jq5,.list I 1 [lT,yL],.list I 1 [gu,joo,jpj],.str []]
def jui:List qa:=jp4++[CT]
def K9:qn:=.vec 5 5 jui
def jog:qn:=.cells [(.ak 7 6 7,I),(.ak 5 6 7,I),(.ak 2 7 8,I)]
def OG:qa:=.agg [OA,jsy]
def Eu:qa:=.list I 4 [.agg ((OC++[.list I 2 [OG]]))]
def OH:qa:=.agg [tS,yK,Eu,fa]
def jom:List qa:=jox++[OH]
def jq1:qn:=.vec 4 7 jom
def OI:qa:=.int .i64 7
def OJ:qa:=.str [105,115,115,117,101]
def CU:qa:=.agg [OI,OJ,Oy,.list I 1 [tS],.str []]
def jpg:List qa:=jui++[CU]
def La:qn:=.vec 5 6 jpg
def jn6:qn:=.cells [(.ak 7 7 8,I),(.ak 5 7 8,I),(.ak 2 8 9,I)]
def oQ:qa:=.str [117,49]
def OL:qa:=.agg [oP,yK,Eu,.list I 8 [.agg [oQ,lT,gu,fa,fa,.str [],tR,bS]]]
def jsd:List qa:=jom++[OL]
def jpe:qn:=.vec 4 8 jsd
def Lb:qa:=.int .i64 8
def jq6:qa:=.str [98,117,105,108,100]
def yM:List qa:=[oQ,lT]
def pC:qa:=.list I 1 [oP]
def CV:qa:=.agg [Lb,jq6,.list I 1 yM,pC,.str []]
def jqe:List qa:=jpg++[CV]
def Lc:qn:=.vec 5 7 jqe
def jtl:qn:=.cells [(.ak 7 8 9,I),(.ak 5 8 9,I),(.ak 2 9 10,I)]
def OM:qa:=.agg ((lv2++[vf,Lb,tR]))
def jpt:qa:=.agg [yH,tS]
def Ld:qa:=.agg [oP,.list I 5 [OM,jp1],Eu,.list I 8 [.agg ((yM++[gu,.list I 2 [jpt],fa,.str [],tR,bS]))]]
def joa:List qa:=jsd++[Ld]
def jtd:qn:=.vec 4 9 joa
def OO:qa:=.int .i64 9
def Le:qa:=.str [117,115,101]
def juw:qa:=.list I 1 [oQ,yH]
def CW:qa:=.agg [OO,Le,juw,.list I 1 [oP,tS],.str []]
def jst:List qa:=jqe++[CW]
def Lf:qn:=.vec 5 8 jst
def OP:qn:=.cells [(.ak 7 9 10,I),(.ak 5 9 10,I),(.ak 2 10 11,I)]
def zik:List qa:=lv4++[yJ]
def jrd:List qa:=zik++[K5]
def jn7:List qa:=[oP,.list I 5 [OM,.agg ((jrd++[tR]))]]
def Lg:List qa:=jn7++[Eu]
def Ev:qa:=.list I 2 [jpt,.agg [vg,gu]]
def Lh:qa:=.agg ((Lg++[.list I 8 [.agg ((yM++[gu,Ev,fa,.str [],tR,bS]))]]))
def jrj:List qa:=joa++[Lh]
def OQ:qn:=.vec 4 10 jrj
def ju6:qa:=.list I 1 [oP,gu]
def CX:qa:=.agg [vf,Le,.list I 1 [oQ,vg],ju6,.str []]
def jt2:List qa:=jst++[CX]
def CY:qn:=.vec 5 9 jt2
def OS:qn:=.cells [(.ak 7 10 11,I),(.ak 5 10 11,I),(.ak 2 11 12,I)]
def jqz:List qa:=[yL,gu]
def jqk:qa:=.int .i64 85
def jtq:qa:=.agg ((jqz++[jqk]))
def OT:qa:=.list I 3 [jtq]
def OU:qa:=.list I 8 [.agg ((yM++[gu,Ev,OT,.str [],tR,bS]))]
def CZ:qa:=.agg ((Lg++[OU]))
def Ew:List qa:=jrj++[CZ]
def OV:qn:=.vec 4 11 Ew
def Ey:qa:=.int .i64 11
def OW:qa:=.str [109,101,97,115,117,114,101]
def jsx:qa:=.list I 1 [oQ,yL]
def C4:qa:=.agg [Ey,OW,jsx,.list I 1 [oP,jqk],.str []]
def Ez:List qa:=jt2++[C4]
def C5:qn:=.vec 5 10 Ez
def OX:qn:=.cells [(.ak 7 11 12,I),(.ak 5 11 12,I),(.ak 2 12 13,I)]
def fm:qa:=.bool true
def OY:qa:=.agg [oP,.list I 5 [OM,.agg ((jrd++[fm]))],Eu,OU]
def EA:qn:=.vec 4 12 ((Ew++[OY]))
def OZ:qa:=.int .i64 12
def jo1:qa:=.str [104,111,108,100]
def joz:qa:=.list I 1 [vg]
def C6:qa:=.agg [OZ,jo1,joz,pC,.str []]
def jq4:List qa:=Ez++[C6]
def wI:qn:=.vec 5 11 jq4
def jsu:qn:=.cells [(.ak 7 12 13,I),(.ak 5 11 11,I),(.ak 2 12 12,I)]
def EB:qa:=.int .i64 13
def yN:qa:=.str [117,110,100,111]
def EC:qa:=.list I 1 []
def ED:qa:=.agg [EB,yN,EC,fa,.str []]
def joq:List qa:=jq4++[ED]
def jtv:qn:=.vec 5 12 joq
def jum:qn:=.cells [(.ak 7 13 14,I),(.ak 5 12 12,I),(.ak 2 13 13,I)]
def ju1:List qa:=jn7++[.list I 4 [.agg ((OC++[.list I 2 [OG,OG]]))]]
def Li:qa:=.agg ((ju1++[OU]))
def jtz:List qa:=Ew++[Li]
def jpy:qn:=.vec 4 13 jtz
def O0:qa:=.int .i64 14
def yO:qa:=.agg [O0,OJ,Oy,pC,.str []]
def jqa:List qa:=Ez++[yO]
def jsm:qn:=.vec 5 12 jqa
def jra:List qa:=joq++[yO]
def jqr:qn:=.vec 5 13 jra
def jub:qn:=.cells [(.ak 7 14 15,I),(.ak 5 13 13,I),(.ak 2 14 14,I)]
def O1:qa:=.agg ((ju1++[.list I 8 [.agg ((yM++[tS,Ev,OT,.str [],tR,bS]))]]))
def C7:qn:=.vec 4 14 ((jtz++[O1]))
def EE:qa:=.int .i64 15
def jo6:qa:=.str [117,112,100,97,116,101]
def tT:qa:=.list I 1 [oQ]
def yP:qa:=.agg [EE,jo6,tT,pC,.str []]
def C8:qn:=.vec 5 13 ((jqa++[yP]))
def jq9:List qa:=jra++[yP]
def juy:qn:=.vec 5 14 jq9
def jte:qn:=.cells [(.ak 7 15 16,I),(.ak 5 13 12,I),(.ak 2 14 13,I)]
def EF:qa:=.int .i64 16
def EG:qa:=.agg [EF,yN,EC,fa,.str []]
def jof:List qa:=jq9++[EG]
def jqm:qn:=.vec 5 15 jof
def jsv:qn:=.cells [(.ak 7 16 17,I),(.ak 5 13 11,I),(.ak 2 14 12,I)]
def O2:qa:=.int .i64 17
def EH:qa:=.agg [O2,yN,EC,fa,.str []]
def juc:List qa:=jof++[EH]
def jpc:qn:=.vec 5 16 juc
def jr5:qn:=.cells [(.ak 7 17 18,I),(.ak 5 14 12,I),(.ak 2 15 13,I)]
def jus:qa:=.int .i64 91
def O3:qa:=.agg ((Lg++[.list I 8 [.agg ((yM++[gu,Ev,.list I 3 [jtq,.agg ((jqz++[jus]))],.str [],tR,bS]))]]))
def EI:qn:=.vec 4 15 ((Ew++[O3]))
def O4:qa:=.int .i64 18
def yQ:qa:=.agg [O4,OW,jsx,.list I 1 [oP,jus],.str []]
def EJ:qn:=.vec 5 14 ((Ez++[yQ]))
def jpp:List qa:=juc++[yQ]
def juz:qn:=.vec 5 17 jpp
def O5:qn:=.cells [(.ak 7 18 19,I),(.ak 5 14 11,I),(.ak 2 15 12,I)]
def C9:qa:=.int .i64 19
def EK:qa:=.agg [C9,yN,EC,fa,.str []]
def joe:List qa:=jpp++[EK]
def O6:qn:=.vec 5 18 joe
def O7:qn:=.cells [(.ak 7 19 20,I),(.ak 5 15 12,I),(.ak 2 16 13,I)]
def O8:qa:=.agg ((Lg++[.list I 8 [.agg ((yM++[gu,Ev,OT,.str [],fm,bS]))]]))
def O9:qn:=.vec 4 16 ((Ew++[O8]))
def Lj:qa:=.int .i64 20
def wJ:qa:=.str [115,104,105,112]
def yR:qa:=.agg [Lj,wJ,tT,pC,.str []]
def Pa:qn:=.vec 5 15 ((Ez++[yR]))
def jrm:List qa:=joe++[yR]
def Pb:qn:=.vec 5 19 jrm
def jsi:List qa:=[OJ,lT]
def jqw:List qa:=[Le,oQ]
def zfx:List qa:=jqw++[yH]
def job:List qa:=zfx++[.str [51]]
def yS:qa:=.list I 1 [wJ,oQ,.str [51]]
def Pc:qa:=.agg [vf,wJ,tT,pC,.str []]
def Pd:qa:=.agg [Ey,wJ,tT,pC,.str []]
def jjy:qa:=.int .i64 31
def Pe:qa:=.aB [wH,jjy]
def zbj:List qa:=[OW,oQ]
def zfr:List qa:=zbj++[yL]
def jru:List qa:=zfr++[.str [51]]
def Pg:qa:=.agg [EB,wJ,tT,pC,.str []]
def jkh:qa:=.int .i64 34
def EL:qa:=.list I 1 [yN]
def Ph:qa:=.agg [EE,wJ,tT,pC,.str []]
def jkg:qa:=.int .i64 32
def Pj:qa:=.agg [EF,wJ,tT,pC,.str []]
def Pl:qa:=.agg [C9,wJ,tT,pC,.str []]
def Da:qa:=.int .i64 21
def jks:qa:=.agg [Da,yN,EC,fa,.str []]
def Pm:qa:=.agg [Da,Le,juw,ju6,.str []]
def jj6:qa:=.str [49,32,108,111,116,32,99,111,110,101,95,49,32,99,111,110,101,32,49,32,49,48]
def jj5:qa:=.str [50,32,108,111,116,32,99,111,105,108,95,49,32,99,111,105,108,32,49,32,53]
def jj0:qa:=.str [51,32,112,114,111,100,117,99,116,32,98,111,120,32,49]
def jjs:qa:=.str [52,32,110,101,101,100,32,98,111,120,32,99,111,110,101,32,49,32,50]
def jkq:qa:=.str [53,32,110,101,101,100,32,98,111,120,32,99,111,105,108,32,49,32,49]
def jjv:qa:=.str [54,32,116,101,115,116,32,98,111,120,32,115,119,101,101,112,32,49,32,56,48,32,57,48]
def jke:qa:=.str [55,32,105,115,115,117,101,32,98,111,120,32,50]
def jjz:qa:=.str [56,32,98,117,105,108,100,32,117,49,32,98,111,120,32,51]
def jki:qa:=.str [57,32,117,115,101,32,117,49,32,99,111,110,101,95,49,32,51,32,50]
def jjr:qa:=.str [49,48,32,117,115,101,32,117,49,32,99,111,105,108,95,49,32,51,32,49]
def jjq:qa:=.str [49,49,32,109,101,97,115,117,114,101,32,117,49,32,115,119,101,101,112,32,51,32,56,53]
def jj3:qa:=.str [49,50,32,104,111,108,100,32,99,111,105,108,95,49,32,51]
def jkb:qa:=.str [49,51,32,117,110,100,111]
def jka:qa:=.str [49,52,32,105,115,115,117,101,32,98,111,120,32,51]
def jj9:qa:=.str [49,53,32,117,112,100,97,116,101,32,117,49,32,51]
def jko:qa:=.str [49,54,32,117,110,100,111]
def jkn:qa:=.str [49,55,32,117,110,100,111]
def jkp:qa:=.str [49,56,32,109,101,97,115,117,114,101,32,117,49,32,115,119,101,101,112,32,51,32,57,49]
def jkj:qa:=.str [49,57,32,117,110,100,111]
def jkf:qa:=.str [50,48,32,115,104,105,112,32,117,49,32,51]
def Pn:qa:=.list I 5 jrm
def yT:List qa:=[.ptr 0 0,.str [115,104,105,112,32,117,49,32,51]]
def Po:qa:=.aB [.str [],jjy]
def jon:List qa:=[.ptr 0 0,.str [109,105,115,115,105,110,103,32,117,49]]
def jj8:qa:=.aB [.str [110,111,110,101],bS]
def jtr:List qa:=[.ptr 0 0,.str [115,116,111,99,107,32,99,111,105,108]]
def EM:List qa:=[.ptr 0 0,yN]
def jn5:List qa:=[.ptr 0 0,.str [115,104,105,112,112,101,100]]
def hw1:j8:=[dz,dz,.vec 4 0 [wH]]
def hw2:j8:=[.cells [(.ak 7 0 1,I),(.ak 5 0 1,I),(.ak 2 1 2,I)],dz,.vec 4 1 lv1,.map yb,.map z8,bv2,.hole,bv2]
def hw3:j8:=[bv3,dz,bv4,.map yb,.map z8,K3,.hole,K3,.map yb,.map z8]
def hw4:j8:=[bv3,dz,bv4,.map yb,.map z8,K3,.hole,K3]
def hw5:j8:=[bv6,dz,bv7,.map yb,.map z8,K4,.hole,K4,.map yb,.map z8]
def hw6:j8:=[bv6,dz,bv7,.map yb,.map z8,K4,.hole,K4]
def hw7:j8:=[bv9,dz,jqf,.map yb,.map z8,K7,.hole,K7,.map yb,.map z8]
def hw8:j8:=[bv9,dz,jqf,.map yb,.map z8,K7,.hole,K7]
def hw9:j8:=[jor,dz,jty,.map yb,.map z8,K8,.hole,K8,.map yb,.map z8]
def zcu:j8:=[jor,dz,jty,.map yb,.map z8,K8,.hole,K8]
def zaz:j8:=[jo8,dz,js2,.map yb,.map z8,K9,.hole,K9,.map yb,.map z8]
def zdu:j8:=[jo8,dz,js2,.map yb,.map z8,K9,.hole,K9]
def zgv:j8:=[jog,dz,jq1,.map yb,.map z8,La,.hole,La,.map yb,.map z8]
def zbl:j8:=[jog,dz,jq1,.map yb,.map z8,La,.hole,La]
def zes:j8:=[jn6,dz,jpe,.map yb,.map z8,Lc,.hole,Lc,.map yb,.map z8]
def zd4:j8:=[jn6,dz,jpe,.map yb,.map z8,Lc,.hole,Lc]
def jql:j8:=[jtl,dz,jtd,.map yb,.map z8,Lf,.hole,Lf,.map yb,.map z8]
def jp7:j8:=[jtl,dz,jtd,.map yb,.map z8,Lf,.hole,Lf]
def jrh:j8:=[OP,dz,OQ,.map yb,.map z8,CY,.hole,CY,.map yb,.map z8]
def Pp:j8:=[OP,dz,OQ,.map yb,.map z8,CY,.hole,CY]
def zhj:j8:=[OP,dz,OQ,.map yb,.map z8,CY,.hole,CY,.map yb]
def j99:j8:=[OS,dz,OV,.map yb,.map z8,C5,.hole,C5,.map yb,.map z8]
def jt4:j8:=[OS,dz,OV,.map yb,.map z8,C5,.hole,C5]
def zc2:j8:=[OS,dz,OV,.map yb,.map z8,C5,.hole,C5,.map yb]
def jsc:j8:=[OX,dz,EA,.map yb,.map z8,wI,.hole,wI,.map yb,.map z8]
def Pq:j8:=[OX,dz,EA,.map yb,.map z8,wI,.hole,wI]
def zde:j8:=[OX,dz,EA,.map yb,.map z8,wI,.hole,wI,.map yb]
def zhu:j8:=[jsu,dz,EA,.map yb,.map z8,wI,.hole,jtv,.map yb,.map z8]
def ze3:j8:=[jsu,dz,EA,.map yb,.map z8,wI,.hole,jtv]
def jua:j8:=[jum,dz,jpy,.map yb,.map z8,jsm,.hole,jqr,.map yb,.map z8]
def juj:j8:=[jum,dz,jpy,.map yb,.map z8,jsm,.hole,jqr]
def jrl:j8:=[jub,dz,C7,.map yb,.map z8,C8,.hole,juy,.map yb,.map z8]
def jtm:j8:=[jub,dz,C7,.map yb,.map z8,C8,.hole,juy]
def zeb:j8:=[jte,dz,C7,.map yb,.map z8,C8,.hole,jqm,.map yb,.map z8]
def za3:j8:=[jte,dz,C7,.map yb,.map z8,C8,.hole,jqm]
def zh4:j8:=[jsv,dz,C7,.map yb,.map z8,C8,.hole,jpc,.map yb,.map z8]
def zeo:j8:=[jsv,dz,C7,.map yb,.map z8,C8,.hole,jpc]
def jsr:j8:=[jr5,dz,EI,.map yb,.map z8,EJ,.hole,juz,.map yb,.map z8]
def jn9:j8:=[jr5,dz,EI,.map yb,.map z8,EJ,.hole,juz]
def zav:j8:=[O5,dz,EI,.map yb,.map z8,EJ,.hole,O6,.map yb,.map z8]
def EN:j8:=[O5,dz,EI,.map yb,.map z8,EJ,.hole,O6]
def Lk:j8:=[O5,dz,EI,.map yb,.map z8,EJ,.hole,O6,.map yb]
def Pr:j8:=[O7,dz,O9,.map yb,.map z8,Pa,.hole,Pb,.map yb,.map z8]
def Ps:j8:=[O7,dz,O9,.map yb,.map z8,Pa,.hole,Pb]
def zet:j8:=[O7,dz,O9,.map yb,.map z8,Pa,.hole,Pb,.map yb]
def e1:Row:=([.list I 1 [K1,yH,CN,.str [49],.str [49,48]],gu],.aB [yI,fm],I)
def e2:Row:=([yI],bS,I)
def e3:Row:=([wH,yI],.aB [Ov,bS],I)
def e4:Row:=([.list I 1 [K1,vg,CO,.str [49],.str [53]],tS],.aB [CP,fm],I)
def e5:Row:=([CP],bS,I)
def e6:Row:=([Ov,CP],.aB [Ow,bS],I)
def e7:Row:=([.list I 1 [ju5,lT,.str [49]],oP],.aB [CQ,fm],I)
def e8:Row:=([CQ],bS,I)
def e9:Row:=([Ow,CQ],.aB [Ox,bS],I)
def Pt:Row:=([.list I 1 [K6,lT,CN,.str [49],.str [50]],K5],.aB [CR,fm],I)
def Pu:Row:=([CR],bS,I)
def Pv:Row:=([Ox,CR],.aB [Oz,bS],I)
def Px:Row:=([.list I 1 [K6,lT,CO,.str [49],.str [49]],yJ],.aB [CS,fm],I)
def Py:Row:=([CS],bS,I)
def Pz:Row:=([Oz,CS],.aB [OB,bS],I)
def PA:Row:=([.list I 1 [jq5,lT,yL,.str [49],.str [56,48],.str [57,48]],OE],.aB [CT,fm],I)
def PB:Row:=([CT],bS,I)
def PD:Row:=([OB,CT],.aB [OD,bS],I)
def PE:Row:=([.list I 1 ((jsi++[.str [50]])),OI],.aB [CU,fm],I)
def PF:Row:=([CU],bS,I)
def PG:Row:=([OD,CU],.aB [OH,bS],I)
def PH:Row:=([.list I 1 [jq6,oQ,lT,.str [51]],Lb],.aB [CV,fm],I)
def PI:Row:=([CV],bS,I)
def PJ:Row:=([OH,CV],.aB [OL,bS],I)
def PK:Row:=([.list I 1 ((job++[.str [50]])),OO],.aB [CW,fm],I)
def PL:Row:=([CW],bS,I)
def PN:Row:=([OL,CW],.aB [Ld,bS],I)
def PO:Row:=([yS,vf],.aB [Pc,fm],I)
def PP:Row:=([Pc],bS,I)
def PQ:Row:=([Ld,Pc],.aB [wH,Lj],I)
def PR:Row:=([.list I 1 ((jqw++[vg,.str [51],.str [49]])),vf],.aB [CX,fm],I)
def PS:Row:=([CX],bS,I)
def PT:Row:=([Ld,CX],.aB [Lh,bS],I)
def PU:Row:=([yS,Ey],.aB [Pd,fm],I)
def PV:Row:=([Pd],bS,I)
def PW:Row:=([Lh,Pd],Pe,I)
def PX:Row:=([.list I 1 ((jru++[.str [56,53]])),Ey],.aB [C4,fm],I)
def PY:Row:=([C4],bS,I)
def PZ:Row:=([Lh,C4],.aB [CZ,bS],I)
def P0:Row:=([.list I 1 [jo1,vg,.str [51]],OZ],.aB [C6,fm],I)
def P1:Row:=([C6],bS,I)
def P2:Row:=([CZ,C6],.aB [OY,bS],I)
def P3:Row:=([yS,EB],.aB [Pg,fm],I)
def P4:Row:=([Pg],bS,I)
def P5:Row:=([OY,Pg],.aB [wH,jkh],I)
def P6:Row:=([EL,EB],.aB [ED,fm],I)
def P7:Row:=([ED],bS,I)
def P8:Row:=([.list I 1 ((jsi++[.str [51]])),O0],.aB [yO,fm],I)
def P9:Row:=([yO],bS,I)
def Qa:Row:=([CZ,yO],.aB [Li,bS],I)
def Qb:Row:=([yS,EE],.aB [Ph,fm],I)
def Qc:Row:=([Ph],bS,I)
def Qd:Row:=([Li,Ph],.aB [wH,jkg],I)
def Qe:Row:=([.list I 1 [jo6,oQ,.str [51]],EE],.aB [yP,fm],I)
def Qf:Row:=([yP],bS,I)
def Qg:Row:=([Li,yP],.aB [O1,bS],I)
def Qh:Row:=([yS,EF],.aB [Pj,fm],I)
def Qi:Row:=([Pj],bS,I)
def Qj:Row:=([O1,Pj],Pe,I)
def Qk:Row:=([EL,EF],.aB [EG,fm],I)
def Ql:Row:=([EG],bS,I)
def Qm:Row:=([EL,O2],.aB [EH,fm],I)
def Qn:Row:=([EH],bS,I)
def Qo:Row:=([.list I 1 ((jru++[.str [57,49]])),O4],.aB [yQ,fm],I)
def Qp:Row:=([yQ],bS,I)
def Qq:Row:=([CZ,yQ],.aB [O3,bS],I)
def Qr:Row:=([yS,C9],.aB [Pl,fm],I)
def Qs:Row:=([Pl],bS,I)
def Qt:Row:=([O3,Pl],Pe,I)
def Qu:Row:=([EL,C9],.aB [EK,fm],I)
def Qv:Row:=([EK],bS,I)
def Qw:Row:=([yS,Lj],.aB [yR,fm],I)
def Qx:Row:=([yR],bS,I)
def Qy:Row:=([CZ,yR],.aB [O8,bS],I)
def Qz:Row:=([EL,Da],.aB [jks,fm],I)
def QA:Row:=([jks],bS,I)
def QB:Row:=([.list I 1 ((job++[.str [49]])),Da],.aB [Pm,fm],I)
def QC:Row:=([Pm],bS,I)
def QD:Row:=([O8,Pm],.aB [wH,Da],I)
def QE:Row:=([yI],jj6,I)
def QF:Row:=([jj6],.str [51,57,56,57,49,56,50],I)
def QG:Row:=([CP],jj5,I)
def QH:Row:=([jj5],.str [48,49,55,50,54,57,55],I)
def QI:Row:=([CQ],jj0,I)
def QJ:Row:=([jj0],.str [54,49,49,52,48,56,52],I)
def QK:Row:=([CR],jjs,I)
def QL:Row:=([jjs],.str [49,55,56,55,50,51,49],I)
def QM:Row:=([CS],jkq,I)
def QN:Row:=([jkq],.str [50,52,55,55,51,52,50],I)
def QO:Row:=([CT],jjv,I)
def QP:Row:=([jjv],.str [50,48,50,49,51,55,56],I)
def QQ:Row:=([CU],jke,I)
def QR:Row:=([jke],.str [57,55,57,50,54,57,53],I)
def QS:Row:=([CV],jjz,I)
def QT:Row:=([jjz],.str [48,55,51,51,57,54,55],I)
def QU:Row:=([CW],jki,I)
def QV:Row:=([jki],.str [57,54,50,56,50,52,50],I)
def QW:Row:=([CX],jjr,I)
def QX:Row:=([jjr],.str [51,51,55,48,50,52,48],I)
def QY:Row:=([C4],jjq,I)
def QZ:Row:=([jjq],.str [56,50,52,48,49,52,56],I)
def Q0:Row:=([C6],jj3,I)
def Q5:Row:=([jj3],.str [53,50,48,49,49,53,55],I)
def Q6:Row:=([ED],jkb,I)
def Q7:Row:=([jkb],.str [54,55,52,56,55,48,57],I)
def Q9:Row:=([yO],jka,I)
def Ra:Row:=([jka],.str [48,56,53,50,57,54,53],I)
def Rb:Row:=([yP],jj9,I)
def Rc:Row:=([jj9],.str [50,52,56,53,48,49,51],I)
def Rf:Row:=([EG],jko,I)
def Rg:Row:=([jko],.str [56,51,50,54,51,57,51],I)
def Rh:Row:=([EH],jkn,I)
def Ri:Row:=([jkn],.str [50,49,56,53,54,57,53],I)
def Rj:Row:=([yQ],jkp,I)
def Rk:Row:=([jkp],.str [50,51,54,49,51,49,55],I)
def Rl:Row:=([EK],jkj,I)
def Rm:Row:=([jkj],.str [57,57,48,52,48,55,55],I)
def Rn:Row:=([yR],jkf,I)
def Ro:Row:=([jkf],.str [53,49,49,54,56,51,51],I)
def Rp:Row:=([.str [49,32,108,111,116,32,99,111,110,101,95,49,32,99,111,110,101,32,49,32,49,48,35,51,57,56,57,49,56,50],bS],.aB [yI,bS],I)
def Rq:Row:=([.str [50,32,108,111,116,32,99,111,105,108,95,49,32,99,111,105,108,32,49,32,53,35,48,49,55,50,54,57,55],gu],.aB [CP,bS],I)
def Rr:Row:=([.str [51,32,112,114,111,100,117,99,116,32,98,111,120,32,49,35,54,49,49,52,48,56,52],tS],.aB [CQ,bS],I)
def Rs:Row:=([.str [52,32,110,101,101,100,32,98,111,120,32,99,111,110,101,32,49,32,50,35,49,55,56,55,50,51,49],oP],.aB [CR,bS],I)
def Rt:Row:=([.str [53,32,110,101,101,100,32,98,111,120,32,99,111,105,108,32,49,32,49,35,50,52,55,55,51,52,50],K5],.aB [CS,bS],I)
def Ru:Row:=([.str [54,32,116,101,115,116,32,98,111,120,32,115,119,101,101,112,32,49,32,56,48,32,57,48,35,50,48,50,49,51,55,56],yJ],.aB [CT,bS],I)
def Rv:Row:=([.str [55,32,105,115,115,117,101,32,98,111,120,32,50,35,57,55,57,50,54,57,53],OE],.aB [CU,bS],I)
def Rw:Row:=([.str [56,32,98,117,105,108,100,32,117,49,32,98,111,120,32,51,35,48,55,51,51,57,54,55],OI],.aB [CV,bS],I)
def Rx:Row:=([.str [57,32,117,115,101,32,117,49,32,99,111,110,101,95,49,32,51,32,50,35,57,54,50,56,50,52,50],Lb],.aB [CW,bS],I)
def Ry:Row:=([.str [49,48,32,117,115,101,32,117,49,32,99,111,105,108,95,49,32,51,32,49,35,51,51,55,48,50,52,48],OO],.aB [CX,bS],I)
def Rz:Row:=([.str [49,49,32,109,101,97,115,117,114,101,32,117,49,32,115,119,101,101,112,32,51,32,56,53,35,56,50,52,48,49,52,56],vf],.aB [C4,bS],I)
def RA:Row:=([.str [49,50,32,104,111,108,100,32,99,111,105,108,95,49,32,51,35,53,50,48,49,49,53,55],Ey],.aB [C6,bS],I)
def RB:Row:=([.str [49,51,32,117,110,100,111,35,54,55,52,56,55,48,57],OZ],.aB [ED,bS],I)
def RC:Row:=([.str [49,52,32,105,115,115,117,101,32,98,111,120,32,51,35,48,56,53,50,57,54,53],EB],.aB [yO,bS],I)
def RD:Row:=([.str [49,53,32,117,112,100,97,116,101,32,117,49,32,51,35,50,52,56,53,48,49,51],O0],.aB [yP,bS],I)
def RE:Row:=([.str [49,54,32,117,110,100,111,35,56,51,50,54,51,57,51],EE],.aB [EG,bS],I)
def RF:Row:=([.str [49,55,32,117,110,100,111,35,50,49,56,53,54,57,53],EF],.aB [EH,bS],I)
def RG:Row:=([.str [49,56,32,109,101,97,115,117,114,101,32,117,49,32,115,119,101,101,112,32,51,32,57,49,35,50,51,54,49,51,49,55],O2],.aB [yQ,bS],I)
def RH:Row:=([.str [49,57,32,117,110,100,111,35,57,57,48,52,48,55,55],O4],.aB [EK,bS],I)
def RI:Row:=([.str [50,48,32,115,104,105,112,32,117,49,32,51,35,53,49,49,54,56,51,51],C9],.aB [yR,bS],I)
def RJ:Row:=([Pn,joz],.aB [tT,bS],I)
def RL:Row:=([Pn,tT],.aB [.list I 1 [yH,vg],bS],I)
def RM:Row:=([.str [49,32,108,111,116,32,99,111,110,101,95,49,32,99,111,110,101,32,49,32,49,48,35,51,57,56,57,49,56,50,10,50,32,108,111,116,32,99,111,105,108,95,49,32,99,111,105,108,32,49,32,53,35,48,49,55,50,54,57,55,10,51,32,112,114,111,100,117,99,116,32,98,111,120,32,49,35,54,49,49,52,48,56,52,10,52,32,110,101,101,100,32,98,111,120,32,99,111,110,101,32,49,32,50,35,49,55,56,55,50,51,49,10,53,32,110,101,101,100,32,98,111,120,32,99,111,105,108,32,49,32,49,35,50,52,55,55,51,52,50,10,54,32,116,101,115,116,32,98,111,120,32,115,119,101,101,112,32,49,32,56,48,32,57,48,35,50,48,50,49,51,55,56,10,55,32,105,115,115,117,101,32,98,111,120,32,50,35,57,55,57,50,54,57,53,10,56,32,98,117,105,108,100,32,117,49,32,98,111,120,32,51,35,48,55,51,51,57,54,55,10,57,32,117,115,101,32,117,49,32,99,111,110,101,95,49,32,51,32,50,35,57,54,50,56,50,52,50,10,49,48,32,117,115,101,32,117,49,32,99,111,105,108,95,49,32,51,32,49,35,51,51,55,48,50,52,48,10,49,49,32,109,101,97,115,117,114,101,32,117,49,32,115,119,101,101,112,32,51,32,56,53,35,56,50,52,48,49,52,56,10,49,50,32,104,111,108,100,32,99,111,105,108,95,49,32,51,35,53,50,48,49,49,53,55,10,49,51,32,117,110,100,111,35,54,55,52,56,55,48,57,10,49,52,32,105,115,115,117,101,32,98,111,120,32,51,35,48,56,53,50,57,54,53,10,49,53,32,117,112,100,97,116,101,32,117,49,32,51,35,50,52,56,53,48,49,51,10,49,54,32,117,110,100,111,35,56,51,50,54,51,57,51,10,49,55,32,117,110,100,111,35,50,49,56,53,54,57,53,10,49,56,32,109,101,97,115,117,114,101,32,117,49,32,115,119,101,101,112,32,51,32,57,49,35,50,51,54,49,51,49,55,10,49,57,32,117,110,100,111,35,57,57,48,52,48,55,55,10,50,48,32,115,104,105,112,32,117,49,32,51,35,53,49,49,54,56,51,51,10,49]],.aB [Pn,.int .i64 500,.int .i64 29],I)
def r1:dL:=([.ptr 0 0,.str [108,111,116,32,99,111,110,101,95,49,32,99,111,110,101,32,49,32,49,48]],hw1,.aB [.str [100,111,110,101,32,49],bS],I,hw2)
def r2:dL:=([.ptr 0 0,.str [108,111,116,32,99,111,105,108,95,49,32,99,111,105,108,32,49,32,53]],hw2,.aB [.str [100,111,110,101,32,50],bS],I,hw3)
def r3:dL:=([.ptr 0 0,.str [112,114,111,100,117,99,116,32,98,111,120,32,49]],hw4,.aB [.str [100,111,110,101,32,51],bS],I,hw5)
def r4:dL:=([.ptr 0 0,.str [110,101,101,100,32,98,111,120,32,99,111,110,101,32,49,32,50]],hw6,.aB [.str [100,111,110,101,32,52],bS],I,hw7)
def r5:dL:=([.ptr 0 0,.str [110,101,101,100,32,98,111,120,32,99,111,105,108,32,49,32,49]],hw8,.aB [.str [100,111,110,101,32,53],bS],I,hw9)
def r6:dL:=([.ptr 0 0,.str [116,101,115,116,32,98,111,120,32,115,119,101,101,112,32,49,32,56,48,32,57,48]],zcu,.aB [.str [100,111,110,101,32,54],bS],I,zaz)
def r7:dL:=([.ptr 0 0,.str [105,115,115,117,101,32,98,111,120,32,50]],zdu,.aB [.str [100,111,110,101,32,55],bS],I,zgv)
def r8:dL:=([.ptr 0 0,.str [98,117,105,108,100,32,117,49,32,98,111,120,32,51]],zbl,.aB [.str [100,111,110,101,32,56],bS],I,zes)
def r9:dL:=([.ptr 0 0,.str [117,115,101,32,117,49,32,99,111,110,101,95,49,32,51,32,50]],zd4,.aB [.str [100,111,110,101,32,57],bS],I,jql)
def yU:dL:=(yT,jp7,.aB [.str [],Lj],I,jql)
def Ll:dL:=([.ptr 0 0,.str [117,115,101,32,117,49,32,99,111,105,108,95,49,32,51,32,49]],jp7,.aB [.str [100,111,110,101,32,49,48],bS],I,jrh)
def Lm:dL:=(yT,Pp,Po,I,jrh)
def Ln:dL:=(jon,Pp,.aB [yL,bS],I,zhj)
def Lp:dL:=([.ptr 0 0,.str [109,101,97,115,117,114,101,32,117,49,32,115,119,101,101,112,32,51,32,56,53]],Pp,.aB [.str [100,111,110,101,32,49,49],bS],I,j99)
def Lq:dL:=(jon,jt4,jj8,I,zc2)
def Lr:dL:=([.ptr 0 0,.str [104,111,108,100,32,99,111,105,108,95,49,32,51]],jt4,.aB [.str [100,111,110,101,32,49,50],bS],I,jsc)
def Ls:dL:=(yT,Pq,.aB [.str [],jkh],I,jsc)
def Lt:dL:=(jtr,Pq,.aB [.str [48],bS],I,zde)
def Lu:dL:=(EM,Pq,.aB [.str [100,111,110,101,32,49,51],bS],I,zhu)
def Lw:dL:=([.ptr 0 0,.str [105,115,115,117,101,32,98,111,120,32,51]],ze3,.aB [.str [100,111,110,101,32,49,52],bS],I,jua)
def Lx:dL:=(yT,juj,.aB [.str [],jkg],I,jua)
def Ly:dL:=([.ptr 0 0,.str [117,112,100,97,116,101,32,117,49,32,51]],juj,.aB [.str [100,111,110,101,32,49,53],bS],I,jrl)
def Lz:dL:=(yT,jtm,Po,I,jrl)
def LA:dL:=(EM,jtm,.aB [.str [100,111,110,101,32,49,54],bS],I,zeb)
def LB:dL:=(EM,za3,.aB [.str [100,111,110,101,32,49,55],bS],I,zh4)
def LC:dL:=([.ptr 0 0,.str [109,101,97,115,117,114,101,32,117,49,32,115,119,101,101,112,32,51,32,57,49]],zeo,.aB [.str [100,111,110,101,32,49,56],bS],I,jsr)
def LD:dL:=(yT,jn9,Po,I,jsr)
def LG:dL:=(EM,jn9,.aB [.str [100,111,110,101,32,49,57],bS],I,zav)
def LH:dL:=([.ptr 0 0,.str [108,111,116,115,32,117,49]],EN,.aB [.str [99,111,110,101,95,49,32,99,111,105,108,95,49],bS],I,Lk)
def LI:dL:=([.ptr 0 0,.str [115,116,111,99,107,32,99,111,110,101]],EN,.aB [.str [56],bS],I,Lk)
def LJ:dL:=(jtr,EN,.aB [.str [52],bS],I,Lk)
def LK:dL:=(jn5,EN,jj8,I,Lk)
def LL:dL:=(yT,EN,.aB [.str [100,111,110,101,32,50,48],bS],I,Pr)
def LM:dL:=(EM,Ps,.aB [.str [],C9],I,Pr)
def LN:dL:=([.ptr 0 0,.str [117,115,101,32,117,49,32,99,111,110,101,95,49,32,51,32,49]],Ps,.aB [.str [],Da],I,Pr)
def LO:dL:=(jn5,Ps,.aB [oQ,bS],I,zet)
set_option maxRecDepth 100000
theorem w21:jy bu xL 121 PG.1=Ef PG.2:=by kernel_rfl
theorem w25:jy bu xL 152 PK.1=Ef PK.2:=by kernel_rfl
theorem w26:jy bu xL 11 PL.1=Ef PL.2:=by kernel_rfl
theorem w37:jy bu xL 152 PX.1=Ef PX.2:=by kernel_rfl
theorem w48:jy bu xL 152 P8.1=Ef P8.2:=by kernel_rfl
theorem w51:jy bu xL 152 Qb.1=Ef Qb.2:=by kernel_rfl
theorem w56:jy bu xL 121 Qg.1=Ef Qg.2:=by kernel_rfl
theorem w74:jy bu xL 121 Qy.1=Ef Qy.2:=by kernel_rfl
theorem w82:jy bu xL 157 QG.1=Ef QG.2:=by kernel_rfl
theorem w90:jy bu xL 157 QO.1=Ef QO.2:=by kernel_rfl
theorem w93:jy bu xL 158 QR.1=Ef QR.2:=by kernel_rfl
theorem zcb:jy bu xL 158 Rg.1=Ef Rg.2:=by kernel_rfl
theorem zcr:jy bu xL 158 Rk.1=Ef Rk.2:=by kernel_rfl
theorem zh7:jy bu xL 157 Rl.1=Ef Rl.2:=by kernel_rfl
theorem zdc:jy bu xL 157 Rn.1=Ef Rn.2:=by kernel_rfl
theorem zb2:jy bu xL 103 Rq.1=Ef Rq.2:=by kernel_rfl
theorem zcj:jy bu xL 103 Ry.1=Ef Ry.2:=by kernel_rfl
theorem zgf:jy bu xL 103 RE.1=Ef RE.2:=by kernel_rfl
theorem w4:jy bu xL 152 e4.1=Ef e4.2:=by kernel_rfl
theorem w11:jy bu xL 11 Pu.1=Ef Pu.2:=by kernel_rfl
theorem w18:jy bu xL 121 PD.1=Ef PD.2:=by kernel_rfl
theorem w19:jy bu xL 152 PE.1=Ef PE.2:=by kernel_rfl
theorem w29:jy bu xL 11 PP.1=Ef PP.2:=by kernel_rfl
theorem w38:jy bu xL 11 PY.1=Ef PY.2:=by kernel_rfl
theorem w45:jy bu xL 121 P5.1=Ef P5.2:=by kernel_rfl
theorem w46:jy bu xL 152 P6.1=Ef P6.2:=by kernel_rfl
theorem w53:jy bu xL 121 Qd.1=Ef Qd.2:=by kernel_rfl
theorem w57:jy bu xL 152 Qh.1=Ef Qh.2:=by kernel_rfl
theorem w61:jy bu xL 11 Ql.1=Ef Ql.2:=by kernel_rfl
theorem w64:jy bu xL 152 Qo.1=Ef Qo.2:=by kernel_rfl
theorem w91:jy bu xL 158 QP.1=Ef QP.2:=by kernel_rfl
theorem w96:jy bu xL 157 QU.1=Ef QU.2:=by kernel_rfl
theorem zbr:jy bu xL 158 Ri.1=Ef Ri.2:=by kernel_rfl
theorem zbi:jy bu xL 103 Rs.1=Ef Rs.2:=by kernel_rfl
theorem j90:jy bu xL 103 RA.1=Ef RA.2:=by kernel_rfl
theorem zer:jy bu xL 103 RF.1=Ef RF.2:=by kernel_rfl
theorem w14:jy bu xL 11 Py.1=Ef Py.2:=by kernel_rfl
theorem w15:jy bu xL 121 Pz.1=Ef Pz.2:=by kernel_rfl
theorem w16:jy bu xL 152 PA.1=Ef PA.2:=by kernel_rfl
theorem w35:jy bu xL 11 PV.1=Ef PV.2:=by kernel_rfl
theorem w39:jy bu xL 121 PZ.1=Ef PZ.2:=by kernel_rfl
theorem w49:jy bu xL 11 P9.1=Ef P9.2:=by kernel_rfl
theorem w54:jy bu xL 152 Qe.1=Ef Qe.2:=by kernel_rfl
theorem w59:jy bu xL 121 Qj.1=Ef Qj.2:=by kernel_rfl
theorem w60:jy bu xL 152 Qk.1=Ef Qk.2:=by kernel_rfl
theorem w63:jy bu xL 11 Qn.1=Ef Qn.2:=by kernel_rfl
theorem w65:jy bu xL 11 Qp.1=Ef Qp.2:=by kernel_rfl
theorem w67:jy bu xL 152 Qr.1=Ef Qr.2:=by kernel_rfl
theorem zgp:jy bu xL 158 Rm.1=Ef Rm.2:=by kernel_rfl
theorem zau:jy bu xL 103 Rp.1=Ef Rp.2:=by kernel_rfl
theorem zgs:jy bu xL 103 Rt.1=Ef Rt.2:=by kernel_rfl
theorem zaw:jy bu xL 103 Rv.1=Ef Rv.2:=by kernel_rfl
theorem zfg:jy bu xL 103 Rw.1=Ef Rw.2:=by kernel_rfl
theorem zbe:jy bu xL 103 RH.1=Ef RH.2:=by kernel_rfl
theorem w7:jy bu xL 152 e7.1=Ef e7.2:=by kernel_rfl
theorem w8:jy bu xL 11 e8.1=Ef e8.2:=by kernel_rfl
theorem w10:jy bu xL 152 Pt.1=Ef Pt.2:=by kernel_rfl
theorem w12:jy bu xL 121 Pv.1=Ef Pv.2:=by kernel_rfl
theorem w36:jy bu xL 121 PW.1=Ef PW.2:=by kernel_rfl
theorem w44:jy bu xL 11 P4.1=Ef P4.2:=by kernel_rfl
theorem w62:jy bu xL 152 Qm.1=Ef Qm.2:=by kernel_rfl
theorem w69:jy bu xL 121 Qt.1=Ef Qt.2:=by kernel_rfl
theorem w71:jy bu xL 11 Qv.1=Ef Qv.2:=by kernel_rfl
theorem w72:jy bu xL 152 Qw.1=Ef Qw.2:=by kernel_rfl
theorem w83:jy bu xL 158 QH.1=Ef QH.2:=by kernel_rfl
theorem w86:jy bu xL 157 QK.1=Ef QK.2:=by kernel_rfl
theorem w95:jy bu xL 158 QT.1=Ef QT.2:=by kernel_rfl
theorem zhg:jy bu xL 157 QY.1=Ef QY.2:=by kernel_rfl
theorem zdj:jy bu xL 157 Q9.1=Ef Q9.2:=by kernel_rfl
theorem zbf:jy bu xL 103 Rr.1=Ef Rr.2:=by kernel_rfl
theorem zby:jy bu xL 103 Rz.1=Ef Rz.2:=by kernel_rfl
theorem w9:jy bu xL 121 e9.1=Ef e9.2:=by kernel_rfl
theorem w13:jy bu xL 152 Px.1=Ef Px.2:=by kernel_rfl
theorem w20:jy bu xL 11 PF.1=Ef PF.2:=by kernel_rfl
theorem w22:jy bu xL 152 PH.1=Ef PH.2:=by kernel_rfl
theorem w33:jy bu xL 121 PT.1=Ef PT.2:=by kernel_rfl
theorem w40:jy bu xL 152 P0.1=Ef P0.2:=by kernel_rfl
theorem w41:jy bu xL 11 P1.1=Ef P1.2:=by kernel_rfl
theorem w52:jy bu xL 11 Qc.1=Ef Qc.2:=by kernel_rfl
theorem w66:jy bu xL 121 Qq.1=Ef Qq.2:=by kernel_rfl
theorem w70:jy bu xL 152 Qu.1=Ef Qu.2:=by kernel_rfl
theorem w76:jy bu xL 11 QA.1=Ef QA.2:=by kernel_rfl
theorem w87:jy bu xL 158 QL.1=Ef QL.2:=by kernel_rfl
theorem w88:jy bu xL 157 QM.1=Ef QM.2:=by kernel_rfl
theorem w99:jy bu xL 158 QX.1=Ef QX.2:=by kernel_rfl
theorem zfo:jy bu xL 158 Q5.1=Ef Q5.2:=by kernel_rfl
theorem j9u:jy bu xL 157 Rj.1=Ef Rj.2:=by kernel_rfl
theorem zcc:jy bu xL 103 RG.1=Ef RG.2:=by kernel_rfl
theorem w2:jy bu xL 11 e2.1=Ef e2.2:=by kernel_rfl
theorem w6:jy bu xL 121 e6.1=Ef e6.2:=by kernel_rfl
theorem w28:jy bu xL 152 PO.1=Ef PO.2:=by kernel_rfl
theorem w30:jy bu xL 121 PQ.1=Ef PQ.2:=by kernel_rfl
theorem w32:jy bu xL 11 PS.1=Ef PS.2:=by kernel_rfl
theorem w55:jy bu xL 11 Qf.1=Ef Qf.2:=by kernel_rfl
theorem w58:jy bu xL 11 Qi.1=Ef Qi.2:=by kernel_rfl
theorem w75:jy bu xL 152 Qz.1=Ef Qz.2:=by kernel_rfl
theorem w79:jy bu xL 121 QD.1=Ef QD.2:=by kernel_rfl
theorem w84:jy bu xL 157 QI.1=Ef QI.2:=by kernel_rfl
theorem w85:jy bu xL 158 QJ.1=Ef QJ.2:=by kernel_rfl
theorem w89:jy bu xL 158 QN.1=Ef QN.2:=by kernel_rfl
theorem zf3:jy bu xL 157 Q6.1=Ef Q6.2:=by kernel_rfl
theorem zc3:jy bu xL 103 Ru.1=Ef Ru.2:=by kernel_rfl
theorem zgy:jy bu xL 103 Rx.1=Ef Rx.2:=by kernel_rfl
theorem zci:jy bu xL 103 RC.1=Ef RC.2:=by kernel_rfl
theorem zg5:jy bu xL 103 RI.1=Ef RI.2:=by kernel_rfl
theorem w3:jy bu xL 121 e3.1=Ef e3.2:=by kernel_rfl
theorem w23:jy bu xL 11 PI.1=Ef PI.2:=by kernel_rfl
theorem w27:jy bu xL 121 PN.1=Ef PN.2:=by kernel_rfl
theorem w31:jy bu xL 152 PR.1=Ef PR.2:=by kernel_rfl
theorem w34:jy bu xL 152 PU.1=Ef PU.2:=by kernel_rfl
theorem w42:jy bu xL 121 P2.1=Ef P2.2:=by kernel_rfl
theorem w68:jy bu xL 11 Qs.1=Ef Qs.2:=by kernel_rfl
theorem w78:jy bu xL 11 QC.1=Ef QC.2:=by kernel_rfl
theorem w80:jy bu xL 157 QE.1=Ef QE.2:=by kernel_rfl
theorem w81:jy bu xL 158 QF.1=Ef QF.2:=by kernel_rfl
theorem w92:jy bu xL 157 QQ.1=Ef QQ.2:=by kernel_rfl
theorem w97:jy bu xL 158 QV.1=Ef QV.2:=by kernel_rfl
theorem zal:jy bu xL 157 Q0.1=Ef Q0.2:=by kernel_rfl
theorem j95:jy bu xL 158 Ra.1=Ef Ra.2:=by kernel_rfl
theorem zc7:jy bu xL 157 Rf.1=Ef Rf.2:=by kernel_rfl
theorem zfi:jy bu xL 158 Ro.1=Ef Ro.2:=by kernel_rfl
theorem zed:jy bu xL 103 RD.1=Ef RD.2:=by kernel_rfl
theorem w1:jy bu xL 152 e1.1=Ef e1.2:=by kernel_rfl
theorem w5:jy bu xL 11 e5.1=Ef e5.2:=by kernel_rfl
theorem w17:jy bu xL 11 PB.1=Ef PB.2:=by kernel_rfl
theorem w24:jy bu xL 121 PJ.1=Ef PJ.2:=by kernel_rfl
theorem w43:jy bu xL 152 P3.1=Ef P3.2:=by kernel_rfl
theorem w47:jy bu xL 11 P7.1=Ef P7.2:=by kernel_rfl
theorem w50:jy bu xL 121 Qa.1=Ef Qa.2:=by kernel_rfl
theorem w73:jy bu xL 11 Qx.1=Ef Qx.2:=by kernel_rfl
theorem w77:jy bu xL 152 QB.1=Ef QB.2:=by kernel_rfl
theorem w94:jy bu xL 157 QS.1=Ef QS.2:=by kernel_rfl
theorem w98:jy bu xL 157 QW.1=Ef QW.2:=by kernel_rfl
theorem ze5:jy bu xL 158 QZ.1=Ef QZ.2:=by kernel_rfl
theorem zg9:jy bu xL 158 Q7.1=Ef Q7.2:=by kernel_rfl
theorem j9q:jy bu xL 157 Rb.1=Ef Rb.2:=by kernel_rfl
theorem zf1:jy bu xL 158 Rc.1=Ef Rc.2:=by kernel_rfl
theorem zfk:jy bu xL 157 Rh.1=Ef Rh.2:=by kernel_rfl
theorem zcn:jy bu xL 103 RB.1=Ef RB.2:=by kernel_rfl
end Go.Z
namespace Go.Z
open Go Go.Abs Go.Proofs
def RN:List (Nat×List Row):=[(11,[e2,e5,e8,Pu,Py,PB,PF,PI,PL,PP,PS,PV,PY,P1,P4,P7,P9,Qc,Qf,Qi,Ql,Qn,Qp,Qs,Qv,Qx,QA,QC]),(103,[Rp,Rq,Rr,Rs,Rt,Ru,Rv,Rw,Rx,Ry,Rz,RA,RB,RC,RD,RE,RF,RG,RH,RI]),(121,[e3,e6,e9,Pv,Pz,PD,PG,PJ,PN,PQ,PT,PW,PZ,P2,P5,Qa,Qd,Qg,Qj,Qq,Qt,Qy,QD]),(152,[e1,e4,e7,Pt,Px,PA,PE,PH,PK,PO,PR,PU,PX,P0,P3,P6,P8,Qb,Qe,Qh,Qk,Qm,Qo,Qr,Qu,Qw,Qz,QB]),(157,[QE,QG,QI,QK,QM,QO,QQ,QS,QU,QW,QY,Q0,Q6,Q9,Rb,Rf,Rh,Rj,Rl,Rn]),(158,[QF,QH,QJ,QL,QN,QP,QR,QT,QV,QX,QZ,Q5,Q7,Ra,Rc,Rg,Ri,Rk,Rm,Ro])]
def tab:Nat→Option (List Row):=wK RN
theorem jwz:LP Tryz.prog tab:=
 RO (t:=RN) ⟨⟨za bw w2,za bw w5,za bw w8,za bw w11,za bw w14,za bw w17,za bw w20,za bw w23,za bw w26,za bw w29,za bw w32,za bw w35,za bw w38,za bw w41,za bw w44,za bw w47,za bw w49,za bw w52,za bw w55,za bw w58,za bw w61,za bw w63,za bw w65,za bw w68,za bw w71,za bw w73,za bw w76,za bw w78,trivial⟩,⟨za bw zau,za bw zb2,za bw zbf,za bw zbi,za bw zgs,za bw zc3,za bw zaw,za bw zfg,za bw zgy,za bw zcj,za bw zby,za bw j90,za bw zcn,za bw zci,za bw zed,za bw zgf,za bw zer,za bw zcc,za bw zbe,za bw zg5,trivial⟩,⟨za bw w3,za bw w6,za bw w9,za bw w12,za bw w15,za bw w18,za bw w21,za bw w24,za bw w27,za bw w30,za bw w33,za bw w36,za bw w39,za bw w42,za bw w45,za bw w50,za bw w53,za bw w56,za bw w59,za bw w66,za bw w69,za bw w74,za bw w79,trivial⟩,⟨za bw w1,za bw w4,za bw w7,za bw w10,za bw w13,za bw w16,za bw w19,za bw w22,za bw w25,za bw w28,za bw w31,za bw w34,za bw w37,za bw w40,za bw w43,za bw w46,za bw w48,za bw w51,za bw w54,za bw w57,za bw w60,za bw w62,za bw w64,za bw w67,za bw w70,za bw w72,za bw w75,za bw w77,trivial⟩,⟨za bw w80,za bw w82,za bw w84,za bw w86,za bw w88,za bw w90,za bw w92,za bw w94,za bw w96,za bw w98,za bw zhg,za bw zal,za bw zf3,za bw zdj,za bw j9q,za bw zc7,za bw zfk,za bw j9u,za bw zh7,za bw zdc,trivial⟩,⟨za bw w81,za bw w83,za bw w85,za bw w87,za bw w89,za bw w91,za bw w93,za bw w95,za bw w97,za bw w99,za bw ze5,za bw zfo,za bw zg9,za bw j95,za bw zf1,za bw zcb,za bw zbr,za bw zcr,za bw zgp,za bw zfi,trivial⟩,trivial⟩
def dA:qt:={ bj:=bu.bj,cq:=fun k=>match tab k with
 |some l=>Ef fun args=>yV args l
 |none=>RP k,dl:=bu.dl,maps:=bu.maps }
theorem dD:qx Tryz.prog dA where
 fn:=bw.fn
 gG:=by
  intro k f hf
  simp only[dA]at hf
  split at hf
  ·rename_i l hl
   cases hf
   exact⟨tU (RQ RN (by kernel_rfl) k l hl),fun args v o hv _ _=>jwz k l hl _ (LQ hv)⟩
  ·exact bw.gG k f hf
 mixed:=bw.mixed
 fD:=bw.fD
 maps:=bw.maps
abbrev xA:=hZ dA 1000
end Go.Z
