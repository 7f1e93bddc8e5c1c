/- The values, states and rows of the examples' run. -/
import Derived.Test.YtfopaakmgogpiaaGreatDoorLA
open Bool renaming false→I
open Option renaming some→En
namespace Go.Z
open Go Go.Abs Go.Proofs
abbrev xL:=hM bq 1000
def eZ:qa:=.list true 0 []
def dv:qn:=.cells [(eZ,I),(eZ,I),(.ak 2 0 1,I)]
def bQ:qa:=.int .i64 0
def wj:qa:=.agg [bQ,eZ,eZ,eZ]
def gu:qa:=.int .i64 1
def xX:qa:=.str [99,111,110,101,95,49]
def Cx:qa:=.str [99,111,110,101]
def uV:qa:=.int .i64 10
def tM:qa:=.bool I
def xv9:qa:=.agg [xX,Cx,uV,uV,tM]
def Ow:qa:=.agg [gu,.list I 5 [xv9],eZ,eZ]
def lv1:List qa:=[wj,Ow]
def K6:qa:=.str [108,111,116]
def lv2:List qa:=[xX,Cx]
def xY:qa:=.agg [gu,K6,.list I 1 lv2,.list I 1 [gu,uV],.str []]
def bv2:qn:=.vec 5 0 [xY]
def bv3:qn:=.cells [(.ak 7 1 2,I),(.ak 5 1 2,I),(.ak 2 2 3,I)]
def uW:qa:=.str [99,111,105,108,95,49]
def Cy:qa:=.str [99,111,105,108]
def xZ:qa:=.int .i64 5
def jru:qa:=.agg [uW,Cy,xZ,xZ,tM]
def x5:qa:=.list I 5 [xv9,jru]
def Ox:qa:=.agg [gu,x5,eZ,eZ]
def lv3:List qa:=lv1++[Ox]
def bv4:qn:=.vec 4 2 lv3
def tN:qa:=.int .i64 2
def lv4:List qa:=[uW,Cy]
def Cz:qa:=.agg [tN,K6,.list I 1 lv4,.list I 1 [gu,xZ],.str []]
def lv5:List qa:=[xY,Cz]
def K7:qn:=.vec 5 1 lv5
def bv6:qn:=.cells [(.ak 7 2 3,I),(.ak 5 2 3,I),(.ak 2 3 4,I)]
def lL:qa:=.str [98,111,120]
def Oy:qa:=.agg [gu,x5,.list I 4 [.agg [lL,eZ,eZ,eZ]],eZ]
def lv6:List qa:=lv3++[Oy]
def bv7:qn:=.vec 4 3 lv6
def oD:qa:=.int .i64 3
def jun:qa:=.str [112,114,111,100,117,99,116]
def Oz:qa:=.list I 1 [lL]
def CA:qa:=.agg [oD,jun,Oz,.list I 1 [gu],.str []]
def lv7:List qa:=lv5++[CA]
def K8:qn:=.vec 5 2 lv7
def bv9:qn:=.cells [(.ak 7 3 4,I),(.ak 5 3 4,I),(.ak 2 4 5,I)]
def jsc:qa:=.agg [Cx,tN]
def OA:qa:=.agg [gu,x5,.list I 4 [.agg [lL,.list I 2 [jsc],eZ,eZ]],eZ]
def lv8:List qa:=lv6++[OA]
def jux:qn:=.vec 4 4 lv8
def K9:qa:=.int .i64 4
def La:qa:=.str [110,101,101,100]
def CC:qa:=.agg [K9,La,.list I 1 [lL,Cx],.list I 1 [gu,tN],.str []]
def lv9:List qa:=lv7++[CC]
def Lb:qn:=.vec 5 3 lv9
def jsw:qn:=.cells [(.ak 7 4 5,I),(.ak 5 4 5,I),(.ak 2 5 6,I)]
def OB:qa:=.list I 2 [jsc,.agg [Cy,gu]]
def OC:qa:=.agg [gu,x5,.list I 4 [.agg [lL,OB,eZ,eZ]],eZ]
def jsn:List qa:=lv8++[OC]
def joo:qn:=.vec 4 5 jsn
def CD:qa:=.agg [xZ,La,.list I 1 [lL,Cy],.list I 1 [gu,gu],.str []]
def jox:List qa:=lv9++[CD]
def Lc:qn:=.vec 5 4 jox
def jpb:qn:=.cells [(.ak 7 5 6,I),(.ak 5 5 6,I),(.ak 2 6 7,I)]
def zay:List qa:=[lL,OB]
def x6:qa:=.str [115,119,101,101,112]
def jsp:qa:=.int .i64 80
def joq:qa:=.int .i64 90
def jt5:qa:=.list I 3 [.agg [x6,jsp,joq]]
def OD:List qa:=zay++[jt5]
def OE:qa:=.agg [gu,x5,.list I 4 [.agg ((OD++[eZ]))],eZ]
def jom:List qa:=jsn++[OE]
def jt8:qn:=.vec 4 6 jom
def OG:qa:=.int .i64 6
def js1:qa:=.str [116,101,115,116]
def CF:qa:=.agg [OG,js1,.list I 1 [lL,x6],.list I 1 [gu,jsp,joq],.str []]
def jp2:List qa:=jox++[CF]
def Ld:qn:=.vec 5 5 jp2
def jsv:qn:=.cells [(.ak 7 6 7,I),(.ak 5 6 7,I),(.ak 2 7 8,I)]
def OH:qa:=.agg [OB,jt5]
def Ed:qa:=.list I 4 [.agg ((OD++[.list I 2 [OH]]))]
def OI:qa:=.agg [tN,x5,Ed,eZ]
def jsl:List qa:=jom++[OI]
def jpe:qn:=.vec 4 7 jsl
def OJ:qa:=.int .i64 7
def OL:qa:=.str [105,115,115,117,101]
def CG:qa:=.agg [OJ,OL,Oz,.list I 1 [tN],.str []]
def jr2:List qa:=jp2++[CG]
def Le:qn:=.vec 5 6 jr2
def jp9:qn:=.cells [(.ak 7 7 8,I),(.ak 5 7 8,I),(.ak 2 8 9,I)]
def oE:qa:=.str [117,49]
def OM:qa:=.agg [oD,x5,Ed,.list I 8 [.agg [oE,lL,gu,eZ,eZ,.str [],tM,bQ]]]
def jok:List qa:=jsl++[OM]
def jte:qn:=.vec 4 8 jok
def Lf:qa:=.int .i64 8
def jp3:qa:=.str [98,117,105,108,100]
def x9:List qa:=[oE,lL]
def po:qa:=.list I 1 [oD]
def CH:qa:=.agg [Lf,jp3,.list I 1 x9,po,.str []]
def jpt:List qa:=jr2++[CH]
def Lg:qn:=.vec 5 7 jpt
def jq4:qn:=.cells [(.ak 7 8 9,I),(.ak 5 8 9,I),(.ak 2 9 10,I)]
def OO:qa:=.agg ((lv2++[uV,Lf,tM]))
def jo2:qa:=.agg [xX,tN]
def Lh:qa:=.agg [oD,.list I 5 [OO,jru],Ed,.list I 8 [.agg ((x9++[gu,.list I 2 [jo2],eZ,.str [],tM,bQ]))]]
def job:List qa:=jok++[Lh]
def jrn:qn:=.vec 4 9 job
def OP:qa:=.int .i64 9
def Li:qa:=.str [117,115,101]
def jud:qa:=.list I 1 [oE,xX]
def CI:qa:=.agg [OP,Li,jud,.list I 1 [oD,tN],.str []]
def joi:List qa:=jpt++[CI]
def Lj:qn:=.vec 5 8 joi
def OQ:qn:=.cells [(.ak 7 9 10,I),(.ak 5 9 10,I),(.ak 2 10 11,I)]
def zg7:List qa:=lv4++[xZ]
def jpy:List qa:=zg7++[K9]
def jp4:List qa:=[oD,.list I 5 [OO,.agg ((jpy++[tM]))]]
def Lk:List qa:=jp4++[Ed]
def Ee:qa:=.list I 2 [jo2,.agg [uW,gu]]
def Ll:qa:=.agg ((Lk++[.list I 8 [.agg ((x9++[gu,Ee,eZ,.str [],tM,bQ]))]]))
def jss:List qa:=job++[Ll]
def OS:qn:=.vec 4 10 jss
def jqy:qa:=.list I 1 [oD,gu]
def CJ:qa:=.agg [uV,Li,.list I 1 [oE,uW],jqy,.str []]
def jur:List qa:=joi++[CJ]
def CK:qn:=.vec 5 9 jur
def OT:qn:=.cells [(.ak 7 10 11,I),(.ak 5 10 11,I),(.ak 2 11 12,I)]
def jso:List qa:=[x6,gu]
def jpp:qa:=.int .i64 85
def jpn:qa:=.agg ((jso++[jpp]))
def OU:qa:=.list I 3 [jpn]
def OV:qa:=.list I 8 [.agg ((x9++[gu,Ee,OU,.str [],tM,bQ]))]
def CL:qa:=.agg ((Lk++[OV]))
def Ef:List qa:=jss++[CL]
def OW:qn:=.vec 4 11 Ef
def Eg:qa:=.int .i64 11
def OX:qa:=.str [109,101,97,115,117,114,101]
def jpc:qa:=.list I 1 [oE,x6]
def CM:qa:=.agg [Eg,OX,jpc,.list I 1 [oD,jpp],.str []]
def Eh:List qa:=jur++[CM]
def CN:qn:=.vec 5 10 Eh
def OY:qn:=.cells [(.ak 7 11 12,I),(.ak 5 11 12,I),(.ak 2 12 13,I)]
def fm:qa:=.bool true
def OZ:qa:=.agg [oD,.list I 5 [OO,.agg ((jpy++[fm]))],Ed,OV]
def Ei:qn:=.vec 4 12 ((Ef++[OZ]))
def O0:qa:=.int .i64 12
def jug:qa:=.str [104,111,108,100]
def jqz:qa:=.list I 1 [uW]
def CO:qa:=.agg [O0,jug,jqz,po,.str []]
def jtc:List qa:=Eh++[CO]
def wk:qn:=.vec 5 11 jtc
def joa:qn:=.cells [(.ak 7 12 13,I),(.ak 5 11 11,I),(.ak 2 12 12,I)]
def Ej:qa:=.int .i64 13
def ym:qa:=.str [117,110,100,111]
def Ek:qa:=.list I 1 []
def El:qa:=.agg [Ej,ym,Ek,eZ,.str []]
def jt3:List qa:=jtc++[El]
def jrc:qn:=.vec 5 12 jt3
def jts:qn:=.cells [(.ak 7 13 14,I),(.ak 5 12 12,I),(.ak 2 13 13,I)]
def jtb:List qa:=jp4++[.list I 4 [.agg ((OD++[.list I 2 [OH,OH]]))]]
def Lm:qa:=.agg ((jtb++[OV]))
def jp1:List qa:=Ef++[Lm]
def jpm:qn:=.vec 4 13 jp1
def O1:qa:=.int .i64 14
def yA:qa:=.agg [O1,OL,Oz,po,.str []]
def juy:List qa:=Eh++[yA]
def jn9:qn:=.vec 5 12 juy
def ju1:List qa:=jt3++[yA]
def jt2:qn:=.vec 5 13 ju1
def jra:qn:=.cells [(.ak 7 14 15,I),(.ak 5 13 13,I),(.ak 2 14 14,I)]
def O2:qa:=.agg ((jtb++[.list I 8 [.agg ((x9++[tN,Ee,OU,.str [],tM,bQ]))]]))
def CP:qn:=.vec 4 14 ((jp1++[O2]))
def Em:qa:=.int .i64 15
def jor:qa:=.str [117,112,100,97,116,101]
def tO:qa:=.list I 1 [oE]
def yB:qa:=.agg [Em,jor,tO,po,.str []]
def CQ:qn:=.vec 5 13 ((juy++[yB]))
def juk:List qa:=ju1++[yB]
def juc:qn:=.vec 5 14 juk
def jr3:qn:=.cells [(.ak 7 15 16,I),(.ak 5 13 12,I),(.ak 2 14 13,I)]
def Eo:qa:=.int .i64 16
def Ep:qa:=.agg [Eo,ym,Ek,eZ,.str []]
def joc:List qa:=juk++[Ep]
def juo:qn:=.vec 5 15 joc
def jsh:qn:=.cells [(.ak 7 16 17,I),(.ak 5 13 11,I),(.ak 2 14 12,I)]
def O3:qa:=.int .i64 17
def Er:qa:=.agg [O3,ym,Ek,eZ,.str []]
def jqv:List qa:=joc++[Er]
def juv:qn:=.vec 5 16 jqv
def jpg:qn:=.cells [(.ak 7 17 18,I),(.ak 5 14 12,I),(.ak 2 15 13,I)]
def jtw:qa:=.int .i64 91
def O4:qa:=.agg ((Lk++[.list I 8 [.agg ((x9++[gu,Ee,.list I 3 [jpn,.agg ((jso++[jtw]))],.str [],tM,bQ]))]]))
def Es:qn:=.vec 4 15 ((Ef++[O4]))
def O5:qa:=.int .i64 18
def yC:qa:=.agg [O5,OX,jpc,.list I 1 [oD,jtw],.str []]
def Et:qn:=.vec 5 14 ((Eh++[yC]))
def joh:List qa:=jqv++[yC]
def jti:qn:=.vec 5 17 joh
def O6:qn:=.cells [(.ak 7 18 19,I),(.ak 5 14 11,I),(.ak 2 15 12,I)]
def CR:qa:=.int .i64 19
def Eu:qa:=.agg [CR,ym,Ek,eZ,.str []]
def js7:List qa:=joh++[Eu]
def O7:qn:=.vec 5 18 js7
def O8:qn:=.cells [(.ak 7 19 20,I),(.ak 5 15 12,I),(.ak 2 16 13,I)]
def O9:qa:=.agg ((Lk++[.list I 8 [.agg ((x9++[gu,Ee,OU,.str [],fm,bQ]))]]))
def Pa:qn:=.vec 4 16 ((Ef++[O9]))
def Ln:qa:=.int .i64 20
def wm:qa:=.str [115,104,105,112]
def yD:qa:=.agg [Ln,wm,tO,po,.str []]
def Pb:qn:=.vec 5 15 ((Eh++[yD]))
def jsi:List qa:=js7++[yD]
def Pc:qn:=.vec 5 19 jsi
def jr6:List qa:=[OL,lL]
def jro:List qa:=[Li,oE]
def j92:List qa:=jro++[xX]
def jn8:List qa:=j92++[.str [51]]
def yE:qa:=.list I 1 [wm,oE,.str [51]]
def Pd:qa:=.agg [uV,wm,tO,po,.str []]
def Pe:qa:=.agg [Eg,wm,tO,po,.str []]
def jkh:qa:=.int .i64 31
def Pg:qa:=.aC [wj,jkh]
def zgh:List qa:=[OX,oE]
def zai:List qa:=zgh++[x6]
def jpv:List qa:=zai++[.str [51]]
def Ph:qa:=.agg [Ej,wm,tO,po,.str []]
def jjt:qa:=.int .i64 34
def Ev:qa:=.list I 1 [ym]
def Pj:qa:=.agg [Em,wm,tO,po,.str []]
def jkq:qa:=.int .i64 32
def Pl:qa:=.agg [Eo,wm,tO,po,.str []]
def Pm:qa:=.agg [CR,wm,tO,po,.str []]
def CS:qa:=.int .i64 21
def jjq:qa:=.agg [CS,ym,Ek,eZ,.str []]
def Pn:qa:=.agg [CS,Li,jud,jqy,.str []]
def jj9:qa:=.str [49,32,108,111,116,32,99,111,110,101,95,49,32,99,111,110,101,32,49,32,49,48]
def jkk:qa:=.str [50,32,108,111,116,32,99,111,105,108,95,49,32,99,111,105,108,32,49,32,53]
def jj7:qa:=.str [51,32,112,114,111,100,117,99,116,32,98,111,120,32,49]
def jkd:qa:=.str [52,32,110,101,101,100,32,98,111,120,32,99,111,110,101,32,49,32,50]
def jki:qa:=.str [53,32,110,101,101,100,32,98,111,120,32,99,111,105,108,32,49,32,49]
def jj2:qa:=.str [54,32,116,101,115,116,32,98,111,120,32,115,119,101,101,112,32,49,32,56,48,32,57,48]
def jj4:qa:=.str [55,32,105,115,115,117,101,32,98,111,120,32,50]
def jjx:qa:=.str [56,32,98,117,105,108,100,32,117,49,32,98,111,120,32,51]
def jjw:qa:=.str [57,32,117,115,101,32,117,49,32,99,111,110,101,95,49,32,51,32,50]
def jko:qa:=.str [49,48,32,117,115,101,32,117,49,32,99,111,105,108,95,49,32,51,32,49]
def jj5:qa:=.str [49,49,32,109,101,97,115,117,114,101,32,117,49,32,115,119,101,101,112,32,51,32,56,53]
def jkc:qa:=.str [49,50,32,104,111,108,100,32,99,111,105,108,95,49,32,51]
def jkg:qa:=.str [49,51,32,117,110,100,111]
def jkp:qa:=.str [49,52,32,105,115,115,117,101,32,98,111,120,32,51]
def jke:qa:=.str [49,53,32,117,112,100,97,116,101,32,117,49,32,51]
def jkr:qa:=.str [49,54,32,117,110,100,111]
def jjr:qa:=.str [49,55,32,117,110,100,111]
def jkl:qa:=.str [49,56,32,109,101,97,115,117,114,101,32,117,49,32,115,119,101,101,112,32,51,32,57,49]
def jkm:qa:=.str [49,57,32,117,110,100,111]
def jjv:qa:=.str [50,48,32,115,104,105,112,32,117,49,32,51]
def Po:qa:=.list I 5 jsi
def yF:List qa:=[.ptr 0 0,.str [115,104,105,112,32,117,49,32,51]]
def Pp:qa:=.aC [.str [],jkh]
def jsk:List qa:=[.ptr 0 0,.str [109,105,115,115,105,110,103,32,117,49]]
def jj6:qa:=.aC [.str [110,111,110,101],bQ]
def jqg:List qa:=[.ptr 0 0,.str [115,116,111,99,107,32,99,111,105,108]]
def Ew:List qa:=[.ptr 0 0,ym]
def jqb:List qa:=[.ptr 0 0,.str [115,104,105,112,112,101,100]]
def hw1:j8:=[dv,dv,.vec 4 0 [wj]]
def hw2:j8:=[.cells [(.ak 7 0 1,I),(.ak 5 0 1,I),(.ak 2 1 2,I)],dv,.vec 4 1 lv1,.map yb,.map ya,bv2,.hole,bv2]
def hw3:j8:=[bv3,dv,bv4,.map yb,.map ya,K7,.hole,K7,.map yb,.map ya]
def hw4:j8:=[bv3,dv,bv4,.map yb,.map ya,K7,.hole,K7]
def hw5:j8:=[bv6,dv,bv7,.map yb,.map ya,K8,.hole,K8,.map yb,.map ya]
def hw6:j8:=[bv6,dv,bv7,.map yb,.map ya,K8,.hole,K8]
def hw7:j8:=[bv9,dv,jux,.map yb,.map ya,Lb,.hole,Lb,.map yb,.map ya]
def hw8:j8:=[bv9,dv,jux,.map yb,.map ya,Lb,.hole,Lb]
def hw9:j8:=[jsw,dv,joo,.map yb,.map ya,Lc,.hole,Lc,.map yb,.map ya]
def zd7:j8:=[jsw,dv,joo,.map yb,.map ya,Lc,.hole,Lc]
def zbd:j8:=[jpb,dv,jt8,.map yb,.map ya,Ld,.hole,Ld,.map yb,.map ya]
def zfa:j8:=[jpb,dv,jt8,.map yb,.map ya,Ld,.hole,Ld]
def zdx:j8:=[jsv,dv,jpe,.map yb,.map ya,Le,.hole,Le,.map yb,.map ya]
def zck:j8:=[jsv,dv,jpe,.map yb,.map ya,Le,.hole,Le]
def zbt:j8:=[jp9,dv,jte,.map yb,.map ya,Lg,.hole,Lg,.map yb,.map ya]
def zfd:j8:=[jp9,dv,jte,.map yb,.map ya,Lg,.hole,Lg]
def jo3:j8:=[jq4,dv,jrn,.map yb,.map ya,Lj,.hole,Lj,.map yb,.map ya]
def joz:j8:=[jq4,dv,jrn,.map yb,.map ya,Lj,.hole,Lj]
def jr0:j8:=[OQ,dv,OS,.map yb,.map ya,CK,.hole,CK,.map yb,.map ya]
def Pq:j8:=[OQ,dv,OS,.map yb,.map ya,CK,.hole,CK]
def za3:j8:=[OQ,dv,OS,.map yb,.map ya,CK,.hole,CK,.map yb]
def zar:j8:=[OT,dv,OW,.map yb,.map ya,CN,.hole,CN,.map yb,.map ya]
def jr9:j8:=[OT,dv,OW,.map yb,.map ya,CN,.hole,CN]
def zf9:j8:=[OT,dv,OW,.map yb,.map ya,CN,.hole,CN,.map yb]
def jta:j8:=[OY,dv,Ei,.map yb,.map ya,wk,.hole,wk,.map yb,.map ya]
def Pr:j8:=[OY,dv,Ei,.map yb,.map ya,wk,.hole,wk]
def zb1:j8:=[OY,dv,Ei,.map yb,.map ya,wk,.hole,wk,.map yb]
def zbm:j8:=[joa,dv,Ei,.map yb,.map ya,wk,.hole,jrc,.map yb,.map ya]
def zhi:j8:=[joa,dv,Ei,.map yb,.map ya,wk,.hole,jrc]
def jrb:j8:=[jts,dv,jpm,.map yb,.map ya,jn9,.hole,jt2,.map yb,.map ya]
def jqf:j8:=[jts,dv,jpm,.map yb,.map ya,jn9,.hole,jt2]
def jsz:j8:=[jra,dv,CP,.map yb,.map ya,CQ,.hole,juc,.map yb,.map ya]
def jq9:j8:=[jra,dv,CP,.map yb,.map ya,CQ,.hole,juc]
def zcm:j8:=[jr3,dv,CP,.map yb,.map ya,CQ,.hole,juo,.map yb,.map ya]
def zfo:j8:=[jr3,dv,CP,.map yb,.map ya,CQ,.hole,juo]
def zcy:j8:=[jsh,dv,CP,.map yb,.map ya,CQ,.hole,juv,.map yb,.map ya]
def zde:j8:=[jsh,dv,CP,.map yb,.map ya,CQ,.hole,juv]
def jod:j8:=[jpg,dv,Es,.map yb,.map ya,Et,.hole,jti,.map yb,.map ya]
def jov:j8:=[jpg,dv,Es,.map yb,.map ya,Et,.hole,jti]
def zd9:j8:=[O6,dv,Es,.map yb,.map ya,Et,.hole,O7,.map yb,.map ya]
def Ey:j8:=[O6,dv,Es,.map yb,.map ya,Et,.hole,O7]
def Lp:j8:=[O6,dv,Es,.map yb,.map ya,Et,.hole,O7,.map yb]
def Ps:j8:=[O8,dv,Pa,.map yb,.map ya,Pb,.hole,Pc,.map yb,.map ya]
def Pt:j8:=[O8,dv,Pa,.map yb,.map ya,Pb,.hole,Pc]
def ze4:j8:=[O8,dv,Pa,.map yb,.map ya,Pb,.hole,Pc,.map yb]
def e1:Row:=([.list I 1 [K6,xX,Cx,.str [49],.str [49,48]],gu],.aC [xY,fm],I)
def e2:Row:=([xY],bQ,I)
def e3:Row:=([wj,xY],.aC [Ow,bQ],I)
def e4:Row:=([.list I 1 [K6,uW,Cy,.str [49],.str [53]],tN],.aC [Cz,fm],I)
def e5:Row:=([Cz],bQ,I)
def e6:Row:=([Ow,Cz],.aC [Ox,bQ],I)
def e7:Row:=([.list I 1 [jun,lL,.str [49]],oD],.aC [CA,fm],I)
def e8:Row:=([CA],bQ,I)
def e9:Row:=([Ox,CA],.aC [Oy,bQ],I)
def Pu:Row:=([.list I 1 [La,lL,Cx,.str [49],.str [50]],K9],.aC [CC,fm],I)
def Pv:Row:=([CC],bQ,I)
def Px:Row:=([Oy,CC],.aC [OA,bQ],I)
def Py:Row:=([.list I 1 [La,lL,Cy,.str [49],.str [49]],xZ],.aC [CD,fm],I)
def Pz:Row:=([CD],bQ,I)
def PA:Row:=([OA,CD],.aC [OC,bQ],I)
def PB:Row:=([.list I 1 [js1,lL,x6,.str [49],.str [56,48],.str [57,48]],OG],.aC [CF,fm],I)
def PD:Row:=([CF],bQ,I)
def PE:Row:=([OC,CF],.aC [OE,bQ],I)
def PF:Row:=([.list I 1 ((jr6++[.str [50]])),OJ],.aC [CG,fm],I)
def PG:Row:=([CG],bQ,I)
def PH:Row:=([OE,CG],.aC [OI,bQ],I)
def PI:Row:=([.list I 1 [jp3,oE,lL,.str [51]],Lf],.aC [CH,fm],I)
def PJ:Row:=([CH],bQ,I)
def PK:Row:=([OI,CH],.aC [OM,bQ],I)
def PL:Row:=([.list I 1 ((jn8++[.str [50]])),OP],.aC [CI,fm],I)
def PN:Row:=([CI],bQ,I)
def PO:Row:=([OM,CI],.aC [Lh,bQ],I)
def PP:Row:=([yE,uV],.aC [Pd,fm],I)
def PQ:Row:=([Pd],bQ,I)
def PR:Row:=([Lh,Pd],.aC [wj,Ln],I)
def PS:Row:=([.list I 1 ((jro++[uW,.str [51],.str [49]])),uV],.aC [CJ,fm],I)
def PT:Row:=([CJ],bQ,I)
def PU:Row:=([Lh,CJ],.aC [Ll,bQ],I)
def PV:Row:=([yE,Eg],.aC [Pe,fm],I)
def PW:Row:=([Pe],bQ,I)
def PX:Row:=([Ll,Pe],Pg,I)
def PY:Row:=([.list I 1 ((jpv++[.str [56,53]])),Eg],.aC [CM,fm],I)
def PZ:Row:=([CM],bQ,I)
def P0:Row:=([Ll,CM],.aC [CL,bQ],I)
def P1:Row:=([.list I 1 [jug,uW,.str [51]],O0],.aC [CO,fm],I)
def P2:Row:=([CO],bQ,I)
def P3:Row:=([CL,CO],.aC [OZ,bQ],I)
def P4:Row:=([yE,Ej],.aC [Ph,fm],I)
def P5:Row:=([Ph],bQ,I)
def P6:Row:=([OZ,Ph],.aC [wj,jjt],I)
def P7:Row:=([Ev,Ej],.aC [El,fm],I)
def P8:Row:=([El],bQ,I)
def P9:Row:=([.list I 1 ((jr6++[.str [51]])),O1],.aC [yA,fm],I)
def Qa:Row:=([yA],bQ,I)
def Qb:Row:=([CL,yA],.aC [Lm,bQ],I)
def Qc:Row:=([yE,Em],.aC [Pj,fm],I)
def Qd:Row:=([Pj],bQ,I)
def Qe:Row:=([Lm,Pj],.aC [wj,jkq],I)
def Qf:Row:=([.list I 1 [jor,oE,.str [51]],Em],.aC [yB,fm],I)
def Qg:Row:=([yB],bQ,I)
def Qh:Row:=([Lm,yB],.aC [O2,bQ],I)
def Qi:Row:=([yE,Eo],.aC [Pl,fm],I)
def Qj:Row:=([Pl],bQ,I)
def Qk:Row:=([O2,Pl],Pg,I)
def Ql:Row:=([Ev,Eo],.aC [Ep,fm],I)
def Qm:Row:=([Ep],bQ,I)
def Qn:Row:=([Ev,O3],.aC [Er,fm],I)
def Qo:Row:=([Er],bQ,I)
def Qp:Row:=([.list I 1 ((jpv++[.str [57,49]])),O5],.aC [yC,fm],I)
def Qq:Row:=([yC],bQ,I)
def Qr:Row:=([CL,yC],.aC [O4,bQ],I)
def Qs:Row:=([yE,CR],.aC [Pm,fm],I)
def Qt:Row:=([Pm],bQ,I)
def Qu:Row:=([O4,Pm],Pg,I)
def Qv:Row:=([Ev,CR],.aC [Eu,fm],I)
def Qw:Row:=([Eu],bQ,I)
def Qx:Row:=([yE,Ln],.aC [yD,fm],I)
def Qy:Row:=([yD],bQ,I)
def Qz:Row:=([CL,yD],.aC [O9,bQ],I)
def QA:Row:=([Ev,CS],.aC [jjq,fm],I)
def QB:Row:=([jjq],bQ,I)
def QC:Row:=([.list I 1 ((jn8++[.str [49]])),CS],.aC [Pn,fm],I)
def QD:Row:=([Pn],bQ,I)
def QE:Row:=([O9,Pn],.aC [wj,CS],I)
def QF:Row:=([xY],jj9,I)
def QG:Row:=([jj9],.str [51,57,56,57,49,56,50],I)
def QH:Row:=([Cz],jkk,I)
def QI:Row:=([jkk],.str [48,49,55,50,54,57,55],I)
def QJ:Row:=([CA],jj7,I)
def QK:Row:=([jj7],.str [54,49,49,52,48,56,52],I)
def QL:Row:=([CC],jkd,I)
def QM:Row:=([jkd],.str [49,55,56,55,50,51,49],I)
def QN:Row:=([CD],jki,I)
def QO:Row:=([jki],.str [50,52,55,55,51,52,50],I)
def QP:Row:=([CF],jj2,I)
def QQ:Row:=([jj2],.str [50,48,50,49,51,55,56],I)
def QR:Row:=([CG],jj4,I)
def QS:Row:=([jj4],.str [57,55,57,50,54,57,53],I)
def QT:Row:=([CH],jjx,I)
def QU:Row:=([jjx],.str [48,55,51,51,57,54,55],I)
def QV:Row:=([CI],jjw,I)
def QW:Row:=([jjw],.str [57,54,50,56,50,52,50],I)
def QX:Row:=([CJ],jko,I)
def QY:Row:=([jko],.str [51,51,55,48,50,52,48],I)
def QZ:Row:=([CM],jj5,I)
def Q0:Row:=([jj5],.str [56,50,52,48,49,52,56],I)
def Q5:Row:=([CO],jkc,I)
def Q6:Row:=([jkc],.str [53,50,48,49,49,53,55],I)
def Q7:Row:=([El],jkg,I)
def Q9:Row:=([jkg],.str [54,55,52,56,55,48,57],I)
def Ra:Row:=([yA],jkp,I)
def Rb:Row:=([jkp],.str [48,56,53,50,57,54,53],I)
def Rc:Row:=([yB],jke,I)
def Rf:Row:=([jke],.str [50,52,56,53,48,49,51],I)
def Rg:Row:=([Ep],jkr,I)
def Rh:Row:=([jkr],.str [56,51,50,54,51,57,51],I)
def Ri:Row:=([Er],jjr,I)
def Rj:Row:=([jjr],.str [50,49,56,53,54,57,53],I)
def Rk:Row:=([yC],jkl,I)
def Rl:Row:=([jkl],.str [50,51,54,49,51,49,55],I)
def Rm:Row:=([Eu],jkm,I)
def Rn:Row:=([jkm],.str [57,57,48,52,48,55,55],I)
def Ro:Row:=([yD],jjv,I)
def Rp:Row:=([jjv],.str [53,49,49,54,56,51,51],I)
def Rq:Row:=([.str [49,32,108,111,116,32,99,111,110,101,95,49,32,99,111,110,101,32,49,32,49,48,35,51,57,56,57,49,56,50],bQ],.aC [xY,bQ],I)
def Rr:Row:=([.str [50,32,108,111,116,32,99,111,105,108,95,49,32,99,111,105,108,32,49,32,53,35,48,49,55,50,54,57,55],gu],.aC [Cz,bQ],I)
def Rs:Row:=([.str [51,32,112,114,111,100,117,99,116,32,98,111,120,32,49,35,54,49,49,52,48,56,52],tN],.aC [CA,bQ],I)
def Rt:Row:=([.str [52,32,110,101,101,100,32,98,111,120,32,99,111,110,101,32,49,32,50,35,49,55,56,55,50,51,49],oD],.aC [CC,bQ],I)
def Ru:Row:=([.str [53,32,110,101,101,100,32,98,111,120,32,99,111,105,108,32,49,32,49,35,50,52,55,55,51,52,50],K9],.aC [CD,bQ],I)
def Rv:Row:=([.str [54,32,116,101,115,116,32,98,111,120,32,115,119,101,101,112,32,49,32,56,48,32,57,48,35,50,48,50,49,51,55,56],xZ],.aC [CF,bQ],I)
def Rw:Row:=([.str [55,32,105,115,115,117,101,32,98,111,120,32,50,35,57,55,57,50,54,57,53],OG],.aC [CG,bQ],I)
def Rx:Row:=([.str [56,32,98,117,105,108,100,32,117,49,32,98,111,120,32,51,35,48,55,51,51,57,54,55],OJ],.aC [CH,bQ],I)
def Ry:Row:=([.str [57,32,117,115,101,32,117,49,32,99,111,110,101,95,49,32,51,32,50,35,57,54,50,56,50,52,50],Lf],.aC [CI,bQ],I)
def Rz:Row:=([.str [49,48,32,117,115,101,32,117,49,32,99,111,105,108,95,49,32,51,32,49,35,51,51,55,48,50,52,48],OP],.aC [CJ,bQ],I)
def RA:Row:=([.str [49,49,32,109,101,97,115,117,114,101,32,117,49,32,115,119,101,101,112,32,51,32,56,53,35,56,50,52,48,49,52,56],uV],.aC [CM,bQ],I)
def RB:Row:=([.str [49,50,32,104,111,108,100,32,99,111,105,108,95,49,32,51,35,53,50,48,49,49,53,55],Eg],.aC [CO,bQ],I)
def RC:Row:=([.str [49,51,32,117,110,100,111,35,54,55,52,56,55,48,57],O0],.aC [El,bQ],I)
def RD:Row:=([.str [49,52,32,105,115,115,117,101,32,98,111,120,32,51,35,48,56,53,50,57,54,53],Ej],.aC [yA,bQ],I)
def RE:Row:=([.str [49,53,32,117,112,100,97,116,101,32,117,49,32,51,35,50,52,56,53,48,49,51],O1],.aC [yB,bQ],I)
def RF:Row:=([.str [49,54,32,117,110,100,111,35,56,51,50,54,51,57,51],Em],.aC [Ep,bQ],I)
def RG:Row:=([.str [49,55,32,117,110,100,111,35,50,49,56,53,54,57,53],Eo],.aC [Er,bQ],I)
def RH:Row:=([.str [49,56,32,109,101,97,115,117,114,101,32,117,49,32,115,119,101,101,112,32,51,32,57,49,35,50,51,54,49,51,49,55],O3],.aC [yC,bQ],I)
def RI:Row:=([.str [49,57,32,117,110,100,111,35,57,57,48,52,48,55,55],O5],.aC [Eu,bQ],I)
def RJ:Row:=([.str [50,48,32,115,104,105,112,32,117,49,32,51,35,53,49,49,54,56,51,51],CR],.aC [yD,bQ],I)
def RL:Row:=([Po,jqz],.aC [tO,bQ],I)
def RM:Row:=([Po,tO],.aC [.list I 1 [xX,uW],bQ],I)
def RN:Row:=([.str [49,32,108,111,116,32,99,111,110,101,95,49,32,99,111,110,101,32,49,32,49,48,35,51,57,56,57,49,56,50,10,50,32,108,111,116,32,99,111,105,108,95,49,32,99,111,105,108,32,49,32,53,35,48,49,55,50,54,57,55,10,51,32,112,114,111,100,117,99,116,32,98,111,120,32,49,35,54,49,49,52,48,56,52,10,52,32,110,101,101,100,32,98,111,120,32,99,111,110,101,32,49,32,50,35,49,55,56,55,50,51,49,10,53,32,110,101,101,100,32,98,111,120,32,99,111,105,108,32,49,32,49,35,50,52,55,55,51,52,50,10,54,32,116,101,115,116,32,98,111,120,32,115,119,101,101,112,32,49,32,56,48,32,57,48,35,50,48,50,49,51,55,56,10,55,32,105,115,115,117,101,32,98,111,120,32,50,35,57,55,57,50,54,57,53,10,56,32,98,117,105,108,100,32,117,49,32,98,111,120,32,51,35,48,55,51,51,57,54,55,10,57,32,117,115,101,32,117,49,32,99,111,110,101,95,49,32,51,32,50,35,57,54,50,56,50,52,50,10,49,48,32,117,115,101,32,117,49,32,99,111,105,108,95,49,32,51,32,49,35,51,51,55,48,50,52,48,10,49,49,32,109,101,97,115,117,114,101,32,117,49,32,115,119,101,101,112,32,51,32,56,53,35,56,50,52,48,49,52,56,10,49,50,32,104,111,108,100,32,99,111,105,108,95,49,32,51,35,53,50,48,49,49,53,55,10,49,51,32,117,110,100,111,35,54,55,52,56,55,48,57,10,49,52,32,105,115,115,117,101,32,98,111,120,32,51,35,48,56,53,50,57,54,53,10,49,53,32,117,112,100,97,116,101,32,117,49,32,51,35,50,52,56,53,48,49,51,10,49,54,32,117,110,100,111,35,56,51,50,54,51,57,51,10,49,55,32,117,110,100,111,35,50,49,56,53,54,57,53,10,49,56,32,109,101,97,115,117,114,101,32,117,49,32,115,119,101,101,112,32,51,32,57,49,35,50,51,54,49,51,49,55,10,49,57,32,117,110,100,111,35,57,57,48,52,48,55,55,10,50,48,32,115,104,105,112,32,117,49,32,51,35,53,49,49,54,56,51,51,10,49]],.aC [Po,.int .i64 500,.int .i64 29],I)
def r1:dH:=([.ptr 0 0,.str [108,111,116,32,99,111,110,101,95,49,32,99,111,110,101,32,49,32,49,48]],hw1,.aC [.str [100,111,110,101,32,49],bQ],I,hw2)
def r2:dH:=([.ptr 0 0,.str [108,111,116,32,99,111,105,108,95,49,32,99,111,105,108,32,49,32,53]],hw2,.aC [.str [100,111,110,101,32,50],bQ],I,hw3)
def r3:dH:=([.ptr 0 0,.str [112,114,111,100,117,99,116,32,98,111,120,32,49]],hw4,.aC [.str [100,111,110,101,32,51],bQ],I,hw5)
def r4:dH:=([.ptr 0 0,.str [110,101,101,100,32,98,111,120,32,99,111,110,101,32,49,32,50]],hw6,.aC [.str [100,111,110,101,32,52],bQ],I,hw7)
def r5:dH:=([.ptr 0 0,.str [110,101,101,100,32,98,111,120,32,99,111,105,108,32,49,32,49]],hw8,.aC [.str [100,111,110,101,32,53],bQ],I,hw9)
def r6:dH:=([.ptr 0 0,.str [116,101,115,116,32,98,111,120,32,115,119,101,101,112,32,49,32,56,48,32,57,48]],zd7,.aC [.str [100,111,110,101,32,54],bQ],I,zbd)
def r7:dH:=([.ptr 0 0,.str [105,115,115,117,101,32,98,111,120,32,50]],zfa,.aC [.str [100,111,110,101,32,55],bQ],I,zdx)
def r8:dH:=([.ptr 0 0,.str [98,117,105,108,100,32,117,49,32,98,111,120,32,51]],zck,.aC [.str [100,111,110,101,32,56],bQ],I,zbt)
def r9:dH:=([.ptr 0 0,.str [117,115,101,32,117,49,32,99,111,110,101,95,49,32,51,32,50]],zfd,.aC [.str [100,111,110,101,32,57],bQ],I,jo3)
def Lq:dH:=(yF,joz,.aC [.str [],Ln],I,jo3)
def Lr:dH:=([.ptr 0 0,.str [117,115,101,32,117,49,32,99,111,105,108,95,49,32,51,32,49]],joz,.aC [.str [100,111,110,101,32,49,48],bQ],I,jr0)
def Ls:dH:=(yF,Pq,Pp,I,jr0)
def Lt:dH:=(jsk,Pq,.aC [x6,bQ],I,za3)
def Lu:dH:=([.ptr 0 0,.str [109,101,97,115,117,114,101,32,117,49,32,115,119,101,101,112,32,51,32,56,53]],Pq,.aC [.str [100,111,110,101,32,49,49],bQ],I,zar)
def Lw:dH:=(jsk,jr9,jj6,I,zf9)
def Lx:dH:=([.ptr 0 0,.str [104,111,108,100,32,99,111,105,108,95,49,32,51]],jr9,.aC [.str [100,111,110,101,32,49,50],bQ],I,jta)
def wo:dH:=(yF,Pr,.aC [.str [],jjt],I,jta)
def yG:dH:=(jqg,Pr,.aC [.str [48],bQ],I,zb1)
def Ly:dH:=(Ew,Pr,.aC [.str [100,111,110,101,32,49,51],bQ],I,zbm)
def Lz:dH:=([.ptr 0 0,.str [105,115,115,117,101,32,98,111,120,32,51]],zhi,.aC [.str [100,111,110,101,32,49,52],bQ],I,jrb)
def LA:dH:=(yF,jqf,.aC [.str [],jkq],I,jrb)
def LB:dH:=([.ptr 0 0,.str [117,112,100,97,116,101,32,117,49,32,51]],jqf,.aC [.str [100,111,110,101,32,49,53],bQ],I,jsz)
def LC:dH:=(yF,jq9,Pp,I,jsz)
def LD:dH:=(Ew,jq9,.aC [.str [100,111,110,101,32,49,54],bQ],I,zcm)
def LG:dH:=(Ew,zfo,.aC [.str [100,111,110,101,32,49,55],bQ],I,zcy)
def LH:dH:=([.ptr 0 0,.str [109,101,97,115,117,114,101,32,117,49,32,115,119,101,101,112,32,51,32,57,49]],zde,.aC [.str [100,111,110,101,32,49,56],bQ],I,jod)
def LI:dH:=(yF,jov,Pp,I,jod)
def LJ:dH:=(Ew,jov,.aC [.str [100,111,110,101,32,49,57],bQ],I,zd9)
def LK:dH:=([.ptr 0 0,.str [108,111,116,115,32,117,49]],Ey,.aC [.str [99,111,110,101,95,49,32,99,111,105,108,95,49],bQ],I,Lp)
def LL:dH:=([.ptr 0 0,.str [115,116,111,99,107,32,99,111,110,101]],Ey,.aC [.str [56],bQ],I,Lp)
def LM:dH:=(jqg,Ey,.aC [.str [52],bQ],I,Lp)
def LN:dH:=(jqb,Ey,jj6,I,Lp)
def LO:dH:=(yF,Ey,.aC [.str [100,111,110,101,32,50,48],bQ],I,Ps)
def LP:dH:=(Ew,Pt,.aC [.str [],CR],I,Ps)
def LQ:dH:=([.ptr 0 0,.str [117,115,101,32,117,49,32,99,111,110,101,95,49,32,51,32,49]],Pt,.aC [.str [],CS],I,Ps)
def LR:dH:=(jqb,Pt,.aC [oE,bQ],I,ze4)
set_option maxRecDepth 100000
theorem w21:jz bq xL 121 PH.1=En PH.2:=by kernel_rfl
theorem w25:jz bq xL 152 PL.1=En PL.2:=by kernel_rfl
theorem w26:jz bq xL 11 PN.1=En PN.2:=by kernel_rfl
theorem w37:jz bq xL 152 PY.1=En PY.2:=by kernel_rfl
theorem w48:jz bq xL 152 P9.1=En P9.2:=by kernel_rfl
theorem w51:jz bq xL 152 Qc.1=En Qc.2:=by kernel_rfl
theorem w56:jz bq xL 121 Qh.1=En Qh.2:=by kernel_rfl
theorem w74:jz bq xL 121 Qz.1=En Qz.2:=by kernel_rfl
theorem w82:jz bq xL 157 QH.1=En QH.2:=by kernel_rfl
theorem w90:jz bq xL 157 QP.1=En QP.2:=by kernel_rfl
theorem w93:jz bq xL 158 QS.1=En QS.2:=by kernel_rfl
theorem zcd:jz bq xL 158 Rh.1=En Rh.2:=by kernel_rfl
theorem zd0:jz bq xL 158 Rl.1=En Rl.2:=by kernel_rfl
theorem zc5:jz bq xL 157 Rm.1=En Rm.2:=by kernel_rfl
theorem zdt:jz bq xL 157 Ro.1=En Ro.2:=by kernel_rfl
theorem zgu:jz bq xL 103 Rr.1=En Rr.2:=by kernel_rfl
theorem ze0:jz bq xL 103 Rz.1=En Rz.2:=by kernel_rfl
theorem zcg:jz bq xL 103 RF.1=En RF.2:=by kernel_rfl
theorem w4:jz bq xL 152 e4.1=En e4.2:=by kernel_rfl
theorem w11:jz bq xL 11 Pv.1=En Pv.2:=by kernel_rfl
theorem w18:jz bq xL 121 PE.1=En PE.2:=by kernel_rfl
theorem w19:jz bq xL 152 PF.1=En PF.2:=by kernel_rfl
theorem w29:jz bq xL 11 PQ.1=En PQ.2:=by kernel_rfl
theorem w38:jz bq xL 11 PZ.1=En PZ.2:=by kernel_rfl
theorem w45:jz bq xL 121 P6.1=En P6.2:=by kernel_rfl
theorem w46:jz bq xL 152 P7.1=En P7.2:=by kernel_rfl
theorem w53:jz bq xL 121 Qe.1=En Qe.2:=by kernel_rfl
theorem w57:jz bq xL 152 Qi.1=En Qi.2:=by kernel_rfl
theorem w61:jz bq xL 11 Qm.1=En Qm.2:=by kernel_rfl
theorem w64:jz bq xL 152 Qp.1=En Qp.2:=by kernel_rfl
theorem w91:jz bq xL 158 QQ.1=En QQ.2:=by kernel_rfl
theorem w96:jz bq xL 157 QV.1=En QV.2:=by kernel_rfl
theorem zej:jz bq xL 158 Rj.1=En Rj.2:=by kernel_rfl
theorem zij:jz bq xL 103 Rt.1=En Rt.2:=by kernel_rfl
theorem zih:jz bq xL 103 RB.1=En RB.2:=by kernel_rfl
theorem zcp:jz bq xL 103 RG.1=En RG.2:=by kernel_rfl
theorem w14:jz bq xL 11 Pz.1=En Pz.2:=by kernel_rfl
theorem w15:jz bq xL 121 PA.1=En PA.2:=by kernel_rfl
theorem w16:jz bq xL 152 PB.1=En PB.2:=by kernel_rfl
theorem w35:jz bq xL 11 PW.1=En PW.2:=by kernel_rfl
theorem w39:jz bq xL 121 P0.1=En P0.2:=by kernel_rfl
theorem w49:jz bq xL 11 Qa.1=En Qa.2:=by kernel_rfl
theorem w54:jz bq xL 152 Qf.1=En Qf.2:=by kernel_rfl
theorem w59:jz bq xL 121 Qk.1=En Qk.2:=by kernel_rfl
theorem w60:jz bq xL 152 Ql.1=En Ql.2:=by kernel_rfl
theorem w63:jz bq xL 11 Qo.1=En Qo.2:=by kernel_rfl
theorem w65:jz bq xL 11 Qq.1=En Qq.2:=by kernel_rfl
theorem w67:jz bq xL 152 Qs.1=En Qs.2:=by kernel_rfl
theorem zhb:jz bq xL 158 Rn.1=En Rn.2:=by kernel_rfl
theorem zed:jz bq xL 103 Rq.1=En Rq.2:=by kernel_rfl
theorem zcv:jz bq xL 103 Ru.1=En Ru.2:=by kernel_rfl
theorem zhf:jz bq xL 103 Rw.1=En Rw.2:=by kernel_rfl
theorem zee:jz bq xL 103 Rx.1=En Rx.2:=by kernel_rfl
theorem j9i:jz bq xL 103 RI.1=En RI.2:=by kernel_rfl
theorem w7:jz bq xL 152 e7.1=En e7.2:=by kernel_rfl
theorem w8:jz bq xL 11 e8.1=En e8.2:=by kernel_rfl
theorem w10:jz bq xL 152 Pu.1=En Pu.2:=by kernel_rfl
theorem w12:jz bq xL 121 Px.1=En Px.2:=by kernel_rfl
theorem w36:jz bq xL 121 PX.1=En PX.2:=by kernel_rfl
theorem w44:jz bq xL 11 P5.1=En P5.2:=by kernel_rfl
theorem w62:jz bq xL 152 Qn.1=En Qn.2:=by kernel_rfl
theorem w69:jz bq xL 121 Qu.1=En Qu.2:=by kernel_rfl
theorem w71:jz bq xL 11 Qw.1=En Qw.2:=by kernel_rfl
theorem w72:jz bq xL 152 Qx.1=En Qx.2:=by kernel_rfl
theorem w83:jz bq xL 158 QI.1=En QI.2:=by kernel_rfl
theorem w86:jz bq xL 157 QL.1=En QL.2:=by kernel_rfl
theorem w95:jz bq xL 158 QU.1=En QU.2:=by kernel_rfl
theorem j90:jz bq xL 157 QZ.1=En QZ.2:=by kernel_rfl
theorem zgk:jz bq xL 157 Ra.1=En Ra.2:=by kernel_rfl
theorem zft:jz bq xL 103 Rs.1=En Rs.2:=by kernel_rfl
theorem zac:jz bq xL 103 RA.1=En RA.2:=by kernel_rfl
theorem w9:jz bq xL 121 e9.1=En e9.2:=by kernel_rfl
theorem w13:jz bq xL 152 Py.1=En Py.2:=by kernel_rfl
theorem w20:jz bq xL 11 PG.1=En PG.2:=by kernel_rfl
theorem w22:jz bq xL 152 PI.1=En PI.2:=by kernel_rfl
theorem w33:jz bq xL 121 PU.1=En PU.2:=by kernel_rfl
theorem w40:jz bq xL 152 P1.1=En P1.2:=by kernel_rfl
theorem w41:jz bq xL 11 P2.1=En P2.2:=by kernel_rfl
theorem w52:jz bq xL 11 Qd.1=En Qd.2:=by kernel_rfl
theorem w66:jz bq xL 121 Qr.1=En Qr.2:=by kernel_rfl
theorem w70:jz bq xL 152 Qv.1=En Qv.2:=by kernel_rfl
theorem w76:jz bq xL 11 QB.1=En QB.2:=by kernel_rfl
theorem w87:jz bq xL 158 QM.1=En QM.2:=by kernel_rfl
theorem w88:jz bq xL 157 QN.1=En QN.2:=by kernel_rfl
theorem w99:jz bq xL 158 QY.1=En QY.2:=by kernel_rfl
theorem zho:jz bq xL 158 Q6.1=En Q6.2:=by kernel_rfl
theorem j9t:jz bq xL 157 Rk.1=En Rk.2:=by kernel_rfl
theorem zgc:jz bq xL 103 RH.1=En RH.2:=by kernel_rfl
theorem w2:jz bq xL 11 e2.1=En e2.2:=by kernel_rfl
theorem w6:jz bq xL 121 e6.1=En e6.2:=by kernel_rfl
theorem w28:jz bq xL 152 PP.1=En PP.2:=by kernel_rfl
theorem w30:jz bq xL 121 PR.1=En PR.2:=by kernel_rfl
theorem w32:jz bq xL 11 PT.1=En PT.2:=by kernel_rfl
theorem w55:jz bq xL 11 Qg.1=En Qg.2:=by kernel_rfl
theorem w58:jz bq xL 11 Qj.1=En Qj.2:=by kernel_rfl
theorem w75:jz bq xL 152 QA.1=En QA.2:=by kernel_rfl
theorem w79:jz bq xL 121 QE.1=En QE.2:=by kernel_rfl
theorem w84:jz bq xL 157 QJ.1=En QJ.2:=by kernel_rfl
theorem w85:jz bq xL 158 QK.1=En QK.2:=by kernel_rfl
theorem w89:jz bq xL 158 QO.1=En QO.2:=by kernel_rfl
theorem zim:jz bq xL 157 Q7.1=En Q7.2:=by kernel_rfl
theorem zcf:jz bq xL 103 Rv.1=En Rv.2:=by kernel_rfl
theorem zg5:jz bq xL 103 Ry.1=En Ry.2:=by kernel_rfl
theorem zhr:jz bq xL 103 RD.1=En RD.2:=by kernel_rfl
theorem zdd:jz bq xL 103 RJ.1=En RJ.2:=by kernel_rfl
theorem w3:jz bq xL 121 e3.1=En e3.2:=by kernel_rfl
theorem w23:jz bq xL 11 PJ.1=En PJ.2:=by kernel_rfl
theorem w27:jz bq xL 121 PO.1=En PO.2:=by kernel_rfl
theorem w31:jz bq xL 152 PS.1=En PS.2:=by kernel_rfl
theorem w34:jz bq xL 152 PV.1=En PV.2:=by kernel_rfl
theorem w42:jz bq xL 121 P3.1=En P3.2:=by kernel_rfl
theorem w68:jz bq xL 11 Qt.1=En Qt.2:=by kernel_rfl
theorem w78:jz bq xL 11 QD.1=En QD.2:=by kernel_rfl
theorem w80:jz bq xL 157 QF.1=En QF.2:=by kernel_rfl
theorem w81:jz bq xL 158 QG.1=En QG.2:=by kernel_rfl
theorem w92:jz bq xL 157 QR.1=En QR.2:=by kernel_rfl
theorem w97:jz bq xL 158 QW.1=En QW.2:=by kernel_rfl
theorem ze6:jz bq xL 157 Q5.1=En Q5.2:=by kernel_rfl
theorem zbp:jz bq xL 158 Rb.1=En Rb.2:=by kernel_rfl
theorem zei:jz bq xL 157 Rg.1=En Rg.2:=by kernel_rfl
theorem zbw:jz bq xL 158 Rp.1=En Rp.2:=by kernel_rfl
theorem zef:jz bq xL 103 RE.1=En RE.2:=by kernel_rfl
theorem w1:jz bq xL 152 e1.1=En e1.2:=by kernel_rfl
theorem w5:jz bq xL 11 e5.1=En e5.2:=by kernel_rfl
theorem w17:jz bq xL 11 PD.1=En PD.2:=by kernel_rfl
theorem w24:jz bq xL 121 PK.1=En PK.2:=by kernel_rfl
theorem w43:jz bq xL 152 P4.1=En P4.2:=by kernel_rfl
theorem w47:jz bq xL 11 P8.1=En P8.2:=by kernel_rfl
theorem w50:jz bq xL 121 Qb.1=En Qb.2:=by kernel_rfl
theorem w73:jz bq xL 11 Qy.1=En Qy.2:=by kernel_rfl
theorem w77:jz bq xL 152 QC.1=En QC.2:=by kernel_rfl
theorem w94:jz bq xL 157 QT.1=En QT.2:=by kernel_rfl
theorem w98:jz bq xL 157 QX.1=En QX.2:=by kernel_rfl
theorem j9j:jz bq xL 158 Q0.1=En Q0.2:=by kernel_rfl
theorem za2:jz bq xL 158 Q9.1=En Q9.2:=by kernel_rfl
theorem zak:jz bq xL 157 Rc.1=En Rc.2:=by kernel_rfl
theorem zg4:jz bq xL 158 Rf.1=En Rf.2:=by kernel_rfl
theorem zht:jz bq xL 157 Ri.1=En Ri.2:=by kernel_rfl
theorem zhe:jz bq xL 103 RC.1=En RC.2:=by kernel_rfl
end Go.Z
namespace Go.Z
open Go Go.Abs Go.Proofs
def RO:List (Nat×List Row):=[(11,[e2,e5,e8,Pv,Pz,PD,PG,PJ,PN,PQ,PT,PW,PZ,P2,P5,P8,Qa,Qd,Qg,Qj,Qm,Qo,Qq,Qt,Qw,Qy,QB,QD]),(103,[Rq,Rr,Rs,Rt,Ru,Rv,Rw,Rx,Ry,Rz,RA,RB,RC,RD,RE,RF,RG,RH,RI,RJ]),(121,[e3,e6,e9,Px,PA,PE,PH,PK,PO,PR,PU,PX,P0,P3,P6,Qb,Qe,Qh,Qk,Qr,Qu,Qz,QE]),(152,[e1,e4,e7,Pu,Py,PB,PF,PI,PL,PP,PS,PV,PY,P1,P4,P7,P9,Qc,Qf,Qi,Ql,Qn,Qp,Qs,Qv,Qx,QA,QC]),(157,[QF,QH,QJ,QL,QN,QP,QR,QT,QV,QX,QZ,Q5,Q7,Ra,Rc,Rg,Ri,Rk,Rm,Ro]),(158,[QG,QI,QK,QM,QO,QQ,QS,QU,QW,QY,Q0,Q6,Q9,Rb,Rf,Rh,Rj,Rl,Rn,Rp])]
def tab:Nat→Option (List Row):=wu RO
theorem j4m:LS Tryz.prog tab:=
 RP (t:=RO) ⟨⟨zb br w2,zb br w5,zb br w8,zb br w11,zb br w14,zb br w17,zb br w20,zb br w23,zb br w26,zb br w29,zb br w32,zb br w35,zb br w38,zb br w41,zb br w44,zb br w47,zb br w49,zb br w52,zb br w55,zb br w58,zb br w61,zb br w63,zb br w65,zb br w68,zb br w71,zb br w73,zb br w76,zb br w78,trivial⟩,⟨zb br zed,zb br zgu,zb br zft,zb br zij,zb br zcv,zb br zcf,zb br zhf,zb br zee,zb br zg5,zb br ze0,zb br zac,zb br zih,zb br zhe,zb br zhr,zb br zef,zb br zcg,zb br zcp,zb br zgc,zb br j9i,zb br zdd,trivial⟩,⟨zb br w3,zb br w6,zb br w9,zb br w12,zb br w15,zb br w18,zb br w21,zb br w24,zb br w27,zb br w30,zb br w33,zb br w36,zb br w39,zb br w42,zb br w45,zb br w50,zb br w53,zb br w56,zb br w59,zb br w66,zb br w69,zb br w74,zb br w79,trivial⟩,⟨zb br w1,zb br w4,zb br w7,zb br w10,zb br w13,zb br w16,zb br w19,zb br w22,zb br w25,zb br w28,zb br w31,zb br w34,zb br w37,zb br w40,zb br w43,zb br w46,zb br w48,zb br w51,zb br w54,zb br w57,zb br w60,zb br w62,zb br w64,zb br w67,zb br w70,zb br w72,zb br w75,zb br w77,trivial⟩,⟨zb br w80,zb br w82,zb br w84,zb br w86,zb br w88,zb br w90,zb br w92,zb br w94,zb br w96,zb br w98,zb br j90,zb br ze6,zb br zim,zb br zgk,zb br zak,zb br zei,zb br zht,zb br j9t,zb br zc5,zb br zdt,trivial⟩,⟨zb br w81,zb br w83,zb br w85,zb br w87,zb br w89,zb br w91,zb br w93,zb br w95,zb br w97,zb br w99,zb br j9j,zb br zho,zb br za2,zb br zbp,zb br zg4,zb br zcd,zb br zej,zb br zd0,zb br zhb,zb br zbw,trivial⟩,trivial⟩
def dw:qt:={ bL:=bq.bL,cm:=fun k=>match tab k with
 |some l=>En fun args=>yH args l
 |none=>RQ k,di:=bq.di,maps:=bq.maps }
theorem dA:qx Tryz.prog dw where
 fn:=br.fn
 gF:=by
  intro k f hf
  simp only[dw]at hf
  split at hf
  ·rename_i l hl
   cases hf
   exact⟨tP (RR RO (by kernel_rfl) k l hl),fun args v o hv _ _=>j4m k l hl _ (LU hv)⟩
  ·exact br.gF k f hf
 mixed:=br.mixed
 fA:=br.fA
 maps:=br.maps
abbrev xA:=hM dw 1000
end Go.Z
