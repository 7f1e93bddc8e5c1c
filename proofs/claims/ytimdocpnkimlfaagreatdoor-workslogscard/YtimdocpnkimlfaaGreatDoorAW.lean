/- The values, states and rows of the examples' run. -/
import Derived.Test.YtimdocpnkimlfaaGreatDoorLA
set_option linter.unusedVariables false
set_option linter.unusedSimpArgs false
open Bool renaming false→I
open Option renaming some→Ea
namespace Go.Z
open Go Go.Abs Go.Proofs
abbrev xL:=yj bg 1000
def eV:AVal:=.list true 0 []
def di:aJ:=.cells [(eV,I),(eV,I),(.aA 2 0 1,I)]
def bF:AVal:=.int .i64 0
def sY:AVal:=.agg [bF,eV,eV,eV]
def gd:AVal:=.int .i64 1
def ux:AVal:=.str [99,111,110,101,95,49]
def Ap:AVal:=.str [99,111,110,101]
def rL:AVal:=.int .i64 10
def pY:AVal:=.bool I
def UN:AVal:=.agg [ux,Ap,rL,rL,pY]
def Ka:AVal:=.agg [gd,.list I 5 [UN],eV,eV]
def UO:List AVal:=[sY,Ka]
def Ge:AVal:=.str [108,111,116]
def UQ:List AVal:=[ux,Ap]
def uy:AVal:=.agg [gd,Ge,.list I 1 UQ,.list I 1 [gd,rL],.str []]
def UR:aJ:=.vec 5 0 [uy]
def US:aJ:=.cells [(.aA 7 1 2,I),(.aA 5 1 2,I),(.aA 2 2 3,I)]
def rM:AVal:=.str [99,111,105,108,95,49]
def Aq:AVal:=.str [99,111,105,108]
def uz:AVal:=.int .i64 5
def UT:AVal:=.agg [rM,Aq,uz,uz,pY]
def uA:AVal:=.list I 5 [UN,UT]
def Kb:AVal:=.agg [gd,uA,eV,eV]
def UU:List AVal:=UO++[Kb]
def UW:aJ:=.vec 4 2 UU
def pZ:AVal:=.int .i64 2
def UX:List AVal:=[rM,Aq]
def Ar:AVal:=.agg [pZ,Ge,.list I 1 UX,.list I 1 [gd,uz],.str []]
def UY:List AVal:=[uy,Ar]
def Gf:aJ:=.vec 5 1 UY
def UZ:aJ:=.cells [(.aA 7 2 3,I),(.aA 5 2 3,I),(.aA 2 3 4,I)]
def kY:AVal:=.str [98,111,120]
def Kc:AVal:=.agg [gd,uA,.list I 4 [.agg [kY,eV,eV,eV]],eV]
def U0:List AVal:=UU++[Kc]
def U1:aJ:=.vec 4 3 U0
def nC:AVal:=.int .i64 3
def U2:AVal:=.str [112,114,111,100,117,99,116]
def Ke:AVal:=.list I 1 [kY]
def As:AVal:=.agg [nC,U2,Ke,.list I 1 [gd],.str []]
def U3:List AVal:=UY++[As]
def Gg:aJ:=.vec 5 2 U3
def U4:aJ:=.cells [(.aA 7 3 4,I),(.aA 5 3 4,I),(.aA 2 4 5,I)]
def U5:AVal:=.agg [Ap,pZ]
def Kf:AVal:=.agg [gd,uA,.list I 4 [.agg [kY,.list I 2 [U5],eV,eV]],eV]
def U6:List AVal:=U0++[Kf]
def U7:aJ:=.vec 4 4 U6
def Gh:AVal:=.int .i64 4
def Gi:AVal:=.str [110,101,101,100]
def Au:AVal:=.agg [Gh,Gi,.list I 1 [kY,Ap],.list I 1 [gd,pZ],.str []]
def U8:List AVal:=U3++[Au]
def Gj:aJ:=.vec 5 3 U8
def U9:aJ:=.cells [(.aA 7 4 5,I),(.aA 5 4 5,I),(.aA 2 5 6,I)]
def Kg:AVal:=.list I 2 [U5,.agg [Aq,gd]]
def Kh:AVal:=.agg [gd,uA,.list I 4 [.agg [kY,Kg,eV,eV]],eV]
def Va:List AVal:=U6++[Kh]
def Vb:aJ:=.vec 4 5 Va
def Av:AVal:=.agg [uz,Gi,.list I 1 [kY,Aq],.list I 1 [gd,gd],.str []]
def Vc:List AVal:=U8++[Av]
def Gk:aJ:=.vec 5 4 Vc
def Vd:aJ:=.cells [(.aA 7 5 6,I),(.aA 5 5 6,I),(.aA 2 6 7,I)]
def jwz:List AVal:=[kY,Kg]
def uC:AVal:=.str [115,119,101,101,112]
def Ve:AVal:=.int .i64 80
def Vf:AVal:=.int .i64 90
def Vg:AVal:=.list I 3 [.agg [uC,Ve,Vf]]
def Ki:List AVal:=jwz++[Vg]
def Kj:AVal:=.agg [gd,uA,.list I 4 [.agg ((Ki++[eV]))],eV]
def Vh:List AVal:=Va++[Kj]
def Vi:aJ:=.vec 4 6 Vh
def Kk:AVal:=.int .i64 6
def Vj:AVal:=.str [116,101,115,116]
def Aw:AVal:=.agg [Kk,Vj,.list I 1 [kY,uC],.list I 1 [gd,Ve,Vf],.str []]
def Vk:List AVal:=Vc++[Aw]
def Gl:aJ:=.vec 5 5 Vk
def Vl:aJ:=.cells [(.aA 7 6 7,I),(.aA 5 6 7,I),(.aA 2 7 8,I)]
def Kl:AVal:=.agg [Kg,Vg]
def Co:AVal:=.list I 4 [.agg ((Ki++[.list I 2 [Kl]]))]
def Km:AVal:=.agg [pZ,uA,Co,eV]
def Vm:List AVal:=Vh++[Km]
def Vn:aJ:=.vec 4 7 Vm
def Kn:AVal:=.int .i64 7
def Ko:AVal:=.str [105,115,115,117,101]
def Ax:AVal:=.agg [Kn,Ko,Ke,.list I 1 [pZ],.str []]
def Vo:List AVal:=Vk++[Ax]
def Gm:aJ:=.vec 5 6 Vo
def Vp:aJ:=.cells [(.aA 7 7 8,I),(.aA 5 7 8,I),(.aA 2 8 9,I)]
def nD:AVal:=.str [117,49]
def Kp:AVal:=.agg [nC,uA,Co,.list I 8 [.agg [nD,kY,gd,eV,eV,.str [],pY,bF]]]
def Vq:List AVal:=Vm++[Kp]
def Vr:aJ:=.vec 4 8 Vq
def Gn:AVal:=.int .i64 8
def Vs:AVal:=.str [98,117,105,108,100]
def uD:List AVal:=[nD,kY]
def og:AVal:=.list I 1 [nC]
def Ay:AVal:=.agg [Gn,Vs,.list I 1 uD,og,.str []]
def Vt:List AVal:=Vo++[Ay]
def Gp:aJ:=.vec 5 7 Vt
def Vu:aJ:=.cells [(.aA 7 8 9,I),(.aA 5 8 9,I),(.aA 2 9 10,I)]
def Kq:AVal:=.agg ((UQ++[rL,Gn,pY]))
def Vv:AVal:=.agg [ux,pZ]
def Gq:AVal:=.agg [nC,.list I 5 [Kq,UT],Co,.list I 8 [.agg ((uD++[gd,.list I 2 [Vv],eV,.str [],pY,bF]))]]
def Vw:List AVal:=Vq++[Gq]
def Vx:aJ:=.vec 4 9 Vw
def Kr:AVal:=.int .i64 9
def Gr:AVal:=.str [117,115,101]
def Vy:AVal:=.list I 1 [nD,ux]
def Az:AVal:=.agg [Kr,Gr,Vy,.list I 1 [nC,pZ],.str []]
def Vz:List AVal:=Vt++[Az]
def Gs:aJ:=.vec 5 8 Vz
def Ks:aJ:=.cells [(.aA 7 9 10,I),(.aA 5 9 10,I),(.aA 2 10 11,I)]
def j0z:List AVal:=UX++[uz]
def VA:List AVal:=j0z++[Gh]
def VB:List AVal:=[nC,.list I 5 [Kq,.agg ((VA++[pY]))]]
def Gt:List AVal:=VB++[Co]
def Cp:AVal:=.list I 2 [Vv,.agg [rM,gd]]
def Gu:AVal:=.agg ((Gt++[.list I 8 [.agg ((uD++[gd,Cp,eV,.str [],pY,bF]))]]))
def VC:List AVal:=Vw++[Gu]
def Kt:aJ:=.vec 4 10 VC
def VD:AVal:=.list I 1 [nC,gd]
def AA:AVal:=.agg [rL,Gr,.list I 1 [nD,rM],VD,.str []]
def VE:List AVal:=Vz++[AA]
def AB:aJ:=.vec 5 9 VE
def Ku:aJ:=.cells [(.aA 7 10 11,I),(.aA 5 10 11,I),(.aA 2 11 12,I)]
def VF:List AVal:=[uC,gd]
def VG:AVal:=.int .i64 85
def VH:AVal:=.agg ((VF++[VG]))
def Kv:AVal:=.list I 3 [VH]
def Kx:AVal:=.list I 8 [.agg ((uD++[gd,Cp,Kv,.str [],pY,bF]))]
def AE:AVal:=.agg ((Gt++[Kx]))
def Cq:List AVal:=VC++[AE]
def Ky:aJ:=.vec 4 11 Cq
def Cr:AVal:=.int .i64 11
def Kz:AVal:=.str [109,101,97,115,117,114,101]
def VI:AVal:=.list I 1 [nD,uC]
def AF:AVal:=.agg [Cr,Kz,VI,.list I 1 [nC,VG],.str []]
def Cs:List AVal:=VE++[AF]
def AG:aJ:=.vec 5 10 Cs
def KA:aJ:=.cells [(.aA 7 11 12,I),(.aA 5 11 12,I),(.aA 2 12 13,I)]
def y9:AVal:=.bool true
def KB:AVal:=.agg [nC,.list I 5 [Kq,.agg ((VA++[y9]))],Co,Kx]
def Ct:aJ:=.vec 4 12 ((Cq++[KB]))
def KC:AVal:=.int .i64 12
def VJ:AVal:=.str [104,111,108,100]
def VK:AVal:=.list I 1 [rM]
def AH:AVal:=.agg [KC,VJ,VK,og,.str []]
def VL:List AVal:=Cs++[AH]
def sZ:aJ:=.vec 5 11 VL
def VM:aJ:=.cells [(.aA 7 12 13,I),(.aA 5 11 11,I),(.aA 2 12 12,I)]
def Cu:AVal:=.int .i64 13
def uE:AVal:=.str [117,110,100,111]
def Cv:AVal:=.list I 1 []
def Cw:AVal:=.agg [Cu,uE,Cv,eV,.str []]
def VN:List AVal:=VL++[Cw]
def VO:aJ:=.vec 5 12 VN
def VP:aJ:=.cells [(.aA 7 13 14,I),(.aA 5 12 12,I),(.aA 2 13 13,I)]
def VQ:List AVal:=VB++[.list I 4 [.agg ((Ki++[.list I 2 [Kl,Kl]]))]]
def Gv:AVal:=.agg ((VQ++[Kx]))
def VR:List AVal:=Cq++[Gv]
def VS:aJ:=.vec 4 13 VR
def KD:AVal:=.int .i64 14
def uF:AVal:=.agg [KD,Ko,Ke,og,.str []]
def VT:List AVal:=Cs++[uF]
def VU:aJ:=.vec 5 12 VT
def VW:List AVal:=VN++[uF]
def VX:aJ:=.vec 5 13 VW
def VY:aJ:=.cells [(.aA 7 14 15,I),(.aA 5 13 13,I),(.aA 2 14 14,I)]
def KE:AVal:=.agg ((VQ++[.list I 8 [.agg ((uD++[pZ,Cp,Kv,.str [],pY,bF]))]]))
def AJ:aJ:=.vec 4 14 ((VR++[KE]))
def Cx:AVal:=.int .i64 15
def VZ:AVal:=.str [117,112,100,97,116,101]
def qA:AVal:=.list I 1 [nD]
def uG:AVal:=.agg [Cx,VZ,qA,og,.str []]
def AK:aJ:=.vec 5 13 ((VT++[uG]))
def V0:List AVal:=VW++[uG]
def V1:aJ:=.vec 5 14 V0
def V2:aJ:=.cells [(.aA 7 15 16,I),(.aA 5 13 12,I),(.aA 2 14 13,I)]
def Cy:AVal:=.int .i64 16
def Cz:AVal:=.agg [Cy,uE,Cv,eV,.str []]
def V3:List AVal:=V0++[Cz]
def V4:aJ:=.vec 5 15 V3
def V5:aJ:=.cells [(.aA 7 16 17,I),(.aA 5 13 11,I),(.aA 2 14 12,I)]
def KF:AVal:=.int .i64 17
def CA:AVal:=.agg [KF,uE,Cv,eV,.str []]
def V6:List AVal:=V3++[CA]
def V7:aJ:=.vec 5 16 V6
def V8:aJ:=.cells [(.aA 7 17 18,I),(.aA 5 14 12,I),(.aA 2 15 13,I)]
def V9:AVal:=.int .i64 91
def KG:AVal:=.agg ((Gt++[.list I 8 [.agg ((uD++[gd,Cp,.list I 3 [VH,.agg ((VF++[V9]))],.str [],pY,bF]))]]))
def CC:aJ:=.vec 4 15 ((Cq++[KG]))
def KH:AVal:=.int .i64 18
def uH:AVal:=.agg [KH,Kz,VI,.list I 1 [nC,V9],.str []]
def CD:aJ:=.vec 5 14 ((Cs++[uH]))
def Wa:List AVal:=V6++[uH]
def Wb:aJ:=.vec 5 17 Wa
def KI:aJ:=.cells [(.aA 7 18 19,I),(.aA 5 14 11,I),(.aA 2 15 12,I)]
def AL:AVal:=.int .i64 19
def CF:AVal:=.agg [AL,uE,Cv,eV,.str []]
def Wc:List AVal:=Wa++[CF]
def KJ:aJ:=.vec 5 18 Wc
def KK:aJ:=.cells [(.aA 7 19 20,I),(.aA 5 15 12,I),(.aA 2 16 13,I)]
def KL:AVal:=.agg ((Gt++[.list I 8 [.agg ((uD++[gd,Cp,Kv,.str [],y9,bF]))]]))
def KM:aJ:=.vec 4 16 ((Cq++[KL]))
def Gw:AVal:=.int .i64 20
def s5:AVal:=.str [115,104,105,112]
def uI:AVal:=.agg [Gw,s5,qA,og,.str []]
def KN:aJ:=.vec 5 15 ((Cs++[uI]))
def Wd:List AVal:=Wc++[uI]
def KO:aJ:=.vec 5 19 Wd
def Wf:List AVal:=[Ko,kY]
def Wg:List AVal:=[Gr,nD]
def jxc:List AVal:=Wg++[ux]
def Wh:List AVal:=jxc++[.str [51]]
def uJ:AVal:=.list I 1 [s5,nD,.str [51]]
def KP:AVal:=.agg [rL,s5,qA,og,.str []]
def KQ:AVal:=.agg [Cr,s5,qA,og,.str []]
def Wi:AVal:=.int .i64 31
def KR:AVal:=.av [sY,Wi]
def jw4:List AVal:=[Kz,nD]
def jw8:List AVal:=jw4++[uC]
def Wj:List AVal:=jw8++[.str [51]]
def KS:AVal:=.agg [Cu,s5,qA,og,.str []]
def Wk:AVal:=.int .i64 34
def CG:AVal:=.list I 1 [uE]
def KT:AVal:=.agg [Cx,s5,qA,og,.str []]
def Wl:AVal:=.int .i64 32
def KU:AVal:=.agg [Cy,s5,qA,og,.str []]
def KW:AVal:=.agg [AL,s5,qA,og,.str []]
def AO:AVal:=.int .i64 21
def Wm:AVal:=.agg [AO,uE,Cv,eV,.str []]
def KX:AVal:=.agg [AO,Gr,Vy,VD,.str []]
def Wn:AVal:=.str [49,32,108,111,116,32,99,111,110,101,95,49,32,99,111,110,101,32,49,32,49,48]
def Wo:AVal:=.str [50,32,108,111,116,32,99,111,105,108,95,49,32,99,111,105,108,32,49,32,53]
def Wp:AVal:=.str [51,32,112,114,111,100,117,99,116,32,98,111,120,32,49]
def Wq:AVal:=.str [52,32,110,101,101,100,32,98,111,120,32,99,111,110,101,32,49,32,50]
def Wr:AVal:=.str [53,32,110,101,101,100,32,98,111,120,32,99,111,105,108,32,49,32,49]
def Ws:AVal:=.str [54,32,116,101,115,116,32,98,111,120,32,115,119,101,101,112,32,49,32,56,48,32,57,48]
def Wt:AVal:=.str [55,32,105,115,115,117,101,32,98,111,120,32,50]
def Wu:AVal:=.str [56,32,98,117,105,108,100,32,117,49,32,98,111,120,32,51]
def Wv:AVal:=.str [57,32,117,115,101,32,117,49,32,99,111,110,101,95,49,32,51,32,50]
def Ww:AVal:=.str [49,48,32,117,115,101,32,117,49,32,99,111,105,108,95,49,32,51,32,49]
def Wx:AVal:=.str [49,49,32,109,101,97,115,117,114,101,32,117,49,32,115,119,101,101,112,32,51,32,56,53]
def Wy:AVal:=.str [49,50,32,104,111,108,100,32,99,111,105,108,95,49,32,51]
def Wz:AVal:=.str [49,51,32,117,110,100,111]
def WA:AVal:=.str [49,52,32,105,115,115,117,101,32,98,111,120,32,51]
def WB:AVal:=.str [49,53,32,117,112,100,97,116,101,32,117,49,32,51]
def WC:AVal:=.str [49,54,32,117,110,100,111]
def WD:AVal:=.str [49,55,32,117,110,100,111]
def WE:AVal:=.str [49,56,32,109,101,97,115,117,114,101,32,117,49,32,115,119,101,101,112,32,51,32,57,49]
def WG:AVal:=.str [49,57,32,117,110,100,111]
def WH:AVal:=.str [50,48,32,115,104,105,112,32,117,49,32,51]
def KY:AVal:=.list I 5 Wd
def uK:List AVal:=[.ptr 0 0,.str [115,104,105,112,32,117,49,32,51]]
def KZ:AVal:=.av [.str [],Wi]
def WI:List AVal:=[.ptr 0 0,.str [109,105,115,115,105,110,103,32,117,49]]
def WJ:AVal:=.av [.str [110,111,110,101],bF]
def WK:List AVal:=[.ptr 0 0,.str [115,116,111,99,107,32,99,111,105,108]]
def CH:List AVal:=[.ptr 0 0,uE]
def WL:List AVal:=[.ptr 0 0,.str [115,104,105,112,112,101,100]]
def hw1:ql:=[di,di,.vec 4 0 [sY]]
def WM:ql:=[.cells [(.aA 7 0 1,I),(.aA 5 0 1,I),(.aA 2 1 2,I)],di,.vec 4 1 UO,.map jb,.map qz,UR,.hole,UR]
def hw3:ql:=[US,di,UW,.map jb,.map qz,Gf,.hole,Gf,.map jb,.map qz]
def hw4:ql:=[US,di,UW,.map jb,.map qz,Gf,.hole,Gf]
def hw5:ql:=[UZ,di,U1,.map jb,.map qz,Gg,.hole,Gg,.map jb,.map qz]
def hw6:ql:=[UZ,di,U1,.map jb,.map qz,Gg,.hole,Gg]
def hw7:ql:=[U4,di,U7,.map jb,.map qz,Gj,.hole,Gj,.map jb,.map qz]
def hw8:ql:=[U4,di,U7,.map jb,.map qz,Gj,.hole,Gj]
def hw9:ql:=[U9,di,Vb,.map jb,.map qz,Gk,.hole,Gk,.map jb,.map qz]
def jya:ql:=[U9,di,Vb,.map jb,.map qz,Gk,.hole,Gk]
def jzb:ql:=[Vd,di,Vi,.map jb,.map qz,Gl,.hole,Gl,.map jb,.map qz]
def jyu:ql:=[Vd,di,Vi,.map jb,.map qz,Gl,.hole,Gl]
def j18:ql:=[Vl,di,Vn,.map jb,.map qz,Gm,.hole,Gm,.map jb,.map qz]
def j1z:ql:=[Vl,di,Vn,.map jb,.map qz,Gm,.hole,Gm]
def jze:ql:=[Vp,di,Vr,.map jb,.map qz,Gp,.hole,Gp,.map jb,.map qz]
def jxa:ql:=[Vp,di,Vr,.map jb,.map qz,Gp,.hole,Gp]
def WN:ql:=[Vu,di,Vx,.map jb,.map qz,Gs,.hole,Gs,.map jb,.map qz]
def WO:ql:=[Vu,di,Vx,.map jb,.map qz,Gs,.hole,Gs]
def WQ:ql:=[Ks,di,Kt,.map jb,.map qz,AB,.hole,AB,.map jb,.map qz]
def K0:ql:=[Ks,di,Kt,.map jb,.map qz,AB,.hole,AB]
def j0s:ql:=[Ks,di,Kt,.map jb,.map qz,AB,.hole,AB,.map jb]
def jzk:ql:=[Ku,di,Ky,.map jb,.map qz,AG,.hole,AG,.map jb,.map qz]
def WR:ql:=[Ku,di,Ky,.map jb,.map qz,AG,.hole,AG]
def jxb:ql:=[Ku,di,Ky,.map jb,.map qz,AG,.hole,AG,.map jb]
def WS:ql:=[KA,di,Ct,.map jb,.map qz,sZ,.hole,sZ,.map jb,.map qz]
def K1:ql:=[KA,di,Ct,.map jb,.map qz,sZ,.hole,sZ]
def jxm:ql:=[KA,di,Ct,.map jb,.map qz,sZ,.hole,sZ,.map jb]
def jyi:ql:=[VM,di,Ct,.map jb,.map qz,sZ,.hole,VO,.map jb,.map qz]
def j2q:ql:=[VM,di,Ct,.map jb,.map qz,sZ,.hole,VO]
def WT:ql:=[VP,di,VS,.map jb,.map qz,VU,.hole,VX,.map jb,.map qz]
def WU:ql:=[VP,di,VS,.map jb,.map qz,VU,.hole,VX]
def WV:ql:=[VY,di,AJ,.map jb,.map qz,AK,.hole,V1,.map jb,.map qz]
def WW:ql:=[VY,di,AJ,.map jb,.map qz,AK,.hole,V1]
def j01:ql:=[V2,di,AJ,.map jb,.map qz,AK,.hole,V4,.map jb,.map qz]
def j1o:ql:=[V2,di,AJ,.map jb,.map qz,AK,.hole,V4]
def jyq:ql:=[V5,di,AJ,.map jb,.map qz,AK,.hole,V7,.map jb,.map qz]
def j2t:ql:=[V5,di,AJ,.map jb,.map qz,AK,.hole,V7]
def WX:ql:=[V8,di,CC,.map jb,.map qz,CD,.hole,Wb,.map jb,.map qz]
def WY:ql:=[V8,di,CC,.map jb,.map qz,CD,.hole,Wb]
def jxx:ql:=[KI,di,CC,.map jb,.map qz,CD,.hole,KJ,.map jb,.map qz]
def CI:ql:=[KI,di,CC,.map jb,.map qz,CD,.hole,KJ]
def Gx:ql:=[KI,di,CC,.map jb,.map qz,CD,.hole,KJ,.map jb]
def K3:ql:=[KK,di,KM,.map jb,.map qz,KN,.hole,KO,.map jb,.map qz]
def K4:ql:=[KK,di,KM,.map jb,.map qz,KN,.hole,KO]
def j0m:ql:=[KK,di,KM,.map jb,.map qz,KN,.hole,KO,.map jb]
def e1:Row:=([.list I 1 [Ge,ux,Ap,.str [49],.str [49,48]],gd],.av [uy,y9],I)
def e2:Row:=([uy],bF,I)
def e3:Row:=([sY,uy],.av [Ka,bF],I)
def e4:Row:=([.list I 1 [Ge,rM,Aq,.str [49],.str [53]],pZ],.av [Ar,y9],I)
def e5:Row:=([Ar],bF,I)
def e6:Row:=([Ka,Ar],.av [Kb,bF],I)
def e7:Row:=([.list I 1 [U2,kY,.str [49]],nC],.av [As,y9],I)
def e8:Row:=([As],bF,I)
def e9:Row:=([Kb,As],.av [Kc,bF],I)
def K5:Row:=([.list I 1 [Gi,kY,Ap,.str [49],.str [50]],Gh],.av [Au,y9],I)
def K6:Row:=([Au],bF,I)
def K7:Row:=([Kc,Au],.av [Kf,bF],I)
def K8:Row:=([.list I 1 [Gi,kY,Aq,.str [49],.str [49]],uz],.av [Av,y9],I)
def K9:Row:=([Av],bF,I)
def La:Row:=([Kf,Av],.av [Kh,bF],I)
def Lb:Row:=([.list I 1 [Vj,kY,uC,.str [49],.str [56,48],.str [57,48]],Kk],.av [Aw,y9],I)
def Lc:Row:=([Aw],bF,I)
def Ld:Row:=([Kh,Aw],.av [Kj,bF],I)
def Le:Row:=([.list I 1 ((Wf++[.str [50]])),Kn],.av [Ax,y9],I)
def Lf:Row:=([Ax],bF,I)
def Lg:Row:=([Kj,Ax],.av [Km,bF],I)
def Lh:Row:=([.list I 1 [Vs,nD,kY,.str [51]],Gn],.av [Ay,y9],I)
def Li:Row:=([Ay],bF,I)
def Lj:Row:=([Km,Ay],.av [Kp,bF],I)
def Lk:Row:=([.list I 1 ((Wh++[.str [50]])),Kr],.av [Az,y9],I)
def Ll:Row:=([Az],bF,I)
def Lm:Row:=([Kp,Az],.av [Gq,bF],I)
def Ln:Row:=([uJ,rL],.av [KP,y9],I)
def Lp:Row:=([KP],bF,I)
def Lq:Row:=([Gq,KP],.av [sY,Gw],I)
def Lr:Row:=([.list I 1 ((Wg++[rM,.str [51],.str [49]])),rL],.av [AA,y9],I)
def Ls:Row:=([AA],bF,I)
def Lt:Row:=([Gq,AA],.av [Gu,bF],I)
def Lu:Row:=([uJ,Cr],.av [KQ,y9],I)
def Lw:Row:=([KQ],bF,I)
def Lx:Row:=([Gu,KQ],KR,I)
def Ly:Row:=([.list I 1 ((Wj++[.str [56,53]])),Cr],.av [AF,y9],I)
def Lz:Row:=([AF],bF,I)
def LA:Row:=([Gu,AF],.av [AE,bF],I)
def LB:Row:=([.list I 1 [VJ,rM,.str [51]],KC],.av [AH,y9],I)
def LC:Row:=([AH],bF,I)
def LD:Row:=([AE,AH],.av [KB,bF],I)
def LG:Row:=([uJ,Cu],.av [KS,y9],I)
def LH:Row:=([KS],bF,I)
def LI:Row:=([KB,KS],.av [sY,Wk],I)
def LJ:Row:=([CG,Cu],.av [Cw,y9],I)
def LK:Row:=([Cw],bF,I)
def LL:Row:=([.list I 1 ((Wf++[.str [51]])),KD],.av [uF,y9],I)
def LM:Row:=([uF],bF,I)
def LN:Row:=([AE,uF],.av [Gv,bF],I)
def LO:Row:=([uJ,Cx],.av [KT,y9],I)
def LP:Row:=([KT],bF,I)
def LQ:Row:=([Gv,KT],.av [sY,Wl],I)
def LR:Row:=([.list I 1 [VZ,nD,.str [51]],Cx],.av [uG,y9],I)
def LS:Row:=([uG],bF,I)
def LU:Row:=([Gv,uG],.av [KE,bF],I)
def LV:Row:=([uJ,Cy],.av [KU,y9],I)
def LW:Row:=([KU],bF,I)
def LX:Row:=([KE,KU],KR,I)
def LY:Row:=([CG,Cy],.av [Cz,y9],I)
def LZ:Row:=([Cz],bF,I)
def L0:Row:=([CG,KF],.av [CA,y9],I)
def L2:Row:=([CA],bF,I)
def L3:Row:=([.list I 1 ((Wj++[.str [57,49]])),KH],.av [uH,y9],I)
def L4:Row:=([uH],bF,I)
def L5:Row:=([AE,uH],.av [KG,bF],I)
def L6:Row:=([uJ,AL],.av [KW,y9],I)
def L7:Row:=([KW],bF,I)
def L8:Row:=([KG,KW],KR,I)
def L9:Row:=([CG,AL],.av [CF,y9],I)
def Ma:Row:=([CF],bF,I)
def Mb:Row:=([uJ,Gw],.av [uI,y9],I)
def Mc:Row:=([uI],bF,I)
def Md:Row:=([AE,uI],.av [KL,bF],I)
def Me:Row:=([CG,AO],.av [Wm,y9],I)
def Mf:Row:=([Wm],bF,I)
def Mg:Row:=([.list I 1 ((Wh++[.str [49]])),AO],.av [KX,y9],I)
def Mh:Row:=([KX],bF,I)
def Mi:Row:=([KL,KX],.av [sY,AO],I)
def Mj:Row:=([uy],Wn,I)
def Ml:Row:=([Wn],.str [51,57,56,57,49,56,50],I)
def Mm:Row:=([Ar],Wo,I)
def Mn:Row:=([Wo],.str [48,49,55,50,54,57,55],I)
def Mp:Row:=([As],Wp,I)
def Mq:Row:=([Wp],.str [54,49,49,52,48,56,52],I)
def Mr:Row:=([Au],Wq,I)
def Ms:Row:=([Wq],.str [49,55,56,55,50,51,49],I)
def Mt:Row:=([Av],Wr,I)
def Mu:Row:=([Wr],.str [50,52,55,55,51,52,50],I)
def Mv:Row:=([Aw],Ws,I)
def Mw:Row:=([Ws],.str [50,48,50,49,51,55,56],I)
def Mx:Row:=([Ax],Wt,I)
def My:Row:=([Wt],.str [57,55,57,50,54,57,53],I)
def Mz:Row:=([Ay],Wu,I)
def MA:Row:=([Wu],.str [48,55,51,51,57,54,55],I)
def MB:Row:=([Az],Wv,I)
def MC:Row:=([Wv],.str [57,54,50,56,50,52,50],I)
def MD:Row:=([AA],Ww,I)
def ME:Row:=([Ww],.str [51,51,55,48,50,52,48],I)
def MF:Row:=([AF],Wx,I)
def MG:Row:=([Wx],.str [56,50,52,48,49,52,56],I)
def MH:Row:=([AH],Wy,I)
def MI:Row:=([Wy],.str [53,50,48,49,49,53,55],I)
def MJ:Row:=([Cw],Wz,I)
def MK:Row:=([Wz],.str [54,55,52,56,55,48,57],I)
def ML:Row:=([uF],WA,I)
def MN:Row:=([WA],.str [48,56,53,50,57,54,53],I)
def MO:Row:=([uG],WB,I)
def MP:Row:=([WB],.str [50,52,56,53,48,49,51],I)
def MQ:Row:=([Cz],WC,I)
def MR:Row:=([WC],.str [56,51,50,54,51,57,51],I)
def MS:Row:=([CA],WD,I)
def MT:Row:=([WD],.str [50,49,56,53,54,57,53],I)
def MU:Row:=([uH],WE,I)
def MV:Row:=([WE],.str [50,51,54,49,51,49,55],I)
def MW:Row:=([CF],WG,I)
def MX:Row:=([WG],.str [57,57,48,52,48,55,55],I)
def MY:Row:=([uI],WH,I)
def MZ:Row:=([WH],.str [53,49,49,54,56,51,51],I)
def M0:Row:=([.str [49,32,108,111,116,32,99,111,110,101,95,49,32,99,111,110,101,32,49,32,49,48,35,51,57,56,57,49,56,50],bF],.av [uy,bF],I)
def M1:Row:=([.str [50,32,108,111,116,32,99,111,105,108,95,49,32,99,111,105,108,32,49,32,53,35,48,49,55,50,54,57,55],gd],.av [Ar,bF],I)
def M2:Row:=([.str [51,32,112,114,111,100,117,99,116,32,98,111,120,32,49,35,54,49,49,52,48,56,52],pZ],.av [As,bF],I)
def M3:Row:=([.str [52,32,110,101,101,100,32,98,111,120,32,99,111,110,101,32,49,32,50,35,49,55,56,55,50,51,49],nC],.av [Au,bF],I)
def M4:Row:=([.str [53,32,110,101,101,100,32,98,111,120,32,99,111,105,108,32,49,32,49,35,50,52,55,55,51,52,50],Gh],.av [Av,bF],I)
def M5:Row:=([.str [54,32,116,101,115,116,32,98,111,120,32,115,119,101,101,112,32,49,32,56,48,32,57,48,35,50,48,50,49,51,55,56],uz],.av [Aw,bF],I)
def M6:Row:=([.str [55,32,105,115,115,117,101,32,98,111,120,32,50,35,57,55,57,50,54,57,53],Kk],.av [Ax,bF],I)
def M7:Row:=([.str [56,32,98,117,105,108,100,32,117,49,32,98,111,120,32,51,35,48,55,51,51,57,54,55],Kn],.av [Ay,bF],I)
def M8:Row:=([.str [57,32,117,115,101,32,117,49,32,99,111,110,101,95,49,32,51,32,50,35,57,54,50,56,50,52,50],Gn],.av [Az,bF],I)
def M9:Row:=([.str [49,48,32,117,115,101,32,117,49,32,99,111,105,108,95,49,32,51,32,49,35,51,51,55,48,50,52,48],Kr],.av [AA,bF],I)
def Na:Row:=([.str [49,49,32,109,101,97,115,117,114,101,32,117,49,32,115,119,101,101,112,32,51,32,56,53,35,56,50,52,48,49,52,56],rL],.av [AF,bF],I)
def Nb:Row:=([.str [49,50,32,104,111,108,100,32,99,111,105,108,95,49,32,51,35,53,50,48,49,49,53,55],Cr],.av [AH,bF],I)
def Nc:Row:=([.str [49,51,32,117,110,100,111,35,54,55,52,56,55,48,57],KC],.av [Cw,bF],I)
def Nd:Row:=([.str [49,52,32,105,115,115,117,101,32,98,111,120,32,51,35,48,56,53,50,57,54,53],Cu],.av [uF,bF],I)
def Nf:Row:=([.str [49,53,32,117,112,100,97,116,101,32,117,49,32,51,35,50,52,56,53,48,49,51],KD],.av [uG,bF],I)
def Ng:Row:=([.str [49,54,32,117,110,100,111,35,56,51,50,54,51,57,51],Cx],.av [Cz,bF],I)
def Nh:Row:=([.str [49,55,32,117,110,100,111,35,50,49,56,53,54,57,53],Cy],.av [CA,bF],I)
def Ni:Row:=([.str [49,56,32,109,101,97,115,117,114,101,32,117,49,32,115,119,101,101,112,32,51,32,57,49,35,50,51,54,49,51,49,55],KF],.av [uH,bF],I)
def Nj:Row:=([.str [49,57,32,117,110,100,111,35,57,57,48,52,48,55,55],KH],.av [CF,bF],I)
def Nk:Row:=([.str [50,48,32,115,104,105,112,32,117,49,32,51,35,53,49,49,54,56,51,51],AL],.av [uI,bF],I)
def Nn:Row:=([KY,VK],.av [qA,bF],I)
def Np:Row:=([KY,qA],.av [.list I 1 [ux,rM],bF],I)
def Nq:Row:=([.str [49,32,108,111,116,32,99,111,110,101,95,49,32,99,111,110,101,32,49,32,49,48,35,51,57,56,57,49,56,50,10,50,32,108,111,116,32,99,111,105,108,95,49,32,99,111,105,108,32,49,32,53,35,48,49,55,50,54,57,55,10,51,32,112,114,111,100,117,99,116,32,98,111,120,32,49,35,54,49,49,52,48,56,52,10,52,32,110,101,101,100,32,98,111,120,32,99,111,110,101,32,49,32,50,35,49,55,56,55,50,51,49,10,53,32,110,101,101,100,32,98,111,120,32,99,111,105,108,32,49,32,49,35,50,52,55,55,51,52,50,10,54,32,116,101,115,116,32,98,111,120,32,115,119,101,101,112,32,49,32,56,48,32,57,48,35,50,48,50,49,51,55,56,10,55,32,105,115,115,117,101,32,98,111,120,32,50,35,57,55,57,50,54,57,53,10,56,32,98,117,105,108,100,32,117,49,32,98,111,120,32,51,35,48,55,51,51,57,54,55,10,57,32,117,115,101,32,117,49,32,99,111,110,101,95,49,32,51,32,50,35,57,54,50,56,50,52,50,10,49,48,32,117,115,101,32,117,49,32,99,111,105,108,95,49,32,51,32,49,35,51,51,55,48,50,52,48,10,49,49,32,109,101,97,115,117,114,101,32,117,49,32,115,119,101,101,112,32,51,32,56,53,35,56,50,52,48,49,52,56,10,49,50,32,104,111,108,100,32,99,111,105,108,95,49,32,51,35,53,50,48,49,49,53,55,10,49,51,32,117,110,100,111,35,54,55,52,56,55,48,57,10,49,52,32,105,115,115,117,101,32,98,111,120,32,51,35,48,56,53,50,57,54,53,10,49,53,32,117,112,100,97,116,101,32,117,49,32,51,35,50,52,56,53,48,49,51,10,49,54,32,117,110,100,111,35,56,51,50,54,51,57,51,10,49,55,32,117,110,100,111,35,50,49,56,53,54,57,53,10,49,56,32,109,101,97,115,117,114,101,32,117,49,32,115,119,101,101,112,32,51,32,57,49,35,50,51,54,49,51,49,55,10,49,57,32,117,110,100,111,35,57,57,48,52,48,55,55,10,50,48,32,115,104,105,112,32,117,49,32,51,35,53,49,49,54,56,51,51,10,49]],.av [KY,.int .i64 500,.int .i64 29],I)
def r1:zz:=([.ptr 0 0,.str [108,111,116,32,99,111,110,101,95,49,32,99,111,110,101,32,49,32,49,48]],hw1,.av [.str [100,111,110,101,32,49],bF],I,WM)
def r2:zz:=([.ptr 0 0,.str [108,111,116,32,99,111,105,108,95,49,32,99,111,105,108,32,49,32,53]],WM,.av [.str [100,111,110,101,32,50],bF],I,hw3)
def r3:zz:=([.ptr 0 0,.str [112,114,111,100,117,99,116,32,98,111,120,32,49]],hw4,.av [.str [100,111,110,101,32,51],bF],I,hw5)
def r4:zz:=([.ptr 0 0,.str [110,101,101,100,32,98,111,120,32,99,111,110,101,32,49,32,50]],hw6,.av [.str [100,111,110,101,32,52],bF],I,hw7)
def r5:zz:=([.ptr 0 0,.str [110,101,101,100,32,98,111,120,32,99,111,105,108,32,49,32,49]],hw8,.av [.str [100,111,110,101,32,53],bF],I,hw9)
def r6:zz:=([.ptr 0 0,.str [116,101,115,116,32,98,111,120,32,115,119,101,101,112,32,49,32,56,48,32,57,48]],jya,.av [.str [100,111,110,101,32,54],bF],I,jzb)
def r7:zz:=([.ptr 0 0,.str [105,115,115,117,101,32,98,111,120,32,50]],jyu,.av [.str [100,111,110,101,32,55],bF],I,j18)
def r8:zz:=([.ptr 0 0,.str [98,117,105,108,100,32,117,49,32,98,111,120,32,51]],j1z,.av [.str [100,111,110,101,32,56],bF],I,jze)
def r9:zz:=([.ptr 0 0,.str [117,115,101,32,117,49,32,99,111,110,101,95,49,32,51,32,50]],jxa,.av [.str [100,111,110,101,32,57],bF],I,WN)
def Gy:zz:=(uK,WO,.av [.str [],Gw],I,WN)
def Gz:zz:=([.ptr 0 0,.str [117,115,101,32,117,49,32,99,111,105,108,95,49,32,51,32,49]],WO,.av [.str [100,111,110,101,32,49,48],bF],I,WQ)
def GD:zz:=(uK,K0,KZ,I,WQ)
def GF:zz:=(WI,K0,.av [uC,bF],I,j0s)
def GG:zz:=([.ptr 0 0,.str [109,101,97,115,117,114,101,32,117,49,32,115,119,101,101,112,32,51,32,56,53]],K0,.av [.str [100,111,110,101,32,49,49],bF],I,jzk)
def GH:zz:=(WI,WR,WJ,I,jxb)
def GI:zz:=([.ptr 0 0,.str [104,111,108,100,32,99,111,105,108,95,49,32,51]],WR,.av [.str [100,111,110,101,32,49,50],bF],I,WS)
def GJ:zz:=(uK,K1,.av [.str [],Wk],I,WS)
def GK:zz:=(WK,K1,.av [.str [48],bF],I,jxm)
def GL:zz:=(CH,K1,.av [.str [100,111,110,101,32,49,51],bF],I,jyi)
def GM:zz:=([.ptr 0 0,.str [105,115,115,117,101,32,98,111,120,32,51]],j2q,.av [.str [100,111,110,101,32,49,52],bF],I,WT)
def GN:zz:=(uK,WU,.av [.str [],Wl],I,WT)
def GO:zz:=([.ptr 0 0,.str [117,112,100,97,116,101,32,117,49,32,51]],WU,.av [.str [100,111,110,101,32,49,53],bF],I,WV)
def GQ:zz:=(uK,WW,KZ,I,WV)
def GR:zz:=(CH,WW,.av [.str [100,111,110,101,32,49,54],bF],I,j01)
def GU:zz:=(CH,j1o,.av [.str [100,111,110,101,32,49,55],bF],I,jyq)
def GV:zz:=([.ptr 0 0,.str [109,101,97,115,117,114,101,32,117,49,32,115,119,101,101,112,32,51,32,57,49]],j2t,.av [.str [100,111,110,101,32,49,56],bF],I,WX)
def GX:zz:=(uK,WY,KZ,I,WX)
def GY:zz:=(CH,WY,.av [.str [100,111,110,101,32,49,57],bF],I,jxx)
def GZ:zz:=([.ptr 0 0,.str [108,111,116,115,32,117,49]],CI,.av [.str [99,111,110,101,95,49,32,99,111,105,108,95,49],bF],I,Gx)
def G0:zz:=([.ptr 0 0,.str [115,116,111,99,107,32,99,111,110,101]],CI,.av [.str [56],bF],I,Gx)
def G1:zz:=(WK,CI,.av [.str [52],bF],I,Gx)
def G2:zz:=(WL,CI,WJ,I,Gx)
def G3:zz:=(uK,CI,.av [.str [100,111,110,101,32,50,48],bF],I,K3)
def G4:zz:=(CH,K4,.av [.str [],AL],I,K3)
def G5:zz:=([.ptr 0 0,.str [117,115,101,32,117,49,32,99,111,110,101,95,49,32,51,32,49]],K4,.av [.str [],AO],I,K3)
def G6:zz:=(WL,K4,.av [nD,bF],I,j0m)
set_option maxRecDepth 100000
theorem w21:ae bg xL 113 Lg.1=Ea Lg.2:=by kernel_rfl
theorem w25:ae bg xL 102 Lk.1=Ea Lk.2:=by kernel_rfl
theorem w26:ae bg xL 47 Ll.1=Ea Ll.2:=by kernel_rfl
theorem w37:ae bg xL 102 Ly.1=Ea Ly.2:=by kernel_rfl
theorem w48:ae bg xL 102 LL.1=Ea LL.2:=by kernel_rfl
theorem w51:ae bg xL 102 LO.1=Ea LO.2:=by kernel_rfl
theorem w56:ae bg xL 113 LU.1=Ea LU.2:=by kernel_rfl
theorem w74:ae bg xL 113 Md.1=Ea Md.2:=by kernel_rfl
theorem w82:ae bg xL 137 Mm.1=Ea Mm.2:=by kernel_rfl
theorem w90:ae bg xL 137 Mv.1=Ea Mv.2:=by kernel_rfl
theorem w93:ae bg xL 138 My.1=Ea My.2:=by kernel_rfl
theorem j0g:ae bg xL 138 MR.1=Ea MR.2:=by kernel_rfl
theorem jwt:ae bg xL 138 MV.1=Ea MV.2:=by kernel_rfl
theorem j0e:ae bg xL 137 MW.1=Ea MW.2:=by kernel_rfl
theorem jzz:ae bg xL 137 MY.1=Ea MY.2:=by kernel_rfl
theorem jxl:ae bg xL 85 M1.1=Ea M1.2:=by kernel_rfl
theorem j2d:ae bg xL 85 M9.1=Ea M9.2:=by kernel_rfl
theorem jzs:ae bg xL 85 Ng.1=Ea Ng.2:=by kernel_rfl
theorem w4:ae bg xL 102 e4.1=Ea e4.2:=by kernel_rfl
theorem w11:ae bg xL 47 K6.1=Ea K6.2:=by kernel_rfl
theorem w18:ae bg xL 113 Ld.1=Ea Ld.2:=by kernel_rfl
theorem w19:ae bg xL 102 Le.1=Ea Le.2:=by kernel_rfl
theorem w29:ae bg xL 47 Lp.1=Ea Lp.2:=by kernel_rfl
theorem w38:ae bg xL 47 Lz.1=Ea Lz.2:=by kernel_rfl
theorem w45:ae bg xL 113 LI.1=Ea LI.2:=by kernel_rfl
theorem w46:ae bg xL 102 LJ.1=Ea LJ.2:=by kernel_rfl
theorem w53:ae bg xL 113 LQ.1=Ea LQ.2:=by kernel_rfl
theorem w57:ae bg xL 102 LV.1=Ea LV.2:=by kernel_rfl
theorem w61:ae bg xL 47 LZ.1=Ea LZ.2:=by kernel_rfl
theorem w64:ae bg xL 102 L3.1=Ea L3.2:=by kernel_rfl
theorem w91:ae bg xL 138 Mw.1=Ea Mw.2:=by kernel_rfl
theorem w96:ae bg xL 137 MB.1=Ea MB.2:=by kernel_rfl
theorem j20:ae bg xL 138 MT.1=Ea MT.2:=by kernel_rfl
theorem j0f:ae bg xL 85 M3.1=Ea M3.2:=by kernel_rfl
theorem j0j:ae bg xL 85 Nb.1=Ea Nb.2:=by kernel_rfl
theorem j1c:ae bg xL 85 Nh.1=Ea Nh.2:=by kernel_rfl
theorem w14:ae bg xL 47 K9.1=Ea K9.2:=by kernel_rfl
theorem w15:ae bg xL 113 La.1=Ea La.2:=by kernel_rfl
theorem w16:ae bg xL 102 Lb.1=Ea Lb.2:=by kernel_rfl
theorem w35:ae bg xL 47 Lw.1=Ea Lw.2:=by kernel_rfl
theorem w39:ae bg xL 113 LA.1=Ea LA.2:=by kernel_rfl
theorem w49:ae bg xL 47 LM.1=Ea LM.2:=by kernel_rfl
theorem w54:ae bg xL 102 LR.1=Ea LR.2:=by kernel_rfl
theorem w59:ae bg xL 113 LX.1=Ea LX.2:=by kernel_rfl
theorem w60:ae bg xL 102 LY.1=Ea LY.2:=by kernel_rfl
theorem w63:ae bg xL 47 L2.1=Ea L2.2:=by kernel_rfl
theorem w65:ae bg xL 47 L4.1=Ea L4.2:=by kernel_rfl
theorem w67:ae bg xL 102 L6.1=Ea L6.2:=by kernel_rfl
theorem jzv:ae bg xL 138 MX.1=Ea MX.2:=by kernel_rfl
theorem jyo:ae bg xL 85 M0.1=Ea M0.2:=by kernel_rfl
theorem j2s:ae bg xL 85 M4.1=Ea M4.2:=by kernel_rfl
theorem j1l:ae bg xL 85 M6.1=Ea M6.2:=by kernel_rfl
theorem jxy:ae bg xL 85 M7.1=Ea M7.2:=by kernel_rfl
theorem j2b:ae bg xL 85 Nj.1=Ea Nj.2:=by kernel_rfl
theorem w7:ae bg xL 102 e7.1=Ea e7.2:=by kernel_rfl
theorem w8:ae bg xL 47 e8.1=Ea e8.2:=by kernel_rfl
theorem w10:ae bg xL 102 K5.1=Ea K5.2:=by kernel_rfl
theorem w12:ae bg xL 113 K7.1=Ea K7.2:=by kernel_rfl
theorem w36:ae bg xL 113 Lx.1=Ea Lx.2:=by kernel_rfl
theorem w44:ae bg xL 47 LH.1=Ea LH.2:=by kernel_rfl
theorem w62:ae bg xL 102 L0.1=Ea L0.2:=by kernel_rfl
theorem w69:ae bg xL 113 L8.1=Ea L8.2:=by kernel_rfl
theorem w71:ae bg xL 47 Ma.1=Ea Ma.2:=by kernel_rfl
theorem w72:ae bg xL 102 Mb.1=Ea Mb.2:=by kernel_rfl
theorem w83:ae bg xL 138 Mn.1=Ea Mn.2:=by kernel_rfl
theorem w86:ae bg xL 137 Mr.1=Ea Mr.2:=by kernel_rfl
theorem w95:ae bg xL 138 MA.1=Ea MA.2:=by kernel_rfl
theorem jw7:ae bg xL 137 MF.1=Ea MF.2:=by kernel_rfl
theorem jyn:ae bg xL 137 ML.1=Ea ML.2:=by kernel_rfl
theorem j2e:ae bg xL 85 M2.1=Ea M2.2:=by kernel_rfl
theorem j2u:ae bg xL 85 Na.1=Ea Na.2:=by kernel_rfl
theorem w9:ae bg xL 113 e9.1=Ea e9.2:=by kernel_rfl
theorem w13:ae bg xL 102 K8.1=Ea K8.2:=by kernel_rfl
theorem w20:ae bg xL 47 Lf.1=Ea Lf.2:=by kernel_rfl
theorem w22:ae bg xL 102 Lh.1=Ea Lh.2:=by kernel_rfl
theorem w33:ae bg xL 113 Lt.1=Ea Lt.2:=by kernel_rfl
theorem w40:ae bg xL 102 LB.1=Ea LB.2:=by kernel_rfl
theorem w41:ae bg xL 47 LC.1=Ea LC.2:=by kernel_rfl
theorem w52:ae bg xL 47 LP.1=Ea LP.2:=by kernel_rfl
theorem w66:ae bg xL 113 L5.1=Ea L5.2:=by kernel_rfl
theorem w70:ae bg xL 102 L9.1=Ea L9.2:=by kernel_rfl
theorem w76:ae bg xL 47 Mf.1=Ea Mf.2:=by kernel_rfl
theorem w87:ae bg xL 138 Ms.1=Ea Ms.2:=by kernel_rfl
theorem w88:ae bg xL 137 Mt.1=Ea Mt.2:=by kernel_rfl
theorem w99:ae bg xL 138 ME.1=Ea ME.2:=by kernel_rfl
theorem jzd:ae bg xL 138 MI.1=Ea MI.2:=by kernel_rfl
theorem j26:ae bg xL 137 MU.1=Ea MU.2:=by kernel_rfl
theorem j11:ae bg xL 85 Ni.1=Ea Ni.2:=by kernel_rfl
theorem w2:ae bg xL 47 e2.1=Ea e2.2:=by kernel_rfl
theorem w6:ae bg xL 113 e6.1=Ea e6.2:=by kernel_rfl
theorem w28:ae bg xL 102 Ln.1=Ea Ln.2:=by kernel_rfl
theorem w30:ae bg xL 113 Lq.1=Ea Lq.2:=by kernel_rfl
theorem w32:ae bg xL 47 Ls.1=Ea Ls.2:=by kernel_rfl
theorem w55:ae bg xL 47 LS.1=Ea LS.2:=by kernel_rfl
theorem w58:ae bg xL 47 LW.1=Ea LW.2:=by kernel_rfl
theorem w75:ae bg xL 102 Me.1=Ea Me.2:=by kernel_rfl
theorem w79:ae bg xL 113 Mi.1=Ea Mi.2:=by kernel_rfl
theorem w84:ae bg xL 137 Mp.1=Ea Mp.2:=by kernel_rfl
theorem w85:ae bg xL 138 Mq.1=Ea Mq.2:=by kernel_rfl
theorem w89:ae bg xL 138 Mu.1=Ea Mu.2:=by kernel_rfl
theorem j14:ae bg xL 137 MJ.1=Ea MJ.2:=by kernel_rfl
theorem jzw:ae bg xL 85 M5.1=Ea M5.2:=by kernel_rfl
theorem jxf:ae bg xL 85 M8.1=Ea M8.2:=by kernel_rfl
theorem j02:ae bg xL 85 Nd.1=Ea Nd.2:=by kernel_rfl
theorem j00:ae bg xL 85 Nk.1=Ea Nk.2:=by kernel_rfl
theorem w3:ae bg xL 113 e3.1=Ea e3.2:=by kernel_rfl
theorem w23:ae bg xL 47 Li.1=Ea Li.2:=by kernel_rfl
theorem w27:ae bg xL 113 Lm.1=Ea Lm.2:=by kernel_rfl
theorem w31:ae bg xL 102 Lr.1=Ea Lr.2:=by kernel_rfl
theorem w34:ae bg xL 102 Lu.1=Ea Lu.2:=by kernel_rfl
theorem w42:ae bg xL 113 LD.1=Ea LD.2:=by kernel_rfl
theorem w68:ae bg xL 47 L7.1=Ea L7.2:=by kernel_rfl
theorem w78:ae bg xL 47 Mh.1=Ea Mh.2:=by kernel_rfl
theorem w80:ae bg xL 137 Mj.1=Ea Mj.2:=by kernel_rfl
theorem w81:ae bg xL 138 Ml.1=Ea Ml.2:=by kernel_rfl
theorem w92:ae bg xL 137 Mx.1=Ea Mx.2:=by kernel_rfl
theorem w97:ae bg xL 138 MC.1=Ea MC.2:=by kernel_rfl
theorem jws:ae bg xL 137 MH.1=Ea MH.2:=by kernel_rfl
theorem j1i:ae bg xL 138 MN.1=Ea MN.2:=by kernel_rfl
theorem jxj:ae bg xL 137 MQ.1=Ea MQ.2:=by kernel_rfl
theorem jzp:ae bg xL 138 MZ.1=Ea MZ.2:=by kernel_rfl
theorem jys:ae bg xL 85 Nf.1=Ea Nf.2:=by kernel_rfl
theorem w1:ae bg xL 102 e1.1=Ea e1.2:=by kernel_rfl
theorem w5:ae bg xL 47 e5.1=Ea e5.2:=by kernel_rfl
theorem w17:ae bg xL 47 Lc.1=Ea Lc.2:=by kernel_rfl
theorem w24:ae bg xL 113 Lj.1=Ea Lj.2:=by kernel_rfl
theorem w43:ae bg xL 102 LG.1=Ea LG.2:=by kernel_rfl
theorem w47:ae bg xL 47 LK.1=Ea LK.2:=by kernel_rfl
theorem w50:ae bg xL 113 LN.1=Ea LN.2:=by kernel_rfl
theorem w73:ae bg xL 47 Mc.1=Ea Mc.2:=by kernel_rfl
theorem w77:ae bg xL 102 Mg.1=Ea Mg.2:=by kernel_rfl
theorem w94:ae bg xL 137 Mz.1=Ea Mz.2:=by kernel_rfl
theorem w98:ae bg xL 137 MD.1=Ea MD.2:=by kernel_rfl
theorem j3f:ae bg xL 138 MG.1=Ea MG.2:=by kernel_rfl
theorem jz9:ae bg xL 138 MK.1=Ea MK.2:=by kernel_rfl
theorem jx3:ae bg xL 137 MO.1=Ea MO.2:=by kernel_rfl
theorem jz6:ae bg xL 138 MP.1=Ea MP.2:=by kernel_rfl
theorem jx4:ae bg xL 137 MS.1=Ea MS.2:=by kernel_rfl
theorem jy9:ae bg xL 85 Nc.1=Ea Nc.2:=by kernel_rfl
end Go.Z
namespace Go.Z
open Go Go.Abs Go.Proofs
def Nr:List (Nat×List Row):=[(47,[e2,e5,e8,K6,K9,Lc,Lf,Li,Ll,Lp,Ls,Lw,Lz,LC,LH,LK,LM,LP,LS,LW,LZ,L2,L4,L7,Ma,Mc,Mf,Mh]),(85,[M0,M1,M2,M3,M4,M5,M6,M7,M8,M9,Na,Nb,Nc,Nd,Nf,Ng,Nh,Ni,Nj,Nk]),(113,[e3,e6,e9,K7,La,Ld,Lg,Lj,Lm,Lq,Lt,Lx,LA,LD,LI,LN,LQ,LU,LX,L5,L8,Md,Mi]),(102,[e1,e4,e7,K5,K8,Lb,Le,Lh,Lk,Ln,Lr,Lu,Ly,LB,LG,LJ,LL,LO,LR,LV,LY,L0,L3,L6,L9,Mb,Me,Mg]),(137,[Mj,Mm,Mp,Mr,Mt,Mv,Mx,Mz,MB,MD,MF,MH,MJ,ML,MO,MQ,MS,MU,MW,MY]),(138,[Ml,Mn,Mq,Ms,Mu,Mw,My,MA,MC,ME,MG,MI,MK,MN,MP,MR,MT,MV,MX,MZ])]
def tab:Nat→Option (List Row):=s6 Nr
theorem jr3:Ns Tryz.prog tab:=
 Nt (t:=Nr) ⟨⟨qd bh w2,qd bh w5,qd bh w8,qd bh w11,qd bh w14,qd bh w17,qd bh w20,qd bh w23,qd bh w26,qd bh w29,qd bh w32,qd bh w35,qd bh w38,qd bh w41,qd bh w44,qd bh w47,qd bh w49,qd bh w52,qd bh w55,qd bh w58,qd bh w61,qd bh w63,qd bh w65,qd bh w68,qd bh w71,qd bh w73,qd bh w76,qd bh w78,trivial⟩,⟨qd bh jyo,qd bh jxl,qd bh j2e,qd bh j0f,qd bh j2s,qd bh jzw,qd bh j1l,qd bh jxy,qd bh jxf,qd bh j2d,qd bh j2u,qd bh j0j,qd bh jy9,qd bh j02,qd bh jys,qd bh jzs,qd bh j1c,qd bh j11,qd bh j2b,qd bh j00,trivial⟩,⟨qd bh w3,qd bh w6,qd bh w9,qd bh w12,qd bh w15,qd bh w18,qd bh w21,qd bh w24,qd bh w27,qd bh w30,qd bh w33,qd bh w36,qd bh w39,qd bh w42,qd bh w45,qd bh w50,qd bh w53,qd bh w56,qd bh w59,qd bh w66,qd bh w69,qd bh w74,qd bh w79,trivial⟩,⟨qd bh w1,qd bh w4,qd bh w7,qd bh w10,qd bh w13,qd bh w16,qd bh w19,qd bh w22,qd bh w25,qd bh w28,qd bh w31,qd bh w34,qd bh w37,qd bh w40,qd bh w43,qd bh w46,qd bh w48,qd bh w51,qd bh w54,qd bh w57,qd bh w60,qd bh w62,qd bh w64,qd bh w67,qd bh w70,qd bh w72,qd bh w75,qd bh w77,trivial⟩,⟨qd bh w80,qd bh w82,qd bh w84,qd bh w86,qd bh w88,qd bh w90,qd bh w92,qd bh w94,qd bh w96,qd bh w98,qd bh jw7,qd bh jws,qd bh j14,qd bh jyn,qd bh jx3,qd bh jxj,qd bh jx4,qd bh j26,qd bh j0e,qd bh jzz,trivial⟩,⟨qd bh w81,qd bh w83,qd bh w85,qd bh w87,qd bh w89,qd bh w91,qd bh w93,qd bh w95,qd bh w97,qd bh w99,qd bh j3f,qd bh jzd,qd bh jz9,qd bh j1i,qd bh jz6,qd bh j0g,qd bh j20,qd bh jwt,qd bh jzv,qd bh jzp,trivial⟩,trivial⟩
def dj:jg:={ bn:=bg.bn,bM:=fun k=>match tab k with
 |some l=>Ea fun args=>AP args l
 |none=>CJ k,bR:=bg.bR,maps:=bg.maps }
theorem dp:bu Tryz.prog dj where
 fn:=bh.fn
 eW:=by
  intro k f hf
  simp only[dj]at hf
  split at hf
  ·rename_i l hl
   cases hf
   exact⟨kf (Nu Nr (by kernel_rfl) k l hl),fun args v o hv _ _=>jr3 k l hl _ (Nv hv)⟩
  ·exact bh.eW k f hf
 mixed:=bh.mixed
 dY:=bh.dY
 maps:=bh.maps
abbrev xA:=yj dj 1000
end Go.Z
