/- The values, states and rows of the examples' run. -/
import Derived.Test.YtfopaakmgogpiaaGreatDoorLA
import Derived.Test.YtfopaakmgogpiaaGreatDoorAbsH
set_option linter.unusedVariables false
set_option linter.unusedSimpArgs false
namespace Go.Z
open Go Go.Abs Go.Proofs
abbrev xL:=kq prL 1000
def xv1:AVal:=.list true 0 []
def bv1:ABox:=.cells [(xv1,false),(xv1,false),(.vref 2 0 1,false)]
def xv2:AVal:=.int .i64 0
def xv3:AVal:=.agg [xv2,xv1,xv1,xv1]
def xv4:AVal:=.int .i64 1
def xv5:AVal:=.str [99,111,110,101,95,49]
def xv6:AVal:=.str [99,111,110,101]
def xv7:AVal:=.int .i64 10
def xv8:AVal:=.bool false
def xv9:AVal:=.agg [xv5,xv6,xv7,xv7,xv8]
def jem:AVal:=.agg [xv4,.list false 5 [xv9],xv1,xv1]
def lv1:List AVal:=[xv3,jem]
def q6v:AVal:=.str [108,111,116]
def lv2:List AVal:=[xv5,xv6]
def qs4:AVal:=.agg [xv4,q6v,.list false 1 lv2,.list false 1 [xv4,xv7],.str []]
def bv2:ABox:=.vec 5 0 [qs4]
def bv3:ABox:=.cells [(.vref 7 1 2,false),(.vref 5 1 2,false),(.vref 2 2 3,false)]
def qng:AVal:=.str [99,111,105,108,95,49]
def qxy:AVal:=.str [99,111,105,108]
def qtk:AVal:=.int .i64 5
def jnj:AVal:=.agg [qng,qxy,qtk,qtk,xv8]
def qsy:AVal:=.list false 5 [xv9,jnj]
def jb2:AVal:=.agg [xv4,qsy,xv1,xv1]
def lv3:List AVal:=lv1++[jb2]
def bv4:ABox:=.vec 4 2 lv3
def qk0:AVal:=.int .i64 2
def lv4:List AVal:=[qng,qxy]
def qx9:AVal:=.agg [qk0,q6v,.list false 1 lv4,.list false 1 [xv4,qtk],.str []]
def lv5:List AVal:=[qs4,qx9]
def bv5:ABox:=.vec 5 1 lv5
def bv6:ABox:=.cells [(.vref 7 2 3,false),(.vref 5 2 3,false),(.vref 2 3 4,false)]
def qe1:AVal:=.str [98,111,120]
def jgh:AVal:=.agg [xv4,qsy,.list false 4 [.agg [qe1,xv1,xv1,xv1]],xv1]
def lv6:List AVal:=lv3++[jgh]
def bv7:ABox:=.vec 4 3 lv6
def qh4:AVal:=.int .i64 3
def jsp:AVal:=.str [112,114,111,100,117,99,116]
def jfc:AVal:=.list false 1 [qe1]
def qxs:AVal:=.agg [qh4,jsp,jfc,.list false 1 [xv4],.str []]
def lv7:List AVal:=lv5++[qxs]
def bv8:ABox:=.vec 5 2 lv7
def bv9:ABox:=.cells [(.vref 7 3 4,false),(.vref 5 3 4,false),(.vref 2 4 5,false)]
def jo7:AVal:=.agg [xv6,qk0]
def jew:AVal:=.agg [xv4,qsy,.list false 4 [.agg [qe1,.list false 2 [jo7],xv1,xv1]],xv1]
def lv8:List AVal:=lv6++[jew]
def jrj:ABox:=.vec 4 4 lv8
def q5r:AVal:=.int .i64 4
def q5t:AVal:=.str [110,101,101,100]
def qxm:AVal:=.agg [q5r,q5t,.list false 1 [qe1,xv6],.list false 1 [xv4,qk0],.str []]
def lv9:List AVal:=lv7++[qxm]
def q83:ABox:=.vec 5 3 lv9
def jre:ABox:=.cells [(.vref 7 4 5,false),(.vref 5 4 5,false),(.vref 2 5 6,false)]
def jht:AVal:=.list false 2 [jo7,.agg [qxy,xv4]]
def jck:AVal:=.agg [xv4,qsy,.list false 4 [.agg [qe1,jht,xv1,xv1]],xv1]
def jq5:List AVal:=lv8++[jck]
def jnc:ABox:=.vec 4 5 jq5
def qyf:AVal:=.agg [qtk,q5t,.list false 1 [qe1,qxy],.list false 1 [xv4,xv4],.str []]
def jmy:List AVal:=lv9++[qyf]
def q6p:ABox:=.vec 5 4 jmy
def jqr:ABox:=.cells [(.vref 7 5 6,false),(.vref 5 5 6,false),(.vref 2 6 7,false)]
def zf0:List AVal:=[qe1,jht]
def qs8:AVal:=.str [115,119,101,101,112]
def jrt:AVal:=.int .i64 80
def jpt:AVal:=.int .i64 90
def jro:AVal:=.list false 3 [.agg [qs8,jrt,jpt]]
def jgf:List AVal:=zf0++[jro]
def jha:AVal:=.agg [xv4,qsy,.list false 4 [.agg ((jgf++[xv1]))],xv1]
def jqe:List AVal:=jq5++[jha]
def jqq:ABox:=.vec 4 6 jqe
def jdk:AVal:=.int .i64 6
def jo1:AVal:=.str [116,101,115,116]
def qxc:AVal:=.agg [jdk,jo1,.list false 1 [qe1,qs8],.list false 1 [xv4,jrt,jpt],.str []]
def jrs:List AVal:=jmy++[qxc]
def q72:ABox:=.vec 5 5 jrs
def joj:ABox:=.cells [(.vref 7 6 7,false),(.vref 5 6 7,false),(.vref 2 7 8,false)]
def jcm:AVal:=.agg [jht,jro]
def q1e:AVal:=.list false 4 [.agg ((jgf++[.list false 2 [jcm]]))]
def jg5:AVal:=.agg [qk0,qsy,q1e,xv1]
def jpc:List AVal:=jqe++[jg5]
def jsq:ABox:=.vec 4 7 jpc
def jfj:AVal:=.int .i64 7
def je0:AVal:=.str [105,115,115,117,101]
def qx3:AVal:=.agg [jfj,je0,jfc,.list false 1 [qk0],.str []]
def jmw:List AVal:=jrs++[qx3]
def q60:ABox:=.vec 5 6 jmw
def jrf:ABox:=.cells [(.vref 7 7 8,false),(.vref 5 7 8,false),(.vref 2 8 9,false)]
def qia:AVal:=.str [117,49]
def jet:AVal:=.agg [qh4,qsy,q1e,.list false 8 [.agg [qia,qe1,xv4,xv1,xv1,.str [],xv8,xv2]]]
def jof:List AVal:=jpc++[jet]
def jpp:ABox:=.vec 4 8 jof
def q6z:AVal:=.int .i64 8
def jrc:AVal:=.str [98,117,105,108,100]
def qsz:List AVal:=[qia,qe1]
def qjc:AVal:=.list false 1 [qh4]
def qye:AVal:=.agg [q6z,jrc,.list false 1 qsz,qjc,.str []]
def jpu:List AVal:=jmw++[qye]
def q64:ABox:=.vec 5 7 jpu
def jq8:ABox:=.cells [(.vref 7 8 9,false),(.vref 5 8 9,false),(.vref 2 9 10,false)]
def jgv:AVal:=.agg ((lv2++[xv7,q6z,xv8]))
def jsd:AVal:=.agg [xv5,qk0]
def q77:AVal:=.agg [qh4,.list false 5 [jgv,jnj],q1e,.list false 8 [.agg ((qsz++[xv4,.list false 2 [jsd],xv1,.str [],xv8,xv2]))]]
def js7:List AVal:=jof++[q77]
def jmd:ABox:=.vec 4 9 js7
def jhi:AVal:=.int .i64 9
def q7c:AVal:=.str [117,115,101]
def js1:AVal:=.list false 1 [qia,xv5]
def qx2:AVal:=.agg [jhi,q7c,js1,.list false 1 [qh4,qk0],.str []]
def jmc:List AVal:=jpu++[qx2]
def q75:ABox:=.vec 5 8 jmc
def jcd:ABox:=.cells [(.vref 7 9 10,false),(.vref 5 9 10,false),(.vref 2 10 11,false)]
def zbi:List AVal:=lv4++[qtk]
def jox:List AVal:=zbi++[q5r]
def jqt:List AVal:=[qh4,.list false 5 [jgv,.agg ((jox++[xv8]))]]
def q8i:List AVal:=jqt++[q1e]
def q1t:AVal:=.list false 2 [jsd,.agg [qng,xv4]]
def q70:AVal:=.agg ((q8i++[.list false 8 [.agg ((qsz++[xv4,q1t,xv1,.str [],xv8,xv2]))]]))
def jmz:List AVal:=js7++[q70]
def jc2:ABox:=.vec 4 10 jmz
def jsu:AVal:=.list false 1 [qh4,xv4]
def qxd:AVal:=.agg [xv7,q7c,.list false 1 [qia,qng],jsu,.str []]
def js0:List AVal:=jmc++[qxd]
def qw7:ABox:=.vec 5 9 js0
def jdl:ABox:=.cells [(.vref 7 10 11,false),(.vref 5 10 11,false),(.vref 2 11 12,false)]
def jmk:List AVal:=[qs8,xv4]
def jo9:AVal:=.int .i64 85
def jrr:AVal:=.agg ((jmk++[jo9]))
def jef:AVal:=.list false 3 [jrr]
def jcg:AVal:=.list false 8 [.agg ((qsz++[xv4,q1t,jef,.str [],xv8,xv2]))]
def qyj:AVal:=.agg ((q8i++[jcg]))
def q23:List AVal:=jmz++[qyj]
def jg6:ABox:=.vec 4 11 q23
def q0j:AVal:=.int .i64 11
def jbt:AVal:=.str [109,101,97,115,117,114,101]
def jq2:AVal:=.list false 1 [qia,qs8]
def qxe:AVal:=.agg [q0j,jbt,jq2,.list false 1 [qh4,jo9],.str []]
def q2r:List AVal:=js0++[qxe]
def qyg:ABox:=.vec 5 10 q2r
def jfp:ABox:=.cells [(.vref 7 11 12,false),(.vref 5 11 12,false),(.vref 2 12 13,false)]
def qap:AVal:=.bool true
def je9:AVal:=.agg [qh4,.list false 5 [jgv,.agg ((jox++[qap]))],q1e,jcg]
def q3f:ABox:=.vec 4 12 ((q23++[je9]))
def jcn:AVal:=.int .i64 12
def jse:AVal:=.str [104,111,108,100]
def jol:AVal:=.list false 1 [qng]
def qxu:AVal:=.agg [jcn,jse,jol,qjc,.str []]
def jqj:List AVal:=q2r++[qxu]
def qor:ABox:=.vec 5 11 jqj
def jpo:ABox:=.cells [(.vref 7 12 13,false),(.vref 5 11 11,false),(.vref 2 12 12,false)]
def q0h:AVal:=.int .i64 13
def qto:AVal:=.str [117,110,100,111]
def q06:AVal:=.list false 1 []
def q2b:AVal:=.agg [q0h,qto,q06,xv1,.str []]
def jq3:List AVal:=jqj++[q2b]
def jr6:ABox:=.vec 5 12 jq3
def jp4:ABox:=.cells [(.vref 7 13 14,false),(.vref 5 12 12,false),(.vref 2 13 13,false)]
def jmx:List AVal:=jqt++[.list false 4 [.agg ((jgf++[.list false 2 [jcm,jcm]]))]]
def q6i:AVal:=.agg ((jmx++[jcg]))
def jny:List AVal:=q23++[q6i]
def jp1:ABox:=.vec 4 13 jny
def jdx:AVal:=.int .i64 14
def qtq:AVal:=.agg [jdx,je0,jfc,qjc,.str []]
def jou:List AVal:=q2r++[qtq]
def jmr:ABox:=.vec 5 12 jou
def jmq:List AVal:=jq3++[qtq]
def jqu:ABox:=.vec 5 13 jmq
def jsc:ABox:=.cells [(.vref 7 14 15,false),(.vref 5 13 13,false),(.vref 2 14 14,false)]
def jfv:AVal:=.agg ((jmx++[.list false 8 [.agg ((qsz++[qk0,q1t,jef,.str [],xv8,xv2]))]]))
def qxi:ABox:=.vec 4 14 ((jny++[jfv]))
def q1x:AVal:=.int .i64 15
def jnw:AVal:=.str [117,112,100,97,116,101]
def qk5:AVal:=.list false 1 [qia]
def qs5:AVal:=.agg [q1x,jnw,qk5,qjc,.str []]
def qw4:ABox:=.vec 5 13 ((jou++[qs5]))
def jq0:List AVal:=jmq++[qs5]
def jqf:ABox:=.vec 5 14 jq0
def jrd:ABox:=.cells [(.vref 7 15 16,false),(.vref 5 13 12,false),(.vref 2 14 13,false)]
def q0t:AVal:=.int .i64 16
def q0n:AVal:=.agg [q0t,qto,q06,xv1,.str []]
def jn3:List AVal:=jq0++[q0n]
def jsz:ABox:=.vec 5 15 jn3
def joq:ABox:=.cells [(.vref 7 16 17,false),(.vref 5 13 11,false),(.vref 2 14 12,false)]
def jb1:AVal:=.int .i64 17
def q2n:AVal:=.agg [jb1,qto,q06,xv1,.str []]
def jq1:List AVal:=jn3++[q2n]
def jmb:ABox:=.vec 5 16 jq1
def joi:ABox:=.cells [(.vref 7 17 18,false),(.vref 5 14 12,false),(.vref 2 15 13,false)]
def jqn:AVal:=.int .i64 91
def jhc:AVal:=.agg ((q8i++[.list false 8 [.agg ((qsz++[xv4,q1t,.list false 3 [jrr,.agg ((jmk++[jqn]))],.str [],xv8,xv2]))]]))
def q0w:ABox:=.vec 4 15 ((q23++[jhc]))
def jgd:AVal:=.int .i64 18
def qoe:AVal:=.agg [jgd,jbt,jq2,.list false 1 [qh4,jqn],.str []]
def q3n:ABox:=.vec 5 14 ((q2r++[qoe]))
def jp8:List AVal:=jq1++[qoe]
def jr4:ABox:=.vec 5 17 jp8
def jd4:ABox:=.cells [(.vref 7 18 19,false),(.vref 5 14 11,false),(.vref 2 15 12,false)]
def qsb:AVal:=.int .i64 19
def qum:AVal:=.agg [qsb,qto,q06,xv1,.str []]
def jon:List AVal:=jp8++[qum]
def jep:ABox:=.vec 5 18 jon
def jhq:ABox:=.cells [(.vref 7 19 20,false),(.vref 5 15 12,false),(.vref 2 16 13,false)]
def q5y:AVal:=.agg ((q8i++[.list false 8 [.agg ((qsz++[xv4,q1t,jef,.str [],qap,xv2]))]]))
def jcl:ABox:=.vec 4 16 ((q23++[q5y]))
def q0c:AVal:=.int .i64 20
def qkf:AVal:=.str [115,104,105,112]
def qnc:AVal:=.agg [q0c,qkf,qk5,qjc,.str []]
def jfs:ABox:=.vec 5 15 ((q2r++[qnc]))
def jrb:List AVal:=jon++[qnc]
def jhd:ABox:=.vec 5 19 jrb
def jn9:List AVal:=[je0,qe1]
def jqy:List AVal:=[q7c,qia]
def zbr:List AVal:=jqy++[xv5]
def jsx:List AVal:=zbr++[.str [51]]
def qnj:AVal:=.list false 1 [qkf,qia,.str [51]]
def q8u:AVal:=.agg [xv7,qkf,qk5,qjc,.str []]
def q8s:AVal:=.agg [q0j,qkf,qk5,qjc,.str []]
def jhy:AVal:=.int .i64 31
def q6j:AVal:=.tup [xv3,jhy]
def zgb:List AVal:=[jbt,qia]
def zbj:List AVal:=zgb++[qs8]
def jm4:List AVal:=zbj++[.str [51]]
def q5w:AVal:=.agg [q0h,qkf,qk5,qjc,.str []]
def jia:AVal:=.int .i64 34
def qui:AVal:=.list false 1 [qto]
def q80:AVal:=.agg [q1x,qkf,qk5,qjc,.str []]
def jir:AVal:=.int .i64 32
def q8q:AVal:=.agg [q0t,qkf,qk5,qjc,.str []]
def q7n:AVal:=.agg [qsb,qkf,qk5,qjc,.str []]
def qsa:AVal:=.int .i64 21
def jh0:AVal:=.agg [qsa,qto,q06,xv1,.str []]
def q7k:AVal:=.agg [qsa,q7c,js1,jsu,.str []]
def jig:AVal:=.str [49,32,108,111,116,32,99,111,110,101,95,49,32,99,111,110,101,32,49,32,49,48]
def jik:AVal:=.str [50,32,108,111,116,32,99,111,105,108,95,49,32,99,111,105,108,32,49,32,53]
def jih:AVal:=.str [51,32,112,114,111,100,117,99,116,32,98,111,120,32,49]
def jid:AVal:=.str [52,32,110,101,101,100,32,98,111,120,32,99,111,110,101,32,49,32,50]
def jh1:AVal:=.str [53,32,110,101,101,100,32,98,111,120,32,99,111,105,108,32,49,32,49]
def jic:AVal:=.str [54,32,116,101,115,116,32,98,111,120,32,115,119,101,101,112,32,49,32,56,48,32,57,48]
def jie:AVal:=.str [55,32,105,115,115,117,101,32,98,111,120,32,50]
def jh9:AVal:=.str [56,32,98,117,105,108,100,32,117,49,32,98,111,120,32,51]
def jio:AVal:=.str [57,32,117,115,101,32,117,49,32,99,111,110,101,95,49,32,51,32,50]
def jit:AVal:=.str [49,48,32,117,115,101,32,117,49,32,99,111,105,108,95,49,32,51,32,49]
def jiv:AVal:=.str [49,49,32,109,101,97,115,117,114,101,32,117,49,32,115,119,101,101,112,32,51,32,56,53]
def jil:AVal:=.str [49,50,32,104,111,108,100,32,99,111,105,108,95,49,32,51]
def jhx:AVal:=.str [49,51,32,117,110,100,111]
def jiy:AVal:=.str [49,52,32,105,115,115,117,101,32,98,111,120,32,51]
def jh2:AVal:=.str [49,53,32,117,112,100,97,116,101,32,117,49,32,51]
def jij:AVal:=.str [49,54,32,117,110,100,111]
def jiw:AVal:=.str [49,55,32,117,110,100,111]
def jif:AVal:=.str [49,56,32,109,101,97,115,117,114,101,32,117,49,32,115,119,101,101,112,32,51,32,57,49]
def jiz:AVal:=.str [49,57,32,117,110,100,111]
def jip:AVal:=.str [50,48,32,115,104,105,112,32,117,49,32,51]
def q78:AVal:=.list false 5 jrb
def qsx:List AVal:=[.ptr 0 0,.str [115,104,105,112,32,117,49,32,51]]
def q62:AVal:=.tup [.str [],jhy]
def jo3:List AVal:=[.ptr 0 0,.str [109,105,115,115,105,110,103,32,117,49]]
def jiu:AVal:=.tup [.str [110,111,110,101],xv2]
def jpe:List AVal:=[.ptr 0 0,.str [115,116,111,99,107,32,99,111,105,108]]
def q2y:List AVal:=[.ptr 0 0,qto]
def jrk:List AVal:=[.ptr 0 0,.str [115,104,105,112,112,101,100]]
def hw1:qf:=[bv1,bv1,.vec 4 0 [xv3]]
def hw2:qf:=[.cells [(.vref 7 0 1,false),(.vref 5 0 1,false),(.vref 2 1 2,false)],bv1,.vec 4 1 lv1,.map jk,.map ji,bv2,.hole,bv2]
def hw3:qf:=[bv3,bv1,bv4,.map jk,.map ji,bv5,.hole,bv5,.map jk,.map ji]
def hw4:qf:=[bv3,bv1,bv4,.map jk,.map ji,bv5,.hole,bv5]
def hw5:qf:=[bv6,bv1,bv7,.map jk,.map ji,bv8,.hole,bv8,.map jk,.map ji]
def hw6:qf:=[bv6,bv1,bv7,.map jk,.map ji,bv8,.hole,bv8]
def hw7:qf:=[bv9,bv1,jrj,.map jk,.map ji,q83,.hole,q83,.map jk,.map ji]
def hw8:qf:=[bv9,bv1,jrj,.map jk,.map ji,q83,.hole,q83]
def hw9:qf:=[jre,bv1,jnc,.map jk,.map ji,q6p,.hole,q6p,.map jk,.map ji]
def zcd:qf:=[jre,bv1,jnc,.map jk,.map ji,q6p,.hole,q6p]
def za2:qf:=[jqr,bv1,jqq,.map jk,.map ji,q72,.hole,q72,.map jk,.map ji]
def zb9:qf:=[jqr,bv1,jqq,.map jk,.map ji,q72,.hole,q72]
def zfl:qf:=[joj,bv1,jsq,.map jk,.map ji,q60,.hole,q60,.map jk,.map ji]
def zc5:qf:=[joj,bv1,jsq,.map jk,.map ji,q60,.hole,q60]
def j85:qf:=[jrf,bv1,jpp,.map jk,.map ji,q64,.hole,q64,.map jk,.map ji]
def zc6:qf:=[jrf,bv1,jpp,.map jk,.map ji,q64,.hole,q64]
def jqa:qf:=[jq8,bv1,jmd,.map jk,.map ji,q75,.hole,q75,.map jk,.map ji]
def jpy:qf:=[jq8,bv1,jmd,.map jk,.map ji,q75,.hole,q75]
def jnk:qf:=[jcd,bv1,jc2,.map jk,.map ji,qw7,.hole,qw7,.map jk,.map ji]
def jgj:qf:=[jcd,bv1,jc2,.map jk,.map ji,qw7,.hole,qw7]
def zc8:qf:=[jcd,bv1,jc2,.map jk,.map ji,qw7,.hole,qw7,.map jk]
def zed:qf:=[jdl,bv1,jg6,.map jk,.map ji,qyg,.hole,qyg,.map jk,.map ji]
def jq7:qf:=[jdl,bv1,jg6,.map jk,.map ji,qyg,.hole,qyg]
def j9q:qf:=[jdl,bv1,jg6,.map jk,.map ji,qyg,.hole,qyg,.map jk]
def js9:qf:=[jfp,bv1,q3f,.map jk,.map ji,qor,.hole,qor,.map jk,.map ji]
def jb8:qf:=[jfp,bv1,q3f,.map jk,.map ji,qor,.hole,qor]
def j9p:qf:=[jfp,bv1,q3f,.map jk,.map ji,qor,.hole,qor,.map jk]
def zbu:qf:=[jpo,bv1,q3f,.map jk,.map ji,qor,.hole,jr6,.map jk,.map ji]
def j7q:qf:=[jpo,bv1,q3f,.map jk,.map ji,qor,.hole,jr6]
def jsi:qf:=[jp4,bv1,jp1,.map jk,.map ji,jmr,.hole,jqu,.map jk,.map ji]
def jqo:qf:=[jp4,bv1,jp1,.map jk,.map ji,jmr,.hole,jqu]
def jn4:qf:=[jsc,bv1,qxi,.map jk,.map ji,qw4,.hole,jqf,.map jk,.map ji]
def jos:qf:=[jsc,bv1,qxi,.map jk,.map ji,qw4,.hole,jqf]
def zfe:qf:=[jrd,bv1,qxi,.map jk,.map ji,qw4,.hole,jsz,.map jk,.map ji]
def zee:qf:=[jrd,bv1,qxi,.map jk,.map ji,qw4,.hole,jsz]
def j7u:qf:=[joq,bv1,qxi,.map jk,.map ji,qw4,.hole,jmb,.map jk,.map ji]
def zal:qf:=[joq,bv1,qxi,.map jk,.map ji,qw4,.hole,jmb]
def jop:qf:=[joi,bv1,q0w,.map jk,.map ji,q3n,.hole,jr4,.map jk,.map ji]
def joe:qf:=[joi,bv1,q0w,.map jk,.map ji,q3n,.hole,jr4]
def j76:qf:=[jd4,bv1,q0w,.map jk,.map ji,q3n,.hole,jep,.map jk,.map ji]
def q2z:qf:=[jd4,bv1,q0w,.map jk,.map ji,q3n,.hole,jep]
def q5q:qf:=[jd4,bv1,q0w,.map jk,.map ji,q3n,.hole,jep,.map jk]
def jd2:qf:=[jhq,bv1,jcl,.map jk,.map ji,jfs,.hole,jhd,.map jk,.map ji]
def jd6:qf:=[jhq,bv1,jcl,.map jk,.map ji,jfs,.hole,jhd]
def zan:qf:=[jhq,bv1,jcl,.map jk,.map ji,jfs,.hole,jhd,.map jk]
def e1:Row:=([.list false 1 [q6v,xv5,xv6,.str [49],.str [49,48]],xv4],.tup [qs4,qap],false)
def e2:Row:=([qs4],xv2,false)
def e3:Row:=([xv3,qs4],.tup [jem,xv2],false)
def e4:Row:=([.list false 1 [q6v,qng,qxy,.str [49],.str [53]],qk0],.tup [qx9,qap],false)
def e5:Row:=([qx9],xv2,false)
def e6:Row:=([jem,qx9],.tup [jb2,xv2],false)
def e7:Row:=([.list false 1 [jsp,qe1,.str [49]],qh4],.tup [qxs,qap],false)
def e8:Row:=([qxs],xv2,false)
def e9:Row:=([jb2,qxs],.tup [jgh,xv2],false)
def e10:Row:=([.list false 1 [q5t,qe1,xv6,.str [49],.str [50]],q5r],.tup [qxm,qap],false)
def e11:Row:=([qxm],xv2,false)
def e12:Row:=([jgh,qxm],.tup [jew,xv2],false)
def e13:Row:=([.list false 1 [q5t,qe1,qxy,.str [49],.str [49]],qtk],.tup [qyf,qap],false)
def e14:Row:=([qyf],xv2,false)
def e15:Row:=([jew,qyf],.tup [jck,xv2],false)
def e16:Row:=([.list false 1 [jo1,qe1,qs8,.str [49],.str [56,48],.str [57,48]],jdk],.tup [qxc,qap],false)
def e17:Row:=([qxc],xv2,false)
def e18:Row:=([jck,qxc],.tup [jha,xv2],false)
def e19:Row:=([.list false 1 ((jn9++[.str [50]])),jfj],.tup [qx3,qap],false)
def e20:Row:=([qx3],xv2,false)
def e21:Row:=([jha,qx3],.tup [jg5,xv2],false)
def e22:Row:=([.list false 1 [jrc,qia,qe1,.str [51]],q6z],.tup [qye,qap],false)
def e23:Row:=([qye],xv2,false)
def e24:Row:=([jg5,qye],.tup [jet,xv2],false)
def e25:Row:=([.list false 1 ((jsx++[.str [50]])),jhi],.tup [qx2,qap],false)
def e26:Row:=([qx2],xv2,false)
def e27:Row:=([jet,qx2],.tup [q77,xv2],false)
def e28:Row:=([qnj,xv7],.tup [q8u,qap],false)
def e29:Row:=([q8u],xv2,false)
def e30:Row:=([q77,q8u],.tup [xv3,q0c],false)
def e31:Row:=([.list false 1 ((jqy++[qng,.str [51],.str [49]])),xv7],.tup [qxd,qap],false)
def e32:Row:=([qxd],xv2,false)
def e33:Row:=([q77,qxd],.tup [q70,xv2],false)
def e34:Row:=([qnj,q0j],.tup [q8s,qap],false)
def e35:Row:=([q8s],xv2,false)
def e36:Row:=([q70,q8s],q6j,false)
def e37:Row:=([.list false 1 ((jm4++[.str [56,53]])),q0j],.tup [qxe,qap],false)
def e38:Row:=([qxe],xv2,false)
def e39:Row:=([q70,qxe],.tup [qyj,xv2],false)
def e40:Row:=([.list false 1 [jse,qng,.str [51]],jcn],.tup [qxu,qap],false)
def e41:Row:=([qxu],xv2,false)
def e42:Row:=([qyj,qxu],.tup [je9,xv2],false)
def e43:Row:=([qnj,q0h],.tup [q5w,qap],false)
def e44:Row:=([q5w],xv2,false)
def e45:Row:=([je9,q5w],.tup [xv3,jia],false)
def e46:Row:=([qui,q0h],.tup [q2b,qap],false)
def e47:Row:=([q2b],xv2,false)
def e48:Row:=([.list false 1 ((jn9++[.str [51]])),jdx],.tup [qtq,qap],false)
def e49:Row:=([qtq],xv2,false)
def e50:Row:=([qyj,qtq],.tup [q6i,xv2],false)
def e51:Row:=([qnj,q1x],.tup [q80,qap],false)
def e52:Row:=([q80],xv2,false)
def e53:Row:=([q6i,q80],.tup [xv3,jir],false)
def e54:Row:=([.list false 1 [jnw,qia,.str [51]],q1x],.tup [qs5,qap],false)
def e55:Row:=([qs5],xv2,false)
def e56:Row:=([q6i,qs5],.tup [jfv,xv2],false)
def e57:Row:=([qnj,q0t],.tup [q8q,qap],false)
def e58:Row:=([q8q],xv2,false)
def e59:Row:=([jfv,q8q],q6j,false)
def e60:Row:=([qui,q0t],.tup [q0n,qap],false)
def e61:Row:=([q0n],xv2,false)
def e62:Row:=([qui,jb1],.tup [q2n,qap],false)
def e63:Row:=([q2n],xv2,false)
def e64:Row:=([.list false 1 ((jm4++[.str [57,49]])),jgd],.tup [qoe,qap],false)
def e65:Row:=([qoe],xv2,false)
def e66:Row:=([qyj,qoe],.tup [jhc,xv2],false)
def e67:Row:=([qnj,qsb],.tup [q7n,qap],false)
def e68:Row:=([q7n],xv2,false)
def e69:Row:=([jhc,q7n],q6j,false)
def e70:Row:=([qui,qsb],.tup [qum,qap],false)
def e71:Row:=([qum],xv2,false)
def e72:Row:=([qnj,q0c],.tup [qnc,qap],false)
def e73:Row:=([qnc],xv2,false)
def e74:Row:=([qyj,qnc],.tup [q5y,xv2],false)
def e75:Row:=([qui,qsa],.tup [jh0,qap],false)
def e76:Row:=([jh0],xv2,false)
def e77:Row:=([.list false 1 ((jsx++[.str [49]])),qsa],.tup [q7k,qap],false)
def e78:Row:=([q7k],xv2,false)
def e79:Row:=([q5y,q7k],.tup [xv3,qsa],false)
def e80:Row:=([qs4],jig,false)
def e81:Row:=([jig],.str [51,57,56,57,49,56,50],false)
def e82:Row:=([qx9],jik,false)
def e83:Row:=([jik],.str [48,49,55,50,54,57,55],false)
def e84:Row:=([qxs],jih,false)
def e85:Row:=([jih],.str [54,49,49,52,48,56,52],false)
def e86:Row:=([qxm],jid,false)
def e87:Row:=([jid],.str [49,55,56,55,50,51,49],false)
def e88:Row:=([qyf],jh1,false)
def e89:Row:=([jh1],.str [50,52,55,55,51,52,50],false)
def e90:Row:=([qxc],jic,false)
def e91:Row:=([jic],.str [50,48,50,49,51,55,56],false)
def e92:Row:=([qx3],jie,false)
def e93:Row:=([jie],.str [57,55,57,50,54,57,53],false)
def e94:Row:=([qye],jh9,false)
def e95:Row:=([jh9],.str [48,55,51,51,57,54,55],false)
def e96:Row:=([qx2],jio,false)
def e97:Row:=([jio],.str [57,54,50,56,50,52,50],false)
def e98:Row:=([qxd],jit,false)
def e99:Row:=([jit],.str [51,51,55,48,50,52,48],false)
def jfd:Row:=([qxe],jiv,false)
def jde:Row:=([jiv],.str [56,50,52,48,49,52,56],false)
def jbu:Row:=([qxu],jil,false)
def jg9:Row:=([jil],.str [53,50,48,49,49,53,55],false)
def jc5:Row:=([q2b],jhx,false)
def jcr:Row:=([jhx],.str [54,55,52,56,55,48,57],false)
def jc3:Row:=([qtq],jiy,false)
def jho:Row:=([jiy],.str [48,56,53,50,57,54,53],false)
def je2:Row:=([qs5],jh2,false)
def jdh:Row:=([jh2],.str [50,52,56,53,48,49,51],false)
def jcf:Row:=([q0n],jij,false)
def jgo:Row:=([jij],.str [56,51,50,54,51,57,51],false)
def jfl:Row:=([q2n],jiw,false)
def jb0:Row:=([jiw],.str [50,49,56,53,54,57,53],false)
def jeb:Row:=([qoe],jif,false)
def jcq:Row:=([jif],.str [50,51,54,49,51,49,55],false)
def jfk:Row:=([qum],jiz,false)
def jda:Row:=([jiz],.str [57,57,48,52,48,55,55],false)
def jfh:Row:=([qnc],jip,false)
def jcj:Row:=([jip],.str [53,49,49,54,56,51,51],false)
def jft:Row:=([.str [49,32,108,111,116,32,99,111,110,101,95,49,32,99,111,110,101,32,49,32,49,48,35,51,57,56,57,49,56,50],xv2],.tup [qs4,xv2],false)
def jhl:Row:=([.str [50,32,108,111,116,32,99,111,105,108,95,49,32,99,111,105,108,32,49,32,53,35,48,49,55,50,54,57,55],xv4],.tup [qx9,xv2],false)
def jgx:Row:=([.str [51,32,112,114,111,100,117,99,116,32,98,111,120,32,49,35,54,49,49,52,48,56,52],qk0],.tup [qxs,xv2],false)
def jd5:Row:=([.str [52,32,110,101,101,100,32,98,111,120,32,99,111,110,101,32,49,32,50,35,49,55,56,55,50,51,49],qh4],.tup [qxm,xv2],false)
def jfy:Row:=([.str [53,32,110,101,101,100,32,98,111,120,32,99,111,105,108,32,49,32,49,35,50,52,55,55,51,52,50],q5r],.tup [qyf,xv2],false)
def jcs:Row:=([.str [54,32,116,101,115,116,32,98,111,120,32,115,119,101,101,112,32,49,32,56,48,32,57,48,35,50,48,50,49,51,55,56],qtk],.tup [qxc,xv2],false)
def jge:Row:=([.str [55,32,105,115,115,117,101,32,98,111,120,32,50,35,57,55,57,50,54,57,53],jdk],.tup [qx3,xv2],false)
def jhw:Row:=([.str [56,32,98,117,105,108,100,32,117,49,32,98,111,120,32,51,35,48,55,51,51,57,54,55],jfj],.tup [qye,xv2],false)
def jgy:Row:=([.str [57,32,117,115,101,32,117,49,32,99,111,110,101,95,49,32,51,32,50,35,57,54,50,56,50,52,50],q6z],.tup [qx2,xv2],false)
def jcu:Row:=([.str [49,48,32,117,115,101,32,117,49,32,99,111,105,108,95,49,32,51,32,49,35,51,51,55,48,50,52,48],jhi],.tup [qxd,xv2],false)
def jfx:Row:=([.str [49,49,32,109,101,97,115,117,114,101,32,117,49,32,115,119,101,101,112,32,51,32,56,53,35,56,50,52,48,49,52,56],xv7],.tup [qxe,xv2],false)
def jci:Row:=([.str [49,50,32,104,111,108,100,32,99,111,105,108,95,49,32,51,35,53,50,48,49,49,53,55],q0j],.tup [qxu,xv2],false)
def jb6:Row:=([.str [49,51,32,117,110,100,111,35,54,55,52,56,55,48,57],jcn],.tup [q2b,xv2],false)
def jf4:Row:=([.str [49,52,32,105,115,115,117,101,32,98,111,120,32,51,35,48,56,53,50,57,54,53],q0h],.tup [qtq,xv2],false)
def jhp:Row:=([.str [49,53,32,117,112,100,97,116,101,32,117,49,32,51,35,50,52,56,53,48,49,51],jdx],.tup [qs5,xv2],false)
def jhr:Row:=([.str [49,54,32,117,110,100,111,35,56,51,50,54,51,57,51],q1x],.tup [q0n,xv2],false)
def jc4:Row:=([.str [49,55,32,117,110,100,111,35,50,49,56,53,54,57,53],q0t],.tup [q2n,xv2],false)
def jgl:Row:=([.str [49,56,32,109,101,97,115,117,114,101,32,117,49,32,115,119,101,101,112,32,51,32,57,49,35,50,51,54,49,51,49,55],jb1],.tup [qoe,xv2],false)
def jct:Row:=([.str [49,57,32,117,110,100,111,35,57,57,48,52,48,55,55],jgd],.tup [qum,xv2],false)
def jby:Row:=([.str [50,48,32,115,104,105,112,32,117,49,32,51,35,53,49,49,54,56,51,51],qsb],.tup [qnc,xv2],false)
def ee1:Row:=([q78,jol],.tup [qk5,xv2],false)
def ee2:Row:=([q78,qk5],.tup [.list false 1 [xv5,qng],xv2],false)
def ee3:Row:=([.str [49,32,108,111,116,32,99,111,110,101,95,49,32,99,111,110,101,32,49,32,49,48,35,51,57,56,57,49,56,50,10,50,32,108,111,116,32,99,111,105,108,95,49,32,99,111,105,108,32,49,32,53,35,48,49,55,50,54,57,55,10,51,32,112,114,111,100,117,99,116,32,98,111,120,32,49,35,54,49,49,52,48,56,52,10,52,32,110,101,101,100,32,98,111,120,32,99,111,110,101,32,49,32,50,35,49,55,56,55,50,51,49,10,53,32,110,101,101,100,32,98,111,120,32,99,111,105,108,32,49,32,49,35,50,52,55,55,51,52,50,10,54,32,116,101,115,116,32,98,111,120,32,115,119,101,101,112,32,49,32,56,48,32,57,48,35,50,48,50,49,51,55,56,10,55,32,105,115,115,117,101,32,98,111,120,32,50,35,57,55,57,50,54,57,53,10,56,32,98,117,105,108,100,32,117,49,32,98,111,120,32,51,35,48,55,51,51,57,54,55,10,57,32,117,115,101,32,117,49,32,99,111,110,101,95,49,32,51,32,50,35,57,54,50,56,50,52,50,10,49,48,32,117,115,101,32,117,49,32,99,111,105,108,95,49,32,51,32,49,35,51,51,55,48,50,52,48,10,49,49,32,109,101,97,115,117,114,101,32,117,49,32,115,119,101,101,112,32,51,32,56,53,35,56,50,52,48,49,52,56,10,49,50,32,104,111,108,100,32,99,111,105,108,95,49,32,51,35,53,50,48,49,49,53,55,10,49,51,32,117,110,100,111,35,54,55,52,56,55,48,57,10,49,52,32,105,115,115,117,101,32,98,111,120,32,51,35,48,56,53,50,57,54,53,10,49,53,32,117,112,100,97,116,101,32,117,49,32,51,35,50,52,56,53,48,49,51,10,49,54,32,117,110,100,111,35,56,51,50,54,51,57,51,10,49,55,32,117,110,100,111,35,50,49,56,53,54,57,53,10,49,56,32,109,101,97,115,117,114,101,32,117,49,32,115,119,101,101,112,32,51,32,57,49,35,50,51,54,49,51,49,55,10,49,57,32,117,110,100,111,35,57,57,48,52,48,55,55,10,50,48,32,115,104,105,112,32,117,49,32,51,35,53,49,49,54,56,51,51,10,49]],.tup [q78,.int .i64 500,.int .i64 29],false)
def r1:y5:=([.ptr 0 0,.str [108,111,116,32,99,111,110,101,95,49,32,99,111,110,101,32,49,32,49,48]],hw1,.tup [.str [100,111,110,101,32,49],xv2],false,hw2)
def r2:y5:=([.ptr 0 0,.str [108,111,116,32,99,111,105,108,95,49,32,99,111,105,108,32,49,32,53]],hw2,.tup [.str [100,111,110,101,32,50],xv2],false,hw3)
def r3:y5:=([.ptr 0 0,.str [112,114,111,100,117,99,116,32,98,111,120,32,49]],hw4,.tup [.str [100,111,110,101,32,51],xv2],false,hw5)
def r4:y5:=([.ptr 0 0,.str [110,101,101,100,32,98,111,120,32,99,111,110,101,32,49,32,50]],hw6,.tup [.str [100,111,110,101,32,52],xv2],false,hw7)
def r5:y5:=([.ptr 0 0,.str [110,101,101,100,32,98,111,120,32,99,111,105,108,32,49,32,49]],hw8,.tup [.str [100,111,110,101,32,53],xv2],false,hw9)
def r6:y5:=([.ptr 0 0,.str [116,101,115,116,32,98,111,120,32,115,119,101,101,112,32,49,32,56,48,32,57,48]],zcd,.tup [.str [100,111,110,101,32,54],xv2],false,za2)
def r7:y5:=([.ptr 0 0,.str [105,115,115,117,101,32,98,111,120,32,50]],zb9,.tup [.str [100,111,110,101,32,55],xv2],false,zfl)
def r8:y5:=([.ptr 0 0,.str [98,117,105,108,100,32,117,49,32,98,111,120,32,51]],zc5,.tup [.str [100,111,110,101,32,56],xv2],false,j85)
def r9:y5:=([.ptr 0 0,.str [117,115,101,32,117,49,32,99,111,110,101,95,49,32,51,32,50]],zc6,.tup [.str [100,111,110,101,32,57],xv2],false,jqa)
def r10:y5:=(qsx,jpy,.tup [.str [],q0c],false,jqa)
def r11:y5:=([.ptr 0 0,.str [117,115,101,32,117,49,32,99,111,105,108,95,49,32,51,32,49]],jpy,.tup [.str [100,111,110,101,32,49,48],xv2],false,jnk)
def r12:y5:=(qsx,jgj,q62,false,jnk)
def r13:y5:=(jo3,jgj,.tup [qs8,xv2],false,zc8)
def r14:y5:=([.ptr 0 0,.str [109,101,97,115,117,114,101,32,117,49,32,115,119,101,101,112,32,51,32,56,53]],jgj,.tup [.str [100,111,110,101,32,49,49],xv2],false,zed)
def r15:y5:=(jo3,jq7,jiu,false,j9q)
def r16:y5:=([.ptr 0 0,.str [104,111,108,100,32,99,111,105,108,95,49,32,51]],jq7,.tup [.str [100,111,110,101,32,49,50],xv2],false,js9)
def r17:y5:=(qsx,jb8,.tup [.str [],jia],false,js9)
def r18:y5:=(jpe,jb8,.tup [.str [48],xv2],false,j9p)
def r19:y5:=(q2y,jb8,.tup [.str [100,111,110,101,32,49,51],xv2],false,zbu)
def r20:y5:=([.ptr 0 0,.str [105,115,115,117,101,32,98,111,120,32,51]],j7q,.tup [.str [100,111,110,101,32,49,52],xv2],false,jsi)
def r21:y5:=(qsx,jqo,.tup [.str [],jir],false,jsi)
def r22:y5:=([.ptr 0 0,.str [117,112,100,97,116,101,32,117,49,32,51]],jqo,.tup [.str [100,111,110,101,32,49,53],xv2],false,jn4)
def r23:y5:=(qsx,jos,q62,false,jn4)
def r24:y5:=(q2y,jos,.tup [.str [100,111,110,101,32,49,54],xv2],false,zfe)
def r25:y5:=(q2y,zee,.tup [.str [100,111,110,101,32,49,55],xv2],false,j7u)
def r26:y5:=([.ptr 0 0,.str [109,101,97,115,117,114,101,32,117,49,32,115,119,101,101,112,32,51,32,57,49]],zal,.tup [.str [100,111,110,101,32,49,56],xv2],false,jop)
def r27:y5:=(qsx,joe,q62,false,jop)
def r28:y5:=(q2y,joe,.tup [.str [100,111,110,101,32,49,57],xv2],false,j76)
def r29:y5:=([.ptr 0 0,.str [108,111,116,115,32,117,49]],q2z,.tup [.str [99,111,110,101,95,49,32,99,111,105,108,95,49],xv2],false,q5q)
def r30:y5:=([.ptr 0 0,.str [115,116,111,99,107,32,99,111,110,101]],q2z,.tup [.str [56],xv2],false,q5q)
def r31:y5:=(jpe,q2z,.tup [.str [52],xv2],false,q5q)
def r32:y5:=(jrk,q2z,jiu,false,q5q)
def r33:y5:=(qsx,q2z,.tup [.str [100,111,110,101,32,50,48],xv2],false,jd2)
def r34:y5:=(q2y,jd6,.tup [.str [],qsb],false,jd2)
def r35:y5:=([.ptr 0 0,.str [117,115,101,32,117,49,32,99,111,110,101,95,49,32,51,32,49]],jd6,.tup [.str [],qsa],false,jd2)
def r36:y5:=(jrk,jd6,.tup [qia,xv2],false,zan)
set_option maxRecDepth 100000
theorem w21:qc prL xL 121 e21.1=some e21.2:=by kernel_rfl
theorem w25:qc prL xL 152 e25.1=some e25.2:=by kernel_rfl
theorem w26:qc prL xL 11 e26.1=some e26.2:=by kernel_rfl
theorem w37:qc prL xL 152 e37.1=some e37.2:=by kernel_rfl
theorem w48:qc prL xL 152 e48.1=some e48.2:=by kernel_rfl
theorem w51:qc prL xL 152 e51.1=some e51.2:=by kernel_rfl
theorem w56:qc prL xL 121 e56.1=some e56.2:=by kernel_rfl
theorem w74:qc prL xL 121 e74.1=some e74.2:=by kernel_rfl
theorem w82:qc prL xL 157 e82.1=some e82.2:=by kernel_rfl
theorem w90:qc prL xL 157 e90.1=some e90.2:=by kernel_rfl
theorem w93:qc prL xL 158 e93.1=some e93.2:=by kernel_rfl
theorem zfp:qc prL xL 158 jgo.1=some jgo.2:=by kernel_rfl
theorem zeq:qc prL xL 158 jcq.1=some jcq.2:=by kernel_rfl
theorem j77:qc prL xL 157 jfk.1=some jfk.2:=by kernel_rfl
theorem j70:qc prL xL 157 jfh.1=some jfh.2:=by kernel_rfl
theorem zcv:qc prL xL 103 jhl.1=some jhl.2:=by kernel_rfl
theorem j8p:qc prL xL 103 jcu.1=some jcu.2:=by kernel_rfl
theorem j8y:qc prL xL 103 jhr.1=some jhr.2:=by kernel_rfl
theorem w4:qc prL xL 152 e4.1=some e4.2:=by kernel_rfl
theorem w11:qc prL xL 11 e11.1=some e11.2:=by kernel_rfl
theorem w18:qc prL xL 121 e18.1=some e18.2:=by kernel_rfl
theorem w19:qc prL xL 152 e19.1=some e19.2:=by kernel_rfl
theorem w29:qc prL xL 11 e29.1=some e29.2:=by kernel_rfl
theorem w38:qc prL xL 11 e38.1=some e38.2:=by kernel_rfl
theorem w45:qc prL xL 121 e45.1=some e45.2:=by kernel_rfl
theorem w46:qc prL xL 152 e46.1=some e46.2:=by kernel_rfl
theorem w53:qc prL xL 121 e53.1=some e53.2:=by kernel_rfl
theorem w57:qc prL xL 152 e57.1=some e57.2:=by kernel_rfl
theorem w61:qc prL xL 11 e61.1=some e61.2:=by kernel_rfl
theorem w64:qc prL xL 152 e64.1=some e64.2:=by kernel_rfl
theorem w91:qc prL xL 158 e91.1=some e91.2:=by kernel_rfl
theorem w96:qc prL xL 157 e96.1=some e96.2:=by kernel_rfl
theorem zgc:qc prL xL 158 jb0.1=some jb0.2:=by kernel_rfl
theorem j8c:qc prL xL 103 jd5.1=some jd5.2:=by kernel_rfl
theorem zdr:qc prL xL 103 jci.1=some jci.2:=by kernel_rfl
theorem zak:qc prL xL 103 jc4.1=some jc4.2:=by kernel_rfl
theorem w14:qc prL xL 11 e14.1=some e14.2:=by kernel_rfl
theorem w15:qc prL xL 121 e15.1=some e15.2:=by kernel_rfl
theorem w16:qc prL xL 152 e16.1=some e16.2:=by kernel_rfl
theorem w35:qc prL xL 11 e35.1=some e35.2:=by kernel_rfl
theorem w39:qc prL xL 121 e39.1=some e39.2:=by kernel_rfl
theorem w49:qc prL xL 11 e49.1=some e49.2:=by kernel_rfl
theorem w54:qc prL xL 152 e54.1=some e54.2:=by kernel_rfl
theorem w59:qc prL xL 121 e59.1=some e59.2:=by kernel_rfl
theorem w60:qc prL xL 152 e60.1=some e60.2:=by kernel_rfl
theorem w63:qc prL xL 11 e63.1=some e63.2:=by kernel_rfl
theorem w65:qc prL xL 11 e65.1=some e65.2:=by kernel_rfl
theorem w67:qc prL xL 152 e67.1=some e67.2:=by kernel_rfl
theorem j71:qc prL xL 158 jda.1=some jda.2:=by kernel_rfl
theorem zbm:qc prL xL 103 jft.1=some jft.2:=by kernel_rfl
theorem zf1:qc prL xL 103 jfy.1=some jfy.2:=by kernel_rfl
theorem za8:qc prL xL 103 jge.1=some jge.2:=by kernel_rfl
theorem zdu:qc prL xL 103 jhw.1=some jhw.2:=by kernel_rfl
theorem zba:qc prL xL 103 jct.1=some jct.2:=by kernel_rfl
theorem w7:qc prL xL 152 e7.1=some e7.2:=by kernel_rfl
theorem w8:qc prL xL 11 e8.1=some e8.2:=by kernel_rfl
theorem w10:qc prL xL 152 e10.1=some e10.2:=by kernel_rfl
theorem w12:qc prL xL 121 e12.1=some e12.2:=by kernel_rfl
theorem w36:qc prL xL 121 e36.1=some e36.2:=by kernel_rfl
theorem w44:qc prL xL 11 e44.1=some e44.2:=by kernel_rfl
theorem w62:qc prL xL 152 e62.1=some e62.2:=by kernel_rfl
theorem w69:qc prL xL 121 e69.1=some e69.2:=by kernel_rfl
theorem w71:qc prL xL 11 e71.1=some e71.2:=by kernel_rfl
theorem w72:qc prL xL 152 e72.1=some e72.2:=by kernel_rfl
theorem w83:qc prL xL 158 e83.1=some e83.2:=by kernel_rfl
theorem w86:qc prL xL 157 e86.1=some e86.2:=by kernel_rfl
theorem w95:qc prL xL 158 e95.1=some e95.2:=by kernel_rfl
theorem zfx:qc prL xL 157 jfd.1=some jfd.2:=by kernel_rfl
theorem zbn:qc prL xL 157 jc3.1=some jc3.2:=by kernel_rfl
theorem j89:qc prL xL 103 jgx.1=some jgx.2:=by kernel_rfl
theorem zes:qc prL xL 103 jfx.1=some jfx.2:=by kernel_rfl
theorem w9:qc prL xL 121 e9.1=some e9.2:=by kernel_rfl
theorem w13:qc prL xL 152 e13.1=some e13.2:=by kernel_rfl
theorem w20:qc prL xL 11 e20.1=some e20.2:=by kernel_rfl
theorem w22:qc prL xL 152 e22.1=some e22.2:=by kernel_rfl
theorem w33:qc prL xL 121 e33.1=some e33.2:=by kernel_rfl
theorem w40:qc prL xL 152 e40.1=some e40.2:=by kernel_rfl
theorem w41:qc prL xL 11 e41.1=some e41.2:=by kernel_rfl
theorem w52:qc prL xL 11 e52.1=some e52.2:=by kernel_rfl
theorem w66:qc prL xL 121 e66.1=some e66.2:=by kernel_rfl
theorem w70:qc prL xL 152 e70.1=some e70.2:=by kernel_rfl
theorem w76:qc prL xL 11 e76.1=some e76.2:=by kernel_rfl
theorem w87:qc prL xL 158 e87.1=some e87.2:=by kernel_rfl
theorem w88:qc prL xL 157 e88.1=some e88.2:=by kernel_rfl
theorem w99:qc prL xL 158 e99.1=some e99.2:=by kernel_rfl
theorem ze0:qc prL xL 158 jg9.1=some jg9.2:=by kernel_rfl
theorem zet:qc prL xL 157 jeb.1=some jeb.2:=by kernel_rfl
theorem zew:qc prL xL 103 jgl.1=some jgl.2:=by kernel_rfl
theorem w2:qc prL xL 11 e2.1=some e2.2:=by kernel_rfl
theorem w6:qc prL xL 121 e6.1=some e6.2:=by kernel_rfl
theorem w28:qc prL xL 152 e28.1=some e28.2:=by kernel_rfl
theorem w30:qc prL xL 121 e30.1=some e30.2:=by kernel_rfl
theorem w32:qc prL xL 11 e32.1=some e32.2:=by kernel_rfl
theorem w55:qc prL xL 11 e55.1=some e55.2:=by kernel_rfl
theorem w58:qc prL xL 11 e58.1=some e58.2:=by kernel_rfl
theorem w75:qc prL xL 152 e75.1=some e75.2:=by kernel_rfl
theorem w79:qc prL xL 121 e79.1=some e79.2:=by kernel_rfl
theorem w84:qc prL xL 157 e84.1=some e84.2:=by kernel_rfl
theorem w85:qc prL xL 158 e85.1=some e85.2:=by kernel_rfl
theorem w89:qc prL xL 158 e89.1=some e89.2:=by kernel_rfl
theorem zca:qc prL xL 157 jc5.1=some jc5.2:=by kernel_rfl
theorem j9z:qc prL xL 103 jcs.1=some jcs.2:=by kernel_rfl
theorem zah:qc prL xL 103 jgy.1=some jgy.2:=by kernel_rfl
theorem j9f:qc prL xL 103 jf4.1=some jf4.2:=by kernel_rfl
theorem j9s:qc prL xL 103 jby.1=some jby.2:=by kernel_rfl
theorem w3:qc prL xL 121 e3.1=some e3.2:=by kernel_rfl
theorem w23:qc prL xL 11 e23.1=some e23.2:=by kernel_rfl
theorem w27:qc prL xL 121 e27.1=some e27.2:=by kernel_rfl
theorem w31:qc prL xL 152 e31.1=some e31.2:=by kernel_rfl
theorem w34:qc prL xL 152 e34.1=some e34.2:=by kernel_rfl
theorem w42:qc prL xL 121 e42.1=some e42.2:=by kernel_rfl
theorem w68:qc prL xL 11 e68.1=some e68.2:=by kernel_rfl
theorem w78:qc prL xL 11 e78.1=some e78.2:=by kernel_rfl
theorem w80:qc prL xL 157 e80.1=some e80.2:=by kernel_rfl
theorem w81:qc prL xL 158 e81.1=some e81.2:=by kernel_rfl
theorem w92:qc prL xL 157 e92.1=some e92.2:=by kernel_rfl
theorem w97:qc prL xL 158 e97.1=some e97.2:=by kernel_rfl
theorem zac:qc prL xL 157 jbu.1=some jbu.2:=by kernel_rfl
theorem zbk:qc prL xL 158 jho.1=some jho.2:=by kernel_rfl
theorem zd4:qc prL xL 157 jcf.1=some jcf.2:=by kernel_rfl
theorem zbx:qc prL xL 158 jcj.1=some jcj.2:=by kernel_rfl
theorem zck:qc prL xL 103 jhp.1=some jhp.2:=by kernel_rfl
theorem w1:qc prL xL 152 e1.1=some e1.2:=by kernel_rfl
theorem w5:qc prL xL 11 e5.1=some e5.2:=by kernel_rfl
theorem w17:qc prL xL 11 e17.1=some e17.2:=by kernel_rfl
theorem w24:qc prL xL 121 e24.1=some e24.2:=by kernel_rfl
theorem w43:qc prL xL 152 e43.1=some e43.2:=by kernel_rfl
theorem w47:qc prL xL 11 e47.1=some e47.2:=by kernel_rfl
theorem w50:qc prL xL 121 e50.1=some e50.2:=by kernel_rfl
theorem w73:qc prL xL 11 e73.1=some e73.2:=by kernel_rfl
theorem w77:qc prL xL 152 e77.1=some e77.2:=by kernel_rfl
theorem w94:qc prL xL 157 e94.1=some e94.2:=by kernel_rfl
theorem w98:qc prL xL 157 e98.1=some e98.2:=by kernel_rfl
theorem zbq:qc prL xL 158 jde.1=some jde.2:=by kernel_rfl
theorem j7n:qc prL xL 158 jcr.1=some jcr.2:=by kernel_rfl
theorem zag:qc prL xL 157 je2.1=some je2.2:=by kernel_rfl
theorem zct:qc prL xL 158 jdh.1=some jdh.2:=by kernel_rfl
theorem j9j:qc prL xL 157 jfl.1=some jfl.2:=by kernel_rfl
theorem zdn:qc prL xL 103 jb6.1=some jb6.2:=by kernel_rfl
end Go.Z
namespace Go.Z
open Go Go.Abs Go.Proofs
def jfq:List (Nat × List Row):=[(11,[e2,e5,e8,e11,e14,e17,e20,e23,e26,e29,e32,e35,e38,e41,e44,e47,e49,e52,e55,e58,e61,e63,e65,e68,e71,e73,e76,e78]),(103,[jft,jhl,jgx,jd5,jfy,jcs,jge,jhw,jgy,jcu,jfx,jci,jb6,jf4,jhp,jhr,jc4,jgl,jct,jby]),(121,[e3,e6,e9,e12,e15,e18,e21,e24,e27,e30,e33,e36,e39,e42,e45,e50,e53,e56,e59,e66,e69,e74,e79]),(152,[e1,e4,e7,e10,e13,e16,e19,e22,e25,e28,e31,e34,e37,e40,e43,e46,e48,e51,e54,e57,e60,e62,e64,e67,e70,e72,e75,e77]),(157,[e80,e82,e84,e86,e88,e90,e92,e94,e96,e98,jfd,jbu,jc5,jc3,je2,jcf,jfl,jeb,jfk,jfh]),(158,[e81,e83,e85,e87,e89,e91,e93,e95,e97,e99,jde,jg9,jcr,jho,jdh,jgo,jb0,jcq,jda,jcj])]
def tab:Nat→Option (List Row):=qft jfq
theorem jwi:qz1 Tryz.prog tab:=
 q0i (t:=jfq) ⟨⟨qh okL w2,qh okL w5,qh okL w8,qh okL w11,qh okL w14,qh okL w17,qh okL w20,qh okL w23,qh okL w26,qh okL w29,qh okL w32,qh okL w35,qh okL w38,qh okL w41,qh okL w44,qh okL w47,qh okL w49,qh okL w52,qh okL w55,qh okL w58,qh okL w61,qh okL w63,qh okL w65,qh okL w68,qh okL w71,qh okL w73,qh okL w76,qh okL w78,trivial⟩,⟨qh okL zbm,qh okL zcv,qh okL j89,qh okL j8c,qh okL zf1,qh okL j9z,qh okL za8,qh okL zdu,qh okL zah,qh okL j8p,qh okL zes,qh okL zdr,qh okL zdn,qh okL j9f,qh okL zck,qh okL j8y,qh okL zak,qh okL zew,qh okL zba,qh okL j9s,trivial⟩,⟨qh okL w3,qh okL w6,qh okL w9,qh okL w12,qh okL w15,qh okL w18,qh okL w21,qh okL w24,qh okL w27,qh okL w30,qh okL w33,qh okL w36,qh okL w39,qh okL w42,qh okL w45,qh okL w50,qh okL w53,qh okL w56,qh okL w59,qh okL w66,qh okL w69,qh okL w74,qh okL w79,trivial⟩,⟨qh okL w1,qh okL w4,qh okL w7,qh okL w10,qh okL w13,qh okL w16,qh okL w19,qh okL w22,qh okL w25,qh okL w28,qh okL w31,qh okL w34,qh okL w37,qh okL w40,qh okL w43,qh okL w46,qh okL w48,qh okL w51,qh okL w54,qh okL w57,qh okL w60,qh okL w62,qh okL w64,qh okL w67,qh okL w70,qh okL w72,qh okL w75,qh okL w77,trivial⟩,⟨qh okL w80,qh okL w82,qh okL w84,qh okL w86,qh okL w88,qh okL w90,qh okL w92,qh okL w94,qh okL w96,qh okL w98,qh okL zfx,qh okL zac,qh okL zca,qh okL zbn,qh okL zag,qh okL zd4,qh okL j9j,qh okL zet,qh okL j77,qh okL j70,trivial⟩,⟨qh okL w81,qh okL w83,qh okL w85,qh okL w87,qh okL w89,qh okL w91,qh okL w93,qh okL w95,qh okL w97,qh okL w99,qh okL zbq,qh okL ze0,qh okL j7n,qh okL zbk,qh okL zct,qh okL zfp,qh okL zgc,qh okL zeq,qh okL j71,qh okL zbx,trivial⟩,trivial⟩
def prA:jw:={ fns:=prL.fns,prims:=fun k=>match tab k with
 | some l=>some fun args=>qgw args l
 | none=>q09 k,sprims:=prL.sprims,maps:=prL.maps }
theorem okA:ProgOk Tryz.prog prA where
 fn:=okL.fn
 prim:=by
  intro k f hf
  simp only [prA] at hf
  split at hf
  ·rename_i l hl
   cases hf
   exact ⟨qaq (q0l jfq (by kernel_rfl) k l hl),fun args v o hv _ _=>jwi k l hl _ (qg7 hv)⟩
  ·exact okL.prim k f hf
 mixed:=okL.mixed
 sprim:=okL.sprim
 maps:=okL.maps
abbrev xA:=kq prA 1000
end Go.Z
