/- The values, states and rows of the examples' run. -/
import Derived.Test.YtfopaakmgogpiaaGreatDoorLA
import Derived.Test.YtfopaakmgogpiaaGreatDoorAbsH
set_option linter.unusedVariables false
set_option linter.unusedSimpArgs false
namespace Go.Z
open Go Go.Abs Go.Proofs
abbrev xL:=qbc prL 1000
def xv1:qa:=.list true 0 []
def bv1:qn:=.cells [(xv1,false),(xv1,false),(.vref 2 0 1,false)]
def xv2:qa:=.int .i64 0
def xv3:qa:=.agg [xv2,xv1,xv1,xv1]
def xv4:qa:=.int .i64 1
def xv5:qa:=.str [99,111,110,101,95,49]
def xv6:qa:=.str [99,111,110,101]
def xv7:qa:=.int .i64 10
def xv8:qa:=.bool false
def xv9:qa:=.agg [xv5,xv6,xv7,xv7,xv8]
def ji3:qa:=.agg [xv4,.list false 5 [xv9],xv1,xv1]
def lv1:List qa:=[xv3,ji3]
def jab:qa:=.str [108,111,116]
def lv2:List qa:=[xv5,xv6]
def qu5:qa:=.agg [xv4,jab,.list false 1 lv2,.list false 1 [xv4,xv7],.str []]
def bv2:qn:=.vec 5 0 [qu5]
def bv3:qn:=.cells [(.vref 7 1 2,false),(.vref 5 1 2,false),(.vref 2 2 3,false)]
def qoj:qa:=.str [99,111,105,108,95,49]
def qzs:qa:=.str [99,111,105,108]
def quz:qa:=.int .i64 5
def jof:qa:=.agg [qoj,qzs,quz,quz,xv8]
def qt9:qa:=.list false 5 [xv9,jof]
def jem:qa:=.agg [xv4,qt9,xv1,xv1]
def lv3:List qa:=lv1++[jem]
def bv4:qn:=.vec 4 2 lv3
def qmo:qa:=.int .i64 2
def lv4:List qa:=[qoj,qzs]
def qy8:qa:=.agg [qmo,jab,.list false 1 lv4,.list false 1 [xv4,quz],.str []]
def lv5:List qa:=[qu5,qy8]
def bv5:qn:=.vec 5 1 lv5
def bv6:qn:=.cells [(.vref 7 2 3,false),(.vref 5 2 3,false),(.vref 2 3 4,false)]
def qgd:qa:=.str [98,111,120]
def jfy:qa:=.agg [xv4,qt9,.list false 4 [.agg [qgd,xv1,xv1,xv1]],xv1]
def lv6:List qa:=lv3++[jfy]
def bv7:qn:=.vec 4 3 lv6
def qjj:qa:=.int .i64 3
def jrc:qa:=.str [112,114,111,100,117,99,116]
def jhl:qa:=.list false 1 [qgd]
def qyr:qa:=.agg [qjj,jrc,jhl,.list false 1 [xv4],.str []]
def lv7:List qa:=lv5++[qyr]
def bv8:qn:=.vec 5 2 lv7
def bv9:qn:=.cells [(.vref 7 3 4,false),(.vref 5 3 4,false),(.vref 2 4 5,false)]
def jrq:qa:=.agg [xv6,qmo]
def jfb:qa:=.agg [xv4,qt9,.list false 4 [.agg [qgd,.list false 2 [jrq],xv1,xv1]],xv1]
def lv8:List qa:=lv6++[jfb]
def jqi:qn:=.vec 4 4 lv8
def q8m:qa:=.int .i64 4
def q7t:qa:=.str [110,101,101,100]
def qy5:qa:=.agg [q8m,q7t,.list false 1 [qgd,xv6],.list false 1 [xv4,qmo],.str []]
def lv9:List qa:=lv7++[qy5]
def q68:qn:=.vec 5 3 lv9
def juc:qn:=.cells [(.vref 7 4 5,false),(.vref 5 4 5,false),(.vref 2 5 6,false)]
def jhw:qa:=.list false 2 [jrq,.agg [qzs,xv4]]
def jfh:qa:=.agg [xv4,qt9,.list false 4 [.agg [qgd,jhw,xv1,xv1]],xv1]
def jsf:List qa:=lv8++[jfh]
def jto:qn:=.vec 4 5 jsf
def qy7:qa:=.agg [quz,q7t,.list false 1 [qgd,qzs],.list false 1 [xv4,xv4],.str []]
def jox:List qa:=lv9++[qy7]
def q88:qn:=.vec 5 4 jox
def jtf:qn:=.cells [(.vref 7 5 6,false),(.vref 5 5 6,false),(.vref 2 6 7,false)]
def zgf:List qa:=[qgd,jhw]
def qur:qa:=.str [115,119,101,101,112]
def jos:qa:=.int .i64 80
def jsm:qa:=.int .i64 90
def jot:qa:=.list false 3 [.agg [qur,jos,jsm]]
def jgf:List qa:=zgf++[jot]
def jha:qa:=.agg [xv4,qt9,.list false 4 [.agg ((jgf++[xv1]))],xv1]
def jn5:List qa:=jsf++[jha]
def jq9:qn:=.vec 4 6 jn5
def jiw:qa:=.int .i64 6
def jn0:qa:=.str [116,101,115,116]
def qzp:qa:=.agg [jiw,jn0,.list false 1 [qgd,qur],.list false 1 [xv4,jos,jsm],.str []]
def jty:List qa:=jox++[qzp]
def q8p:qn:=.vec 5 5 jty
def jqu:qn:=.cells [(.vref 7 6 7,false),(.vref 5 6 7,false),(.vref 2 7 8,false)]
def jd8:qa:=.agg [jhw,jot]
def q26:qa:=.list false 4 [.agg ((jgf++[.list false 2 [jd8]]))]
def jg0:qa:=.agg [qmo,qt9,q26,xv1]
def jp3:List qa:=jn5++[jg0]
def jte:qn:=.vec 4 7 jp3
def jgz:qa:=.int .i64 7
def jgr:qa:=.str [105,115,115,117,101]
def qzc:qa:=.agg [jgz,jgr,jhl,.list false 1 [qmo],.str []]
def jn4:List qa:=jty++[qzc]
def q8j:qn:=.vec 5 6 jn4
def js5:qn:=.cells [(.vref 7 7 8,false),(.vref 5 7 8,false),(.vref 2 8 9,false)]
def qjg:qa:=.str [117,49]
def jig:qa:=.agg [qjj,qt9,q26,.list false 8 [.agg [qjg,qgd,xv4,xv1,xv1,.str [],xv8,xv2]]]
def jrv:List qa:=jp3++[jig]
def jr2:qn:=.vec 4 8 jrv
def jai:qa:=.int .i64 8
def jq0:qa:=.str [98,117,105,108,100]
def qup:List qa:=[qjg,qgd]
def qk0:qa:=.list false 1 [qjj]
def qzg:qa:=.agg [jai,jq0,.list false 1 qup,qk0,.str []]
def jnz:List qa:=jn4++[qzg]
def q95:qn:=.vec 5 7 jnz
def jup:qn:=.cells [(.vref 7 8 9,false),(.vref 5 8 9,false),(.vref 2 9 10,false)]
def jgl:qa:=.agg ((lv2++[xv7,jai,xv8]))
def jpj:qa:=.agg [xv5,qmo]
def q8d:qa:=.agg [qjj,.list false 5 [jgl,jof],q26,.list false 8 [.agg ((qup++[xv4,.list false 2 [jpj],xv1,.str [],xv8,xv2]))]]
def jre:List qa:=jrv++[q8d]
def jp9:qn:=.vec 4 9 jre
def jd2:qa:=.int .i64 9
def q9i:qa:=.str [117,115,101]
def jp2:qa:=.list false 1 [qjg,xv5]
def qyj:qa:=.agg [jd2,q9i,jp2,.list false 1 [qjj,qmo],.str []]
def jqq:List qa:=jnz++[qyj]
def q7c:qn:=.vec 5 8 jqq
def jhm:qn:=.cells [(.vref 7 9 10,false),(.vref 5 9 10,false),(.vref 2 10 11,false)]
def zfc:List qa:=lv4++[quz]
def jr8:List qa:=zfc++[q8m]
def jp6:List qa:=[qjj,.list false 5 [jgl,.agg ((jr8++[xv8]))]]
def q8w:List qa:=jp6++[q26]
def q4c:qa:=.list false 2 [jpj,.agg [qoj,xv4]]
def q9h:qa:=.agg ((q8w++[.list false 8 [.agg ((qup++[xv4,q4c,xv1,.str [],xv8,xv2]))]]))
def jpp:List qa:=jre++[q9h]
def jep:qn:=.vec 4 10 jpp
def jp1:qa:=.list false 1 [qjj,xv4]
def qym:qa:=.agg [xv7,q9i,.list false 1 [qjg,qoj],jp1,.str []]
def jst:List qa:=jqq++[qym]
def qzi:qn:=.vec 5 9 jst
def jgc:qn:=.cells [(.vref 7 10 11,false),(.vref 5 10 11,false),(.vref 2 11 12,false)]
def jnq:List qa:=[qur,xv4]
def jpz:qa:=.int .i64 85
def jrf:qa:=.agg ((jnq++[jpz]))
def jc7:qa:=.list false 3 [jrf]
def jgw:qa:=.list false 8 [.agg ((qup++[xv4,q4c,jc7,.str [],xv8,xv2]))]
def qyq:qa:=.agg ((q8w++[jgw]))
def q4g:List qa:=jpp++[qyq]
def jdz:qn:=.vec 4 11 q4g
def q3h:qa:=.int .i64 11
def jde:qa:=.str [109,101,97,115,117,114,101]
def jsl:qa:=.list false 1 [qjg,qur]
def qyl:qa:=.agg [q3h,jde,jsl,.list false 1 [qjj,jpz],.str []]
def q3f:List qa:=jst++[qyl]
def qyi:qn:=.vec 5 10 q3f
def jhx:qn:=.cells [(.vref 7 11 12,false),(.vref 5 11 12,false),(.vref 2 12 13,false)]
def qb0:qa:=.bool true
def jg5:qa:=.agg [qjj,.list false 5 [jgl,.agg ((jr8++[qb0]))],q26,jgw]
def q4a:qn:=.vec 4 12 ((q4g++[jg5]))
def jiz:qa:=.int .i64 12
def jsc:qa:=.str [104,111,108,100]
def jo8:qa:=.list false 1 [qoj]
def qyw:qa:=.agg [jiz,jsc,jo8,qk0,.str []]
def jt2:List qa:=q3f++[qyw]
def qqw:qn:=.vec 5 11 jt2
def jur:qn:=.cells [(.vref 7 12 13,false),(.vref 5 11 11,false),(.vref 2 12 12,false)]
def q2w:qa:=.int .i64 13
def qux:qa:=.str [117,110,100,111]
def q2x:qa:=.list false 1 []
def q2t:qa:=.agg [q2w,qux,q2x,xv1,.str []]
def jtm:List qa:=jt2++[q2t]
def jny:qn:=.vec 5 12 jtm
def jq7:qn:=.cells [(.vref 7 13 14,false),(.vref 5 12 12,false),(.vref 2 13 13,false)]
def js6:List qa:=jp6++[.list false 4 [.agg ((jgf++[.list false 2 [jd8,jd8]]))]]
def q8q:qa:=.agg ((js6++[jgw]))
def jq8:List qa:=q4g++[q8q]
def jqe:qn:=.vec 4 13 jq8
def jel:qa:=.int .i64 14
def qu0:qa:=.agg [jel,jgr,jhl,qk0,.str []]
def jr0:List qa:=q3f++[qu0]
def jp7:qn:=.vec 5 12 jr0
def jpn:List qa:=jtm++[qu0]
def jol:qn:=.vec 5 13 jpn
def jrd:qn:=.cells [(.vref 7 14 15,false),(.vref 5 13 13,false),(.vref 2 14 14,false)]
def jen:qa:=.agg ((js6++[.list false 8 [.agg ((qup++[qmo,q4c,jc7,.str [],xv8,xv2]))]]))
def qzw:qn:=.vec 4 14 ((jq8++[jen]))
def q2i:qa:=.int .i64 15
def jrb:qa:=.str [117,112,100,97,116,101]
def ql7:qa:=.list false 1 [qjg]
def que:qa:=.agg [q2i,jrb,ql7,qk0,.str []]
def qy2:qn:=.vec 5 13 ((jr0++[que]))
def js3:List qa:=jpn++[que]
def jow:qn:=.vec 5 14 js3
def jrh:qn:=.cells [(.vref 7 15 16,false),(.vref 5 13 12,false),(.vref 2 14 13,false)]
def q4z:qa:=.int .i64 16
def q2e:qa:=.agg [q4z,qux,q2x,xv1,.str []]
def jo7:List qa:=js3++[q2e]
def jqg:qn:=.vec 5 15 jo7
def jo2:qn:=.cells [(.vref 7 16 17,false),(.vref 5 13 11,false),(.vref 2 14 12,false)]
def jhe:qa:=.int .i64 17
def q18:qa:=.agg [jhe,qux,q2x,xv1,.str []]
def jtu:List qa:=jo7++[q18]
def jp8:qn:=.vec 5 16 jtu
def jo1:qn:=.cells [(.vref 7 17 18,false),(.vref 5 14 12,false),(.vref 2 15 13,false)]
def jtp:qa:=.int .i64 91
def jg3:qa:=.agg ((q8w++[.list false 8 [.agg ((qup++[xv4,q4c,.list false 3 [jrf,.agg ((jnq++[jtp]))],.str [],xv8,xv2]))]]))
def q22:qn:=.vec 4 15 ((q4g++[jg3]))
def jf9:qa:=.int .i64 18
def qo0:qa:=.agg [jf9,jde,jsl,.list false 1 [qjj,jtp],.str []]
def q3w:qn:=.vec 5 14 ((q3f++[qo0]))
def joe:List qa:=jtu++[qo0]
def jtb:qn:=.vec 5 17 joe
def je7:qn:=.cells [(.vref 7 18 19,false),(.vref 5 14 11,false),(.vref 2 15 12,false)]
def qtq:qa:=.int .i64 19
def qw4:qa:=.agg [qtq,qux,q2x,xv1,.str []]
def jua:List qa:=joe++[qw4]
def jho:qn:=.vec 5 18 jua
def jgi:qn:=.cells [(.vref 7 19 20,false),(.vref 5 15 12,false),(.vref 2 16 13,false)]
def q7r:qa:=.agg ((q8w++[.list false 8 [.agg ((qup++[xv4,q4c,jc7,.str [],qb0,xv2]))]]))
def jiv:qn:=.vec 4 16 ((q4g++[q7r]))
def q1k:qa:=.int .i64 20
def ql5:qa:=.str [115,104,105,112]
def qol:qa:=.agg [q1k,ql5,ql7,qk0,.str []]
def jd5:qn:=.vec 5 15 ((q3f++[qol]))
def jru:List qa:=jua++[qol]
def jds:qn:=.vec 5 19 jru
def jug:List qa:=[jgr,qgd]
def jp5:List qa:=[q9i,qjg]
def j9l:List qa:=jp5++[xv5]
def jsi:List qa:=j9l++[.str [51]]
def qo5:qa:=.list false 1 [ql5,qjg,.str [51]]
def q81:qa:=.agg [xv7,ql5,ql7,qk0,.str []]
def q9d:qa:=.agg [q3h,ql5,ql7,qk0,.str []]
def jkd:qa:=.int .i64 31
def q98:qa:=.tup [xv3,jkd]
def zc3:List qa:=[jde,qjg]
def zgo:List qa:=zc3++[qur]
def juf:List qa:=zgo++[.str [51]]
def q9t:qa:=.agg [q2w,ql5,ql7,qk0,.str []]
def jji:qa:=.int .i64 34
def qvd:qa:=.list false 1 [qux]
def q96:qa:=.agg [q2i,ql5,ql7,qk0,.str []]
def jjc:qa:=.int .i64 32
def q8h:qa:=.agg [q4z,ql5,ql7,qk0,.str []]
def q8g:qa:=.agg [qtq,ql5,ql7,qk0,.str []]
def qs6:qa:=.int .i64 21
def jj3:qa:=.agg [qs6,qux,q2x,xv1,.str []]
def q80:qa:=.agg [qs6,q9i,jp2,jp1,.str []]
def jjk:qa:=.str [49,32,108,111,116,32,99,111,110,101,95,49,32,99,111,110,101,32,49,32,49,48]
def jj7:qa:=.str [50,32,108,111,116,32,99,111,105,108,95,49,32,99,111,105,108,32,49,32,53]
def jjg:qa:=.str [51,32,112,114,111,100,117,99,116,32,98,111,120,32,49]
def jjn:qa:=.str [52,32,110,101,101,100,32,98,111,120,32,99,111,110,101,32,49,32,50]
def jj5:qa:=.str [53,32,110,101,101,100,32,98,111,120,32,99,111,105,108,32,49,32,49]
def jj8:qa:=.str [54,32,116,101,115,116,32,98,111,120,32,115,119,101,101,112,32,49,32,56,48,32,57,48]
def jjs:qa:=.str [55,32,105,115,115,117,101,32,98,111,120,32,50]
def jjt:qa:=.str [56,32,98,117,105,108,100,32,117,49,32,98,111,120,32,51]
def jj6:qa:=.str [57,32,117,115,101,32,117,49,32,99,111,110,101,95,49,32,51,32,50]
def jjj:qa:=.str [49,48,32,117,115,101,32,117,49,32,99,111,105,108,95,49,32,51,32,49]
def jjh:qa:=.str [49,49,32,109,101,97,115,117,114,101,32,117,49,32,115,119,101,101,112,32,51,32,56,53]
def jj0:qa:=.str [49,50,32,104,111,108,100,32,99,111,105,108,95,49,32,51]
def jjv:qa:=.str [49,51,32,117,110,100,111]
def jj9:qa:=.str [49,52,32,105,115,115,117,101,32,98,111,120,32,51]
def jjf:qa:=.str [49,53,32,117,112,100,97,116,101,32,117,49,32,51]
def jjq:qa:=.str [49,54,32,117,110,100,111]
def jkb:qa:=.str [49,55,32,117,110,100,111]
def jjp:qa:=.str [49,56,32,109,101,97,115,117,114,101,32,117,49,32,115,119,101,101,112,32,51,32,57,49]
def jje:qa:=.str [49,57,32,117,110,100,111]
def jj2:qa:=.str [50,48,32,115,104,105,112,32,117,49,32,51]
def q85:qa:=.list false 5 jru
def qu1:List qa:=[.ptr 0 0,.str [115,104,105,112,32,117,49,32,51]]
def q8b:qa:=.tup [.str [],jkd]
def jrw:List qa:=[.ptr 0 0,.str [109,105,115,115,105,110,103,32,117,49]]
def jjd:qa:=.tup [.str [110,111,110,101],xv2]
def js2:List qa:=[.ptr 0 0,.str [115,116,111,99,107,32,99,111,105,108]]
def q1w:List qa:=[.ptr 0 0,qux]
def joy:List qa:=[.ptr 0 0,.str [115,104,105,112,112,101,100]]
def hw1:j8:=[bv1,bv1,.vec 4 0 [xv3]]
def hw2:j8:=[.cells [(.vref 7 0 1,false),(.vref 5 0 1,false),(.vref 2 1 2,false)],bv1,.vec 4 1 lv1,.map yc,.map ya,bv2,.hole,bv2]
def hw3:j8:=[bv3,bv1,bv4,.map yc,.map ya,bv5,.hole,bv5,.map yc,.map ya]
def hw4:j8:=[bv3,bv1,bv4,.map yc,.map ya,bv5,.hole,bv5]
def hw5:j8:=[bv6,bv1,bv7,.map yc,.map ya,bv8,.hole,bv8,.map yc,.map ya]
def hw6:j8:=[bv6,bv1,bv7,.map yc,.map ya,bv8,.hole,bv8]
def hw7:j8:=[bv9,bv1,jqi,.map yc,.map ya,q68,.hole,q68,.map yc,.map ya]
def hw8:j8:=[bv9,bv1,jqi,.map yc,.map ya,q68,.hole,q68]
def hw9:j8:=[juc,bv1,jto,.map yc,.map ya,q88,.hole,q88,.map yc,.map ya]
def zf4:j8:=[juc,bv1,jto,.map yc,.map ya,q88,.hole,q88]
def zc7:j8:=[jtf,bv1,jq9,.map yc,.map ya,q8p,.hole,q8p,.map yc,.map ya]
def zae:j8:=[jtf,bv1,jq9,.map yc,.map ya,q8p,.hole,q8p]
def zb5:j8:=[jqu,bv1,jte,.map yc,.map ya,q8j,.hole,q8j,.map yc,.map ya]
def zcv:j8:=[jqu,bv1,jte,.map yc,.map ya,q8j,.hole,q8j]
def j9b:j8:=[js5,bv1,jr2,.map yc,.map ya,q95,.hole,q95,.map yc,.map ya]
def zfp:j8:=[js5,bv1,jr2,.map yc,.map ya,q95,.hole,q95]
def jq3:j8:=[jup,bv1,jp9,.map yc,.map ya,q7c,.hole,q7c,.map yc,.map ya]
def jqa:j8:=[jup,bv1,jp9,.map yc,.map ya,q7c,.hole,q7c]
def jor:j8:=[jhm,bv1,jep,.map yc,.map ya,qzi,.hole,qzi,.map yc,.map ya]
def jhg:j8:=[jhm,bv1,jep,.map yc,.map ya,qzi,.hole,qzi]
def zfn:j8:=[jhm,bv1,jep,.map yc,.map ya,qzi,.hole,qzi,.map yc]
def zbe:j8:=[jgc,bv1,jdz,.map yc,.map ya,qyi,.hole,qyi,.map yc,.map ya]
def jpe:j8:=[jgc,bv1,jdz,.map yc,.map ya,qyi,.hole,qyi]
def zas:j8:=[jgc,bv1,jdz,.map yc,.map ya,qyi,.hole,qyi,.map yc]
def jqs:j8:=[jhx,bv1,q4a,.map yc,.map ya,qqw,.hole,qqw,.map yc,.map ya]
def jej:j8:=[jhx,bv1,q4a,.map yc,.map ya,qqw,.hole,qqw]
def zdn:j8:=[jhx,bv1,q4a,.map yc,.map ya,qqw,.hole,qqw,.map yc]
def zfx:j8:=[jur,bv1,q4a,.map yc,.map ya,qqw,.hole,jny,.map yc,.map ya]
def zar:j8:=[jur,bv1,q4a,.map yc,.map ya,qqw,.hole,jny]
def juk:j8:=[jq7,bv1,jqe,.map yc,.map ya,jp7,.hole,jol,.map yc,.map ya]
def jqy:j8:=[jq7,bv1,jqe,.map yc,.map ya,jp7,.hole,jol]
def jts:j8:=[jrd,bv1,qzw,.map yc,.map ya,qy2,.hole,jow,.map yc,.map ya]
def joz:j8:=[jrd,bv1,qzw,.map yc,.map ya,qy2,.hole,jow]
def j97:j8:=[jrh,bv1,qzw,.map yc,.map ya,qy2,.hole,jqg,.map yc,.map ya]
def zbq:j8:=[jrh,bv1,qzw,.map yc,.map ya,qy2,.hole,jqg]
def zh1:j8:=[jo2,bv1,qzw,.map yc,.map ya,qy2,.hole,jp8,.map yc,.map ya]
def zfg:j8:=[jo2,bv1,qzw,.map yc,.map ya,qy2,.hole,jp8]
def jtc:j8:=[jo1,bv1,q22,.map yc,.map ya,q3w,.hole,jtb,.map yc,.map ya]
def jp4:j8:=[jo1,bv1,q22,.map yc,.map ya,q3w,.hole,jtb]
def zdc:j8:=[je7,bv1,q22,.map yc,.map ya,q3w,.hole,jho,.map yc,.map ya]
def q1u:j8:=[je7,bv1,q22,.map yc,.map ya,q3w,.hole,jho]
def jae:j8:=[je7,bv1,q22,.map yc,.map ya,q3w,.hole,jho,.map yc]
def jee:j8:=[jgi,bv1,jiv,.map yc,.map ya,jd5,.hole,jds,.map yc,.map ya]
def jgy:j8:=[jgi,bv1,jiv,.map yc,.map ya,jd5,.hole,jds]
def zht:j8:=[jgi,bv1,jiv,.map yc,.map ya,jd5,.hole,jds,.map yc]
def e1:Row:=([.list false 1 [jab,xv5,xv6,.str [49],.str [49,48]],xv4],.tup [qu5,qb0],false)
def e2:Row:=([qu5],xv2,false)
def e3:Row:=([xv3,qu5],.tup [ji3,xv2],false)
def e4:Row:=([.list false 1 [jab,qoj,qzs,.str [49],.str [53]],qmo],.tup [qy8,qb0],false)
def e5:Row:=([qy8],xv2,false)
def e6:Row:=([ji3,qy8],.tup [jem,xv2],false)
def e7:Row:=([.list false 1 [jrc,qgd,.str [49]],qjj],.tup [qyr,qb0],false)
def e8:Row:=([qyr],xv2,false)
def e9:Row:=([jem,qyr],.tup [jfy,xv2],false)
def e10:Row:=([.list false 1 [q7t,qgd,xv6,.str [49],.str [50]],q8m],.tup [qy5,qb0],false)
def e11:Row:=([qy5],xv2,false)
def e12:Row:=([jfy,qy5],.tup [jfb,xv2],false)
def e13:Row:=([.list false 1 [q7t,qgd,qzs,.str [49],.str [49]],quz],.tup [qy7,qb0],false)
def e14:Row:=([qy7],xv2,false)
def e15:Row:=([jfb,qy7],.tup [jfh,xv2],false)
def e16:Row:=([.list false 1 [jn0,qgd,qur,.str [49],.str [56,48],.str [57,48]],jiw],.tup [qzp,qb0],false)
def e17:Row:=([qzp],xv2,false)
def e18:Row:=([jfh,qzp],.tup [jha,xv2],false)
def e19:Row:=([.list false 1 ((jug++[.str [50]])),jgz],.tup [qzc,qb0],false)
def e20:Row:=([qzc],xv2,false)
def e21:Row:=([jha,qzc],.tup [jg0,xv2],false)
def e22:Row:=([.list false 1 [jq0,qjg,qgd,.str [51]],jai],.tup [qzg,qb0],false)
def e23:Row:=([qzg],xv2,false)
def e24:Row:=([jg0,qzg],.tup [jig,xv2],false)
def e25:Row:=([.list false 1 ((jsi++[.str [50]])),jd2],.tup [qyj,qb0],false)
def e26:Row:=([qyj],xv2,false)
def e27:Row:=([jig,qyj],.tup [q8d,xv2],false)
def e28:Row:=([qo5,xv7],.tup [q81,qb0],false)
def e29:Row:=([q81],xv2,false)
def e30:Row:=([q8d,q81],.tup [xv3,q1k],false)
def e31:Row:=([.list false 1 ((jp5++[qoj,.str [51],.str [49]])),xv7],.tup [qym,qb0],false)
def e32:Row:=([qym],xv2,false)
def e33:Row:=([q8d,qym],.tup [q9h,xv2],false)
def e34:Row:=([qo5,q3h],.tup [q9d,qb0],false)
def e35:Row:=([q9d],xv2,false)
def e36:Row:=([q9h,q9d],q98,false)
def e37:Row:=([.list false 1 ((juf++[.str [56,53]])),q3h],.tup [qyl,qb0],false)
def e38:Row:=([qyl],xv2,false)
def e39:Row:=([q9h,qyl],.tup [qyq,xv2],false)
def e40:Row:=([.list false 1 [jsc,qoj,.str [51]],jiz],.tup [qyw,qb0],false)
def e41:Row:=([qyw],xv2,false)
def e42:Row:=([qyq,qyw],.tup [jg5,xv2],false)
def e43:Row:=([qo5,q2w],.tup [q9t,qb0],false)
def e44:Row:=([q9t],xv2,false)
def e45:Row:=([jg5,q9t],.tup [xv3,jji],false)
def e46:Row:=([qvd,q2w],.tup [q2t,qb0],false)
def e47:Row:=([q2t],xv2,false)
def e48:Row:=([.list false 1 ((jug++[.str [51]])),jel],.tup [qu0,qb0],false)
def e49:Row:=([qu0],xv2,false)
def e50:Row:=([qyq,qu0],.tup [q8q,xv2],false)
def e51:Row:=([qo5,q2i],.tup [q96,qb0],false)
def e52:Row:=([q96],xv2,false)
def e53:Row:=([q8q,q96],.tup [xv3,jjc],false)
def e54:Row:=([.list false 1 [jrb,qjg,.str [51]],q2i],.tup [que,qb0],false)
def e55:Row:=([que],xv2,false)
def e56:Row:=([q8q,que],.tup [jen,xv2],false)
def e57:Row:=([qo5,q4z],.tup [q8h,qb0],false)
def e58:Row:=([q8h],xv2,false)
def e59:Row:=([jen,q8h],q98,false)
def e60:Row:=([qvd,q4z],.tup [q2e,qb0],false)
def e61:Row:=([q2e],xv2,false)
def e62:Row:=([qvd,jhe],.tup [q18,qb0],false)
def e63:Row:=([q18],xv2,false)
def e64:Row:=([.list false 1 ((juf++[.str [57,49]])),jf9],.tup [qo0,qb0],false)
def e65:Row:=([qo0],xv2,false)
def e66:Row:=([qyq,qo0],.tup [jg3,xv2],false)
def e67:Row:=([qo5,qtq],.tup [q8g,qb0],false)
def e68:Row:=([q8g],xv2,false)
def e69:Row:=([jg3,q8g],q98,false)
def e70:Row:=([qvd,qtq],.tup [qw4,qb0],false)
def e71:Row:=([qw4],xv2,false)
def e72:Row:=([qo5,q1k],.tup [qol,qb0],false)
def e73:Row:=([qol],xv2,false)
def e74:Row:=([qyq,qol],.tup [q7r,xv2],false)
def e75:Row:=([qvd,qs6],.tup [jj3,qb0],false)
def e76:Row:=([jj3],xv2,false)
def e77:Row:=([.list false 1 ((jsi++[.str [49]])),qs6],.tup [q80,qb0],false)
def e78:Row:=([q80],xv2,false)
def e79:Row:=([q7r,q80],.tup [xv3,qs6],false)
def e80:Row:=([qu5],jjk,false)
def e81:Row:=([jjk],.str [51,57,56,57,49,56,50],false)
def e82:Row:=([qy8],jj7,false)
def e83:Row:=([jj7],.str [48,49,55,50,54,57,55],false)
def e84:Row:=([qyr],jjg,false)
def e85:Row:=([jjg],.str [54,49,49,52,48,56,52],false)
def e86:Row:=([qy5],jjn,false)
def e87:Row:=([jjn],.str [49,55,56,55,50,51,49],false)
def e88:Row:=([qy7],jj5,false)
def e89:Row:=([jj5],.str [50,52,55,55,51,52,50],false)
def e90:Row:=([qzp],jj8,false)
def e91:Row:=([jj8],.str [50,48,50,49,51,55,56],false)
def e92:Row:=([qzc],jjs,false)
def e93:Row:=([jjs],.str [57,55,57,50,54,57,53],false)
def e94:Row:=([qzg],jjt,false)
def e95:Row:=([jjt],.str [48,55,51,51,57,54,55],false)
def e96:Row:=([qyj],jj6,false)
def e97:Row:=([jj6],.str [57,54,50,56,50,52,50],false)
def e98:Row:=([qym],jjj,false)
def e99:Row:=([jjj],.str [51,51,55,48,50,52,48],false)
def jio:Row:=([qyl],jjh,false)
def jgu:Row:=([jjh],.str [56,50,52,48,49,52,56],false)
def jir:Row:=([qyw],jj0,false)
def jei:Row:=([jj0],.str [53,50,48,49,49,53,55],false)
def jhq:Row:=([q2t],jjv,false)
def jhv:Row:=([jjv],.str [54,55,52,56,55,48,57],false)
def jfk:Row:=([qu0],jj9,false)
def jga:Row:=([jj9],.str [48,56,53,50,57,54,53],false)
def jez:Row:=([que],jjf,false)
def jgh:Row:=([jjf],.str [50,52,56,53,48,49,51],false)
def jdg:Row:=([q2e],jjq,false)
def jgj:Row:=([jjq],.str [56,51,50,54,51,57,51],false)
def jhk:Row:=([q18],jkb,false)
def je5:Row:=([jkb],.str [50,49,56,53,54,57,53],false)
def jif:Row:=([qo0],jjp,false)
def je2:Row:=([jjp],.str [50,51,54,49,51,49,55],false)
def jgo:Row:=([qw4],jje,false)
def jeb:Row:=([jje],.str [57,57,48,52,48,55,55],false)
def jea:Row:=([qol],jj2,false)
def jhr:Row:=([jj2],.str [53,49,49,54,56,51,51],false)
def jfv:Row:=([.str [49,32,108,111,116,32,99,111,110,101,95,49,32,99,111,110,101,32,49,32,49,48,35,51,57,56,57,49,56,50],xv2],.tup [qu5,xv2],false)
def jgn:Row:=([.str [50,32,108,111,116,32,99,111,105,108,95,49,32,99,111,105,108,32,49,32,53,35,48,49,55,50,54,57,55],xv4],.tup [qy8,xv2],false)
def jdk:Row:=([.str [51,32,112,114,111,100,117,99,116,32,98,111,120,32,49,35,54,49,49,52,48,56,52],qmo],.tup [qyr,xv2],false)
def jft:Row:=([.str [52,32,110,101,101,100,32,98,111,120,32,99,111,110,101,32,49,32,50,35,49,55,56,55,50,51,49],qjj],.tup [qy5,xv2],false)
def jgd:Row:=([.str [53,32,110,101,101,100,32,98,111,120,32,99,111,105,108,32,49,32,49,35,50,52,55,55,51,52,50],q8m],.tup [qy7,xv2],false)
def jie:Row:=([.str [54,32,116,101,115,116,32,98,111,120,32,115,119,101,101,112,32,49,32,56,48,32,57,48,35,50,48,50,49,51,55,56],quz],.tup [qzp,xv2],false)
def jc9:Row:=([.str [55,32,105,115,115,117,101,32,98,111,120,32,50,35,57,55,57,50,54,57,53],jiw],.tup [qzc,xv2],false)
def jgx:Row:=([.str [56,32,98,117,105,108,100,32,117,49,32,98,111,120,32,51,35,48,55,51,51,57,54,55],jgz],.tup [qzg,xv2],false)
def jii:Row:=([.str [57,32,117,115,101,32,117,49,32,99,111,110,101,95,49,32,51,32,50,35,57,54,50,56,50,52,50],jai],.tup [qyj,xv2],false)
def jek:Row:=([.str [49,48,32,117,115,101,32,117,49,32,99,111,105,108,95,49,32,51,32,49,35,51,51,55,48,50,52,48],jd2],.tup [qym,xv2],false)
def jg2:Row:=([.str [49,49,32,109,101,97,115,117,114,101,32,117,49,32,115,119,101,101,112,32,51,32,56,53,35,56,50,52,48,49,52,56],xv7],.tup [qyl,xv2],false)
def jf5:Row:=([.str [49,50,32,104,111,108,100,32,99,111,105,108,95,49,32,51,35,53,50,48,49,49,53,55],q3h],.tup [qyw,xv2],false)
def jed:Row:=([.str [49,51,32,117,110,100,111,35,54,55,52,56,55,48,57],jiz],.tup [q2t,xv2],false)
def jfa:Row:=([.str [49,52,32,105,115,115,117,101,32,98,111,120,32,51,35,48,56,53,50,57,54,53],q2w],.tup [qu0,xv2],false)
def jfq:Row:=([.str [49,53,32,117,112,100,97,116,101,32,117,49,32,51,35,50,52,56,53,48,49,51],jel],.tup [que,xv2],false)
def jg6:Row:=([.str [49,54,32,117,110,100,111,35,56,51,50,54,51,57,51],q2i],.tup [q2e,xv2],false)
def je8:Row:=([.str [49,55,32,117,110,100,111,35,50,49,56,53,54,57,53],q4z],.tup [q18,xv2],false)
def jix:Row:=([.str [49,56,32,109,101,97,115,117,114,101,32,117,49,32,115,119,101,101,112,32,51,32,57,49,35,50,51,54,49,51,49,55],jhe],.tup [qo0,xv2],false)
def jgk:Row:=([.str [49,57,32,117,110,100,111,35,57,57,48,52,48,55,55],jf9],.tup [qw4,xv2],false)
def jh3:Row:=([.str [50,48,32,115,104,105,112,32,117,49,32,51,35,53,49,49,54,56,51,51],qtq],.tup [qol,xv2],false)
def ee1:Row:=([q85,jo8],.tup [ql7,xv2],false)
def ee2:Row:=([q85,ql7],.tup [.list false 1 [xv5,qoj],xv2],false)
def ee3:Row:=([.str [49,32,108,111,116,32,99,111,110,101,95,49,32,99,111,110,101,32,49,32,49,48,35,51,57,56,57,49,56,50,10,50,32,108,111,116,32,99,111,105,108,95,49,32,99,111,105,108,32,49,32,53,35,48,49,55,50,54,57,55,10,51,32,112,114,111,100,117,99,116,32,98,111,120,32,49,35,54,49,49,52,48,56,52,10,52,32,110,101,101,100,32,98,111,120,32,99,111,110,101,32,49,32,50,35,49,55,56,55,50,51,49,10,53,32,110,101,101,100,32,98,111,120,32,99,111,105,108,32,49,32,49,35,50,52,55,55,51,52,50,10,54,32,116,101,115,116,32,98,111,120,32,115,119,101,101,112,32,49,32,56,48,32,57,48,35,50,48,50,49,51,55,56,10,55,32,105,115,115,117,101,32,98,111,120,32,50,35,57,55,57,50,54,57,53,10,56,32,98,117,105,108,100,32,117,49,32,98,111,120,32,51,35,48,55,51,51,57,54,55,10,57,32,117,115,101,32,117,49,32,99,111,110,101,95,49,32,51,32,50,35,57,54,50,56,50,52,50,10,49,48,32,117,115,101,32,117,49,32,99,111,105,108,95,49,32,51,32,49,35,51,51,55,48,50,52,48,10,49,49,32,109,101,97,115,117,114,101,32,117,49,32,115,119,101,101,112,32,51,32,56,53,35,56,50,52,48,49,52,56,10,49,50,32,104,111,108,100,32,99,111,105,108,95,49,32,51,35,53,50,48,49,49,53,55,10,49,51,32,117,110,100,111,35,54,55,52,56,55,48,57,10,49,52,32,105,115,115,117,101,32,98,111,120,32,51,35,48,56,53,50,57,54,53,10,49,53,32,117,112,100,97,116,101,32,117,49,32,51,35,50,52,56,53,48,49,51,10,49,54,32,117,110,100,111,35,56,51,50,54,51,57,51,10,49,55,32,117,110,100,111,35,50,49,56,53,54,57,53,10,49,56,32,109,101,97,115,117,114,101,32,117,49,32,115,119,101,101,112,32,51,32,57,49,35,50,51,54,49,51,49,55,10,49,57,32,117,110,100,111,35,57,57,48,52,48,55,55,10,50,48,32,115,104,105,112,32,117,49,32,51,35,53,49,49,54,56,51,51,10,49]],.tup [q85,.int .i64 500,.int .i64 29],false)
def r1:qaw:=([.ptr 0 0,.str [108,111,116,32,99,111,110,101,95,49,32,99,111,110,101,32,49,32,49,48]],hw1,.tup [.str [100,111,110,101,32,49],xv2],false,hw2)
def r2:qaw:=([.ptr 0 0,.str [108,111,116,32,99,111,105,108,95,49,32,99,111,105,108,32,49,32,53]],hw2,.tup [.str [100,111,110,101,32,50],xv2],false,hw3)
def r3:qaw:=([.ptr 0 0,.str [112,114,111,100,117,99,116,32,98,111,120,32,49]],hw4,.tup [.str [100,111,110,101,32,51],xv2],false,hw5)
def r4:qaw:=([.ptr 0 0,.str [110,101,101,100,32,98,111,120,32,99,111,110,101,32,49,32,50]],hw6,.tup [.str [100,111,110,101,32,52],xv2],false,hw7)
def r5:qaw:=([.ptr 0 0,.str [110,101,101,100,32,98,111,120,32,99,111,105,108,32,49,32,49]],hw8,.tup [.str [100,111,110,101,32,53],xv2],false,hw9)
def r6:qaw:=([.ptr 0 0,.str [116,101,115,116,32,98,111,120,32,115,119,101,101,112,32,49,32,56,48,32,57,48]],zf4,.tup [.str [100,111,110,101,32,54],xv2],false,zc7)
def r7:qaw:=([.ptr 0 0,.str [105,115,115,117,101,32,98,111,120,32,50]],zae,.tup [.str [100,111,110,101,32,55],xv2],false,zb5)
def r8:qaw:=([.ptr 0 0,.str [98,117,105,108,100,32,117,49,32,98,111,120,32,51]],zcv,.tup [.str [100,111,110,101,32,56],xv2],false,j9b)
def r9:qaw:=([.ptr 0 0,.str [117,115,101,32,117,49,32,99,111,110,101,95,49,32,51,32,50]],zfp,.tup [.str [100,111,110,101,32,57],xv2],false,jq3)
def r10:qaw:=(qu1,jqa,.tup [.str [],q1k],false,jq3)
def r11:qaw:=([.ptr 0 0,.str [117,115,101,32,117,49,32,99,111,105,108,95,49,32,51,32,49]],jqa,.tup [.str [100,111,110,101,32,49,48],xv2],false,jor)
def r12:qaw:=(qu1,jhg,q8b,false,jor)
def r13:qaw:=(jrw,jhg,.tup [qur,xv2],false,zfn)
def r14:qaw:=([.ptr 0 0,.str [109,101,97,115,117,114,101,32,117,49,32,115,119,101,101,112,32,51,32,56,53]],jhg,.tup [.str [100,111,110,101,32,49,49],xv2],false,zbe)
def r15:qaw:=(jrw,jpe,jjd,false,zas)
def r16:qaw:=([.ptr 0 0,.str [104,111,108,100,32,99,111,105,108,95,49,32,51]],jpe,.tup [.str [100,111,110,101,32,49,50],xv2],false,jqs)
def r17:qaw:=(qu1,jej,.tup [.str [],jji],false,jqs)
def r18:qaw:=(js2,jej,.tup [.str [48],xv2],false,zdn)
def r19:qaw:=(q1w,jej,.tup [.str [100,111,110,101,32,49,51],xv2],false,zfx)
def r20:qaw:=([.ptr 0 0,.str [105,115,115,117,101,32,98,111,120,32,51]],zar,.tup [.str [100,111,110,101,32,49,52],xv2],false,juk)
def r21:qaw:=(qu1,jqy,.tup [.str [],jjc],false,juk)
def r22:qaw:=([.ptr 0 0,.str [117,112,100,97,116,101,32,117,49,32,51]],jqy,.tup [.str [100,111,110,101,32,49,53],xv2],false,jts)
def r23:qaw:=(qu1,joz,q8b,false,jts)
def r24:qaw:=(q1w,joz,.tup [.str [100,111,110,101,32,49,54],xv2],false,j97)
def r25:qaw:=(q1w,zbq,.tup [.str [100,111,110,101,32,49,55],xv2],false,zh1)
def r26:qaw:=([.ptr 0 0,.str [109,101,97,115,117,114,101,32,117,49,32,115,119,101,101,112,32,51,32,57,49]],zfg,.tup [.str [100,111,110,101,32,49,56],xv2],false,jtc)
def r27:qaw:=(qu1,jp4,q8b,false,jtc)
def r28:qaw:=(q1w,jp4,.tup [.str [100,111,110,101,32,49,57],xv2],false,zdc)
def r29:qaw:=([.ptr 0 0,.str [108,111,116,115,32,117,49]],q1u,.tup [.str [99,111,110,101,95,49,32,99,111,105,108,95,49],xv2],false,jae)
def r30:qaw:=([.ptr 0 0,.str [115,116,111,99,107,32,99,111,110,101]],q1u,.tup [.str [56],xv2],false,jae)
def r31:qaw:=(js2,q1u,.tup [.str [52],xv2],false,jae)
def r32:qaw:=(joy,q1u,jjd,false,jae)
def r33:qaw:=(qu1,q1u,.tup [.str [100,111,110,101,32,50,48],xv2],false,jee)
def r34:qaw:=(q1w,jgy,.tup [.str [],qtq],false,jee)
def r35:qaw:=([.ptr 0 0,.str [117,115,101,32,117,49,32,99,111,110,101,95,49,32,51,32,49]],jgy,.tup [.str [],qs6],false,jee)
def r36:qaw:=(joy,jgy,.tup [qjg,xv2],false,zht)
set_option maxRecDepth 100000
theorem w21:jy prL xL 121 e21.1=some e21.2:=by kernel_rfl
theorem w25:jy prL xL 152 e25.1=some e25.2:=by kernel_rfl
theorem w26:jy prL xL 11 e26.1=some e26.2:=by kernel_rfl
theorem w37:jy prL xL 152 e37.1=some e37.2:=by kernel_rfl
theorem w48:jy prL xL 152 e48.1=some e48.2:=by kernel_rfl
theorem w51:jy prL xL 152 e51.1=some e51.2:=by kernel_rfl
theorem w56:jy prL xL 121 e56.1=some e56.2:=by kernel_rfl
theorem w74:jy prL xL 121 e74.1=some e74.2:=by kernel_rfl
theorem w82:jy prL xL 157 e82.1=some e82.2:=by kernel_rfl
theorem w90:jy prL xL 157 e90.1=some e90.2:=by kernel_rfl
theorem w93:jy prL xL 158 e93.1=some e93.2:=by kernel_rfl
theorem zfs:jy prL xL 158 jgj.1=some jgj.2:=by kernel_rfl
theorem zcm:jy prL xL 158 je2.1=some je2.2:=by kernel_rfl
theorem zg3:jy prL xL 157 jgo.1=some jgo.2:=by kernel_rfl
theorem zfb:jy prL xL 157 jea.1=some jea.2:=by kernel_rfl
theorem zcf:jy prL xL 103 jgn.1=some jgn.2:=by kernel_rfl
theorem zgs:jy prL xL 103 jek.1=some jek.2:=by kernel_rfl
theorem zcl:jy prL xL 103 jg6.1=some jg6.2:=by kernel_rfl
theorem w4:jy prL xL 152 e4.1=some e4.2:=by kernel_rfl
theorem w11:jy prL xL 11 e11.1=some e11.2:=by kernel_rfl
theorem w18:jy prL xL 121 e18.1=some e18.2:=by kernel_rfl
theorem w19:jy prL xL 152 e19.1=some e19.2:=by kernel_rfl
theorem w29:jy prL xL 11 e29.1=some e29.2:=by kernel_rfl
theorem w38:jy prL xL 11 e38.1=some e38.2:=by kernel_rfl
theorem w45:jy prL xL 121 e45.1=some e45.2:=by kernel_rfl
theorem w46:jy prL xL 152 e46.1=some e46.2:=by kernel_rfl
theorem w53:jy prL xL 121 e53.1=some e53.2:=by kernel_rfl
theorem w57:jy prL xL 152 e57.1=some e57.2:=by kernel_rfl
theorem w61:jy prL xL 11 e61.1=some e61.2:=by kernel_rfl
theorem w64:jy prL xL 152 e64.1=some e64.2:=by kernel_rfl
theorem w91:jy prL xL 158 e91.1=some e91.2:=by kernel_rfl
theorem w96:jy prL xL 157 e96.1=some e96.2:=by kernel_rfl
theorem za9:jy prL xL 158 je5.1=some je5.2:=by kernel_rfl
theorem zeo:jy prL xL 103 jft.1=some jft.2:=by kernel_rfl
theorem zbj:jy prL xL 103 jf5.1=some jf5.2:=by kernel_rfl
theorem zag:jy prL xL 103 je8.1=some je8.2:=by kernel_rfl
theorem w14:jy prL xL 11 e14.1=some e14.2:=by kernel_rfl
theorem w15:jy prL xL 121 e15.1=some e15.2:=by kernel_rfl
theorem w16:jy prL xL 152 e16.1=some e16.2:=by kernel_rfl
theorem w35:jy prL xL 11 e35.1=some e35.2:=by kernel_rfl
theorem w39:jy prL xL 121 e39.1=some e39.2:=by kernel_rfl
theorem w49:jy prL xL 11 e49.1=some e49.2:=by kernel_rfl
theorem w54:jy prL xL 152 e54.1=some e54.2:=by kernel_rfl
theorem w59:jy prL xL 121 e59.1=some e59.2:=by kernel_rfl
theorem w60:jy prL xL 152 e60.1=some e60.2:=by kernel_rfl
theorem w63:jy prL xL 11 e63.1=some e63.2:=by kernel_rfl
theorem w65:jy prL xL 11 e65.1=some e65.2:=by kernel_rfl
theorem w67:jy prL xL 152 e67.1=some e67.2:=by kernel_rfl
theorem zd4:jy prL xL 158 jeb.1=some jeb.2:=by kernel_rfl
theorem zah:jy prL xL 103 jfv.1=some jfv.2:=by kernel_rfl
theorem zcu:jy prL xL 103 jgd.1=some jgd.2:=by kernel_rfl
theorem ze6:jy prL xL 103 jc9.1=some jc9.2:=by kernel_rfl
theorem zav:jy prL xL 103 jgx.1=some jgx.2:=by kernel_rfl
theorem zbg:jy prL xL 103 jgk.1=some jgk.2:=by kernel_rfl
theorem w7:jy prL xL 152 e7.1=some e7.2:=by kernel_rfl
theorem w8:jy prL xL 11 e8.1=some e8.2:=by kernel_rfl
theorem w10:jy prL xL 152 e10.1=some e10.2:=by kernel_rfl
theorem w12:jy prL xL 121 e12.1=some e12.2:=by kernel_rfl
theorem w36:jy prL xL 121 e36.1=some e36.2:=by kernel_rfl
theorem w44:jy prL xL 11 e44.1=some e44.2:=by kernel_rfl
theorem w62:jy prL xL 152 e62.1=some e62.2:=by kernel_rfl
theorem w69:jy prL xL 121 e69.1=some e69.2:=by kernel_rfl
theorem w71:jy prL xL 11 e71.1=some e71.2:=by kernel_rfl
theorem w72:jy prL xL 152 e72.1=some e72.2:=by kernel_rfl
theorem w83:jy prL xL 158 e83.1=some e83.2:=by kernel_rfl
theorem w86:jy prL xL 157 e86.1=some e86.2:=by kernel_rfl
theorem w95:jy prL xL 158 e95.1=some e95.2:=by kernel_rfl
theorem zeh:jy prL xL 157 jio.1=some jio.2:=by kernel_rfl
theorem zgr:jy prL xL 157 jfk.1=some jfk.2:=by kernel_rfl
theorem zho:jy prL xL 103 jdk.1=some jdk.2:=by kernel_rfl
theorem zbz:jy prL xL 103 jg2.1=some jg2.2:=by kernel_rfl
theorem w9:jy prL xL 121 e9.1=some e9.2:=by kernel_rfl
theorem w13:jy prL xL 152 e13.1=some e13.2:=by kernel_rfl
theorem w20:jy prL xL 11 e20.1=some e20.2:=by kernel_rfl
theorem w22:jy prL xL 152 e22.1=some e22.2:=by kernel_rfl
theorem w33:jy prL xL 121 e33.1=some e33.2:=by kernel_rfl
theorem w40:jy prL xL 152 e40.1=some e40.2:=by kernel_rfl
theorem w41:jy prL xL 11 e41.1=some e41.2:=by kernel_rfl
theorem w52:jy prL xL 11 e52.1=some e52.2:=by kernel_rfl
theorem w66:jy prL xL 121 e66.1=some e66.2:=by kernel_rfl
theorem w70:jy prL xL 152 e70.1=some e70.2:=by kernel_rfl
theorem w76:jy prL xL 11 e76.1=some e76.2:=by kernel_rfl
theorem w87:jy prL xL 158 e87.1=some e87.2:=by kernel_rfl
theorem w88:jy prL xL 157 e88.1=some e88.2:=by kernel_rfl
theorem w99:jy prL xL 158 e99.1=some e99.2:=by kernel_rfl
theorem zhp:jy prL xL 158 jei.1=some jei.2:=by kernel_rfl
theorem j9f:jy prL xL 157 jif.1=some jif.2:=by kernel_rfl
theorem zc8:jy prL xL 103 jix.1=some jix.2:=by kernel_rfl
theorem w2:jy prL xL 11 e2.1=some e2.2:=by kernel_rfl
theorem w6:jy prL xL 121 e6.1=some e6.2:=by kernel_rfl
theorem w28:jy prL xL 152 e28.1=some e28.2:=by kernel_rfl
theorem w30:jy prL xL 121 e30.1=some e30.2:=by kernel_rfl
theorem w32:jy prL xL 11 e32.1=some e32.2:=by kernel_rfl
theorem w55:jy prL xL 11 e55.1=some e55.2:=by kernel_rfl
theorem w58:jy prL xL 11 e58.1=some e58.2:=by kernel_rfl
theorem w75:jy prL xL 152 e75.1=some e75.2:=by kernel_rfl
theorem w79:jy prL xL 121 e79.1=some e79.2:=by kernel_rfl
theorem w84:jy prL xL 157 e84.1=some e84.2:=by kernel_rfl
theorem w85:jy prL xL 158 e85.1=some e85.2:=by kernel_rfl
theorem w89:jy prL xL 158 e89.1=some e89.2:=by kernel_rfl
theorem zei:jy prL xL 157 jhq.1=some jhq.2:=by kernel_rfl
theorem zbc:jy prL xL 103 jie.1=some jie.2:=by kernel_rfl
theorem zaz:jy prL xL 103 jii.1=some jii.2:=by kernel_rfl
theorem zg2:jy prL xL 103 jfa.1=some jfa.2:=by kernel_rfl
theorem zd6:jy prL xL 103 jh3.1=some jh3.2:=by kernel_rfl
theorem w3:jy prL xL 121 e3.1=some e3.2:=by kernel_rfl
theorem w23:jy prL xL 11 e23.1=some e23.2:=by kernel_rfl
theorem w27:jy prL xL 121 e27.1=some e27.2:=by kernel_rfl
theorem w31:jy prL xL 152 e31.1=some e31.2:=by kernel_rfl
theorem w34:jy prL xL 152 e34.1=some e34.2:=by kernel_rfl
theorem w42:jy prL xL 121 e42.1=some e42.2:=by kernel_rfl
theorem w68:jy prL xL 11 e68.1=some e68.2:=by kernel_rfl
theorem w78:jy prL xL 11 e78.1=some e78.2:=by kernel_rfl
theorem w80:jy prL xL 157 e80.1=some e80.2:=by kernel_rfl
theorem w81:jy prL xL 158 e81.1=some e81.2:=by kernel_rfl
theorem w92:jy prL xL 157 e92.1=some e92.2:=by kernel_rfl
theorem w97:jy prL xL 158 e97.1=some e97.2:=by kernel_rfl
theorem zfv:jy prL xL 157 jir.1=some jir.2:=by kernel_rfl
theorem zee:jy prL xL 158 jga.1=some jga.2:=by kernel_rfl
theorem zad:jy prL xL 157 jdg.1=some jdg.2:=by kernel_rfl
theorem zde:jy prL xL 158 jhr.1=some jhr.2:=by kernel_rfl
theorem zg9:jy prL xL 103 jfq.1=some jfq.2:=by kernel_rfl
theorem w1:jy prL xL 152 e1.1=some e1.2:=by kernel_rfl
theorem w5:jy prL xL 11 e5.1=some e5.2:=by kernel_rfl
theorem w17:jy prL xL 11 e17.1=some e17.2:=by kernel_rfl
theorem w24:jy prL xL 121 e24.1=some e24.2:=by kernel_rfl
theorem w43:jy prL xL 152 e43.1=some e43.2:=by kernel_rfl
theorem w47:jy prL xL 11 e47.1=some e47.2:=by kernel_rfl
theorem w50:jy prL xL 121 e50.1=some e50.2:=by kernel_rfl
theorem w73:jy prL xL 11 e73.1=some e73.2:=by kernel_rfl
theorem w77:jy prL xL 152 e77.1=some e77.2:=by kernel_rfl
theorem w94:jy prL xL 157 e94.1=some e94.2:=by kernel_rfl
theorem w98:jy prL xL 157 e98.1=some e98.2:=by kernel_rfl
theorem zc2:jy prL xL 158 jgu.1=some jgu.2:=by kernel_rfl
theorem ze4:jy prL xL 158 jhv.1=some jhv.2:=by kernel_rfl
theorem zh6:jy prL xL 157 jez.1=some jez.2:=by kernel_rfl
theorem zax:jy prL xL 158 jgh.1=some jgh.2:=by kernel_rfl
theorem zd5:jy prL xL 157 jhk.1=some jhk.2:=by kernel_rfl
theorem zgd:jy prL xL 103 jed.1=some jed.2:=by kernel_rfl
end Go.Z
namespace Go.Z
open Go Go.Abs Go.Proofs
def jf8:List (Nat×List Row):=[(11,[e2,e5,e8,e11,e14,e17,e20,e23,e26,e29,e32,e35,e38,e41,e44,e47,e49,e52,e55,e58,e61,e63,e65,e68,e71,e73,e76,e78]),(103,[jfv,jgn,jdk,jft,jgd,jie,jc9,jgx,jii,jek,jg2,jf5,jed,jfa,jfq,jg6,je8,jix,jgk,jh3]),(121,[e3,e6,e9,e12,e15,e18,e21,e24,e27,e30,e33,e36,e39,e42,e45,e50,e53,e56,e59,e66,e69,e74,e79]),(152,[e1,e4,e7,e10,e13,e16,e19,e22,e25,e28,e31,e34,e37,e40,e43,e46,e48,e51,e54,e57,e60,e62,e64,e67,e70,e72,e75,e77]),(157,[e80,e82,e84,e86,e88,e90,e92,e94,e96,e98,jio,jir,jhq,jfk,jez,jdg,jhk,jif,jgo,jea]),(158,[e81,e83,e85,e87,e89,e91,e93,e95,e97,e99,jgu,jei,jhv,jga,jgh,jgj,je5,je2,jeb,jhr])]
def tab:Nat→Option (List Row):=qg1 jf8
theorem jxf:q1p Tryz.prog tab:=
 q2c (t:=jf8) ⟨⟨za okL w2,za okL w5,za okL w8,za okL w11,za okL w14,za okL w17,za okL w20,za okL w23,za okL w26,za okL w29,za okL w32,za okL w35,za okL w38,za okL w41,za okL w44,za okL w47,za okL w49,za okL w52,za okL w55,za okL w58,za okL w61,za okL w63,za okL w65,za okL w68,za okL w71,za okL w73,za okL w76,za okL w78,trivial⟩,⟨za okL zah,za okL zcf,za okL zho,za okL zeo,za okL zcu,za okL zbc,za okL ze6,za okL zav,za okL zaz,za okL zgs,za okL zbz,za okL zbj,za okL zgd,za okL zg2,za okL zg9,za okL zcl,za okL zag,za okL zc8,za okL zbg,za okL zd6,trivial⟩,⟨za okL w3,za okL w6,za okL w9,za okL w12,za okL w15,za okL w18,za okL w21,za okL w24,za okL w27,za okL w30,za okL w33,za okL w36,za okL w39,za okL w42,za okL w45,za okL w50,za okL w53,za okL w56,za okL w59,za okL w66,za okL w69,za okL w74,za okL w79,trivial⟩,⟨za okL w1,za okL w4,za okL w7,za okL w10,za okL w13,za okL w16,za okL w19,za okL w22,za okL w25,za okL w28,za okL w31,za okL w34,za okL w37,za okL w40,za okL w43,za okL w46,za okL w48,za okL w51,za okL w54,za okL w57,za okL w60,za okL w62,za okL w64,za okL w67,za okL w70,za okL w72,za okL w75,za okL w77,trivial⟩,⟨za okL w80,za okL w82,za okL w84,za okL w86,za okL w88,za okL w90,za okL w92,za okL w94,za okL w96,za okL w98,za okL zeh,za okL zfv,za okL zei,za okL zgr,za okL zh6,za okL zad,za okL zd5,za okL j9f,za okL zg3,za okL zfb,trivial⟩,⟨za okL w81,za okL w83,za okL w85,za okL w87,za okL w89,za okL w91,za okL w93,za okL w95,za okL w97,za okL w99,za okL zc2,za okL zhp,za okL ze4,za okL zee,za okL zax,za okL zfs,za okL za9,za okL zcm,za okL zd4,za okL zde,trivial⟩,trivial⟩
def prA:qt:={ fns:=prL.fns,prims:=fun k=>match tab k with
 |some l=>some fun args=>qh4 args l
 |none=>q13 k,sprims:=prL.sprims,maps:=prL.maps }
theorem okA:qx Tryz.prog prA where
 fn:=okL.fn
 prim:=by
  intro k f hf
  simp only[prA]at hf
  split at hf
  ·rename_i l hl
   cases hf
   exact⟨qb1 (q2y jf8 (by kernel_rfl) k l hl),fun args v o hv _ _=>jxf k l hl _ (qij hv)⟩
  ·exact okL.prim k f hf
 mixed:=okL.mixed
 sprim:=okL.sprim
 maps:=okL.maps
abbrev xA:=qbc prA 1000
end Go.Z
