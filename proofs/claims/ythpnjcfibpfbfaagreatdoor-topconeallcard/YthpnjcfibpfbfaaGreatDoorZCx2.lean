/- Functions of the program for the abstract machine, printed by a program. -/
import Derived.Test.YthpnjcfibpfbfaaGreatDoorZCx1
set_option linter.unusedVariables false
set_option linter.unusedSimpArgs false
set_option maxRecDepth 100000
set_option maxHeartbeats 4000000
namespace Go.Z
open Go Go.Abs
def c166:qx:=⟨33,(Rg [O 2 (.move (.const (.int .u64 0)))] [0] (Rg [Dm 3 0,Dr 4 (.nilCheck (T 3)),Lr 5 4,Dm 6 0,Dr 7 (.nilCheck (T 6)),Lr 8 7,Dr 9 (.bin .shl (T 8) (.const (.int .u64 13))),Dr 10 (.bin .xor (T 5) (T 9)),Dr 11 (.nilCheck (T 3)),⟨none,.store 1 (T 11) (T 10),none,(some [])⟩] [0] (Rg [Dm 12 0,Dr 13 (.nilCheck (T 12)),Lr 14 13,Dm 15 0,Dr 16 (.nilCheck (T 15)),Lr 17 16,Dr 18 (.bin .shr (T 17) (.const (.int .u64 7))),Dr 19 (.bin .xor (T 14) (T 18)),Dr 20 (.nilCheck (T 12)),⟨none,.store 1 (T 20) (T 19),none,(some [])⟩] [0] (Rg [Dm 21 0,Dr 22 (.nilCheck (T 21)),Lr 23 22,Dm 24 0,Dr 25 (.nilCheck (T 24)),Lr 26 25,Dr 27 (.bin .shl (T 26) (.const (.int .u64 17))),Dr 28 (.bin .xor (T 23) (T 27)),Dr 29 (.nilCheck (T 21)),⟨none,.store 1 (T 29) (T 28),none,(some [])⟩] [0] (Rg [Mv 30 0,O 31 (.nilCheck (T 30)),Lo 32 31,Tk 2 32] [2] .ret))))),[.tmp 2]⟩
def h166:qt:=mkH [] (kp c166) []
def c167:qx:=⟨18,(Rg [O 8 (.move (Ni 0))] [0,1,2,3] (Rg [Mv 9 0,Mv 10 1,O 11 (.bin .sub (T 10) (Ni 1)),Mv 12 1,Mv 13 1,O 14 (.bin .add (T 13) (Ni 1)),Mv 15 2,Mv 16 3,O 17 (.call .shr (F 168) [T 9,T 11,T 12,T 14,T 15,T 16]),Tk 8 17] [8] .ret)),[.tmp 8]⟩
def h167:qt:={ takes:=[],muts:=[],offs:=[],shr:=[(1,8)],keep:=kp c167 }
def c168:qx:=⟨41,(Rg [O 12 (.move (Ni 0))] [0,1,2,3,4,5] (Rg [Mv 14 0,Mv 15 1,Mv 16 2,Mv 17 4,Mv 18 5,O 19 (.call .shr (F 173) [T 14,T 15,T 16,T 17,T 18]),Mv 13 19,Xo 20 13 0,Xo 21 13 1,Tk 1 20,Tk 2 21] [0,1,2,3,4,5] (Rg [Mv 23 0,Mv 24 2,Mv 25 3,Mv 26 4,Mv 27 5,O 28 (.call .shr (F 173) [T 23,T 24,T 25,T 26,T 27]),Mv 22 28,Xo 29 22 0,Xo 30 22 1,Tk 2 29,Tk 3 30] [0,1,2,4,5] (Rg [Mv 32 0,Mv 33 1,Mv 34 2,Mv 35 4,Mv 36 5,O 37 (.call .shr (F 173) [T 32,T 33,T 34,T 35,T 36]),Mv 31 37,Xo 38 31 0,Xo 39 31 1,Tk 1 38,Tk 2 39] [2] (Rg [Tk 40 2,Tk 12 40] [12] .ret))))),[.tmp 12]⟩
def h168:qt:={ takes:=[40],muts:=[],offs:=[],shr:=[(1,5),(2,5),(3,5)],keep:=kp c168 }
def c173:qx:=⟨32,(Rg [O 10 (.move (Ni 0)),O 11 (.move (Ni 0))] [0,1,2,3,4] (.seq (Rg [Dm 12 4,Dm 13 0,Dm 14 2,Dr 15 (.indexAddr 1 (T 13) (T 14)),Lr 16 15,Dm 17 0,Dm 18 1,Dr 19 (.indexAddr 1 (T 17) (T 18)),Lr 20 19,Dr 21 (.call .shr (T 12) [T 16,T 20]),Dr 22 (.bin .lss (T 21) (Ni 0))] [1,2,3,22] (.cond (T 22) (Rg [Mv 23 3,O 24 (.nilCheck (T 23)),Lo 25 24,O 26 (.bin .add (T 25) (Ni 1)),O 27 (.nilCheck (T 23)),So 1 27 26] [1,2] (Rg [Tk 28 2,Tk 29 1,Tk 10 28,Tk 11 29] [10,11] .ret)) .skip)) (Rg [Tk 30 1,Tk 31 2,Tk 10 30,Tk 11 31] [10,11] .ret))),[.tmp 10,.tmp 11]⟩
def h173:qt:={ takes:=[28,29,30,31],muts:=[],offs:=[],shr:=[(1,9)],keep:=kp c173 }
end Go.Z
