/- Functions of the program for the abstract machine, printed by a program. -/
import Derived.Test.YtoaianfagfampaaGreatDoorAbsE
import Derived.Test.YtoaianfagfampaaGreatDoorChecked
set_option linter.all false
set_option maxRecDepth 100000
set_option maxHeartbeats 4000000
namespace Go.Z
open Go Go.Abs Go.Proofs
@[irreducible] noncomputable def uB (n:Nat):UInt8:=UInt8.ofNat n
noncomputable def uV:Nat->AVal->AVal
 |f+1,.str s=>.str (s.map fun b=>uB b.toNat)
 |f+1,.list n z l=>.list n z (l.map (uV f))
 |f+1,.agg l=>.agg (l.map (uV f))
 |_,v=>v
noncomputable def uX:jq->jq
 | .const v=>.const (uV 5 v)
 |x=>x
noncomputable def uA:cF->cF
 | .move x=>.move (uX x)
 | .pick a b c=>.pick a (uX b) (uX c)
 | .alloc r l=>.alloc r (l.map (uV 5))
 | .build z l=>.build (z.map (uV 5)) (l.map fun x=>(x.1,x.2.1,uX x.2.2))
 | .buildSlice r s z l=>.buildSlice r s (z.map (uV 5)) (l.map fun x=>(x.1,uX x.2))
 | .fL r s v z l=>.fL r s v (z.map (uV 5)) (l.map fun x=>(x.1,uX x.2))
 | .kN n x=>.kN n (uX x)
 | .box r n x=>.box r n (uX x)
 | .store n a x=>.store n a (uX x)
 | .dq n s x=>.dq n s (uX x)
 | .bin o a b=>.bin o (uX a) (uX b)
 | .beq n a b=>.beq n (uX a) (uX b)
 | .eqs k n a b=>.eqs k n (uX a) (uX b)
 | .lookup k v o a b=>.lookup k (uV 5 v) o a (uX b)
 | .mapUpdate k a b c=>.mapUpdate k a (uX b) (uX c)
 | .append m s b x y=>.append m s b x (uX y)
 | .dI x a b=>.dI (uX x) a b
 | .dH x i=>.dH (uX x) i
 | .len n x=>.len n (uX x)
 | .b8 m s b z n c=>.b8 m s b (z.map (uV 5)) n c
 | .eX f a b=>.eX f (a.map uX) (b.map uX)
 | .call m f l=>.call m f (l.map uX)
 |a=>a
abbrev Qs:=List ((Nat×Nat)×List Nat)
noncomputable def uAl (q:Qs)(id i:Nat)(draw:Bool):ak Nat:=match draw with
 |true=>some (match q.find? fun x=>x.1 == (id,i)with
  |some x=>x.2
  |none=>[])
 |false=>none
noncomputable def uA0 (h:jt)(id i n:Nat)(o:Oper):cF:=(cT Tryz.prog h (QZ h id i) n o.dst o.op).getD .bad
noncomputable def uEq (b:BinOp):Bool:=match b with
 | .neq=>true
 |_=>false
noncomputable def XR (h:jt)(id i n:Nat)(o:Oper):cF:=match o.op with
 | .binOp b t x y _=>match Tryz.prog.underlying t with
  |some (.struct _)=>match rL Tryz.prog 12 t,qv x,qv y with
   |some k,some a,some c=>.eqs k (uEq b) a c
   |_,_,_=>.bad
  |_=>uA0 h id i n o
 |_=>uA0 h id i n o
noncomputable def uRs (a:cF)(i:Nat)(rs:List (Nat×Nat)):List (Nat×Nat):=match a.makes with
 |true=>(i,rs.length)::rs
 |false=>rs
noncomputable def jvv (q:Qs)(h:jt)(id:Nat)(ops:Array Oper)(draw:Bool):List Oper->Nat->List (Nat×Nat)->List bT×List (Nat×Nat)
 | [],_,rs=>([],rs)
 |o::os,i,rs=>match jvv q h id ops draw os (i+1) (uRs (XR h id i rs.length o) i rs)with
  |(l,r)=>(⟨(XR h id i rs.length o).rM o.dst,uA (XR h id i rs.length o),(Ag ops o.guard).getD none,uAl q id i draw⟩::l,r)
noncomputable def vu (q:Qs)(h:jt)(nt:Nat):Code->aQ
 | .skip=>.skip
 | .label _=>.skip
 | .region id ops draw=>match draw,GV Tryz.prog nt ops with
  |false,some sz=>.grow sz
  |_,_=>let z:=jvv q h id ops draw ops.toList 0 []
   .region z.2.length z.1 none
 | .seq a b=>.seq (vu q h nt a) (vu q h nt b)
 | .cond c a b=>.cond ((qv c).getD (.tmp 0)) (vu q h nt a) (vu q h nt b)
 | .block id b=>.block id (vu q h nt b)
 | .loop b=>.loop (vu q h nt b)
 | .scope b=>.seq (vu q h nt b) .skip
 | .rangeFunc f ps a b=>.rangeFunc ((qv f).getD (.tmp 0)) ps.toList (vu q h nt a) (vu q h nt b)
 | .exit id=>.exit id
 | .ret=>.ret
 |_=>.stuck
noncomputable def jye (q:Qs)(h:jt)(f:Func):aQ:=match f.body with
 |some c=>vu q h f.ntmps c
 |none=>.skip
noncomputable def uK {α:Type}(n:Nat)(k:Nat->α):α:=Nat.rec (k 0) (fun m _=>k (m+1)) n
noncomputable def uT (t:Nat):Nat:=Nat.shiftLeft 1 t
noncomputable def uY:jq->Nat
 | .tmp t=>uT t
 |_=>0
noncomputable def uS {α:Type}(f:α->Nat):List α->Nat
 | []=>0
 |x::l=>Nat.lor (f x) (uS f l)
noncomputable def uO:Option jq->Nat
 |some x=>uY x
 |_=>0
noncomputable def uU:cF->Nat
 | .move O=>uY O
 | .take O=>uT O
 | .pick O J a2=>Nat.lor (Nat.lor (uY O) (uY J)) (uY a2)
 | .box _ _ a2=>uY a2
 | .kN _ J=>uY J
 | .dq _ J a2=>Nat.lor (uT J) (uY a2)
 | .build _ J=>uS (fun x=>uY x.2.2) J
 | .buildSlice _ _ _ a3=>uS (fun x=>uY x.2) a3
 | .load _ _ a2=>uY a2
 | .eV _ _ a2=>uY a2
 | .cw _ J=>uY J
 | .store _ J a2=>Nat.lor (uY J) (uY a2)
 | .nilCheck O=>uY O
 | .bin _ J a2=>Nat.lor (uY J) (uY a2)
 | .eqs _ _ a2 a3=>Nat.lor (uY a2) (uY a3)
 | .beq _ J a2=>Nat.lor (uY J) (uY a2)
 | .fD _ _ a2=>uY a2
 | .un _ J=>uY J
 | .conv _ J=>uY J
 | .eG O=>uY O
 | .field _ _ _ a3=>uY a3
 | .dH O J=>Nat.lor (uY O) (uY J)
 | .fieldAddr _ _ _ a3=>uY a3
 | .indexAddr _ J a2=>Nat.lor (uY J) (uY a2)
 | .slice _ J a2 a3=>Nat.lor (Nat.lor (uY J) (uO a2)) (uO a3)
 | .dI O J a2=>Nat.lor (Nat.lor (uY O) (uO J)) (uO a2)
 | .eX _ J a2=>Nat.lor (uS uY J) (uS uY a2)
 | .lookup _ _ _ a3 a4=>Nat.lor (uY a3) (uY a4)
 | .mapUpdate _ J a2 a3=>Nat.lor (Nat.lor (uY J) (uY a2)) (uY a3)
 | .b8 _ _ _ _ a4 a5=>Nat.lor (uY a4) (uY a5)
 | .len _ J=>uY J
 | .append _ _ _ a3 a4=>Nat.lor (uY a3) (uY a4)
 | .gD _ _ _ a3 a4=>Nat.lor (uY a3) (uY a4)
 | .fL _ _ _ _ a4=>uS (fun x=>uY x.2) a4
 | .copy _ J a2=>Nat.lor (uY J) (uY a2)
 | .mx O=>uS uY O
 | .mn O=>uS uY O
 | .extract O _=>uY O
 | .call _ J a2=>Nat.lor (uY J) (uS uY a2)
 | .dD _ J=>uY J
 | .fE O=>uY O
 |_=>0
noncomputable def uR (o:bT)(r:Nat):Nat:=Nat.lor (Nat.lor (uU o.op) (match o.guard with
 |some g=>uT g.1
 |_=>0)) (match o.dst with
 |some d=>Nat.sub r (Nat.land r (uT d))
 |_=>r)
noncomputable def uI:List bT->Nat->Nat
 | [],o=>o
 |x::l,o=>uK (uI l o) (uR x)
noncomputable def uN:Nat->Nat->List Nat->List Nat
 |0,_,l=>l
 |n+1,m,l=>bif Nat.beq m 0 then l else uK (Nat.log2 m) fun t=>uK (Nat.sub m (uT t)) fun r=>uN n r (t::l)
noncomputable def uE (i:Nat):List (Nat×Nat)->Nat
 | []=>0
 |x::l=>bif Nat.beq x.1 i then x.2 else uE i l
noncomputable def uW (r:Nat):aQ->Nat->List (Nat×Nat)->List (Option aQ)->List (List (Option aQ))->(aQ->Nat->List (Option aQ)->aQ)->aQ
 | .seq a b,o,e,l,s,k=>uW r b o e l s fun b x l=>uW r a x e l s fun a y l=>k (.seq a b) y l
 | .region n p _,o,_,l,_,k=>uK (uI p o) fun x=>k (.region n p (some (uN 999 o []))) x l
 | .cond c a b,o,e,l,s,k=>uW r b o e l s fun b y l=>uW r a o e l s fun a x l=>uK (Nat.lor (uY c) (Nat.lor x y)) fun z=>k (.cond c a b) z l
 | .block i a,o,e,l,s,k=>uW r a o ((i,o)::e) l s fun a x l=>k (.block i a) x l
 | .loop a,_,e,l,s,k=>uW r a 0 e [] [] fun _ x _=>match l with
  |none::_=>uW r a x e (s.headD []) s.tail fun c _ _=>c
  |some b::t=>k (.loop b) x t
  | []=>k .skip x []
 | .rangeFunc f p a b,o,e,l,s,k=>uW r b o e l s fun b x l=>uW r a x e l s fun a y l=>uK (Nat.lor (Nat.lor o y) (uY f)) fun z=>k (.rangeFunc f p a b) z l
 | .exit i,_,e,l,_,k=>uK (uE i e) fun z=>k (.exit i) z l
 | .ret,_,_,l,_,k=>k .ret r l
 |c,o,_,l,_,k=>k c o l
noncomputable def bF (t:List Nat)(v:List Nat):jt:={ takes:=t,vl:=v }
noncomputable def uM:List nF->Nat
 | []=>0
 | .tmp t::l=>Nat.lor (uT t) (uM l)
 | .cell t _ _::l=>Nat.lor (uT t) (uM l)
noncomputable def uG (q:Qs)(h:jt)(f:Func)(s:List (List (Option aQ))):aQ:=uK (uM ((vC Tryz.prog f.results.toList).getD [])) fun r=>uW r (jye q h f) r [] (s.headD []) s.tail fun c _ _=>c
noncomputable def uF (q:Qs)(f:Func)(h:jt)(l:List aQ):iC:=⟨f.ntmps,uG q h f [l.map some],(vC Tryz.prog f.results.toList).getD []⟩
noncomputable def uC (q:Qs)(f:Func)(h:jt)(p:List Nat)(l:List aQ):aQ:=uG q h f (p.map (fun n=>List.replicate n (some .skip)++[none])++[l.map some])
@[go_sem] noncomputable def bJ (f:Func)(h:jt)(q:Qs:=[]){c:iC}(_:uF q f h []=c:=by conv=>lhs;reduce;simp only[uB,UInt8.reduceOfNat,Int.ofNat_eq_natCast,Int.cast_ofNat_Int,Int.reduceNegSucc]):iC:=c
@[go_sem] noncomputable def dB (f:Func)(h:jt)(b0:aQ)(q:Qs:=[]){c:aQ->iC}(_:∀O,uF q f h [O]=c O:=by intros;conv=>lhs;reduce;simp only[uB,UInt8.reduceOfNat,Int.ofNat_eq_natCast,Int.cast_ofNat_Int,Int.reduceNegSucc]):iC:=c b0
@[go_sem] noncomputable def XS (f:Func)(h:jt)(b0 b1:aQ)(q:Qs:=[]){c:aQ->aQ->iC}(_:∀O J,uF q f h [J,O]=c O J:=by intros;conv=>lhs;reduce;simp only[uB,UInt8.reduceOfNat,Int.ofNat_eq_natCast,Int.cast_ofNat_Int,Int.reduceNegSucc]):iC:=c b0 b1
@[go_sem] noncomputable def pF5 (f:Func)(h:jt)(b0 b1 b2 b3 b4:aQ)(q:Qs:=[]){c:aQ->aQ->aQ->aQ->aQ->iC}(_:∀O J a2 a3 a4,uF q f h [a4,a3,a2,J,O]=c O J a2 a3 a4:=by intros;conv=>lhs;reduce;simp only[uB,UInt8.reduceOfNat,Int.ofNat_eq_natCast,Int.cast_ofNat_Int,Int.reduceNegSucc]):iC:=c b0 b1 b2 b3 b4
@[go_sem] noncomputable def cW (f:Func)(h:jt)(p:List Nat)(q:Qs:=[]){c:aQ}(_:uC q f h p []=c:=by conv=>lhs;reduce;simp only[uB,UInt8.reduceOfNat,Int.ofNat_eq_natCast,Int.cast_ofNat_Int,Int.reduceNegSucc]):aQ:=c
@[go_sem] noncomputable def pC1 (f:Func)(h:jt)(p:List Nat)(b0:aQ)(q:Qs:=[]){c:aQ->aQ}(_:∀O,uC q f h p [O]=c O:=by intros;conv=>lhs;reduce;simp only[uB,UInt8.reduceOfNat,Int.ofNat_eq_natCast,Int.cast_ofNat_Int,Int.reduceNegSucc]):aQ:=c b0
noncomputable section
def h3:jt:={ bF [77] [5,11,26,29,33,34,36,37,40,43,70,200,202,207,210,216,219,225,228,233,241,246,248,252,254,259,261,266,268,273,276,282,285,291,298,300,313,322,364,366,371,374,380,383,389,392]with shr:=[(6,0),(13,3),(18,1),(21,8),(24,1),(27,1),(31,2),(32,8),(38,6),(41,1),(42,1),(43,8),(61,1),(63,4),(64,1)] }
def Cx:=cW Tryz.f3 h3 [4]
def Gx:=cW Tryz.f3 h3 [3]
def Kk:=cW Tryz.f3 h3 [2]
def Km:=cW Tryz.f3 h3 [1]
def Ko:=cW Tryz.f3 h3 [0]
def c3:=pF5 Tryz.f3 h3 Cx Gx Kk Km Ko
def Pa:=cW Tryz.f4 {} [0,0]
def Pd:=pC1 Tryz.f4 {} [0] Pa
def c4:=dB Tryz.f4 {} Pd
def h5:jt:={ bF [] [1,5,21,27,33,40,70,76,81]with shr:=[(4,0),(10,3)] }
def Kh:=cW Tryz.f5 h5 [0]
def c5:=dB Tryz.f5 h5 Kh
def c6:=bJ Tryz.f6 (bF [17,18] [6,16])
def c7:=bJ Tryz.f7 { shr:=[(1,0)] }
def c8:=bJ Tryz.f8 { bF [30,85,90,98] [8,10,12,43,86,94,100]with shr:=[(9,3),(20,4)],ft:=[(7,0),(10,0)] } (q:=[((7,4),[0]),((7,5),[0]),((7,6),[0]),((7,7),[0]),((7,9),[0]),((7,10),[0]),((10,4),[0]),((10,5),[0]),((10,6),[0]),((10,7),[0]),((10,9),[0]),((10,10),[0])])
def c9:=bJ Tryz.f9 (bF [] [1,3,6])
def J2:=bJ Tryz.f10 { shr:=[(3,5)] }
def wX:=bJ Tryz.f11 { bF [21,30] [7,31]with shr:=[(4,1)] }
def J0:=bJ Tryz.f12 { shr:=[(3,5)] }
def Ez:=bJ Tryz.f13 { bF [17,18] []with shr:=[(1,1),(4,0)] }
def jM:jt:={ bF [23,29,31,36,46] [8]with vA:=[(36,0),(46,1)] }
def jxx:=cW Tryz.f14 jM [0]
def c14:=dB Tryz.f14 jM jxx
def GI:=cW Tryz.f15 (bF [88] []) [0]
def Xz:=dB Tryz.f15 (bF [88] []) GI
def J8:=bJ Tryz.f16 { vec:=[2] }
def OC:=cW Tryz.f17 (bF [13] []) [0]
def Wx:=dB Tryz.f17 (bF [13] []) OC
def Ww:=bJ Tryz.f18 (bF [6] [])
def c19:=bJ Tryz.f19 {}
def c20:=bJ Tryz.f20 (bF [9] [])
def gW:=bJ Tryz.f21 { bF [56,65] [33,4,9,15,34,38,44,58,59]with shr:=[(6,3),(8,4),(11,4)] }
def c22:=bJ Tryz.f22 (bF [17] [])
def rm:=bJ Tryz.f23 { bF [] [6,20,30]with shr:=[(7,5)],ft:=[(1,0)],ex:=[((8,0),1002),((8,1),1003),((8,2),1000)] } (q:=[((1,4),[0]),((1,5),[0]),((1,6),[0]),((1,7),[0]),((1,9),[0]),((1,10),[0]),((5,11),[0]),((8,0),[1002]),((8,1),[1003]),((8,2),[1000])])
def Xx:=bJ Tryz.f24 { bF [42] [1,3,5,12,17,20,24,29,31,34,44,47,54]with ft:=[(1,0)] } (q:=[((1,3),[0]),((1,4),[0]),((1,5),[0]),((1,6),[0]),((1,8),[0]),((1,9),[0])])
def eu:=bJ Tryz.f25 { bF [49,78] [3,7,10,24,72,85,92,104]with shr:=[(9,1)],vec:=[87,94,106],ex:=[((12,12),4000)] } (q:=[((12,12),[4000]),((12,15),[0]),((12,16),[1,0]),((12,17),[1,0]),((12,18),[1,0]),((12,19),[1,0]),((12,20),[1,0]),((12,21),[1,0]),((13,8),[0]),((13,9),[0]),((13,10),[0])])
def c26:=bJ Tryz.f26 {}
def wO:jt:=bF [44] [1,7,11,15,23,30,38]
def FQ:=cW Tryz.f27 wO [1]
def FR:=cW Tryz.f27 wO [0]
def Vc:=XS Tryz.f27 wO FQ FR
def U4:=bJ Tryz.f28 {}
def BK:jt:={ shr:=[(19,1),(20,3),(24,1),(25,1),(27,0)] }
def j0s:=cW Tryz.f29 BK [1]
def j0j:=cW Tryz.f29 BK [0]
def c29:=XS Tryz.f29 BK j0s j0j
def yT:jt:={ bF [14,21] [7,16]with shr:=[(5,3)] }
def zL:=cW Tryz.f30 yT [0]
def J1:=dB Tryz.f30 yT zL
def VL:=bJ Tryz.f31 (bF [] [1,4])
def ND:jt:=bF [29,30,40,41,42,43,52,53] [10,44]
def zE:=cW Tryz.f32 ND [0]
def Vn:=dB Tryz.f32 ND zE
def F0:jt:={ bF [33] [7,21,25]with shr:=[(3,0),(9,2)] }
def lS:=cW Tryz.f33 F0 [0]
def mS:=dB Tryz.f33 F0 lS
def B5:jt:={ bF [14,21] [7,16]with shr:=[(5,3)] }
def zK:=cW Tryz.f34 B5 [0]
def JZ:=dB Tryz.f34 B5 zK
def JY:=bJ Tryz.f35 {}
def tm:=bJ Tryz.f36 {}
def j02:=cW Tryz.f37 (bF [13] []) [0]
def c37:=dB Tryz.f37 (bF [13] []) j02
def zF:jt:=bF [38] [5,17,20,31,41]
def j11:=cW Tryz.f38 zF [0]
def c38:=dB Tryz.f38 zF j11
def c39:=bJ Tryz.f39 {}
def c40:=bJ Tryz.f40 (bF [6] [])
def h41:jt:={ bF [14,21] [7,16]with shr:=[(5,3)] }
def jy8:=cW Tryz.f41 h41 [0]
def c41:=dB Tryz.f41 h41 jy8
def c42:=bJ Tryz.f42 (bF [] [2,5])
def jy6:=cW Tryz.f43 (bF [24] []) [0]
def c43:=dB Tryz.f43 (bF [24] []) jy6
def jzp:=cW Tryz.f44 (bF [24] []) [0]
def c44:=dB Tryz.f44 (bF [24] []) jzp
def Cz:jt:=bF [] [1,3,7,10,13,16,19,23,26,31,36,44,49,55]
def P4:=cW Tryz.f45 Cz [1]
def P7:=cW Tryz.f45 Cz [0]
def WU:=XS Tryz.f45 Cz P4 P7
def Xw:=bJ Tryz.f46 (bF [60] [2,3,9,13,15,16,18,30,31,40,41,49,50,20,21,55])
def VM:=bJ Tryz.f48 (bF [] [2,6,7])
def WL:=bJ Tryz.f49 (bF [] [2,3,6])
def WO:=bJ Tryz.f50 (bF [] [1,4])
def VN:=bJ Tryz.f51 (bF [] [2,5])
def WS:=bJ Tryz.f52 (bF [] [2,3,6])
def VO:=bJ Tryz.f53 (bF [] [2,5,7,8])
def WN:=bJ Tryz.f54 (bF [] [2,3,6,7])
def VP:=bJ Tryz.f55 (bF [] [2,5])
def NH:jt:=bF [29] [2,7,9,16,21,26]
def PZ:=cW Tryz.f56 NH [0]
def WT:=dB Tryz.f56 NH PZ
def VR:=bJ Tryz.f57 (bF [] [2,6,7])
def WK:=bJ Tryz.f58 (bF [] [2,3,6])
def WM:=bJ Tryz.f59 (bF [] [1,4])
def VS:=bJ Tryz.f60 (bF [] [2,6])
def Gz:jt:={ bF [14,21] [7,16]with shr:=[(5,3)] }
def PW:=cW Tryz.f61 Gz [0]
def WR:=dB Tryz.f61 Gz PW
def h62:jt:={ bF [17,22] [7,15,18]with shr:=[(5,2)] }
def Cb:=cW Tryz.f62 h62 [0]
def JQ:=dB Tryz.f62 h62 Cb
def VE:=bJ Tryz.f63 (bF [] [1,4])
def WQ:=bJ Tryz.f64 (bF [] [1,4])
def VU:=bJ Tryz.f65 (bF [] [2,6])
def VT:=bJ Tryz.f66 {}
def h67:jt:={ bF [17,22] [7,15,18]with shr:=[(5,2)] }
def QQ:=cW Tryz.f67 h67 [0]
def XD:=dB Tryz.f67 h67 QQ
def XB:=bJ Tryz.f68 (bF [] [1,4])
def WH:=bJ Tryz.f69 {}
def tq:=bJ Tryz.f70 (bF [] [3,10,16,22])
def CG:=cW Tryz.f71 {} [0]
def WA:=dB Tryz.f71 {} CG
def Xc:=bJ Tryz.f72 (bF [32] [3,10,17,39,43,47,51])
def Xd:=bJ Tryz.f73 (bF [27] [3,10,34])
def Xe:=bJ Tryz.f74 { bF [55] [3,5,6,7,11,15,27,35,37,41,58]with shr:=[(7,6)] }
def Xf:=bJ Tryz.f75 { bF [59] [3,5,6,10,14,18,31,40,42,46,62]with shr:=[(7,6)] }
def Xg:=bJ Tryz.f76 (bF [38] [3,6,12,25,30])
def Xh:=bJ Tryz.f77 (bF [46] [3,15,26,53,57])
def Ei:=bJ Tryz.f78 { bF [78] [3,7,8,9,13,19,27,32,52,58,60,64,69,71,90,91,95,96,103]with shr:=[(13,7)] }
def Xi:=bJ Tryz.f79 (bF [47] [3,6,13,27,33,39])
def Xj:=bJ Tryz.f80 (bF [41] [3,6,7,13,27,30,33,34])
def Xq:=bJ Tryz.f81 (bF [77] [3,7,8,14,22,45,47,51,53,58,61,65,69])
def Xr:=bJ Tryz.f82 (bF [] [3,10])
def Xt:=bJ Tryz.f83 (bF [] [3,10])
def XI:=bJ Tryz.f84 (bF [28] [3,11])
def Xu:=bJ Tryz.f85 (bF [] [3,10])
def WG:=bJ Tryz.f86 {}
def h87:jt:={ bF [14,21] []with shr:=[(5,3)] }
def FY:=cW Tryz.f87 h87 [0]
def Vm:=dB Tryz.f87 h87 FY
def Vl:=bJ Tryz.f88 (bF [15] [])
def BP:=cW Tryz.f89 (bF [41] []) [0]
def Vh:=dB Tryz.f89 (bF [41] []) BP
def Wy:=bJ Tryz.f90 {}
def h91:jt:={ bF [14,21] []with shr:=[(5,3)] }
def OL:=cW Tryz.f91 h91 [0]
def WD:=dB Tryz.f91 h91 OL
def WB:=bJ Tryz.f92 {}
def h93:jt:={ bF [14,21] []with shr:=[(5,3)] }
def OP:=cW Tryz.f93 h93 [0]
def WE:=dB Tryz.f93 h93 OP
def WC:=bJ Tryz.f94 {}
def h95:jt:={ bF [50] [3,6,11,20,23,35,44,45,52]with shr:=[(9,3)],ft:=[(3,0)] }
def xl:=cW Tryz.f95 h95 [0] (q:=[((3,3),[0]),((3,5),[0])])
def tO:=dB Tryz.f95 h95 xl (q:=[((3,3),[0]),((3,5),[0])])
def FP:=cW Tryz.f97 (bF [28] []) [0]
def U2:=dB Tryz.f97 (bF [28] []) FP
def B1:=bJ Tryz.f101 (bF [10,14] [1,5,8,12,16])
def FV:=cW Tryz.f102 {} [0]
def BO:=dB Tryz.f102 {} FV
def BN:=bJ Tryz.f103 {}
def gV:=bJ Tryz.f104 (bF [60] [7,50,61])
def CH:=bJ Tryz.f105 {}
def XL:=bJ Tryz.f106 (bF [23] [1,5,10,15,25])
def CT:=bJ Tryz.f107 {}
def Du:=bJ Tryz.f108 {}
def OH:=cW Tryz.f109 {} [0]
def CC:=dB Tryz.f109 {} OH
end
end Go.Z
