/- Functions of the program for the abstract machine, printed by a program. -/
import Derived.Test.YtlhfdilpecnjeaaGreatDoorAbsE
import Derived.Test.YtlhfdilpecnjeaaGreatDoorChecked
set_option linter.all false
set_option maxRecDepth 100000
set_option maxHeartbeats 4000000
namespace Go.Z
open Go Go.Abs Go.Proofs
@[irreducible] noncomputable def uB (n:Nat):UInt8:=UInt8.ofNat n
noncomputable def uV:Nat->AVal->AVal
 |f+1,.str s=>.str (s.map fun b=>uB b.toNat)
 |f+1,.list n z l=>.list n z (l.map (uV f))
 |f+1,.agg l=>.agg (l.map (uV f))
 |_,v=>v
noncomputable def uX:jw->jw
 | .const v=>.const (uV 5 v)
 |x=>x
noncomputable def uA:cI->cI
 | .move x=>.move (uX x)
 | .pick a b c=>.pick a (uX b) (uX c)
 | .alloc r l=>.alloc r (l.map (uV 5))
 | .build z l=>.build (z.map (uV 5)) (l.map fun x=>(x.1,x.2.1,uX x.2.2))
 | .buildSlice r s z l=>.buildSlice r s (z.map (uV 5)) (l.map fun x=>(x.1,uX x.2))
 | .gG r s v z l=>.gG r s v (z.map (uV 5)) (l.map fun x=>(x.1,uX x.2))
 | .lF n x=>.lF n (uX x)
 | .box r n x=>.box r n (uX x)
 | .store n a x=>.store n a (uX x)
 | .dv n s x=>.dv n s (uX x)
 | .bin o a b=>.bin o (uX a) (uX b)
 | .beq n a b=>.beq n (uX a) (uX b)
 | .eqs k n a b=>.eqs k n (uX a) (uX b)
 | .lookup k v o a b=>.lookup k (uV 5 v) o a (uX b)
 | .mapUpdate k a b c=>.mapUpdate k a (uX b) (uX c)
 | .append m s b x y=>.append m s b x (uX y)
 | .dN x a b=>.dN (uX x) a b
 | .dM x i=>.dM (uX x) i
 | .len n x=>.len n (uX x)
 | .cj m s b z n c=>.cj m s b (z.map (uV 5)) n c
 | .fe f a b=>.fe f (a.map uX) (b.map uX)
 | .call m f l=>.call m f (l.map uX)
 |a=>a
abbrev Qs:=List ((Nat×Nat)×List Nat)
noncomputable def uAl (q:Qs)(id i:Nat)(draw:Bool):ak Nat:=match draw with
 |true=>some (match q.find? fun x=>x.1 == (id,i)with
  |some x=>x.2
  |none=>[])
 |false=>none
noncomputable def uA0 (h:js)(id i n:Nat)(o:Oper):cI:=(cW Tryz.prog h (T8 h id i) n o.dst o.op).getD .bad
noncomputable def uEq (b:BinOp):Bool:=match b with
 | .neq=>true
 |_=>false
noncomputable def uA1 (h:js)(id i n:Nat)(o:Oper):cI:=match o.op with
 | .binOp b t x y _=>match Tryz.prog.underlying t with
  |some (.struct _)=>match sR Tryz.prog 12 t,qr x,qr y with
   |some k,some a,some c=>.eqs k (uEq b) a c
   |_,_,_=>.bad
  |_=>uA0 h id i n o
 |_=>uA0 h id i n o
noncomputable def uRs (a:cI)(i:Nat)(rs:List (Nat×Nat)):List (Nat×Nat):=match a.makes with
 |true=>(i,rs.length)::rs
 |false=>rs
noncomputable def j1w (q:Qs)(h:js)(id:Nat)(ops:Array Oper)(draw:Bool):List Oper->Nat->List (Nat×Nat)->List bX×List (Nat×Nat)
 | [],_,rs=>([],rs)
 |o::os,i,rs=>match j1w q h id ops draw os (i+1) (uRs (uA1 h id i rs.length o) i rs)with
  |(l,r)=>(⟨(uA1 h id i rs.length o).sS o.dst,uA (uA1 h id i rs.length o),(AX ops o.guard).getD none,uAl q id i draw⟩::l,r)
noncomputable def wO (q:Qs)(h:js)(nt:Nat):Code->bn
 | .skip=>.skip
 | .label _=>.skip
 | .region id ops draw=>match draw,Ie Tryz.prog nt ops with
  |false,some sz=>.grow sz
  |_,_=>let z:=j1w q h id ops draw ops.toList 0 []
   .region z.2.length z.1 none
 | .seq a b=>.seq (wO q h nt a) (wO q h nt b)
 | .cond c a b=>.cond ((qr c).getD (.tmp 0)) (wO q h nt a) (wO q h nt b)
 | .block id b=>.block id (wO q h nt b)
 | .loop b=>.loop (wO q h nt b)
 | .scope b=>.seq (wO q h nt b) .skip
 | .rangeFunc f ps a b=>.rangeFunc ((qr f).getD (.tmp 0)) ps.toList (wO q h nt a) (wO q h nt b)
 | .exit id=>.exit id
 | .ret=>.ret
 |_=>.stuck
noncomputable def zal (q:Qs)(h:js)(f:Func):bn:=match f.body with
 |some c=>wO q h f.ntmps c
 |none=>.skip
noncomputable def uK {α:Type}(n:Nat)(k:Nat->α):α:=Nat.rec (k 0) (fun m _=>k (m+1)) n
noncomputable def uT (t:Nat):Nat:=Nat.shiftLeft 1 t
noncomputable def uY:jw->Nat
 | .tmp t=>uT t
 |_=>0
noncomputable def uS {α:Type}(f:α->Nat):List α->Nat
 | []=>0
 |x::l=>Nat.lor (f x) (uS f l)
noncomputable def uO:Option jw->Nat
 |some x=>uY x
 |_=>0
noncomputable def uU:cI->Nat
 | .move O=>uY O
 | .take O=>uT O
 | .pick O J a2=>Nat.lor (Nat.lor (uY O) (uY J)) (uY a2)
 | .box _ _ a2=>uY a2
 | .lF _ J=>uY J
 | .dv _ J a2=>Nat.lor (uT J) (uY a2)
 | .build _ J=>uS (fun x=>uY x.2.2) J
 | .buildSlice _ _ _ a3=>uS (fun x=>uY x.2) a3
 | .load _ _ a2=>uY a2
 | .fb _ _ a2=>uY a2
 | .cz _ J=>uY J
 | .store _ J a2=>Nat.lor (uY J) (uY a2)
 | .nilCheck O=>uY O
 | .bin _ J a2=>Nat.lor (uY J) (uY a2)
 | .eqs _ _ a2 a3=>Nat.lor (uY a2) (uY a3)
 | .beq _ J a2=>Nat.lor (uY J) (uY a2)
 | .fP _ _ a2=>uY a2
 | .un _ J=>uY J
 | .conv _ J=>uY J
 | .eL O=>uY O
 | .field _ _ _ a3=>uY a3
 | .dM O J=>Nat.lor (uY O) (uY J)
 | .fieldAddr _ _ _ a3=>uY a3
 | .indexAddr _ J a2=>Nat.lor (uY J) (uY a2)
 | .slice _ J a2 a3=>Nat.lor (Nat.lor (uY J) (uO a2)) (uO a3)
 | .dN O J a2=>Nat.lor (Nat.lor (uY O) (uO J)) (uO a2)
 | .fe _ J a2=>Nat.lor (uS uY J) (uS uY a2)
 | .lookup _ _ _ a3 a4=>Nat.lor (uY a3) (uY a4)
 | .mapUpdate _ J a2 a3=>Nat.lor (Nat.lor (uY J) (uY a2)) (uY a3)
 | .cj _ _ _ _ a4 a5=>Nat.lor (uY a4) (uY a5)
 | .len _ J=>uY J
 | .append _ _ _ a3 a4=>Nat.lor (uY a3) (uY a4)
 | .gZ _ _ _ a3 a4=>Nat.lor (uY a3) (uY a4)
 | .gG _ _ _ _ a4=>uS (fun x=>uY x.2) a4
 | .copy _ J a2=>Nat.lor (uY J) (uY a2)
 | .mx O=>uS uY O
 | .mn O=>uS uY O
 | .extract O _=>uY O
 | .call _ J a2=>Nat.lor (uY J) (uS uY a2)
 | .dF _ J=>uY J
 | .fQ O=>uY O
 |_=>0
noncomputable def uR (o:bX)(r:Nat):Nat:=Nat.lor (Nat.lor (uU o.op) (match o.guard with
 |some g=>uT g.1
 |_=>0)) (match o.dst with
 |some d=>Nat.sub r (Nat.land r (uT d))
 |_=>r)
noncomputable def uI:List bX->Nat->Nat
 | [],o=>o
 |x::l,o=>uK (uI l o) (uR x)
noncomputable def uN:Nat->Nat->List Nat->List Nat
 |0,_,l=>l
 |n+1,m,l=>bif Nat.beq m 0 then l else uK (Nat.log2 m) fun t=>uK (Nat.sub m (uT t)) fun r=>uN n r (t::l)
noncomputable def uE (i:Nat):List (Nat×Nat)->Nat
 | []=>0
 |x::l=>bif Nat.beq x.1 i then x.2 else uE i l
noncomputable def uW (r:Nat):bn->Nat->List (Nat×Nat)->List (Option bn)->List (List (Option bn))->(bn->Nat->List (Option bn)->bn)->bn
 | .seq a b,o,e,l,s,k=>uW r b o e l s fun b x l=>uW r a x e l s fun a y l=>k (.seq a b) y l
 | .region n p _,o,_,l,_,k=>uK (uI p o) fun x=>k (.region n p (some (uN 999 o []))) x l
 | .cond c a b,o,e,l,s,k=>uW r b o e l s fun b y l=>uW r a o e l s fun a x l=>uK (Nat.lor (uY c) (Nat.lor x y)) fun z=>k (.cond c a b) z l
 | .block i a,o,e,l,s,k=>uW r a o ((i,o)::e) l s fun a x l=>k (.block i a) x l
 | .loop a,_,e,l,s,k=>uW r a 0 e [] [] fun _ x _=>match l with
  |none::_=>uW r a x e (s.headD []) s.tail fun c _ _=>c
  |some b::t=>k (.loop b) x t
  | []=>k .skip x []
 | .rangeFunc f p a b,o,e,l,s,k=>uW r b o e l s fun b x l=>uW r a x e l s fun a y l=>uK (Nat.lor (Nat.lor o y) (uY f)) fun z=>k (.rangeFunc f p a b) z l
 | .exit i,_,e,l,_,k=>uK (uE i e) fun z=>k (.exit i) z l
 | .ret,_,_,l,_,k=>k .ret r l
 |c,o,_,l,_,k=>k c o l
noncomputable def bF (t:List Nat)(v:List Nat):js:={ takes:=t,vl:=v }
noncomputable def uM:List ou->Nat
 | []=>0
 | .tmp t::l=>Nat.lor (uT t) (uM l)
 | .cell t _ _::l=>Nat.lor (uT t) (uM l)
noncomputable def uG (q:Qs)(h:js)(f:Func)(s:List (List (Option bn))):bn:=uK (uM ((wT Tryz.prog f.results.toList).getD [])) fun r=>uW r (zal q h f) r [] (s.headD []) s.tail fun c _ _=>c
noncomputable def uF (q:Qs)(f:Func)(h:js)(l:List bn):jU:=⟨f.ntmps,uG q h f [l.map some],(wT Tryz.prog f.results.toList).getD []⟩
noncomputable def uC (q:Qs)(f:Func)(h:js)(p:List Nat)(l:List bn):bn:=uG q h f (p.map (fun n=>List.replicate n (some .skip)++[none])++[l.map some])
@[go_sem] noncomputable def bL (f:Func)(h:js)(q:Qs:=[]){c:jU}(_:uF q f h []=c:=by conv=>lhs;reduce;simp only[uB,UInt8.reduceOfNat,Int.ofNat_eq_natCast,Int.cast_ofNat_Int,Int.reduceNegSucc]):jU:=c
@[go_sem] noncomputable def di (f:Func)(h:js)(b0:bn)(q:Qs:=[]){c:bn->jU}(_:∀O,uF q f h [O]=c O:=by intros;conv=>lhs;reduce;simp only[uB,UInt8.reduceOfNat,Int.ofNat_eq_natCast,Int.cast_ofNat_Int,Int.reduceNegSucc]):jU:=c b0
@[go_sem] noncomputable def MC (f:Func)(h:js)(b0 b1:bn)(q:Qs:=[]){c:bn->bn->jU}(_:∀O J,uF q f h [J,O]=c O J:=by intros;conv=>lhs;reduce;simp only[uB,UInt8.reduceOfNat,Int.ofNat_eq_natCast,Int.cast_ofNat_Int,Int.reduceNegSucc]):jU:=c b0 b1
@[go_sem] noncomputable def cN (f:Func)(h:js)(p:List Nat)(q:Qs:=[]){c:bn}(_:uC q f h p []=c:=by conv=>lhs;reduce;simp only[uB,UInt8.reduceOfNat,Int.ofNat_eq_natCast,Int.cast_ofNat_Int,Int.reduceNegSucc]):bn:=c
noncomputable section
def h3:js:={ bF [] [12,110]with shr:=[(4,1),(19,2),(26,1),(27,1),(27,6),(27,17),(27,23)] }
def wI:=cN Tryz.f3 h3 [0]
def c3:=di Tryz.f3 h3 wI
def c5:=bL Tryz.f5 { shr:=[(1,0),(2,38),(4,1),(7,1)] }
def h6:js:=bF [43,44,45,46,56,57,58,59] [8,35,47]
def xU:=cN Tryz.f6 h6 [0]
def c6:=di Tryz.f6 h6 xU
def c7:=bL Tryz.f7 { bF [21,30] [7,31]with shr:=[(4,1)] }
def c8:=bL Tryz.f8 (bF [17,18] [6,16])
def c9:=bL Tryz.f9 (bF [42,43,66] [8,36])
def nJ:=bL Tryz.f10 { bF [30,85,90,98] [8,10,12,43,86,94,100]with shr:=[(9,3),(20,4)],fI:=[(7,0),(10,0)] } (q:=[((7,4),[0]),((7,5),[0]),((7,6),[0]),((7,7),[0]),((7,9),[0]),((7,10),[0]),((10,4),[0]),((10,5),[0]),((10,6),[0]),((10,7),[0]),((10,9),[0]),((10,10),[0])])
def Qq:=cN Tryz.f11 {} [0]
def ZQ:=di Tryz.f11 {} Qq
def Dh:=bL Tryz.f12 { shr:=[(3,5)] }
def Di:=bL Tryz.f13 { shr:=[(3,5)] }
def Lc:=cN Tryz.f14 (bF [27] []) [0]
def ZM:=di Tryz.f14 (bF [27] []) Lc
def oL:js:=bF [29,30,40,41,42,43,52,53] [10,44]
def Av:=cN Tryz.f17 oL [0]
def Z2:=di Tryz.f17 oL Av
def c19:=bL Tryz.f19 {}
def c20:=bL Tryz.f20 { shr:=[(1,0)] }
def iq:js:={ bF [] [6,20,26,31]with shr:=[(6,3)] }
def j5m:=cN Tryz.f21 iq [0]
def c21:=di Tryz.f21 iq j5m
def gj:js:={ bF [35] [3,6,12,14,23,27,39,47,49,50,52,55]with shr:=[(13,3)] }
def j66:=cN Tryz.f22 gj [0]
def c22:=di Tryz.f22 gj j66
def pL:js:=bF [39,52,58] [6,13,41,54]
def j7t:=cN Tryz.f23 pL [0]
def c23:=di Tryz.f23 pL j7t
def TR:=cN Tryz.f24 {} [0]
def c24:=di Tryz.f24 {} TR
def K6:=cN Tryz.f25 (bF [27] []) [1]
def K8:=cN Tryz.f25 (bF [27] []) [0]
def ZE:=MC Tryz.f25 (bF [27] []) K6 K8
def mb:=bL Tryz.f26 (bF [70] [])
def nC:js:={ bF [33] [7,21,25]with shr:=[(3,0),(9,2)] }
def Dq:=cN Tryz.f27 nC [0]
def AF:=di Tryz.f27 nC Dq
def H0:=cN Tryz.f28 (bF [88] []) [0]
def c28:=di Tryz.f28 (bF [88] []) H0
def c29:=bL Tryz.f29 {}
def lB:js:=bF [19,28] []
def Aq:=cN Tryz.f30 lB [0]
def Lf:=di Tryz.f30 lB Aq
def c31:=bL Tryz.f31 (bF [] [2,38,54,62,68,76,84,91,103,109,111])
def rj:js:={ bF [53,73] [57,5,18,21,24,50]with wR:=[(53,2)] }
def Qv:=cN Tryz.f32 rj [0]
def ZT:=di Tryz.f32 rj Qv
def c33:=bL Tryz.f33 (bF [20,35] [3,5,16,28])
def ZD:=bL Tryz.f34 {}
def Rq:=cN Tryz.f35 (bF [13] []) [0]
def c35:=di Tryz.f35 (bF [13] []) Rq
def c36:=bL Tryz.f36 (bF [6] [])
def c37:=bL Tryz.f37 (bF [9] [])
def iB:=bL Tryz.f38 { bF [56,65] [33,4,9,15,34,38,44,58,59]with shr:=[(6,3),(8,4),(11,4)] }
def c39:=bL Tryz.f39 (bF [17] [])
def sF:=bL Tryz.f40 { bF [] [6,20,30]with shr:=[(7,5)],fI:=[(1,0)],ex:=[((8,0),1002),((8,1),1003),((8,2),1000)] } (q:=[((1,4),[0]),((1,5),[0]),((1,6),[0]),((1,7),[0]),((1,9),[0]),((1,10),[0]),((5,11),[0]),((8,0),[1002]),((8,1),[1003]),((8,2),[1000])])
def c41:=bL Tryz.f41 { bF [42] [1,3,5,12,17,20,24,29,31,34,44,47,54]with fI:=[(1,0)] } (q:=[((1,3),[0]),((1,4),[0]),((1,5),[0]),((1,6),[0]),((1,8),[0]),((1,9),[0])])
def kB:=bL Tryz.f42 { bF [49,78] [3,7,10,24,72,85,92,104]with shr:=[(9,1)],vec:=[87,94,106],ex:=[((12,12),4000)] } (q:=[((12,12),[4000]),((12,15),[0]),((12,16),[1,0]),((12,17),[1,0]),((12,18),[1,0]),((12,19),[1,0]),((12,20),[1,0]),((12,21),[1,0]),((13,8),[0]),((13,9),[0]),((13,10),[0])])
def c43:=bL Tryz.f43 {}
def Qn:=cN Tryz.f44 {} [0]
def ZP:=di Tryz.f44 {} Qn
def Qd:js:={ bF [14,21] [7,16]with shr:=[(5,3)] }
def Az:=cN Tryz.f45 Qd [0]
def LX:=di Tryz.f45 Qd Az
def LW:=bL Tryz.f46 {}
def h47:js:={ shr:=[(19,1),(20,3),(24,1),(25,1),(27,0)] }
def j7l:=cN Tryz.f47 h47 [1]
def j9z:=cN Tryz.f47 h47 [0]
def c47:=MC Tryz.f47 h47 j7l j9z
def Hd:js:={ bF [14,21] [7,16]with shr:=[(5,3)] }
def AA:=cN Tryz.f48 Hd [0]
def LY:=di Tryz.f48 Hd AA
def c49:=bL Tryz.f49 (bF [] [1,4])
def La:js:=bF [44] [1,7,11,15,23,30,38]
def G8:=cN Tryz.f50 La [1]
def G9:=cN Tryz.f50 La [0]
def ZJ:=MC Tryz.f50 La G8 G9
def ZW:=bL Tryz.f52 {}
def rA:=bL Tryz.f53 (bF [60] [7,50,61])
def c55:=bL Tryz.f55 { vec:=[2] }
def c56:=bL Tryz.f56 { bF [17,18] []with shr:=[(1,1),(4,0)] }
def c57:=bL Tryz.f57 {}
def c58:=bL Tryz.f58 (bF [] [2,3,6])
def c59:=bL Tryz.f59 { shr:=[(1,2)] }
def c60:=bL Tryz.f60 { bF [] [2,5,7]with shr:=[(1,6)] }
def c61:=bL Tryz.f61 (bF [] [1,4])
def c62:=bL Tryz.f62 {}
def c63:=bL Tryz.f63 {}
def h64:js:={ bF [17,22] [7,15,18]with shr:=[(5,2)] }
def C5:=cN Tryz.f64 h64 [0]
def LK:=di Tryz.f64 h64 C5
def h65:js:={ bF [14,21] [7,16]with shr:=[(5,3)] }
def SR:=cN Tryz.f65 h65 [0]
def c65:=di Tryz.f65 h65 SR
def c66:=bL Tryz.f66 (bF [] [2,5,9])
def c67:=bL Tryz.f67 (bF [] [1,4])
def c68:=bL Tryz.f68 {}
def c69:=bL Tryz.f69 (bF [] [2,3,6])
def c70:=bL Tryz.f70 {}
def Qk:=cN Tryz.f71 {} [0]
def ZO:=di Tryz.f71 {} Qk
def Cu:=cN Tryz.f72 (bF [48] []) [0]
def ZN:=di Tryz.f72 (bF [48] []) Cu
def h73:js:=bF [] [1,3,7,10,13,16,19,23,26,31,36,44,49,55]
def SZ:=cN Tryz.f73 h73 [1]
def S2:=cN Tryz.f73 h73 [0]
def c73:=MC Tryz.f73 h73 SZ S2
def c74:=bL Tryz.f74 (bF [60] [2,3,9,13,15,16,18,30,31,40,41,49,50,20,21,55])
def c75:=bL Tryz.f75 {}
def Ly:=cN Tryz.f76 (bF [24] []) [0]
def c76:=di Tryz.f76 (bF [24] []) Ly
def h77:js:=bF [25,51,60] [2,10,20,27,36,46,53]
def QR:=cN Tryz.f77 h77 [1]
def QU:=cN Tryz.f77 h77 [0]
def c77:=MC Tryz.f77 h77 QR QU
def Ru:=cN Tryz.f78 {} [0]
def c78:=di Tryz.f78 {} Ru
def h79:js:=bF [39] [2,9,15,24,33]
def Sn:=cN Tryz.f79 h79 [0]
def c79:=di Tryz.f79 h79 Sn
def h80:js:=bF [21] [2,8,14]
def RO:=cN Tryz.f80 h80 [0]
def c80:=di Tryz.f80 h80 RO
def h81:js:=bF [21,30] [2,9,15,23]
def Sk:=cN Tryz.f81 h81 [0]
def c81:=di Tryz.f81 h81 Sk
def h82:js:=bF [21] [2,8,14]
def RS:=cN Tryz.f82 h82 [0]
def c82:=di Tryz.f82 h82 RS
def h83:js:=bF [21] [2,8,14]
def RJ:=cN Tryz.f83 h83 [0]
def c83:=di Tryz.f83 h83 RJ
def Lt:js:=bF [12,21] [1,7,14]
def RY:=cN Tryz.f84 Lt [0]
def c84:=di Tryz.f84 Lt RY
def h85:js:=bF [26,35] [2,3,5,8,9,13,18,20,28]
def Se:=cN Tryz.f85 h85 [0]
def c85:=di Tryz.f85 h85 Se
def G7:=cN Tryz.f86 (bF [28] []) [0]
def ZC:=di Tryz.f86 (bF [28] []) G7
def c87:=bL Tryz.f87 (bF [] [2,6,7])
def c88:=bL Tryz.f88 (bF [] [2,5])
def c89:=bL Tryz.f89 (bF [] [2,3,6])
def c90:=bL Tryz.f90 (bF [] [2,5,7,8])
def c91:=bL Tryz.f91 (bF [] [2,3,6,7])
def c92:=bL Tryz.f92 (bF [] [2,5])
def h93:js:=bF [29] [2,7,9,16,21,26]
def SW:=cN Tryz.f93 h93 [0]
def c93:=di Tryz.f93 h93 SW
def c94:=bL Tryz.f94 (bF [] [2,6,7])
def c95:=bL Tryz.f95 (bF [] [2,3,6])
def c96:=bL Tryz.f96 (bF [] [1,4])
def c97:=bL Tryz.f97 (bF [] [2,6])
def c98:=bL Tryz.f98 (bF [] [1,4])
def c99:=bL Tryz.f99 (bF [] [2,6])
def Dj:=bL Tryz.f100 {}
def MD:js:={ bF [17,22] [7,15,18]with shr:=[(5,2)] }
def TK:=cN Tryz.f101 MD [0]
def Fs:=di Tryz.f101 MD TK
def Fq:=bL Tryz.f102 (bF [] [1,4])
def C9:=bL Tryz.f103 {}
def jR:=bL Tryz.f104 (bF [] [3,10,16,22])
def Dw:=cN Tryz.f105 {} [0]
def Dx:=di Tryz.f105 {} Dw
def E2:=bL Tryz.f106 (bF [32] [3,10,17,39,43,47,51])
def E3:=bL Tryz.f107 (bF [27] [3,10,34])
def E4:=bL Tryz.f108 { bF [55] [3,5,6,7,11,15,27,35,37,41,58]with shr:=[(7,6)] }
def E6:=bL Tryz.f109 { bF [59] [3,5,6,10,14,18,31,40,42,46,62]with shr:=[(7,6)] }
def E7:=bL Tryz.f110 (bF [38] [3,6,12,25,30])
def E8:=bL Tryz.f111 (bF [46] [3,15,26,53,57])
def po:=bL Tryz.f112 { bF [78] [3,7,8,9,13,19,27,32,52,58,60,64,69,71,90,91,95,96,103]with shr:=[(13,7)] }
def E9:=bL Tryz.f113 (bF [47] [3,6,13,27,33,39])
def Fc:=bL Tryz.f114 (bF [41] [3,6,7,13,27,30,33,34])
def Fe:=bL Tryz.f115 (bF [77] [3,7,8,14,22,45,47,51,53,58,61,65,69])
def Ff:=bL Tryz.f116 (bF [] [3,10])
def Fg:=bL Tryz.f117 (bF [] [3,10])
def Fy:=bL Tryz.f118 (bF [28] [3,11])
def Fh:=bL Tryz.f119 (bF [] [3,10])
def DC:=bL Tryz.f120 {}
def ME:js:={ bF [14,21] []with shr:=[(5,3)] }
def Hk:=cN Tryz.f121 ME [0]
def CS:=di Tryz.f121 ME Hk
def CR:=bL Tryz.f122 (bF [15] [])
def CF:=cN Tryz.f123 (bF [41] []) [0]
def CG:=di Tryz.f123 (bF [41] []) CF
def Dt:=bL Tryz.f124 {}
def MF:js:={ bF [14,21] []with shr:=[(5,3)] }
def Rx:=cN Tryz.f125 MF [0]
def DA:=di Tryz.f125 MF Rx
def Dy:=bL Tryz.f126 {}
def MG:js:={ bF [14,21] []with shr:=[(5,3)] }
def RA:=cN Tryz.f127 MG [0]
def DB:=di Tryz.f127 MG RA
def Dz:=bL Tryz.f128 {}
def MH:js:={ bF [50] [3,6,11,20,23,35,44,45,52]with shr:=[(9,3)],fI:=[(3,0)] }
def yF:=cN Tryz.f129 MH [0] (q:=[((3,3),[0]),((3,5),[0])])
def jT:=di Tryz.f129 MH yF (q:=[((3,3),[0]),((3,5),[0])])
def DE:=bL Tryz.f131 {}
def CQ:=bL Tryz.f135 (bF [10,14] [1,5,8,12,16])
def Hh:=cN Tryz.f136 {} [0]
def CD:=di Tryz.f136 {} Hh
def ud:=bL Tryz.f137 (bF [22] [])
def CO:=bL Tryz.f138 {}
def CH:=bL Tryz.f139 {}
def CT:=bL Tryz.f140 (bF [] [9,36,39])
def MI:js:={ bF [8,10,14,16] []with shr:=[(5,2)] }
def wL:=cN Tryz.f144 MI [0]
def pk:=di Tryz.f144 MI wL
def DP:=bL Tryz.f145 {}
def MJ:js:={ bF [8,10,17] []with shr:=[(4,5)] }
def j2h:=cN Tryz.f146 MJ [0]
def c146:=di Tryz.f146 MJ j2h
def MK:js:={ bF [14,21] [7,16]with shr:=[(5,3)] }
def SK:=cN Tryz.f147 MK [0]
def D0:=di Tryz.f147 MK SK
def DZ:=bL Tryz.f148 (bF [] [1,4])
def ML:js:=bF [8,10,17] []
def RE:=cN Tryz.f149 ML [0]
def DF:=di Tryz.f149 ML RE
def DR:=bL Tryz.f150 {}
def DN:=bL Tryz.f151 {}
def E1:=bL Tryz.f152 (bF [] [3,9,13,70,86,90,94,16,48])
def Fj:=bL Tryz.f153 (bF [] [2,3,8,10,16,18,23,47,51,56,60,72,76,80,84,89,93,97,109,29,34,110])
def Fi:=bL Tryz.f154 (bF [] [2,3,8,10,16,18,23,29,31,38,40,43])
def MN:js:=bF [131] [2,3,8,12,14,20,22,27,38,40,46,48,56,57,62,70,76,83,88,94,100,111,114,118,119,125,130,31,133]
def TE:=cN Tryz.f155 MN [0]
def Fm:=di Tryz.f155 MN TE
def MO:js:=bF [] [2,8,14]
def Sb:=cN Tryz.f156 MO [0]
def DL:=di Tryz.f156 MO Sb
def DH:=bL Tryz.f157 (bF [] [2,3,6,7,9,15])
def MP:js:=bF [44] [2,3,7,10,16,21,23,27,29,33,35,39,41]
def R4:=cN Tryz.f158 MP [0]
def DI:=di Tryz.f158 MP R4
def D1:=bL Tryz.f159 (bF [] [2,4])
def MQ:js:={ bF [17,22] [7,15,18]with shr:=[(5,2)] }
def SE:=cN Tryz.f160 MQ [0]
def DW:=di Tryz.f160 MQ SE
def DT:=bL Tryz.f161 (bF [] [2,3,6,7,9,15])
def DV:=bL Tryz.f162 (bF [] [2,5])
def MR:js:=bF [] [2,3,7,10,17,19,23,25,28,37,44]
def SA:=cN Tryz.f163 MR [0]
def DU:=di Tryz.f163 MR SA
def MS:js:={ bF [14,21] [7,16]with shr:=[(5,3)] }
def SH:=cN Tryz.f164 MS [0]
def DY:=di Tryz.f164 MS SH
def DX:=bL Tryz.f165 (bF [] [1,4])
def DQ:=bL Tryz.f166 {}
def MT:js:={ bF [14,21] [7,16]with shr:=[(5,3)] }
def Q6:=cN Tryz.f167 MT [0]
def C7:=di Tryz.f167 MT Q6
def C6:=bL Tryz.f168 (bF [] [1,4])
def Ec:=bL Tryz.f169 (bF [] [3,7])
def Ed:=bL Tryz.f170 (bF [] [3,7])
def EG:=bL Tryz.f171 (bF [] [2,5])
def pn:=bL Tryz.f172 { shr:=[(1,2)] }
def uJ:=bL Tryz.f173 (bF [] [5])
def mg:=bL Tryz.f174 { shr:=[(1,6)] }
def MU:js:={ bF [17,22] [7,15,18]with shr:=[(5,2)] }
def Te:=cN Tryz.f175 MU [0]
def EJ:=di Tryz.f175 MU Te
def EI:=bL Tryz.f176 { bF [] [2,5]with shr:=[(1,2)] }
def EK:=bL Tryz.f177 (bF [] [4,18])
def EL:=bL Tryz.f178 (bF [] [2,5])
def uy:=bL Tryz.f179 {}
def uD:=bL Tryz.f180 {}
def EN:=bL Tryz.f181 (bF [] [4,18])
def Eo:=bL Tryz.f182 { bF [19] []with gH:=[10],shr:=[(3,4)] }
def ES:=bL Tryz.f183 {}
def Ef:=bL Tryz.f184 (bF [] [3,7])
def Ek:=bL Tryz.f185 (bF [] [1,4,7])
def Ee:=bL Tryz.f186 (bF [] [3,7])
def EH:=bL Tryz.f187 (bF [] [2,5])
def Ep:=bL Tryz.f188 { bF [19] []with gH:=[10],shr:=[(3,4)] }
def EC:=bL Tryz.f189 {}
def EP:=bL Tryz.f190 (bF [] [2,5])
def MV:js:={ bF [8,10,17] []with shr:=[(4,5)] }
def Tp:=cN Tryz.f191 MV [0]
def EQ:=di Tryz.f191 MV Tp
def uw:=bL Tryz.f192 { bF [19] []with gH:=[10],shr:=[(3,4)] }
def uH:=bL Tryz.f193 {}
def ER:=bL Tryz.f194 (bF [] [4,18])
def EO:=bL Tryz.f195 (bF [] [2,5])
def ET:=bL Tryz.f196 {}
def Ej:=bL Tryz.f197 (bF [] [3,7])
def DS:=bL Tryz.f198 (bF [] [2,3,6,7,9])
def Ez:=bL Tryz.f199 {}
def EA:=bL Tryz.f200 {}
def EB:=bL Tryz.f201 {}
def Eu:=bL Tryz.f202 {}
def Ev:=bL Tryz.f203 {}
def kW:=bL Tryz.f204 { bF [12] [2,3,6,7,8,13,17,20,21,22,26,27,31,32]with shr:=[(2,2)] }
def Ew:=bL Tryz.f205 {}
def Ey:=bL Tryz.f206 {}
def MW:js:={ bF [14,21] []with shr:=[(5,3)] }
def QE:=cN Tryz.f210 MW [0]
def CP:=di Tryz.f210 MW QE
def MX:js:={ bF [16] []with shr:=[(36,1),(37,1),(38,0),(39,1),(39,3),(40,0),(40,3),(41,0)] }
def jyk:=cN Tryz.f211 MX [0]
def c211:=di Tryz.f211 MX jyk
def j24:=cN Tryz.f212 (bF [94] []) [0]
def CA:=di Tryz.f212 (bF [94] []) j24
def CN:=bL Tryz.f213 {}
def MY:js:=bF [22,32,43,47] [3,20,30,33,40,44]
def Ts:=cN Tryz.f217 MY [0]
def EX:=di Tryz.f217 MY Ts
def MZ:js:=bF [22,26,35,39] [3,20,23,36]
def Tw:=cN Tryz.f218 MZ [0]
def EY:=di Tryz.f218 MZ Tw
def EV:=bL Tryz.f219 { bF [] [5,15]with gH:=[10] }
def EU:=bL Tryz.f220 { bF [] [5,15]with gH:=[10] }
def M0:js:=bF [] [3,5,11,15,19,21,27,29,35,37,41,44,45,50,58,69,71,77,81,91,96]
def TB:=cN Tryz.f221 M0 [0] (q:=[((1,12),[0]),((1,13),[0])])
def Fk:=di Tryz.f221 M0 TB (q:=[((1,12),[0]),((1,13),[0])])
def Fl:=bL Tryz.f222 (bF [] [3,5,12,16,18,24,26,33,46,53,62,69]) (q:=[((1,12),[0]),((1,13),[0])])
def DJ:=bL Tryz.f223 (bF [] [2,3,6,7,9])
def M1:js:=bF [] [2,3,7,9,10,11,14,15,18,19,25,31,32,34]
def Sh:=cN Tryz.f224 M1 [0]
def DM:=di Tryz.f224 M1 Sh
def EW:=bL Tryz.f225 { bF [] [5,15]with gH:=[10] }
def D3:=bL Tryz.f226 {}
def D5:=bL Tryz.f227 {}
def M2:js:={ bF [8,10,17] []with shr:=[(4,5)] }
def rO:=cN Tryz.f228 M2 [0]
def mf:=di Tryz.f228 M2 rO
def uz:=bL Tryz.f229 { shr:=[(0,4)] }
def Er:=bL Tryz.f230 { bF [19] []with gH:=[10],shr:=[(3,4)] }
def ED:=bL Tryz.f231 {}
def Eg:=bL Tryz.f232 (bF [] [3,7])
def M3:js:={ bF [8,10,17] []with shr:=[(4,5)] }
def EM:=cN Tryz.f233 M3 [0]
def ux:=di Tryz.f233 M3 EM
def Es:=bL Tryz.f234 { bF [19] []with gH:=[10],shr:=[(3,4)] }
def EE:=bL Tryz.f235 {}
def Eh:=bL Tryz.f236 (bF [] [3,7])
def D7:=bL Tryz.f237 {}
def D8:=bL Tryz.f238 {}
def D9:=bL Tryz.f239 {}
def D6:=bL Tryz.f240 {}
def Et:=bL Tryz.f241 { bF [19] []with gH:=[10],shr:=[(3,4)] }
def EF:=bL Tryz.f242 {}
def Ei:=bL Tryz.f243 (bF [] [3,7])
def Ea:=bL Tryz.f244 {}
def Fx:=bL Tryz.f245 (bF [] [2,3])
def mr:=bL Tryz.f246 { bF [] [2,3,5,6,9,10,14,16,20,21]with shr:=[(2,2),(6,5)] }
def c256:=bL Tryz.f256 {}
def M4:js:={ bF [20] []with shr:=[(4,2)] }
def CL:=cN Tryz.f260 M4 [0]
def CM:=di Tryz.f260 M4 CL
def M5:js:=bF [30,36,42] []
def Mb:=cN Tryz.f262 M5 [0]
def E0:=di Tryz.f262 M5 Mb
def M6:js:=bF [] [2,3,5,7,8,12,17,18,20,27]
def R7:=cN Tryz.f263 M6 [0]
def DK:=di Tryz.f263 M6 R7
def Eb:=bL Tryz.f264 {}
def M7:js:={ bF [] [5,18,23]with shr:=[(3,11)] }
def Md:=cN Tryz.f265 M7 [0]
def Fu:=di Tryz.f265 M7 Md
def Fp:=bL Tryz.f266 (bF [] [2,6,9])
def M8:js:=bF [39] [3,4,11,17,18,20,33]
def RV:=cN Tryz.f277 M8 [0]
def DG:=di Tryz.f277 M8 RV
end
end Go.Z
