/- Functions of the program for the abstract machine, printed by a program. -/
import Derived.Test.YtlhfdilpecnjeaaGreatDoorAbsG
import Derived.Test.YtlhfdilpecnjeaaGreatDoorChecked
set_option linter.unusedVariables false
set_option linter.unusedSimpArgs false
set_option maxRecDepth 100000
set_option maxHeartbeats 4000000
namespace Go.Z
open Go Go.Abs Go.Proofs
@[irreducible] noncomputable def uB (n:Nat):UInt8:=UInt8.ofNat n
noncomputable def uV:Nat->AVal->AVal
 |f+1,.str s=>.str (s.map fun b=>uB b.toNat)
 |f+1,.list n z l=>.list n z (l.map (uV f))
 |f+1,.agg l=>.agg (l.map (uV f))
 |_,v=>v
noncomputable def uX:ju->ju
 | .const v=>.const (uV 5 v)
 |x=>x
noncomputable def uA:cG->cG
 | .move x=>.move (uX x)
 | .pick a b c=>.pick a (uX b) (uX c)
 | .alloc r l=>.alloc r (l.map (uV 5))
 | .build z l=>.build (z.map (uV 5)) (l.map fun x=>(x.1,x.2.1,uX x.2.2))
 | .buildSlice r s z l=>.buildSlice r s (z.map (uV 5)) (l.map fun x=>(x.1,uX x.2))
 | .gd r s v z l=>.gd r s v (z.map (uV 5)) (l.map fun x=>(x.1,uX x.2))
 | .ly n x=>.ly n (uX x)
 | .box r n x=>.box r n (uX x)
 | .store n a x=>.store n a (uX x)
 | .dm n s x=>.dm n s (uX x)
 | .bin o a b=>.bin o (uX a) (uX b)
 | .beq n a b=>.beq n (uX a) (uX b)
 | .eqs k n a b=>.eqs k n (uX a) (uX b)
 | .lookup k v o a b=>.lookup k (uV 5 v) o a (uX b)
 | .mapUpdate k a b c=>.mapUpdate k a (uX b) (uX c)
 | .append m s b x y=>.append m s b x (uX y)
 | .dI x a b=>.dI (uX x) a b
 | .dH x i=>.dH (uX x) i
 | .len n x=>.len n (uX x)
 | .b9 m s b z n c=>.b9 m s b (z.map (uV 5)) n c
 | .eW f a b=>.eW f (a.map uX) (b.map uX)
 | .call m f l=>.call m f (l.map uX)
 |a=>a
abbrev Qs:=List ((Nat×Nat)×List Nat)
noncomputable def uAl (q:Qs)(id i:Nat)(draw:Bool):ak Nat:=match draw with
 |true=>some (match q.find? fun x=>x.1 == (id,i)with
  |some x=>x.2
  |none=>[])
 |false=>none
noncomputable def uA0 (h:jx)(id i n:Nat)(o:Oper):cG:=(cS Tryz.prog h (S7 h id i) n o.dst o.op).getD .bad
noncomputable def uEq (b:BinOp):Bool:=match b with
 | .neq=>true
 |_=>false
noncomputable def uA1 (h:jx)(id i n:Nat)(o:Oper):cG:=match o.op with
 | .binOp b t x y _=>match Tryz.prog.underlying t with
  |some (.struct _)=>match su Tryz.prog 12 t,qq x,qq y with
   |some k,some a,some c=>.eqs k (uEq b) a c
   |_,_,_=>.bad
  |_=>uA0 h id i n o
 |_=>uA0 h id i n o
noncomputable def uRs (a:cG)(i:Nat)(rs:List (Nat×Nat)):List (Nat×Nat):=match a.makes with
 |true=>(i,rs.length)::rs
 |false=>rs
noncomputable def jz4 (q:Qs)(h:jx)(id:Nat)(ops:Array Oper)(draw:Bool):List Oper->Nat->List (Nat×Nat)->List bT×List (Nat×Nat)
 | [],_,rs=>([],rs)
 |o::os,i,rs=>match jz4 q h id ops draw os (i+1) (uRs (uA1 h id i rs.length o) i rs)with
  |(l,r)=>(⟨(uA1 h id i rs.length o).sw o.dst,uA (uA1 h id i rs.length o),(AH ops o.guard).getD none,uAl q id i draw⟩::l,r)
noncomputable def vT (q:Qs)(h:jx)(nt:Nat):Code->aV
 | .skip=>.skip
 | .label _=>.skip
 | .region id ops draw=>match draw,HF Tryz.prog nt ops with
  |false,some sz=>.grow sz
  |_,_=>let z:=jz4 q h id ops draw ops.toList 0 []
   .region z.2.length z.1 none
 | .seq a b=>.seq (vT q h nt a) (vT q h nt b)
 | .cond c a b=>.cond ((qq c).getD (.tmp 0)) (vT q h nt a) (vT q h nt b)
 | .block id b=>.block id (vT q h nt b)
 | .loop b=>.loop (vT q h nt b)
 | .scope b=>.seq (vT q h nt b) .skip
 | .rangeFunc f ps a b=>.rangeFunc ((qq f).getD (.tmp 0)) ps.toList (vT q h nt a) (vT q h nt b)
 | .exit id=>.exit id
 | .ret=>.ret
 |_=>.stuck
noncomputable def j53 (q:Qs)(h:jx)(f:Func):aV:=match f.body with
 |some c=>vT q h f.ntmps c
 |none=>.skip
noncomputable def uK {α:Type}(n:Nat)(k:Nat->α):α:=Nat.rec (k 0) (fun m _=>k (m+1)) n
noncomputable def uT (t:Nat):Nat:=Nat.shiftLeft 1 t
noncomputable def uY:ju->Nat
 | .tmp t=>uT t
 |_=>0
noncomputable def uS {α:Type}(f:α->Nat):List α->Nat
 | []=>0
 |x::l=>Nat.lor (f x) (uS f l)
noncomputable def uO:Option ju->Nat
 |some x=>uY x
 |_=>0
noncomputable def uU:cG->Nat
 | .move O=>uY O
 | .take O=>uT O
 | .pick O J a2=>Nat.lor (Nat.lor (uY O) (uY J)) (uY a2)
 | .box _ _ a2=>uY a2
 | .ly _ J=>uY J
 | .dm _ J a2=>Nat.lor (uT J) (uY a2)
 | .build _ J=>uS (fun x=>uY x.2.2) J
 | .buildSlice _ _ _ a3=>uS (fun x=>uY x.2) a3
 | .load _ _ a2=>uY a2
 | .eV _ _ a2=>uY a2
 | .cx _ J=>uY J
 | .store _ J a2=>Nat.lor (uY J) (uY a2)
 | .nilCheck O=>uY O
 | .bin _ J a2=>Nat.lor (uY J) (uY a2)
 | .eqs _ _ a2 a3=>Nat.lor (uY a2) (uY a3)
 | .beq _ J a2=>Nat.lor (uY J) (uY a2)
 | .fD _ _ a2=>uY a2
 | .un _ J=>uY J
 | .conv _ J=>uY J
 | .eG O=>uY O
 | .ew O=>uY O
 | .field _ _ _ a3=>uY a3
 | .dH O J=>Nat.lor (uY O) (uY J)
 | .fieldAddr _ _ _ a3=>uY a3
 | .indexAddr _ J a2=>Nat.lor (uY J) (uY a2)
 | .ey _ _ _ a3 a4=>Nat.lor (uY a3) (uY a4)
 | .slice _ J a2 a3=>Nat.lor (Nat.lor (uY J) (uO a2)) (uO a3)
 | .dI O J a2=>Nat.lor (Nat.lor (uY O) (uO J)) (uO a2)
 | .eW _ J a2=>Nat.lor (uS uY J) (uS uY a2)
 | .lookup _ _ _ a3 a4=>Nat.lor (uY a3) (uY a4)
 | .mapUpdate _ J a2 a3=>Nat.lor (Nat.lor (uY J) (uY a2)) (uY a3)
 | .b9 _ _ _ _ a4 a5=>Nat.lor (uY a4) (uY a5)
 | .len _ J=>uY J
 | .append _ _ _ a3 a4=>Nat.lor (uY a3) (uY a4)
 | .gI _ _ _ a3 a4=>Nat.lor (uY a3) (uY a4)
 | .gd _ _ _ _ a4=>uS (fun x=>uY x.2) a4
 | .copy _ J a2=>Nat.lor (uY J) (uY a2)
 | .mx O=>uS uY O
 | .mn O=>uS uY O
 | .extract O _=>uY O
 | .call _ J a2=>Nat.lor (uY J) (uS uY a2)
 | .dB _ J=>uY J
 | .fE O=>uY O
 |_=>0
noncomputable def uR (o:bT)(r:Nat):Nat:=Nat.lor (Nat.lor (uU o.op) (match o.guard with
 |some g=>uT g.1
 |_=>0)) (match o.dst with
 |some d=>Nat.sub r (Nat.land r (uT d))
 |_=>r)
noncomputable def uI:List bT->Nat->Nat
 | [],o=>o
 |x::l,o=>uK (uI l o) (uR x)
noncomputable def uN:Nat->Nat->List Nat->List Nat
 |0,_,l=>l
 |n+1,m,l=>bif Nat.beq m 0 then l else uK (Nat.log2 m) fun t=>uK (Nat.sub m (uT t)) fun r=>uN n r (t::l)
noncomputable def uE (i:Nat):List (Nat×Nat)->Nat
 | []=>0
 |x::l=>bif Nat.beq x.1 i then x.2 else uE i l
noncomputable def uW (r:Nat):aV->Nat->List (Nat×Nat)->List (Option aV)->List (List (Option aV))->(aV->Nat->List (Option aV)->aV)->aV
 | .seq a b,o,e,l,s,k=>uW r b o e l s fun b x l=>uW r a x e l s fun a y l=>k (.seq a b) y l
 | .region n p _,o,_,l,_,k=>uK (uI p o) fun x=>k (.region n p (some (uN 999 o []))) x l
 | .cond c a b,o,e,l,s,k=>uW r b o e l s fun b y l=>uW r a o e l s fun a x l=>uK (Nat.lor (uY c) (Nat.lor x y)) fun z=>k (.cond c a b) z l
 | .block i a,o,e,l,s,k=>uW r a o ((i,o)::e) l s fun a x l=>k (.block i a) x l
 | .loop a,_,e,l,s,k=>uW r a 0 e [] [] fun _ x _=>match l with
  |none::_=>uW r a x e (s.headD []) s.tail fun c _ _=>c
  |some b::t=>k (.loop b) x t
  | []=>k .skip x []
 | .rangeFunc f p a b,o,e,l,s,k=>uW r b o e l s fun b x l=>uW r a x e l s fun a y l=>uK (Nat.lor (Nat.lor o y) (uY f)) fun z=>k (.rangeFunc f p a b) z l
 | .exit i,_,e,l,_,k=>uK (uE i e) fun z=>k (.exit i) z l
 | .ret,_,_,l,_,k=>k .ret r l
 |c,o,_,l,_,k=>k c o l
noncomputable def bH (t:List Nat)(v:List Nat):jx:={ takes:=t,vl:=v }
noncomputable def uM:List nN->Nat
 | []=>0
 | .tmp t::l=>Nat.lor (uT t) (uM l)
 | .cell t _ _::l=>Nat.lor (uT t) (uM l)
noncomputable def uG (q:Qs)(h:jx)(f:Func)(s:List (List (Option aV))):aV:=uK (uM ((vX Tryz.prog f.results.toList).getD [])) fun r=>uW r (j53 q h f) r [] (s.headD []) s.tail fun c _ _=>c
noncomputable def uF (q:Qs)(f:Func)(h:jx)(l:List aV):iH:=⟨f.ntmps,uG q h f [l.map some],(vX Tryz.prog f.results.toList).getD []⟩
noncomputable def uC (q:Qs)(f:Func)(h:jx)(p:List Nat)(l:List aV):aV:=uG q h f (p.map (fun n=>List.replicate n (some .skip)++[none])++[l.map some])
@[go_sem] noncomputable def bJ (f:Func)(h:jx)(q:Qs:=[]){c:iH}(_:uF q f h []=c:=by conv=>lhs;reduce;simp only[uB,UInt8.reduceOfNat,Int.ofNat_eq_natCast,Int.cast_ofNat_Int,Int.reduceNegSucc]):iH:=c
@[go_sem] noncomputable def dA (f:Func)(h:jx)(b0:aV)(q:Qs:=[]){c:aV->iH}(_:∀O,uF q f h [O]=c O:=by intros;conv=>lhs;reduce;simp only[uB,UInt8.reduceOfNat,Int.ofNat_eq_natCast,Int.cast_ofNat_Int,Int.reduceNegSucc]):iH:=c b0
@[go_sem] noncomputable def SP (f:Func)(h:jx)(b0 b1:aV)(q:Qs:=[]){c:aV->aV->iH}(_:∀O J,uF q f h [J,O]=c O J:=by intros;conv=>lhs;reduce;simp only[uB,UInt8.reduceOfNat,Int.ofNat_eq_natCast,Int.cast_ofNat_Int,Int.reduceNegSucc]):iH:=c b0 b1
@[go_sem] noncomputable def pF4 (f:Func)(h:jx)(b0 b1 b2 b3:aV)(q:Qs:=[]){c:aV->aV->aV->aV->iH}(_:∀O J a2 a3,uF q f h [a3,a2,J,O]=c O J a2 a3:=by intros;conv=>lhs;reduce;simp only[uB,UInt8.reduceOfNat,Int.ofNat_eq_natCast,Int.cast_ofNat_Int,Int.reduceNegSucc]):iH:=c b0 b1 b2 b3
@[go_sem] noncomputable def cV (f:Func)(h:jx)(p:List Nat)(q:Qs:=[]){c:aV}(_:uC q f h p []=c:=by conv=>lhs;reduce;simp only[uB,UInt8.reduceOfNat,Int.ofNat_eq_natCast,Int.cast_ofNat_Int,Int.reduceNegSucc]):aV:=c
@[go_sem] noncomputable def pC1 (f:Func)(h:jx)(p:List Nat)(b0:aV)(q:Qs:=[]){c:aV->aV}(_:∀O,uC q f h p [O]=c O:=by intros;conv=>lhs;reduce;simp only[uB,UInt8.reduceOfNat,Int.ofNat_eq_natCast,Int.cast_ofNat_Int,Int.reduceNegSucc]):aV:=c b0
noncomputable section
def h4:jx:={ bH [73] [3,8,23,59,80,158,198,204,248]with shr:=[(23,3),(24,1),(30,3),(37,2),(38,2),(42,1)] }
def xp:=cV Tryz.f4 h4 [3]
def C6:=cV Tryz.f4 h4 [2]
def K7:=cV Tryz.f4 h4 [1]
def K8:=cV Tryz.f4 h4 [0]
def c4:=pF4 Tryz.f4 h4 xp C6 K7 K8
def c5:=bJ Tryz.f5 { shr:=[(1,0),(2,38),(4,1),(7,1)] }
def c7:=bJ Tryz.f7 { bH [21,30] [7,31]with shr:=[(4,1)] }
def c8:=bJ Tryz.f8 (bH [17,18] [6,16])
def oC:=bJ Tryz.f10 { bH [30,85,90,98] [8,10,12,43,86,94,100]with shr:=[(9,3),(20,4)],ft:=[(7,0),(10,0)] } (q:=[((7,4),[0]),((7,5),[0]),((7,6),[0]),((7,7),[0]),((7,9),[0]),((7,10),[0]),((10,4),[0]),((10,5),[0]),((10,6),[0]),((10,7),[0]),((10,9),[0]),((10,10),[0])])
def PL:=cV Tryz.f11 {} [0]
def YU:=dA Tryz.f11 {} PL
def c12:=bJ Tryz.f12 { shr:=[(3,5)] }
def KY:=bJ Tryz.f13 { shr:=[(3,5)] }
def c15:=bJ Tryz.f15 (bH [] [5])
def CD:=bJ Tryz.f16 (bH [31,39] [3,18,21,33])
def pR:jx:=bH [29,30,40,41,42,43,52,53] [10,44]
def zS:=cV Tryz.f17 pR [0]
def YI:=dA Tryz.f17 pR zS
def Zz:=bJ Tryz.f18 (bH [] [1,3,6])
def c19:=bJ Tryz.f19 {}
def c20:=bJ Tryz.f20 { shr:=[(1,0)] }
def pe:jx:={ bH [] [6,20,26,31]with shr:=[(6,3)] }
def j9m:=cV Tryz.f21 pe [0]
def c21:=dA Tryz.f21 pe j9m
def nz:jx:={ bH [35] [3,6,12,14,23,27,39,47,49,50,52,55]with shr:=[(13,3)] }
def j8w:=cV Tryz.f22 nz [0]
def c22:=dA Tryz.f22 nz j8w
def pf:jx:=bH [39,52,58] [6,13,41,54]
def j7a:=cV Tryz.f23 pf [0]
def c23:=dA Tryz.f23 pf j7a
def QZ:=cV Tryz.f24 {} [0]
def c24:=dA Tryz.f24 {} QZ
def j6z:=cV Tryz.f25 (bH [27] []) [1]
def j60:=cV Tryz.f25 (bH [27] []) [0]
def c25:=SP Tryz.f25 (bH [27] []) j6z j60
def ot:jx:={ bH [33] [7,21,25]with shr:=[(3,0),(9,2)] }
def C4:=cV Tryz.f27 ot [0]
def Ah:=dA Tryz.f27 ot C4
def Hu:=cV Tryz.f28 (bH [88] []) [0]
def c28:=dA Tryz.f28 (bH [88] []) Hu
def YM:=bJ Tryz.f34 {}
def Q6:=cV Tryz.f35 (bH [13] []) [0]
def c35:=dA Tryz.f35 (bH [13] []) Q6
def c36:=bJ Tryz.f36 (bH [6] [])
def c37:=bJ Tryz.f37 (bH [9] [])
def hH:=bJ Tryz.f38 { bH [56,65] [33,4,9,15,34,38,44,58,59]with shr:=[(6,3),(8,4),(11,4)] }
def c39:=bJ Tryz.f39 (bH [17] [])
def rS:=bJ Tryz.f40 { bH [] [6,20,30]with shr:=[(7,5)],ft:=[(1,0)],ex:=[((8,0),1002),((8,1),1003),((8,2),1000)] } (q:=[((1,4),[0]),((1,5),[0]),((1,6),[0]),((1,7),[0]),((1,9),[0]),((1,10),[0]),((5,11),[0]),((8,0),[1002]),((8,1),[1003]),((8,2),[1000])])
def c41:=bJ Tryz.f41 { bH [42] [1,3,5,12,17,20,24,29,31,34,44,47,54]with ft:=[(1,0)] } (q:=[((1,3),[0]),((1,4),[0]),((1,5),[0]),((1,6),[0]),((1,8),[0]),((1,9),[0])])
def jU:=bJ Tryz.f42 { bH [49,78] [3,7,10,24,72,85,92,104]with shr:=[(9,1)],vec:=[87,94,106],ex:=[((12,12),4000)] } (q:=[((12,12),[4000]),((12,15),[0]),((12,16),[1,0]),((12,17),[1,0]),((12,18),[1,0]),((12,19),[1,0]),((12,20),[1,0]),((12,21),[1,0]),((13,8),[0]),((13,9),[0]),((13,10),[0])])
def c43:=bJ Tryz.f43 {}
def PI:=cV Tryz.f44 {} [0]
def YT:=dA Tryz.f44 {} PI
def pD:jx:={ bH [14,21] [7,16]with shr:=[(5,3)] }
def j86:=cV Tryz.f45 pD [0]
def c45:=dA Tryz.f45 pD j86
def c46:=bJ Tryz.f46 {}
def h47:jx:={ shr:=[(19,1),(20,3),(24,1),(25,1),(27,0)] }
def j8g:=cV Tryz.f47 h47 [1]
def j5f:=cV Tryz.f47 h47 [0]
def c47:=SP Tryz.f47 h47 j8g j5f
def GV:jx:={ bH [14,21] [7,16]with shr:=[(5,3)] }
def Ae:=cV Tryz.f48 GV [0]
def KX:=dA Tryz.f48 GV Ae
def KC:=bJ Tryz.f49 (bH [] [1,4])
def KI:jx:=bH [44] [1,7,11,15,23,30,38]
def GQ:=cV Tryz.f50 KI [1]
def GU:=cV Tryz.f50 KI [0]
def YS:=SP Tryz.f50 KI GQ GU
def Rz:=cV Tryz.f51 {} [0,0]
def RC:=pC1 Tryz.f51 {} [0] Rz
def ol:=dA Tryz.f51 {} RC
def YA:=bJ Tryz.f52 {}
def qH:=bJ Tryz.f53 (bH [60] [7,50,61])
def Zr:=bJ Tryz.f55 { vec:=[2] }
def c56:=bJ Tryz.f56 { bH [17,18] []with shr:=[(1,1),(4,0)] }
def c57:=bJ Tryz.f57 {}
def c58:=bJ Tryz.f58 (bH [] [2,3,6])
def c59:=bJ Tryz.f59 { shr:=[(1,2)] }
def c60:=bJ Tryz.f60 { bH [] [2,5,7]with shr:=[(1,6)] }
def c61:=bJ Tryz.f61 (bH [] [1,4])
def c62:=bJ Tryz.f62 {}
def c63:=bJ Tryz.f63 {}
def pE:jx:={ bH [17,22] [7,15,18]with shr:=[(5,2)] }
def CF:=cV Tryz.f64 pE [0]
def KL:=dA Tryz.f64 pE CF
def h65:jx:={ bH [14,21] [7,16]with shr:=[(5,3)] }
def Sj:=cV Tryz.f65 h65 [0]
def c65:=dA Tryz.f65 h65 Sj
def c66:=bJ Tryz.f66 (bH [] [2,5,9])
def c67:=bJ Tryz.f67 (bH [] [1,4])
def c68:=bJ Tryz.f68 {}
def c69:=bJ Tryz.f69 (bH [] [2,3,6])
def c70:=bJ Tryz.f70 {}
def h73:jx:=bH [] [1,3,7,10,13,16,19,23,26,31,36,44,49,55]
def Sp:=cV Tryz.f73 h73 [1]
def Sv:=cV Tryz.f73 h73 [0]
def c73:=SP Tryz.f73 h73 Sp Sv
def c74:=bJ Tryz.f74 (bH [60] [2,3,9,13,15,16,18,30,31,40,41,49,50,20,21,55])
def c75:=bJ Tryz.f75 {}
def Q9:=cV Tryz.f78 {} [0]
def c78:=dA Tryz.f78 {} Q9
def h80:jx:=bH [21] [2,8,14]
def Rs:=cV Tryz.f80 h80 [0]
def c80:=dA Tryz.f80 h80 Rs
def h82:jx:=bH [21] [2,8,14]
def Rw:=cV Tryz.f82 h82 [0]
def c82:=dA Tryz.f82 h82 Rw
def h83:jx:=bH [21] [2,8,14]
def Ro:=cV Tryz.f83 h83 [0]
def c83:=dA Tryz.f83 h83 Ro
def h85:jx:=bH [26,35] [2,3,5,8,9,13,18,20,28]
def RR:=cV Tryz.f85 h85 [0]
def c85:=dA Tryz.f85 h85 RR
def GO:=cV Tryz.f86 (bH [28] []) [0]
def YK:=dA Tryz.f86 (bH [28] []) GO
def Ze:=bJ Tryz.f87 (bH [] [2,6,7])
def Zf:=bJ Tryz.f88 (bH [] [2,5])
def c89:=bJ Tryz.f89 (bH [] [2,3,6])
def Zg:=bJ Tryz.f90 (bH [] [2,5,7,8])
def c91:=bJ Tryz.f91 (bH [] [2,3,6,7])
def Zh:=bJ Tryz.f92 (bH [] [2,5])
def h93:jx:=bH [29] [2,7,9,16,21,26]
def Sm:=cV Tryz.f93 h93 [0]
def c93:=dA Tryz.f93 h93 Sm
def Zj:=bJ Tryz.f94 (bH [] [2,6,7])
def c95:=bJ Tryz.f95 (bH [] [2,3,6])
def c96:=bJ Tryz.f96 (bH [] [1,4])
def Zk:=bJ Tryz.f97 (bH [] [2,6])
def YV:=bJ Tryz.f98 (bH [] [1,4])
def Zl:=bJ Tryz.f99 (bH [] [2,6])
def CU:=bJ Tryz.f100 {}
def LU:jx:={ bH [17,22] [7,15,18]with shr:=[(5,2)] }
def SI:=cV Tryz.f101 LU [0]
def E9:=dA Tryz.f101 LU SI
def E8:=bJ Tryz.f102 (bH [] [1,4])
def CM:=bJ Tryz.f103 {}
def jF:=bJ Tryz.f104 (bH [] [3,10,16,22])
def Ed:=cV Tryz.f105 {} [0]
def Ee:=dA Tryz.f105 {} Ed
def DU:=bJ Tryz.f106 (bH [32] [3,10,17,39,43,47,51])
def DV:=bJ Tryz.f107 (bH [27] [3,10,34])
def DW:=bJ Tryz.f108 { bH [55] [3,5,6,7,11,15,27,35,37,41,58]with shr:=[(7,6)] }
def DX:=bJ Tryz.f109 { bH [59] [3,5,6,10,14,18,31,40,42,46,62]with shr:=[(7,6)] }
def DY:=bJ Tryz.f110 (bH [38] [3,6,12,25,30])
def DZ:=bJ Tryz.f111 (bH [46] [3,15,26,53,57])
def oF:=bJ Tryz.f112 { bH [78] [3,7,8,9,13,19,27,32,52,58,60,64,69,71,90,91,95,96,103]with shr:=[(13,7)] }
def D0:=bJ Tryz.f113 (bH [47] [3,6,13,27,33,39])
def D1:=bJ Tryz.f114 (bH [41] [3,6,7,13,27,30,33,34])
def D3:=bJ Tryz.f115 (bH [77] [3,7,8,14,22,45,47,51,53,58,61,65,69])
def D5:=bJ Tryz.f116 (bH [] [3,10])
def D6:=bJ Tryz.f117 (bH [] [3,10])
def Fi:=bJ Tryz.f118 (bH [28] [3,11])
def D7:=bJ Tryz.f119 (bH [] [3,10])
def Ej:=bJ Tryz.f120 {}
def LV:jx:={ bH [14,21] []with shr:=[(5,3)] }
def GM:=cV Tryz.f121 LV [0]
def Cy:=dA Tryz.f121 LV GM
def Cx:=bJ Tryz.f122 (bH [15] [])
def Cl:=cV Tryz.f123 (bH [41] []) [0]
def Cm:=dA Tryz.f123 (bH [41] []) Cl
def Ea:=bJ Tryz.f124 {}
def LW:jx:={ bH [14,21] []with shr:=[(5,3)] }
def Rc:=cV Tryz.f125 LW [0]
def Eh:=dA Tryz.f125 LW Rc
def Ef:=bJ Tryz.f126 {}
def LX:jx:={ bH [14,21] []with shr:=[(5,3)] }
def Rg:=cV Tryz.f127 LX [0]
def Ei:=dA Tryz.f127 LX Rg
def Eg:=bJ Tryz.f128 {}
def LY:jx:={ bH [50] [3,6,11,20,23,35,44,45,52]with shr:=[(9,3)],ft:=[(3,0)] }
def xE:=cV Tryz.f129 LY [0] (q:=[((3,3),[0]),((3,5),[0])])
def jK:=dA Tryz.f129 LY xE (q:=[((3,3),[0]),((3,5),[0])])
end
end Go.Z
