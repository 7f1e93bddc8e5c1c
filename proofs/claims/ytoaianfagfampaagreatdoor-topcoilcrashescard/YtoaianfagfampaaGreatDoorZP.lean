/- The compiled functions are those of the given program. -/
import Derived.Test.YtoaianfagfampaaGreatDoorZC
set_option linter.all false
set_option maxRecDepth 100000
noncomputable section
open Option renaming some->I,none->Eb
namespace Go.Z
open Go Go.Abs Go.Proofs
namespace Hc
def vw:aQ->List (List bT×ak Nat)
 | .region _ l k=>[(l,k)]| .seq a b=>vw a++vw b| .cond _ a b=>vw a++vw b| .block _ a=>vw a| .loop a=>vw a| .rangeFunc _ _ a b=>vw a++vw b| .grow _=>[([],Eb)]|_=>[]
def ds (p:cF->Option Nat):List bT->List (Nat×Nat)
 | []=>[]
 |o::l=>match o.dst,p o.op with
  |some d,I n=>(d,n)::ds p l|_,_=>ds p l
def ps (p:cF->Bool)(k:Nat):Nat->List bT->List (Nat×Nat)
 |_,[]=>[]|i,o::l=>bif p o.op then(k,i)::ps p k (i+1) l else ps p k (i+1) l
def nm:Nat->List (List bT×ak Nat)->List (Nat×List bT×ak Nat)
 |_,[]=>[]|k,x::l=>(k,x)::nm (k+1) l
def tk:cF->Option Nat
 | .take _=>I 0| .cw ..=>I 0|_=>Eb
def vl:cF->Option Nat
 | .gC _=>I 0| .kN ..=>I 0| .eV ..=>I 0| .dq ..=>I 0|_=>Eb
def vc:cF->Option Nat
 | .gD ..=>I 0| .fL ..=>I 0|_=>Eb
def mu:cF->Option Nat
 | .append (I _) ..=>I 0| .b8 (I _) ..=>I 0|_=>Eb
def lo:cF->Option Nat
 | .cw o _=>o|_=>Eb
def sh:cF->Bool
 | .call .shr ..=>true|_=>false
def fz:cF->Bool
 | .call (.ft _) ..=>true|_=>false
end Hc
open Hc in
def hE (r:List (Nat×List bT×ak Nat)):jt:=
 let d:=fun p=>r.flatMap fun x=>ds p x.2.1
 { takes:=(d tk).map (·.1),fZ:=(d mu).map (·.1),vA:=d lo,shr:=r.flatMap fun x=>ps sh x.1 0 x.2.1,ft:=r.flatMap fun x=>ps fz x.1 0 x.2.1,keep:=r.filterMap fun x=>x.2.2.map fun k=>(x.1,k),vl:=(d vl).map (·.1),vec:=(d vc).map (·.1) }
def hC (f:iC):jt:=hE (Hc.nm 0 (Hc.vw f.body))
def hD (f:iC)(l:List Nat):jt:=hE (l.zip (Hc.vw f.body))
def Is (k:Nat)(f:iC):Prop:=∃fn h,Tryz.prog.funcs[k]?=I fn/\xy Tryz.prog h fn=I f
theorem zD {k:Nat}{f:iC}(h:jt)(e:Tryz.prog.funcs[k]?.bind (xy Tryz.prog h)=some f:=by kernel_rfl):Is k f:=by
 cases hf:Tryz.prog.funcs[k]? with
 |none=>rw[hf]at e;cases e|some fn=>rw[hf]at e;exact⟨fn,h,hf,e⟩
theorem zA {k:Nat}{f:iC}(e:Tryz.prog.funcs[k]?.bind (xy Tryz.prog (hC f))=I f:=by kernel_rfl):Is k f:=zD (hC f) e
theorem zB {k:Nat}{f:iC}(l:List Nat)(e:Tryz.prog.funcs[k]?.bind (xy Tryz.prog (hD f l))=I f:=by kernel_rfl):Is k f:=zD (hD f l) e
theorem zo0:zt0.All Is:=⟨⟨zB [0,1,2,3,4,5,6,7,8,9,10,11,12,13,14,15,16,17,18,19,20,21,22,23,24,25,26,27,28,29,30,31,32,33,34,35,36,38,39,40,37,41,42,43,44,45,46,47,48,49,50,51,52,53,54,55,56,57,58,59,60,61,62,63,64,65,66],⟨zB [0,1,2,3,4,6,7,8,9,11,12,10,5,13],zA⟩⟩,⟨zA,⟨zA,zA⟩⟩⟩
theorem zo1:zt1.All Is:=⟨⟨zA,⟨zA,zA⟩⟩,⟨⟨zA,zA⟩,⟨zA,zB [0,1,2,3,4,5,6,8,9,10,11,12,13,14,15,7,17,18,19,20,21,22,16,23,24]⟩⟩⟩
theorem zo2:zt2.All Is:=⟨⟨zA,⟨zA,zA⟩⟩,⟨zA,⟨zA,zA⟩⟩⟩
theorem zo3:zt3.All Is:=⟨⟨zA,⟨zD { hC rm with ex:=[((8,0),1002),((8,1),1003),((8,2),1000)] },zA⟩⟩,⟨⟨zD { hC eu with ex:=[((12,12),4000)] },zA⟩,⟨zA,zA⟩⟩⟩
theorem zo4:zt4.All Is:=⟨⟨zA,⟨zA,zA⟩⟩,⟨zA,⟨zA,zA⟩⟩⟩
theorem zo5:zt5.All Is:=⟨⟨zA,⟨zA,zA⟩⟩,⟨⟨zA,zA⟩,⟨zA,zA⟩⟩⟩
theorem zo6:zt6.All Is:=⟨⟨zA,⟨zA,zA⟩⟩,⟨⟨zB [0,1,2,3,4,5,6,7,8,9,11,12,10,13,14,16,17,15,18,19,20],zB [0,1,2,3,4,6,7,8,5,10,11,12,9,14,15,13,16,17,18]⟩,⟨zA,zA⟩⟩⟩
theorem zo7:zt7.All Is:=⟨⟨zA,⟨zA,zA⟩⟩,⟨⟨zA,zA⟩,⟨zA,zA⟩⟩⟩
theorem zo8:zt8.All Is:=⟨⟨zA,⟨zA,zA⟩⟩,⟨zA,⟨zA,zA⟩⟩⟩
theorem zo9:zt9.All Is:=⟨⟨zA,⟨zA,zA⟩⟩,⟨⟨zA,zA⟩,⟨zA,zA⟩⟩⟩
theorem zag:KI.All Is:=⟨⟨zA,⟨zA,zA⟩⟩,⟨⟨zA,zA⟩,⟨zA,zA⟩⟩⟩
theorem j6t:KJ.All Is:=⟨⟨zA,⟨zA,zA⟩⟩,⟨⟨zA,zA⟩,⟨zA,zA⟩⟩⟩
theorem j8z:KK.All Is:=⟨⟨zA,⟨zA,zA⟩⟩,⟨zA,⟨zA,zA⟩⟩⟩
theorem zba:KL.All Is:=⟨⟨zA,⟨zA,zA⟩⟩,⟨⟨zA,zA⟩,⟨zA,zA⟩⟩⟩
theorem j5o:KM.All Is:=⟨⟨zA,⟨zA,zA⟩⟩,⟨⟨zA,zA⟩,⟨zA,zA⟩⟩⟩
theorem zaw:KN.All Is:=⟨⟨zA,⟨zB [0,1,2,3,4,6,7,8,9,5,10],zB [0,1,2,13,14,5,16,7,18,9,12,21,22,11,24,15,20,3,4,17,6,19,8,23,10,25,26,27]⟩⟩,⟨⟨zB [0,1,2,3,4,5,11,12,7,10,15,9,17,18,13,14,21,16,6,19,8,22,20,23],zA⟩,⟨zB [0,1,2,3,4,5,9,7,11,10,13,14,12,16,17,18,19,20,21,15,23,22,8,26,27,24,29,28,25,32,33,34,30,31,6,35,36,37],zA⟩⟩⟩
theorem j7e:KO.All Is:=⟨⟨zA,⟨zA,zA⟩⟩,⟨zA,⟨zA,zA⟩⟩⟩
theorem j6n:KP.All Is:=⟨⟨zA,⟨zA,zA⟩⟩,⟨⟨zA,zA⟩,⟨zA,zA⟩⟩⟩
theorem j7s:KQ.All Is:=⟨⟨zA,⟨zA,zA⟩⟩,⟨⟨zA,zA⟩,⟨zA,zA⟩⟩⟩
theorem j55:KR.All Is:=⟨⟨zA,⟨zA,zA⟩⟩,⟨⟨zA,zA⟩,⟨zA,zA⟩⟩⟩
theorem za6:KS.All Is:=⟨⟨zA,⟨zA,zA⟩⟩,⟨zA,⟨zA,zA⟩⟩⟩
theorem j7w:KT.All Is:=⟨⟨zA,⟨zA,zA⟩⟩,⟨⟨zA,zA⟩,⟨zA,zA⟩⟩⟩
theorem za4:KU.All Is:=⟨⟨zA,⟨zA,zA⟩⟩,⟨⟨zA,zA⟩,⟨zA,zA⟩⟩⟩
theorem j8p:KW.All Is:=⟨⟨zA,⟨zA,zA⟩⟩,⟨⟨zA,zA⟩,⟨zA,zA⟩⟩⟩
theorem j5w:KX.All Is:=⟨⟨zA,⟨zA,zA⟩⟩,⟨zA,⟨zA,zA⟩⟩⟩
theorem j70:KY.All Is:=⟨⟨zA,⟨zB [0,1,2,4,5,3,6],zB [0,1,2,4,5,3,6]⟩⟩,⟨⟨zB [0,1,2,4,5,3,6],zB [0,1,2,3,4,6,5,7,9,8,10,11,12,13]⟩,⟨zB [0,1,2,3,4,6,7,5,8,9,10,11,12],zA⟩⟩⟩
theorem j8s:KZ.All Is:=⟨⟨zA,⟨zA,zA⟩⟩,⟨⟨zA,zA⟩,⟨zB [0,1,2,3,4,5,6,7,8,9,10,12,13,11,14],zA⟩⟩⟩
theorem j4v:K0.All Is:=⟨⟨zA,⟨zA,zA⟩⟩,⟨⟨zA,zA⟩,⟨zA,zA⟩⟩⟩
theorem j8x:K1.All Is:=⟨⟨zA,⟨zA,zA⟩⟩,⟨zA,⟨zA,zA⟩⟩⟩
theorem zaz:K3.All Is:=⟨⟨zA,⟨zA,zA⟩⟩,⟨⟨zA,zA⟩,⟨zA,zA⟩⟩⟩
theorem j9a:K4.All Is:=⟨⟨zA,⟨zA,zA⟩⟩,⟨⟨zA,zB [0,1,2,3,4,6,7,8,9,5,10,11,12,13]⟩,⟨zB [0,1,2,3,5,6,4,7],zB [0,1,2,3,4,6,5,7,8]⟩⟩⟩
theorem j8r:K5.All Is:=⟨⟨zA,⟨zA,zA⟩⟩,⟨⟨zA,zA⟩,⟨zB [0,1,2,3,5,4,6,7],zB [0,1,2,3,5,6,4,7,8]⟩⟩⟩
theorem all:tree.All Is:=⟨⟨⟨⟨⟨zo0,zo1⟩,⟨zo2,zo3⟩⟩,⟨⟨zo4,zo5⟩,⟨zo6,zo7⟩⟩⟩,⟨⟨⟨zo8,zo9⟩,⟨zag,j6t⟩⟩,⟨⟨j8z,zba⟩,⟨j5o,zaw⟩⟩⟩⟩,⟨⟨⟨⟨j7e,j6n⟩,⟨j7s,j55⟩⟩,⟨⟨za6,j7w⟩,⟨za4,j8p⟩⟩⟩,⟨⟨⟨j5w,j70⟩,⟨j8s,j4v⟩⟩,⟨⟨j8x,zaz⟩,⟨j9a,j8r⟩⟩⟩⟩⟩
theorem ok0:ct Tryz.prog (tree.prog fun _=>Eb) where
 fn:=fun k f hf=>bL.gk all hf
 mf:=by intro k f hf;simp[bL.prog]at hf
 mixed:=by kernel_rfl
end Go.Z
end
