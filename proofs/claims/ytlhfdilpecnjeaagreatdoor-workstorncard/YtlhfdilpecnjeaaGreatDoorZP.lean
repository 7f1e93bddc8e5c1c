/- The compiled functions are those of the given program. -/
import Derived.Test.YtlhfdilpecnjeaaGreatDoorZC
set_option linter.unusedVariables false
set_option linter.unusedSimpArgs false
set_option maxRecDepth 100000
noncomputable section
open Option renaming some->I,none->En
namespace Go.Z
open Go Go.Abs Go.Proofs
namespace Hc
def vU:aV->List (List bT×ak Nat)
 | .region _ l k=>[(l,k)]| .seq a b=>vU a++vU b| .cond _ a b=>vU a++vU b| .block _ a=>vU a| .loop a=>vU a| .rangeFunc _ _ a b=>vU a++vU b| .grow _=>[([],En)]|_=>[]
def ds (p:cG->Option Nat):List bT->List (Nat×Nat)
 | []=>[]
 |o::l=>match o.dst,p o.op with
  |some d,I n=>(d,n)::ds p l|_,_=>ds p l
def ps (p:cG->Bool)(k:Nat):Nat->List bT->List (Nat×Nat)
 |_,[]=>[]|i,o::l=>bif p o.op then(k,i)::ps p k (i+1) l else ps p k (i+1) l
def nm:Nat->List (List bT×ak Nat)->List (Nat×List bT×ak Nat)
 |_,[]=>[]|k,x::l=>(k,x)::nm (k+1) l
def tk:cG->Option Nat
 | .take _=>I 0| .cx ..=>I 0|_=>En
def vl:cG->Option Nat
 | .gH _=>I 0| .ly ..=>I 0| .eV ..=>I 0| .dm ..=>I 0|_=>En
def vc:cG->Option Nat
 | .gI ..=>I 0| .gd ..=>I 0|_=>En
def mu:cG->Option Nat
 | .append (I _) ..=>I 0| .b9 (I _) ..=>I 0|_=>En
def lo:cG->Option Nat
 | .cx o _=>o|_=>En
def sh:cG->Bool
 | .call .shr ..=>true|_=>false
def fz:cG->Bool
 | .call (.ft _) ..=>true|_=>false
end Hc
open Hc in
def hE (r:List (Nat×List bT×ak Nat)):jx:=
 let d:=fun p=>r.flatMap fun x=>ds p x.2.1
 { takes:=(d tk).map (·.1),gf:=(d mu).map (·.1),AE:=d lo,shr:=r.flatMap fun x=>ps sh x.1 0 x.2.1,ft:=r.flatMap fun x=>ps fz x.1 0 x.2.1,keep:=r.filterMap fun x=>x.2.2.map fun k=>(x.1,k),vl:=(d vl).map (·.1),vec:=(d vc).map (·.1) }
def hC (f:iH):jx:=hE (Hc.nm 0 (Hc.vU f.body))
def hD (f:iH)(l:List Nat):jx:=hE (l.zip (Hc.vU f.body))
def Is (k:Nat)(f:iH):Prop:=∃fn h,Tryz.prog.funcs[k]?=I fn/\xO Tryz.prog h fn=I f
theorem zD {k:Nat}{f:iH}(h:jx)(e:Tryz.prog.funcs[k]?.bind (xO Tryz.prog h)=some f:=by kernel_rfl):Is k f:=by
 cases hf:Tryz.prog.funcs[k]? with
 |none=>rw[hf]at e;cases e|some fn=>rw[hf]at e;exact⟨fn,h,hf,e⟩
theorem zA {k:Nat}{f:iH}(e:Tryz.prog.funcs[k]?.bind (xO Tryz.prog (hC f))=I f:=by kernel_rfl):Is k f:=zD (hC f) e
theorem zB {k:Nat}{f:iH}(l:List Nat)(e:Tryz.prog.funcs[k]?.bind (xO Tryz.prog (hD f l))=I f:=by kernel_rfl):Is k f:=zD (hD f l) e
theorem zo0:zt0.All Is:=⟨⟨zA,⟨zA,zA⟩⟩,⟨zA,⟨zA,zB [0,1,2,3,4,6,7,5,8]⟩⟩⟩
theorem zo1:zt1.All Is:=⟨⟨zA,⟨zA,zA⟩⟩,⟨⟨zA,zA⟩,⟨zA,zA⟩⟩⟩
theorem zo2:zt2.All Is:=⟨⟨zA,⟨zA,zA⟩⟩,⟨⟨zA,zB [0,1,2,3,4,6,7,5,8]⟩,⟨zA,zA⟩⟩⟩
theorem zo3:zt3.All Is:=⟨⟨zB [0,1,2,3,4,5,6,8,9,10,11,12,13,14,15,7,17,18,19,20,21,22,16,23,24],⟨zA,zA⟩⟩,⟨⟨zA,zA⟩,⟨zA,zA⟩⟩⟩
theorem zo4:zt4.All Is:=⟨⟨zD { hC rS with ex:=[((8,0),1002),((8,1),1003),((8,2),1000)] },⟨zA,zD { hC jU with ex:=[((12,12),4000)] }⟩⟩,⟨⟨zA,zB [0,1,2,3,4,6,7,5,8]⟩,⟨zA,zA⟩⟩⟩
theorem zo5:zt5.All Is:=⟨⟨zA,⟨zA,zA⟩⟩,⟨⟨zA,zB [0,1,2,3,4,6,7,8,9,11,12,10,5,13]⟩,⟨zA,zA⟩⟩⟩
theorem zo6:zt6.All Is:=⟨⟨zA,⟨zA,zA⟩⟩,⟨⟨zA,zA⟩,⟨zA,zA⟩⟩⟩
theorem zo7:zt7.All Is:=⟨⟨zA,⟨zA,zA⟩⟩,⟨⟨zA,zA⟩,⟨zA,zA⟩⟩⟩
theorem zo8:zt8.All Is:=⟨⟨zA,⟨zA,zB [0,1,2,3,4,5,6,7,8,9,11,12,10,13,14,16,17,15,18,19,20]⟩⟩,⟨zB [0,1,2,3,4,6,7,8,5,10,11,12,9,14,15,13,16,17,18],⟨zA,zB [0,1,2,3,4,6,7,8,9,5,10]⟩⟩⟩
theorem zo9:zt9.All Is:=⟨⟨zB [0,1,2,4,5,3,6],⟨zB [0,1,2,4,5,3,6],zB [0,1,2,4,5,3,6]⟩⟩,⟨⟨zB [0,1,2,3,4,6,5,7,8],zA⟩,⟨zA,zA⟩⟩⟩
theorem zi8:Lq.All Is:=⟨⟨zA,⟨zA,zA⟩⟩,⟨⟨zA,zA⟩,⟨zA,zA⟩⟩⟩
theorem zi3:Lr.All Is:=⟨⟨zA,⟨zA,zA⟩⟩,⟨⟨zA,zA⟩,⟨zA,zA⟩⟩⟩
theorem zel:Ls.All Is:=⟨⟨zA,⟨zA,zA⟩⟩,⟨⟨zA,zA⟩,⟨zA,zA⟩⟩⟩
theorem zjj:Lt.All Is:=⟨⟨zA,⟨zA,zA⟩⟩,⟨⟨zA,zA⟩,⟨zA,zA⟩⟩⟩
theorem ziu:Lu.All Is:=⟨⟨zA,⟨zA,zA⟩⟩,⟨⟨zA,zA⟩,⟨zA,zA⟩⟩⟩
theorem zfu:Lw.All Is:=⟨⟨zA,⟨zA,zA⟩⟩,⟨⟨zA,zA⟩,⟨zA,zA⟩⟩⟩
theorem zcf:Lx.All Is:=⟨⟨zA,⟨zA,zA⟩⟩,⟨zA,⟨zA,zA⟩⟩⟩
theorem zgr:Ly.All Is:=⟨⟨zA,⟨zA,zA⟩⟩,⟨⟨zA,zA⟩,⟨zA,zA⟩⟩⟩
theorem zg3:Lz.All Is:=⟨⟨zA,⟨zB [0,1,2,13,14,5,16,7,18,9,12,21,22,11,24,15,20,3,4,17,6,19,8,23,10,25,26,27],zB [0,1,2,3,4,5,11,12,7,10,15,9,17,18,13,14,21,16,6,19,8,22,20,23]⟩⟩,⟨⟨zA,zB [0,1,2,3,4,5,9,7,11,10,13,14,12,16,17,18,19,20,21,15,23,22,8,26,27,24,29,28,25,32,33,34,30,31,6,35,36,37]⟩,⟨zA,zB [0,1,2,3,5,6,4,7,8]⟩⟩⟩
theorem zkk:LA.All Is:=⟨⟨zA,⟨zA,zA⟩⟩,⟨⟨zA,zA⟩,⟨zA,zA⟩⟩⟩
theorem zdc:LB.All Is:=⟨⟨zA,⟨zA,zA⟩⟩,⟨⟨zA,zA⟩,⟨zA,zA⟩⟩⟩
theorem zew:LC.All Is:=⟨⟨zA,⟨zA,zA⟩⟩,⟨⟨zA,zA⟩,⟨zA,zA⟩⟩⟩
theorem zkc:LD.All Is:=⟨⟨zA,⟨zA,zA⟩⟩,⟨⟨zA,zA⟩,⟨zA,zA⟩⟩⟩
theorem ze2:LH.All Is:=⟨⟨zA,⟨zA,zA⟩⟩,⟨⟨zA,zA⟩,⟨zA,zA⟩⟩⟩
theorem zc2:LI.All Is:=⟨⟨zA,⟨zA,zA⟩⟩,⟨zA,⟨zA,zA⟩⟩⟩
theorem ze1:LJ.All Is:=⟨⟨zA,⟨zA,zA⟩⟩,⟨⟨zA,zA⟩,⟨zA,zA⟩⟩⟩
theorem zgv:LK.All Is:=⟨⟨zA,⟨zA,zA⟩⟩,⟨⟨zA,zB [0,1,2,3,4,6,5,7,9,8,10,11,12,13]⟩,⟨zB [0,1,2,3,4,6,7,5,8,9,10,11,12],zA⟩⟩⟩
theorem zd0:LL.All Is:=⟨⟨zA,⟨zA,zA⟩⟩,⟨⟨zA,zB [0,1,2,3,4,5,6,7,8,9,10,12,13,11,14]⟩,⟨zA,zA⟩⟩⟩
theorem zh0:LM.All Is:=⟨⟨zA,⟨zA,zA⟩⟩,⟨⟨zA,zA⟩,⟨zA,zA⟩⟩⟩
theorem zhi:LN.All Is:=⟨⟨zA,⟨zA,zA⟩⟩,⟨⟨zA,zA⟩,⟨zA,zA⟩⟩⟩
theorem zin:LP.All Is:=⟨⟨zA,⟨zA,zA⟩⟩,⟨⟨zA,zA⟩,⟨zA,zA⟩⟩⟩
theorem zi2:LS.All Is:=⟨⟨zA,⟨zB [0,1,2,3,4,6,7,8,9,5,10,11,12,13],zB [0,1,2,3,5,6,4,7]⟩⟩,⟨⟨zA,zA⟩,⟨zA,zB [0,1,2,3,5,4,6,7]⟩⟩⟩
theorem all:tree.All Is:=⟨⟨⟨⟨⟨zo0,zo1⟩,⟨zo2,zo3⟩⟩,⟨⟨zo4,zo5⟩,⟨zo6,zo7⟩⟩⟩,⟨⟨⟨zo8,zo9⟩,⟨zi8,zi3⟩⟩,⟨⟨zel,zjj⟩,⟨ziu,zfu⟩⟩⟩⟩,⟨⟨⟨⟨zcf,zgr⟩,⟨zg3,zkk⟩⟩,⟨⟨zdc,zew⟩,⟨zkc,ze2⟩⟩⟩,⟨⟨⟨zc2,ze1⟩,⟨zgv,zd0⟩⟩,⟨⟨zh0,zhi⟩,⟨zin,zi2⟩⟩⟩⟩⟩
theorem S2:bX Tryz.prog (tree.prog fun _=>En) where
 fn:=fun k f hf=>bL.gp all hf
 fM:=by intro k f hf;simp[bL.prog]at hf
 mixed:=by kernel_rfl
end Go.Z
end
