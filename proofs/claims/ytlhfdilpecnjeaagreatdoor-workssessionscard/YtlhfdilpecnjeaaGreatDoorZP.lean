/- The compiled functions are those of the given program. -/
import Derived.Test.YtlhfdilpecnjeaaGreatDoorZC
set_option linter.all false
set_option maxRecDepth 100000
noncomputable section
open Option renaming some->I,none->En
namespace Go.Z
open Go Go.Abs Go.Proofs
namespace Hc
def wP:bn->List (List bX×ak Nat)
 | .region _ l k=>[(l,k)]| .seq a b=>wP a++wP b| .cond _ a b=>wP a++wP b| .block _ a=>wP a| .loop a=>wP a| .rangeFunc _ _ a b=>wP a++wP b| .grow _=>[([],En)]|_=>[]
def ds (p:cI->Option Nat):List bX->List (Nat×Nat)
 | []=>[]
 |o::l=>match o.dst,p o.op with
  |some d,I n=>(d,n)::ds p l|_,_=>ds p l
def ps (p:cI->Bool)(k:Nat):Nat->List bX->List (Nat×Nat)
 |_,[]=>[]|i,o::l=>bif p o.op then(k,i)::ps p k (i+1) l else ps p k (i+1) l
def nm:Nat->List (List bX×ak Nat)->List (Nat×List bX×ak Nat)
 |_,[]=>[]|k,x::l=>(k,x)::nm (k+1) l
def tk:cI->Option Nat
 | .take _=>I 0| .cz ..=>I 0|_=>En
def vl:cI->Option Nat
 | .gY _=>I 0| .lF ..=>I 0| .fb ..=>I 0| .dv ..=>I 0|_=>En
def vc:cI->Option Nat
 | .gZ ..=>I 0| .gG ..=>I 0|_=>En
def mu:cI->Option Nat
 | .append (I _) ..=>I 0| .cj (I _) ..=>I 0|_=>En
def lo:cI->Option Nat
 | .cz o _=>o|_=>En
def sh:cI->Bool
 | .call .shr ..=>true|_=>false
def fz:cI->Bool
 | .call (.fI _) ..=>true|_=>false
end Hc
open Hc in
def hE (r:List (Nat×List bX×ak Nat)):js:=
 let d:=fun p=>r.flatMap fun x=>ds p x.2.1
 { takes:=(d tk).map (·.1),gH:=(d mu).map (·.1),wR:=d lo,shr:=r.flatMap fun x=>ps sh x.1 0 x.2.1,fI:=r.flatMap fun x=>ps fz x.1 0 x.2.1,keep:=r.filterMap fun x=>x.2.2.map fun k=>(x.1,k),vl:=(d vl).map (·.1),vec:=(d vc).map (·.1) }
def hC (f:jU):js:=hE (Hc.nm 0 (Hc.wP f.body))
def hD (f:jU)(l:List Nat):js:=hE (l.zip (Hc.wP f.body))
def Is (k:Nat)(f:jU):Prop:=∃fn h,Tryz.prog.funcs[k]?=I fn/\yN Tryz.prog h fn=I f
theorem zD {k:Nat}{f:jU}(h:js)(e:Tryz.prog.funcs[k]?.bind (yN Tryz.prog h)=some f:=by kernel_rfl):Is k f:=by
 cases hf:Tryz.prog.funcs[k]? with
 |none=>rw[hf]at e;cases e|some fn=>rw[hf]at e;exact⟨fn,h,hf,e⟩
theorem zA {k:Nat}{f:jU}(e:Tryz.prog.funcs[k]?.bind (yN Tryz.prog (hC f))=I f:=by kernel_rfl):Is k f:=zD (hC f) e
theorem zB {k:Nat}{f:jU}(l:List Nat)(e:Tryz.prog.funcs[k]?.bind (yN Tryz.prog (hD f l))=I f:=by kernel_rfl):Is k f:=zD (hD f l) e
theorem zo0:zt0.All Is:=⟨⟨zA,⟨zA,zB [0,1,2,3,4,5,6,8,9,10,11,12,13,14,7,15,16,17,18]⟩⟩,⟨⟨zA,zA⟩,⟨zA,zA⟩⟩⟩
theorem zo1:zt1.All Is:=⟨⟨zB [0,1,2,3,4,6,7,5,8],⟨zA,zA⟩⟩,⟨⟨zA,zA⟩,⟨zA,zA⟩⟩⟩
theorem zo2:zt2.All Is:=⟨⟨zA,⟨zA,zA⟩⟩,⟨⟨zB [0,1,2,3,4,6,7,5,8],zA⟩,⟨zA,zA⟩⟩⟩
theorem zo3:zt3.All Is:=⟨⟨⟨zB [0,1,2,3,4,5,6,8,9,10,11,12,13,14,15,7,17,18,19,20,21,22,16,23,24],zA⟩,⟨zB [0,1,2,3,4,6,7,5,8,9],zB [0,1,2,3,5,6,7,8,9,10,11,12,4,13,14,15,16,17,18,19,20,21,22,23,24,25,26,27,28,29,30,31,32,33,34,35,36]⟩⟩,⟨⟨zB [0,1,2,3,4,5,6,7,8,10,11,12,9,14,15,16,13,17,18],zA⟩,⟨zA,zA⟩⟩⟩
theorem zo4:zt4.All Is:=⟨⟨zA,⟨zA,zA⟩⟩,⟨⟨zA,zD { hC sF with ex:=[((8,0),1002),((8,1),1003),((8,2),1000)] }⟩,⟨zA,zD { hC kB with ex:=[((12,12),4000)] }⟩⟩⟩
theorem zo5:zt5.All Is:=⟨⟨zA,⟨zB [0,1,2,3,4,6,7,5,8],zA⟩⟩,⟨⟨zA,zA⟩,⟨zA,zA⟩⟩⟩
theorem zo6:zt6.All Is:=⟨⟨zA,⟨zA,zA⟩⟩,⟨⟨zA,zA⟩,⟨zA,zA⟩⟩⟩
theorem zo7:zt7.All Is:=⟨⟨⟨zA,zA⟩,⟨zA,zA⟩⟩,⟨⟨zA,zA⟩,⟨zA,zA⟩⟩⟩
theorem zo8:zt8.All Is:=⟨⟨zA,⟨zA,zA⟩⟩,⟨⟨zA,zB [0,1,2,4,5,3,6]⟩,⟨zB [0,1,2,3,4,5,7,8,6,9,10],zB [0,1,2,3,4,5,6,7,8,9,11,12,10,13,14,16,17,15,18,19,20]⟩⟩⟩
theorem zo9:zt9.All Is:=⟨⟨zB [0,1,2,3,4,6,7,8,5,10,11,12,9,14,15,13,16,17,18],⟨zA,zA⟩⟩,⟨⟨zB [0,1,2,3,5,4,6,7,8,10,9,11,12],zB [0,1,2,3,4,6,7,8,9,5,10]⟩,⟨zB [0,1,2,3,5,4,6,7],zB [0,1,2,4,5,3,6]⟩⟩⟩
theorem zgb:Me.All Is:=⟨⟨zB [0,1,2,3,5,4,6,7],⟨zB [0,1,2,4,5,3,6],zB [0,1,2,4,5,3,6]⟩⟩,⟨⟨zA,zB [0,1,2,3,4,6,5,7,8]⟩,⟨zA,zA⟩⟩⟩
theorem zgt:Mf.All Is:=⟨⟨⟨zA,zA⟩,⟨zA,zA⟩⟩,⟨⟨zA,zA⟩,⟨zA,zA⟩⟩⟩
theorem zen:Mg.All Is:=⟨⟨zA,⟨zA,zA⟩⟩,⟨⟨zA,zA⟩,⟨zA,zA⟩⟩⟩
theorem zjd:Mh.All Is:=⟨⟨zA,⟨zA,zA⟩⟩,⟨⟨zA,zA⟩,⟨zA,zA⟩⟩⟩
theorem zir:Mi.All Is:=⟨⟨zA,⟨zA,zA⟩⟩,⟨⟨zA,zA⟩,⟨zA,zA⟩⟩⟩
theorem zev:Mj.All Is:=⟨⟨⟨zA,zA⟩,⟨zA,zA⟩⟩,⟨⟨zA,zA⟩,⟨zA,zA⟩⟩⟩
theorem zfq:Ml.All Is:=⟨⟨zA,⟨zA,zA⟩⟩,⟨⟨zA,zA⟩,⟨zA,zA⟩⟩⟩
theorem zhu:Mm.All Is:=⟨⟨zA,⟨zA,zA⟩⟩,⟨⟨zA,zA⟩,⟨zA,zA⟩⟩⟩
theorem zdi:Mn.All Is:=⟨⟨zA,⟨zA,zA⟩⟩,⟨⟨zA,zA⟩,⟨zA,zB [0,1,2,13,14,5,16,7,18,9,12,21,22,11,24,15,20,3,4,17,6,19,8,23,10,25,26,27]⟩⟩⟩
theorem zhd:Mp.All Is:=⟨⟨⟨zB [0,1,2,3,4,5,11,12,7,10,15,9,17,18,13,14,21,16,6,19,8,22,20,23],zA⟩,⟨zB [0,1,2,3,4,5,9,7,11,10,13,14,12,16,17,18,19,20,21,15,23,22,8,26,27,24,29,28,25,32,33,34,30,31,6,35,36,37],zB [0,1,2,4,5,3,6]⟩⟩,⟨⟨zA,zB [0,1,2,3,5,6,4,7,8]⟩,⟨zA,zA⟩⟩⟩
theorem zkf:Mq.All Is:=⟨⟨zA,⟨zA,zA⟩⟩,⟨⟨zA,zA⟩,⟨zA,zA⟩⟩⟩
theorem zjy:Mr.All Is:=⟨⟨zA,⟨zA,zA⟩⟩,⟨⟨zA,zA⟩,⟨zA,zA⟩⟩⟩
theorem zgx:Ms.All Is:=⟨⟨zA,⟨zA,zA⟩⟩,⟨⟨zA,zA⟩,⟨zA,zA⟩⟩⟩
theorem zf9:Mt.All Is:=⟨⟨⟨zA,zA⟩,⟨zA,zA⟩⟩,⟨⟨zA,zA⟩,⟨zA,zA⟩⟩⟩
theorem zk0:Mu.All Is:=⟨⟨zA,⟨zA,zA⟩⟩,⟨⟨zA,zA⟩,⟨zA,zA⟩⟩⟩
theorem zfr:Mv.All Is:=⟨⟨zA,⟨zA,zA⟩⟩,⟨⟨zA,zA⟩,⟨zA,zA⟩⟩⟩
theorem zla:Mw.All Is:=⟨⟨zA,⟨zA,zA⟩⟩,⟨⟨zA,zA⟩,⟨zA,zA⟩⟩⟩
theorem zhi:Mx.All Is:=⟨⟨⟨zB [0,1,2,3,4,6,5,7,9,8,10,11,12,13],zB [0,1,2,3,4,6,7,5,8,9,10,11,12]⟩,⟨zA,zA⟩⟩,⟨⟨zA,zA⟩,⟨zA,zB [0,1,2,3,4,5,6,7,8,9,10,12,13,11,14]⟩⟩⟩
theorem zih:My.All Is:=⟨⟨zA,⟨zA,zA⟩⟩,⟨⟨zA,zA⟩,⟨zA,zA⟩⟩⟩
theorem zhy:Mz.All Is:=⟨⟨⟨zA,zA⟩,⟨zA,zA⟩⟩,⟨⟨zA,zA⟩,⟨zA,zA⟩⟩⟩
theorem zgh:MA.All Is:=⟨⟨zA,⟨zA,zA⟩⟩,⟨⟨zA,zA⟩,⟨zA,zA⟩⟩⟩
theorem zhl:MB.All Is:=⟨⟨⟨zA,zA⟩,⟨zB [0,1,2,3,4,6,7,8,9,5,10,11,12,13],zB [0,1,2,3,5,6,4,7]⟩⟩,⟨⟨zA,zA⟩,⟨zA,zB [0,1,2,3,5,4,6,7]⟩⟩⟩
theorem all:tree.All Is:=⟨⟨⟨⟨⟨zo0,zo1⟩,⟨zo2,zo3⟩⟩,⟨⟨zo4,zo5⟩,⟨zo6,zo7⟩⟩⟩,⟨⟨⟨zo8,zo9⟩,⟨zgb,zgt⟩⟩,⟨⟨zen,zjd⟩,⟨zir,zev⟩⟩⟩⟩,⟨⟨⟨⟨zfq,zhu⟩,⟨zdi,zhd⟩⟩,⟨⟨zkf,zjy⟩,⟨zgx,zf9⟩⟩⟩,⟨⟨⟨zk0,zfr⟩,⟨zla,zhi⟩⟩,⟨⟨zih,zhy⟩,⟨zgh,zhl⟩⟩⟩⟩⟩
theorem T2:b8 Tryz.prog (tree.prog fun _=>En) where
 fn:=fun k f hf=>bP.gN all hf
 gd:=by intro k f hf;simp[bP.prog]at hf
 mixed:=by kernel_rfl
end Go.Z
end
