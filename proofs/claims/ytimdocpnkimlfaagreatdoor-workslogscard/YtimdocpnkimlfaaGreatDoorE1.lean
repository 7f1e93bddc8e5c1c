/- Chapter 10, plain. -/
import Derived.Test.YtimdocpnkimlfaaGreatDoorW8
set_option linter.unusedVariables false
set_option linter.unusedSimpArgs false
set_option maxRecDepth 100000
open Option renaming some→I,getD_some→Ea
namespace Go.Z
open Go Go.Abs Go.W
def BM:Option Nat→Int
 |some k=>(k:Int)
 |none=>-1
theorem q95 {α:Type}(l:List α)(p:α→Bool)(f:Int→Option (Int⊕(Int⊕Int)))(dm:f (l.length:Int)=I (.inr (.inr (l.length:Int))))
  (dr:∀(i:Nat) x,l[i]?=I x→i<l.length→f (i:Int)=I (if p x then .inr (.inl (i:Int))else .inl ((i+1:Nat):Int))):
  ∃d,bq f 0=I d∧(match d with | .inl k=>k | .inr _=>-1)=BM (l.findIdx? p):=by
 have:=EH l.length (fun i=>(i:Int)) f (fun d=>match d with | .inl k=>k | .inr _=>(-1:Int)) (fun i=>BM (((l.drop i).findIdx? p).map (· + i))) ⟨_,dm,by rw[List.drop_eq_nil_of_le (Nat.le_refl _)];rfl⟩ (fun i hi=>by
  obtain⟨x,hx⟩:∃x,l[i]?=I x:=⟨_,List.getElem?_eq_getElem hi⟩
  have h1:=dr i x hx hi
  simp only[BD hx,List.findIdx?_cons]
  cases hp:p x with
  |true=>
   rw[hp,if_pos rfl]at h1
   exact .inr ⟨_,h1,by simp[BM]⟩
  |false=>
   rw[hp]at h1
   refine .inl ⟨by simpa using h1,?_⟩
   simp only[Bool.false_eq_true,if_false,Option.map_map]
   congr 1
   congr 1
   funext n
   simp only[Function.comp];omega)
 obtain⟨d,h1,h2⟩:=this
 refine⟨d,h1,?_⟩
 rw[h2]
 simp
abbrev SM:Nat:=1073741824
theorem je0 {α:Type}{l:List α}{p:α→Bool}{f:Int→Option (Int⊕(Int⊕Int))}(hl:l.length≤SM)
  (hf:∀i:Int,f i=cond (decide (i<(l.length:Int))) (qe (jn l i) fun x=>cond (p x) (I (.inr (.inl i))) (I (.inl (qh .i64 (i+1))))) (I (.inr (.inr i)))):
  (qe (bq f 0) fun d=>match d with | .inl k=>I k | .inr _=>I (-1))=I (BM (l.findIdx? p)):=by
 obtain⟨d,h1,h2⟩:=q95 l p f (by rw[hf,rj];rfl) (fun i x hx hi=>by
  rw[hf,tT hi]
  simp only[cond_true,qe,mK hx]
  cases p x with
  |true=>rfl
  |false=>simp only[cond_false];rw[yi (by unfold SM at hl;omega)];rfl)
 rw[h1]
 simp only[qe]
 rw[←h2]
 cases d<;>rfl
variable {r:fW}{n:List UInt8}
end Go.Z
namespace Go.Z
open Go Go.Abs Go.W
theorem ZW {α β:Type}(p:α→Bool)(g:α→β):∀l:List α,(l.flatMap fun x=>if p x then [g x]else [])=(l.filter p).map g
 | []=>rfl
 |x::l=>by
  rw[List.flatMap_cons,ZW p g l,List.filter_cons]
  cases p x<;>rfl
theorem jem {α β:Type}{l:List α}{p:α→Bool}{g:α→β}{f}(hl:l.length≤SM)
  (dm:∀o w,f (o,(l.length:Int),w)=I (.inr (o,w,(l.length:Int))))
  (hf:∀(i:Nat) x o w,l[i]?=I x→f (o,(i:Int),w)=cond (p x) (cond w (qe (cK o [g x]) fun v=>I (.inl (v,((i+1:Nat):Int),true))) (cond o.isNone (qe (cK o [g x]) fun v=>I (.inl (v,((i+1:Nat):Int),true))) none)) (I (.inl (o,((i+1:Nat):Int),w)))):
  bq f (none,0,false)=I (yh ((l.filter p).map g),nq ((l.filter p).map g),(l.length:Int)):=by
 have:=q80 l (fun i=>(i:Int)) f (fun x=>if p x then [g x]else []) [] (fun i a=>a.length≤i) (Nat.le_refl _) (fun a=>dm _ _) (fun i x a hx hi ha=>by
  cases hp:p x with
  |true=>
   refine⟨by simp;omega,?_⟩
   rw[hf i x _ _ hx,hp]
   simp only[cond_true,if_true]
   rw[q5r]
   exact jb6 (x:=g x) (k:=fun v=>I (Sum.inl (v,((i+1:Nat):Int),true))) (by unfold SM at hl;omega)
  |false=>
   refine⟨by simp;omega,?_⟩
   rw[hf i x _ _ hx,hp]
   simp)
 rw[ZW,List.nil_append]at this
 exact this
theorem ZX {α β:Type}{l:List α}{g:α→β}{q:α→Option β}{f}(hl:l.length≤SM)(hq:∀x∈l,q x=I (g x))
  (hf:∀s,f s=cond (decide (s.2.1<(l.length:Int))) (qe (jn l s.2.1) fun x=>qe (q x) fun b=>cond s.2.2 (qe (cK s.1 [b]) fun v=>I (.inl (v,qh .i64 (s.2.1+1),true))) (cond s.1.isNone (qe (cK s.1 [b]) fun v=>I (.inl (v,qh .i64 (s.2.1+1),true))) none)) (I (.inr (s.1,s.2.2,s.2.1)))):
  bq f (none,0,false)=I (yh (l.map g),nq (l.map g),(l.length:Int)):=by
 have:=jem (l:=l) (p:=fun _=>true) (g:=g) (f:=f) hl (fun o w=>by rw[hf];simp only[rj,cond_false]) (fun i x o w hx=>by
  have hi:=(List.getElem?_eq_some_iff.1 hx).1
  rw[hf]
  simp only[tT hi,cond_true,qe,mK hx,hq x (List.mem_of_getElem? hx)]
  rw[yi (by unfold SM at hl;omega)])
 rw[List.filter_eq_self.2 (fun _ _=>rfl)]at this
 exact this
variable {r:fW}{u:nR}{D:kT}
end Go.Z
namespace Go.Z
open Go Go.Abs Go.W
variable {r:fW}{u:nR}{D:kT}
theorem q6k (o:Option Nat):decide (0≤BM o)=o.isSome:=by
 cases o with
 |none=>rfl
 |some k=>exact decide_eq_true (by show(0:Int)≤(k:Int);omega)
theorem gC {α:Type}{p:α→Bool}{l:List α}:(l.findIdx? p).isSome=l.any p:=by rw[ZY]
theorem vY {b e}:f48 b e=I (if b then e else 0):=by unfold f48;cases b<;>rfl
def jM:List Int→Int
 | []=>0
 |e::l=>if e=0 then jM l else e
theorem vZ {l}(hl:l.length≤SM):f46 (I l)=I (jM l):=by
 unfold f46
 have:=EH l.length (fun i=>(i:Int)) (sw (I l)) (fun d=>match d with | .inl k=>k | .inr _=>(0:Int)) (fun i=>jM (l.drop i)) ⟨.inr (l.length:Int),by unfold sw;simp only[Ea,rj];rfl,by rw[List.drop_eq_nil_of_le (Nat.le_refl _)];rfl⟩ (fun i hi=>by
  obtain⟨x,hx⟩:∃x,l[i]?=I x:=⟨_,List.getElem?_eq_getElem hi⟩
  unfold sw
  simp only[Ea,tT hi,cond_true,qe,mK hx,BD hx,jM]
  by_cases h0:x=0
  ·simp only[h0,decide_true,cond_true,if_true]
   rw[yi (by unfold SM at hl;omega)]
   left;constructor<;>first|rfl|trivial
  ·simp only[h0,decide_false,cond_false,if_false]
   exact .inr ⟨_,rfl,rfl⟩)
 obtain⟨d,h1,h2⟩:=this
 rw[show((0:Int))=((0:Nat):Int)from rfl,h1]
 rw[List.drop_zero]at h2
 simp only[qe]
 rw[←h2]
 cases d<;>rfl
end Go.Z
namespace Go.Z
open Go Go.Abs Go.W
theorem ZZ {α:Type}{ys:List α}(h:ys.length≤SM):cK (I []) ys=I (I ys):=by
 unfold cK BN
 rw[if_pos (by simpa using h)]
 cases ys<;>rfl
end Go.Z
