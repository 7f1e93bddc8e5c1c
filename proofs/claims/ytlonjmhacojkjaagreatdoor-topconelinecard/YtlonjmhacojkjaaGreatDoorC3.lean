/-
  TopConeLine: the chamber's functions that range over the answers to both rows of a pair.
-/
import Derived.Test.YtlonjmhacojkjaaGreatDoorC2
import Derived.Test.YtlonjmhacojkjaaGreatDoorN6
import Derived.Test.YtlonjmhacojkjaaGreatDoorC1
import Derived.Test.YtlonjmhacojkjaaGreatDoorN14
set_option linter.unusedVariables false
set_option linter.unusedSimpArgs false
set_option maxRecDepth 100000
set_option maxHeartbeats 4000000
namespace Go.Z
open Go Go.Abs
def rf6:ACode:=pcB (pcR (pcL (pcR (pcR (pcR (pcR c6.body))))))
def as6:ACode:=rfA rf6
def bd6:ACode:=rfB rf6
theorem rf6_eq:rf6=.rangeFunc (.tmp 28) [29,30] as6 bd6:=rfl
def E6v:Env:=[(4,.ptr 0 0,false),(5,.ptr 1 0,false),(6,.ptr 2 0,false),(10,.ptr 4 0,false),(28,.fn (.func 58) [] [.ptr 6 0,.ptr 5 0],false)]
def G6 (p:GMask) (h x y:Option (List Int)):Heap:=
 [.cells [(.list true 0 [],false)],.cells [(.list true 0 [],false)],.cells [(.int .i64 0,false)],.cells [(sl 1 vint p.least,false),(sl 1 vint p.most,false)],.cells [(sl 1 vint x,false),(sl 1 vint y,false)],.cells [(sl 1 vint h,false)],.cells [(sl 1 vint p.least,false),(sl 1 vint p.most,false)]]
def H6 (p:GMask) (h x y:Option (List Int)) (pd:Option AExit):Heap:=
 [.cells [(.list true 0 [],false)],.cells [(.list true 0 [],false)],.cells [(.int .i64 0,false)],.cells [(sl 1 vint p.least,false),(sl 1 vint p.most,false)],.cells [(sl 1 vint x,false),(sl 1 vint y,false)],.cells [(sl 1 vint h,false)],.cells [(sl 1 vint p.least,false),(sl 1 vint p.most,false)],.loop ⟨E6v,[29,30],as6,bd6,pd⟩]
def Eb6 (i:Int) (A:Option (List Int)):Env:=[(4,.ptr 0 0,false),(5,.ptr 1 0,false),(6,.ptr 2 0,false),(10,.ptr 4 0,false),(11,.int .i64 i,false),(12,sl 1 vint A,false)]
def Es6 (i:Int) (A:Option (List Int)):Env:=[(30,sl 1 vint A,false),(29,.int .i64 i,false),(4,.ptr 0 0,false),(5,.ptr 1 0,false),(6,.ptr 2 0,false),(10,.ptr 4 0,false),(28,.fn (.func 58) [] [.ptr 6 0,.ptr 5 0],false)]
theorem es6 {i:Int} {A:Option (List Int)}:setEnvs (noOwn E6v) [29,30] [.int .i64 i,sl 1 vint A]=some (Es6 i A):=rfl
theorem as6_run {i:Int} {A:Option (List Int)} {H:Heap}:X pr as6 ⟨Es6 i A,H⟩=some (.normal,⟨Eb6 i A,H⟩):=by
 simp only [go_sem,seval,as6,rfA,rf6,pcB,pcL,pcR,c6,Es6] <;> rfl
noncomputable def chk (A:Option (List Int)):Option Unit:=obind (f25 A) fun l=>obind (f22 l.1) fun e=>cond (decide (e=0)) (some ()) none
theorem bd6_0 {p:GMask} {h x y A:Option (List Int)} {pd:Option AExit} (hc:chk A=some ()):∃ e t,X pr bd6 ⟨Eb6 0 A,H6 p h x y pd⟩=some (.normal,⟨e,H6 p h A y pd++t⟩):=by
 unfold chk at hc
 obtain ⟨l,h1,hc⟩:=obind_some hc
 obtain ⟨e,h2,hc⟩:=obind_some hc
 rcases cond_split hc with ⟨h3,k⟩ | ⟨h3,k⟩
 ·have g1:=W25 h1
  have g2:=W22 h2
  simp only [go_sem,seval,bd6,rfB,rf6,pcB,pcL,pcR,c6,Eb6,H6,g1,g2,h3]
  exact ⟨_,_,rfl⟩
 ·cases k
theorem bd6_1 {p:GMask} {h x y A:Option (List Int)} {pd:Option AExit} (hc:chk A=some ()):∃ e t,X pr bd6 ⟨Eb6 1 A,H6 p h x y pd⟩=some (.normal,⟨e,H6 p h x A pd++t⟩):=by
 unfold chk at hc
 obtain ⟨l,h1,hc⟩:=obind_some hc
 obtain ⟨e,h2,hc⟩:=obind_some hc
 rcases cond_split hc with ⟨h3,k⟩ | ⟨h3,k⟩
 ·have g1:=W25 h1
  have g2:=W22 h2
  simp only [go_sem,seval,bd6,rfB,rf6,pcB,pcL,pcR,c6,Eb6,H6,g1,g2,h3]
  exact ⟨_,_,rfl⟩
 ·cases k
theorem H6_below {p:GMask} {h x y:Option (List Int)} {pd:Option AExit}:belowHeap 8 (H6 p h x y pd)=true:=by
 have hb:∀ o:Option (List Int),Abs.below 8 (sl 1 vint o)=true:=fun o=>by simp only [go_sem,seval]
 have e1:∀ a b:Option (List Int),belowCells 8 [(sl 1 vint a,false),(sl 1 vint b,false)]=true:=fun a b=>by
  show (Abs.below _ (sl 1 vint a) && (Abs.below _ (sl 1 vint b) && true))=true
  rw [hb,hb]; rfl
 have e2:∀ a:Option (List Int),belowCells 8 [(sl 1 vint a,false)]=true:=fun a=>by
  show (Abs.below _ (sl 1 vint a) && true)=true
  rw [hb]; rfl
 simp only [H6,belowHeap,List.all_cons,List.all_nil,belowBox,e1,e2,E6v]
 rfl
section
variable {p:GMask} {h A B:Option (List Int)}
theorem y6 {i:Int} {x y x' y':Option (List Int)} (hb:∀ pd,∃ e t,X pr bd6 ⟨Eb6 i A,H6 p h x y pd⟩=some (.normal,⟨e,H6 p h x' y' pd++t⟩)):yieldOp (X pr) 7 [.int .i64 i,sl 1 vint A] (H6 p h x y none)=some (.bool true,H6 p h x' y' none):=by
 have g:∀ x y pd t,getBox (H6 p h x y pd++t) 7=some (.loop ⟨E6v,[29,30],as6,bd6,pd⟩):=fun _ _ _ _=>rfl
 have g0:∀ x y pd,getBox (H6 p h x y pd) 7=some (.loop ⟨E6v,[29,30],as6,bd6,pd⟩):=fun _ _ _=>rfl
 have st:∀ x y pd pd' t,(H6 p h x y pd++t).set 7 (.loop ⟨E6v,[29,30],as6,bd6,pd'⟩)=H6 p h x y pd'++t:=fun _ _ _ _ _=>rfl
 have st0:∀ x y pd pd',(H6 p h x y pd).set 7 (.loop ⟨E6v,[29,30],as6,bd6,pd'⟩)=H6 p h x y pd':=fun _ _ _ _=>rfl
 have hl:∀ x y pd,(H6 p h x y pd).length=8:=fun _ _ _=>rfl
 have ha:∀ x y pd v t,Abs.below 8 v=true→afterShared 8 v (H6 p h x y pd++t)=H6 p h x y pd:=fun _ _ _ _ _ hv=>after_tail rfl hv H6_below
 obtain ⟨e,t,hx⟩:=hb (some .normal)
 unfold yieldOp
 simp only [g0,es6,as6_run,Option.isNone_none,cond_true,st0,hl,hx,g,st]
 rw [ha _ _ _ _ _ rfl]
end
def St58 (p:GMask) (h A B:Option (List Int)) (i:Nat):ASt:=⟨[(0,.fn (.yield 7) [] [],false),(2,.ptr 5 0,false),(6,.agg [sl 1 vint p.least,sl 1 vint p.most],false),(7,.int .i64 (i:Int),false)],match i with
 | 0=>H6 p h none none none
 | 1=>H6 p h A none none
 | _=>H6 p h A B none⟩
def Ex58 (p:GMask) (h A B:Option (List Int)) (_:Unit):AExit × ASt:=(.exit 0,⟨[(0,.fn (.yield 7) [] [],false),(2,.ptr 5 0,false),(6,.agg [sl 1 vint p.least,sl 1 vint p.most],false),(7,.int .i64 2,false),(8,.bool false,false)],H6 p h A B none⟩)
def s58 (i:Nat):Option (Nat ⊕ Unit):=match i with
 | 0=>some (.inl 1)
 | 1=>some (.inl 2)
 | 2=>some (.inr ())
 | _=>none
theorem b58 {p:GMask} {h A B:Option (List Int)} (hA:f59 h p.least=some A) (hB:f59 h p.most=some B) (cA:chk A=some ()) (cB:chk B=some ()) (i:Nat) (r) (hr:s58 i=some r):stepO pr c58_0 (St58 p h A B) (Ex58 p h A B) i r:=by
 have y0:=y6 (p:=p) (h:=h) (A:=A) (i:=0) (x:=none) (y:=none) (x':=A) (y':=none) (fun pd=>bd6_0 cA)
 have y1:=y6 (p:=p) (h:=h) (A:=B) (i:=1) (x:=A) (y:=none) (x':=A) (y':=B) (fun pd=>bd6_1 cB)
 have gA:=W59 hA
 have gB:=W59 hB
 match i,hr with
 | 0,hr=>
  cases hr
  simp only [H6] at y0
  exact stepO_in (st':=St58 p h A B 1) (by simp only [go_sem,seval,c58_0,St58,H6,gA,y0] <;> rfl) (gc_same (Nat.le_refl _))
 | 1,hr=>
  cases hr
  simp only [H6] at y1
  exact stepO_in (st':=St58 p h A B 2) (by simp only [go_sem,seval,c58_0,St58,H6,gB,y1] <;> rfl) (gc_same (Nat.le_refl _))
 | 2,hr=>
  cases hr
  exact stepO_out (by simp only [go_sem,seval,c58_0,St58,H6,Ex58] <;> rfl)
 | i + 3,hr=>cases hr
theorem it58:itO s58 0=some ():=by
 rw [itO_in (s':=1) rfl,itO_in (s':=2) rfl]
 exact itO_out rfl
theorem W58 {p:GMask} {h A B:Option (List Int)} (hA:f59 h p.least=some A) (hB:f59 h p.most=some B) (cA:chk A=some ()) (cB:chk B=some ()):callFn pr (X pr) 58 [.fn (.yield 7) [] [],.ptr 6 0,.ptr 5 0] (H6 p h none none none)=some (.tup [],false,H6 p h A B none):=by
 have h1:X pr (.loop c58_0) (St58 p h A B 0)=some (Ex58 p h A B ()):=X_itO (b58 hA hB cA cB) (fun d=>by intro hh; cases hh) it58
 have ha:afterShared 8 (.tup []) (H6 p h A B none)=H6 p h A B none:=after_same' rfl
 rw [callFn_at (show pr.fns 58=some c58 from rfl) (by simp)]
 simp only [St58,Ex58,H6,show ((0:Nat):Int)=0 from rfl] at h1 ha ⊢
 simp only [go_sem,seval,c58,h1,ha] <;> rfl
theorem range6 {p:GMask} {h A B:Option (List Int)} (hA:f59 h p.least=some A) (hB:f59 h p.most=some B) (cA:chk A=some ()) (cB:chk B=some ()):X pr rf6 ⟨E6v,G6 p h none none⟩=some (.normal,⟨E6v,G6 p h A B⟩):=by
 have h1:=W58 hA hB cA cB
 have hb:∀ x y,belowHeap 7 (G6 p h x y)=true:=by
  intro x y
  have hb:∀ o:Option (List Int),Abs.below 7 (sl 1 vint o)=true:=fun o=>by simp only [go_sem,seval]
  have e1:∀ a b:Option (List Int),belowCells 7 [(sl 1 vint a,false),(sl 1 vint b,false)]=true:=fun a b=>by
   show (Abs.below _ (sl 1 vint a) && (Abs.below _ (sl 1 vint b) && true))=true
   rw [hb,hb]; rfl
  have e2:∀ a:Option (List Int),belowCells 7 [(sl 1 vint a,false)]=true:=fun a=>by
   show (Abs.below _ (sl 1 vint a) && true)=true
   rw [hb]; rfl
  simp only [G6,belowHeap,List.all_cons,List.all_nil,belowBox,e1,e2]
  rfl
 rw [rf6_eq,X_range]
 unfold xrange
 have hn:(noRange as6 && noRange bd6)=true:=rfl
 have he:evalO E6v (.tmp 28)=some (.fn (.func 58) [] [.ptr 6 0,.ptr 5 0]):=rfl
 have hl:∀ x y,(G6 p h x y).length=7:=fun _ _=>rfl
 have hap:G6 p h none none++[.loop ⟨E6v,[29,30],as6,bd6,none⟩]=H6 p h none none none:=rfl
 have hg:getBox (H6 p h A B none) 7=some (.loop ⟨E6v,[29,30],as6,bd6,none⟩):=rfl
 have ht:(H6 p h A B none).take 7=G6 p h A B:=rfl
 simp only [hn,cond_true,he,hl,List.nil_append,List.cons_append,hap,h1,hg,ht,hb]
def a6_1:ACode:=pcL c6.body
def a6_2:ACode:=pcL (pcR c6.body)
def a6_3:ACode:=pcL (pcR (pcR c6.body))
def a6_4:ACode:=pcL (pcR (pcR (pcR c6.body)))
def b6:ACode:=pcR (pcR (pcR (pcR c6.body)))
def a6_6:ACode:=pcL (pcL b6)
def a6_7:ACode:=pcR b6
theorem W24a {p:GMask} {h:Option (List Int)}:callFn pr (X pr) 24 [sl 1 vint h,.agg [sl 1 vint p.least,sl 1 vint p.most]] [.cells [(.list true 0 [],false)],.cells [(.list true 0 [],false)],.cells [(.int .i64 0,false)],.cells [(sl 1 vint p.least,false),(sl 1 vint p.most,false)],.cells [(.list true 0 [],false),(.list true 0 [],false)]]=some (.fn (.func 58) [] [.ptr 6 0,.ptr 5 0],false,[.cells [(.list true 0 [],false)],.cells [(.list true 0 [],false)],.cells [(.int .i64 0,false)],.cells [(sl 1 vint p.least,false),(sl 1 vint p.most,false)],.cells [(.list true 0 [],false),(.list true 0 [],false)],.cells [(sl 1 vint h,false)],.cells [(sl 1 vint p.least,false),(sl 1 vint p.most,false)]]):=by
 rw [callFn_at (show pr.fns 24=some c24 from rfl) (by simp)]
 simp only [go_sem,seval,c24] <;> rfl
noncomputable def E6a (h:Option (List Int)) (n:Int):Option (Option (List Int) × Option (List Int) × Int):=
 obind (f21 n) fun p=>obind (f23 h) fun e=>obind (f22 (some [e,p.2])) fun e2=>cond (decide (e2=0))
  (obind (f59 h p.1.least) fun A=>obind (f59 h p.1.most) fun B=>obind (chk A) fun _=>obind (chk B) fun _=>some (A,B,0)) none
theorem WE6a {h:Option (List Int)} {n:Int} {r} (hr:E6a h n=some r):callIso pr (X pr) 6 [sl 1 vint h,.int .i64 n]=some (.tup [sl 1 vint r.1,sl 1 vint r.2.1,.int .i64 r.2.2],false):=by
 unfold E6a at hr
 obtain ⟨p,h1,hr⟩:=obind_some hr
 obtain ⟨e,h2,hr⟩:=obind_some hr
 obtain ⟨e2,h3,hr⟩:=obind_some hr
 rcases cond_split hr with ⟨h4,hr⟩ | ⟨h4,hr⟩
 ·obtain ⟨A,h5,hr⟩:=obind_some hr
  obtain ⟨B,h6,hr⟩:=obind_some hr
  obtain ⟨_,h7,hr⟩:=obind_some hr
  obtain ⟨_,h8,hr⟩:=obind_some hr
  cases hr
  have g1:=W21 h1
  have g2:=W23 h2
  have g3:callIso pr (X pr) 22 [.list false 1 [.int .i64 e,.int .i64 p.2]]=some (.int .i64 e2,false):=W22 h3
  have hx:X pr rf6 ⟨E6v,[.cells [(.list true 0 [],false)],.cells [(.list true 0 [],false)],.cells [(.int .i64 0,false)],.cells [(sl 1 vint p.1.least,false),(sl 1 vint p.1.most,false)],.cells [(.list true 0 [],false),(.list true 0 [],false)],.cells [(sl 1 vint h,false)],.cells [(sl 1 vint p.1.least,false),(sl 1 vint p.1.most,false)]]⟩=some (.normal,⟨E6v,G6 p.1 h A B⟩):=range6 h5 h6 h7 h8
  have g24:=W24a (p:=p.1) (h:=h)
  have ha:afterShared 5 (.fn (.func 58) [] [.ptr 6 0,.ptr 5 0]) ([.cells [(.list true 0 [],false)],.cells [(.list true 0 [],false)],.cells [(.int .i64 0,false)],.cells [(sl 1 vint p.1.least,false),(sl 1 vint p.1.most,false)],.cells [(.list true 0 [],false),(.list true 0 [],false)],.cells [(sl 1 vint h,false)],.cells [(sl 1 vint p.1.least,false),(sl 1 vint p.1.most,false)]]:Heap)=[.cells [(.list true 0 [],false)],.cells [(.list true 0 [],false)],.cells [(.int .i64 0,false)],.cells [(sl 1 vint p.1.least,false),(sl 1 vint p.1.most,false)],.cells [(.list true 0 [],false),(.list true 0 [],false)],.cells [(sl 1 vint h,false)],.cells [(sl 1 vint p.1.least,false),(sl 1 vint p.1.most,false)]]:=rfl
  have this:∃ hh,callFn pr (X pr) 6 [sl 1 vint h,.int .i64 n] []=some (.tup [sl 1 vint A,sl 1 vint B,.int .i64 0],false,hh):=by
   rw [callFn_at (show pr.fns 6=some ⟨42,.seq a6_1 (.seq a6_2 (.seq a6_3 (.seq a6_4 (.seq (.seq a6_6 (.block 0 rf6)) a6_7)))),[.cell 4 false 1,.cell 5 false 1,.cell 6 false 1]⟩ from rfl) (by simp)]
   simp only [E6v,G6] at hx
   simp only [go_sem,seval,a6_1,a6_2,a6_3,a6_4,a6_6,a6_7,b6,pcL,pcR,c6,g24,ha,g1,g2,g3,h4,hx]
   exact ⟨_,rfl⟩
  obtain ⟨hh,this⟩:=this
  exact callIso_of rfl this (by first | rfl | simp only [go_sem,seval]) (by first | rfl | simp only [go_sem,seval])
 ·cases hr
end Go.Z
/-
 TopConeLine: the chamber's Deconvolve.
-/
namespace Go.Z
open Go Go.Abs
def rf7:ACode:=pcB (pcR (pcL (pcR (pcR (pcR (pcR (pcR c7.body)))))))
def as7:ACode:=rfA rf7
def bd7:ACode:=rfB rf7
theorem rf7_eq:rf7=.rangeFunc (.tmp 34) [35,36] as7 bd7:=rfl
def E7v (h:Option (List Int)) (fl:Bool):Env:=[(6,.ptr 1 0,false),(7,.ptr 2 0,false),(11,sl 1 vint h,fl),(12,.ptr 4 0,false),(34,.fn (.func 58) [] [.ptr 6 0,.ptr 5 0],false)]
def G7 (n:Int) (p:GMask) (h a b:Option (List Int)):Heap:=
 [.cells [(.int .i64 n,false)],.cells [(.list true 0 [],false)],.cells [(.int .i64 0,false)],.cells [(sl 1 vint p.least,false),(sl 1 vint p.most,false)],.cells [(sl 1 vint a,false),(sl 1 vint b,false)],.cells [(sl 1 vint h,false)],.cells [(sl 1 vint p.least,false),(sl 1 vint p.most,false)]]
def H7 (n:Int) (p:GMask) (h a b:Option (List Int)) (fl:Bool) (pd:Option AExit):Heap:=
 [.cells [(.int .i64 n,false)],.cells [(.list true 0 [],false)],.cells [(.int .i64 0,false)],.cells [(sl 1 vint p.least,false),(sl 1 vint p.most,false)],.cells [(sl 1 vint a,false),(sl 1 vint b,false)],.cells [(sl 1 vint h,false)],.cells [(sl 1 vint p.least,false),(sl 1 vint p.most,false)],.loop ⟨E7v h fl,[35,36],as7,bd7,pd⟩]
def Eb7 (h:Option (List Int)) (i:Int) (A:Option (List Int)):Env:=[(6,.ptr 1 0,false),(7,.ptr 2 0,false),(11,sl 1 vint h,false),(12,.ptr 4 0,false),(13,.int .i64 i,false),(14,sl 1 vint A,false)]
def Es7 (h:Option (List Int)) (i:Int) (A:Option (List Int)):Env:=[(36,sl 1 vint A,false),(35,.int .i64 i,false),(6,.ptr 1 0,false),(7,.ptr 2 0,false),(11,sl 1 vint h,false),(12,.ptr 4 0,false),(34,.fn (.func 58) [] [.ptr 6 0,.ptr 5 0],false)]
theorem es7 {h:Option (List Int)} {fl:Bool} {i:Int} {A:Option (List Int)}:setEnvs (noOwn (E7v h fl)) [35,36] [.int .i64 i,sl 1 vint A]=some (Es7 h i A):=rfl
theorem as7_run {h:Option (List Int)} {i:Int} {A:Option (List Int)} {H:Heap}:X pr as7 ⟨Es7 h i A,H⟩=some (.normal,⟨Eb7 h i A,H⟩):=by
 simp only [go_sem,seval,as7,rfA,rf7,pcB,pcL,pcR,c7,Es7] <;> rfl
theorem bd7_0 {n:Int} {p:GMask} {h a b A:Option (List Int)} {fl:Bool} {pd:Option AExit} (hc:f31 A a=some true):∃ e t,X pr bd7 ⟨Eb7 h 0 A,H7 n p h a b fl pd⟩=some (.normal,⟨e,H7 n p h a b fl pd++t⟩):=by
 have g1:=W31 hc
 simp only [go_sem,seval,bd7,rfB,rf7,pcB,pcL,pcR,c7,Eb7,H7,g1]
 exact ⟨_,_,rfl⟩
theorem bd7_1 {n:Int} {p:GMask} {h a b B:Option (List Int)} {fl:Bool} {pd:Option AExit} (hc:f31 B b=some true):∃ e t,X pr bd7 ⟨Eb7 h 1 B,H7 n p h a b fl pd⟩=some (.normal,⟨e,H7 n p h a b fl pd++t⟩):=by
 have g1:=W31 hc
 simp only [go_sem,seval,bd7,rfB,rf7,pcB,pcL,pcR,c7,Eb7,H7,g1]
 exact ⟨_,_,rfl⟩
theorem H7_below {n:Int} {p:GMask} {h a b:Option (List Int)} {fl:Bool} {pd:Option AExit}:belowHeap 8 (H7 n p h a b fl pd)=true:=by
 have hb:∀ o:Option (List Int),Abs.below 8 (sl 1 vint o)=true:=fun o=>by simp only [go_sem,seval]
 have e1:∀ a b:Option (List Int),belowCells 8 [(sl 1 vint a,false),(sl 1 vint b,false)]=true:=fun a b=>by
  show (Abs.below _ (sl 1 vint a) && (Abs.below _ (sl 1 vint b) && true))=true
  rw [hb,hb]; rfl
 have e2:∀ a:Option (List Int),belowCells 8 [(sl 1 vint a,false)]=true:=fun a=>by
  show (Abs.below _ (sl 1 vint a) && true)=true
  rw [hb]; rfl
 have e3:belowEnv 8 (E7v h fl)=true:=by
  show (true && (true && (Abs.below 8 (sl 1 vint h) && (true && (true && true)))))=true
  rw [hb]; rfl
 simp only [H7,belowHeap,List.all_cons,List.all_nil,belowBox,e1,e2,e3]
 rfl
theorem y7 {n:Int} {p:GMask} {h a b A:Option (List Int)} {fl:Bool} {i:Int} (hb:∀ pd,∃ e t,X pr bd7 ⟨Eb7 h i A,H7 n p h a b fl pd⟩=some (.normal,⟨e,H7 n p h a b fl pd++t⟩)):yieldOp (X pr) 7 [.int .i64 i,sl 1 vint A] (H7 n p h a b fl none)=some (.bool true,H7 n p h a b fl none):=by
 have g:∀ pd t,getBox (H7 n p h a b fl pd++t) 7=some (.loop ⟨E7v h fl,[35,36],as7,bd7,pd⟩):=fun _ _=>rfl
 have g0:∀ pd,getBox (H7 n p h a b fl pd) 7=some (.loop ⟨E7v h fl,[35,36],as7,bd7,pd⟩):=fun _=>rfl
 have st:∀ pd pd' t,(H7 n p h a b fl pd++t).set 7 (.loop ⟨E7v h fl,[35,36],as7,bd7,pd'⟩)=H7 n p h a b fl pd'++t:=fun _ _ _=>rfl
 have st0:∀ pd pd',(H7 n p h a b fl pd).set 7 (.loop ⟨E7v h fl,[35,36],as7,bd7,pd'⟩)=H7 n p h a b fl pd':=fun _ _=>rfl
 have hl:∀ pd,(H7 n p h a b fl pd).length=8:=fun _=>rfl
 have ha:∀ pd v t,Abs.below 8 v=true→afterShared 8 v (H7 n p h a b fl pd++t)=H7 n p h a b fl pd:=fun _ _ _ hv=>after_tail rfl hv H7_below
 obtain ⟨e,t,hx⟩:=hb (some .normal)
 unfold yieldOp
 simp only [g0,es7,as7_run,Option.isNone_none,cond_true,st0,hl,hx,g,st]
 rw [ha _ _ _ rfl]
def Sv58 (p:GMask) (H:Heap) (i:Nat):ASt:=⟨[(0,.fn (.yield 7) [] [],false),(2,.ptr 5 0,false),(6,.agg [sl 1 vint p.least,sl 1 vint p.most],false),(7,.int .i64 (i:Int),false)],H⟩
def Xv58 (p:GMask) (H:Heap) (_:Unit):AExit × ASt:=(.exit 0,⟨[(0,.fn (.yield 7) [] [],false),(2,.ptr 5 0,false),(6,.agg [sl 1 vint p.least,sl 1 vint p.most],false),(7,.int .i64 2,false),(8,.bool false,false)],H⟩)
theorem bv58 {n:Int} {p:GMask} {h a b A B:Option (List Int)} {fl:Bool} (hA:f59 h p.least=some A) (hB:f59 h p.most=some B) (cA:f31 A a=some true) (cB:f31 B b=some true) (i:Nat) (r) (hr:s58 i=some r):stepO pr c58_0 (Sv58 p (H7 n p h a b fl none)) (Xv58 p (H7 n p h a b fl none)) i r:=by
 have y0:=y7 (n:=n) (p:=p) (h:=h) (a:=a) (b:=b) (A:=A) (fl:=fl) (i:=0) (fun pd=>bd7_0 cA)
 have y1:=y7 (n:=n) (p:=p) (h:=h) (a:=a) (b:=b) (A:=B) (fl:=fl) (i:=1) (fun pd=>bd7_1 cB)
 have gA:=W59 hA
 have gB:=W59 hB
 match i,hr with
 | 0,hr=>
  cases hr
  simp only [H7] at y0
  exact stepO_in (st':=Sv58 p (H7 n p h a b fl none) 1) (by simp only [go_sem,seval,c58_0,Sv58,H7,gA,y0] <;> rfl) (gc_same (Nat.le_refl _))
 | 1,hr=>
  cases hr
  simp only [H7] at y1
  exact stepO_in (st':=Sv58 p (H7 n p h a b fl none) 2) (by simp only [go_sem,seval,c58_0,Sv58,H7,gB,y1] <;> rfl) (gc_same (Nat.le_refl _))
 | 2,hr=>
  cases hr
  exact stepO_out (by simp only [go_sem,seval,c58_0,Sv58,H7,Xv58] <;> rfl)
 | i + 3,hr=>cases hr
theorem Wv58 {n:Int} {p:GMask} {h a b A B:Option (List Int)} {fl:Bool} (hA:f59 h p.least=some A) (hB:f59 h p.most=some B) (cA:f31 A a=some true) (cB:f31 B b=some true):callFn pr (X pr) 58 [.fn (.yield 7) [] [],.ptr 6 0,.ptr 5 0] (H7 n p h a b fl none)=some (.tup [],false,H7 n p h a b fl none):=by
 have h1:X pr (.loop c58_0) (Sv58 p (H7 n p h a b fl none) 0)=some (Xv58 p (H7 n p h a b fl none) ()):=X_itO (bv58 hA hB cA cB) (fun d=>by intro hh; cases hh) it58
 have ha:afterShared 8 (.tup []) (H7 n p h a b fl none)=H7 n p h a b fl none:=after_same' rfl
 rw [callFn_at (show pr.fns 58=some c58 from rfl) (by simp)]
 simp only [Sv58,Xv58,H7,show ((0:Nat):Int)=0 from rfl] at h1 ha ⊢
 simp only [go_sem,seval,c58,h1,ha] <;> rfl
theorem range7 {n:Int} {p:GMask} {h a b A B:Option (List Int)} {fl:Bool} (hA:f59 h p.least=some A) (hB:f59 h p.most=some B) (cA:f31 A a=some true) (cB:f31 B b=some true):X pr rf7 ⟨E7v h fl,G7 n p h a b⟩=some (.normal,⟨E7v h fl,G7 n p h a b⟩):=by
 have h1:=Wv58 (n:=n) (fl:=fl) hA hB cA cB
 have hb:belowHeap 7 (G7 n p h a b)=true:=by
  have hb:∀ o:Option (List Int),Abs.below 7 (sl 1 vint o)=true:=fun o=>by simp only [go_sem,seval]
  have e1:∀ a b:Option (List Int),belowCells 7 [(sl 1 vint a,false),(sl 1 vint b,false)]=true:=fun a b=>by
   show (Abs.below _ (sl 1 vint a) && (Abs.below _ (sl 1 vint b) && true))=true
   rw [hb,hb]; rfl
  have e2:∀ a:Option (List Int),belowCells 7 [(sl 1 vint a,false)]=true:=fun a=>by
   show (Abs.below _ (sl 1 vint a) && true)=true
   rw [hb]; rfl
  simp only [G7,belowHeap,List.all_cons,List.all_nil,belowBox,e1,e2]
  rfl
 rw [rf7_eq,X_range]
 unfold xrange
 have hn:(noRange as7 && noRange bd7)=true:=rfl
 have he:evalO (E7v h fl) (.tmp 34)=some (.fn (.func 58) [] [.ptr 6 0,.ptr 5 0]):=rfl
 have hl:(G7 n p h a b).length=7:=rfl
 have hap:G7 n p h a b++[.loop ⟨E7v h fl,[35,36],as7,bd7,none⟩]=H7 n p h a b fl none:=rfl
 have hg:getBox (H7 n p h a b fl none) 7=some (.loop ⟨E7v h fl,[35,36],as7,bd7,none⟩):=rfl
 have ht:(H7 n p h a b fl none).take 7=G7 n p h a b:=rfl
 simp only [hn,cond_true,he,hl,List.nil_append,List.cons_append,hap,h1,hg,ht,hb]
def a7_1:ACode:=pcL c7.body
def a7_2:ACode:=pcL (pcR c7.body)
def a7_3:ACode:=pcL (pcR (pcR c7.body))
def a7_4:ACode:=pcL (pcR (pcR (pcR c7.body)))
def a7_5:ACode:=pcL (pcR (pcR (pcR (pcR c7.body))))
def b7:ACode:=pcR (pcR (pcR (pcR (pcR c7.body))))
def a7_6:ACode:=pcL (pcL b7)
def a7_7:ACode:=pcR b7
theorem W24b {n:Int} {p:GMask} {h a b:Option (List Int)}:callFn pr (X pr) 24 [sl 1 vint h,.agg [sl 1 vint p.least,sl 1 vint p.most]] [.cells [(.int .i64 n,false)],.cells [(.list true 0 [],false)],.cells [(.int .i64 0,false)],.cells [(sl 1 vint p.least,false),(sl 1 vint p.most,false)],.cells [(sl 1 vint a,false),(sl 1 vint b,false)]]=some (.fn (.func 58) [] [.ptr 6 0,.ptr 5 0],false,[.cells [(.int .i64 n,false)],.cells [(.list true 0 [],false)],.cells [(.int .i64 0,false)],.cells [(sl 1 vint p.least,false),(sl 1 vint p.most,false)],.cells [(sl 1 vint a,false),(sl 1 vint b,false)],.cells [(sl 1 vint h,false)],.cells [(sl 1 vint p.least,false),(sl 1 vint p.most,false)]]):=by
 rw [callFn_at (show pr.fns 24=some c24 from rfl) (by simp)]
 simp only [go_sem,seval,c24] <;> rfl
noncomputable def E7d (a b:Option (List Int)) (n:Int):Option (Option (List Int) × Int):=
 obind (f27 a b n) fun s=>cond (decide (s.2.2=0))
  (obind (f28 s.1 n none 0 s.2.1.least s.2.1.most) fun h=>obind (f59 h.1 s.2.1.least) fun A=>obind (f59 h.1 s.2.1.most) fun B=>obind (f31 A a) fun q1=>obind (f31 B b) fun q2=>cond (q1 && q2) (some (h.1,0)) none) none
theorem WE7d {a b:Option (List Int)} {n:Int} {r} (hr:E7d a b n=some r):callIso pr (X pr) 7 [sl 1 vint a,sl 1 vint b,.int .i64 n]=some (.tup [sl 1 vint r.1,.int .i64 r.2],false):=by
 unfold E7d at hr
 obtain ⟨s,h1,hr⟩:=obind_some hr
 rcases cond_split hr with ⟨h2,hr⟩ | ⟨h2,hr⟩
 ·obtain ⟨h,h3,hr⟩:=obind_some hr
  obtain ⟨A,h4,hr⟩:=obind_some hr
  obtain ⟨B,h5,hr⟩:=obind_some hr
  obtain ⟨q1,h6,hr⟩:=obind_some hr
  obtain ⟨q2,h7,hr⟩:=obind_some hr
  rcases cond_split hr with ⟨h8,hr⟩ | ⟨h8,hr⟩
  ·cases hr
   simp only [Bool.and_eq_true] at h8
   obtain ⟨rfl,rfl⟩:=h8
   obtain ⟨l,p,e⟩:=s
   obtain ⟨h,fl⟩:=h
   dsimp only at h1 h2 h3 h4 h5 h6 h7
   have g1:=W27 h1
   have g2:callFn pr (X pr) 28 [sl 1 vint l,.fn (.func 29) [] [.ptr 0 0]] [.cells [(.int .i64 n,false)],.cells [(.list true 0 [],false)],.cells [(.int .i64 0,false)],.cells [(sl 1 vint p.least,false),(sl 1 vint p.most,false)]]=some (sl 1 vint h,fl,[.cells [(.int .i64 n,false)],.cells [(.list true 0 [],false)],.cells [(.int .i64 0,false)],.cells [(sl 1 vint p.least,false),(sl 1 vint p.most,false)]]):=W28 h3
   have hx:X pr rf7 ⟨E7v h fl,[.cells [(.int .i64 n,false)],.cells [(.list true 0 [],false)],.cells [(.int .i64 0,false)],.cells [(sl 1 vint p.least,false),(sl 1 vint p.most,false)],.cells [(sl 1 vint a,false),(sl 1 vint b,false)],.cells [(sl 1 vint h,false)],.cells [(sl 1 vint p.least,false),(sl 1 vint p.most,false)]]⟩=some (.normal,⟨E7v h fl,[.cells [(.int .i64 n,false)],.cells [(.list true 0 [],false)],.cells [(.int .i64 0,false)],.cells [(sl 1 vint p.least,false),(sl 1 vint p.most,false)],.cells [(sl 1 vint a,false),(sl 1 vint b,false)],.cells [(sl 1 vint h,false)],.cells [(sl 1 vint p.least,false),(sl 1 vint p.most,false)]]⟩):=range7 (n:=n) (fl:=fl) h4 h5 h6 h7
   have g24:=W24b (n:=n) (p:=p) (h:=h) (a:=a) (b:=b)
   have ha:afterShared 5 (.fn (.func 58) [] [.ptr 6 0,.ptr 5 0]) ([.cells [(.int .i64 n,false)],.cells [(.list true 0 [],false)],.cells [(.int .i64 0,false)],.cells [(sl 1 vint p.least,false),(sl 1 vint p.most,false)],.cells [(sl 1 vint a,false),(sl 1 vint b,false)],.cells [(sl 1 vint h,false)],.cells [(sl 1 vint p.least,false),(sl 1 vint p.most,false)]]:Heap)=[.cells [(.int .i64 n,false)],.cells [(.list true 0 [],false)],.cells [(.int .i64 0,false)],.cells [(sl 1 vint p.least,false),(sl 1 vint p.most,false)],.cells [(sl 1 vint a,false),(sl 1 vint b,false)],.cells [(sl 1 vint h,false)],.cells [(sl 1 vint p.least,false),(sl 1 vint p.most,false)]]:=rfl
   have hb:afterShared 4 (sl 1 vint h) ([.cells [(.int .i64 n,false)],.cells [(.list true 0 [],false)],.cells [(.int .i64 0,false)],.cells [(sl 1 vint p.least,false),(sl 1 vint p.most,false)]]:Heap)=[.cells [(.int .i64 n,false)],.cells [(.list true 0 [],false)],.cells [(.int .i64 0,false)],.cells [(sl 1 vint p.least,false),(sl 1 vint p.most,false)]]:=after_same' rfl
   dsimp only at g1
   have this:∃ hh,callFn pr (X pr) 7 [sl 1 vint a,sl 1 vint b,.int .i64 n] []=some (.tup [sl 1 vint h,.int .i64 0],false,hh):=by
    rw [callFn_at (show pr.fns 7=some ⟨44,.seq a7_1 (.seq a7_2 (.seq a7_3 (.seq a7_4 (.seq a7_5 (.seq (.seq a7_6 (.block 0 rf7)) a7_7))))),[.cell 6 false 1,.cell 7 false 1]⟩ from rfl) (by simp)]
    simp only [E7v] at hx
    cases fl <;> (simp only [go_sem,seval,a7_1,a7_2,a7_3,a7_4,a7_5,a7_6,a7_7,b7,pcL,pcR,c7,g24,ha,hb,g1,g2,h2,hx] <;> exact ⟨_,rfl⟩)
   obtain ⟨hh,this⟩:=this
   exact callIso_of rfl this (by first | rfl | simp only [go_sem,seval]) (by first | rfl | simp only [go_sem,seval])
  ·cases hr
 ·cases hr
end Go.Z
/-
 TopConeLine: what the chamber's functions compute.
-/
namespace Go.Z
open Go Go.Abs
theorem f22_zero {o:Option (List Int)} (hn:(o.getD []).length≤1000000) (hz:∀ x∈o.getD [],x=0):f22 o=some 0:=by
 unfold f22
 rw [itO_thru (o.getD []).length (s22_0 o)]
 ·rfl
 ·unfold s22_0
  simp only [Int.lt_irrefl,decide_false,cond_false]
 ·intro i hi
  have hi':(i:Int) < ((o.getD []).length:Int):=by omega
  have hix:idxO (o.getD []) (i:Int)=some (o.getD [])[i]:=by rw [idxO_nat,List.getElem?_eq_getElem hi]
  have hz':=hz _ (List.getElem_mem hi)
  have hwr:wrapF .i64 ((i:Int) + 1)=((i + 1:Nat):Int):=wrap_nat (by omega)
  unfold s22_0
  simp only [hi',decide_true,cond_true,hix,obind_at,hz',hwr]
theorem f85_zero {o:Option (List Int)} (hn:(o.getD []).length≤1000000) (hz:∀ x∈o.getD [],x=0):f85 o=some 0:=by
 unfold f85
 rw [itO_thru (o.getD []).length (s85_0 o)]
 ·rfl
 ·unfold s85_0
  simp only [Int.lt_irrefl,decide_false,cond_false]
 ·intro i hi
  have hi':(i:Int) < ((o.getD []).length:Int):=by omega
  have hix:idxO (o.getD []) (i:Int)=some (o.getD [])[i]:=by rw [idxO_nat,List.getElem?_eq_getElem hi]
  have hz':=hz _ (List.getElem_mem hi)
  have hwr:wrapF .i64 ((i:Int) + 1)=((i + 1:Nat):Int):=wrap_nat (by omega)
  unfold s85_0
  simp only [hi',decide_true,cond_true,hix,obind_at,hz',hwr]
theorem f26_ok {x:Int} (h:-1048576≤x∧x≤1048576):f26 x=some 0:=by
 unfold f26 f60 f57
 have h1:¬ x < -1048576:=by omega
 have h2:¬ 1048576 < x:=by omega
 simp only [h1,h2,decide_false,cond_false,obind_at]
theorem f87_ok {x:Int} (h:-1048576≤x∧x≤1048576):f87 x=some 0:=by
 unfold f87 f105 f118
 have h1:¬ x < -1048576:=by omega
 have h2:¬ 1048576 < x:=by omega
 simp only [h1,h2,decide_false,cond_false,obind_at]
theorem loop25 {a0:Option (List Int)} {l:List Int} (ha:a0.getD []=l) (hn:l.length≤1000000) (hv:Lim 1048576 l):∀ (r:List Int) (i:Nat) (o:Option (List Int)) (fl:Bool),l.drop i=r→(o.getD []).length≤i→(fl=true∨o=none) →
  ∃ fl' j,itO (s25_0 a0) (o,(i:Int),fl)=some (app o (r.map fun _=>0),fl',j)
 | [],i,o,fl,hr,hl,hf=>by
  have:¬ (i:Int) < (l.length:Int):=by have:=List.drop_eq_nil_iff.1 hr; omega
  refine ⟨fl,(i:Int),itO_out ?_⟩
  unfold s25_0
  simp only [ha,this,decide_false,cond_false,List.map_nil,app]
 | v::r,i,o,fl,hr,hl,hf=>by
  have hlt:i < l.length:=by
   rcases Nat.lt_or_ge i l.length with h | h
   ·exact h
   ·rw [List.drop_of_length_le h] at hr; cases hr
  have hlt':(i:Int) < (l.length:Int):=by omega
  rw [drop_at hlt] at hr
  have hiv:=(List.cons.inj hr).1
  have hix:idxO l (i:Int)=some v:=by rw [idxO_nat,List.getElem?_eq_getElem hlt,hiv]
  have hwr:wrapF .i64 ((i:Int) + 1)=((i + 1:Nat):Int):=wrap_nat (by omega)
  have h26:=f26_ok (hv v (by rw [← hiv]; exact List.getElem_mem _))
  obtain ⟨fl',j,h1⟩:=loop25 ha hn hv r (i + 1) (some (o.getD []++[0])) true (List.cons.inj hr).2 (by simp; omega) (.inl rfl)
  refine ⟨fl',j,?_⟩
  rw [itO_in (s':=(some (o.getD []++[0]),((i + 1:Nat):Int),true)),h1,app_cons]; · rfl
  unfold s25_0
  simp only [ha,hlt',decide_true,cond_true,hix,obind_at,h26,hwr]
  exact app_own hf (by omega)
theorem loop86 {a0:Option (List Int)} {l:List Int} (ha:a0.getD []=l) (hn:l.length≤1000000) (hv:Lim 1048576 l):∀ (r:List Int) (i:Nat) (o:Option (List Int)) (fl:Bool),l.drop i=r→(o.getD []).length≤i→(fl=true∨o=none) →
  ∃ fl' j,itO (s86_0 a0) (o,(i:Int),fl)=some (app o (r.map fun _=>0),fl',j)
 | [],i,o,fl,hr,hl,hf=>by
  have:¬ (i:Int) < (l.length:Int):=by have:=List.drop_eq_nil_iff.1 hr; omega
  refine ⟨fl,(i:Int),itO_out ?_⟩
  unfold s86_0
  simp only [ha,this,decide_false,cond_false,List.map_nil,app]
 | v::r,i,o,fl,hr,hl,hf=>by
  have hlt:i < l.length:=by
   rcases Nat.lt_or_ge i l.length with h | h
   ·exact h
   ·rw [List.drop_of_length_le h] at hr; cases hr
  have hlt':(i:Int) < (l.length:Int):=by omega
  rw [drop_at hlt] at hr
  have hiv:=(List.cons.inj hr).1
  have hix:idxO l (i:Int)=some v:=by rw [idxO_nat,List.getElem?_eq_getElem hlt,hiv]
  have hwr:wrapF .i64 ((i:Int) + 1)=((i + 1:Nat):Int):=wrap_nat (by omega)
  have h87:=f87_ok (hv v (by rw [← hiv]; exact List.getElem_mem _))
  obtain ⟨fl',j,h1⟩:=loop86 ha hn hv r (i + 1) (some (o.getD []++[0])) true (List.cons.inj hr).2 (by simp; omega) (.inl rfl)
  refine ⟨fl',j,?_⟩
  rw [itO_in (s':=(some (o.getD []++[0]),((i + 1:Nat):Int),true)),h1,app_cons]; · rfl
  unfold s86_0
  simp only [ha,hlt',decide_true,cond_true,hix,obind_at,h87,hwr]
  exact app_own hf (by omega)
theorem zeros {α:Type} {l:List α}:∀ x∈(app none (l.map fun _=>(0:Int))).getD [],x=0:=by
 intro x hx
 rw [app_get] at hx
 simp only [Option.getD_none,List.nil_append,List.mem_map] at hx
 obtain ⟨_,_,rfl⟩:=hx
 rfl
theorem f25_ok {a0:Option (List Int)} {l:List Int} (ha:a0.getD []=l) (hn:l.length≤1000000) (hv:Lim 1048576 l):∃ r,f25 a0=some r∧f22 r.1=some 0:=by
 obtain ⟨fl,j,h⟩:=loop25 ha hn hv l 0 none false rfl (by simp) (.inr rfl)
 have h:itO (s25_0 a0) (none,0,false)=_:=h
 refine ⟨_,by unfold f25; rw [h,obind_at],?_⟩
 exact f22_zero (by rw [app_get]; simpa using hn) zeros
theorem f61_ok {a0:Option (List Int)} {l:List Int} (ha:a0.getD []=l) (hn:l.length≤4096) (hv:Lim 1048576 l):f61 a0=some 0:=by
 obtain ⟨fl,j,h⟩:=loop86 ha (by omega) hv l 0 none false rfl (by simp) (.inr rfl)
 have h:itO (s86_0 a0) (none,0,false)=_:=h
 have h86:f86 a0=some (app none (l.map fun _=>0),fl):=by unfold f86; rw [h,obind_at]
 have hlt:¬ 4096 < (l.length:Int):=by omega
 unfold f61
 rw [ha]
 simp only [hlt,decide_false,cond_false,h86,obind_at]
 rw [f85_zero (by rw [app_get]; simp; omega) zeros]
 rfl
theorem f23_ok {a0:Option (List Int)} {l:List Int} (ha:a0.getD []=l) (hn:l.length≤256) (hv:Lim 1048576 l):f23 a0=some 0:=by
 obtain ⟨r,h1,h2⟩:=f25_ok ha (by omega) hv
 have hlt:¬ 256 < (l.length:Int):=by omega
 unfold f23 f57
 rw [ha]
 simp only [hlt,decide_false,cond_false,obind_at,h1,h2]
 rw [f22_zero (by simp) (by simp)]
 rfl
theorem add_lim {x y:Int} (hx:-100000≤x∧x≤100000) (hy:-200≤y∧y≤200):wrapF .i64 (x + wrapF .i64 y)=x + y:=by
 rw [wrap_id (x:=y) (by omega) (by omega),wrap_id (by omega) (by omega)]
theorem loop59i {a0 a1:Option (List Int)} {h p:List Int} (h0:a0.getD []=h) (h1:a1.getD []=p) {N:Nat} (hN:N + 1=h.length + p.length) (hl:h.length≤8) (hpl:p.length≤64) {i:Nat} (hi:i < h.length) {lst:List Int} {x:Int} (hx:-200≤x∧x≤200) (hp:Lim 1 p):
  ∀ (d k:Nat) (f:Nat→Int),k + d=p.length→(∀ m,i + k≤m→-100000≤f m∧f m≤100000)→∃ j,itO (s59_1 a0 a1 ((i:Int),lst) x) ((k:Int),tb N f)=some (j,tb N fun m=>f m + if i + k≤m∧m < i + p.length then x * p.getD (m - i) 0 else 0)
 | 0,k,f,hk,hf=>by
  have hk:k=p.length:=by omega
  subst hk
  have e:(tb N fun m=>f m + if i + p.length≤m∧m < i + p.length then x * p.getD (m - i) 0 else 0)=tb N f:=tb_congr fun m _=>by rw [if_neg (by omega)]; omega
  rw [e]
  refine ⟨(p.length:Int),itO_out ?_⟩
  unfold s59_1
  simp only [h1,Int.lt_irrefl,decide_false,cond_false]
 | d + 1,k,f,hk,hf=>by
  have hlt:k < p.length:=by omega
  have hlt':(k:Int) < (p.length:Int):=by omega
  have hix:idxO p (k:Int)=some p[k]:=by rw [idxO_nat,List.getElem?_eq_getElem hlt]
  have hwr:wrapF .i64 ((k:Int) + 1)=((k + 1:Nat):Int):=wrap_nat (by omega)
  have hwn:wrapF .i64 (wrapF .i64 ((h.length:Int) + (p.length:Int)) - 1)=(N:Int):=by rw [wrap_id (x:=(h.length:Int) + (p.length:Int)) (by omega) (by omega),wrap_id (by omega) (by omega)]; omega
  have hik:wrapF .i64 ((i:Int) + (k:Int))=((i + k:Nat):Int):=by rw [wrap_id (by omega) (by omega)]; omega
  have hixm:idxM N (tb N f) ((i + k:Nat):Int)=some (f (i + k)):=by
   unfold idxM
   rw [if_pos (by omega),Int.toNat_natCast,tb_get (by omega)]
  have hpk:=hp _ (List.getElem_mem hlt)
  have hm:=mul_lim hx hpk
  have hfk:=hf (i + k) (Nat.le_refl _)
  obtain ⟨j,e1⟩:=loop59i h0 h1 hN hl hpl hi (lst:=lst) hx hp d (k + 1) (fun m=>if m=i + k then f (i + k) + x * p[k] else f m) (by omega) (fun m hm=>by
   rw [if_neg (by omega)]
   exact hf m (by omega))
  refine ⟨j,?_⟩
  rw [itO_in (s':=(((k + 1:Nat):Int),tb N fun m=>if m=i + k then f (i + k) + x * p[k] else f m)),e1]
  ·congr 2
   refine tb_congr fun m _=>?_
   have hg:p.getD k 0=p[k]:=by rw [List.getD_eq_getElem?_getD,List.getElem?_eq_getElem hlt]; rfl
   by_cases e:m=i + k
   ·subst e
    rw [if_pos rfl,if_neg (by omega),if_pos (by omega),show i + k - i=k by omega,hg]; omega
   ·rw [if_neg e]
    by_cases c:i + k≤m∧m < i + p.length
    ·rw [if_pos c,if_pos (by omega)]
    ·rw [if_neg c,if_neg (by omega)]
  ·unfold s59_1
   simp only [h0,h1,hlt',decide_true,cond_true,hix,obind_at,hwn,Int.toNat_natCast,hik,hixm,hwr,tb_set,add_lim hfk hm]
theorem loop59 {a0 a1:Option (List Int)} {h p:List Int} (h0:a0.getD []=h) (h1:a1.getD []=p) {N:Nat} (hN:N + 1=h.length + p.length) (hl:h.length≤8) (hpl:p.length≤64) (hh:Lim 200 h) (hp:Lim 1 p):
  ∀ (d i:Nat),i + d=h.length→∃ j,itO (s59_0 a0 a1) ((i:Int),tb N fun m=>sg (fun k=>h.getD k 0 * mv p m k) i)=some (j,tb N (cvF h p))
 | 0,i,hi=>by
  have hi:i=h.length:=by omega
  subst hi
  refine ⟨(h.length:Int),itO_out ?_⟩
  unfold s59_0
  simp only [h0,Int.lt_irrefl,decide_false,cond_false]
  rfl
 | d + 1,i,hi=>by
  have hlt:i < h.length:=by omega
  have hlt':(i:Int) < (h.length:Int):=by omega
  have hix:idxO h (i:Int)=some h[i]:=by rw [idxO_nat,List.getElem?_eq_getElem hlt]
  have hwr:wrapF .i64 ((i:Int) + 1)=((i + 1:Nat):Int):=wrap_nat (by omega)
  have hg:h.getD i 0=h[i]:=by rw [List.getD_eq_getElem?_getD,List.getElem?_eq_getElem hlt]; rfl
  obtain ⟨j0,e0⟩:=loop59i h0 h1 hN hl hpl hlt (lst:=tb N fun m=>sg (fun k=>h.getD k 0 * mv p m k) i) (x:=h[i]) (hh _ (List.getElem_mem hlt)) hp p.length 0 (fun m=>sg (fun k=>h.getD k 0 * mv p m k) i) (by omega) (fun m _=>by
   have:=sg_bound (f:=fun k=>h.getD k 0 * mv p m k) (B:=200) (n:=i) (fun k _=>mul_lim (lim_get hh (by omega) k) (lim_mv hp m k))
   omega)
  have e0:itO (s59_1 a0 a1 ((i:Int),tb N fun m=>sg (fun k=>h.getD k 0 * mv p m k) i) h[i]) (0,tb N fun m=>sg (fun k=>h.getD k 0 * mv p m k) i)=_:=e0
  obtain ⟨j,e1⟩:=loop59 h0 h1 hN hl hpl hh hp d (i + 1) (by omega)
  refine ⟨j,?_⟩
  rw [itO_in (s':=(((i + 1:Nat):Int),tb N fun m=>sg (fun k=>h.getD k 0 * mv p m k) (i + 1))),e1]
  have e5:(tb N fun m=>sg (fun k=>h.getD k 0 * mv p m k) i + if i + 0≤m∧m < i + p.length then h[i] * p.getD (m - i) 0 else 0)=tb N fun m=>sg (fun k=>h.getD k 0 * mv p m k) (i + 1):=tb_congr fun m _=>by
   rw [sg,hg]
   unfold mv
   by_cases c:i≤m∧m - i < p.length
   ·rw [if_pos c,if_pos (by omega)]
   ·rw [if_neg c,if_neg (by omega),Int.mul_zero]
  rw [e5] at e0
  unfold s59_0
  simp only [h0,hlt',decide_true,cond_true,hix,obind_at,e0,hwr]
theorem f59_eq {a0 a1:Option (List Int)} {h p:List Int} (h0:a0.getD []=h) (h1:a1.getD []=p) (hl0:0 < h.length) (hp0:0 < p.length) (hl:h.length≤8) (hpl:p.length≤64) (hh:Lim 200 h) (hp:Lim 1 p):f59 a0 a1=some (some (cv h p)):=by
 obtain ⟨N,hN⟩:∃ N,N + 1=h.length + p.length:=⟨h.length + p.length - 1,by omega⟩
 have hwn:wrapF .i64 (wrapF .i64 ((h.length:Int) + (p.length:Int)) - 1)=(N:Int):=by rw [wrap_id (x:=(h.length:Int) + (p.length:Int)) (by omega) (by omega),wrap_id (by omega) (by omega)]; omega
 have a1':¬ (h.length:Int)=0:=by omega
 have a2':¬ (p.length:Int)=0:=by omega
 have hmk:mkIO (N:Int)=some (tb N fun m=>sg (fun k=>h.getD k 0 * mv p m k) 0):=by
  unfold mkIO mkO
  rw [if_pos (by omega),Int.toNat_natCast,if_pos (by omega),tb_zero]
  rfl
 obtain ⟨j,e⟩:=loop59 h0 h1 hN hl hpl hh hp h.length 0 (by omega)
 have e:itO (s59_0 a0 a1) (0,tb N fun m=>sg (fun k=>h.getD k 0 * mv p m k) 0)=_:=e
 have htk:takeM N (tb N (cvF h p))=some (cv h p):=by
  unfold takeM
  rw [if_pos (by rw [tb_len]; omega),List.take_of_length_le (by rw [tb_len]; omega)]
  unfold cv
  rw [show h.length + p.length - 1=N by omega]
 unfold f59
 simp only [h0,h1,a1',a2',decide_false,cond_false,hwn,hmk,obind_at,e,Int.toNat_natCast,htk]
theorem mul_lim2 {x y:Int} (hx:-1≤x∧x≤1) (hy:-1600≤y∧y≤1600):-1600≤x * y∧x * y≤1600:=by
 have:x=-1∨x=0∨x=1:=by omega
 rcases this with rfl | rfl | rfl <;> omega
theorem loop27i {a0 a1:Option (List Int)} {n j:Nat} {A B g1 g2:List Int} {e:Int} (h0:a0.getD []=A) (h1:a1.getD []=B) (hA:Lim 1600 A) (hB:Lim 1600 B) (hg1:Lim 1 g1) (hg2:Lim 1 g2) (l1:g1.length=n) (l2:g2.length=n) (hn:n≤64) (hjA:j + n≤A.length) (hjB:j + n≤B.length) (hA2:A.length≤100) {s0:Option (List Int) × Int × Bool} (hs:s0.2.1=(j:Int)):
  ∀ (d i:Nat) (s:Int),i + d=n→-(3200 * i)≤s∧s≤3200 * i→s=sg (fun x=>g1.getD x 0 * A.getD (x + j) 0 + g2.getD x 0 * B.getD (x + j) 0) i→∃ q,itO (s27_1 a0 a1 (n:Int) (⟨some g1,some g2⟩,e) s0) (s,(i:Int))=some (sg (fun x=>g1.getD x 0 * A.getD (x + j) 0 + g2.getD x 0 * B.getD (x + j) 0) n,q)
 | 0,i,s,hi,hb,hse=>by
  have hi:i=n:=by omega
  subst hi
  rw [← hse]
  refine ⟨(i:Int),itO_out ?_⟩
  unfold s27_1
  simp only [Int.lt_irrefl,decide_false,cond_false]
 | d + 1,i,s,hi,hb,hse=>by
  have hlt':(i:Int) < (n:Int):=by omega
  have hwr:wrapF .i64 ((i:Int) + 1)=((i + 1:Nat):Int):=wrap_nat (by omega)
  have hij:wrapF .i64 ((i:Int) + (j:Int))=((i + j:Nat):Int):=by rw [wrap_id (by omega) (by omega)]; omega
  have gg:∀ {l:List Int} {k:Nat},k < l.length→idxO l (k:Int)=some (l.getD k 0):=fun {l k} hk=>by rw [idxO_nat,List.getD_eq_getElem?_getD,List.getElem?_eq_getElem hk]; rfl
  have x1:=mul_lim2 (lim_get hg1 (by omega) i) (lim_get hA (by omega) (i + j))
  have x2:=mul_lim2 (lim_get hg2 (by omega) i) (lim_get hB (by omega) (i + j))
  have hws:wrapF .i64 (s + wrapF .i64 (wrapF .i64 (g1.getD i 0 * A.getD (i + j) 0) + wrapF .i64 (g2.getD i 0 * B.getD (i + j) 0)))=s + (g1.getD i 0 * A.getD (i + j) 0 + g2.getD i 0 * B.getD (i + j) 0):=by
   rw [wrap_id (x:=g1.getD i 0 * A.getD (i + j) 0) (by omega) (by omega),wrap_id (x:=g2.getD i 0 * B.getD (i + j) 0) (by omega) (by omega),wrap_id (x:=g1.getD i 0 * A.getD (i + j) 0 + g2.getD i 0 * B.getD (i + j) 0) (by omega) (by omega),wrap_id (by omega) (by omega)]
  obtain ⟨q,e1⟩:=loop27i (e:=e) h0 h1 hA hB hg1 hg2 l1 l2 hn hjA hjB hA2 hs d (i + 1) (s + (g1.getD i 0 * A.getD (i + j) 0 + g2.getD i 0 * B.getD (i + j) 0)) (by omega) (by omega) (by rw [sg,← hse])
  refine ⟨q,?_⟩
  rw [itO_in (s':=(s + (g1.getD i 0 * A.getD (i + j) 0 + g2.getD i 0 * B.getD (i + j) 0),((i + 1:Nat):Int))),e1]
  unfold s27_1
  simp only [h0,h1,hs,hlt',decide_true,cond_true,Option.getD_some,gg (l:=g1) (k:=i) (by omega),gg (l:=g2) (k:=i) (by omega),hij,gg (l:=A) (k:=i + j) (by omega),gg (l:=B) (k:=i + j) (by omega),obind_at,hws,hwr]
theorem loop27 {a0 a1:Option (List Int)} {n L:Nat} {A B g1 g2:List Int} {e:Int} (h0:a0.getD []=A) (h1:a1.getD []=B) (hA:Lim 1600 A) (hB:Lim 1600 B) (hg1:Lim 1 g1) (hg2:Lim 1 g2) (l1:g1.length=n) (l2:g2.length=n) (hn:n≤64) (hlA:A.length + 1=L + n) (hlB:B.length=A.length) (hL:L≤8):
  ∀ (d j:Nat) (o:Option (List Int)) (fl:Bool),j + d=L→o.getD []=tb j (fun j=>sg (fun x=>g1.getD x 0 * A.getD (x + j) 0 + g2.getD x 0 * B.getD (x + j) 0) n)→(fl=true∨o=none)→(0 < j→o ≠ none) →
  ∃ o' fl' q,itO (s27_0 a0 a1 (n:Int) (⟨some g1,some g2⟩,e)) (o,(j:Int),fl)=some (o',fl',q)∧o'.getD []=tb L (fun j=>sg (fun x=>g1.getD x 0 * A.getD (x + j) 0 + g2.getD x 0 * B.getD (x + j) 0) n)∧(0 < L→o' ≠ none)
 | 0,j,o,fl,hj,ho,hf,hne=>by
  have hj:j=L:=by omega
  subst hj
  have hwn:wrapF .i64 (wrapF .i64 ((A.length:Int) - (n:Int)) + 1)=(j:Int):=by rw [wrap_id (x:=(A.length:Int) - (n:Int)) (by omega) (by omega),wrap_id (by omega) (by omega)]; omega
  refine ⟨o,fl,(j:Int),itO_out ?_,ho,hne⟩
  unfold s27_0
  simp only [h0,hwn,Int.lt_irrefl,decide_false,cond_false]
 | d + 1,j,o,fl,hj,ho,hf,hne=>by
  have hwn:wrapF .i64 (wrapF .i64 ((A.length:Int) - (n:Int)) + 1)=(L:Int):=by rw [wrap_id (x:=(A.length:Int) - (n:Int)) (by omega) (by omega),wrap_id (by omega) (by omega)]; omega
  have hlt':(j:Int) < (L:Int):=by omega
  have hwr:wrapF .i64 ((j:Int) + 1)=((j + 1:Nat):Int):=wrap_nat (by omega)
  have hol:(o.getD []).length=j:=by rw [ho,tb_len]
  obtain ⟨q,e1⟩:=loop27i (e:=e) h0 h1 hA hB hg1 hg2 l1 l2 hn (j:=j) (by omega) (by omega) (by omega) (s0:=(o,(j:Int),fl)) rfl n 0 0 (by omega) (by omega) rfl
  have e1:itO (s27_1 a0 a1 (n:Int) (⟨some g1,some g2⟩,e) (o,(j:Int),fl)) (0,0)=_:=e1
  obtain ⟨o',fl',q',e2,e3,e4⟩:=loop27 (e:=e) h0 h1 hA hB hg1 hg2 l1 l2 hn hlA hlB hL d (j + 1) (some (o.getD []++[sg (fun x=>g1.getD x 0 * A.getD (x + j) 0 + g2.getD x 0 * B.getD (x + j) 0) n])) true (by omega) (by
   rw [Option.getD_some,ho]
   simp [tb,List.range_succ]) (.inl rfl) (fun _=>by simp)
  refine ⟨o',fl',q',?_,e3,e4⟩
  rw [itO_in (s':=(some (o.getD []++[sg (fun x=>g1.getD x 0 * A.getD (x + j) 0 + g2.getD x 0 * B.getD (x + j) 0) n]),((j + 1:Nat):Int),true)),e2]
  unfold s27_0
  simp only [h0,hwn,hlt',decide_true,cond_true,e1,obind_at,hwr]
  exact app_own hf (by omega)
theorem cv_len {h p:List Int}:(cv h p).length=h.length + p.length - 1:=tb_len _ _
theorem cv_Lim {h p:List Int} (hh:Lim 200 h) (hp:Lim 1 p) (hl:h.length≤8):Lim 1600 (cv h p):=by
 intro x hx
 unfold cv tb at hx
 obtain ⟨m,_,rfl⟩:=List.mem_map.1 hx
 exact cv_lim hh hp hl m
theorem cv_get {h p:List Int} {m:Nat} (hm:m < h.length + p.length - 1):(cv h p).getD m 0=cvF h p m:=by
 unfold cv
 rw [List.getD_eq_getElem?_getD,tb_get hm]; rfl
theorem map_tb (h:List Int) (F:Int→Int):h.map F=tb h.length fun j=>F (h.getD j 0):=by
 have e:=congrArg (List.map F) (tb_of h)
 rw [← e]
 unfold tb
 rw [List.map_map]
 rfl
theorem two_pow {k:Nat} (hk:k < 7):1≤2 ^ k∧2 ^ k≤64:=by
 rcases pow7 hk with rfl | rfl | rfl | rfl | rfl | rfl | rfl <;> decide
theorem f21_at {k:Nat} (hk:k < 7):f21 ((2 ^ k:Nat):Int)=some (⟨some (gol k).1,some (gol k).2⟩,0):=by
 unfold f21
 rw [E56p_at hk,obind_at]
theorem f27_eq {a0 a1:Option (List Int)} {h:List Int} {k:Nat} (hk:k < 7) (hl0:0 < h.length) (hl:h.length≤8) (hh:Lim 200 h) (h0:a0.getD []=cv h (gol k).1) (h1:a1.getD []=cv h (gol k).2):
  f27 a0 a1 ((2 ^ k:Nat):Int)=some (some (h.map fun x=>2 * (2:Int) ^ k * x),⟨some (gol k).1,some (gol k).2⟩,0):=by
 have hp:=two_pow hk
 have hgl:=gol_len k
 have hgm:=gol_lim k
 have hA:=cv_Lim hh hgm.1 hl
 have hB:=cv_Lim hh hgm.2 hl
 have hlA:(cv h (gol k).1).length=h.length + 2 ^ k - 1:=by rw [cv_len,hgl.1]
 have hlB:(cv h (gol k).2).length=h.length + 2 ^ k - 1:=by rw [cv_len,hgl.2]
 obtain ⟨o',fl',q,e1,e2,e3⟩:=loop27 (e:=0) h0 h1 hA hB hgm.1 hgm.2 hgl.1 hgl.2 hp.2 (L:=h.length) (by omega) (by omega) hl h.length 0 none false (by omega) rfl (.inr rfl) (fun h=>by omega)
 have e1:itO (s27_0 a0 a1 ((2 ^ k:Nat):Int) (⟨some (gol k).1,some (gol k).2⟩,0)) (none,0,false)=_:=e1
 have hsum:o'=some (h.map fun x=>2 * (2:Int) ^ k * x):=by
  cases o' with
  | none=>exact absurd rfl (e3 hl0)
  | some r=>
   rw [Option.getD_some] at e2
   rw [e2,map_tb]
   refine congrArg some (tb_congr fun j hj'=>?_)
   rw [sg_congr (g:=fun x=>(gol k).1.getD x 0 * cvF h (gol k).1 (x + j) + (gol k).2.getD x 0 * cvF h (gol k).2 (x + j)) (fun x hx=>by rw [cv_get (by rw [hgl.1]; omega),cv_get (by rw [hgl.2]; omega)]),back hk hl hj']
 have c1:((cv h (gol k).1).length:Int)=((cv h (gol k).2).length:Int):=by omega
 have c2:0 < ((cv h (gol k).2).length:Int):=by omega
 have c3:¬ ((cv h (gol k).2).length:Int) < ((2 ^ k:Nat):Int):=by omega
 have c4:¬ wrapF .i64 (wrapF .i64 (((2 ^ k:Nat):Int) + 256) - 1) < ((cv h (gol k).2).length:Int):=by
  rw [wrap_id (x:=((2 ^ k:Nat):Int) + 256) (by omega) (by omega),wrap_id (by omega) (by omega)]; omega
 have c5:¬ ((cv h (gol k).2).length:Int)=0:=by omega
 have f1:=f61_ok h0 (by omega) (fun x hx=>by have:=hA x hx; omega)
 have f2:=f61_ok h1 (by omega) (fun x hx=>by have:=hB x hx; omega)
 have f3:f22 (some [0,0,0,0,0])=some 0:=f22_zero (by simp) (by simp)
 unfold f27
 simp only [f21_at hk,obind_at,h0,h1,c1,decide_true,cond_true,c2,f1,f2,f57,c3,c4,decide_false,cond_false,f3,c5,e1,hsum]
theorem f29_at {k:Nat} (hk:k < 7) {x:Int} (hx:-200≤x∧x≤200) {c1:Option (List Int)} {c2:Int} {c3 c4:Option (List Int)}:f29 (2 * (2:Int) ^ k * x) ((2 ^ k:Nat):Int) c1 c2 c3 c4=some x:=by
 have hp:=two_pow hk
 have e:((2 ^ k:Nat):Int)=(2:Int) ^ k:=by simp
 have hw:wrapF .i64 (2 * ((2 ^ k:Nat):Int))=2 * (2:Int) ^ k:=by rw [wrap_id (by omega) (by omega),e]
 have hpos:(0:Int) < 2 * (2:Int) ^ k:=by omega
 have hq:(2 * (2:Int) ^ k * x).tdiv (2 * (2:Int) ^ k)=x:=Int.mul_tdiv_cancel_left x (by omega)
 have hr:(2 * (2:Int) ^ k * x).tmod (2 * (2:Int) ^ k)=0:=Int.mul_tmod_right _ _
 unfold f29 f30 quoO remO
 rw [hw,if_neg (by omega),if_neg (by omega),hq,hr]
 simp only [obind_at,Int.lt_irrefl,decide_false,cond_false]
 rw [wrap_id (by omega) (by omega)]
theorem loop28 {a0:Option (List Int)} {h:List Int} {k:Nat} (hk:k < 7) (hl:h.length≤8) (hh:Lim 200 h) (ha:a0.getD []=h.map fun x=>2 * (2:Int) ^ k * x) {c1:Option (List Int)} {c2:Int} {c3 c4:Option (List Int)}:∀ (r:List Int) (i:Nat) (o:Option (List Int)) (fl:Bool),h.drop i=r→(o.getD []).length≤i→(fl=true∨o=none) →
  ∃ fl' j,itO (s28_0 a0 ((2 ^ k:Nat):Int) c1 c2 c3 c4) (o,(i:Int),fl)=some (app o r,fl',j)
 | [],i,o,fl,hr,hl2,hf=>by
  have:¬ (i:Int) < (((h.map fun x=>2 * (2:Int) ^ k * x).length:Nat):Int):=by have:=List.drop_eq_nil_iff.1 hr; rw [List.length_map]; omega
  refine ⟨fl,(i:Int),itO_out ?_⟩
  unfold s28_0
  simp only [ha,this,decide_false,cond_false,app]
 | v::r,i,o,fl,hr,hl2,hf=>by
  have hlt:i < h.length:=by
   rcases Nat.lt_or_ge i h.length with h | h
   ·exact h
   ·rw [List.drop_of_length_le h] at hr; cases hr
  have hlt':(i:Int) < (((h.map fun x=>2 * (2:Int) ^ k * x).length:Nat):Int):=by rw [List.length_map]; omega
  rw [drop_at hlt] at hr
  have hiv:=(List.cons.inj hr).1
  have hix:idxO (h.map fun x=>2 * (2:Int) ^ k * x) (i:Int)=some (2 * (2:Int) ^ k * v):=by rw [idxO_nat,List.getElem?_map,List.getElem?_eq_getElem hlt,hiv]; rfl
  have hwr:wrapF .i64 ((i:Int) + 1)=((i + 1:Nat):Int):=wrap_nat (by omega)
  have h29:=f29_at hk (hh v (by rw [← hiv]; exact List.getElem_mem _)) (c1:=c1) (c2:=c2) (c3:=c3) (c4:=c4)
  obtain ⟨fl',j,h1⟩:=loop28 hk hl hh ha (c1:=c1) (c2:=c2) (c3:=c3) (c4:=c4) r (i + 1) (some (o.getD []++[v])) true (List.cons.inj hr).2 (by simp; omega) (.inl rfl)
  refine ⟨fl',j,?_⟩
  rw [itO_in (s':=(some (o.getD []++[v]),((i + 1:Nat):Int),true)),h1,app_cons]
  unfold s28_0
  simp only [ha,hlt',decide_true,cond_true,hix,obind_at,h29,hwr]
  exact app_own hf (by omega)
theorem f28_eq {a0:Option (List Int)} {h:List Int} {k:Nat} (hk:k < 7) (hl:h.length≤8) (hh:Lim 200 h) (ha:a0.getD []=h.map fun x=>2 * (2:Int) ^ k * x) {c1:Option (List Int)} {c2:Int} {c3 c4:Option (List Int)}:∃ fl,f28 a0 ((2 ^ k:Nat):Int) c1 c2 c3 c4=some (app none h,fl):=by
 obtain ⟨fl,j,e⟩:=loop28 hk hl hh ha (c1:=c1) (c2:=c2) (c3:=c3) (c4:=c4) h 0 none false rfl (by simp) (.inr rfl)
 have e:itO (s28_0 a0 ((2 ^ k:Nat):Int) c1 c2 c3 c4) (none,0,false)=_:=e
 exact ⟨fl,by unfold f28; rw [e,obind_at]⟩
theorem f31_same {a b:Option (List Int)} {l:List Int} (h0:a.getD []=l) (h1:b.getD []=l) (hl:l.length≤1000000):f31 a b=some true:=by
 unfold f31
 rw [h0,h1]
 simp only [decide_true,cond_true]
 rw [itO_thru l.length (s31_0 a b),obind_at]
 ·unfold s31_0
  rw [h0]
  simp only [Int.lt_irrefl,decide_false,cond_false]
 ·intro i hi
  have hi':(i:Int) < (l.length:Int):=by omega
  have hix:idxO l (i:Int)=some l[i]:=by rw [idxO_nat,List.getElem?_eq_getElem hi]
  have hwr:wrapF .i64 ((i:Int) + 1)=((i + 1:Nat):Int):=wrap_nat (by omega)
  unfold s31_0
  simp only [h0,h1,hi',decide_true,cond_true,hix,obind_at,hwr]
end Go.Z
/-
 TopConeLine: measured with a complementary pair,a response comes back.
-/
namespace Go.Z
open Go Go.Abs
theorem chk_ok {l:List Int} (hn:l.length≤1000000) (hv:Lim 1048576 l):chk (some l)=some ():=by
 obtain ⟨r,h1,h2⟩:=f25_ok (a0:=some l) rfl hn hv
 unfold chk
 simp only [h1,obind_at,h2,decide_true,cond_true]
theorem E6a_eq {a0:Option (List Int)} {h:List Int} {k:Nat} (hk:k < 7) (hl0:0 < h.length) (hl:h.length≤8) (hh:Lim 200 h) (ha:a0.getD []=h):E6a a0 ((2 ^ k:Nat):Int)=some (some (cv h (gol k).1),some (cv h (gol k).2),0):=by
 have hp:=two_pow hk
 have hgl:=gol_len k
 have hgm:=gol_lim k
 have hA:=cv_Lim hh hgm.1 hl
 have hB:=cv_Lim hh hgm.2 hl
 have f0:f22 (some [0,0])=some 0:=f22_zero (by simp) (by simp)
 have h23:=f23_ok ha (by omega) (fun x hx=>by have:=hh x hx; omega)
 have g1:=f59_eq (a0:=a0) (a1:=some (gol k).1) (p:=(gol k).1) ha rfl hl0 (by rw [hgl.1]; omega) hl (by rw [hgl.1]; omega) hh hgm.1
 have g2:=f59_eq (a0:=a0) (a1:=some (gol k).2) (p:=(gol k).2) ha rfl hl0 (by rw [hgl.2]; omega) hl (by rw [hgl.2]; omega) hh hgm.2
 have c1:=chk_ok (l:=cv h (gol k).1) (by rw [cv_len]; omega) (fun x hx=>by have:=hA x hx; omega)
 have c2:=chk_ok (l:=cv h (gol k).2) (by rw [cv_len]; omega) (fun x hx=>by have:=hB x hx; omega)
 unfold E6a
 simp only [f21_at hk,obind_at,h23,f0,decide_true,cond_true,g1,g2,c1,c2]
theorem E7d_eq {h:List Int} {k:Nat} (hk:k < 7) (hl0:0 < h.length) (hl:h.length≤8) (hh:Lim 200 h):E7d (some (cv h (gol k).1)) (some (cv h (gol k).2)) ((2 ^ k:Nat):Int)=some (some h,0):=by
 have hp:=two_pow hk
 have hgl:=gol_len k
 have hgm:=gol_lim k
 have h27:=f27_eq (a0:=some (cv h (gol k).1)) (a1:=some (cv h (gol k).2)) hk hl0 hl hh rfl rfl
 obtain ⟨fl,h28⟩:=f28_eq (a0:=some (h.map fun x=>2 * (2:Int) ^ k * x)) hk hl hh rfl (c1:=none) (c2:=0) (c3:=some (gol k).1) (c4:=some (gol k).2)
 have happ:app none h=some h:=by
  cases h with
  | nil=>simp at hl0
  | cons x t=>rfl
 rw [happ] at h28
 have g1:=f59_eq (a0:=some h) (a1:=some (gol k).1) (h:=h) (p:=(gol k).1) rfl rfl hl0 (by rw [hgl.1]; omega) hl (by rw [hgl.1]; omega) hh hgm.1
 have g2:=f59_eq (a0:=some h) (a1:=some (gol k).2) (h:=h) (p:=(gol k).2) rfl rfl hl0 (by rw [hgl.2]; omega) hl (by rw [hgl.2]; omega) hh hgm.2
 have s1:=f31_same (a:=some (cv h (gol k).1)) (b:=some (cv h (gol k).1)) (l:=cv h (gol k).1) rfl rfl (by rw [cv_len]; omega)
 have s2:=f31_same (a:=some (cv h (gol k).2)) (b:=some (cv h (gol k).2)) (l:=cv h (gol k).2) rfl rfl (by rw [cv_len]; omega)
 unfold E7d
 simp only [h27,obind_at,decide_true,cond_true,h28,g1,g2,s1,s2,Bool.and_self]
end Go.Z
