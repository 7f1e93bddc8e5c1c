/-
  Parse: a line of the range over the lines.
-/
import Derived.Test.YtlonjmhacojkjaaGreatDoorN4
set_option linter.unusedVariables false
set_option linter.unusedSimpArgs false
set_option maxRecDepth 100000
set_option maxHeartbeats 4000000
namespace Go.Z
open Go Go.Abs
def pcL:ACode→ACode
 | .seq a _=>a
 | x=>x
def pcR:ACode→ACode
 | .seq _ b=>b
 | x=>x
def pcB:ACode→ACode
 | .block _ b=>b
 | x=>x
def rfA:ACode→ACode
 | .rangeFunc _ _ a _=>a
 | x=>x
def rfB:ACode→ACode
 | .rangeFunc _ _ _ b=>b
 | x=>x
def rf9:ACode:=pcB (pcR (pcL (pcR (pcR (pcR (pcR c11.body))))))
def as9:ACode:=rfA rf9
def bd9:ACode:=rfB rf9
theorem rf9_eq:rf9=.rangeFunc (.tmp 17) [18] as9 bd9:=rfl
def E11:Env:=[(2,.ptr 0 0,false),(3,.ptr 1 0,false),(4,.ptr 2 0,false),(5,.ptr 3 0,false),(6,.ptr 4 0,false),(17,.fn (.func 65) [] [.ptr 5 0],false)]
def H9 (A B:Int) (o:Option (List GUnit)) (ow:Bool) (n:Int) (s:List UInt8) (pd:Option AExit):Heap:=
 [.cells [(.list true 0 [],false)],.cells [(.int .i64 A,false)],.cells [(.int .i64 B,false)],.cells [(sl 2 vunit o,ow)],.cells [(.int .i64 n,false)],.cells [(.str s,false)],.loop ⟨E11,[18],as9,bd9,pd⟩]
theorem as9_run {x:List UInt8} {H:Heap}:X prD as9 ⟨(18,.str x,false)::E11,H⟩=some (.normal,⟨[(2,.ptr 0 0,false),(3,.ptr 1 0,false),(4,.ptr 2 0,false),(5,.ptr 3 0,false),(6,.ptr 4 0,false),(7,.str x,false)],H⟩):=by
 simp only [go_sem,seval,as9,rfA,rf9,pcB,pcL,pcR,c11,E11] <;> rfl
def Eb (x:List UInt8):Env:=[(2,.ptr 0 0,false),(3,.ptr 1 0,false),(4,.ptr 2 0,false),(5,.ptr 3 0,false),(6,.ptr 4 0,false),(7,.str x,false)]
theorem bd9_no {A B:Int} {o:Option (List GUnit)} {ow:Bool} {n:Int} {s x b:List UInt8} {w:Bool} {u:GUnit} {is:Bool} {pd:Option AExit} (h1:E39 x [10]=some (b,w)) (h2:f40 b=some (u,is)) (h3:w=false∨is=false):
  ∃ e t,X prD bd9 ⟨Eb x,H9 A B o ow n s pd⟩=some (.ret,⟨e,H9 n 26 o ow n s pd++t⟩):=by
 have g1:=M39 h1
 have g2:=W40 h2
 simp only [] at g1 g2
 rcases h3 with rfl | rfl
 ·simp only [go_sem,seval,bd9,rfB,rf9,pcB,pcL,pcR,c11,Eb,H9,g1,g2]
  exact ⟨_,_,rfl⟩
 ·cases w <;> simp only [go_sem,seval,bd9,rfB,rf9,pcB,pcL,pcR,c11,Eb,H9,g1,g2] <;> exact ⟨_,_,rfl⟩
theorem bd9_yes {A B:Int} {o v:Option (List GUnit)} {ow:Bool} {n:Int} {s x b:List UInt8} {u:GUnit} {pd:Option AExit} (h1:E39 x [10]=some (b,true)) (h2:f40 b=some (u,true)) (h3:apO o [u]=some v) (h4:ow=true∨o.isNone=true):
  ∃ e t,X prD bd9 ⟨Eb x,H9 A B o ow n s pd⟩=some (.normal,⟨e,H9 A B v true (wrapF .i64 (n + 1)) s pd++t⟩):=by
 have g1:=M39 h1
 have g2:=W40 h2
 simp only [] at g1 g2
 have h3':apO o [⟨u.serial,u.values⟩]=some v:=h3
 by_cases ho:ow=true
 ·subst ho
  simp only [go_sem,seval,bd9,rfB,rf9,pcB,pcL,pcR,c11,Eb,H9,g1,g2,app_vunit_O h3]
  exact ⟨_,_,rfl⟩
 ·have ho:ow=false:=by simpa using ho
  subst ho
  have hn:o.isNone=true:=by simpa using h4
  simp only [go_sem,seval,bd9,rfB,rf9,pcB,pcL,pcR,c11,Eb,H9,g1,g2,app_vunit_N h3' hn]
  exact ⟨_,_,rfl⟩
end Go.Z
/-
 Parse: a round of the range over the lines.
-/
namespace Go.Z
open Go Go.Abs
theorem after_tail {n:Nat} {v:AVal} {h t:Heap} (hn:h.length=n) (hv:Abs.below n v=true) (hb:belowHeap n h=true):afterShared n v (h++t)=h:=by
 have ht:(h++t).take n=h:=by rw [← hn,List.take_left']; rfl
 unfold afterShared
 rw [ht,hv,hb]
 cases hc:Nat.ble (h++t).length n with
 | false=>rfl
 | true=>
  have:=Nat.le_of_ble_eq_true hc
  rw [List.length_append] at this
  have h0:t=[]:=List.length_eq_zero_iff.1 (by omega)
  subst h0
  simp
abbrev S9:=Option (List GUnit) × Bool × Int
noncomputable def y9 (st:S9) (x:List UInt8):Option (S9 ⊕ Unit):=
 obind (E39 x [10]) fun p=>obind (f40 p.1) fun q=>
 cond (p.2 && q.2) (cond (st.2.1 || st.1.isNone) (obind (apO st.1 [q.1]) fun v=>some (.inl (v,true,wrapF .i64 (st.2.2 + 1)))) none) (some (.inr ()))
section
variable {A B:Int} {o v:Option (List GUnit)} {ow:Bool} {n:Int} {s x:List UInt8}
theorem H9_below {pd:Option AExit}:belowHeap 7 (H9 A B o ow n s pd)=true:=by
 have ho:Abs.below 7 (sl 2 vunit o)=true:=by simp only [go_sem,seval]
 show ((true && true) && ((true && true) && ((true && true) && ((Abs.below 7 (sl 2 vunit o) && true) && ((true && true) && ((true && true) && (true && true)))))))=true
 rw [ho]; rfl
theorem yield9 {r:S9 ⊕ Unit} (h:y9 (o,ow,n) x=some r):yieldOp (X prD) 6 [.str x] (H9 A B o ow n s none)=match r with
  | .inl d=>some (.bool true,H9 A B d.1 d.2.1 d.2.2 s none)
  | .inr _=>some (.bool false,H9 n 26 o ow n s (some .ret)):=by
 have g:∀ A B o ow n pd t,getBox (H9 A B o ow n s pd++t) 6=some (.loop ⟨E11,[18],as9,bd9,pd⟩):=fun _ _ _ _ _ _ _=>rfl
 have g0:∀ A B o ow n pd,getBox (H9 A B o ow n s pd) 6=some (.loop ⟨E11,[18],as9,bd9,pd⟩):=fun _ _ _ _ _ _=>rfl
 have se:setEnvs (noOwn E11) [18] [.str x]=some ((18,.str x,false)::E11):=rfl
 have st:∀ A B o ow n pd pd' t,(H9 A B o ow n s pd++t).set 6 (.loop ⟨E11,[18],as9,bd9,pd'⟩)=H9 A B o ow n s pd'++t:=fun _ _ _ _ _ _ _ _=>rfl
 have st0:∀ A B o ow n pd pd',(H9 A B o ow n s pd).set 6 (.loop ⟨E11,[18],as9,bd9,pd'⟩)=H9 A B o ow n s pd':=fun _ _ _ _ _ _ _=>rfl
 have hl:∀ A B o ow n pd,(H9 A B o ow n s pd).length=7:=fun _ _ _ _ _ _=>rfl
 have ha:∀ A B o ow n pd v t,Abs.below 7 v=true→afterShared 7 v (H9 A B o ow n s pd++t)=H9 A B o ow n s pd:=fun _ _ _ _ _ _ _ _ hv=>after_tail rfl hv H9_below
 unfold y9 at h
 obtain ⟨p,h1,h⟩:=obind_some h
 obtain ⟨q,h2,h⟩:=obind_some h
 obtain ⟨b,w⟩:=p
 obtain ⟨u,is⟩:=q
 dsimp only at h h2
 unfold yieldOp
 rcases cond_split h with ⟨h3,k⟩ | ⟨h3,k⟩
 ·clear h
  simp only [Bool.and_eq_true] at h3
  obtain ⟨rfl,rfl⟩:=h3
  rcases cond_split k with ⟨h4,k2⟩ | ⟨h4,k2⟩
  ·obtain ⟨v,h5,k3⟩:=obind_some k2
   clear k k2
   cases k3
   obtain ⟨e,t,hb⟩:=bd9_yes (A:=A) (B:=B) (n:=n) (s:=s) (pd:=some .normal) h1 h2 h5 (by simpa using h4)
   simp only [g0,se,as9_run,Option.isNone_none,cond_true,st0,hl]
   rw [show ([(2,AVal.ptr 0 0,false),(3,.ptr 1 0,false),(4,.ptr 2 0,false),(5,.ptr 3 0,false),(6,.ptr 4 0,false),(7,.str x,false)]:Env)=Eb x from rfl,hb]
   simp only [g,st]
   rw [ha _ _ _ _ _ _ _ _ rfl]
  ·cases k2
 ·clear h
  cases k
  obtain ⟨e,t,hb⟩:=bd9_no (A:=A) (B:=B) (o:=o) (ow:=ow) (n:=n) (s:=s) (pd:=some .normal) h1 h2 (by cases w <;> cases is <;> simp_all)
  simp only [g0,se,as9_run,Option.isNone_none,cond_true,st0,hl]
  rw [show ([(2,AVal.ptr 0 0,false),(3,.ptr 1 0,false),(4,.ptr 2 0,false),(5,.ptr 3 0,false),(6,.ptr 4 0,false),(7,.str x,false)]:Env)=Eb x from rfl,hb]
  simp only [g,st]
  rw [ha _ _ _ _ _ _ _ _ rfl]
end
end Go.Z
/-
 Parse: the range over the lines: what is read of a text,line by line.
-/
namespace Go.Z
open Go Go.Abs
abbrev S88:=(S9 × List UInt8) × Bool
noncomputable def s65 (d:S88):Option (S88 ⊕ ((S9 × List UInt8) ⊕ (S9 × List UInt8))):=
 cond (decide (0 < (d.1.2.length:Int)))
  (obind (E66 d.1.2 10) fun i=>
  cond (decide (0≤i))
   (obind (cutO d.1.2 none (some (wrapF .i64 (i + 1)))) fun line=>
   obind (cutO d.1.2 (some (wrapF .i64 (i + 1))) none) fun rest=>
   obind (y9 d.1.1 line) fun r=>match r with
    | .inl e=>some (.inl ((e,rest),false))
    | .inr _=>some (.inr (.inr (d.1.1,rest))))
   (obind (y9 d.1.1 d.1.2) fun r=>match r with
    | .inl e=>some (.inl ((e,[]),false))
    | .inr _=>some (.inr (.inr (d.1.1,[])))))
  (some (.inr (.inl d.1)))
def St65 (d:S88):ASt:=⟨(0,.fn (.yield 6) [] [],false)::(1,.ptr 5 0,false)::(bif d.2 then [] else [(24,.bool false,false)]),H9 0 0 d.1.1.1 d.1.1.2.1 d.1.1.2.2 d.1.2 none⟩
def Ex65:(S9 × List UInt8) ⊕ (S9 × List UInt8)→AExit × ASt
 | .inl d=>(.exit 0,⟨[(0,.fn (.yield 6) [] [],false),(1,.ptr 5 0,false),(7,.bool false,false)],H9 0 0 d.1.1 d.1.2.1 d.1.2.2 d.2 none⟩)
 | .inr d=>(.ret,⟨[(0,.fn (.yield 6) [] [],false),(1,.ptr 5 0,false),(24,.bool true,false)],H9 d.1.2.2 26 d.1.1 d.1.2.1 d.1.2.2 d.2 (some .ret)⟩)
theorem b65 (d:S88) (r) (h:s65 d=some r):stepO prD c65_0 St65 Ex65 d r:=by
 obtain ⟨⟨⟨o,ow,n⟩,s⟩,fl⟩:=d
 unfold s65 at h
 dsimp only at h
 rcases cond_split h with ⟨h1,k⟩ | ⟨h1,k⟩
 ·obtain ⟨i,h2,k2⟩:=obind_some k
  have g2:=M66 h2
  rcases cond_split k2 with ⟨h3,k3⟩ | ⟨h3,k3⟩
  ·obtain ⟨line,h4,k4⟩:=obind_some k3
   obtain ⟨rest,h5,k5⟩:=obind_some k4
   obtain ⟨q,h6,k6⟩:=obind_some k5
   have hy:=yield9 (A:=0) (B:=0) (s:=rest) h6
   cases q with
   | inl e=>
    cases k6
    simp only [H9] at hy
    refine stepO_in (st':=St65 ((e,rest),false)) ?_ (gc_same (Nat.le_refl _))
    cases fl <;> (simp only [go_sem,seval,c65_0,St65,H9,h1,g2,h3,strCut_h h4,strCut_l h5,hy] <;> rfl)
   | inr e=>
    cases k6
    simp only [H9] at hy
    refine stepO_out ?_
    cases fl <;> (simp only [go_sem,seval,c65_0,St65,H9,h1,g2,h3,strCut_h h4,strCut_l h5,hy,Ex65] <;> rfl)
  ·obtain ⟨q,h6,k6⟩:=obind_some k3
   have hy:=yield9 (A:=0) (B:=0) (s:=[]) h6
   cases q with
   | inl e=>
    cases k6
    simp only [H9] at hy
    refine stepO_in (st':=St65 ((e,[]),false)) ?_ (gc_same (Nat.le_refl _))
    cases fl <;> (simp only [go_sem,seval,c65_0,St65,H9,h1,g2,h3,hy] <;> rfl)
   | inr e=>
    cases k6
    simp only [H9] at hy
    refine stepO_out ?_
    cases fl <;> (simp only [go_sem,seval,c65_0,St65,H9,h1,g2,h3,hy,Ex65] <;> rfl)
 ·cases k
  refine stepO_out ?_
  cases fl <;> (simp only [go_sem,seval,c65_0,St65,H9,h1,Ex65] <;> rfl)
theorem l65 {d:S88} {r} (h:itO s65 d=some r):X prD (.loop c65_0) (St65 d)=some (Ex65 r):=X_itO b65 (fun d=>by cases d <;> (intro hh; cases hh)) h
end Go.Z
/-
 Parse: the range over the lines,in Parse.
-/
namespace Go.Z
open Go Go.Abs
theorem after_same' {n:Nat} {v:AVal} {h:Heap} (hn:h.length=n):afterShared n v h=h:=by
 unfold afterShared
 rw [Nat.ble_eq_true_of_le (by omega)]; rfl
noncomputable def lines9 (d:S9) (s:List UInt8):Option ((S9 × List UInt8) ⊕ (S9 × List UInt8)):=itO s65 ((d,s),true)
def H6' (A B:Int) (o:Option (List GUnit)) (ow:Bool) (n:Int) (s:List UInt8):Heap:=
 [.cells [(.list true 0 [],false)],.cells [(.int .i64 A,false)],.cells [(.int .i64 B,false)],.cells [(sl 2 vunit o,ow)],.cells [(.int .i64 n,false)],.cells [(.str s,false)]]
def out9 (r:(S9 × List UInt8) ⊕ (S9 × List UInt8)) (pd:Bool):Heap:=match r with
 | .inl d=>H9 0 0 d.1.1 d.1.2.1 d.1.2.2 d.2 none
 | .inr d=>H9 d.1.2.2 26 d.1.1 d.1.2.1 d.1.2.2 d.2 (some .ret)
theorem W65 {o:Option (List GUnit)} {ow:Bool} {n:Int} {s:List UInt8} {r} (h:lines9 (o,ow,n) s=some r):callFn prD (X prD) 65 [.fn (.yield 6) [] [],.ptr 5 0] (H6' 0 0 o ow n s++[.loop ⟨E11,[18],as9,bd9,none⟩])=some (.tup [],false,out9 r true):=by
 have h1:=l65 h
 rw [callFn_at (show prD.fns 65=some c65 from rfl) (by simp)]
 have ha:afterShared 7 (.tup []) (out9 r true)=out9 r true:=by cases r <;> exact after_same' rfl
 cases r with
 | inl d=>
  simp only [St65,Ex65,H9,H6',out9,cond_true] at h1 ha ⊢
  simp only [go_sem,seval,c65,h1,ha] <;> rfl
 | inr d=>
  simp only [St65,Ex65,H9,H6',out9,cond_true] at h1 ha ⊢
  simp only [go_sem,seval,c65,h1,ha] <;> rfl
theorem range9 {o:Option (List GUnit)} {ow:Bool} {n:Int} {s:List UInt8} {r} (h:lines9 (o,ow,n) s=some r):X prD rf9 ⟨E11,H6' 0 0 o ow n s⟩=some (match r with
  | .inl d=>(.normal,⟨E11,H6' 0 0 d.1.1 d.1.2.1 d.1.2.2 d.2⟩)
  | .inr d=>(.ret,⟨E11,H6' d.1.2.2 26 d.1.1 d.1.2.1 d.1.2.2 d.2⟩)):=by
 have h1:=W65 h
 have hb:∀ A B o ow n s,belowHeap 6 (H6' A B o ow n s)=true:=by
  intro A B o ow n s
  have ho:Abs.below 6 (sl 2 vunit o)=true:=by simp only [go_sem,seval]
  show ((true && true) && ((true && true) && ((true && true) && ((Abs.below 6 (sl 2 vunit o) && true) && ((true && true) && ((true && true) && true))))))=true
  rw [ho]; rfl
 rw [rf9_eq,X_range]
 unfold xrange
 have hn:(noRange as9 && noRange bd9)=true:=rfl
 have he:evalO E11 (.tmp 17)=some (.fn (.func 65) [] [.ptr 5 0]):=rfl
 have hl:(H6' 0 0 o ow n s).length=6:=rfl
 simp only [hn,cond_true,he,hl,List.nil_append,List.cons_append,h1]
 cases r with
 | inl d=>
  have hg:getBox (out9 (.inl d) true) 6=some (.loop ⟨E11,[18],as9,bd9,none⟩):=rfl
  have ht:(out9 (.inl d) true).take 6=H6' 0 0 d.1.1 d.1.2.1 d.1.2.2 d.2:=rfl
  simp only [hg,ht,hb,cond_true]
 | inr d=>
  have hg:getBox (out9 (.inr d) true) 6=some (.loop ⟨E11,[18],as9,bd9,some .ret⟩):=rfl
  have ht:(out9 (.inr d) true).take 6=H6' d.1.2.2 26 d.1.1 d.1.2.1 d.1.2.2 d.2:=rfl
  simp only [hg,ht,hb,cond_true]
end Go.Z
/-
 Parse: its run.
-/
namespace Go.Z
open Go Go.Abs
def b11:ACode:=pcR (pcR (pcR (pcR c11.body)))
def a9_1:ACode:=pcL c11.body
def a9_2:ACode:=pcL (pcR c11.body)
def a9_3:ACode:=pcL (pcR (pcR c11.body))
def a9_4:ACode:=pcL (pcR (pcR (pcR c11.body)))
def a9_5:ACode:=pcL (pcL b11)
def a9_6:ACode:=pcR b11
noncomputable def f11 (s:List UInt8):Option (Option (List GUnit) × Int × Int):=
 cond (decide (1000000 < (s.length:Int))) (some (none,0,27))
  (obind (lines9 (none,false,0) s) fun r=>match r with
   | .inr d=>some (none,d.1.2.2,26)
   | .inl d=>obind (E1022 d.1.1) fun e=>cond (decide (e=0)) (some (d.1.1,0,0)) (some (none,d.1.2.2,e)))
def H5':Heap:=[.cells [(.list true 0 [],false)],.cells [(.int .i64 0,false)],.cells [(.int .i64 0,false)],.cells [(.list true 0 [],false)],.cells [(.int .i64 0,false)]]
theorem W38 {s:List UInt8}:callFn prD (X prD) 38 [.str s] H5'=some (.fn (.func 65) [] [.ptr 5 0],false,H6' 0 0 none false 0 s):=by
 rw [callFn_at (show prD.fns 38=some c38 from rfl) (by simp)]
 simp only [go_sem,seval,c38,H5',H6'] <;> rfl
theorem r9_1 {s:List UInt8}:X prD a9_1 ⟨[(0,.str s,false)],[]⟩=some (.normal,⟨[(0,.str s,false),(2,.ptr 0 0,false),(3,.ptr 1 0,false),(4,.ptr 2 0,false)],[.cells [(.list true 0 [],false)],.cells [(.int .i64 0,false)],.cells [(.int .i64 0,false)]]⟩):=by
 simp only [go_sem,seval,a9_1,pcL,c11] <;> rfl
theorem r9_2t {s:List UInt8} (h:decide (1000000 < (s.length:Int))=true):X prD a9_2 ⟨[(0,.str s,false),(2,.ptr 0 0,false),(3,.ptr 1 0,false),(4,.ptr 2 0,false)],[.cells [(.list true 0 [],false)],.cells [(.int .i64 0,false)],.cells [(.int .i64 0,false)]]⟩=some (.ret,⟨[(2,.ptr 0 0,false),(3,.ptr 1 0,false),(4,.ptr 2 0,false)],[.cells [(.list true 0 [],false)],.cells [(.int .i64 0,false)],.cells [(.int .i64 27,false)]]⟩):=by
 simp only [go_sem,seval,a9_2,pcL,pcR,c11,h] <;> rfl
theorem r9_2f {s:List UInt8} (h:decide (1000000 < (s.length:Int))=false):X prD a9_2 ⟨[(0,.str s,false),(2,.ptr 0 0,false),(3,.ptr 1 0,false),(4,.ptr 2 0,false)],[.cells [(.list true 0 [],false)],.cells [(.int .i64 0,false)],.cells [(.int .i64 0,false)]]⟩=some (.normal,⟨[(0,.str s,false),(2,.ptr 0 0,false),(3,.ptr 1 0,false),(4,.ptr 2 0,false),(15,.bool false,false)],[.cells [(.list true 0 [],false)],.cells [(.int .i64 0,false)],.cells [(.int .i64 0,false)]]⟩):=by
 simp only [go_sem,seval,a9_2,pcL,pcR,c11,h] <;> rfl
theorem r9_3 {s:List UInt8}:X prD a9_3 ⟨[(0,.str s,false),(2,.ptr 0 0,false),(3,.ptr 1 0,false),(4,.ptr 2 0,false),(15,.bool false,false)],[.cells [(.list true 0 [],false)],.cells [(.int .i64 0,false)],.cells [(.int .i64 0,false)]]⟩=some (.normal,⟨[(0,.str s,false),(2,.ptr 0 0,false),(3,.ptr 1 0,false),(4,.ptr 2 0,false),(5,.ptr 3 0,false)],[.cells [(.list true 0 [],false)],.cells [(.int .i64 0,false)],.cells [(.int .i64 0,false)],.cells [(.list true 0 [],false)]]⟩):=by
 simp only [go_sem,seval,a9_3,pcL,pcR,c11] <;> rfl
theorem r9_4 {s:List UInt8}:X prD a9_4 ⟨[(0,.str s,false),(2,.ptr 0 0,false),(3,.ptr 1 0,false),(4,.ptr 2 0,false),(5,.ptr 3 0,false)],[.cells [(.list true 0 [],false)],.cells [(.int .i64 0,false)],.cells [(.int .i64 0,false)],.cells [(.list true 0 [],false)]]⟩=some (.normal,⟨[(0,.str s,false),(2,.ptr 0 0,false),(3,.ptr 1 0,false),(4,.ptr 2 0,false),(5,.ptr 3 0,false),(6,.ptr 4 0,false)],H5'⟩):=by
 simp only [go_sem,seval,a9_4,pcL,pcR,c11,H5'] <;> rfl
theorem r9_5 {s:List UInt8}:X prD a9_5 ⟨[(0,.str s,false),(2,.ptr 0 0,false),(3,.ptr 1 0,false),(4,.ptr 2 0,false),(5,.ptr 3 0,false),(6,.ptr 4 0,false)],H5'⟩=some (.normal,⟨E11,H6' 0 0 none false 0 s⟩):=by
 have h4:=W38 (s:=s)
 have ha:afterShared 5 (.fn (.func 65) [] [.ptr 5 0]) (H6' 0 0 none false 0 s)=H6' 0 0 none false 0 s:=rfl
 simp only [H5',H6'] at h4 ha ⊢
 simp only [go_sem,seval,a9_5,b11,pcL,pcR,c11,E11,h4,ha] <;> rfl
theorem W11 {s:List UInt8} {r} (h:f11 s=some r):callIso prD (X prD) 11 [.str s]=some (.tup [sl 2 vunit r.1,.int .i64 r.2.1,.int .i64 r.2.2],false):=by
 have this:∃ hh,callFn prD (X prD) 11 [.str s] []=some (.tup [sl 2 vunit r.1,.int .i64 r.2.1,.int .i64 r.2.2],false,hh):=by
  rw [callFn_at (show prD.fns 11=some ⟨49,.seq a9_1 (.seq a9_2 (.seq a9_3 (.seq a9_4 (.seq (.seq a9_5 (.block 0 rf9)) a9_6)))),[.cell 2 false 1,.cell 3 false 1,.cell 4 false 1]⟩ from rfl) (by simp)]
  unfold f11 at h
  rcases cond_split h with ⟨h1,k⟩ | ⟨h1,k⟩
  ·cases k
   simp only [go_sem,seval,r9_1,r9_2t h1]
   exact ⟨_,rfl⟩
  ·obtain ⟨q,h2,k2⟩:=obind_some k
   have h3:=range9 h2
   cases q with
   | inr d=>
    cases k2
    simp only [go_sem,seval,r9_1,r9_2f h1,r9_3,r9_4,r9_5,h3]
    simp only [go_sem,seval,H6',E11]
    exact ⟨_,rfl⟩
   | inl d=>
    obtain ⟨e,h4,k3⟩:=obind_some k2
    have g4:=M32 h4
    rcases cond_split k3 with ⟨h5,k4⟩ | ⟨h5,k4⟩
    ·cases k4
     clear h k k2 k3 h4
     obtain ⟨⟨o',ow',n'⟩,s'⟩:=d
     dsimp only at h3 g4 ⊢
     simp only [go_sem,seval,r9_1,r9_2f h1,r9_3,r9_4,r9_5,h3]
     cases ow' <;> (simp only [go_sem,seval,H6',a9_6,b11,pcR,c11,E11,g4,h5]; exact ⟨_,rfl⟩)
    ·cases k4
     simp only [go_sem,seval,r9_1,r9_2f h1,r9_3,r9_4,r9_5,h3]
     simp only [go_sem,seval,H6',a9_6,b11,pcR,c11,E11,g4,h5]
     exact ⟨_,rfl⟩
 obtain ⟨hh,this⟩:=this
 exact callIso_of rfl this (by first | rfl | simp only [go_sem,seval]) (by first | rfl | simp only [go_sem,seval])
end Go.Z
