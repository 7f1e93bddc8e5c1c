/-
  Chapter 4: the first fault of a choice, in the program: a range over its ladders for each band.
-/
import Derived.Test.YtnjngdcbkkonnaaGreatDoorA13
set_option linter.unusedVariables false
set_option linter.unusedSimpArgs false
set_option maxRecDepth 100000
set_option maxHeartbeats 4000000
namespace Go.Z
open Go Go.Abs
def qi1:ACode:=pcB (pcR (pcR (pcB (pcL (pcR (pcR qa4))))))
def qfh:ACode:=rfA qi1
def qdo:ACode:=rfB qi1
theorem q6f:qi1=.rangeFunc (.tmp 22) [23] qfh qdo:=rfl
section
variable (ps:Option (List qi)) (ch:Option (List Int)) (bs:Option (List ja)) (n i:Int) (b:ja)
def qbx:Env:=[(0,sl 8 qn ps,false),(1,sl 1 qu ch,false),(6,.ptr 0 0,false),(8,.ptr 1 0,false),(9,.ptr 2 0,false),(10,.ptr 3 0,false),(11,.ptr 4 0,false),(13,sl 5 jd bs,false),(14,.int .i64 n,false),(15,.int .i64 i,false),(22,.fn (.func 196) [] [.vptr (sl 1 qu ch),.vptr (sl 8 qn ps),.vptr (.bool false)],false)]
def qro (x:Option (List GEl)):Env:=[(0,sl 8 qn ps,false),(1,sl 1 qu ch,false),(6,.ptr 0 0,false),(8,.ptr 1 0,false),(9,.ptr 2 0,false),(10,.ptr 3 0,false),(11,.ptr 4 0,false),(12,sl 3 vel x,false),(13,sl 5 jd bs,false),(14,.int .i64 n,false),(15,.int .i64 i,false),(23,sl 3 vel x,false)]
def c1s (i:Int) (x:Option (List GEl)):List (AVal × Bool):=[(.int .i64 i,false),(sl 3 vel x,false)]
def bcs (b:ja):List (AVal × Bool):=[(.int .i64 b.w,false),(.int .i64 b.ln,false),(.int .i64 b.ld,false),(.int .i64 b.mn,false),(.int .i64 b.md,false)]
def qb9 (pd:Option jg):ABox:=.loop ⟨qbx ps ch bs n i,[23],qfh,qdo,pd⟩
def qah (k:Int) (x:Option (List GEl)) (fd:Bool) (i:Int) (b:ja) (lp:ABox) (T:ql):ql:=.cells (c1s 0 none)::.cells (c1s k x)::.cells [(.bool fd,false)]::.cells [(.int .i64 i,false)]::.cells (bcs b)::lp::T
end
section
variable {ps:Option (List qi)} {ch:Option (List Int)} {bs:Option (List ja)} {n i k:Int} {b:ja} {x:Option (List GEl)} {fd:Bool} {lp:ABox} {T:ql}
theorem G1:(qah k x fd i b lp T)[1]?=some (.cells [(.int .i64 k,false),(sl 3 vel x,false)]):=rfl
theorem G2:(qah k x fd i b lp T)[2]?=some (.cells [(.bool fd,false)]):=rfl
theorem G3:(qah k x fd i b lp T)[3]?=some (.cells [(.int .i64 i,false)]):=rfl
theorem G4:(qah k x fd i b lp T)[4]?=some (.cells [(.int .i64 b.w,false),(.int .i64 b.ln,false),(.int .i64 b.ld,false),(.int .i64 b.mn,false),(.int .i64 b.md,false)]):=rfl
theorem J1:decide (1 < (qah k x fd i b lp T).length)=true:=rfl
theorem J2:decide (2 < (qah k x fd i b lp T).length)=true:=rfl
theorem J3:decide (3 < (qah k x fd i b lp T).length)=true:=rfl
theorem J4:decide (4 < (qah k x fd i b lp T).length)=true:=rfl
theorem Y1 {k':Int} {x':Option (List GEl)}:(qah k x fd i b lp T).set 1 (.cells [(.int .i64 k',false),(sl 3 vel x',false)])=qah k' x' fd i b lp T:=rfl
theorem Y2 {fd':Bool}:(qah k x fd i b lp T).set 2 (.cells [(.bool fd',false)])=qah k x fd' i b lp T:=rfl
theorem q3m {x':Option (List GEl)} (h:f164 b x'=some true):
  ∃ en,X pr qdo ⟨qro ps ch bs n i x',qah k x fd i b lp T⟩=some (.normal,⟨en,qah k x fd i b lp T⟩):=by
 have g:=q0i h
 simp only [go_sem,seval,qdo,rfB,qi1,pcB,pcL,pcR,qa4,qro,g,G1,G2,G3,G4,J1,J2,J3,J4]
 exact ⟨_,rfl⟩
theorem q7a {x':Option (List GEl)} (h:f164 b x'=some false):
  ∃ en,X pr qdo ⟨qro ps ch bs n i x',qah k x fd i b lp T⟩=some (.exit 0,⟨en,qah i x' true i b lp T⟩):=by
 have g:=q0i h
 simp only [go_sem,seval,qdo,rfB,qi1,pcB,pcL,pcR,qa4,qro,g,G1,G2,G3,G4,J1,J2,J3,J4,Y1,Y2]
 exact ⟨_,rfl⟩
end
noncomputable def qpy (b:ja) (s:Unit) (x:Option (List GEl)):Option (Unit ⊕ Option (List GEl)):=qd (f164 b x) fun k=>cond k (some (.inl ())) (some (.inr x))
section
variable (ps:Option (List qi)) (ch:Option (List Int)) (bs:Option (List ja)) (n i:Int) (b:ja)
theorem q1d {m:Nat} (h:5≤m):km m (qbx ps ch bs n i)=true:=by
 have h1:Abs.below m (sl 1 qu ch)=true:=by simp only [go_sem,seval]
 have h2:Abs.below m (sl 8 qn ps)=true:=by simp only [go_sem,seval]
 have h5:Abs.below m (sl 5 jd bs)=true:=by simp only [go_sem,seval]
 have h3:∀ b,b < 5→Nat.blt b m=true:=fun b hb=>Nat.ble_eq_true_of_le (by omega)
 show (Abs.below m (sl 8 qn ps) && (Abs.below m (sl 1 qu ch) && (Nat.blt 0 m && (Nat.blt 1 m && (Nat.blt 2 m && (Nat.blt 3 m && (Nat.blt 4 m && (Abs.below m (sl 5 jd bs) && (true && (true && ((true && (Abs.below m (sl 1 qu ch) && (Abs.below m (sl 8 qn ps) && (true && true)))) && true)))))))))))=true
 rw [h1,h2,h5,h3 0 (by omega),h3 1 (by omega),h3 2 (by omega),h3 3 (by omega),h3 4 (by omega)]; rfl
theorem qqf {k:Int} {x:Option (List GEl)} {fd:Bool} {pd:Option jg} {m:Nat} (h:6≤m):jz m (qah k x fd i b (qb9 ps ch bs n i pd) [])=true:=by
 have h1:Abs.below m (sl 3 vel x)=true:=by simp only [go_sem,seval]
 have h2:Abs.below m (sl 3 vel none)=true:=by simp only [go_sem,seval]
 have he:=q1d ps ch bs n i (m:=m) (by omega)
 show ((true && (Abs.below m (sl 3 vel none) && true)) && ((true && (Abs.below m (sl 3 vel x) && true)) && ((true && true) && ((true && true) && ((true && (true && (true && (true && (true && true))))) && (km m (qbx ps ch bs n i) && true))))))=true
 rw [h1,h2,he]; rfl
def qdk:Base Unit (Option (List GEl)) where
 R _:=qah 0 none false i b (qb9 ps ch bs n i none) []
 RD x:=qah i x true i b (qb9 ps ch bs n i (some (.exit 0))) []
 n:=6
 b:=5
 ls _:=rfl
 ld _:=rfl
 bs k s h:=qqf ps ch bs n i b h
 bd k d h:=qqf ps ch bs n i b h
 hb:=by decide
 ch:=ch
 ps:=ps
 c:=false
theorem q9z:(qdk ps ch bs n i b).fam.yields (qpy b):=by
 intro s x els r h
 have eH:∀ s,(qdk ps ch bs n i b).fam.HS s++els.map zg=qah 0 none false i b (qb9 ps ch bs n i none) (qek (qdk ps ch bs n i b)::els.map zg):=fun _=>rfl
 have eD:∀ d:Option (List GEl),(qdk ps ch bs n i b).fam.HD d++els.map zg=qah i d true i b (qb9 ps ch bs n i (some (.exit 0))) (qek (qdk ps ch bs n i b)::els.map zg):=fun _=>rfl
 have hbel:∀ r,jz (els.length + 7) ((qdk ps ch bs n i b).fam.hr r++els.map zg)=true:=fun r=>(qdk ps ch bs n i b).fam.below (show 7≤els.length + 7 by omega)
 generalize hT:qek (qdk ps ch bs n i b)::els.map zg=T at eH eD
 have hlT:T.length=els.length + 1:=by rw [← hT,List.length_cons,List.length_map]
 show kx (X pr) 5 [sl 3 vel x] _=_
 rw [eH]
 have g0:∀ k z fd pd,yf (qah k z fd i b (qb9 ps ch bs n i pd) T) 5=some (.loop ⟨qbx ps ch bs n i,[23],qfh,qdo,pd⟩):=fun _ _ _ _=>rfl
 have se:qdc (noOwn (qbx ps ch bs n i)) [23] [sl 3 vel x]=some ((23,sl 3 vel x,false)::qbx ps ch bs n i):=rfl
 have as_run:∀ H,X pr qfh ⟨(23,sl 3 vel x,false)::qbx ps ch bs n i,H⟩=some (.normal,⟨qro ps ch bs n i x,H⟩):=by
  intro H
  simp only [go_sem,seval,qfh,rfA,qi1,pcB,pcL,pcR,qa4,qbx] <;> rfl
 have st0:∀ k z fd pd pd',(qah k z fd i b (qb9 ps ch bs n i pd) T).set 5 (.loop ⟨qbx ps ch bs n i,[23],qfh,qdo,pd'⟩)=qah k z fd i b (qb9 ps ch bs n i pd') T:=fun _ _ _ _ _=>rfl
 have hl:∀ k z fd pd,(qah k z fd i b (qb9 ps ch bs n i pd) T).length=els.length + 7:=fun _ _ _ _=>by show T.length + 6=_; omega
 unfold qpy at h
 obtain ⟨v,h1,h⟩:=qa h
 unfold kx
 cases v with
 | true=>
  cases h
  obtain ⟨en,hb⟩:=q3m (ps:=ps) (ch:=ch) (bs:=bs) (n:=n) (i:=i) (k:=0) (x:=none) (fd:=false) (lp:=qb9 ps ch bs n i (some .normal)) (T:=T) h1
  have ha:yc (els.length + 7) (.bool true) (qah 0 none false i b (qb9 ps ch bs n i none) T)=qah 0 none false i b (qb9 ps ch bs n i none) T:=qo8 (hl _ _ _ _)
  simp only [g0,se,as_run,Option.isNone_none,cond_true,st0,hl,hb,ha]
  show _=some (AVal.bool true,(qdk ps ch bs n i b).fam.HS ()++els.map zg)
  rw [eH]
 | false=>
  cases h
  obtain ⟨en,hb⟩:=q7a (ps:=ps) (ch:=ch) (bs:=bs) (n:=n) (i:=i) (k:=0) (x:=none) (fd:=false) (lp:=qb9 ps ch bs n i (some .normal)) (T:=T) h1
  have ha:yc (els.length + 7) (.bool true) (qah i x true i b (qb9 ps ch bs n i (some (.exit 0))) T)=qah i x true i b (qb9 ps ch bs n i (some (.exit 0))) T:=qo8 (hl _ _ _ _)
  simp only [g0,se,as_run,Option.isNone_none,cond_true,st0,hl,hb,ha]
  show _=some (AVal.bool false,(qdk ps ch bs n i b).fam.HD x++els.map zg)
  rw [eD]
def H5 (k:Int) (x:Option (List GEl)) (fd:Bool) (i:Int) (b:ja):ql:=[.cells (c1s 0 none),.cells (c1s k x),.cells [(.bool fd,false)],.cells [(.int .i64 i,false)],.cells (bcs b)]
theorem q48 {r} (h:vis (qpy b) ch ps false (ch.getD []).length none ()=some r):X pr qi1 ⟨qbx ps ch bs n i,H5 0 none false i b⟩=some (match r with
  | .inl _=>(.normal,⟨qbx ps ch bs n i,H5 0 none false i b⟩)
  | .inr x=>(.exit 0,⟨qbx ps ch bs n i,H5 i x true i b⟩)):=by
 have h1:=jcr (qdk ps ch bs n i b) (q9z ps ch bs n i b) h
 rw [q6f,qr6]
 unfold qa8
 have hn:(zr qfh && zr qdo)=true:=rfl
 have he:qk (qbx ps ch bs n i) (.tmp 22)=some (.fn (.func 196) [] [.vptr (sl 1 qu ch),.vptr (sl 8 qn ps),.vptr (.bool false)]):=rfl
 have hb:∀ k x fd,jz 5 (H5 k x fd i b)=true:=by
  intro k x fd
  have h1:Abs.below 5 (sl 3 vel x)=true:=by simp only [go_sem,seval]
  have h2:Abs.below 5 (sl 3 vel none)=true:=by simp only [go_sem,seval]
  show ((true && (Abs.below 5 (sl 3 vel none) && true)) && ((true && (Abs.below 5 (sl 3 vel x) && true)) && ((true && true) && ((true && true) && ((true && (true && (true && (true && (true && true))))) && true)))))=true
  rw [h1,h2]; rfl
 simp only [hn,cond_true,he,List.nil_append,List.cons_append]
 have hl:∀ k x fd,(H5 k x fd i b).length=5:=fun _ _ _=>rfl
 have h1':jl pr (X pr) 196 [.fn (.yield (H5 0 none false i b).length) [] [],.vptr (sl 1 qu ch),.vptr (sl 8 qn ps),.vptr (.bool false)] (H5 0 none false i b++[.loop ⟨qbx ps ch bs n i,[23],qfh,qdo,none⟩])=some (.tup [],false,(qdk ps ch bs n i b).fam.hr r):=h1
 rw [h1']
 cases r with
 | inl s'=>
  have hg:yf ((qdk ps ch bs n i b).fam.hr (.inl s')) 5=some (.loop ⟨qbx ps ch bs n i,[23],qfh,qdo,none⟩):=rfl
  have ht:((qdk ps ch bs n i b).fam.hr (.inl s')).take 5=H5 0 none false i b:=rfl
  simp only [hl,hg,ht]
  rw [hb]
  rfl
 | inr x=>
  have hg:yf ((qdk ps ch bs n i b).fam.hr (.inr x)) 5=some (.loop ⟨qbx ps ch bs n i,[23],qfh,qdo,some (.exit 0)⟩):=rfl
  have ht:((qdk ps ch bs n i b).fam.hr (.inr x)).take 5=H5 i x true i b:=rfl
  simp only [hl,hg,ht]
  rw [hb]
  rfl
end
def qwf:ACode:=pcL qa4
def qw9:ACode:=pcL (pcR qa4)
def quz:ACode:=pcL (pcB (pcL (pcR (pcR qa4))))
def qwd:ACode:=pcL (pcR (pcB (pcL (pcR (pcR qa4)))))
def qvp:ACode:=pcR (pcR (pcR qa4))
theorem q4n:qa4=.seq qwf (.seq qw9 (.seq (.block 1 (.seq quz (.seq qwd (.block 2 qi1)))) qvp)):=rfl
noncomputable def qfw (ps:Option (List qi)) (ch:Option (List Int)) (bs:Option (List ja)) (i:Int):Option (Int ⊕ (Int ⊕ (Int × ja × Option (List GEl)))):=
 cond (decide (i < ((bs.getD []).length:Int))) (qd (j7 (bs.getD []) i) fun b=>qd (vis (qpy b) ch ps false (ch.getD []).length none ()) fun r=>match r with
  | .inl _=>some (.inl (qg .i64 (i + 1)))
  | .inr x=>some (.inr (.inr (i,b,x)))) (some (.inr (.inl i)))
section
variable (ps:Option (List qi)) (ch:Option (List Int)) (bs:Option (List ja))
def qgy (i:Int):ASt:=⟨[(0,sl 8 qn ps,false),(1,sl 1 qu ch,false),(6,.ptr 0 0,false),(8,.ptr 1 0,false),(9,.ptr 2 0,false),(13,sl 5 jd bs,false),(14,.int .i64 ((bs.getD []).length:Int),false),(15,.int .i64 i,false)],[.cells (c1s 0 none),.cells (c1s 0 none),.cells [(.bool false,false)]]⟩
def qn7:Int ⊕ (Int × ja × Option (List GEl))→jg × ASt
 | .inl i=>(.exit 0,⟨[(0,sl 8 qn ps,false),(1,sl 1 qu ch,false),(6,.ptr 0 0,false),(8,.ptr 1 0,false),(9,.ptr 2 0,false),(13,sl 5 jd bs,false),(14,.int .i64 ((bs.getD []).length:Int),false),(15,.int .i64 i,false),(16,.bool false,false)],[.cells (c1s 0 none),.cells (c1s 0 none),.cells [(.bool false,false)]]⟩)
 | .inr d=>(.exit 0,⟨qbx ps ch bs ((bs.getD []).length:Int) d.1,H5 d.1 d.2.2 true d.1 d.2.1⟩)
theorem jc2 (i:Int) (r) (h:qfw ps ch bs i=some r):zd pr qa4 (qgy ps ch bs) (qn7 ps ch bs) i r:=by
 unfold qfw at h
 have g159:=jp3 (ps:=ps) (ch:=ch) (c:=false)
 rcases qb h with ⟨h1,k⟩ | ⟨h1,k⟩
 ·obtain ⟨b,h2,k⟩:=qa k
  obtain ⟨q,h3,k⟩:=qa k
  have hx:=q48 ps ch bs ((bs.getD []).length:Int) i b h3
  simp only [qbx,H5,c1s,bcs] at hx
  rw [q4n]
  cases q with
  | inl s=>
   cases k
   dsimp only at hx
   refine qo (st':=⟨[(0,sl 8 qn ps,false),(1,sl 1 qu ch,false),(6,.ptr 0 0,false),(8,.ptr 1 0,false),(9,.ptr 2 0,false),(13,sl 5 jd bs,false),(14,.int .i64 ((bs.getD []).length:Int),false),(15,.int .i64 (qg .i64 (i + 1)),false)],[.cells (c1s 0 none),.cells (c1s 0 none),.cells [(.bool false,false)]]++[.cells [(.int .i64 i,false)],.cells (bcs b)]⟩) ?_ ?_
   ·simp only [go_sem,seval,qwf,qw9,quz,qwd,qvp,pcL,pcR,pcB,qa4,qgy,c1s,bcs,h1,qw h2,g159,hx] <;> rfl
   ·exact zp rfl rfl (by first | simp only [go_sem,seval,qgy,c1s] | rfl) (by first | simp only [go_sem,seval,qgy,c1s] | rfl)
  | inr x=>
   cases k
   dsimp only at hx
   refine qj ?_
   simp only [go_sem,seval,qwf,qw9,quz,qwd,qvp,pcL,pcR,pcB,qa4,qgy,c1s,bcs,h1,qw h2,g159,hx,qn7,qbx,H5] <;> rfl
 ·cases k
  exact qj (by simp only [go_sem,seval,qa4,qgy,h1,qn7] <;> rfl)
theorem jed {i:Int} {d} (h:itO (qfw ps ch bs) i=some d):X pr (.loop qa4) (qgy ps ch bs i)=some (qn7 ps ch bs d):=zi (jc2 ps ch bs) (fun d=>by rcases d with d | d <;> (intro hh; cases hh)) h
end
noncomputable def f117 (ps:Option (List qi)) (ch:Option (List Int)) (bs:Option (List ja)):Option (jx × Bool):=
 qd (itO (qfw ps ch bs) 0) fun d=>match d with
  | .inl _=>some (⟨0,none⟩,false)
  | .inr d=>some (⟨d.1,d.2.2⟩,true)
theorem jpp {ps:Option (List qi)} {ch:Option (List Int)} {bs:Option (List ja)} {r} (h:f117 ps ch bs=some r):qc pr (X pr) 117 [sl 8 qn ps,sl 1 qu ch,sl 5 jd bs]=some (.tup [.agg [.int .i64 r.1.band,sl 3 vel r.1.ladder],.bool r.2],false):=by
 unfold f117 at h
 obtain ⟨d,h1,h⟩:=qa h
 have hl:=jed ps ch bs h1
 have hnl:sl 3 vel (none:Option (List GEl))=.list true 0 []:=rfl
 cases d with
 | inl i=>
  cases h
  simp only [qgy,qn7,c1s,hnl] at hl
  refine qp rfl ?_ (fun _=>by first | rfl | simp only [go_sem,seval]) (by first | rfl | simp only [go_sem,seval])
  rw [qf (show pr.fns 117=some c117 from rfl) (by simp)]
  simp only [go_sem,seval,c117,hl]
  exact ⟨_,rfl⟩
 | inr d=>
  cases h
  simp only [qgy,qn7,c1s,qbx,H5,bcs,hnl] at hl
  refine qp rfl ?_ (fun _=>by first | rfl | simp only [go_sem,seval]) (by first | rfl | simp only [go_sem,seval])
  rw [qf (show pr.fns 117=some c117 from rfl) (by simp)]
  simp only [go_sem,seval,c117,hl]
  exact ⟨_,rfl⟩
end Go.Z
/-
 Chapter 4: faults: functions that mirror the runs,and the runs (printed by walk.py).
-/
namespace Go.Z
open Go Go.Abs
noncomputable def f59 (a0:Option (List qi)) (a1:Option (List Int)) (a2:Option (List ja)):Option (jx × Int):=
 qd (f133 a0 a1) fun v1=>
 qd (f81 a2) fun v3=>
 qd (f105 (some [v1,v3])) fun v5=>
 cond (decide (v5=0))
  (qd (f117 a0 a1 a2) fun v8=>
  qd (f106 (!v8.2) 7) fun v10=>
  some (v8.1,v10))
  (some (⟨0,none⟩,v5))
theorem W59 {a0:Option (List qi)} {a1:Option (List Int)} {a2:Option (List ja)} {r} (h:f59 a0 a1 a2=some r):qc pr (X pr) 59 [sl 8 qn a0,sl 1 qu a1,sl 5 jd a2]=some (.tup [.agg [.int .i64 r.1.band,sl 3 vel r.1.ladder],.int .i64 r.2],false):=by
 unfold f59 at h
 obtain ⟨v1,h2,h⟩:=qa h
 obtain ⟨v3,h4,h⟩:=qa h
 obtain ⟨v5,h6,h⟩:=qa h
 have wh6:qc pr (X pr) 105 [.list false 1 [.int .i64 v1,.int .i64 v3]]=some (.int .i64 v5,false):=qhm h6
 rcases qb h with ⟨h7,h⟩ | ⟨h7,h⟩
 ·obtain ⟨v8,h9,h⟩:=qa h
  obtain ⟨v10,h11,h⟩:=qa h
  have wh11:qc pr (X pr) 106 [.bool (!v8.2),.int .i64 7]=some (.int .i64 v10,false):=qb8 h11
  have hr:(v8.1,v10)=r:=Option.some.inj h
  subst hr
  refine qp rfl ?_ (fun _=>by first | rfl | simp only [go_sem,seval]) (by first | rfl | simp only [go_sem,seval])
  rw [qf (show pr.fns 59=some c59 from rfl) (by simp)]
  simp only [go_sem,seval,c59,q1k h2,W81 h4,wh6,h7,jpp h9,wh11]
  exact ⟨_,rfl⟩
 ·have hr:(⟨0,none⟩,v5)=r:=Option.some.inj h
  subst hr
  refine qp rfl ?_ (fun _=>by first | rfl | simp only [go_sem,seval]) (by first | rfl | simp only [go_sem,seval])
  rw [qf (show pr.fns 59=some c59 from rfl) (by simp)]
  simp only [go_sem,seval,c59,q1k h2,W81 h4,wh6,h7]
  exact ⟨_,rfl⟩
noncomputable def f77 (a0:Option (List qi)) (a1:Option (List Int)) (a2:Option (List ja)) (a3:jx):Option Int:=
 qd (f133 a0 a1) fun v1=>
 qd (f81 a2) fun v3=>
 qd (f105 (some [v1,v3])) fun v5=>
 cond (decide (v5=0))
  (qd (f141 a3 a0 a1 a2) fun v8=>
  some v8)
  (some v5)
theorem W77 {a0:Option (List qi)} {a1:Option (List Int)} {a2:Option (List ja)} {a3:jx} {r} (h:f77 a0 a1 a2 a3=some r):qc pr (X pr) 77 [sl 8 qn a0,sl 1 qu a1,sl 5 jd a2,.agg [.int .i64 a3.band,sl 3 vel a3.ladder]]=some (.int .i64 r,false):=by
 unfold f77 at h
 obtain ⟨v1,h2,h⟩:=qa h
 obtain ⟨v3,h4,h⟩:=qa h
 obtain ⟨v5,h6,h⟩:=qa h
 have wh6:qc pr (X pr) 105 [.list false 1 [.int .i64 v1,.int .i64 v3]]=some (.int .i64 v5,false):=qhm h6
 rcases qb h with ⟨h7,h⟩ | ⟨h7,h⟩
 ·obtain ⟨v8,h9,h⟩:=qa h
  have wh9:qc pr (X pr) 141 [.agg [.int .i64 a3.band,sl 3 vel a3.ladder],sl 8 qn a0,sl 1 qu a1,sl 5 jd a2]=some (.int .i64 v8,false):=jro h9
  have hr:v8=r:=Option.some.inj h
  subst hr
  refine qp rfl ?_ (fun _=>by first | rfl | simp only [go_sem,seval]) (by first | rfl | simp only [go_sem,seval])
  rw [qf (show pr.fns 77=some c77 from rfl) (by simp)]
  simp only [go_sem,seval,c77,q1k h2,W81 h4,wh6,h7,wh9]
  exact ⟨_,rfl⟩
 ·have hr:v5=r:=Option.some.inj h
  subst hr
  refine qp rfl ?_ (fun _=>by first | rfl | simp only [go_sem,seval]) (by first | rfl | simp only [go_sem,seval])
  rw [qf (show pr.fns 77=some c77 from rfl) (by simp)]
  simp only [go_sem,seval,c77,q1k h2,W81 h4,wh6,h7]
  exact ⟨_,rfl⟩
end Go.Z
