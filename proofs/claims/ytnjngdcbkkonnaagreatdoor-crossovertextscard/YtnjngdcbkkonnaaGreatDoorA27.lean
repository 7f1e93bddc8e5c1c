/- Chapter 4. -/
import Derived.Test.YtnjngdcbkkonnaaGreatDoorA25
import Derived.Test.YtnjngdcbkkonnaaGreatDoorLZ
import Derived.Test.YtnjngdcbkkonnaaGreatDoorG0
import Derived.Test.YtnjngdcbkkonnaaGreatDoorAbsL
set_option linter.unusedVariables false
set_option linter.unusedSimpArgs false
set_option maxRecDepth 100000
set_option maxHeartbeats 4000000
namespace Go.Z
open Go Go.Abs
theorem jjy {a0:List UInt8} {r} (h:f217 a0=some r):qd prV (X prV) 217 [.str a0]=some (.tup [.int .i64 r.1,.bool r.2],false):=atV rfl rfl (atZ rfl rfl (atE rfl rfl (jir h) (by first | rfl | simp only [go_sem,seval])) (by first | rfl | simp only [go_sem,seval])) (by first | rfl | simp only [go_sem,seval])
theorem V23 {a0:Option (List qf)} {r} (h:f23 a0=some r):qd prV (X prV) 23 [sl 8 qn a0]=some (.int .i64 r,false):=atV rfl rfl (atZ rfl rfl (atE rfl rfl (W23 h) (by first | rfl | simp only [go_sem,seval])) (by first | rfl | simp only [go_sem,seval])) (by first | rfl | simp only [go_sem,seval])
noncomputable def f190 (c0_0:List UInt8) (c0_1:List UInt8) (c0_2:Int) (c0_3:Int) (c0_4:Int) (c0_5:Int) (c0_6:Int) (c0_7:Int) (c1_0:Option (List (List UInt8))) (c1_1:Bool) (c2_0:Int) (c2_1:Int) (c2_2:Int) (c2_3:Int) (c2_4:Int) (c2_5:Int):Option (Int × (Option (List (List UInt8))) × Bool):=
 qg (jy (c1_0.getD []) 0) fun v1=>
 qg (f217 v1) fun v3=>
 qg (qb3 c1_0 (some 1) none) fun v5=>
 cond c1_1
  (some (v3.1,v5,true))
  (some (v3.1,v5,!v3.2))
theorem jk7 {c0_0:List UInt8} {c0_1:List UInt8} {c0_2:Int} {c0_3:Int} {c0_4:Int} {c0_5:Int} {c0_6:Int} {c0_7:Int} {c1_0:Option (List (List UInt8))} {c1_1:Bool} {c2_0:Int} {c2_1:Int} {c2_2:Int} {c2_3:Int} {c2_4:Int} {c2_5:Int} {r} (h:f190 c0_0 c0_1 c0_2 c0_3 c0_4 c0_5 c0_6 c0_7 c1_0 c1_1 c2_0 c2_1 c2_2 c2_3 c2_4 c2_5=some r):ja prV (X prV) 190 [.ptr 1 0] [.cells [(.str c0_0,false),(.str c0_1,false),(.int .i64 c0_2,false),(.int .i64 c0_3,false),(.int .i64 c0_4,false),(.int .i64 c0_5,false),(.int .i64 c0_6,false),(.int .i64 c0_7,false)],.cells [(sl 1 j5 c1_0,false),(.bool c1_1,false)],.cells [(.int .i64 c2_0,false),(.int .i64 c2_1,false),(.int .i64 c2_2,false),(.int .i64 c2_3,false),(.int .i64 c2_4,false),(.int .i64 c2_5,false)]]=some (.int .i64 r.1,false,[.cells [(.str c0_0,false),(.str c0_1,false),(.int .i64 c0_2,false),(.int .i64 c0_3,false),(.int .i64 c0_4,false),(.int .i64 c0_5,false),(.int .i64 c0_6,false),(.int .i64 c0_7,false)],.cells [(sl 1 j5 r.2.1,false),(.bool r.2.2,false)],.cells [(.int .i64 c2_0,false),(.int .i64 c2_1,false),(.int .i64 c2_2,false),(.int .i64 c2_3,false),(.int .i64 c2_4,false),(.int .i64 c2_5,false)]]):=by
 unfold f190 at h
 obtain ⟨v1,h2,h⟩:=qb h
 obtain ⟨v3,h4,h⟩:=qb h
 have wh4:qd prV (X prV) 217 [.str v1]=some (.tup [.int .i64 v3.1,.bool v3.2],false):=jjy h4
 obtain ⟨v5,h6,h⟩:=qb h
 rcases qa h with ⟨h7,h⟩ | ⟨h7,h⟩
 ·have hr:(v3.1,v5,true)=r:=Option.some.inj h
  subst hr
  rw [ql (show prV.fns 190=some c190 from rfl) (by simp)]
  simp only [go_sem,seval,c190,q9 h2,wh4,qpn h6,h7] <;> rfl
 ·have hr:(v3.1,v5,!v3.2)=r:=Option.some.inj h
  subst hr
  rw [ql (show prV.fns 190=some c190 from rfl) (by simp)]
  simp only [go_sem,seval,c190,q9 h2,wh4,qpn h6,h7] <;> rfl
noncomputable def nx (w:Option (List (List UInt8))) (b:Bool):Option (Int × Option (List (List UInt8)) × Bool):=
 qg (jy (w.getD []) 0) fun v=>qg (f217 v) fun q=>qg (qb3 w (some 1) none) fun t=>cond b (some (q.1,t,true)) (some (q.1,t,!q.2))
theorem qfx {w:Option (List (List UInt8))} {b:Bool} {r} (h:nx w b=some r) {a0 a1 a2 a3 a4 a5:Int}:ja prV (X prV) 190 [.ptr 1 0] [.cells [(.str [],false),(.str [],false),(.int .i64 0,false),(.int .i64 0,false),(.int .i64 0,false),(.int .i64 0,false),(.int .i64 0,false),(.int .i64 0,false)],.cells [(sl 1 j5 w,false),(.bool b,false)],.cells [(.int .i64 a0,false),(.int .i64 a1,false),(.int .i64 a2,false),(.int .i64 a3,false),(.int .i64 a4,false),(.int .i64 a5,false)]]=some (.int .i64 r.1,false,[.cells [(.str [],false),(.str [],false),(.int .i64 0,false),(.int .i64 0,false),(.int .i64 0,false),(.int .i64 0,false),(.int .i64 0,false),(.int .i64 0,false)],.cells [(sl 1 j5 r.2.1,false),(.bool r.2.2,false)],.cells [(.int .i64 a0,false),(.int .i64 a1,false),(.int .i64 a2,false),(.int .i64 a3,false),(.int .i64 a4,false),(.int .i64 a5,false)]]):=jk7 h
theorem wq1:qi .i64 1=1:=by decide
theorem wq2:qi .i64 2=2:=by decide
theorem wq3:qi .i64 3=3:=by decide
theorem wq4:qi .i64 4=4:=by decide
theorem wq5:qi .i64 5=5:=by decide
theorem wq6:qi .i64 6=6:=by decide
theorem q1l {e:Env} {a b c:ABox}:gc 3 ⟨e,[a,b,c]⟩=⟨e,[a,b,c]⟩:=qw (Nat.le_refl _)
def qiu:qf:=⟨[],[],0,0,0,0,0,0⟩
noncomputable def f152 (s:List UInt8):Option (qf × Bool):=
 qg (qpb s [32]) fun ws=>
 cond (decide (((ws.getD []).length:Int)=8))
  (qg (jy (ws.getD []) 0) fun a=>
  cond (decide (a=[])) (some (qiu,false))
   (qg (jy (ws.getD []) 1) fun b=>
   cond (decide (b=[])) (some (qiu,false))
    (qg (qb3 ws (some 2) none) fun t=>
    qg (nx t false) fun n0=>qg (nx n0.2.1 n0.2.2) fun n1=>qg (nx n1.2.1 n1.2.2) fun n2=>qg (nx n2.2.1 n2.2.2) fun n3=>qg (nx n3.2.1 n3.2.2) fun n4=>qg (nx n4.2.1 n4.2.2) fun n5=>
    some (⟨a,b,n0.1,n1.1,n2.1,n3.1,n4.1,n5.1⟩,!n5.2.2))))
  (some (qiu,false))
theorem q69 {s:List UInt8} {r} (h:f152 s=some r):qd prV (X prV) 152 [.str s]=some (.tup [.agg [.str r.1.name,.str r.1.kd,.int .i64 r.1.pa,.int .i64 r.1.pb,.int .i64 r.1.sa,.int .i64 r.1.sb,.int .i64 r.1.cost,.int .i64 r.1.stock],.bool r.2],false):=by
 unfold f152 at h
 obtain ⟨ws,h2,h⟩:=qb h
 have wh2:=jlw h2
 rcases qa h with ⟨h3,h⟩ | ⟨h3,h⟩
 ·obtain ⟨a,h4,h⟩:=qb h
  rcases qa h with ⟨h5,h⟩ | ⟨h5,h⟩
  ·cases h
   have this:∃ hh,ja prV (X prV) 152 [.str s] []=some (.tup [.agg [.str [],.str [],.int .i64 0,.int .i64 0,.int .i64 0,.int .i64 0,.int .i64 0,.int .i64 0],.bool false],false,hh):=by
    rw [ql (show prV.fns 152=some c152 from rfl) (by simp)]
    simp only [go_sem,seval,c152,wh2,h3,q9 h4,h5]
    exact ⟨_,rfl⟩
   obtain ⟨hh,this⟩:=this
   exact jj rfl this (by first | rfl | simp only [go_sem,seval]) (by first | rfl | simp only [go_sem,seval])
  ·obtain ⟨b,h6,h⟩:=qb h
   rcases qa h with ⟨h7,h⟩ | ⟨h7,h⟩
   ·cases h
    have this:∃ hh,ja prV (X prV) 152 [.str s] []=some (.tup [.agg [.str [],.str [],.int .i64 0,.int .i64 0,.int .i64 0,.int .i64 0,.int .i64 0,.int .i64 0],.bool false],false,hh):=by
     rw [ql (show prV.fns 152=some c152 from rfl) (by simp)]
     simp only [go_sem,seval,c152,wh2,h3,q9 h4,h5,q9 h6,h7]
     exact ⟨_,rfl⟩
    obtain ⟨hh,this⟩:=this
    exact jj rfl this (by first | rfl | simp only [go_sem,seval]) (by first | rfl | simp only [go_sem,seval])
   ·obtain ⟨t,h8,h⟩:=qb h
    obtain ⟨n0,k0,h⟩:=qb h
    obtain ⟨n1,k1,h⟩:=qb h
    obtain ⟨n2,k2,h⟩:=qb h
    obtain ⟨n3,k3,h⟩:=qb h
    obtain ⟨n4,k4,h⟩:=qb h
    obtain ⟨n5,k5,h⟩:=qb h
    cases h
    have this:∃ hh,ja prV (X prV) 152 [.str s] []=some (.tup [.agg [.str a,.str b,.int .i64 n0.1,.int .i64 n1.1,.int .i64 n2.1,.int .i64 n3.1,.int .i64 n4.1,.int .i64 n5.1],.bool !n5.2.2],false,hh):=by
     rw [ql (show prV.fns 152=some c152 from rfl) (by simp)]
     simp only [c152,q0v]
     simp only [go_sem,seval,qwh,q1l,wq1,wq2,wq3,wq4,wq5,wq6,wh2,h3,q9 h4,h5,q9 h6,h7,qpn h8,qfx k0,qfx k1,qfx k2,qfx k3,qfx k4,qfx k5]
     exact ⟨_,rfl⟩
    obtain ⟨hh,this⟩:=this
    exact jj rfl this (by first | rfl | simp only [go_sem,seval]) (by first | rfl | simp only [go_sem,seval])
 ·cases h
  have this:∃ hh,ja prV (X prV) 152 [.str s] []=some (.tup [.agg [.str [],.str [],.int .i64 0,.int .i64 0,.int .i64 0,.int .i64 0,.int .i64 0,.int .i64 0],.bool false],false,hh):=by
   rw [ql (show prV.fns 152=some c152 from rfl) (by simp)]
   simp only [go_sem,seval,c152,wh2,h3]
   exact ⟨_,rfl⟩
  obtain ⟨hh,this⟩:=this
  exact jj rfl this (by first | rfl | simp only [go_sem,seval]) (by first | rfl | simp only [go_sem,seval])
def pcL:ACode→ACode
 | .seq a _=>a
 | x=>x
def pcR:ACode→ACode
 | .seq _ b=>b
 | x=>x
def pcB:ACode→ACode
 | .block _ b=>b
 | x=>x
def rfA:ACode→ACode
 | .rangeFunc _ _ a _=>a
 | x=>x
def rfB:ACode→ACode
 | .rangeFunc _ _ _ b=>b
 | x=>x
def qhx:ACode:=pcB (pcR (pcL (pcR (pcR (pcR (pcR c93.body))))))
def qff:ACode:=rfA qhx
def qcq:ACode:=rfB qhx
theorem q4v:qhx=.rangeFunc (.tmp 17) [18] qff qcq:=rfl
def qa6:Env:=[(2,.ptr 0 0,false),(3,.ptr 1 0,false),(4,.ptr 2 0,false),(5,.ptr 3 0,false),(6,.ptr 4 0,false),(17,.fn (.func 186) [] [.ptr 5 0],false)]
def H93 (A B:Int) (o:Option (List qf)) (ow:Bool) (n:Int) (s:List UInt8) (pd:Option je):qm:=
 [.cells [(.list true 0 [],false)],.cells [(.int .i64 A,false)],.cells [(.int .i64 B,false)],.cells [(sl 8 qn o,ow)],.cells [(.int .i64 n,false)],.cells [(.str s,false)],.loop ⟨qa6,[18],qff,qcq,pd⟩]
theorem qsc {x:List UInt8} {H:qm}:X prV qff ⟨(18,.str x,false)::qa6,H⟩=some (.normal,⟨[(2,.ptr 0 0,false),(3,.ptr 1 0,false),(4,.ptr 2 0,false),(5,.ptr 3 0,false),(6,.ptr 4 0,false),(7,.str x,false)],H⟩):=by
 simp only [go_sem,seval,qff,rfA,qhx,pcB,pcL,pcR,c93,qa6] <;> rfl
def Eb (x:List UInt8):Env:=[(2,.ptr 0 0,false),(3,.ptr 1 0,false),(4,.ptr 2 0,false),(5,.ptr 3 0,false),(6,.ptr 4 0,false),(7,.str x,false)]
theorem q5n {A B:Int} {o:Option (List qf)} {ow:Bool} {n:Int} {s x b:List UInt8} {w:Bool} {u:qf} {is:Bool} {pd:Option je} (h1:qh1 x [10]=some (b,w)) (h2:f152 b=some (u,is)) (h3:w=false∨is=false):
  ∃ e t,X prV qcq ⟨Eb x,H93 A B o ow n s pd⟩=some (.ret,⟨e,H93 n 26 o ow n s pd++t⟩):=by
 have g1:=q73 h1
 have g2:=q69 h2
 simp only [] at g1 g2
 rcases h3 with rfl | rfl
 ·simp only [go_sem,seval,qcq,rfB,qhx,pcB,pcL,pcR,c93,Eb,H93,g1,g2]
  exact ⟨_,_,rfl⟩
 ·cases w <;> simp only [go_sem,seval,qcq,rfB,qhx,pcB,pcL,pcR,c93,Eb,H93,g1,g2] <;> exact ⟨_,_,rfl⟩
theorem q1k {A B:Int} {o v:Option (List qf)} {ow:Bool} {n:Int} {s x b:List UInt8} {u:qf} {pd:Option je} (h1:qh1 x [10]=some (b,true)) (h2:f152 b=some (u,true)) (h3:apO o [u]=some v) (h4:ow=true∨o.isNone=true):
  ∃ e t,X prV qcq ⟨Eb x,H93 A B o ow n s pd⟩=some (.normal,⟨e,H93 A B v true (qi .i64 (n + 1)) s pd++t⟩):=by
 have g1:=q73 h1
 have g2:=q69 h2
 simp only [] at g1 g2
 have h3':apO o [⟨u.name,u.kd,u.pa,u.pb,u.sa,u.sb,u.cost,u.stock⟩]=some v:=h3
 by_cases ho:ow=true
 ·subst ho
  simp only [go_sem,seval,qcq,rfB,qhx,pcB,pcL,pcR,c93,Eb,H93,g1,g2,qee h3]
  exact ⟨_,_,rfl⟩
 ·have ho:ow=false:=by simpa using ho
  subst ho
  have hn:o.isNone=true:=by simpa using h4
  simp only [go_sem,seval,qcq,rfB,qhx,pcB,pcL,pcR,c93,Eb,H93,g1,g2,qei h3' hn]
  exact ⟨_,_,rfl⟩
theorem qxj {n:Nat} {v:AVal} {h t:qm} (hn:h.length=n) (hv:Abs.below n v=true) (hb:z7 n h=true):zq n v (h++t)=h:=by
 have ht:(h++t).take n=h:=by rw [← hn,List.take_left']; rfl
 unfold zq
 rw [ht,hv,hb]
 cases hc:Nat.ble (h++t).length n with
 | false=>rfl
 | true=>
  have:=Nat.le_of_ble_eq_true hc
  rw [List.length_append] at this
  have h0:t=[]:=List.length_eq_zero_iff.1 (by omega)
  subst h0
  simp
abbrev S93:=Option (List qf) × Bool × Int
noncomputable def y93 (st:S93) (x:List UInt8):Option (S93 ⊕ Unit):=
 qg (qh1 x [10]) fun p=>qg (f152 p.1) fun q=>
 cond (p.2 && q.2) (cond (st.2.1 || st.1.isNone) (qg (apO st.1 [q.1]) fun v=>some (.inl (v,true,qi .i64 (st.2.2 + 1)))) none) (some (.inr ()))
section
variable {A B:Int} {o v:Option (List qf)} {ow:Bool} {n:Int} {s x:List UInt8}
theorem q0c {pd:Option je}:z7 7 (H93 A B o ow n s pd)=true:=by
 have ho:Abs.below 7 (sl 8 qn o)=true:=by simp only [go_sem,seval]
 show ((true && true) && ((true && true) && ((true && true) && ((Abs.below 7 (sl 8 qn o) && true) && ((true && true) && ((true && true) && (true && true)))))))=true
 rw [ho]; rfl
theorem qvz {r:S93 ⊕ Unit} (h:y93 (o,ow,n) x=some r):kz (X prV) 6 [.str x] (H93 A B o ow n s none)=match r with
  | .inl d=>some (.bool true,H93 A B d.1 d.2.1 d.2.2 s none)
  | .inr _=>some (.bool false,H93 n 26 o ow n s (some .ret)):=by
 have g:∀ A B o ow n pd t,zk (H93 A B o ow n s pd++t) 6=some (.loop ⟨qa6,[18],qff,qcq,pd⟩):=fun _ _ _ _ _ _ _=>rfl
 have g0:∀ A B o ow n pd,zk (H93 A B o ow n s pd) 6=some (.loop ⟨qa6,[18],qff,qcq,pd⟩):=fun _ _ _ _ _ _=>rfl
 have se:qc9 (noOwn qa6) [18] [.str x]=some ((18,.str x,false)::qa6):=rfl
 have st:∀ A B o ow n pd pd' t,(H93 A B o ow n s pd++t).set 6 (.loop ⟨qa6,[18],qff,qcq,pd'⟩)=H93 A B o ow n s pd'++t:=fun _ _ _ _ _ _ _ _=>rfl
 have st0:∀ A B o ow n pd pd',(H93 A B o ow n s pd).set 6 (.loop ⟨qa6,[18],qff,qcq,pd'⟩)=H93 A B o ow n s pd':=fun _ _ _ _ _ _ _=>rfl
 have hl:∀ A B o ow n pd,(H93 A B o ow n s pd).length=7:=fun _ _ _ _ _ _=>rfl
 have ha:∀ A B o ow n pd v t,Abs.below 7 v=true→zq 7 v (H93 A B o ow n s pd++t)=H93 A B o ow n s pd:=fun _ _ _ _ _ _ _ _ hv=>qxj rfl hv q0c
 unfold y93 at h
 obtain ⟨p,h1,h⟩:=qb h
 obtain ⟨q,h2,h⟩:=qb h
 obtain ⟨b,w⟩:=p
 obtain ⟨u,is⟩:=q
 dsimp only at h h2
 unfold kz
 rcases qa h with ⟨h3,k⟩ | ⟨h3,k⟩
 ·clear h
  simp only [Bool.and_eq_true] at h3
  obtain ⟨rfl,rfl⟩:=h3
  rcases qa k with ⟨h4,k2⟩ | ⟨h4,k2⟩
  ·obtain ⟨v,h5,k3⟩:=qb k2
   clear k k2
   cases k3
   obtain ⟨e,t,hb⟩:=q1k (A:=A) (B:=B) (n:=n) (s:=s) (pd:=some .normal) h1 h2 h5 (by simpa using h4)
   simp only [g0,se,qsc,Option.isNone_none,cond_true,st0,hl]
   rw [show ([(2,AVal.ptr 0 0,false),(3,.ptr 1 0,false),(4,.ptr 2 0,false),(5,.ptr 3 0,false),(6,.ptr 4 0,false),(7,.str x,false)]:Env)=Eb x from rfl,hb]
   simp only [g,st]
   rw [ha _ _ _ _ _ _ _ _ rfl]
  ·cases k2
 ·clear h
  cases k
  obtain ⟨e,t,hb⟩:=q5n (A:=A) (B:=B) (o:=o) (ow:=ow) (n:=n) (s:=s) (pd:=some .normal) h1 h2 (by cases w <;> cases is <;> simp_all)
  simp only [g0,se,qsc,Option.isNone_none,cond_true,st0,hl]
  rw [show ([(2,AVal.ptr 0 0,false),(3,.ptr 1 0,false),(4,.ptr 2 0,false),(5,.ptr 3 0,false),(6,.ptr 4 0,false),(7,.str x,false)]:Env)=Eb x from rfl,hb]
  simp only [g,st]
  rw [ha _ _ _ _ _ _ _ _ rfl]
end
abbrev qr3:=(S93 × List UInt8) × Bool
noncomputable def qlt (d:qr3):Option (qr3 ⊕ ((S93 × List UInt8) ⊕ (S93 × List UInt8))):=
 cond (decide (0 < (d.1.2.length:Int)))
  (qg (qpt d.1.2 10) fun i=>
  cond (decide (0≤i))
   (qg (qaz d.1.2 none (some (qi .i64 (i + 1)))) fun line=>
   qg (qaz d.1.2 (some (qi .i64 (i + 1))) none) fun rest=>
   qg (y93 d.1.1 line) fun r=>match r with
    | .inl e=>some (.inl ((e,rest),false))
    | .inr _=>some (.inr (.inr (d.1.1,rest))))
   (qg (y93 d.1.1 d.1.2) fun r=>match r with
    | .inl e=>some (.inl ((e,[]),false))
    | .inr _=>some (.inr (.inr (d.1.1,[])))))
  (some (.inr (.inl d.1)))
def qdp (d:qr3):ASt:=⟨(0,.fn (.yield 6) [] [],false)::(1,.ptr 5 0,false)::(bif d.2 then [] else [(24,.bool false,false)]),H93 0 0 d.1.1.1 d.1.1.2.1 d.1.1.2.2 d.1.2 none⟩
def qju:(S93 × List UInt8) ⊕ (S93 × List UInt8)→je × ASt
 | .inl d=>(.exit 0,⟨[(0,.fn (.yield 6) [] [],false),(1,.ptr 5 0,false),(7,.bool false,false)],H93 0 0 d.1.1 d.1.2.1 d.1.2.2 d.2 none⟩)
 | .inr d=>(.ret,⟨[(0,.fn (.yield 6) [] [],false),(1,.ptr 5 0,false),(24,.bool true,false)],H93 d.1.2.2 26 d.1.1 d.1.2.1 d.1.2.2 d.2 (some .ret)⟩)
theorem jle (d:qr3) (r) (h:qlt d=some r):zh prV qev qdp qju d r:=by
 obtain ⟨⟨⟨o,ow,n⟩,s⟩,fl⟩:=d
 unfold qlt at h
 dsimp only at h
 rcases qa h with ⟨h1,k⟩ | ⟨h1,k⟩
 ·obtain ⟨i,h2,k2⟩:=qb k
  have g2:=jkk h2
  rcases qa k2 with ⟨h3,k3⟩ | ⟨h3,k3⟩
  ·obtain ⟨line,h4,k4⟩:=qb k3
   obtain ⟨rest,h5,k5⟩:=qb k4
   obtain ⟨q,h6,k6⟩:=qb k5
   have hy:=qvz (A:=0) (B:=0) (s:=rest) h6
   cases q with
   | inl e=>
    cases k6
    simp only [H93] at hy
    refine qq (st':=qdp ((e,rest),false)) ?_ (qw (Nat.le_refl _))
    cases fl <;> (simp only [go_sem,seval,qev,qdp,H93,h1,g2,h3,qsr h4,qj6 h5,hy] <;> rfl)
   | inr e=>
    cases k6
    simp only [H93] at hy
    refine qk ?_
    cases fl <;> (simp only [go_sem,seval,qev,qdp,H93,h1,g2,h3,qsr h4,qj6 h5,hy,qju] <;> rfl)
  ·obtain ⟨q,h6,k6⟩:=qb k3
   have hy:=qvz (A:=0) (B:=0) (s:=[]) h6
   cases q with
   | inl e=>
    cases k6
    simp only [H93] at hy
    refine qq (st':=qdp ((e,[]),false)) ?_ (qw (Nat.le_refl _))
    cases fl <;> (simp only [go_sem,seval,qev,qdp,H93,h1,g2,h3,hy] <;> rfl)
   | inr e=>
    cases k6
    simp only [H93] at hy
    refine qk ?_
    cases fl <;> (simp only [go_sem,seval,qev,qdp,H93,h1,g2,h3,hy,qju] <;> rfl)
 ·cases k
  refine qk ?_
  cases fl <;> (simp only [go_sem,seval,qev,qdp,H93,h1,qju] <;> rfl)
theorem jlt {d:qr3} {r} (h:itO qlt d=some r):X prV (.loop qev) (qdp d)=some (qju r):=zz jle (fun d=>by cases d <;> (intro hh; cases hh)) h
theorem qu3 {n:Nat} {v:AVal} {h:qm} (hn:h.length=n):zq n v h=h:=by
 unfold zq
 rw [Nat.ble_eq_true_of_le (by omega)]; rfl
noncomputable def qmj (d:S93) (s:List UInt8):Option ((S93 × List UInt8) ⊕ (S93 × List UInt8)):=itO qlt ((d,s),true)
def H6' (A B:Int) (o:Option (List qf)) (ow:Bool) (n:Int) (s:List UInt8):qm:=
 [.cells [(.list true 0 [],false)],.cells [(.int .i64 A,false)],.cells [(.int .i64 B,false)],.cells [(sl 8 qn o,ow)],.cells [(.int .i64 n,false)],.cells [(.str s,false)]]
def qfk (r:(S93 × List UInt8) ⊕ (S93 × List UInt8)) (pd:Bool):qm:=match r with
 | .inl d=>H93 0 0 d.1.1 d.1.2.1 d.1.2.2 d.2 none
 | .inr d=>H93 d.1.2.2 26 d.1.1 d.1.2.1 d.1.2.2 d.2 (some .ret)
theorem jlc {o:Option (List qf)} {ow:Bool} {n:Int} {s:List UInt8} {r} (h:qmj (o,ow,n) s=some r):ja prV (X prV) 186 [.fn (.yield 6) [] [],.ptr 5 0] (H6' 0 0 o ow n s++[.loop ⟨qa6,[18],qff,qcq,none⟩])=some (.tup [],false,qfk r true):=by
 have h1:=jlt h
 rw [ql (show prV.fns 186=some c186 from rfl) (by simp)]
 have ha:zq 7 (.tup []) (qfk r true)=qfk r true:=by cases r <;> exact qu3 rfl
 cases r with
 | inl d=>
  simp only [qdp,qju,H93,H6',qfk,cond_true] at h1 ha ⊢
  simp only [go_sem,seval,c186,h1,ha] <;> rfl
 | inr d=>
  simp only [qdp,qju,H93,H6',qfk,cond_true] at h1 ha ⊢
  simp only [go_sem,seval,c186,h1,ha] <;> rfl
theorem q33 {o:Option (List qf)} {ow:Bool} {n:Int} {s:List UInt8} {r} (h:qmj (o,ow,n) s=some r):X prV qhx ⟨qa6,H6' 0 0 o ow n s⟩=some (match r with
  | .inl d=>(.normal,⟨qa6,H6' 0 0 d.1.1 d.1.2.1 d.1.2.2 d.2⟩)
  | .inr d=>(.ret,⟨qa6,H6' d.1.2.2 26 d.1.1 d.1.2.1 d.1.2.2 d.2⟩)):=by
 have h1:=jlc h
 have hb:∀ A B o ow n s,z7 6 (H6' A B o ow n s)=true:=by
  intro A B o ow n s
  have ho:Abs.below 6 (sl 8 qn o)=true:=by simp only [go_sem,seval]
  show ((true && true) && ((true && true) && ((true && true) && ((Abs.below 6 (sl 8 qn o) && true) && ((true && true) && ((true && true) && true))))))=true
  rw [ho]; rfl
 rw [q4v,qvo]
 unfold qa3
 have hn:(j9 qff && j9 qcq)=true:=rfl
 have he:qh qa6 (.tmp 17)=some (.fn (.func 186) [] [.ptr 5 0]):=rfl
 have hl:(H6' 0 0 o ow n s).length=6:=rfl
 simp only [hn,cond_true,he,hl,List.nil_append,List.cons_append,h1]
 cases r with
 | inl d=>
  have hg:zk (qfk (.inl d) true) 6=some (.loop ⟨qa6,[18],qff,qcq,none⟩):=rfl
  have ht:(qfk (.inl d) true).take 6=H6' 0 0 d.1.1 d.1.2.1 d.1.2.2 d.2:=rfl
  simp only [hg,ht,hb,cond_true]
 | inr d=>
  have hg:zk (qfk (.inr d) true) 6=some (.loop ⟨qa6,[18],qff,qcq,some .ret⟩):=rfl
  have ht:(qfk (.inr d) true).take 6=H6' d.1.2.2 26 d.1.1 d.1.2.1 d.1.2.2 d.2:=rfl
  simp only [hg,ht,hb,cond_true]
def b93:ACode:=pcR (pcR (pcR (pcR c93.body)))
def qx2:ACode:=pcL c93.body
def qo0:ACode:=pcL (pcR c93.body)
def qys:ACode:=pcL (pcR (pcR c93.body))
def qyd:ACode:=pcL (pcR (pcR (pcR c93.body)))
def qyr:ACode:=pcL (pcL b93)
def qya:ACode:=pcR b93
noncomputable def f93 (s:List UInt8):Option (Option (List qf) × Int × Int):=
 cond (decide (1000000 < (s.length:Int))) (some (none,0,27))
  (qg (qmj (none,false,0) s) fun r=>match r with
   | .inr d=>some (none,d.1.2.2,26)
   | .inl d=>qg (f23 d.1.1) fun e=>cond (decide (e=0)) (some (d.1.1,0,0)) (some (none,d.1.2.2,e)))
def H5':qm:=[.cells [(.list true 0 [],false)],.cells [(.int .i64 0,false)],.cells [(.int .i64 0,false)],.cells [(.list true 0 [],false)],.cells [(.int .i64 0,false)]]
theorem jj8 {s:List UInt8}:ja prV (X prV) 150 [.str s] H5'=some (.fn (.func 186) [] [.ptr 5 0],false,H6' 0 0 none false 0 s):=by
 rw [ql (show prV.fns 150=some c150 from rfl) (by simp)]
 simp only [go_sem,seval,c150,H5',H6'] <;> rfl
theorem qrh {s:List UInt8}:X prV qx2 ⟨[(0,.str s,false)],[]⟩=some (.normal,⟨[(0,.str s,false),(2,.ptr 0 0,false),(3,.ptr 1 0,false),(4,.ptr 2 0,false)],[.cells [(.list true 0 [],false)],.cells [(.int .i64 0,false)],.cells [(.int .i64 0,false)]]⟩):=by
 simp only [go_sem,seval,qx2,pcL,c93] <;> rfl
theorem q8u {s:List UInt8} (h:decide (1000000 < (s.length:Int))=true):X prV qo0 ⟨[(0,.str s,false),(2,.ptr 0 0,false),(3,.ptr 1 0,false),(4,.ptr 2 0,false)],[.cells [(.list true 0 [],false)],.cells [(.int .i64 0,false)],.cells [(.int .i64 0,false)]]⟩=some (.ret,⟨[(2,.ptr 0 0,false),(3,.ptr 1 0,false),(4,.ptr 2 0,false)],[.cells [(.list true 0 [],false)],.cells [(.int .i64 0,false)],.cells [(.int .i64 27,false)]]⟩):=by
 simp only [go_sem,seval,qo0,pcL,pcR,c93,h] <;> rfl
theorem qsk {s:List UInt8} (h:decide (1000000 < (s.length:Int))=false):X prV qo0 ⟨[(0,.str s,false),(2,.ptr 0 0,false),(3,.ptr 1 0,false),(4,.ptr 2 0,false)],[.cells [(.list true 0 [],false)],.cells [(.int .i64 0,false)],.cells [(.int .i64 0,false)]]⟩=some (.normal,⟨[(0,.str s,false),(2,.ptr 0 0,false),(3,.ptr 1 0,false),(4,.ptr 2 0,false),(15,.bool false,false)],[.cells [(.list true 0 [],false)],.cells [(.int .i64 0,false)],.cells [(.int .i64 0,false)]]⟩):=by
 simp only [go_sem,seval,qo0,pcL,pcR,c93,h] <;> rfl
theorem qxp {s:List UInt8}:X prV qys ⟨[(0,.str s,false),(2,.ptr 0 0,false),(3,.ptr 1 0,false),(4,.ptr 2 0,false),(15,.bool false,false)],[.cells [(.list true 0 [],false)],.cells [(.int .i64 0,false)],.cells [(.int .i64 0,false)]]⟩=some (.normal,⟨[(0,.str s,false),(2,.ptr 0 0,false),(3,.ptr 1 0,false),(4,.ptr 2 0,false),(5,.ptr 3 0,false)],[.cells [(.list true 0 [],false)],.cells [(.int .i64 0,false)],.cells [(.int .i64 0,false)],.cells [(.list true 0 [],false)]]⟩):=by
 simp only [go_sem,seval,qys,pcL,pcR,c93] <;> rfl
theorem qxz {s:List UInt8}:X prV qyd ⟨[(0,.str s,false),(2,.ptr 0 0,false),(3,.ptr 1 0,false),(4,.ptr 2 0,false),(5,.ptr 3 0,false)],[.cells [(.list true 0 [],false)],.cells [(.int .i64 0,false)],.cells [(.int .i64 0,false)],.cells [(.list true 0 [],false)]]⟩=some (.normal,⟨[(0,.str s,false),(2,.ptr 0 0,false),(3,.ptr 1 0,false),(4,.ptr 2 0,false),(5,.ptr 3 0,false),(6,.ptr 4 0,false)],H5'⟩):=by
 simp only [go_sem,seval,qyd,pcL,pcR,c93,H5'] <;> rfl
theorem qx6 {s:List UInt8}:X prV qyr ⟨[(0,.str s,false),(2,.ptr 0 0,false),(3,.ptr 1 0,false),(4,.ptr 2 0,false),(5,.ptr 3 0,false),(6,.ptr 4 0,false)],H5'⟩=some (.normal,⟨qa6,H6' 0 0 none false 0 s⟩):=by
 have h4:=jj8 (s:=s)
 have ha:zq 5 (.fn (.func 186) [] [.ptr 5 0]) (H6' 0 0 none false 0 s)=H6' 0 0 none false 0 s:=rfl
 simp only [H5',H6'] at h4 ha ⊢
 simp only [go_sem,seval,qyr,b93,pcL,pcR,c93,qa6,h4,ha] <;> rfl
theorem W93 {s:List UInt8} {r} (h:f93 s=some r):qd prV (X prV) 93 [.str s]=some (.tup [sl 8 qn r.1,.int .i64 r.2.1,.int .i64 r.2.2],false):=by
 have this:∃ hh,ja prV (X prV) 93 [.str s] []=some (.tup [sl 8 qn r.1,.int .i64 r.2.1,.int .i64 r.2.2],false,hh):=by
  rw [ql (show prV.fns 93=some ⟨49,.seq qx2 (.seq qo0 (.seq qys (.seq qyd (.seq (.seq qyr (.block 0 qhx)) qya)))),[.cell 2 false 1,.cell 3 false 1,.cell 4 false 1]⟩ from rfl) (by simp)]
  unfold f93 at h
  rcases qa h with ⟨h1,k⟩ | ⟨h1,k⟩
  ·cases k
   simp only [go_sem,seval,qrh,q8u h1]
   exact ⟨_,rfl⟩
  ·obtain ⟨q,h2,k2⟩:=qb k
   have h3:=q33 h2
   cases q with
   | inr d=>
    cases k2
    simp only [go_sem,seval,qrh,qsk h1,qxp,qxz,qx6,h3]
    simp only [go_sem,seval,H6',qa6]
    exact ⟨_,rfl⟩
   | inl d=>
    obtain ⟨e,h4,k3⟩:=qb k2
    have g4:=V23 h4
    rcases qa k3 with ⟨h5,k4⟩ | ⟨h5,k4⟩
    ·cases k4
     clear h k k2 k3 h4
     obtain ⟨⟨o',ow',n'⟩,s'⟩:=d
     dsimp only at h3 g4 ⊢
     simp only [go_sem,seval,qrh,qsk h1,qxp,qxz,qx6,h3]
     cases ow' <;> (simp only [go_sem,seval,H6',qya,b93,pcR,c93,qa6,g4,h5]; exact ⟨_,rfl⟩)
    ·cases k4
     simp only [go_sem,seval,qrh,qsk h1,qxp,qxz,qx6,h3]
     simp only [go_sem,seval,H6',qya,b93,pcR,c93,qa6,g4,h5]
     exact ⟨_,rfl⟩
 obtain ⟨hh,this⟩:=this
 exact jj rfl this (by first | rfl | simp only [go_sem,seval]) (by first | rfl | simp only [go_sem,seval])
end Go.Z
