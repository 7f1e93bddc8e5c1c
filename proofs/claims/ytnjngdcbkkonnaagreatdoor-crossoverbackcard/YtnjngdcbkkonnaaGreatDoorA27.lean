/- Chapter 4. -/
import Derived.Test.YtnjngdcbkkonnaaGreatDoorA25
import Derived.Test.YtnjngdcbkkonnaaGreatDoorLZ
import Derived.Test.YtnjngdcbkkonnaaGreatDoorG0
import Derived.Test.YtnjngdcbkkonnaaGreatDoorAbsL
set_option linter.unusedVariables false
set_option linter.unusedSimpArgs false
set_option maxRecDepth 100000
set_option maxHeartbeats 4000000
namespace Go.Z
open Go Go.Abs
theorem jhw {a0:List UInt8} {r} (h:f217 a0=some r):qd prV (X prV) 217 [.str a0]=some (.tup [.int .i64 r.1,.bool r.2],false):=atV rfl rfl (atZ rfl rfl (atE rfl rfl (jid h) (by first | rfl | simp only [go_sem,seval])) (by first | rfl | simp only [go_sem,seval])) (by first | rfl | simp only [go_sem,seval])
theorem V23 {a0:Option (List qg)} {r} (h:f23 a0=some r):qd prV (X prV) 23 [sl 8 qq a0]=some (.int .i64 r,false):=atV rfl rfl (atZ rfl rfl (atE rfl rfl (W23 h) (by first | rfl | simp only [go_sem,seval])) (by first | rfl | simp only [go_sem,seval])) (by first | rfl | simp only [go_sem,seval])
noncomputable def f190 (c0_0:List UInt8) (c0_1:List UInt8) (c0_2:Int) (c0_3:Int) (c0_4:Int) (c0_5:Int) (c0_6:Int) (c0_7:Int) (c1_0:Option (List (List UInt8))) (c1_1:Bool) (c2_0:Int) (c2_1:Int) (c2_2:Int) (c2_3:Int) (c2_4:Int) (c2_5:Int):Option (Int × (Option (List (List UInt8))) × Bool):=
 qi (zz (c1_0.getD []) 0) fun v1=>
 qi (f217 v1) fun v3=>
 qi (qby c1_0 (some 1) none) fun v5=>
 cond c1_1
  (some (v3.1,v5,true))
  (some (v3.1,v5,!v3.2))
theorem jh2 {c0_0:List UInt8} {c0_1:List UInt8} {c0_2:Int} {c0_3:Int} {c0_4:Int} {c0_5:Int} {c0_6:Int} {c0_7:Int} {c1_0:Option (List (List UInt8))} {c1_1:Bool} {c2_0:Int} {c2_1:Int} {c2_2:Int} {c2_3:Int} {c2_4:Int} {c2_5:Int} {r} (h:f190 c0_0 c0_1 c0_2 c0_3 c0_4 c0_5 c0_6 c0_7 c1_0 c1_1 c2_0 c2_1 c2_2 c2_3 c2_4 c2_5=some r):jc prV (X prV) 190 [.ptr 1 0] [.cells [(.str c0_0,false),(.str c0_1,false),(.int .i64 c0_2,false),(.int .i64 c0_3,false),(.int .i64 c0_4,false),(.int .i64 c0_5,false),(.int .i64 c0_6,false),(.int .i64 c0_7,false)],.cells [(sl 1 zi c1_0,false),(.bool c1_1,false)],.cells [(.int .i64 c2_0,false),(.int .i64 c2_1,false),(.int .i64 c2_2,false),(.int .i64 c2_3,false),(.int .i64 c2_4,false),(.int .i64 c2_5,false)]]=some (.int .i64 r.1,false,[.cells [(.str c0_0,false),(.str c0_1,false),(.int .i64 c0_2,false),(.int .i64 c0_3,false),(.int .i64 c0_4,false),(.int .i64 c0_5,false),(.int .i64 c0_6,false),(.int .i64 c0_7,false)],.cells [(sl 1 zi r.2.1,false),(.bool r.2.2,false)],.cells [(.int .i64 c2_0,false),(.int .i64 c2_1,false),(.int .i64 c2_2,false),(.int .i64 c2_3,false),(.int .i64 c2_4,false),(.int .i64 c2_5,false)]]):=by
 unfold f190 at h
 obtain ⟨v1,h2,h⟩:=qb h
 obtain ⟨v3,h4,h⟩:=qb h
 have wh4:qd prV (X prV) 217 [.str v1]=some (.tup [.int .i64 v3.1,.bool v3.2],false):=jhw h4
 obtain ⟨v5,h6,h⟩:=qb h
 rcases qa h with ⟨h7,h⟩ | ⟨h7,h⟩
 ·have hr:(v3.1,v5,true)=r:=Option.some.inj h
  subst hr
  rw [qj (show prV.fns 190=some c190 from rfl) (by simp)]
  simp only [go_sem,seval,c190,jj h2,wh4,qom h6,h7] <;> rfl
 ·have hr:(v3.1,v5,!v3.2)=r:=Option.some.inj h
  subst hr
  rw [qj (show prV.fns 190=some c190 from rfl) (by simp)]
  simp only [go_sem,seval,c190,jj h2,wh4,qom h6,h7] <;> rfl
noncomputable def nx (w:Option (List (List UInt8))) (b:Bool):Option (Int × Option (List (List UInt8)) × Bool):=
 qi (zz (w.getD []) 0) fun v=>qi (f217 v) fun q=>qi (qby w (some 1) none) fun t=>cond b (some (q.1,t,true)) (some (q.1,t,!q.2))
theorem qfm {w:Option (List (List UInt8))} {b:Bool} {r} (h:nx w b=some r) {a0 a1 a2 a3 a4 a5:Int}:jc prV (X prV) 190 [.ptr 1 0] [.cells [(.str [],false),(.str [],false),(.int .i64 0,false),(.int .i64 0,false),(.int .i64 0,false),(.int .i64 0,false),(.int .i64 0,false),(.int .i64 0,false)],.cells [(sl 1 zi w,false),(.bool b,false)],.cells [(.int .i64 a0,false),(.int .i64 a1,false),(.int .i64 a2,false),(.int .i64 a3,false),(.int .i64 a4,false),(.int .i64 a5,false)]]=some (.int .i64 r.1,false,[.cells [(.str [],false),(.str [],false),(.int .i64 0,false),(.int .i64 0,false),(.int .i64 0,false),(.int .i64 0,false),(.int .i64 0,false),(.int .i64 0,false)],.cells [(sl 1 zi r.2.1,false),(.bool r.2.2,false)],.cells [(.int .i64 a0,false),(.int .i64 a1,false),(.int .i64 a2,false),(.int .i64 a3,false),(.int .i64 a4,false),(.int .i64 a5,false)]]):=jh2 h
theorem wq1:qk .i64 1=1:=by decide
theorem wq2:qk .i64 2=2:=by decide
theorem wq3:qk .i64 3=3:=by decide
theorem wq4:qk .i64 4=4:=by decide
theorem wq5:qk .i64 5=5:=by decide
theorem wq6:qk .i64 6=6:=by decide
theorem q1b {e:Env} {a b c:ABox}:gc 3 ⟨e,[a,b,c]⟩=⟨e,[a,b,c]⟩:=qz (Nat.le_refl _)
def qh7:qg:=⟨[],[],0,0,0,0,0,0⟩
noncomputable def f152 (s:List UInt8):Option (qg × Bool):=
 qi (qpd s [32]) fun ws=>
 cond (decide (((ws.getD []).length:Int)=8))
  (qi (zz (ws.getD []) 0) fun a=>
  cond (decide (a=[])) (some (qh7,false))
   (qi (zz (ws.getD []) 1) fun b=>
   cond (decide (b=[])) (some (qh7,false))
    (qi (qby ws (some 2) none) fun t=>
    qi (nx t false) fun n0=>qi (nx n0.2.1 n0.2.2) fun n1=>qi (nx n1.2.1 n1.2.2) fun n2=>qi (nx n2.2.1 n2.2.2) fun n3=>qi (nx n3.2.1 n3.2.2) fun n4=>qi (nx n4.2.1 n4.2.2) fun n5=>
    some (⟨a,b,n0.1,n1.1,n2.1,n3.1,n4.1,n5.1⟩,!n5.2.2))))
  (some (qh7,false))
theorem q54 {s:List UInt8} {r} (h:f152 s=some r):qd prV (X prV) 152 [.str s]=some (.tup [.agg [.str r.1.name,.str r.1.kd,.int .i64 r.1.pa,.int .i64 r.1.pb,.int .i64 r.1.sa,.int .i64 r.1.sb,.int .i64 r.1.cost,.int .i64 r.1.stock],.bool r.2],false):=by
 unfold f152 at h
 obtain ⟨ws,h2,h⟩:=qb h
 have wh2:=jh7 h2
 rcases qa h with ⟨h3,h⟩ | ⟨h3,h⟩
 ·obtain ⟨a,h4,h⟩:=qb h
  rcases qa h with ⟨h5,h⟩ | ⟨h5,h⟩
  ·cases h
   have this:∃ hh,jc prV (X prV) 152 [.str s] []=some (.tup [.agg [.str [],.str [],.int .i64 0,.int .i64 0,.int .i64 0,.int .i64 0,.int .i64 0,.int .i64 0],.bool false],false,hh):=by
    rw [qj (show prV.fns 152=some c152 from rfl) (by simp)]
    simp only [go_sem,seval,c152,wh2,h3,jj h4,h5]
    exact ⟨_,rfl⟩
   obtain ⟨hh,this⟩:=this
   exact jt rfl this (by first | rfl | simp only [go_sem,seval]) (by first | rfl | simp only [go_sem,seval])
  ·obtain ⟨b,h6,h⟩:=qb h
   rcases qa h with ⟨h7,h⟩ | ⟨h7,h⟩
   ·cases h
    have this:∃ hh,jc prV (X prV) 152 [.str s] []=some (.tup [.agg [.str [],.str [],.int .i64 0,.int .i64 0,.int .i64 0,.int .i64 0,.int .i64 0,.int .i64 0],.bool false],false,hh):=by
     rw [qj (show prV.fns 152=some c152 from rfl) (by simp)]
     simp only [go_sem,seval,c152,wh2,h3,jj h4,h5,jj h6,h7]
     exact ⟨_,rfl⟩
    obtain ⟨hh,this⟩:=this
    exact jt rfl this (by first | rfl | simp only [go_sem,seval]) (by first | rfl | simp only [go_sem,seval])
   ·obtain ⟨t,h8,h⟩:=qb h
    obtain ⟨n0,k0,h⟩:=qb h
    obtain ⟨n1,k1,h⟩:=qb h
    obtain ⟨n2,k2,h⟩:=qb h
    obtain ⟨n3,k3,h⟩:=qb h
    obtain ⟨n4,k4,h⟩:=qb h
    obtain ⟨n5,k5,h⟩:=qb h
    cases h
    have this:∃ hh,jc prV (X prV) 152 [.str s] []=some (.tup [.agg [.str a,.str b,.int .i64 n0.1,.int .i64 n1.1,.int .i64 n2.1,.int .i64 n3.1,.int .i64 n4.1,.int .i64 n5.1],.bool !n5.2.2],false,hh):=by
     rw [qj (show prV.fns 152=some c152 from rfl) (by simp)]
     simp only [c152,qyz]
     simp only [go_sem,seval,qvs,q1b,wq1,wq2,wq3,wq4,wq5,wq6,wh2,h3,jj h4,h5,jj h6,h7,qom h8,qfm k0,qfm k1,qfm k2,qfm k3,qfm k4,qfm k5]
     exact ⟨_,rfl⟩
    obtain ⟨hh,this⟩:=this
    exact jt rfl this (by first | rfl | simp only [go_sem,seval]) (by first | rfl | simp only [go_sem,seval])
 ·cases h
  have this:∃ hh,jc prV (X prV) 152 [.str s] []=some (.tup [.agg [.str [],.str [],.int .i64 0,.int .i64 0,.int .i64 0,.int .i64 0,.int .i64 0,.int .i64 0],.bool false],false,hh):=by
   rw [qj (show prV.fns 152=some c152 from rfl) (by simp)]
   simp only [go_sem,seval,c152,wh2,h3]
   exact ⟨_,rfl⟩
  obtain ⟨hh,this⟩:=this
  exact jt rfl this (by first | rfl | simp only [go_sem,seval]) (by first | rfl | simp only [go_sem,seval])
def pcL:ACode→ACode
 | .seq a _=>a
 | x=>x
def pcR:ACode→ACode
 | .seq _ b=>b
 | x=>x
def pcB:ACode→ACode
 | .block _ b=>b
 | x=>x
def rfA:ACode→ACode
 | .rangeFunc _ _ a _=>a
 | x=>x
def rfB:ACode→ACode
 | .rangeFunc _ _ _ b=>b
 | x=>x
def qhd:ACode:=pcB (pcR (pcL (pcR (pcR (pcR (pcR c93.body))))))
def qe3:ACode:=rfA qhd
def qck:ACode:=rfB qhd
theorem q4q:qhd=.rangeFunc (.tmp 17) [18] qe3 qck:=rfl
def qa2:Env:=[(2,.ptr 0 0,false),(3,.ptr 1 0,false),(4,.ptr 2 0,false),(5,.ptr 3 0,false),(6,.ptr 4 0,false),(17,.fn (.func 186) [] [.ptr 5 0],false)]
def H93 (A B:Int) (o:Option (List qg)) (ow:Bool) (n:Int) (s:List UInt8) (pd:Option jg):qh:=
 [.cells [(.list true 0 [],false)],.cells [(.int .i64 A,false)],.cells [(.int .i64 B,false)],.cells [(sl 8 qq o,ow)],.cells [(.int .i64 n,false)],.cells [(.str s,false)],.loop ⟨qa2,[18],qe3,qck,pd⟩]
theorem qry {x:List UInt8} {H:qh}:X prV qe3 ⟨(18,.str x,false)::qa2,H⟩=some (.normal,⟨[(2,.ptr 0 0,false),(3,.ptr 1 0,false),(4,.ptr 2 0,false),(5,.ptr 3 0,false),(6,.ptr 4 0,false),(7,.str x,false)],H⟩):=by
 simp only [go_sem,seval,qe3,rfA,qhd,pcB,pcL,pcR,c93,qa2] <;> rfl
def Eb (x:List UInt8):Env:=[(2,.ptr 0 0,false),(3,.ptr 1 0,false),(4,.ptr 2 0,false),(5,.ptr 3 0,false),(6,.ptr 4 0,false),(7,.str x,false)]
theorem q4m {A B:Int} {o:Option (List qg)} {ow:Bool} {n:Int} {s x b:List UInt8} {w:Bool} {u:qg} {is:Bool} {pd:Option jg} (h1:qhg x [10]=some (b,w)) (h2:f152 b=some (u,is)) (h3:w=false∨is=false):
  ∃ e t,X prV qck ⟨Eb x,H93 A B o ow n s pd⟩=some (.ret,⟨e,H93 n 26 o ow n s pd++t⟩):=by
 have g1:=q77 h1
 have g2:=q54 h2
 simp only [] at g1 g2
 rcases h3 with rfl | rfl
 ·simp only [go_sem,seval,qck,rfB,qhd,pcB,pcL,pcR,c93,Eb,H93,g1,g2]
  exact ⟨_,_,rfl⟩
 ·cases w <;> simp only [go_sem,seval,qck,rfB,qhd,pcB,pcL,pcR,c93,Eb,H93,g1,g2] <;> exact ⟨_,_,rfl⟩
theorem q0p {A B:Int} {o v:Option (List qg)} {ow:Bool} {n:Int} {s x b:List UInt8} {u:qg} {pd:Option jg} (h1:qhg x [10]=some (b,true)) (h2:f152 b=some (u,true)) (h3:apO o [u]=some v) (h4:ow=true∨o.isNone=true):
  ∃ e t,X prV qck ⟨Eb x,H93 A B o ow n s pd⟩=some (.normal,⟨e,H93 A B v true (qk .i64 (n + 1)) s pd++t⟩):=by
 have g1:=q77 h1
 have g2:=q54 h2
 simp only [] at g1 g2
 have h3':apO o [⟨u.name,u.kd,u.pa,u.pb,u.sa,u.sb,u.cost,u.stock⟩]=some v:=h3
 by_cases ho:ow=true
 ·subst ho
  simp only [go_sem,seval,qck,rfB,qhd,pcB,pcL,pcR,c93,Eb,H93,g1,g2,qhp h3]
  exact ⟨_,_,rfl⟩
 ·have ho:ow=false:=by simpa using ho
  subst ho
  have hn:o.isNone=true:=by simpa using h4
  simp only [go_sem,seval,qck,rfB,qhd,pcB,pcL,pcR,c93,Eb,H93,g1,g2,qhb h3' hn]
  exact ⟨_,_,rfl⟩
theorem qxz {n:Nat} {v:AVal} {h t:qh} (hn:h.length=n) (hv:Abs.below n v=true) (hb:zt n h=true):zm n v (h++t)=h:=by
 have ht:(h++t).take n=h:=by rw [← hn,List.take_left']; rfl
 unfold zm
 rw [ht,hv,hb]
 cases hc:Nat.ble (h++t).length n with
 | false=>rfl
 | true=>
  have:=Nat.le_of_ble_eq_true hc
  rw [List.length_append] at this
  have h0:t=[]:=List.length_eq_zero_iff.1 (by omega)
  subst h0
  simp
abbrev S93:=Option (List qg) × Bool × Int
noncomputable def y93 (st:S93) (x:List UInt8):Option (S93 ⊕ Unit):=
 qi (qhg x [10]) fun p=>qi (f152 p.1) fun q=>
 cond (p.2 && q.2) (cond (st.2.1 || st.1.isNone) (qi (apO st.1 [q.1]) fun v=>some (.inl (v,true,qk .i64 (st.2.2 + 1)))) none) (some (.inr ()))
section
variable {A B:Int} {o v:Option (List qg)} {ow:Bool} {n:Int} {s x:List UInt8}
theorem qyv {pd:Option jg}:zt 7 (H93 A B o ow n s pd)=true:=by
 have ho:Abs.below 7 (sl 8 qq o)=true:=by simp only [go_sem,seval]
 show ((true && true) && ((true && true) && ((true && true) && ((Abs.below 7 (sl 8 qq o) && true) && ((true && true) && ((true && true) && (true && true)))))))=true
 rw [ho]; rfl
theorem qvd {r:S93 ⊕ Unit} (h:y93 (o,ow,n) x=some r):kr (X prV) 6 [.str x] (H93 A B o ow n s none)=match r with
  | .inl d=>some (.bool true,H93 A B d.1 d.2.1 d.2.2 s none)
  | .inr _=>some (.bool false,H93 n 26 o ow n s (some .ret)):=by
 have g:∀ A B o ow n pd t,zh (H93 A B o ow n s pd++t) 6=some (.loop ⟨qa2,[18],qe3,qck,pd⟩):=fun _ _ _ _ _ _ _=>rfl
 have g0:∀ A B o ow n pd,zh (H93 A B o ow n s pd) 6=some (.loop ⟨qa2,[18],qe3,qck,pd⟩):=fun _ _ _ _ _ _=>rfl
 have se:qc5 (noOwn qa2) [18] [.str x]=some ((18,.str x,false)::qa2):=rfl
 have st:∀ A B o ow n pd pd' t,(H93 A B o ow n s pd++t).set 6 (.loop ⟨qa2,[18],qe3,qck,pd'⟩)=H93 A B o ow n s pd'++t:=fun _ _ _ _ _ _ _ _=>rfl
 have st0:∀ A B o ow n pd pd',(H93 A B o ow n s pd).set 6 (.loop ⟨qa2,[18],qe3,qck,pd'⟩)=H93 A B o ow n s pd':=fun _ _ _ _ _ _ _=>rfl
 have hl:∀ A B o ow n pd,(H93 A B o ow n s pd).length=7:=fun _ _ _ _ _ _=>rfl
 have ha:∀ A B o ow n pd v t,Abs.below 7 v=true→zm 7 v (H93 A B o ow n s pd++t)=H93 A B o ow n s pd:=fun _ _ _ _ _ _ _ _ hv=>qxz rfl hv qyv
 unfold y93 at h
 obtain ⟨p,h1,h⟩:=qb h
 obtain ⟨q,h2,h⟩:=qb h
 obtain ⟨b,w⟩:=p
 obtain ⟨u,is⟩:=q
 dsimp only at h h2
 unfold kr
 rcases qa h with ⟨h3,k⟩ | ⟨h3,k⟩
 ·clear h
  simp only [Bool.and_eq_true] at h3
  obtain ⟨rfl,rfl⟩:=h3
  rcases qa k with ⟨h4,k2⟩ | ⟨h4,k2⟩
  ·obtain ⟨v,h5,k3⟩:=qb k2
   clear k k2
   cases k3
   obtain ⟨e,t,hb⟩:=q0p (A:=A) (B:=B) (n:=n) (s:=s) (pd:=some .normal) h1 h2 h5 (by simpa using h4)
   simp only [g0,se,qry,Option.isNone_none,cond_true,st0,hl]
   rw [show ([(2,AVal.ptr 0 0,false),(3,.ptr 1 0,false),(4,.ptr 2 0,false),(5,.ptr 3 0,false),(6,.ptr 4 0,false),(7,.str x,false)]:Env)=Eb x from rfl,hb]
   simp only [g,st]
   rw [ha _ _ _ _ _ _ _ _ rfl]
  ·cases k2
 ·clear h
  cases k
  obtain ⟨e,t,hb⟩:=q4m (A:=A) (B:=B) (o:=o) (ow:=ow) (n:=n) (s:=s) (pd:=some .normal) h1 h2 (by cases w <;> cases is <;> simp_all)
  simp only [g0,se,qry,Option.isNone_none,cond_true,st0,hl]
  rw [show ([(2,AVal.ptr 0 0,false),(3,.ptr 1 0,false),(4,.ptr 2 0,false),(5,.ptr 3 0,false),(6,.ptr 4 0,false),(7,.str x,false)]:Env)=Eb x from rfl,hb]
  simp only [g,st]
  rw [ha _ _ _ _ _ _ _ _ rfl]
end
abbrev qs5:=(S93 × List UInt8) × Bool
noncomputable def qj8 (d:qs5):Option (qs5 ⊕ ((S93 × List UInt8) ⊕ (S93 × List UInt8))):=
 cond (decide (0 < (d.1.2.length:Int)))
  (qi (qo1 d.1.2 10) fun i=>
  cond (decide (0≤i))
   (qi (kx d.1.2 none (some (qk .i64 (i + 1)))) fun line=>
   qi (kx d.1.2 (some (qk .i64 (i + 1))) none) fun rest=>
   qi (y93 d.1.1 line) fun r=>match r with
    | .inl e=>some (.inl ((e,rest),false))
    | .inr _=>some (.inr (.inr (d.1.1,rest))))
   (qi (y93 d.1.1 d.1.2) fun r=>match r with
    | .inl e=>some (.inl ((e,[]),false))
    | .inr _=>some (.inr (.inr (d.1.1,[])))))
  (some (.inr (.inl d.1)))
def qdm (d:qs5):ASt:=⟨(0,.fn (.yield 6) [] [],false)::(1,.ptr 5 0,false)::(bif d.2 then [] else [(24,.bool false,false)]),H93 0 0 d.1.1.1 d.1.1.2.1 d.1.1.2.2 d.1.2 none⟩
def qi6:(S93 × List UInt8) ⊕ (S93 × List UInt8)→jg × ASt
 | .inl d=>(.exit 0,⟨[(0,.fn (.yield 6) [] [],false),(1,.ptr 5 0,false),(7,.bool false,false)],H93 0 0 d.1.1 d.1.2.1 d.1.2.2 d.2 none⟩)
 | .inr d=>(.ret,⟨[(0,.fn (.yield 6) [] [],false),(1,.ptr 5 0,false),(24,.bool true,false)],H93 d.1.2.2 26 d.1.1 d.1.2.1 d.1.2.2 d.2 (some .ret)⟩)
theorem jjy (d:qs5) (r) (h:qj8 d=some r):z6 prV qep qdm qi6 d r:=by
 obtain ⟨⟨⟨o,ow,n⟩,s⟩,fl⟩:=d
 unfold qj8 at h
 dsimp only at h
 rcases qa h with ⟨h1,k⟩ | ⟨h1,k⟩
 ·obtain ⟨i,h2,k2⟩:=qb k
  have g2:=jjm h2
  rcases qa k2 with ⟨h3,k3⟩ | ⟨h3,k3⟩
  ·obtain ⟨line,h4,k4⟩:=qb k3
   obtain ⟨rest,h5,k5⟩:=qb k4
   obtain ⟨q,h6,k6⟩:=qb k5
   have hy:=qvd (A:=0) (B:=0) (s:=rest) h6
   cases q with
   | inl e=>
    cases k6
    simp only [H93] at hy
    refine qr (st':=qdm ((e,rest),false)) ?_ (qz (Nat.le_refl _))
    cases fl <;> (simp only [go_sem,seval,qep,qdm,H93,h1,g2,h3,qdx h4,qi8 h5,hy] <;> rfl)
   | inr e=>
    cases k6
    simp only [H93] at hy
    refine qm ?_
    cases fl <;> (simp only [go_sem,seval,qep,qdm,H93,h1,g2,h3,qdx h4,qi8 h5,hy,qi6] <;> rfl)
  ·obtain ⟨q,h6,k6⟩:=qb k3
   have hy:=qvd (A:=0) (B:=0) (s:=[]) h6
   cases q with
   | inl e=>
    cases k6
    simp only [H93] at hy
    refine qr (st':=qdm ((e,[]),false)) ?_ (qz (Nat.le_refl _))
    cases fl <;> (simp only [go_sem,seval,qep,qdm,H93,h1,g2,h3,hy] <;> rfl)
   | inr e=>
    cases k6
    simp only [H93] at hy
    refine qm ?_
    cases fl <;> (simp only [go_sem,seval,qep,qdm,H93,h1,g2,h3,hy,qi6] <;> rfl)
 ·cases k
  refine qm ?_
  cases fl <;> (simp only [go_sem,seval,qep,qdm,H93,h1,qi6] <;> rfl)
theorem jkb {d:qs5} {r} (h:itO qj8 d=some r):X prV (.loop qep) (qdm d)=some (qi6 r):=yp jjy (fun d=>by cases d <;> (intro hh; cases hh)) h
theorem qun {n:Nat} {v:AVal} {h:qh} (hn:h.length=n):zm n v h=h:=by
 unfold zm
 rw [Nat.ble_eq_true_of_le (by omega)]; rfl
noncomputable def qle (d:S93) (s:List UInt8):Option ((S93 × List UInt8) ⊕ (S93 × List UInt8)):=itO qj8 ((d,s),true)
def H6' (A B:Int) (o:Option (List qg)) (ow:Bool) (n:Int) (s:List UInt8):qh:=
 [.cells [(.list true 0 [],false)],.cells [(.int .i64 A,false)],.cells [(.int .i64 B,false)],.cells [(sl 8 qq o,ow)],.cells [(.int .i64 n,false)],.cells [(.str s,false)]]
def qfg (r:(S93 × List UInt8) ⊕ (S93 × List UInt8)) (pd:Bool):qh:=match r with
 | .inl d=>H93 0 0 d.1.1 d.1.2.1 d.1.2.2 d.2 none
 | .inr d=>H93 d.1.2.2 26 d.1.1 d.1.2.1 d.1.2.2 d.2 (some .ret)
theorem jiy {o:Option (List qg)} {ow:Bool} {n:Int} {s:List UInt8} {r} (h:qle (o,ow,n) s=some r):jc prV (X prV) 186 [.fn (.yield 6) [] [],.ptr 5 0] (H6' 0 0 o ow n s++[.loop ⟨qa2,[18],qe3,qck,none⟩])=some (.tup [],false,qfg r true):=by
 have h1:=jkb h
 rw [qj (show prV.fns 186=some c186 from rfl) (by simp)]
 have ha:zm 7 (.tup []) (qfg r true)=qfg r true:=by cases r <;> exact qun rfl
 cases r with
 | inl d=>
  simp only [qdm,qi6,H93,H6',qfg,cond_true] at h1 ha ⊢
  simp only [go_sem,seval,c186,h1,ha] <;> rfl
 | inr d=>
  simp only [qdm,qi6,H93,H6',qfg,cond_true] at h1 ha ⊢
  simp only [go_sem,seval,c186,h1,ha] <;> rfl
theorem q4f {o:Option (List qg)} {ow:Bool} {n:Int} {s:List UInt8} {r} (h:qle (o,ow,n) s=some r):X prV qhd ⟨qa2,H6' 0 0 o ow n s⟩=some (match r with
  | .inl d=>(.normal,⟨qa2,H6' 0 0 d.1.1 d.1.2.1 d.1.2.2 d.2⟩)
  | .inr d=>(.ret,⟨qa2,H6' d.1.2.2 26 d.1.1 d.1.2.1 d.1.2.2 d.2⟩)):=by
 have h1:=jiy h
 have hb:∀ A B o ow n s,zt 6 (H6' A B o ow n s)=true:=by
  intro A B o ow n s
  have ho:Abs.below 6 (sl 8 qq o)=true:=by simp only [go_sem,seval]
  show ((true && true) && ((true && true) && ((true && true) && ((Abs.below 6 (sl 8 qq o) && true) && ((true && true) && ((true && true) && true))))))=true
  rw [ho]; rfl
 rw [q4q,qvh]
 unfold qaw
 have hn:(j7 qe3 && j7 qck)=true:=rfl
 have he:qf qa2 (.tmp 17)=some (.fn (.func 186) [] [.ptr 5 0]):=rfl
 have hl:(H6' 0 0 o ow n s).length=6:=rfl
 simp only [hn,cond_true,he,hl,List.nil_append,List.cons_append,h1]
 cases r with
 | inl d=>
  have hg:zh (qfg (.inl d) true) 6=some (.loop ⟨qa2,[18],qe3,qck,none⟩):=rfl
  have ht:(qfg (.inl d) true).take 6=H6' 0 0 d.1.1 d.1.2.1 d.1.2.2 d.2:=rfl
  simp only [hg,ht,hb,cond_true]
 | inr d=>
  have hg:zh (qfg (.inr d) true) 6=some (.loop ⟨qa2,[18],qe3,qck,some .ret⟩):=rfl
  have ht:(qfg (.inr d) true).take 6=H6' d.1.2.2 26 d.1.1 d.1.2.1 d.1.2.2 d.2:=rfl
  simp only [hg,ht,hb,cond_true]
def b93:ACode:=pcR (pcR (pcR (pcR c93.body)))
def qw6:ACode:=pcL c93.body
def qng:ACode:=pcL (pcR c93.body)
def qwe:ACode:=pcL (pcR (pcR c93.body))
def qwc:ACode:=pcL (pcR (pcR (pcR c93.body)))
def qw4:ACode:=pcL (pcL b93)
def qxe:ACode:=pcR b93
noncomputable def f93 (s:List UInt8):Option (Option (List qg) × Int × Int):=
 cond (decide (1000000 < (s.length:Int))) (some (none,0,27))
  (qi (qle (none,false,0) s) fun r=>match r with
   | .inr d=>some (none,d.1.2.2,26)
   | .inl d=>qi (f23 d.1.1) fun e=>cond (decide (e=0)) (some (d.1.1,0,0)) (some (none,d.1.2.2,e)))
def H5':qh:=[.cells [(.list true 0 [],false)],.cells [(.int .i64 0,false)],.cells [(.int .i64 0,false)],.cells [(.list true 0 [],false)],.cells [(.int .i64 0,false)]]
theorem jje {s:List UInt8}:jc prV (X prV) 150 [.str s] H5'=some (.fn (.func 186) [] [.ptr 5 0],false,H6' 0 0 none false 0 s):=by
 rw [qj (show prV.fns 150=some c150 from rfl) (by simp)]
 simp only [go_sem,seval,c150,H5',H6'] <;> rfl
theorem qq5 {s:List UInt8}:X prV qw6 ⟨[(0,.str s,false)],[]⟩=some (.normal,⟨[(0,.str s,false),(2,.ptr 0 0,false),(3,.ptr 1 0,false),(4,.ptr 2 0,false)],[.cells [(.list true 0 [],false)],.cells [(.int .i64 0,false)],.cells [(.int .i64 0,false)]]⟩):=by
 simp only [go_sem,seval,qw6,pcL,c93] <;> rfl
theorem q5x {s:List UInt8} (h:decide (1000000 < (s.length:Int))=true):X prV qng ⟨[(0,.str s,false),(2,.ptr 0 0,false),(3,.ptr 1 0,false),(4,.ptr 2 0,false)],[.cells [(.list true 0 [],false)],.cells [(.int .i64 0,false)],.cells [(.int .i64 0,false)]]⟩=some (.ret,⟨[(2,.ptr 0 0,false),(3,.ptr 1 0,false),(4,.ptr 2 0,false)],[.cells [(.list true 0 [],false)],.cells [(.int .i64 0,false)],.cells [(.int .i64 27,false)]]⟩):=by
 simp only [go_sem,seval,qng,pcL,pcR,c93,h] <;> rfl
theorem qtx {s:List UInt8} (h:decide (1000000 < (s.length:Int))=false):X prV qng ⟨[(0,.str s,false),(2,.ptr 0 0,false),(3,.ptr 1 0,false),(4,.ptr 2 0,false)],[.cells [(.list true 0 [],false)],.cells [(.int .i64 0,false)],.cells [(.int .i64 0,false)]]⟩=some (.normal,⟨[(0,.str s,false),(2,.ptr 0 0,false),(3,.ptr 1 0,false),(4,.ptr 2 0,false),(15,.bool false,false)],[.cells [(.list true 0 [],false)],.cells [(.int .i64 0,false)],.cells [(.int .i64 0,false)]]⟩):=by
 simp only [go_sem,seval,qng,pcL,pcR,c93,h] <;> rfl
theorem qx4 {s:List UInt8}:X prV qwe ⟨[(0,.str s,false),(2,.ptr 0 0,false),(3,.ptr 1 0,false),(4,.ptr 2 0,false),(15,.bool false,false)],[.cells [(.list true 0 [],false)],.cells [(.int .i64 0,false)],.cells [(.int .i64 0,false)]]⟩=some (.normal,⟨[(0,.str s,false),(2,.ptr 0 0,false),(3,.ptr 1 0,false),(4,.ptr 2 0,false),(5,.ptr 3 0,false)],[.cells [(.list true 0 [],false)],.cells [(.int .i64 0,false)],.cells [(.int .i64 0,false)],.cells [(.list true 0 [],false)]]⟩):=by
 simp only [go_sem,seval,qwe,pcL,pcR,c93] <;> rfl
theorem qwt {s:List UInt8}:X prV qwc ⟨[(0,.str s,false),(2,.ptr 0 0,false),(3,.ptr 1 0,false),(4,.ptr 2 0,false),(5,.ptr 3 0,false)],[.cells [(.list true 0 [],false)],.cells [(.int .i64 0,false)],.cells [(.int .i64 0,false)],.cells [(.list true 0 [],false)]]⟩=some (.normal,⟨[(0,.str s,false),(2,.ptr 0 0,false),(3,.ptr 1 0,false),(4,.ptr 2 0,false),(5,.ptr 3 0,false),(6,.ptr 4 0,false)],H5'⟩):=by
 simp only [go_sem,seval,qwc,pcL,pcR,c93,H5'] <;> rfl
theorem qws {s:List UInt8}:X prV qw4 ⟨[(0,.str s,false),(2,.ptr 0 0,false),(3,.ptr 1 0,false),(4,.ptr 2 0,false),(5,.ptr 3 0,false),(6,.ptr 4 0,false)],H5'⟩=some (.normal,⟨qa2,H6' 0 0 none false 0 s⟩):=by
 have h4:=jje (s:=s)
 have ha:zm 5 (.fn (.func 186) [] [.ptr 5 0]) (H6' 0 0 none false 0 s)=H6' 0 0 none false 0 s:=rfl
 simp only [H5',H6'] at h4 ha ⊢
 simp only [go_sem,seval,qw4,b93,pcL,pcR,c93,qa2,h4,ha] <;> rfl
theorem W93 {s:List UInt8} {r} (h:f93 s=some r):qd prV (X prV) 93 [.str s]=some (.tup [sl 8 qq r.1,.int .i64 r.2.1,.int .i64 r.2.2],false):=by
 have this:∃ hh,jc prV (X prV) 93 [.str s] []=some (.tup [sl 8 qq r.1,.int .i64 r.2.1,.int .i64 r.2.2],false,hh):=by
  rw [qj (show prV.fns 93=some ⟨49,.seq qw6 (.seq qng (.seq qwe (.seq qwc (.seq (.seq qw4 (.block 0 qhd)) qxe)))),[.cell 2 false 1,.cell 3 false 1,.cell 4 false 1]⟩ from rfl) (by simp)]
  unfold f93 at h
  rcases qa h with ⟨h1,k⟩ | ⟨h1,k⟩
  ·cases k
   simp only [go_sem,seval,qq5,q5x h1]
   exact ⟨_,rfl⟩
  ·obtain ⟨q,h2,k2⟩:=qb k
   have h3:=q4f h2
   cases q with
   | inr d=>
    cases k2
    simp only [go_sem,seval,qq5,qtx h1,qx4,qwt,qws,h3]
    simp only [go_sem,seval,H6',qa2]
    exact ⟨_,rfl⟩
   | inl d=>
    obtain ⟨e,h4,k3⟩:=qb k2
    have g4:=V23 h4
    rcases qa k3 with ⟨h5,k4⟩ | ⟨h5,k4⟩
    ·cases k4
     clear h k k2 k3 h4
     obtain ⟨⟨o',ow',n'⟩,s'⟩:=d
     dsimp only at h3 g4 ⊢
     simp only [go_sem,seval,qq5,qtx h1,qx4,qwt,qws,h3]
     cases ow' <;> (simp only [go_sem,seval,H6',qxe,b93,pcR,c93,qa2,g4,h5]; exact ⟨_,rfl⟩)
    ·cases k4
     simp only [go_sem,seval,qq5,qtx h1,qx4,qwt,qws,h3]
     simp only [go_sem,seval,H6',qxe,b93,pcR,c93,qa2,g4,h5]
     exact ⟨_,rfl⟩
 obtain ⟨hh,this⟩:=this
 exact jt rfl this (by first | rfl | simp only [go_sem,seval]) (by first | rfl | simp only [go_sem,seval])
end Go.Z
