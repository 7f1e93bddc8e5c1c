/- Chapter 10, plain. -/
import Derived.Test.YtimdocpnkimlfaaGreatDoorEC
import Derived.Test.YtimdocpnkimlfaaGreatDoorVB
set_option linter.unusedVariables false
set_option linter.unusedSimpArgs false
set_option maxRecDepth 100000
set_option maxHeartbeats 4000000
open List renaming length_singleton→I,length_append→Eb,mem_of_getElem?→Ec,length_set→Ek,mem_append→En,not_mem_nil→Ga
open Nat renaming le_trans→Ea,le_refl→E3
namespace Go.Z
open Go Go.Abs Go.W
structure SB (n:Nat)(r:jo):Prop where
 L:r.lots.length≤n
 P:r.aI.length≤n
 U:r.units.length≤n
 D:∀p∈r.aI,p.cq.length≤n∧p.bY.bG.length≤n∧p.bY.bI.length≤n∧∀d∈p.cq,d.bG.length≤n∧d.bI.length≤n
 N:∀u∈r.units,u.uses.length≤n∧u.results.length≤n
theorem SB.mono {n m r}(h:SB n r)(hm:n≤m):SB m r:=
 ⟨Ea h.L hm,Ea h.P hm,Ea h.U hm,fun p hp=>⟨Ea (h.D p hp).1 hm,Ea (h.D p hp).2.1 hm,Ea (h.D p hp).2.2.1 hm,fun d hd=>⟨Ea ((h.D p hp).2.2.2 d hd).1 hm,Ea ((h.D p hp).2.2.2 d hd).2 hm⟩⟩,fun u hu=>⟨Ea (h.N u hu).1 hm,Ea (h.N u hu).2 hm⟩⟩
theorem SB.empty:SB 0 BR:=⟨E3 _,E3 _,E3 _,fun p (hp:p∈([]:List lN))=>absurd hp Ga,fun u (hu:u∈([]:List j8))=>absurd hu Ga⟩
theorem SB.bQ {n r}(h:SB n r){i p}(hp:p.cq.length≤n∧p.bY.bG.length≤n∧p.bY.bI.length≤n∧∀d∈p.cq,d.bG.length≤n∧d.bI.length≤n):SB n (bQ r i p):=
 ⟨h.L,by show(r.aI.set i p).length≤n;rw[Ek];exact h.P,h.U,fun q hq=>by
  rcases tY hq with hq|rfl
  ·exact h.D q hq
  ·exact hp,h.N⟩
theorem SB.aw {n r}(h:SB n r){i u}(hu:u.uses.length≤n∧u.results.length≤n):SB n (aw r i u):=
 ⟨h.L,h.P,by show(r.units.set i u).length≤n;rw[Ek];exact h.U,h.D,fun q hq=>by
  rcases tY hq with hq|rfl
  ·exact h.N q hq
  ·exact hu⟩
theorem SB.bW {n r}(h:SB n r){i x}:SB n (bW r i x):=
 ⟨by show(r.lots.set i x).length≤n;rw[Ek];exact h.L,h.P,h.U,h.D,h.N⟩
theorem quf {α:Type}{p:α→Bool}{x l n}(h:l.length≤n):(rp p x l).length≤n+1:=by
 unfold rp
 split
 ·rw[Ek];omega
 ·rw[Eb,I];omega
theorem q4q {w l k x n}(h:l.length≤n):(mL w l k x).length≤n+1:=by
 unfold mL
 split
 ·split
  ·rw[Ek];omega
  ·omega
 ·rw[Eb,I];omega
theorem q88 {w:Int→Int}{n:Nat}{r r' e}(h:SB n r)(ha:apply w r e=.ok r'):SB (n+1) r':=by
 have h':=h.mono (Nat.le_succ n)
 unfold apply at ha
 split at ha
 ·unfold EV at ha
  split at ha
  ·repeat' split at ha
   all_goals first|(cases ha;done)|skip
   cases ha
   exact⟨by show(r.lots++[_]).length≤_;rw[Eb,I];have:=h.L;omega,h'.P,h'.U,h'.D,h'.N⟩
  split at ha
  ·repeat' split at ha
   all_goals first|(cases ha;done)|skip
   cases ha
   refine⟨h'.L,by show(r.aI++[_]).length≤_;rw[Eb,I];have:=h.P;omega,h'.U,fun p hp=>?_,h'.N⟩
   rcases En.1 hp with hp|hp
   ·exact h'.D p hp
   ·simp at hp;subst hp;simp
  ·split at ha
   ·cases ha
   repeat' split at ha
   all_goals first|(cases ha;done)|skip
   cases ha
   refine⟨h'.L,h'.P,by show(r.units++[_]).length≤_;rw[Eb,I];have:=h.U;omega,h'.D,fun p hp=>?_⟩
   rcases En.1 hp with hp|hp
   ·exact h'.N p hp
   ·simp at hp;subst hp;simp
 split at ha
 ·unfold EW at ha
  split at ha
  ·cases ha
  split at ha
  ·cases ha
  rename_i p hp
  have hD:=h.D p (Ec hp)
  have nS:=h'.D p (Ec hp)
  repeat' split at ha
  all_goals first|(cases ha;done)|skip
  ·cases ha
   refine h'.bQ ⟨nS.1,?_,nS.2.2.1,nS.2.2.2⟩
   show(BS p.bY.bG _ _).length≤_
   unfold BS
   split
   ·exact Ea (List.length_filter_le _ _) nS.2.1
   ·exact quf hD.2.1
  ·cases ha
   exact h'.bQ ⟨nS.1,nS.2.1,quf hD.2.2.1,nS.2.2.2⟩
  ·cases ha
   refine h'.bQ ⟨by show(p.cq++[_]).length≤_;rw[Eb,I];have:=hD.1;omega,nS.2.1,nS.2.2.1,fun d hd=>?_⟩
   rcases En.1 hd with hd|hd
   ·exact nS.2.2.2 d hd
   ·simp at hd;subst hd;exact⟨nS.2.1,nS.2.2.1⟩
 split at ha
 ·unfold EX at ha
  split at ha
  ·cases ha
  split at ha
  ·cases ha
  repeat' split at ha
  all_goals first|(cases ha;done)|skip
  all_goals (cases ha;exact h'.bW)
 ·unfold EY at ha
  split at ha
  ·cases ha
  split at ha
  ·cases ha
  rename_i u hu
  have hN:=h.N u (Ec hu)
  have rz:=h'.N u (Ec hu)
  split at ha
  ·unfold EZ at ha
   split at ha
   ·cases ha
   split at ha
   ·cases ha
   repeat' split at ha
   all_goals first|(cases ha;done)|skip
   cases ha
   exact h'.bW.aw ⟨q4q hN.1,rz.2⟩
  split at ha
  ·unfold E0 at ha
   split at ha
   ·cases ha
   split at ha
   ·cases ha
   rename_i v hv
   have hV':=h'.N v (Ec hv)
   repeat' split at ha
   all_goals first|(cases ha;done)|skip
   cases ha
   exact(h'.aw (u:={ u with partner:=v.name }) ⟨rz.1,rz.2⟩).aw (u:={ v with partner:=u.name }) ⟨hV'.1,hV'.2⟩
  split at ha
  ·repeat' split at ha
   all_goals first|(cases ha;done)|skip
   cases ha
   exact h'.aw ⟨rz.1,by show(u.results++[_]).length≤_;rw[Eb,I];have:=hN.2;omega⟩
  split at ha
  ·split at ha
   ·cases ha
   split at ha
   ·cases ha
   split at ha
   ·cases ha
   ·cases ha
    exact h'.aw ⟨rz.1,rz.2⟩
  split at ha
  ·split at ha
   ·cases ha
   ·cases ha
    exact h'.aw ⟨rz.1,rz.2⟩
  ·split at ha
   ·cases ha
   ·cases ha
    exact h'.aw ⟨rz.1,rz.2⟩
theorem jba {w n r r' e}(h:SB n r)(ha:after w r e=.ok r'):SB (n+1) r':=by
 unfold after at ha
 split at ha
 ·cases ha
 split at ha
 ·cases ha
 rename_i r1 h1
 cases ha
 have:=q88 h h1
 exact⟨this.L,this.P,this.U,this.D,this.N⟩
def HB (h:iw):Prop:=∀(j:Nat) (r:jo),h.2[j]?=some r→SB j r
theorem HB.empty:HB ([],[BR]):=by
 intro j r hr
 cases j with
 |zero=>simp at hr;subst hr;exact SB.empty
 |succ j=>simp at hr
theorem HB.accept {w h h' k e}(o:gm w h)(b:HB h)(ha:Go.W.accept w h k e=.ok h'):HB h':=by
 unfold Go.W.accept at ha
 split at ha
 ·cases ha
 split at ha
 ·split at ha
  ·cases ha
  split at ha
  ·cases ha
  ·cases ha
   intro j r hr
   simp only[List.getElem?_dropLast]at hr
   split at hr
   ·exact b j r hr
   ·cases hr
 ·split at ha
  ·cases ha
  ·rename_i r' h1
   cases ha
   intro j r hr
   have hn:=o.now
   have hlen:=o.len
   simp only at hr
   by_cases hj:j<h.2.length
   ·rw[List.getElem?_append_left hj]at hr;exact b j r hr
   ·rw[List.getElem?_append_right (by omega)]at hr
    have XK:j=h.1.length+1:=by
     cases hd:j-h.2.length with
     |zero=>omega
     |succ d=>rw[hd]at hr;simp at hr
    subst XK
    rw[hlen,Nat.sub_self]at hr
    simp at hr
    subst hr
    exact jba (b _ _ hn) h1
end Go.Z
namespace Go.Z
open Go Go.Abs Go.W
def EvB (e:aT):Prop:=(e.names.getD []).length≤SM∧(e.values.getD []).length≤SM
end Go.Z
