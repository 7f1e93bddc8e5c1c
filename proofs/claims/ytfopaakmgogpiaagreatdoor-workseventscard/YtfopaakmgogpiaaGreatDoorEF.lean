/- Chapter 10, plain. -/
import Derived.Test.YtfopaakmgogpiaaGreatDoorEC
import Derived.Test.YtfopaakmgogpiaaGreatDoorVB
import Derived.Test.YtfopaakmgogpiaaGreatDoorV9
set_option linter.unusedVariables false
set_option linter.unusedSimpArgs false
set_option maxRecDepth 100000
set_option maxHeartbeats 4000000
namespace Go.Z
open Go Go.Abs Go.W
structure SB (n:Nat) (r:SReg):Prop where
 L:r.lots.length≤n
 P:r.products.length≤n
 U:r.units.length≤n
 D:∀ p∈r.products,p.docs.length≤n∧p.draft.needs.length≤n∧p.draft.tests.length≤n∧∀ d∈p.docs,d.needs.length≤n∧d.tests.length≤n
 N:∀ u∈r.units,u.uses.length≤n∧u.results.length≤n
theorem SB.mono {n m:Nat} {r:SReg} (h:SB n r) (hm:n≤m):SB m r:=
 ⟨Nat.le_trans h.L hm,Nat.le_trans h.P hm,Nat.le_trans h.U hm,fun p hp=>⟨Nat.le_trans (h.D p hp).1 hm,Nat.le_trans (h.D p hp).2.1 hm,Nat.le_trans (h.D p hp).2.2.1 hm,fun d hd=>⟨Nat.le_trans ((h.D p hp).2.2.2 d hd).1 hm,Nat.le_trans ((h.D p hp).2.2.2 d hd).2 hm⟩⟩,fun u hu=>⟨Nat.le_trans (h.N u hu).1 hm,Nat.le_trans (h.N u hu).2 hm⟩⟩
theorem SB.empty:SB 0 ko:=⟨Nat.le_refl _,Nat.le_refl _,Nat.le_refl _,fun p (hp:p∈([]:List SProd))=>absurd hp List.not_mem_nil,fun u (hu:u∈([]:List SUnit))=>absurd hu List.not_mem_nil⟩
theorem SB.gb {n:Nat} {r:GReg} (h:SB n r.er) (hn:n≤BB):GB r:=by
 refine ⟨Nat.le_trans h.L hn,?_,?_,fun p hp=>?_,fun u hu=>?_⟩
 ·have:=h.P; rw [qec,List.length_map] at this; exact Nat.le_trans this hn
 ·have:=h.U; rw [qfn,List.length_map] at this; exact Nat.le_trans this hn
 ·obtain ⟨h1,h2,h3,h4⟩:=h.D p.er (by rw [qec]; exact List.mem_map_of_mem hp)
  have h1':(p.docs.getD []).length≤n:=by
   have:((p.docs.getD []).map GDoc.er).length≤n:=h1
   rwa [List.length_map] at this
  refine ⟨Nat.le_trans h1' hn,Nat.le_trans h2 hn,Nat.le_trans h3 hn,fun d hd=>?_⟩
  obtain ⟨h5,h6⟩:=h4 d.er (List.mem_map_of_mem hd)
  exact ⟨Nat.le_trans h5 hn,Nat.le_trans h6 hn⟩
 ·obtain ⟨h1,h2⟩:=h.N u.er (by rw [qfn]; exact List.mem_map_of_mem hu)
  exact ⟨Nat.le_trans h1 hn,Nat.le_trans h2 hn⟩
theorem SB.setProd {n:Nat} {r:SReg} (h:SB n r) {i:Nat} {p:SProd} (hp:p.docs.length≤n∧p.draft.needs.length≤n∧p.draft.tests.length≤n∧∀ d∈p.docs,d.needs.length≤n∧d.tests.length≤n):SB n (setProd r i p):=
 ⟨h.L,by show (r.products.set i p).length≤n; rw [List.length_set]; exact h.P,h.U,fun q hq=>by
  rcases qdj hq with hq | rfl
  ·exact h.D q hq
  ·exact hp,h.N⟩
theorem SB.setUnit {n:Nat} {r:SReg} (h:SB n r) {i:Nat} {u:SUnit} (hu:u.uses.length≤n∧u.results.length≤n):SB n (setUnit r i u):=
 ⟨h.L,h.P,by show (r.units.set i u).length≤n; rw [List.length_set]; exact h.U,h.D,fun q hq=>by
  rcases qdj hq with hq | rfl
  ·exact h.N q hq
  ·exact hu⟩
theorem SB.setLot {n:Nat} {r:SReg} (h:SB n r) {i:Nat} {x:qt}:SB n (setLot r i x):=
 ⟨by show (r.lots.set i x).length≤n; rw [List.length_set]; exact h.L,h.P,h.U,h.D,h.N⟩
theorem qy1 {α:Type} {p:α→Bool} {x:α} {l:List α} {n:Nat} (h:l.length≤n):(qak p x l).length≤n + 1:=by
 unfold qak
 split
 ·rw [List.length_set]; omega
 ·rw [List.length_append,List.length_singleton]; omega
theorem q8o {w:Int→Int} {l:List GSI} {k:List UInt8} {x:Int} {n:Nat} (h:l.length≤n):(qe8 w l k x).length≤n + 1:=by
 unfold qe8
 split
 ·split
  ·rw [List.length_set]; omega
  ·omega
 ·rw [List.length_append,List.length_singleton]; omega
theorem jb4 {w:Int→Int} {n:Nat} {r r':SReg} {e:SEv} (h:SB n r) (ha:jh w r e=.ok r'):SB (n + 1) r':=by
 have h':=h.mono (Nat.le_succ n)
 unfold jh at ha
 split at ha
 ·unfold qff at ha
  split at ha
  ·repeat' split at ha
   all_goals first | (cases ha; done) | skip
   cases ha
   exact ⟨by show (r.lots++[_]).length≤_; rw [List.length_append,List.length_singleton]; have:=h.L; omega,h'.P,h'.U,h'.D,h'.N⟩
  split at ha
  ·repeat' split at ha
   all_goals first | (cases ha; done) | skip
   cases ha
   refine ⟨h'.L,by show (r.products++[_]).length≤_; rw [List.length_append,List.length_singleton]; have:=h.P; omega,h'.U,fun p hp=>?_,h'.N⟩
   rcases List.mem_append.1 hp with hp | hp
   ·exact h'.D p hp
   ·simp at hp; subst hp; simp
  ·split at ha
   ·cases ha
   repeat' split at ha
   all_goals first | (cases ha; done) | skip
   cases ha
   refine ⟨h'.L,h'.P,by show (r.units++[_]).length≤_; rw [List.length_append,List.length_singleton]; have:=h.U; omega,h'.D,fun p hp=>?_⟩
   rcases List.mem_append.1 hp with hp | hp
   ·exact h'.N p hp
   ·simp at hp; subst hp; simp
 split at ha
 ·unfold qax at ha
  split at ha
  ·cases ha
  split at ha
  ·cases ha
  rename_i p hp
  have hD:=h.D p (List.mem_of_getElem? hp)
  have hD':=h'.D p (List.mem_of_getElem? hp)
  repeat' split at ha
  all_goals first | (cases ha; done) | skip
  ·cases ha
   refine h'.setProd ⟨hD'.1,?_,hD'.2.2.1,hD'.2.2.2⟩
   show (qac p.draft.needs _ _).length≤_
   unfold qac
   split
   ·exact Nat.le_trans (List.length_filter_le _ _) hD'.2.1
   ·exact qy1 hD.2.1
  ·cases ha
   exact h'.setProd ⟨hD'.1,hD'.2.1,qy1 hD.2.2.1,hD'.2.2.2⟩
  ·cases ha
   refine h'.setProd ⟨by show (p.docs++[_]).length≤_; rw [List.length_append,List.length_singleton]; have:=hD.1; omega,hD'.2.1,hD'.2.2.1,fun d hd=>?_⟩
   rcases List.mem_append.1 hd with hd | hd
   ·exact hD'.2.2.2 d hd
   ·simp at hd; subst hd; exact ⟨hD'.2.1,hD'.2.2.1⟩
 split at ha
 ·unfold qkm at ha
  split at ha
  ·cases ha
  split at ha
  ·cases ha
  repeat' split at ha
  all_goals first | (cases ha; done) | skip
  all_goals (cases ha; exact h'.setLot)
 ·unfold qds at ha
  split at ha
  ·cases ha
  split at ha
  ·cases ha
  rename_i u hu
  have hN:=h.N u (List.mem_of_getElem? hu)
  have hN':=h'.N u (List.mem_of_getElem? hu)
  split at ha
  ·unfold qn1 at ha
   split at ha
   ·cases ha
   split at ha
   ·cases ha
   repeat' split at ha
   all_goals first | (cases ha; done) | skip
   cases ha
   exact h'.setLot.setUnit ⟨q8o hN.1,hN'.2⟩
  split at ha
  ·unfold qjh at ha
   split at ha
   ·cases ha
   split at ha
   ·cases ha
   rename_i v hv
   have hV':=h'.N v (List.mem_of_getElem? hv)
   repeat' split at ha
   all_goals first | (cases ha; done) | skip
   cases ha
   exact (h'.setUnit (u:={ u with partner:=v.name }) ⟨hN'.1,hN'.2⟩).setUnit (u:={ v with partner:=u.name }) ⟨hV'.1,hV'.2⟩
  split at ha
  ·repeat' split at ha
   all_goals first | (cases ha; done) | skip
   cases ha
   exact h'.setUnit ⟨hN'.1,by show (u.results++[_]).length≤_; rw [List.length_append,List.length_singleton]; have:=hN.2; omega⟩
  split at ha
  ·split at ha
   ·cases ha
   split at ha
   ·cases ha
   split at ha
   ·cases ha
   ·cases ha
    exact h'.setUnit ⟨hN'.1,hN'.2⟩
  split at ha
  ·split at ha
   ·cases ha
   ·cases ha
    exact h'.setUnit ⟨hN'.1,hN'.2⟩
  ·split at ha
   ·cases ha
   ·cases ha
    exact h'.setUnit ⟨hN'.1,hN'.2⟩
theorem jfa {w:Int→Int} {n:Nat} {r r':SReg} {e:SEv} (h:SB n r) (ha:after w r e=.ok r'):SB (n + 1) r':=by
 unfold after at ha
 split at ha
 ·cases ha
 split at ha
 ·cases ha
 rename_i r1 h1
 cases ha
 have:=jb4 h h1
 exact ⟨this.L,this.P,this.U,this.D,this.N⟩
def HB (h:qav):Prop:=∀ (j:Nat) (r:SReg),h.2[j]?=some r→SB j r
theorem HB.empty:HB ([],[ko]):=by
 intro j r hr
 cases j with
 | zero=>simp at hr; subst hr; exact SB.empty
 | succ j=>simp at hr
theorem HB.accept {w:Int→Int} {h h':qav} {k:Int} {e:SEv} (o:HOk w h) (b:HB h) (ha:Go.W.accept w h k e=.ok h'):HB h':=by
 unfold Go.W.accept at ha
 split at ha
 ·cases ha
 split at ha
 ·split at ha
  ·cases ha
  split at ha
  ·cases ha
  ·cases ha
   intro j r hr
   simp only [List.getElem?_dropLast] at hr
   split at hr
   ·exact b j r hr
   ·cases hr
 ·split at ha
  ·cases ha
  ·rename_i r' h1
   cases ha
   intro j r hr
   have hn:=o.now
   have hlen:=o.len
   simp only at hr
   by_cases hj:j < h.2.length
   ·rw [List.getElem?_append_left hj] at hr; exact b j r hr
   ·rw [List.getElem?_append_right (by omega)] at hr
    have hj2:j=h.1.length + 1:=by
     cases hd:j - h.2.length with
     | zero=>omega
     | succ d=>rw [hd] at hr; simp at hr
    subst hj2
    rw [hlen,Nat.sub_self] at hr
    simp at hr
    subst hr
    exact jfa (b _ _ hn) h1
end Go.Z
namespace Go.Z
open Go Go.Abs Go.W
def qp2 (n:Nat) (h:qav):Option HV→Prop
 | none=>h=([],[ko])∧n=0
 | some v=>v.lc≤v.cs.length∧v.ls≤v.ss.length∧h.1=(v.cs.take v.lc).map GEv.er∧h.2=(v.ss.take v.ls).map GReg.er∧v.ev.length=n∧v.lc≤n
def jg2 (n:Nat) (h:qav) (c:Int) (s:Option HV):Except Int qav→Prop
 | .error x=>c=x∧x ≠ 0∧qp2 n h s
 | .ok h'=>c=0∧qp2 (n + 1) h' s
theorem qta {α:Type} {xs:List α} {len:Nat} {x:α} (h1:len≤xs.length) (h2:len≤BB):qf9 xs len x=some (xs.take len++[x]):=by
 unfold qf9
 rw [if_pos ⟨h1,by unfold BB at h2; omega⟩]
theorem qr6 {n:Nat} (h:n≤BB):qe .i64 ((n:Int) + 1)=((n + 1:Nat):Int):=yl (by unfold BB at h; omega)
theorem qn5 {n:Nat} (h:n≤BB) (h0:0 < n):qe .i64 ((n:Int) - 1)=((n - 1:Nat):Int):=by
 obtain ⟨m,rfl⟩:∃ m,n=m + 1:=⟨n - 1,by omega⟩
 have:=qyn (i:=m) (by unfold BB at h; omega)
 rw [this]; rfl
theorem qsj {α:Type} {l:List α} {k:Nat} (h:k≤l.length):(l.take k).dropLast=l.take (k - 1):=by
 rw [List.dropLast_eq_take,List.length_take,List.take_take]
 congr 1; omega
theorem q6w {a b:Int}:f51 (some [a,b])=some (qag [a,b]):=ky (by simp [SM])
theorem jei {e:GEv} (hc:zb e.er=0):∃ c s',qin e=some (c,s')∧jg2 0 ([],[ko]) c s' (Go.W.accept (qe .i64) ([],[ko]) (0 + 1) e.er):=by
 unfold qin Go.W.accept
 rw [show qe .i64 1=1 from rfl,show e.er.number=e.number from rfl,show e.er.kind=e.kind from rfl,show ((0:Int) + 1)=1 from rfl]
 by_cases h1:e.number=1
 ·rw [decide_eq_true h1,if_neg (fun h=>h h1)]
  simp only [cond_true]
  by_cases h2:e.kind=qc4
  ·rw [show decide (e.kind=([117,110,100,111]:List UInt8))=true from decide_eq_true h2,if_pos h2]
   simp only [cond_true,qaz,qa,q6w]
   exact ⟨_,_,rfl,rfl,by decide,rfl,rfl⟩
  ·rw [show decide (e.kind=([117,110,100,111]:List UInt8))=false from decide_eq_false h2,if_neg h2]
   have hw:WF zreg.er:=WF.empty 0
   obtain ⟨r',c,g1,g2⟩:=q5j (r:=zreg) (SB.empty.gb (r:=zreg) (Nat.zero_le _)) hw hc h2
   simp only [cond_false,g1,qa]
   rw [show now ([],[ko])=zreg.er from rfl]
   cases ha:after (qe .i64) zreg.er e.er with
   | error k=>
    rw [ha] at g2
    obtain ⟨rfl,g3⟩:=g2
    rw [decide_eq_false g3]
    exact ⟨_,_,rfl,rfl,g3,rfl,rfl⟩
   | ok s=>
    rw [ha] at g2
    obtain ⟨rfl,rfl⟩:=g2
    exact ⟨_,_,rfl,rfl,Nat.le_refl _,Nat.le_refl _,rfl,rfl,rfl,Nat.le_refl _⟩
 ·rw [decide_eq_false h1,if_pos h1]
  exact ⟨_,_,rfl,rfl,by decide,rfl,rfl⟩
theorem jjy {v:HV} {n:Nat} {h:qav} {e:GEv} (hr:qp2 n h (some v)) (o:HOk (qe .i64) h) (b:HB h) (hn:n < BB) (hc:zb e.er=0):∃ c s',q29 (some v) e=some (c,s')∧jg2 n h c s' (Go.W.accept (qe .i64) h ((n:Int) + 1) e.er):=by
 obtain ⟨r1,r2,r3,r4,r5,r6⟩:=hr
 have hl1:h.1.length=v.lc:=by rw [r3,List.length_map,List.length_take]; omega
 have hl2:h.2.length=v.ls:=by rw [r4,List.length_map,List.length_take]; omega
 have hls:v.ls=v.lc + 1:=by rw [← hl1,← hl2]; exact o.len
 have hev:qf9 v.ev v.ev.length e=some (v.ev++[e]):=by rw [qta (Nat.le_refl _) (by omega),List.take_length]
 show ∃ c s',(qa (qnz v e) fun q=>some (q.1,some q.2))=some (c,s')∧_
 unfold qnz Go.W.accept
 rw [show e.er.number=e.number from rfl,show e.er.kind=e.kind from rfl,r5,qr6 (by omega)]
 by_cases h1:e.number=((n + 1:Nat):Int)
 case neg=>
  rw [decide_eq_false h1,if_pos (show e.number ≠ (n:Int) + 1 from h1)]
  exact ⟨_,_,rfl,rfl,by decide,r1,r2,r3,r4,r5,r6⟩
 rw [decide_eq_true h1,if_neg (show ¬ e.number ≠ (n:Int) + 1 from fun hh=>hh h1)]
 simp only [cond_true]
 by_cases h2:e.kind=qc4
 ·rw [show decide (e.kind=([117,110,100,111]:List UInt8))=true from decide_eq_true h2,if_pos h2]
  simp only [cond_true,qaz,qa]
  by_cases h3:v.lc=0
  ·have h4:h.1=[]:=List.eq_nil_of_length_eq_zero (by rw [hl1,h3])
   rw [h4]
   simp only [h3,show decide (((0:Nat):Int)=0)=true from rfl,show decide ((0:Int) < ((0:Nat):Int))=false from rfl,cond_false,q6w]
   exact ⟨_,_,rfl,rfl,by decide,r1,r2,r3,r4,r5,r6⟩
  ·have hpos:0 < v.lc:=by omega
   rw [decide_eq_false (show ¬ (v.lc:Int)=0 by omega),decide_eq_true (show (0:Int) < (v.lc:Int) by omega),qn5 (by omega) hpos]
   obtain ⟨x,hx⟩:∃ x,(v.cs.take v.lc)[v.lc - 1]?=some x:=⟨_,List.getElem?_eq_getElem (by rw [List.length_take]; omega)⟩
   have hmx:max 0 ((v.lc - 1:Nat):Int)=((v.lc - 1:Nat):Int):=by omega
   have hlast:h.1.getLast?=some x.er:=by
    rw [List.getLast?_eq_getElem?,hl1,r3,List.getElem?_map,hx]; rfl
   rw [hmx,hlast]
   simp only [cond_true,jf hx,q6w]
   by_cases h5:x.kind=qau
   ·rw [if_pos (show x.er.kind=qau from h5),show decide (x.kind=([115,104,105,112]:List UInt8))=true from decide_eq_true h5]
    exact ⟨_,_,rfl,rfl,by decide,r1,r2,r3,r4,r5,r6⟩
   ·rw [if_neg (show ¬ x.er.kind=qau from h5),show decide (x.kind=([115,104,105,112]:List UInt8))=false from decide_eq_false h5]
    rw [r5] at hev
    simp only [Bool.false_eq_true,if_false,show decide (qag [0,0]=0)=true from rfl,cond_true]
    rw [decide_eq_true (show (0:Int)≤((v.lc - 1:Nat):Int)∧((v.lc - 1:Nat):Int)≤(v.lc:Int)∧v.lc≤v.ls by omega)]
    simp only [cond_true,hev]
    have htn:((v.lc - 1:Nat):Int).toNat=v.lc - 1:=Int.toNat_natCast _
    refine ⟨_,_,rfl,rfl,by show ((v.lc - 1:Nat):Int).toNat≤v.cs.length; rw [htn]; omega,by show v.lc≤v.ss.length; omega,?_,?_,by show (v.ev++[e]).length=_; rw [List.length_append,r5]; rfl,by show ((v.lc - 1:Nat):Int).toNat≤n + 1; rw [htn]; omega⟩
    ·show h.1.dropLast=(v.cs.take ((v.lc - 1:Nat):Int).toNat).map GEv.er
     rw [htn,r3,← List.map_dropLast,qsj r1]
    ·show h.2.dropLast=(v.ss.take v.lc).map GReg.er
     rw [r4,← List.map_dropLast,qsj r2,hls]; rfl
 ·rw [show decide (e.kind=([117,110,100,111]:List UInt8))=false from decide_eq_false h2,if_neg h2]
  have hnow:=o.now
  rw [hl1,r4,List.getElem?_map] at hnow
  cases hr:(v.ss.take v.ls)[v.lc]? with
  | none=>rw [hr] at hnow; cases hnow
  | some r=>
   rw [hr] at hnow
   have hre:r.er=now h:=by simpa using hnow
   have hsb:SB v.lc r.er:=b v.lc r.er (by rw [r4,List.getElem?_map,hr]; rfl)
   have hwf:WF r.er:=by rw [hre]; exact o.wfNow
   obtain ⟨r',c,g1,g2⟩:=q5j (hsb.gb (by omega)) hwf hc h2
   have hi:qe .i64 ((v.ls:Int) - 1)=(v.lc:Int):=by rw [qn5 (by omega) (by omega),hls]; rfl
   rw [hi]
   simp only [cond_false,jf hr,g1,qa]
   rw [hre] at g2
   cases ha:after (qe .i64) (now h) e.er with
   | error k=>
    rw [ha] at g2
    obtain ⟨rfl,g3⟩:=g2
    rw [decide_eq_false g3]
    exact ⟨_,_,rfl,rfl,g3,r1,r2,r3,r4,r5,r6⟩
   | ok s=>
    rw [ha] at g2
    obtain ⟨rfl,rfl⟩:=g2
    rw [r5] at hev
    rw [qta r1 (by omega),qta r2 (by omega)]
    simp only [hev,show decide ((0:Int)=0)=true from rfl,cond_true]
    refine ⟨_,_,rfl,rfl,?_,?_,?_,?_,by show (v.ev++[e]).length=_; rw [List.length_append,r5]; rfl,by show v.lc + 1≤n + 1; omega⟩
    ·show v.lc + 1≤(v.cs.take v.lc++[e]).length
     rw [List.length_append,List.length_take,List.length_singleton]; omega
    ·show v.ls + 1≤(v.ss.take v.ls++[r']).length
     rw [List.length_append,List.length_take,List.length_singleton]; omega
    ·show h.1++[e.er]=((v.cs.take v.lc++[e]).take (v.lc + 1)).map GEv.er
     rw [List.take_of_length_le (by rw [List.length_append,List.length_take,List.length_singleton]; omega),List.map_append,r3]; rfl
    ·show h.2++[r'.er]=((v.ss.take v.ls++[r']).take (v.ls + 1)).map GReg.er
     rw [List.take_of_length_le (by rw [List.length_append,List.length_take,List.length_singleton]; omega),List.map_append,r4]; rfl
theorem q43 {s:Option HV} {n:Nat} {h:qav} {e:GEv} (hr:qp2 n h s) (o:HOk (qe .i64) h) (b:HB h) (hn:n < BB) (hc:zb e.er=0):∃ c s',q29 s e=some (c,s')∧jg2 n h c s' (Go.W.accept (qe .i64) h ((n:Int) + 1) e.er):=by
 cases s with
 | some v=>exact jjy hr o b hn hc
 | none=>
  obtain ⟨rfl,rfl⟩:=hr
  exact jei hc
end Go.Z
namespace Go.Z
open Go Go.Abs Go.W
def EvB (e:GEv):Prop:=(e.names.getD []).length≤SM∧(e.values.getD []).length≤SM
theorem jaj {α:Type} {o:Option (List α)} (h:(o.getD []).length≤SM):∃ q b,(cond o.isNone (some (none,false)) (qa (apO (some []) (o.getD [])) fun v2=>some (v2,true)):Option (Option (List α) × Bool))=some (q,b)∧q.getD []=o.getD []:=by
 cases o with
 | none=>exact ⟨none,false,rfl,rfl⟩
 | some l=>
  have:apO (some []) l=some (some l):=by
   unfold apO
   simp only [Option.getD_some,List.nil_append]
   rw [if_pos (by simpa using h)]
   rfl
  exact ⟨some l,true,by simp only [Option.isNone_some,cond_false,Option.getD_some,this,qa],rfl⟩
theorem q9z {e:GEv} (h:EvB e):∃ e',f66 e=some e'∧e'.er=e.er∧EvB e':=by
 obtain ⟨q1,b1,h1,k1⟩:=jaj (o:=e.names) h.1
 obtain ⟨q2,b2,h2,k2⟩:=jaj (o:=e.values) h.2
 refine ⟨⟨e.number,e.kind,q1,q2,e.text⟩,?_,?_,?_⟩
 ·unfold f66
  rw [show f122 e.names=some (q1,b1) from h1,show f123 e.values=some (q2,b2) from h2]
  cases b1 <;> cases b2 <;> rfl
 ·show SEv.mk _ _ _ _ _=SEv.mk _ _ _ _ _
  simp only [k1,k2]
 ·exact ⟨by show (q1.getD []).length≤_; rw [k1]; exact h.1,by show (q2.getD []).length≤_; rw [k2]; exact h.2⟩
def zbp (n:Nat):Except (Int × Int) qav→(Int × Int × Option HV) ⊕ (Int × Option HV)→Prop
 | .error x,d=>∃ s,d=.inl (x.1,x.2,s)∧x.2 ≠ 0
 | .ok h,d=>∃ o,d=.inr ((n:Int),o)∧qp2 n h o∧HOk (qe .i64) h∧HB h
theorem ja0 {l:Option (List GEv)} (hb:∀ e∈l.getD [],EvB e) (hl:(l.getD []).length≤BB):∀ (m:List GEv) (i:Nat) (h:qav) (s:Option HV),(l.getD []).drop i=m→i≤(l.getD []).length→qp2 i h s→HOk (qe .i64) h→HB h→∃ d,itO (s47 l) ((i:Int),s)=some d∧zbp (l.getD []).length (qb5 (qe .i64) i h (m.map GEv.er)) d
 | [],i,h,s,hm,hi,hr,o,b=>by
  have he:i=(l.getD []).length:=by
   have:=List.drop_eq_nil_iff.1 hm; omega
  subst he
  refine ⟨.inr (((l.getD []).length:Int),s),ki ?_,s,rfl,hr,o,b⟩
  unfold s47
  rw [zx]; rfl
 | e::m,i,h,s,hm,hi,hr,o,b=>by
  have hx:(l.getD [])[i]?=some e:=by
   have:=congrArg List.head? hm
   rwa [List.head?_drop] at this
  have hlt:i < (l.getD []).length:=(List.getElem?_eq_some_iff.1 hx).1
  have hm':(l.getD []).drop (i + 1)=m:=by rw [qbf hx] at hm; exact (List.cons.inj hm).2
  have heb:=hb e (List.mem_of_getElem? hx)
  have hw:qe .i64 ((i:Int) + 1)=((i + 1:Nat):Int):=qr6 (by omega)
  have hstep:s47 l ((i:Int),s)=cond (decide (zb e.er=0)) (qa (f66 e) fun e2=>qa (q29 s e2) fun q=>cond (decide (q.1=0)) (some (.inl (((i + 1:Nat):Int),q.2))) (some (.inr (.inl (((i + 1:Nat):Int),q.1,q.2))))) (some (.inr (.inl (((i + 1:Nat):Int),zb e.er,s)))):=by
   unfold s47
   simp only [yn hlt,cond_true,jf hx,qa,q3k heb.1 heb.2,hw]
  rw [List.map_cons]
  simp only [qb5]
  by_cases hc:zb e.er=0
  case neg=>
   rw [if_pos hc]
   refine ⟨.inl (((i + 1:Nat):Int),zb e.er,s),ki ?_,s,rfl,hc⟩
   rw [hstep,decide_eq_false hc]; rfl
  rw [if_neg (fun h=>h hc)]
  obtain ⟨e',g1,g2,g3⟩:=q9z heb
  obtain ⟨c,s',k1,k2⟩:=q43 (e:=e') hr o b (by omega) (by rw [g2]; exact hc)
  rw [g2] at k2
  rw [decide_eq_true hc,cond_true,g1] at hstep
  simp only [qa,k1] at hstep
  cases ha:Go.W.accept (qe .i64) h ((i:Int) + 1) e.er with
  | error x=>
   rw [ha] at k2
   obtain ⟨rfl,k3,k4⟩:=k2
   rw [decide_eq_false k3] at hstep
   exact ⟨.inl (((i + 1:Nat):Int),c,s'),ki hstep,s',rfl,k3⟩
  | ok h'=>
   rw [ha] at k2
   obtain ⟨rfl,k4⟩:=k2
   rw [decide_eq_true (rfl:(0:Int)=0)] at hstep
   obtain ⟨d,d1,d2⟩:=ja0 hb hl m (i + 1) h' s' hm' hlt k4 (o.accept hc ha) (b.accept o ha)
   exact ⟨d,by rw [qc7 hstep]; exact d1,d2⟩
def za6 (n:Nat):Except (Int × Int) qav→(Int × Int) ⊕ Option HV→Prop
 | .error x,d=>d=.inl x∧x.2 ≠ 0
 | .ok h,d=>∃ o,d=.inr o∧qp2 n h o∧HOk (qe .i64) h∧HB h∧n≤1000
theorem q9l {l:Option (List GEv)} (hb:∀ e∈l.getD [],EvB e):∃ d,f47 l=some d∧za6 (l.getD []).length (run (qe .i64) ((l.getD []).map GEv.er)) d:=by
 unfold f47 run
 rw [List.length_map]
 by_cases h:1000 < (l.getD []).length
 ·rw [decide_eq_true (by omega),if_pos h]
  exact ⟨_,rfl,rfl,by decide⟩
 ·rw [decide_eq_false (by omega),if_neg h,cond_false]
  obtain ⟨d,d1,d2⟩:=ja0 hb (by unfold BB; omega) (l.getD []) 0 ([],[ko]) none rfl (Nat.zero_le _) ⟨rfl,rfl⟩ HOk.empty HB.empty
  rw [show (0:Int)=((0:Nat):Int) from rfl,d1]
  cases hr:qb5 (qe .i64) 0 ([],[ko]) ((l.getD []).map GEv.er) with
  | error x=>
   rw [hr] at d2
   obtain ⟨s,rfl,k⟩:=d2
   exact ⟨_,rfl,rfl,k⟩
  | ok h'=>
   rw [hr] at d2
   obtain ⟨o,rfl,k1,k2,k3⟩:=d2
   exact ⟨_,rfl,o,rfl,k1,k2,k3,by omega⟩
theorem jkr {n:Nat} {h:qav} {o:Option HV} (hr:qp2 n h o) (k:HOk (qe .i64) h) (hn:n≤1000):∃ r,jo5 o=some r∧r.er=now h:=by
 cases o with
 | none=>
  obtain ⟨rfl,rfl⟩:=hr
  exact ⟨zreg,rfl,rfl⟩
 | some v=>
  obtain ⟨r1,r2,r3,r4,r5,r6⟩:=hr
  have hl1:h.1.length=v.lc:=by rw [r3,List.length_map,List.length_take]; omega
  have hl2:h.2.length=v.ls:=by rw [r4,List.length_map,List.length_take]; omega
  have hls:v.ls=v.lc + 1:=by rw [← hl1,← hl2]; exact k.len
  have hi:qe .i64 ((v.ls:Int) - 1)=(v.lc:Int):=by rw [qn5 (by unfold BB; omega) (by omega),hls]; rfl
  have hnow:=k.now
  rw [hl1,r4,List.getElem?_map] at hnow
  cases hq:(v.ss.take v.ls)[v.lc]? with
  | none=>rw [hq] at hnow; cases hnow
  | some r=>
   rw [hq] at hnow
   exact ⟨r,by show qw (v.ss.take v.ls) (qe .i64 ((v.ls:Int) - 1))=some r; rw [hi]; exact jf hq,by simpa using hnow⟩
def qu8:Except (Int × Int) qav→SReg × Int × Int
 | .error x=>(ko,x.1,x.2)
 | .ok h=>(now h,0,0)
theorem jzs {l:Option (List GEv)} (hb:∀ e∈l.getD [],EvB e):∃ r,f9 l=some r∧(r.1.er,r.2)=qu8 (run (qe .i64) ((l.getD []).map GEv.er)):=by
 obtain ⟨d,d1,d2⟩:=q9l hb
 unfold f9
 rw [d1]
 cases hr:run (qe .i64) ((l.getD []).map GEv.er) with
 | error x=>
  rw [hr] at d2
  obtain ⟨rfl,k⟩:=d2
  refine ⟨(zreg,x.1,x.2),?_,rfl⟩
  simp only [qa]
  rw [decide_eq_false k]; rfl
 | ok h=>
  rw [hr] at d2
  obtain ⟨o,rfl,k1,k2,k3,k4⟩:=d2
  obtain ⟨r,q1,q2⟩:=jkr k1 k2 k4
  refine ⟨(r,0,0),?_,?_⟩
  ·simp only [qa,q1]
  ·rw [q2]; rfl
def quw (r:Except (Int × Int) qav) (n:Nat) (e:SEv):Int:=match r with
 | .error x=>x.2
 | .ok h=>if zb e ≠ 0 then zb e else if 1000≤n then 5 else match Go.W.accept (qe .i64) h ((n:Int) + 1) e with
  | .error x=>x
  | .ok _=>0
theorem jr5 {l:Option (List GEv)} {e:GEv} (hb:∀ e∈l.getD [],EvB e) (he:EvB e):f15 l e=some (quw (run (qe .i64) ((l.getD []).map GEv.er)) (l.getD []).length e.er):=by
 obtain ⟨d,d1,d2⟩:=q9l hb
 unfold f15 quw
 rw [d1,q3k he.1 he.2]
 simp only [qa,qaz]
 have f3:∀ a b c:Int,f51 (some [a,b,c])=some (qag [a,b,c]):=fun a b c=>ky (by simp [SM])
 cases hr:run (qe .i64) ((l.getD []).map GEv.er) with
 | error x=>
  rw [hr] at d2
  obtain ⟨rfl,k⟩:=d2
  simp only [f3,qa]
  have:qag [x.2,zb e.er,if decide (1000≤((l.getD []).length:Int))=true then 5 else 0]=x.2:=by simp [qag,k]
  rw [this,decide_eq_false k]; rfl
 | ok h=>
  rw [hr] at d2
  obtain ⟨o,rfl,k1,k2,k3,k4⟩:=d2
  simp only [f3,qa]
  generalize hk:(if decide (1000≤((l.getD []).length:Int))=true then (5:Int) else 0)=kk
  by_cases hc:zb e.er=0
  case neg=>
   rw [if_pos hc]
   have:qag [0,zb e.er,kk]=zb e.er:=by simp [qag,hc]
   rw [this,decide_eq_false hc]; rfl
  rw [if_neg (fun h=>h hc)]
  by_cases hn:1000≤(l.getD []).length
  ·rw [if_pos hn]
   have:qag [0,zb e.er,kk]=5:=by
    rw [← hk,decide_eq_true (by omega)]; simp [qag,hc]
   rw [this]; rfl
  ·rw [if_neg hn]
   have:qag [0,zb e.er,kk]=0:=by
    rw [← hk,decide_eq_false (by omega)]; simp [qag,hc]
   rw [this]
   obtain ⟨e',g1,g2,g3⟩:=q9z he
   obtain ⟨c,s',a1,a2⟩:=q43 (e:=e') k1 k2 k3 (by unfold BB; omega) (by rw [g2]; exact hc)
   rw [g2] at a2
   simp only [decide_true,cond_true,g1,qa,a1]
   cases ha:Go.W.accept (qe .i64) h (((l.getD []).length:Int) + 1) e.er with
   | error x=>
    rw [ha] at a2
    rw [a2.1]
   | ok h'=>
    rw [ha] at a2
    rw [a2.1]
end Go.Z
