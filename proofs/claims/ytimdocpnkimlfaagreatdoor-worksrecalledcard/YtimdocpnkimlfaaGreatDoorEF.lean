/- Chapter 10, plain. -/
import Derived.Test.YtimdocpnkimlfaaGreatDoorEA
import Derived.Test.YtimdocpnkimlfaaGreatDoorV9
set_option linter.unusedVariables false
set_option linter.unusedSimpArgs false
set_option maxRecDepth 100000
set_option maxHeartbeats 4000000
open Option renaming some→I,getD_some→Gs,none→G7,any_some→Jp
open Nat renaming le_trans→En,le_refl→Gp,zero_le→G6
open List renaming length_singleton→E3,length_map→Ga,length_append→Gc,mem_of_getElem?→Gd,getElem?_eq_some_iff→Gg,length_take→Gh,getElem?_map→Gi,mem_map_of_mem→Gm,drop_eq_nil_iff→Gq,length_set→Gv,map_append→Gw,length_filter_le→Gx,dropLast_eq_take→Gz,any_cons→G8,eq_nil_of_length_eq_zero→G9,head?_drop→Ha,getLast?_eq_getElem?→Hc,any_eq_false→Hd,getElem?_eq_getElem→If,any_map→Ih,mem_append→Jn,take_of_length_le→Jo,head?→Jq,any_nil→Jt,map_dropLast→Jy,cons→J9,not_mem_nil→La,any_eq_true→Lf,filter_map→Li,map_cons→Ln,map_take→Lp,mem_map→Lr
open Bool renaming false→Gl,true→Gr,false_eq_true→Hb,false_or→Jr,or_false→Js,eq_iff_iff→Lg,false_and→Lk
namespace Go.Z
open Go Go.Abs Go.W
structure SB (n:Nat)(r:jq):Prop where
 L:r.ar.length≤n
 P:r.ae.length≤n
 U:r.units.length≤n
 D:∀p∈r.ae,p.aW.length≤n∧p.bU.aM.length≤n∧p.bU.aH.length≤n∧∀d∈p.aW,d.aM.length≤n∧d.aH.length≤n
 N:∀u∈r.units,u.uses.length≤n∧u.results.length≤n
theorem SB.mono {n m r}(h:SB n r)(hm:n≤m):SB m r:=
 ⟨En h.L hm,En h.P hm,En h.U hm,fun p hp=>⟨En (h.D p hp).1 hm,En (h.D p hp).2.1 hm,En (h.D p hp).2.2.1 hm,fun d hd=>⟨En ((h.D p hp).2.2.2 d hd).1 hm,En ((h.D p hp).2.2.2 d hd).2 hm⟩⟩,fun u hu=>⟨En (h.N u hu).1 hm,En (h.N u hu).2 hm⟩⟩
theorem SB.empty:SB 0 mS:=⟨Gp _,Gp _,Gp _,fun p (hp:p∈([]:List nC))=>absurd hp La,fun u (hu:u∈([]:List j6))=>absurd hu La⟩
theorem SB.gb {n r}(h:SB n r.er)(hn:n≤BB):GB r:=by
 refine⟨En h.L hn,?_,?_,fun p hp=>?_,fun u hu=>?_⟩
 ·have:=h.P;rw[yU,Ga]at this;exact En this hn
 ·have:=h.U;rw[rU,Ga]at this;exact En this hn
 ·obtain⟨h1,h2,h3,h4⟩:=h.D p.er (by rw[yU];exact Gm hp)
  have h1':(p.aW.getD []).length≤n:=by
   have:((p.aW.getD []).map bY.er).length≤n:=h1
   rwa [Ga]at this
  refine⟨En h1' hn,En h2 hn,En h3 hn,fun d hd=>?_⟩
  obtain⟨h5,h6⟩:=h4 d.er (Gm hd)
  exact⟨En h5 hn,En h6 hn⟩
 ·obtain⟨h1,h2⟩:=h.N u.er (by rw[rU];exact Gm hu)
  exact⟨En h1 hn,En h2 hn⟩
theorem SB.bN {n r}(h:SB n r){i p}(hp:p.aW.length≤n∧p.bU.aM.length≤n∧p.bU.aH.length≤n∧∀d∈p.aW,d.aM.length≤n∧d.aH.length≤n):SB n (bN r i p):=
 ⟨h.L,by show(r.ae.set i p).length≤n;rw[Gv];exact h.P,h.U,fun q hq=>by
  rcases zM hq with hq|rfl
  ·exact h.D q hq
  ·exact hp,h.N⟩
theorem SB.ax {n r}(h:SB n r){i u}(hu:u.uses.length≤n∧u.results.length≤n):SB n (ax r i u):=
 ⟨h.L,h.P,by show(r.units.set i u).length≤n;rw[Gv];exact h.U,h.D,fun q hq=>by
  rcases zM hq with hq|rfl
  ·exact h.N q hq
  ·exact hu⟩
theorem SB.cg {n r}(h:SB n r){i x}:SB n (cg r i x):=
 ⟨by show(r.ar.set i x).length≤n;rw[Gv];exact h.L,h.P,h.U,h.D,h.N⟩
theorem qzt {α:Type}{p:α→Bool}{x l n}(h:l.length≤n):(kf p x l).length≤n+1:=by
 unfold kf
 split
 ·rw[Gv];omega
 ·rw[Gc,E3];omega
theorem jbi {w l k x n}(h:l.length≤n):(jN w l k x).length≤n+1:=by
 unfold jN
 split
 ·split
  ·rw[Gv];omega
  ·omega
 ·rw[Gc,E3];omega
theorem jg4 {w:Int→Int}{n:Nat}{r r' e}(h:SB n r)(ha:apply w r e=.ok r'):SB (n+1) r':=by
 have h':=h.mono (Nat.le_succ n)
 unfold apply at ha
 split at ha
 ·unfold mP at ha
  split at ha
  ·repeat' split at ha
   all_goals first|(cases ha;done)|skip
   cases ha
   exact⟨by show(r.ar++[_]).length≤_;rw[Gc,E3];have:=h.L;omega,h'.P,h'.U,h'.D,h'.N⟩
  split at ha
  ·repeat' split at ha
   all_goals first|(cases ha;done)|skip
   cases ha
   refine⟨h'.L,by show(r.ae++[_]).length≤_;rw[Gc,E3];have:=h.P;omega,h'.U,fun p hp=>?_,h'.N⟩
   rcases Jn.1 hp with hp|hp
   ·exact h'.D p hp
   ·simp at hp;subst hp;simp
  ·split at ha
   ·cases ha
   repeat' split at ha
   all_goals first|(cases ha;done)|skip
   cases ha
   refine⟨h'.L,h'.P,by show(r.units++[_]).length≤_;rw[Gc,E3];have:=h.U;omega,h'.D,fun p hp=>?_⟩
   rcases Jn.1 hp with hp|hp
   ·exact h'.N p hp
   ·simp at hp;subst hp;simp
 split at ha
 ·unfold kw at ha
  split at ha
  ·cases ha
  split at ha
  ·cases ha
  rename_i p hp
  have hD:=h.D p (Gd hp)
  have oB:=h'.D p (Gd hp)
  repeat' split at ha
  all_goals first|(cases ha;done)|skip
  ·cases ha
   refine h'.bN ⟨oB.1,?_,oB.2.2.1,oB.2.2.2⟩
   show(ku p.bU.aM _ _).length≤_
   unfold ku
   split
   ·exact En (Gx _ _) oB.2.1
   ·exact qzt hD.2.1
  ·cases ha
   exact h'.bN ⟨oB.1,oB.2.1,qzt hD.2.2.1,oB.2.2.2⟩
  ·cases ha
   refine h'.bN ⟨by show(p.aW++[_]).length≤_;rw[Gc,E3];have:=hD.1;omega,oB.2.1,oB.2.2.1,fun d hd=>?_⟩
   rcases Jn.1 hd with hd|hd
   ·exact oB.2.2.2 d hd
   ·simp at hd;subst hd;exact⟨oB.2.1,oB.2.2.1⟩
 split at ha
 ·unfold pU at ha
  split at ha
  ·cases ha
  split at ha
  ·cases ha
  repeat' split at ha
  all_goals first|(cases ha;done)|skip
  all_goals (cases ha;exact h'.cg)
 ·unfold mQ at ha
  split at ha
  ·cases ha
  split at ha
  ·cases ha
  rename_i u hu
  have hN:=h.N u (Gd hu)
  have vT:=h'.N u (Gd hu)
  split at ha
  ·unfold rZ at ha
   split at ha
   ·cases ha
   split at ha
   ·cases ha
   repeat' split at ha
   all_goals first|(cases ha;done)|skip
   cases ha
   exact h'.cg.ax ⟨jbi hN.1,vT.2⟩
  split at ha
  ·unfold sd at ha
   split at ha
   ·cases ha
   split at ha
   ·cases ha
   rename_i v hv
   have hV':=h'.N v (Gd hv)
   repeat' split at ha
   all_goals first|(cases ha;done)|skip
   cases ha
   exact(h'.ax (u:={ u with partner:=v.name }) ⟨vT.1,vT.2⟩).ax (u:={ v with partner:=u.name }) ⟨hV'.1,hV'.2⟩
  split at ha
  ·repeat' split at ha
   all_goals first|(cases ha;done)|skip
   cases ha
   exact h'.ax ⟨vT.1,by show(u.results++[_]).length≤_;rw[Gc,E3];have:=hN.2;omega⟩
  split at ha
  ·split at ha
   ·cases ha
   split at ha
   ·cases ha
   split at ha
   ·cases ha
   ·cases ha
    exact h'.ax ⟨vT.1,vT.2⟩
  split at ha
  ·split at ha
   ·cases ha
   ·cases ha
    exact h'.ax ⟨vT.1,vT.2⟩
  ·split at ha
   ·cases ha
   ·cases ha
    exact h'.ax ⟨vT.1,vT.2⟩
theorem jgs {w n r r' e}(h:SB n r)(ha:after w r e=.ok r'):SB (n+1) r':=by
 unfold after at ha
 split at ha
 ·cases ha
 split at ha
 ·cases ha
 rename_i r1 h1
 cases ha
 have:=jg4 h h1
 exact⟨this.L,this.P,this.U,this.D,this.N⟩
def HB (h:ky):Prop:=∀(j:Nat) (r:jq),h.2[j]?=I r→SB j r
theorem HB.empty:HB ([],[mS]):=by
 intro j r hr
 cases j with
 |zero=>simp at hr;subst hr;exact SB.empty
 |succ j=>simp at hr
theorem HB.accept {w h h' k e}(o:eH w h)(b:HB h)(ha:Go.W.accept w h k e=.ok h'):HB h':=by
 unfold Go.W.accept at ha
 split at ha
 ·cases ha
 split at ha
 ·split at ha
  ·cases ha
  split at ha
  ·cases ha
  ·cases ha
   intro j r hr
   simp only[List.getElem?_dropLast]at hr
   split at hr
   ·exact b j r hr
   ·cases hr
 ·split at ha
  ·cases ha
  ·rename_i r' h1
   cases ha
   intro j r hr
   have hn:=o.now
   have hlen:=o.len
   simp only at hr
   by_cases hj:j<h.2.length
   ·rw[List.getElem?_append_left hj]at hr;exact b j r hr
   ·rw[List.getElem?_append_right (by omega)]at hr
    have hj2:j=h.1.length+1:=by
     cases hd:j-h.2.length with
     |zero=>omega
     |succ d=>rw[hd]at hr;simp at hr
    subst hj2
    rw[hlen,Nat.sub_self]at hr
    simp at hr
    subst hr
    exact jgs (b _ _ hn) h1
end Go.Z
namespace Go.Z
open Go Go.Abs Go.W
def zN (n:Nat)(h:ky):Option HV→Prop
 |none=>h=([],[mS])∧n=0
 |some v=>v.lc≤v.cs.length∧v.ls≤v.ss.length∧h.1=(v.cs.take v.lc).map GEv.er∧h.2=(v.ss.take v.ls).map au.er∧v.ev.length=n∧v.lc≤n
def Ua (n:Nat)(h:ky)(c:Int)(s:Option HV):Except Int ky→Prop
 | .error x=>c=x∧x≠0∧zN n h s
 | .ok h'=>c=0∧zN (n+1) h' s
theorem Ub {α:Type}{xs:List α}{len x}(h1:len≤xs.length)(h2:len≤BB):sk xs len x=I (xs.take len++[x]):=by
 unfold sk
 rw[if_pos ⟨h1,by unfold BB at h2;omega⟩]
theorem Uc {n}(h:n≤BB):qe .i64 ((n:Int)+1)=((n+1:Nat):Int):=ya (by unfold BB at h;omega)
theorem Mz {n}(h:n≤BB)(h0:0<n):qe .i64 ((n:Int)-1)=((n-1:Nat):Int):=by
 obtain⟨m,rfl⟩:∃m,n=m+1:=⟨n-1,by omega⟩
 have:=qz2 (i:=m) (by unfold BB at h;omega)
 rw[this];rfl
theorem qs4 {α:Type}{l:List α}{k}(h:k≤l.length):(l.take k).dropLast=l.take (k-1):=by
 rw[Gz,Gh,List.take_take]
 congr 1;omega
theorem Ud {a b}:f46 (I [a,b])=I (fF [a,b]):=iQ (by simp[SM])
theorem jhp {e}(hc:zk e.er=0):∃c s',Iw e=I (c,s')∧Ua 0 ([],[mS]) c s' (Go.W.accept (qe .i64) ([],[mS]) (0+1) e.er):=by
 unfold Iw Go.W.accept
 rw[show qe .i64 1=1 from rfl,show e.er.number=e.number from rfl,show e.er.kind=e.kind from rfl,show((0:Int)+1)=1 from rfl]
 by_cases h1:e.number=1
 ·rw[decide_eq_true h1,if_neg (fun h=>h h1)]
  simp only[cond_true]
  by_cases h2:e.kind=nH
  ·rw[show decide (e.kind=([117,110,100,111]:List UInt8))=Gr from decide_eq_true h2,if_pos h2]
   simp only[cond_true,iP,qa,Ud]
   exact⟨_,_,rfl,rfl,by decide,rfl,rfl⟩
  ·rw[show decide (e.kind=([117,110,100,111]:List UInt8))=Gl from decide_eq_false h2,if_neg h2]
   have hw:WF eY.er:=WF.empty 0
   obtain⟨r',c,g1,g2⟩:=q8m (r:=eY) (SB.empty.gb (r:=eY) (G6 _)) hw hc h2
   simp only[cond_false,g1,qa]
   rw[show now ([],[mS])=eY.er from rfl]
   cases ha:after (qe .i64) eY.er e.er with
   |error k=>
    rw[ha]at g2
    obtain⟨rfl,g3⟩:=g2
    rw[decide_eq_false g3]
    exact⟨_,_,rfl,rfl,g3,rfl,rfl⟩
   |ok s=>
    rw[ha]at g2
    obtain⟨rfl,rfl⟩:=g2
    exact⟨_,_,rfl,rfl,Gp _,Gp _,rfl,rfl,rfl,Gp _⟩
 ·rw[decide_eq_false h1,if_pos h1]
  exact⟨_,_,rfl,rfl,by decide,rfl,rfl⟩
theorem jqe {v:HV}{n:Nat}{h e}(hr:zN n h (I v))(o:eH (qe .i64) h)(b:HB h)(hn:n<BB)(hc:zk e.er=0):∃c s',MA (I v) e=I (c,s')∧Ua n h c s' (Go.W.accept (qe .i64) h ((n:Int)+1) e.er):=by
 obtain⟨r1,r2,r3,r4,r5,r6⟩:=hr
 have ie:h.1.length=v.lc:=by rw[r3,Ga,Gh];omega
 have oL:h.2.length=v.ls:=by rw[r4,Ga,Gh];omega
 have MB:v.ls=v.lc+1:=by rw[←ie,←oL];exact o.len
 have gW:sk v.ev v.ev.length e=I (v.ev++[e]):=by rw[Ub (Gp _) (by omega),List.take_length]
 show ∃c s',(qa (Ix v e) fun q=>I (q.1,I q.2))=I (c,s')∧_
 unfold Ix Go.W.accept
 rw[show e.er.number=e.number from rfl,show e.er.kind=e.kind from rfl,r5,Uc (by omega)]
 by_cases h1:e.number=((n+1:Nat):Int)
 case neg=>
  rw[decide_eq_false h1,if_pos (show e.number≠(n:Int)+1 from h1)]
  exact⟨_,_,rfl,rfl,by decide,r1,r2,r3,r4,r5,r6⟩
 rw[decide_eq_true h1,if_neg (show ¬e.number≠(n:Int)+1 from fun hh=>hh h1)]
 simp only[cond_true]
 by_cases h2:e.kind=nH
 ·rw[show decide (e.kind=([117,110,100,111]:List UInt8))=Gr from decide_eq_true h2,if_pos h2]
  simp only[cond_true,iP,qa]
  by_cases h3:v.lc=0
  ·have h4:h.1=[]:=G9 (by rw[ie,h3])
   rw[h4]
   simp only[h3,show decide (((0:Nat):Int)=0)=Gr from rfl,show decide ((0:Int)<((0:Nat):Int))=Gl from rfl,cond_false,Ud]
   exact⟨_,_,rfl,rfl,by decide,r1,r2,r3,r4,r5,r6⟩
  ·have gK:0<v.lc:=by omega
   rw[decide_eq_false (show ¬(v.lc:Int)=0 by omega),decide_eq_true (show(0:Int)<(v.lc:Int) by omega),Mz (by omega) gK]
   obtain⟨x,hx⟩:∃x,(v.cs.take v.lc)[v.lc-1]?=I x:=⟨_,If (by rw[Gh];omega)⟩
   have mF:max 0 ((v.lc-1:Nat):Int)=((v.lc-1:Nat):Int):=by omega
   have sn:h.1.getLast?=I x.er:=by
    rw[Hc,ie,r3,Gi,hx];rfl
   rw[mF,sn]
   simp only[cond_true,jc hx,Ud]
   by_cases h5:x.kind=iO
   ·rw[if_pos (show x.er.kind=iO from h5),show decide (x.kind=([115,104,105,112]:List UInt8))=Gr from decide_eq_true h5]
    exact⟨_,_,rfl,rfl,by decide,r1,r2,r3,r4,r5,r6⟩
   ·rw[if_neg (show ¬x.er.kind=iO from h5),show decide (x.kind=([115,104,105,112]:List UInt8))=Gl from decide_eq_false h5]
    rw[r5]at gW
    simp only[Hb,if_false,show decide (fF [0,0]=0)=Gr from rfl,cond_true]
    rw[decide_eq_true (show(0:Int)≤((v.lc-1:Nat):Int)∧((v.lc-1:Nat):Int)≤(v.lc:Int)∧v.lc≤v.ls by omega)]
    simp only[cond_true,gW]
    have Ue:((v.lc-1:Nat):Int).toNat=v.lc-1:=Int.toNat_natCast _
    refine⟨_,_,rfl,rfl,by show((v.lc-1:Nat):Int).toNat≤v.cs.length;rw[Ue];omega,by show v.lc≤v.ss.length;omega,?_,?_,by show(v.ev++[e]).length=_;rw[Gc,r5];rfl,by show((v.lc-1:Nat):Int).toNat≤n+1;rw[Ue];omega⟩
    ·show h.1.dropLast=(v.cs.take ((v.lc-1:Nat):Int).toNat).map GEv.er
     rw[Ue,r3,←Jy,qs4 r1]
    ·show h.2.dropLast=(v.ss.take v.lc).map au.er
     rw[r4,←Jy,qs4 r2,MB];rfl
 ·rw[show decide (e.kind=([117,110,100,111]:List UInt8))=Gl from decide_eq_false h2,if_neg h2]
  have dP:=o.now
  rw[ie,r4,Gi]at dP
  cases hr:(v.ss.take v.ls)[v.lc]? with
  |none=>rw[hr]at dP;cases dP
  |some r=>
   rw[hr]at dP
   have wE:r.er=now h:=by simpa using dP
   have Uf:SB v.lc r.er:=b v.lc r.er (by rw[r4,Gi,hr];rfl)
   have hwf:WF r.er:=by rw[wE];exact o.su
   obtain⟨r',c,g1,g2⟩:=q8m (Uf.gb (by omega)) hwf hc h2
   have hi:qe .i64 ((v.ls:Int)-1)=(v.lc:Int):=by rw[Mz (by omega) (by omega),MB];rfl
   rw[hi]
   simp only[cond_false,jc hr,g1,qa]
   rw[wE]at g2
   cases ha:after (qe .i64) (now h) e.er with
   |error k=>
    rw[ha]at g2
    obtain⟨rfl,g3⟩:=g2
    rw[decide_eq_false g3]
    exact⟨_,_,rfl,rfl,g3,r1,r2,r3,r4,r5,r6⟩
   |ok s=>
    rw[ha]at g2
    obtain⟨rfl,rfl⟩:=g2
    rw[r5]at gW
    rw[Ub r1 (by omega),Ub r2 (by omega)]
    simp only[gW,show decide ((0:Int)=0)=Gr from rfl,cond_true]
    refine⟨_,_,rfl,rfl,?_,?_,?_,?_,by show(v.ev++[e]).length=_;rw[Gc,r5];rfl,by show v.lc+1≤n+1;omega⟩
    ·show v.lc+1≤(v.cs.take v.lc++[e]).length
     rw[Gc,Gh,E3];omega
    ·show v.ls+1≤(v.ss.take v.ls++[r']).length
     rw[Gc,Gh,E3];omega
    ·show h.1++[e.er]=((v.cs.take v.lc++[e]).take (v.lc+1)).map GEv.er
     rw[Jo (by rw[Gc,Gh,E3];omega),Gw,r3];rfl
    ·show h.2++[r'.er]=((v.ss.take v.ls++[r']).take (v.ls+1)).map au.er
     rw[Jo (by rw[Gc,Gh,E3];omega),Gw,r4];rfl
theorem jqg {s n h e}(hr:zN n h s)(o:eH (qe .i64) h)(b:HB h)(hn:n<BB)(hc:zk e.er=0):∃c s',MA s e=I (c,s')∧Ua n h c s' (Go.W.accept (qe .i64) h ((n:Int)+1) e.er):=by
 cases s with
 |some v=>exact jqe hr o b hn hc
 |none=>
  obtain⟨rfl,rfl⟩:=hr
  exact jhp hc
end Go.Z
namespace Go.Z
open Go Go.Abs Go.W
def pX (e:GEv):Prop:=(e.names.getD []).length≤SM∧(e.values.getD []).length≤SM
theorem jfh {α:Type}{o:Option (List α)}(h:(o.getD []).length≤SM):∃q b,(cond o.isNone (I (G7,Gl)) (qa (bH (I []) (o.getD [])) fun v2=>I (v2,Gr)):Option (Option (List α)×Bool))=I (q,b)∧q.getD []=o.getD []:=by
 cases o with
 |none=>exact⟨G7,Gl,rfl,rfl⟩
 |some l=>
  have:bH (I []) l=I (I l):=by
   unfold bH
   simp only[Gs,List.nil_append]
   rw[if_pos (by simpa using h)]
   rfl
  exact⟨I l,Gr,by simp only[Option.isNone_some,cond_false,Gs,this,qa],rfl⟩
theorem juo {e:GEv}(h:pX e):∃e',f50 e=I e'∧e'.er=e.er∧pX e':=by
 obtain⟨q1,b1,h1,k1⟩:=jfh (o:=e.names) h.1
 obtain⟨q2,b2,h2,k2⟩:=jfh (o:=e.values) h.2
 refine⟨⟨e.number,e.kind,q1,q2,e.text⟩,?_,?_,?_⟩
 ·unfold f50
  rw[show MC e.names=I (q1,b1)from h1,show MD e.values=I (q2,b2)from h2]
  cases b1<;>cases b2<;>rfl
 ·show eK.mk _ _ _ _ _=eK.mk _ _ _ _ _
  simp only[k1,k2]
 ·exact⟨by show(q1.getD []).length≤_;rw[k1];exact h.1,by show(q2.getD []).length≤_;rw[k2];exact h.2⟩
def zb9 (n:Nat):Except (Int×Int) ky→(Int×Int×Option HV)⊕(Int×Option HV)→Prop
 | .error x,d=>∃s,d=.inl (x.1,x.2,s)∧x.2≠0
 | .ok h,d=>∃o,d=.inr ((n:Int),o)∧zN n h o∧eH (qe .i64) h∧HB h
theorem jdj {l}(hb:∀e∈l.getD [],pX e)(hl:(l.getD []).length≤BB):∀(m:List GEv) (i:Nat) (h:ky) (s:Option HV),(l.getD []).drop i=m→i≤(l.getD []).length→zN i h s→eH (qe .i64) h→HB h→∃d,bz (BH l) ((i:Int),s)=I d∧zb9 (l.getD []).length (yp (qe .i64) i h (m.map GEv.er)) d
 | [],i,h,s,hm,hi,hr,o,b=>by
  have he:i=(l.getD []).length:=by
   have:=Gq.1 hm;omega
  subst he
  refine⟨.inr (((l.getD []).length:Int),s),y7 ?_,s,rfl,hr,o,b⟩
  unfold BH
  rw[yb];rfl
 |e::m,i,h,s,hm,hi,hr,o,b=>by
  have hx:(l.getD [])[i]?=I e:=by
   have:=congrArg Jq hm
   rwa [Ha]at this
  have bw:i<(l.getD []).length:=(Gg.1 hx).1
  have vP:(l.getD []).drop (i+1)=m:=by rw[pN hx]at hm;exact(J9.inj hm).2
  have EC:=hb e (Gd hx)
  have hw:qe .i64 ((i:Int)+1)=((i+1:Nat):Int):=Uc (by omega)
  have cw:BH l ((i:Int),s)=cond (decide (zk e.er=0)) (qa (f50 e) fun e2=>qa (MA s e2) fun q=>cond (decide (q.1=0)) (I (.inl (((i+1:Nat):Int),q.2))) (I (.inr (.inl (((i+1:Nat):Int),q.1,q.2))))) (I (.inr (.inl (((i+1:Nat):Int),zk e.er,s)))):=by
   unfold BH
   simp only[kc bw,cond_true,jc hx,qa,jvf EC.1 EC.2,hw]
  rw[Ln]
  simp only[yp]
  by_cases hc:zk e.er=0
  case neg=>
   rw[if_pos hc]
   refine⟨.inl (((i+1:Nat):Int),zk e.er,s),y7 ?_,s,rfl,hc⟩
   rw[cw,decide_eq_false hc];rfl
  rw[if_neg (fun h=>h hc)]
  obtain⟨e',g1,g2,g3⟩:=juo EC
  obtain⟨c,s',k1,k2⟩:=jqg (e:=e') hr o b (by omega) (by rw[g2];exact hc)
  rw[g2]at k2
  rw[decide_eq_true hc,cond_true,g1]at cw
  simp only[qa,k1]at cw
  cases ha:Go.W.accept (qe .i64) h ((i:Int)+1) e.er with
  |error x=>
   rw[ha]at k2
   obtain⟨rfl,k3,k4⟩:=k2
   rw[decide_eq_false k3]at cw
   exact⟨.inl (((i+1:Nat):Int),c,s'),y7 cw,s',rfl,k3⟩
  |ok h'=>
   rw[ha]at k2
   obtain⟨rfl,k4⟩:=k2
   rw[decide_eq_true (rfl:(0:Int)=0)]at cw
   obtain⟨d,d1,d2⟩:=jdj hb hl m (i+1) h' s' vP bw k4 (o.accept hc ha) (b.accept o ha)
   exact⟨d,by rw[nD cw];exact d1,d2⟩
def zfo (n:Nat):Except (Int×Int) ky→(Int×Int)⊕Option HV→Prop
 | .error x,d=>d=.inl x∧x.2≠0
 | .ok h,d=>∃o,d=.inr o∧zN n h o∧eH (qe .i64) h∧HB h∧n≤1000
theorem jec {l}(hb:∀e∈l.getD [],pX e):∃d,f45 l=I d∧zfo (l.getD []).length (run (qe .i64) ((l.getD []).map GEv.er)) d:=by
 unfold f45 run
 rw[Ga]
 by_cases h:1000<(l.getD []).length
 ·rw[decide_eq_true (by omega),if_pos h]
  exact⟨_,rfl,rfl,by decide⟩
 ·rw[decide_eq_false (by omega),if_neg h,cond_false]
  obtain⟨d,d1,d2⟩:=jdj hb (by unfold BB;omega) (l.getD []) 0 ([],[mS]) G7 rfl (G6 _) ⟨rfl,rfl⟩ eH.empty HB.empty
  rw[show(0:Int)=((0:Nat):Int)from rfl,d1]
  cases hr:yp (qe .i64) 0 ([],[mS]) ((l.getD []).map GEv.er)with
  |error x=>
   rw[hr]at d2
   obtain⟨s,rfl,k⟩:=d2
   exact⟨_,rfl,rfl,k⟩
  |ok h'=>
   rw[hr]at d2
   obtain⟨o,rfl,k1,k2,k3⟩:=d2
   exact⟨_,rfl,o,rfl,k1,k2,k3,by omega⟩
theorem jof {n h o}(hr:zN n h o)(k:eH (qe .i64) h)(hn:n≤1000):∃r,jx1 o=I r∧r.er=now h:=by
 cases o with
 |none=>
  obtain⟨rfl,rfl⟩:=hr
  exact⟨eY,rfl,rfl⟩
 |some v=>
  obtain⟨r1,r2,r3,r4,r5,r6⟩:=hr
  have ie:h.1.length=v.lc:=by rw[r3,Ga,Gh];omega
  have oL:h.2.length=v.ls:=by rw[r4,Ga,Gh];omega
  have MB:v.ls=v.lc+1:=by rw[←ie,←oL];exact k.len
  have hi:qe .i64 ((v.ls:Int)-1)=(v.lc:Int):=by rw[Mz (by unfold BB;omega) (by omega),MB];rfl
  have dP:=k.now
  rw[ie,r4,Gi]at dP
  cases hq:(v.ss.take v.ls)[v.lc]? with
  |none=>rw[hq]at dP;cases dP
  |some r=>
   rw[hq]at dP
   exact⟨r,by show qq (v.ss.take v.ls) (qe .i64 ((v.ls:Int)-1))=I r;rw[hi];exact jc hq,by simpa using dP⟩
def jmn:Except (Int×Int) ky→jq×Int×Int
 | .error x=>(mS,x.1,x.2)
 | .ok h=>(now h,0,0)
theorem jsf {l}(hb:∀e∈l.getD [],pX e):∃r,f16 l=I r∧(r.1.er,r.2)=jmn (run (qe .i64) ((l.getD []).map GEv.er)):=by
 obtain⟨d,d1,d2⟩:=jec hb
 unfold f16
 rw[d1]
 cases hr:run (qe .i64) ((l.getD []).map GEv.er)with
 |error x=>
  rw[hr]at d2
  obtain⟨rfl,k⟩:=d2
  refine⟨(eY,x.1,x.2),?_,rfl⟩
  simp only[qa]
  rw[decide_eq_false k];rfl
 |ok h=>
  rw[hr]at d2
  obtain⟨o,rfl,k1,k2,k3,k4⟩:=d2
  obtain⟨r,q1,q2⟩:=jof k1 k2 k4
  refine⟨(r,0,0),?_,?_⟩
  ·simp only[qa,q1]
  ·rw[q2];rfl
end Go.Z
namespace Go.Z
open Go Go.Abs Go.W
theorem q3t {α:Type}{o:Option (List α)}{k}(h:k≤(o.getD []).length):∃q,yO o G7 (I (k:Int))=I q∧q.getD []=(o.getD []).take k:=by
 have hc:ME (o.getD []) G7 (I (k:Int))=I ((o.getD []).take k):=by
  unfold ME
  have h1:sw (o.getD []).length (o.getD []).length (I (k:Int))=I k:=by
   unfold sw
   simp only[]
   rw[if_pos ⟨by omega,by omega⟩,Int.toNat_natCast]
  rw[h1];rfl
 unfold yO
 rw[hc]
 cases o with
 |none=>exact⟨G7,rfl,by simp⟩
 |some l=>exact⟨_,rfl,rfl⟩
theorem q73 {α:Type}{o:Option (List α)}{x}(h:(o.getD []).length<SM):∃q,bH (I []) (o.getD [])=I (I (o.getD []))∧bH (I (o.getD [])) [x]=I q∧q.getD []=o.getD []++[x]:=by
 refine⟨I (o.getD []++[x]),?_,?_,rfl⟩
 ·unfold bH
  rw[if_pos (by simp only[Gs,List.length_nil];unfold SM at h;omega)]
  rfl
 ·unfold bH
  rw[if_pos (by simp only[Gs,E3];unfold SM at h;omega)]
  rfl
theorem jds {e:GEv}(hc:zk e.er=0):∀v∈e.values.getD [],0≤v:=by
 intro v hv
 unfold zk at hc
 split at hc
 ·simp at hc
 split at hc
 ·simp at hc
 split at hc
 ·simp at hc
 split at hc
 ·simp at hc
 split at hc
 ·simp at hc
 rename_i h
 simp only[Bool.not_eq_true',Bool.not_eq_false]at h
 have:=List.all_eq_true.1 h v hv
 simp at this
 exact this.1
def Ug (i:Nat)(h:ky)(s:Option (List GEv)×Option (List au)):Prop:=h.1=(s.1.getD []).map GEv.er∧h.2=(s.2.getD []).map au.er∧h.1.length≤i
def Uh (n:Nat):Except (Int×Int) ky→(Int×Int×Int×(Option (List ja))×(Option (List aX))×(Option (List aY)))⊕((Option (List GEv))×Bool×(Option (List au))×Bool×Int)→Prop
 | .error x,d=>∃s,d=.inl (x.1,x.2,s)∧x.2≠0
 | .ok h,d=>∃s w1 w2,d=.inr (s.1,w1,s.2,w2,(n:Int))∧Ug n h s∧eH (qe .i64) h∧HB h
theorem jfr {l:Option (List GEv)}(hb:∀e∈l.getD [],pX e)(hl:(l.getD []).length≤BB):∀(m:List GEv) (i:Nat) (h:ky) (s:Option (List GEv)×Option (List au)) (w1 w2:Bool),(l.getD []).drop i=m→i≤(l.getD []).length→Ug i h s→eH (qe .i64) h→HB h→∃d,bz (pg l) (s.1,s.2,(i:Int),w1,w2)=I d∧Uh (l.getD []).length (yp (qe .i64) i h (m.map GEv.er)) d
 | [],i,h,s,w1,w2,hm,hi,hr,o,b=>by
  have he:i=(l.getD []).length:=by
   have:=Gq.1 hm;omega
  subst he
  refine⟨.inr (s.1,w1,s.2,w2,((l.getD []).length:Int)),y7 ?_,s,w1,w2,rfl,hr,o,b⟩
  unfold pg
  rw[yb];rfl
 |e::m,i,h,s,w1,w2,hm,hi,hr,o,b=>by
  have hx:(l.getD [])[i]?=I e:=by
   have:=congrArg Jq hm
   rwa [Ha]at this
  have bw:i<(l.getD []).length:=(Gg.1 hx).1
  have vP:(l.getD []).drop (i+1)=m:=by rw[pN hx]at hm;exact(J9.inj hm).2
  have EC:=hb e (Gd hx)
  have hw:qe .i64 ((i:Int)+1)=((i+1:Nat):Int):=Uc (by omega)
  obtain⟨r1,r2,r3⟩:=hr
  have ie:h.1.length=(s.1.getD []).length:=by rw[r1,Ga]
  have oL:h.2.length=(s.2.getD []).length:=by rw[r2,Ga]
  have hlen:=o.len
  rw[Ln]
  simp only[yp]
  obtain⟨F,hF⟩:∃F,pg l (s.1,s.2,(i:Int),w1,w2)=F:=⟨_,rfl⟩
  have hG:=hF
  unfold pg at hG
  simp only[kc bw,cond_true,jc hx,qa,jx3 EC.1 EC.2,hw]at hG
  subst hG
  by_cases hc:zk e.er=0
  case neg=>
   rw[decide_eq_false hc,cond_false]at hF
   rw[if_pos hc]
   exact⟨_,y7 hF,_,rfl,hc⟩
  rw[if_neg (fun h=>h hc)]
  rw[decide_eq_true hc,cond_true]at hF
  have Iy:∀(h':ky) (q:Option (List GEv)×Option (List au)) (v1 v2:Bool),pg l (s.1,s.2,(i:Int),w1,w2)=I (.inl (q.1,q.2,((i+1:Nat):Int),v1,v2))→Go.W.accept (qe .i64) h ((i:Int)+1) e.er=.ok h'→Ug (i+1) h' q→∃d,bz (pg l) (s.1,s.2,(i:Int),w1,w2)=I d∧Uh (l.getD []).length (match Go.W.accept (qe .i64) h ((i:Int)+1) e.er with
    | .error x=>.error ((i:Int)+1,x)
    | .ok h'=>yp (qe .i64) (i+1) h' (m.map GEv.er)) d:=by
   intro h' q v1 v2 g1 g2 g3
   obtain⟨d,d1,d2⟩:=jfr hb hl m (i+1) h' q v1 v2 vP bw g3 (o.accept hc g2) (b.accept o g2)
   rw[g2]
   exact⟨d,by rw[nD g1];exact d1,d2⟩
  have wX:∀(x:Int) (q),pg l (s.1,s.2,(i:Int),w1,w2)=I (.inr (.inl (((i+1:Nat):Int),x,q)))→Go.W.accept (qe .i64) h ((i:Int)+1) e.er=.error x→x≠0→∃d,bz (pg l) (s.1,s.2,(i:Int),w1,w2)=I d∧Uh (l.getD []).length (match Go.W.accept (qe .i64) h ((i:Int)+1) e.er with
    | .error x=>.error ((i:Int)+1,x)
    | .ok h'=>yp (qe .i64) (i+1) h' (m.map GEv.er)) d:=by
   intro x q g1 g2 g3
   rw[g2]
   exact⟨_,y7 g1,q,rfl,g3⟩
  have hA:∀y,Go.W.accept (qe .i64) h ((i:Int)+1) e.er=y→Go.W.accept (qe .i64) h ((i:Int)+1) e.er=y:=fun _ h=>h
  by_cases h1:e.number=((i+1:Nat):Int)
  case neg=>
   rw[decide_eq_false h1]at hF
   refine wX 11 _ hF ?_ (by decide)
   unfold Go.W.accept
   rw[if_pos (show e.er.number≠(i:Int)+1 from h1)]
  rw[decide_eq_true h1,cond_true]at hF
  have hn1:¬e.er.number≠(i:Int)+1:=fun hh=>hh h1
  by_cases h2:e.kind=nH
  ·rw[show decide (e.kind=([117,110,100,111]:List UInt8))=Gr from decide_eq_true h2,cond_true]at hF
   have ha:Go.W.accept (qe .i64) h ((i:Int)+1) e.er=(match h.1.getLast? with
     |none=>.error 12
     |some c=>if c.kind=iO then .error 19 else .ok (h.1.dropLast,h.2.dropLast)):=by
    unfold Go.W.accept
    rw[if_neg hn1,if_pos (show e.er.kind=nH from h2)]
    cases h.1.getLast?<;>rfl
   by_cases h3:(s.1.getD []).length=0
   ·rw[decide_eq_true (by omega),cond_true]at hF
    refine wX 12 _ hF ?_ (by decide)
    rw[ha,show h.1=[]from G9 (by omega)];rfl
   ·rw[decide_eq_false (by omega),cond_false,Mz (by omega) (by omega)]at hF
    obtain⟨x,hx⟩:∃x,(s.1.getD [])[(s.1.getD []).length-1]?=I x:=⟨_,If (by omega)⟩
    have sn:h.1.getLast?=I x.er:=by
     rw[Hc,ie,r1,Gi,hx];rfl
    rw[sn]at ha
    simp only[jc hx]at hF
    by_cases h5:x.kind=iO
    ·rw[show decide (x.kind=([115,104,105,112]:List UInt8))=Gr from decide_eq_true h5,cond_true]at hF
     refine wX 19 _ hF ?_ (by decide)
     rw[ha]
     exact if_pos (show x.er.kind=iO from h5)
    ·rw[show decide (x.kind=([115,104,105,112]:List UInt8))=Gl from decide_eq_false h5,cond_false]at hF
     obtain⟨q1,c1,c2⟩:=q3t (o:=s.1) (k:=(s.1.getD []).length-1) (by omega)
     obtain⟨q2,cY,eX⟩:=q3t (o:=s.2) (k:=(s.1.getD []).length) (by omega)
     simp only[c1,cY]at hF
     refine Iy (h.1.dropLast,h.2.dropLast) (q1,q2) _ _ hF ?_ ⟨?_,?_,?_⟩
     ·rw[ha]
      exact if_neg (show ¬x.er.kind=iO from h5)
     ·show h.1.dropLast=_
      rw[c2,Gz,ie,r1,Lp]
     ·show h.2.dropLast=_
      rw[eX,Gz,r2,Lp,←r2,hlen,ie];rfl
     ·show h.1.dropLast.length≤_
      rw[List.length_dropLast];omega
  ·rw[show decide (e.kind=([117,110,100,111]:List UInt8))=Gl from decide_eq_false h2,cond_false]at hF
   have ha:Go.W.accept (qe .i64) h ((i:Int)+1) e.er=(match after (qe .i64) (now h) e.er with
     | .error x=>.error x
     | .ok r=>.ok (h.1++[e.er],h.2++[r])):=by
    unfold Go.W.accept
    rw[if_neg hn1,if_neg (show ¬e.er.kind=nH from h2)]
    cases after (qe .i64) (now h) e.er<;>rfl
   have dP:=o.now
   rw[ie,r2,Gi]at dP
   cases hq:(s.2.getD [])[(s.1.getD []).length]? with
   |none=>rw[hq]at dP;cases dP
   |some r=>
    rw[hq]at dP
    have wE:r.er=now h:=by simpa using dP
    have Uf:SB (s.1.getD []).length r.er:=b _ r.er (by rw[r2,Gi,hq];rfl)
    obtain⟨r',c,g1,g2⟩:=jok (e:=e) (Uf.gb (by omega)) (by rw[wE];exact o.su) hc h2 (jds hc)
    simp only[jc hq,g1]at hF
    rw[wE]at g2
    cases hat:after (qe .i64) (now h) e.er with
    |error k=>
     rw[hat]at g2 ha
     obtain⟨rfl,g3⟩:=g2
     rw[decide_eq_false g3,cond_false]at hF
     exact wX _ _ hF ha g3
    |ok t=>
     rw[hat]at g2 ha
     obtain⟨rfl,rfl⟩:=g2
     obtain⟨q1,c1,c2,cY⟩:=q73 (o:=s.1) (x:=e) (by unfold BB at hl;unfold SM;omega)
     obtain⟨q2,eX,dl,dZ⟩:=q73 (o:=s.2) (x:=r') (by unfold BB at hl;unfold SM;omega)
     rw[decide_eq_true (rfl:(0:Int)=0),cond_true]at hF
     simp only[c1,c2,eX,dl]at hF
     refine Iy _ (q1,q2) _ _ hF ha ⟨?_,?_,?_⟩
     ·show h.1++[e.er]=_
      rw[cY,r1,Gw];rfl
     ·show h.2++[r'.er]=_
      rw[dZ,r2,Gw];rfl
     ·show(h.1++[e.er]).length≤_
      rw[Gc,E3];omega
def zg3:Except (Int×Int) ky→Option (List GEv)×au×Int×Int→Prop
 | .error x,d=>d=(G7,⟨0,G7,G7,G7⟩,x.1,x.2)∧x.2≠0
 | .ok h,d=>∃s r,d=(s,r,0,0)∧h.1=(s.getD []).map GEv.er∧r.er=now h∧eH (qe .i64) h∧HB h∧h.1.length≤1000
theorem jdl {l}(hb:∀e∈l.getD [],pX e):∃d,f93 l=I d∧zg3 (run (qe .i64) ((l.getD []).map GEv.er)) d:=by
 unfold f93 run
 rw[Ga]
 by_cases h:1000<(l.getD []).length
 ·rw[decide_eq_true (by omega),if_pos h]
  exact⟨_,rfl,rfl,by decide⟩
 ·rw[decide_eq_false (by omega),if_neg h,cond_false]
  obtain⟨d,d1,d2⟩:=jfr hb (by unfold BB;omega) (l.getD []) 0 ([],[mS]) (G7,I [⟨0,G7,G7,G7⟩]) Gl Gr rfl (G6 _) ⟨rfl,rfl,G6 _⟩ eH.empty HB.empty
  have d1':bz (pg l) (G7,I [⟨0,G7,G7,G7⟩],0,Gl,Gr)=I d:=d1
  rw[d1']
  cases hr:yp (qe .i64) 0 ([],[mS]) ((l.getD []).map GEv.er)with
  |error x=>
   rw[hr]at d2
   obtain⟨s,rfl,k⟩:=d2
   exact⟨_,rfl,rfl,k⟩
  |ok h'=>
   rw[hr]at d2
   obtain⟨s,w1,w2,rfl,⟨k1,k2,k3⟩,k4,k5⟩:=d2
   have dP:=k4.now
   rw[k2,Gi,k1,Ga]at dP
   cases hq:(s.2.getD [])[(s.1.getD []).length]? with
   |none=>rw[hq]at dP;cases dP
   |some r=>
    rw[hq]at dP
    refine⟨(s.1,r,0,0),?_,s.1,r,rfl,k1,by simpa using dP,k4,k5,by omega⟩
    simp only[qa,jc hq]
theorem jw1 {l}(hb:∀e∈l.getD [],pX e):∃r,f38 l=I r∧(r.1.er,r.2)=jmn (run (qe .i64) ((l.getD []).map GEv.er)):=by
 obtain⟨d,d1,d2⟩:=jdl hb
 unfold f38
 rw[d1]
 refine⟨_,rfl,?_⟩
 cases hr:run (qe .i64) ((l.getD []).map GEv.er)with
 |error x=>
  rw[hr]at d2
  obtain⟨rfl,k⟩:=d2
  rfl
 |ok h=>
  rw[hr]at d2
  obtain⟨s,r,rfl,k1,k2,k3⟩:=d2
  show(r.er,((0:Int),(0:Int)))=_
  rw[k2];rfl
end Go.Z
namespace Go.Z
open Go Go.Abs Go.W
theorem jxm {f:Int→Option (Int⊕(Unit⊕Int))}{n}(hn:n≤SM)(cR:f (n:Int)=I (.inr (.inr (n:Int))))(h:∀i:Nat,i<n→f (i:Int)=I (.inl (qe .i64 ((i:Int)+1)))):∃d,bz f 0=I (.inr d):=
 ⟨_,jk1 n f cR fun i hi=>by rw[h i hi,ya (by unfold SM at hn;omega)]⟩
theorem juu {l n}(hn:n≤1000):∃b,f12 l (n:Int)=I b∧(b=Gr→(l.getD []).length≤n∧∀e∈l.getD [],pX e):=by
 unfold f12
 by_cases h:n<(l.getD []).length
 ·rw[decide_eq_true (by omega)]
  exact⟨Gl,rfl,fun h=>by cases h⟩
 ·rw[decide_eq_false (by omega),cond_false]
  rcases Ui (l.getD []) (BI l) (fun _ e=>pX e) (by unfold BI;rw[yb];rfl) (fun i x hx=>by
   have hi:i<(l.getD []).length:=(Gg.1 hx).1
   unfold BI
   simp only[kc hi,cond_true,jc hx,qa]
   by_cases h1:40<(x.kind.length:Int)
   ·rw[decide_eq_true h1];exact .inr ⟨_,rfl⟩
   rw[decide_eq_false h1,cond_false]
   by_cases h2:6<((x.names.getD []).length:Int)
   ·rw[decide_eq_true h2];exact .inr ⟨_,rfl⟩
   rw[decide_eq_false h2,cond_false]
   by_cases h3:8<((x.values.getD []).length:Int)
   ·rw[decide_eq_true h3];exact .inr ⟨_,rfl⟩
   rw[decide_eq_false h3,cond_false]
   by_cases h4:200<(x.text.length:Int)
   ·rw[decide_eq_true h4];exact .inr ⟨_,rfl⟩
   rw[decide_eq_false h4,cond_false]
   have hb:pX x:=⟨by unfold SM;omega,by unfold SM;omega⟩
   rcases Ui (x.names.getD []) (BJ l (i:Int)) (fun _ _=>True) (by unfold BJ;simp only[jc hx,qa];rw[yb];rfl) (fun j y hy=>by
    have hj:j<(x.names.getD []).length:=(Gg.1 hy).1
    unfold BJ
    simp only[jc hx,qa,kc hj,cond_true,jc hy]
    by_cases h5:40<(y.length:Int)
    ·rw[decide_eq_true h5];exact .inr ⟨_,rfl⟩
    rw[decide_eq_false h5,cond_false,ya (by omega)]
    exact .inl ⟨rfl,trivial⟩)with⟨e,he⟩|⟨he,_⟩
   ·rw[he];exact .inr ⟨_,rfl⟩
   ·rw[he]
    refine .inl ⟨?_,hb⟩
    simp only[]
    rw[ya (by omega)])with⟨e,he⟩|⟨he,hall⟩
  ·rw[he]
   exact⟨Gl,rfl,fun h=>by cases h⟩
  ·rw[he]
   refine⟨Gr,rfl,fun _=>⟨by omega,fun e hm=>?_⟩⟩
   obtain⟨i,hi⟩:=List.getElem?_of_mem hm
   exact hall i e hi
theorem ob {α β:Type}{x:α}{f:α→Option β}:qa (I x) f=f x:=rfl
end Go.Z
namespace Go.Z
open Go Go.Abs Go.W
variable {r:au}{u:aY}
theorem Uj (hl:(u.uses.getD []).length≤SM):∃w,f67 u=I (jm (u.er.uses.map (·.k)),w):=by
 unfold f67 MF
 rw[Hs (f:=Iz u.uses) (l:=u.uses.getD []) (g:=fun x:br=>x.k) (q:=MG) hl (fun x _=>rfl) (fun s=>rfl)]
 exact⟨_,rfl⟩
theorem jdf {a:Option (List (List UInt8))}{n:List UInt8}(hl:(a.getD []).length≤SM):f69 a n=I ((a.getD []).any fun x=>decide (n=x)):=by
 have h:MH a n=I (eh ((a.getD []).findIdx? fun x=>decide (n=x))):=mN (p:=fun x=>decide (n=x)) hl fun i=>rfl
 unfold f69
 rw[h,ob,vK,ct]
theorem Uk {o}:decide (eh o<0)=!o.isSome:=by
 cases o with
 |none=>rfl
 |some k=>exact decide_eq_false (show ¬(k:Int)<0 by omega)
structure jo2 (g g':au)(S:jq)(n:List UInt8)(k:Nat)(pu IA:aY)(m:List (List UInt8))(e:Int):Prop where
 Ul:qq (g.units.getD []) (k:Int)=I pu
 at2:qq (g'.units.getD []) (k:Int)=I IA
 er:pu.er=IA.er
 u1:(pu.uses.getD []).length≤SM
 u2:(IA.uses.getD []).length≤SM
 m1:∃w,f78 g pu=I (jm m,w)
 m2:∃w,Eh g' IA=I (jm m,w)
 ml:m.length≤SM
 r1:f79 g pu=I e
 r2:f266 g' IA=I e
theorem jev {D:bY}{u}(h:(D.aH.getD []).length≤SM):(ox D.er u).length≤SM:=by
 unfold ox
 rw[Ga]
 exact En (Gx _ _) h
end Go.Z
namespace Go.Z
open Go Go.Abs Go.W
structure gk (l:Option (List GEv))(h:ky):Prop where
 hb:∀e∈l.getD [],pX e
 hr:run (qe .i64) ((l.getD []).map GEv.er)=.ok h
theorem gk.ok {l h}(j:gk l h):eH (qe .i64) h:=jyk j.hr
theorem gk.sb {l h}(j:gk l h):SB h.1.length (now h)∧h.1.length≤BB:=by
 obtain⟨d,d1,d2⟩:=jdl j.hb
 rw[j.hr]at d2
 obtain⟨s,q,rfl,k1,k2,k3,k4,k5⟩:=d2
 exact⟨k4 _ _ k3.now,by unfold BB;omega⟩
theorem gk.gb {l h}(j:gk l h){g:au}(he:g.er=now h):GB g:=SB.gb (by rw[he];exact j.sb.1) j.sb.2
theorem gk.wf {l h}(j:gk l h):WF (now h):=j.ok.su
theorem gk.BK {l h}(j:gk l h):eM (now h):=j.ok.BL
theorem gk.cm {l h}(j:gk l h):∃g,f16 l=I (g,0,0)∧g.er=now h∧GB g:=by
 obtain⟨⟨g,i,bad⟩,p1,p2⟩:=jsf j.hb
 rw[j.hr]at p2
 have h1:g.er=now h:=congrArg Prod.fst p2
 have h2:i=0:=congrArg (fun x=>x.2.1) p2
 have h3:bad=0:=congrArg (fun x=>x.2.2) p2
 subst h2 h3
 exact⟨g,p1,h1,j.gb h1⟩
theorem jnz {l h}(j:gk l h){n:List UInt8}{k:Nat}(hk:js (now h) n=I k):∃g pu m e,f74 l n=I (g,(k:Int),0)∧jo2 g g (now h) n k pu pu m e∧(now h).units[k]?=I pu.er∧g.er=now h∧GB g∧e=oz (qe .i64) (now h) pu.er∧∃d,gy (now h) pu.er=I d∧m=ox d pu.er:=by
 obtain⟨g,p9,he,b⟩:=j.cm
 have w:WF g.er:=by rw[he];exact j.wf
 rw[←he]at hk
 obtain⟨pu,h1,_,h3⟩:=oZ hk
 obtain⟨D,v,o⟩:=Bx b w h1
 obtain⟨w1,m1⟩:=jfl o.doc (je o.results) (je o.aH) o.bJ
 obtain⟨w2,m2⟩:=q8f o.rX (je o.results) (je o.aH)
 rw[←he]
 refine⟨g,pu,ox D.er pu.er,oz (qe .i64) g.er pu.er,?_,⟨jc h1,jc h1,rfl,je o.uses,je o.uses,⟨w1,m1⟩,⟨w2,m2⟩,jev (je o.aH),?_,?_⟩,h3,rfl,b,rfl,D.er,o.wT,rfl⟩
 ·unfold f74
  rw[p9,ob,decide_eq_true rfl,cond_true,rV (je b.U),ob,hk,Uk,iP];rfl
 ·exact jff (je b.P) o.new (je b.L) (je o.uses) o.ar o.doc o.wT (je o.aM) (je o.results) (je o.aH) o.bJ
 ·exact q75 (je b.P) o.new (je b.L) (je o.uses) o.ar o.rX o.wT (je o.aM) (je o.results) (je o.aH)
theorem gk.made {l h}(j:gk l h){n:List UInt8}{k:Nat}{u:j6}(hk:js (now h) n=I k)(hu:(now h).units[k]?=I u):
  f21 l n=I (jm (u.uses.map (·.k)),0)∧f25 l n=I (oz (qe .i64) (now h) u)∧(∃d,gy (now h) u=I d∧f24 l n=I (jm (ox d u),0))∧u.uses.length≤SM:=by
 obtain⟨g,pu,m,e,BM,U,h3,he,b,rfl,d,hd,rfl⟩:=jnz j hk
 rw[hu]at h3
 cases h3
 obtain⟨w1,m1⟩:=U.m1
 obtain⟨w3,d1⟩:=Uj U.u1
 refine⟨?_,?_,⟨d,hd,?_⟩,by simpa[aY.er]using U.u1⟩
 ·unfold f21;rw[BM,ob,decide_eq_true rfl,cond_true,U.Ul,ob,d1];rfl
 ·unfold f25;rw[BM,ob,decide_eq_true rfl,cond_true,U.Ul,ob,U.r1];rfl
 ·unfold f24;rw[BM,ob,decide_eq_true rfl,cond_true,U.Ul,ob,m1];rfl
theorem gk.take {l:List GEv}{h}(j:gk (I l) h)(m:Nat)(hm:m≤l.length):∃q,gk (I (l.take m)) q:=by
 have hr:=j.hr
 simp only[Gs]at hr
 rw[←List.take_append_drop m l,Gw]at hr
 obtain⟨q,q1,_⟩:=q94 hr
 exact⟨q,fun e he=>j.hb e (List.mem_of_mem_take he),q1⟩
end Go.Z
namespace Go.Z
open Go Go.Abs Go.W
theorem jg9 {σ δ:Type}{f:σ→Option (σ⊕δ)}(st:Nat→σ){n:Nat}{d:δ}(hs:∀i,i<n→f (st i)=I (.inl (st (i+1))))(he:f (st n)=I (.inr d)):bz f (st 0)=I d:=by
 have key:∀(k i:Nat),i+k=n→bz f (st i)=I d:=by
  intro k
  induction k with
  |zero=>intro i hi;rw[show i=n by omega];exact y7 he
  |succ k ih=>intro i hi;rw[nD (hs i (by omega))];exact ih (i+1) (by omega)
 exact key n 0 (by omega)
theorem je1 {α ε:Type}{l:List α}{p:α→Bool}{f:Int→Option (Int⊕(ε⊕Int))}{e:ε}(cR:f (l.length:Int)=I (.inr (.inr (l.length:Int))))
  (hs:∀(i:Nat) x,l[i]?=I x→f (i:Int)=I (if p x then .inr (.inl e)else .inl ((i+1:Nat):Int))):bz f 0=I (if l.any p then .inl e else .inr (l.length:Int)):=by
 have key:∀(m:List α) (i:Nat),l.drop i=m→i≤l.length→bz f (i:Int)=I (if m.any p then .inl e else .inr (l.length:Int)):=by
  intro m
  induction m with
  |nil=>
   intro i hm hi
   have:i=l.length:=by have:=Gq.1 hm;omega
   subst this
   exact y7 cR
  |cons x m ih=>
   intro i hm hi
   have hx:l[i]?=I x:=by
    have:=congrArg Jq hm
    rwa [Ha]at this
   have vP:l.drop (i+1)=m:=by rw[pN hx]at hm;exact(J9.inj hm).2
   have fL:=(Gg.1 hx).1
   have h:=hs i x hx
   rw[G8]
   cases hp:p x with
   |true=>rw[hp]at h;exact y7 h
   |false=>
    rw[hp]at h
    rw[nD h,Jr]
    exact ih (i+1) vP fL
 exact key l 0 rfl (G6 _)
theorem q8n {i n:Nat}(h:i<n)(hn:n≤SM):qe .i64 ((i:Int)+1)=((i+1:Nat):Int):=ya (by unfold SM at hn;omega)
theorem Um {L:Option (List (List UInt8))}{w:List UInt8}(hl:(L.getD []).length≤SM):f22 L w=I ((L.getD []).any fun n=>decide (n=w)):=by
 unfold f22
 rw[je1 (l:=L.getD []) (p:=fun n=>decide (n=w)) (e:=()) (by unfold ED;rw[yb];rfl) (fun i x hx=>by
  have hi:=(Gg.1 hx).1
  unfold ED
  simp only[kc hi,cond_true,jc hx,ob,q8n hi hl]
  cases decide (x=w)<;>rfl),ob]
 cases (L.getD []).any fun n=>decide (n=w)<;>rfl
theorem jv5 {l n}(hn:n≤1000):∃b,f11 l (n:Int)=I b∧(b=Gr→(l.getD []).length≤n∧∃h,gk l h):=by
 obtain⟨b1,h1,k1⟩:=juu (l:=l) hn
 unfold f11
 rw[h1,ob]
 cases b1 with
 |false=>exact⟨Gl,rfl,fun h=>by cases h⟩
 |true=>
  obtain⟨l1,hb⟩:=k1 rfl
  obtain⟨⟨g,i,bad⟩,p1,p2⟩:=jw1 hb
  rw[p1,cond_true,ob]
  refine⟨_,rfl,fun h=>⟨l1,?_⟩⟩
  have h:bad=0:=by simpa using h
  subst h
  cases hr:run (qe .i64) ((l.getD []).map GEv.er)with
  |ok q=>exact⟨q,hb,hr⟩
  |error x=>
   exfalso
   rw[hr]at p2
   obtain⟨d,d1,d2⟩:=jec hb
   rw[hr]at d2
   exact d2.2 (congrArg (fun x=>x.2.2) p2).symm
theorem gk.short {l h}(j:gk l h):h.1.length≤(l.getD []).length:=by
 have:=jdt j.hr
 rwa [Ga]at this
end Go.Z
namespace Go.Z
open Go Go.Abs Go.W
theorem q6b {α:Type}{key:α→List UInt8}{l:List α}(h:zu key l)(p:α→Bool){x:α}(hx:x∈l):(((l.filter p).map key).any fun n=>decide (n=key x))=p x:=by
 apply Lg.2
 simp only[Lf,Lr,List.mem_filter,decide_eq_true_eq]
 constructor
 ·rintro ⟨n,⟨y,⟨hy,hp⟩,rfl⟩,e⟩
  rw[←BN h hy hx e];exact hp
 ·intro hp
  exact⟨key x,⟨x,⟨hx,hp⟩,rfl⟩,rfl⟩
theorem q8b {α:Type}{key:α→List UInt8}{l:List α}(w:zu key l){k:Nat}{u:α}(hu:l[k]?=I u):l.findIdx? (fun x=>decide (key x=key u))=I k:=by
 cases hk:l.findIdx? (fun x=>decide (key x=key u))with
 |none=>
  have:=(dy.1 hk) u (Gd hu)
  simp at this
 |some j=>
  obtain⟨x,x1,x2,_⟩:=bp hk
  by_cases hj:j=k
  ·rw[hj]
  ·exact absurd (of_decide_eq_true x2) (q21 w x1 hu hj)
theorem Un {S:jq}(w:eM S){k:Nat}{u:j6}(hu:S.units[k]?=I u):js S u.name=I k:=q8b (key:=fun x:j6=>x.name) w.units hu
theorem qui {S:jq}(w:eM S){k:Nat}{x:ja}(hx:S.ar[k]?=I x):zf S x.name=I k:=q8b (key:=fun x:ja=>x.name) w.ar hx
theorem gk.few {l h n}(j:gk l h)(hn:(l.getD []).length≤n):(now h).ar.length≤n∧(now h).units.length≤n∧∀u∈(now h).units,u.uses.length≤n:=by
 have:=j.short
 have s:=j.sb.1
 exact⟨En s.L (by omega),En s.U (by omega),fun u hu=>En (s.N u hu).1 (by omega)⟩
theorem gk.lg {l h}{g:au}(j:gk l h)(hg:g.er=now h){k:Nat}{u:aY}(hu:(g.units.getD [])[k]?=I u):
  f21 l u.name=I (jm (u.er.uses.map (·.k)),0)∧f25 l u.name=I (oz (qe .i64) (now h) u.er)∧(∃d,gy (now h) u.er=I d∧f24 l u.name=I (jm (ox d u.er),0))∧u.er.uses.length≤SM:=by
 have h1:(now h).units[k]?=I u.er:=by rw[←hg,rU,Gi,hu];rfl
 exact j.made (n:=u.name) (Un j.BK h1) h1
theorem Uo {u:j6}{n:List UInt8}(hl:u.uses.length≤SM):f22 (jm (u.uses.map (·.k))) n=I (yn u n):=by
 rw[Um (by rw[jy,Ga];exact hl),jy,Ih]
 rfl
theorem MI {a:Int}{n:Nat}(h0:0≤a)(hn:n≠0):wN a (n:Int)=I ((a.toNat % n:Nat):Int):=by
 obtain⟨k,rfl⟩:=Int.eq_ofNat_of_zero_le h0
 unfold wN
 rw[if_neg (by omega),Int.tmod_eq_emod_of_nonneg (by omega)];rfl
end Go.Z
namespace Go.Z
open Go Go.Abs Go.W
variable {r:au}{u:aY}
theorem MJ {α:Type}{l:List α}{p:α→Bool}{q:α→Option Bool}{f:Int→Option (Int⊕(Int⊕Int))}(hl:l.length≤SM)(hq:∀x∈l,q x=I (p x))
  (hf:∀i:Int,f i=cond (decide (i<(l.length:Int))) (qa (qq l i) fun x=>qa (q x) fun b=>cond b (I (.inr (.inl i))) (I (.inl (qe .i64 (i+1))))) (I (.inr (.inr i)))):
  (qa (qa (bz f 0) fun d=>match d with | .inl k=>I k | .inr _=>I (-1)) fun v=>I (decide (0≤v)))=I (l.any p):=by
 obtain⟨d,h1,h2⟩:=q19 l p f (by rw[hf,yb];rfl) (fun i x hx hi=>by
  rw[hf,kc hi]
  simp only[cond_true,qa,jc hx,hq x (Gd hx)]
  cases p x with
  |true=>rfl
  |false=>simp only[cond_false];rw[ya (by unfold SM at hl;omega)];rfl)
 rw[h1]
 simp only[qa]
 rw[Bn,←vK,←h2]
 cases d<;>rfl
theorem joy {L:Option (List (List UInt8))}(hl:(L.getD []).length≤SM)(b:GB r):IB L r=I ((L.getD []).any fun n=>(zf r.er n).isNone):=by
 have:=MJ (l:=L.getD []) (p:=fun n=>(zf r.er n).isNone) (q:=fun n=>f63 n r) (f:=IC L r) hl (fun n _=>by
  unfold f63
  rw[Bg (je b.L),ob,Uk]
  cases zf r.er n<;>rfl) (fun i=>rfl)
 unfold IB MK
 exact this
theorem jpl {L:Option (List (List UInt8))}(hl:(L.getD []).length≤SM)(b:GB r):IE L r=I ((L.getD []).any fun n=>(js r.er n).isNone):=by
 have:=MJ (l:=L.getD []) (p:=fun n=>(js r.er n).isNone) (q:=fun n=>f75 n r) (f:=IF L r) hl (fun n _=>by
  unfold f75
  rw[rV (je b.U),ob,Uk]
  cases js r.er n<;>rfl) (fun i=>rfl)
 unfold IE ML
 exact this
theorem joh {L M:Option (List (List UInt8))}(hl:(L.getD []).length≤SM)(hm:(M.getD []).length≤SM):IG M L=I ((M.getD []).any fun m=>(L.getD []).any fun x=>decide (m=x)):=by
 have:=MJ (l:=M.getD []) (p:=fun m=>(L.getD []).any fun x=>decide (m=x)) (q:=fun m=>f68 m L) (f:=IH M L) hm (fun n _=>by
  unfold f68
  rw[jdf hl];rfl) (fun i=>rfl)
 unfold IG MN
 exact this
theorem jsm {L}(hl:(L.getD []).length≤SM)(hu:(u.uses.getD []).length≤SM):f66 u L=I (ki u.er (L.getD [])):=by
 unfold f66 ki
 cases hs:u.aj with
 |false=>rw[cond_false,show u.er.aj=Gl from hs,Bool.and_false]
 |true=>
  have oi:(⟨u.name,u.product,u.version,u.uses,u.results,u.partner,Gr,u.ak⟩:aY)=u:=by cases u;simp only at hs;rw[hs]
  obtain⟨w,h⟩:=Uj hu
  rw[cond_true,oi,h,ob,joh hl (by rw[jy,Ga];exact hu),ob,jy,show u.er.aj=Gr from hs,Bool.and_true,Ih]
  congr 1
  apply Lg.2
  simp only[Lf,yn,Function.comp,decide_eq_true_eq]
  constructor
  ·rintro ⟨x,hx,y,hy,e⟩;exact⟨y,hy,x,hx,e⟩
  ·rintro ⟨y,hy,x,hx,e⟩;exact⟨x,hx,y,hy,e⟩
theorem q8i {l s}(h:l.length≤SM):∃l',yS l s=I l'∧l'.length≤l.length+1∧∀t,lX l' t=(lX l t||decide (t=s)):=by
 unfold yS
 by_cases hm:lX l s=Gr
 ·rw[if_pos hm]
  refine⟨l,rfl,by omega,fun t=>?_⟩
  by_cases e:t=s
  ·subst e;rw[hm];rfl
  ·simp[e]
 ·rw[if_neg hm,if_pos h]
  refine⟨l++[s],rfl,by simp,fun t=>?_⟩
  unfold lX
  by_cases h1:t∈l<;>by_cases h2:t=s<;>simp[h1,h2]
theorem jc9 {v1 v12}(hl:(v12.1.getD []).length≤BB):∀(m:List aY) (i:Nat) (D:List (List UInt8)),(v12.1.getD []).drop i=m→i≤(v12.1.getD []).length→D.length≤2*i →
  ∃d,bz (zO v1 v12) ((i:Int),D)=I d∧∀t,lX d.2 t=(lX D t||m.any fun v=>decide (t=v.name)||decide (t=v.partner))
 | [],i,D,hm,hi,hD=>by
  have he:i=(v12.1.getD []).length:=by
   have:=Gq.1 hm;omega
  subst he
  refine⟨(((v12.1.getD []).length:Int),D),y7 ?_,fun t=>by simp⟩
  unfold zO
  rw[yb];rfl
 |u::m,i,D,hm,hi,hD=>by
  have hx:(v12.1.getD [])[i]?=I u:=by
   have:=congrArg Jq hm
   rwa [Ha]at this
  have bw:i<(v12.1.getD []).length:=(Gg.1 hx).1
  have vP:(v12.1.getD []).drop (i+1)=m:=by rw[pN hx]at hm;exact(J9.inj hm).2
  have hb:2*(i+1)≤SM:=by unfold BB at hl;unfold SM;omega
  obtain⟨D1,a1,a2,a3⟩:=q8i (l:=D) (s:=u.name) (by omega)
  obtain⟨D2,b1,b2,dQ⟩:=q8i (l:=D1) (s:=u.partner) (by omega)
  have cw:zO v1 v12 ((i:Int),D)=I (.inl (((i+1:Nat):Int),D2)):=by
   unfold zO
   simp only[kc bw,cond_true,qa,jc hx,a1,b1]
   rw[ya (by unfold SM at hb;omega)]
  rw[nD cw]
  obtain⟨d,d1,d2⟩:=jc9 (v1:=v1) hl m (i+1) D2 vP bw (by omega)
  refine⟨d,d1,fun t=>?_⟩
  rw[d2,dQ,a3,G8]
  simp only[Bool.or_assoc]
def pY (S:jq)(L:List (List UInt8)):List (List UInt8):=(S.units.filter fun u=>kq S L u).map (·.name)
theorem ja8 {L}:pY r.er L=((r.units.getD []).filter fun u=>kq r.er L u.er).map (·.name):=by
 unfold pY
 rw[rU,Li,List.map_map]
 rfl
theorem ju5 {l i bad L}(p9:f16 l=I (r,i,bad))(b:GB r)(w2:eM r.er)(hl:(L.getD []).length≤SM):
  ∃x,f20 l L=I (x,fF [bad,if 256<(L.getD []).length then 5 else 0,if(L.getD []).any fun n=>(zf r.er n).isNone then 10 else 0])∧x.getD []=if fF [bad,if 256<(L.getD []).length then 5 else 0,if(L.getD []).any fun n=>(zf r.er n).isNone then 10 else 0]=0 then pY r.er (L.getD [])else []:=by
 unfold f20
 rw[p9,ob,iP,ob,joy hl b,ob,iP,ob,iQ (by simp[SM]),ob]
 have hd:(if decide (256<((L.getD []).length:Int))=Gr then(5:Int)else 0)=if 256<(L.getD []).length then 5 else 0:=by
  by_cases h:256<(L.getD []).length
  ·rw[if_pos h,decide_eq_true (by omega)];rfl
  ·rw[if_neg h,decide_eq_false (by omega)];rfl
 rw[hd]
 generalize fF [bad,if 256<(L.getD []).length then 5 else 0,if((L.getD []).any fun n=>(zf r.er n).isNone)=Gr then 10 else 0]=e
 by_cases he:e=0
 ·rw[decide_eq_true he,cond_true,if_pos he]
  have h1:II r.units L=I (jm ((r.units.getD []).filter fun u=>ki u.er (L.getD [])),gw ((r.units.getD []).filter fun u=>ki u.er (L.getD []))):=by
   unfold II
   rw[Hr (f:=IJ r.units L) (l:=r.units.getD []) (p:=fun u=>ki u.er (L.getD [])) (q:=fun u=>f66 u L) (je b.U) (fun x hx=>jsm hl (je (b.N x hx).1)) (fun s=>rfl)]
   rfl
  have DE:(((jm ((r.units.getD []).filter fun u=>ki u.er (L.getD []))).getD [])).length≤BB:=by
   rw[jy];exact En (Gx _ _) b.U
  obtain⟨d,d1,d2⟩:=jc9 (v1:=(r,i,bad)) (v12:=(jm ((r.units.getD []).filter fun u=>ki u.er (L.getD [])),gw ((r.units.getD []).filter fun u=>ki u.er (L.getD [])))) DE _ 0 [] rfl (G6 _) (Gp _)
  rw[h1,ob]
  rw[show(0:Int)=((0:Nat):Int)from rfl,d1,ob]
  have hc:∀t,lX d.2 t=MO r.er (L.getD []) t:=by
   intro t
   rw[d2]
   show(lX [] t||(List.drop 0 _).any _)=_
   rw[List.drop_zero,jy]
   unfold MO
   rw[rU,Li,Ih]
   show(Gl||_)=_
   rw[Jr]
   congr 1
   funext v
   simp only[Function.comp]
   rw[show v.er.name=v.name from rfl,show v.er.partner=v.partner from rfl]
   simp only[eq_comm (a:=t)]
  have h2:IK r.units d.2=I (jm ((r.units.getD []).filter fun u=>kq r.er (L.getD []) u.er),gw ((r.units.getD []).filter fun u=>kq r.er (L.getD []) u.er)):=by
   unfold IK
   rw[Hr (f:=IL r.units d.2) (l:=r.units.getD []) (p:=fun u=>kq r.er (L.getD []) u.er) (q:=fun u=>IP u d.2) (je b.U) (fun x hx=>by
    unfold IP
    rw[←jck w2 (u:=x.er) (by rw[rU];exact Gm hx),hc]
    show _=I (x.aj&&_)
    cases x.aj<;>rfl) (fun s=>rfl)]
   rfl
  rw[h2,ob]
  have h3:f71 (jm ((r.units.getD []).filter fun u=>kq r.er (L.getD []) u.er))=I (jm (pY r.er (L.getD [])),gw (pY r.er (L.getD []))):=by
   unfold f71
   rw[Hs (f:=IQ (jm ((r.units.getD []).filter fun u=>kq r.er (L.getD []) u.er))) (l:=((jm ((r.units.getD []).filter fun u=>kq r.er (L.getD []) u.er)).getD [])) (g:=fun u:aY=>u.name) (q:=f73) (by rw[jy];exact qu7 (je b.U)) (fun x _=>rfl) (fun s=>rfl),jy,ja8]
   rfl
  rw[h3,ob,he]
  exact⟨_,rfl,jy _⟩
 ·rw[decide_eq_false he,cond_false,if_neg he]
  exact⟨_,rfl,rfl⟩
def MP (S:jq)(L:List (List UInt8)):List (List UInt8):=(S.ar.filter fun x=>L.all fun n=>(yq S n).any fun u=>yn u x.name).map (·.name)
theorem jb0 {n}(h:(js r.er n).isNone=Gl)(b:GB r):∃q,qq (r.units.getD []) (eh (js r.er n))=I q∧yq r.er n=I q.er∧(q.uses.getD []).length≤SM:=by
 cases hk:js r.er n with
 |none=>rw[hk]at h;cases h
 |some k=>
  obtain⟨q,q1,_,q3⟩:=oZ hk
  exact⟨q,jc q1,by unfold yq;rw[hk];exact q3,je (b.N q (Gd q1)).1⟩
theorem jp2 {L:Option (List (List UInt8))}{x:ja}(hl:(L.getD []).length≤SM)(b:GB r)(hk:((L.getD []).any fun n=>(js r.er n).isNone)=Gl):IU L r x=I (!((L.getD []).all fun n=>(yq r.er n).any fun u=>yn u x.name)):=by
 have:=MJ (l:=L.getD []) (p:=fun n=>!((yq r.er n).any fun u=>yn u x.name)) (q:=fun n=>f77 n r x) (f:=IV L r x) hl (fun n hn=>by
  have h0:(js r.er n).isNone=Gl:=by
   have:=Hd.1 hk n hn
   exact Bool.not_eq_true _▸this
  obtain⟨q,q1,q2,q3⟩:=jb0 h0 b
  obtain⟨w,h⟩:=Uj q3
  unfold f77
  rw[rV (je b.U),ob,q1,ob,h,ob,jdf (by rw[jy,Ga];exact q3),ob,jy,q2,Jp,Ih]
  unfold yn
  congr 3
  funext y
  by_cases e:y.k=x.name<;>simp[e,Ne.symm,eq_comm]) (fun i=>rfl)
 unfold IU MQ
 rw[show(!((L.getD []).all fun n=>(yq r.er n).any fun u=>yn u x.name))=(L.getD []).any fun n=>!((yq r.er n).any fun u=>yn u x.name) by
  induction L.getD []with
  |nil=>rfl
  |cons a l ih=>rw[List.all_cons,G8,Bool.not_and,ih]]
 exact this
theorem jsa {l i bad L}(p9:f16 l=I (r,i,bad))(b:GB r)(hl:(L.getD []).length≤SM):
  ∃x,f23 l L=I (x,fF [bad,if 256<(L.getD []).length then 5 else 0,if(L.getD []).any fun n=>(js r.er n).isNone then 10 else 0,if(L.getD []).length=0 then 12 else 0])∧x.getD []=if fF [bad,if 256<(L.getD []).length then 5 else 0,if(L.getD []).any fun n=>(js r.er n).isNone then 10 else 0,if(L.getD []).length=0 then 12 else 0]=0 then MP r.er (L.getD [])else []:=by
 unfold f23
 rw[p9,ob,iP,ob,jpl hl b,ob,iP,ob,iP,ob,iQ (by simp[SM]),ob]
 have hd:(if decide (256<((L.getD []).length:Int))=Gr then(5:Int)else 0)=if 256<(L.getD []).length then 5 else 0:=by
  by_cases h:256<(L.getD []).length
  ·rw[if_pos h,decide_eq_true (by omega)];rfl
  ·rw[if_neg h,decide_eq_false (by omega)];rfl
 have hz:(if decide (((L.getD []).length:Int)=0)=Gr then(12:Int)else 0)=if(L.getD []).length=0 then 12 else 0:=by
  by_cases h:(L.getD []).length=0
  ·rw[if_pos h,decide_eq_true (by omega)];rfl
  ·rw[if_neg h,decide_eq_false (by omega)];rfl
 rw[hd,hz]
 generalize he':fF [bad,if 256<(L.getD []).length then 5 else 0,if((L.getD []).any fun n=>(js r.er n).isNone)=Gr then 10 else 0,if(L.getD []).length=0 then 12 else 0]=e
 by_cases he:e=0
 ·rw[decide_eq_true he,cond_true,if_pos he]
  have hk:((L.getD []).any fun n=>(js r.er n).isNone)=Gl:=by
   cases hh:(L.getD []).any fun n=>(js r.er n).isNone with
   |false=>rfl
   |true=>
    rw[hh,he]at he'
    by_cases h1:bad=0<;>by_cases h2:256<(L.getD []).length<;>simp[fF,h1,h2]at he'
  have hL:=je b.L
  have:=Mg (l:=r.ar.getD []) (p:=fun x=>(L.getD []).all fun n=>(yq r.er n).any fun u=>yn u x.name) (g:=fun x:ja=>x.name) (f:=BO L (r,i,bad)) hL (fun o w=>by unfold BO;simp only[yb,cond_false]) (fun i x o w hx=>by
   have hi:=(Gg.1 hx).1
   unfold BO
   simp only[kc hi,cond_true,qa,jc hx,jp2 hl b hk]
   rw[ya (by unfold SM at hL;omega)]
   cases (L.getD []).all fun n=>(yq r.er n).any fun u=>yn u x.name<;>rfl)
  rw[this,ob,he]
  exact⟨_,rfl,jy _⟩
 ·rw[decide_eq_false he,cond_false,if_neg he]
  exact⟨_,rfl,rfl⟩
end Go.Z
namespace Go.Z
open Go Go.Abs Go.W
theorem gk.lh {l h}(j:gk l h){L}(hl:(L.getD []).length≤256)(hk:∀n∈L.getD [],(zf (now h) n).isSome=Gr):∃x,f20 l L=I (x,0)∧x.getD []=pY (now h) (L.getD []):=by
 obtain⟨g,p9,he,b⟩:=j.cm
 obtain⟨x,h1,h2⟩:=ju5 (L:=L) p9 b (by rw[he];exact j.BK) (by unfold SM;omega)
 have ha:((L.getD []).any fun n=>(zf g.er n).isNone)=Gl:=by
  rw[Hd]
  intro n hn
  rw[he]
  have:=hk n hn
  cases hq:zf (now h) n with
  |none=>rw[hq]at this;cases this
  |some k=>simp
 simp only[ha,if_neg (show ¬256<(L.getD []).length by omega),Hb,if_false]at h1 h2
 rw[show fF [0,0,0]=0 from rfl]at h1 h2
 rw[if_pos rfl,he]at h2
 exact⟨x,h1,h2⟩
theorem gk.BP {l h}(j:gk l h){L}(hl:(L.getD []).length≤256)(h0:(L.getD []).length≠0)(hk:∀n∈L.getD [],(js (now h) n).isSome=Gr):∃x,f23 l L=I (x,0)∧x.getD []=MP (now h) (L.getD []):=by
 obtain⟨g,p9,he,b⟩:=j.cm
 obtain⟨x,h1,h2⟩:=jsa (L:=L) p9 b (by unfold SM;omega)
 have ha:((L.getD []).any fun n=>(js g.er n).isNone)=Gl:=by
  rw[Hd]
  intro n hn
  rw[he]
  have:=hk n hn
  cases hq:js (now h) n with
  |none=>rw[hq]at this;cases this
  |some k=>simp
 simp only[ha,if_neg (show ¬256<(L.getD []).length by omega),if_neg h0,Hb,if_false]at h1 h2
 rw[show fF [0,0,0,0]=0 from rfl]at h1 h2
 rw[if_pos rfl,he]at h2
 exact⟨x,h1,h2⟩
end Go.Z
namespace Go.Z
open Go Go.Abs Go.W
theorem q27 {S:jq}(w:eM S){L:List (List UInt8)}{u:j6}(hu:u∈S.units):((pY S L).any fun n=>decide (n=u.name))=kq S L u:=
 q6b (key:=fun u:j6=>u.name) w.units (fun u=>kq S L u) hu
theorem jb6 {S:jq}(w:eM S){L:List (List UInt8)}{x:ja}(hx:x∈S.ar):((MP S L).any fun n=>decide (n=x.name))=L.all fun n=>(yq S n).any fun u=>yn u x.name:=
 q6b (key:=fun x:ja=>x.name) w.ar (fun x=>L.all fun n=>(yq S n).any fun u=>yn u x.name) hx
def wY (S:jq)(a n:List UInt8):Bool:=(yq S n).any fun v=>v.aj&&yn v a
theorem qv1 {u:j6}{a:List UInt8}:ki u [a]=(u.aj&&yn u a):=by
 unfold ki
 simp only[G8,Jt,Js,Bool.and_comm]
theorem quj {u:j6}{a b:List UInt8}:ki u [a,b]=(ki u [a]||ki u [b]):=by
 unfold ki
 simp only[G8,Jt,Js]
 cases yn u a<;>cases yn u b<;>cases u.aj<;>rfl
theorem jqv {S:jq}(w:eM S):yq S []=G7:=by
 unfold yq js
 cases hk:S.units.findIdx? (fun x=>decide (x.name=[]))with
 |none=>rfl
 |some k=>
  obtain⟨x,h1,h2,_⟩:=bp hk
  exact absurd (by simpa using h2) (w.named x (Gd h1))
theorem q7b {S:jq}(w:eM S){u:j6}(hu:u∈S.units){a:List UInt8}:kq S [a] u=(u.aj&&(wY S a u.name||wY S a u.partner)):=by
 unfold kq wY
 rw[EE w hu,Jp,qv1]
 by_cases hp:u.partner=[]
 ·rw[hp,jqv w]
  simp only[List.isEmpty_nil,Bool.not_true,Lk,Js,Option.any_none]
  cases u.aj<;>simp
 ·have he:u.partner.isEmpty=Gl:=by cases h:u.partner with
   |nil=>exact absurd h hp
   |cons=>rfl
  rw[he]
  have:((yq S u.partner).any fun v=>ki v [a])=((yq S u.partner).any fun v=>v.aj&&yn v a):=by
   congr 1
   funext v
   exact qv1
  rw[this]
  cases u.aj<;>simp
theorem q7j {S:jq}{u:j6}{a b:List UInt8}:kq S [a,b] u=(kq S [a] u||kq S [b] u):=by
 unfold kq
 rw[quj]
 have:((yq S u.partner).any fun v=>ki v [a,b])=(((yq S u.partner).any fun v=>ki v [a])||((yq S u.partner).any fun v=>ki v [b])):=by
  cases yq S u.partner with
  |none=>rfl
  |some v=>simp only[Jp,quj]
 rw[this]
 cases ki u [a]<;>cases ki u [b]<;>cases u.partner.isEmpty<;>cases u.aj<;>cases (yq S u.partner).any fun v=>ki v [a]<;>cases (yq S u.partner).any fun v=>ki v [b]<;>rfl
theorem q2c {S:jq}:pY S []=[]:=by
 unfold pY
 have:∀u,kq S [] u=Gl:=by
  intro u
  unfold kq ki
  simp only[Jt,Lk,Jr]
  cases yq S u.partner<;>simp
 rw[List.filter_eq_nil_iff.2 (fun u _=>by rw[this u];simp)]
 rfl
def ke (a:List UInt8)(M:List (List UInt8×Bool))(l:List aY):List (List UInt8×Bool):=l.foldl (fun M u=>hE M u.name (u.aj&&yn u.er a)) M
theorem qo6 {a k:List UInt8}:∀ {l:List aY} {M:List (List UInt8×Bool)},(∃v∈l,v.name=k∧nJ Gl (ke a M l) k=(v.aj&&yn v.er a))∨((∀v∈l,v.name≠k)∧nJ Gl (ke a M l) k=nJ Gl M k)
 | [],M=>.inr ⟨by simp,rfl⟩
 |u::l,M=>by
  show(∃v∈u::l,v.name=k∧nJ Gl (ke a (hE M u.name (u.aj&&yn u.er a)) l) k=(v.aj&&yn v.er a))∨_
  rcases qo6 (a:=a) (k:=k) (l:=l) (M:=hE M u.name (u.aj&&yn u.er a))with⟨v,h1,h2,h3⟩|⟨h1,h2⟩
  ·exact .inl ⟨v,List.mem_cons_of_mem _ h1,h2,h3⟩
  ·by_cases hu:u.name=k
   ·refine .inl ⟨u,List.mem_cons_self ..,hu,?_⟩
    rw[h2,q5s,if_pos hu.symm]
   ·refine .inr ⟨fun v hv=>?_,?_⟩
    ·rcases List.mem_cons.1 hv with rfl|hv
     ·exact hu
     ·exact h1 v hv
    ·show nJ Gl (ke a (hE M u.name (u.aj&&yn u.er a)) l) k=_
     rw[h2,q5s,if_neg (fun h=>hu h.symm)]
theorem jgx {l:List aY}{S:jq}(w:eM S)(hS:S.units=l.map aY.er){a k:List UInt8}:nJ Gl (ke a [] l) k=wY S a k:=by
 unfold wY
 rcases qo6 (a:=a) (k:=k) (l:=l) (M:=[])with⟨v,h1,h2,h3⟩|⟨h1,h2⟩
 ·rw[h3,←h2]
  have:=EE w (v:=v.er) (by rw[hS];exact Gm h1)
  rw[show v.name=v.er.name from rfl,this];rfl
 ·rw[h2]
  have:yq S k=G7:=by
   unfold yq js
   cases hk:S.units.findIdx? (fun x=>decide (x.name=k))with
   |none=>rfl
   |some i=>
    obtain⟨x,q1,q2,_⟩:=bp hk
    have hx:=Gd q1
    rw[hS]at hx
    obtain⟨y,y1,rfl⟩:=Lr.1 hx
    exact absurd (show y.er.name=k by simpa using q2) (h1 y y1)
  rw[this];rfl
end Go.Z
