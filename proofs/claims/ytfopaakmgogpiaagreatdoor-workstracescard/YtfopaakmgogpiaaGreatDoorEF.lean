/- Chapter 10, plain. -/
import Derived.Test.YtfopaakmgogpiaaGreatDoorEC
import Derived.Test.YtfopaakmgogpiaaGreatDoorVB
set_option linter.unusedVariables false
set_option linter.unusedSimpArgs false
set_option maxRecDepth 100000
set_option maxHeartbeats 4000000
open Nat renaming le_trans→I,le_refl→Ga
open List renaming length_append→En,length_singleton→Eo,length_take→Ev,mem_of_getElem?→E5,length_map→E6,length_set→Gb,getElem?_map→Gc,mem_map_of_mem→Gh,mem_append→Gi,take_of_length_le→Gk,map_dropLast→Gl,not_mem_nil→Gm,map_append→Gp
open Option renaming some→E7,getD_some→Gn
namespace Go.Z
open Go Go.Abs Go.W
structure SB (n:Nat)(r:qu):Prop where
 L:r.aq.length≤n
 P:r.ae.length≤n
 U:r.units.length≤n
 D:∀p∈r.ae,p.aO.length≤n∧p.bJ.aF.length≤n∧p.bJ.aB.length≤n∧∀d∈p.aO,d.aF.length≤n∧d.aB.length≤n
 N:∀u∈r.units,u.uses.length≤n∧u.results.length≤n
theorem SB.mono {n m:Nat}{r:qu}(h:SB n r)(hm:n≤m):SB m r:=
 ⟨I h.L hm,I h.P hm,I h.U hm,fun p hp=>⟨I (h.D p hp).1 hm,I (h.D p hp).2.1 hm,I (h.D p hp).2.2.1 hm,fun d hd=>⟨I ((h.D p hp).2.2.2 d hd).1 hm,I ((h.D p hp).2.2.2 d hd).2 hm⟩⟩,fun u hu=>⟨I (h.N u hu).1 hm,I (h.N u hu).2 hm⟩⟩
theorem SB.empty:SB 0 l8:=⟨Ga _,Ga _,Ga _,fun p (hp:p∈([]:List jh))=>absurd hp Gm,fun u (hu:u∈([]:List qz))=>absurd hu Gm⟩
theorem SB.gb {n:Nat}{r:qc}(h:SB n r.er)(hn:n≤BB):GB r:=by
 refine⟨I h.L hn,?_,?_,fun p hp=>?_,fun u hu=>?_⟩
 ·have:=h.P;rw[xO,E6]at this;exact I this hn
 ·have:=h.U;rw[xP,E6]at this;exact I this hn
 ·obtain⟨h1,h2,h3,h4⟩:=h.D p.er (by rw[xO];exact Gh hp)
  have NK:(p.aO.getD []).length≤n:=by
   have:((p.aO.getD []).map qt.er).length≤n:=h1
   rwa [E6]at this
  refine⟨I NK hn,I h2 hn,I h3 hn,fun d hd=>?_⟩
  obtain⟨h5,h6⟩:=h4 d.er (Gh hd)
  exact⟨I h5 hn,I h6 hn⟩
 ·obtain⟨h1,h2⟩:=h.N u.er (by rw[xP];exact Gh hu)
  exact⟨I h1 hn,I h2 hn⟩
theorem SB.bA {n:Nat}{r:qu}(h:SB n r){i:Nat}{p:jh}(hp:p.aO.length≤n∧p.bJ.aF.length≤n∧p.bJ.aB.length≤n∧∀d∈p.aO,d.aF.length≤n∧d.aB.length≤n):SB n (bA r i p):=
 ⟨h.L,by show(r.ae.set i p).length≤n;rw[Gb];exact h.P,h.U,fun q hq=>by
  rcases yA hq with hq|rfl
  ·exact h.D q hq
  ·exact hp,h.N⟩
theorem SB.aw {n:Nat}{r:qu}(h:SB n r){i:Nat}{u:qz}(hu:u.uses.length≤n∧u.results.length≤n):SB n (aw r i u):=
 ⟨h.L,h.P,by show(r.units.set i u).length≤n;rw[Gb];exact h.U,h.D,fun q hq=>by
  rcases yA hq with hq|rfl
  ·exact h.N q hq
  ·exact hu⟩
theorem SB.b6 {n:Nat}{r:qu}(h:SB n r){i:Nat}{x:qj}:SB n (b6 r i x):=
 ⟨by show(r.aq.set i x).length≤n;rw[Gb];exact h.L,h.P,h.U,h.D,h.N⟩
theorem qzm {α:Type}{p:α→Bool}{x:α}{l:List α}{n:Nat}(h:l.length≤n):(eR p x l).length≤n+1:=by
 unfold eR
 split
 ·rw[Gb];omega
 ·rw[En,Eo];omega
theorem q7e {w:Int→Int}{l:List qk}{k:List UInt8}{x:Int}{n:Nat}(h:l.length≤n):(l6 w l k x).length≤n+1:=by
 unfold l6
 split
 ·split
  ·rw[Gb];omega
  ·omega
 ·rw[En,Eo];omega
theorem jiu {w:Int→Int}{n:Nat}{r r':qu}{e:je}(h:SB n r)(ha:apply w r e=.ok r'):SB (n+1) r':=by
 have h':=h.mono (Nat.le_succ n)
 unfold apply at ha
 split at ha
 ·unfold nJ at ha
  split at ha
  ·repeat' split at ha
   all_goals first|(cases ha;done)|skip
   cases ha
   exact⟨by show(r.aq++[_]).length≤_;rw[En,Eo];have:=h.L;omega,h'.P,h'.U,h'.D,h'.N⟩
  split at ha
  ·repeat' split at ha
   all_goals first|(cases ha;done)|skip
   cases ha
   refine⟨h'.L,by show(r.ae++[_]).length≤_;rw[En,Eo];have:=h.P;omega,h'.U,fun p hp=>?_,h'.N⟩
   rcases Gi.1 hp with hp|hp
   ·exact h'.D p hp
   ·simp at hp;subst hp;simp
  ·split at ha
   ·cases ha
   repeat' split at ha
   all_goals first|(cases ha;done)|skip
   cases ha
   refine⟨h'.L,h'.P,by show(r.units++[_]).length≤_;rw[En,Eo];have:=h.U;omega,h'.D,fun p hp=>?_⟩
   rcases Gi.1 hp with hp|hp
   ·exact h'.N p hp
   ·simp at hp;subst hp;simp
 split at ha
 ·unfold nK at ha
  split at ha
  ·cases ha
  split at ha
  ·cases ha
  rename_i p hp
  have hD:=h.D p (E5 hp)
  have nM:=h'.D p (E5 hp)
  repeat' split at ha
  all_goals first|(cases ha;done)|skip
  ·cases ha
   refine h'.bA ⟨nM.1,?_,nM.2.2.1,nM.2.2.2⟩
   show(iZ p.bJ.aF _ _).length≤_
   unfold iZ
   split
   ·exact I (List.length_filter_le _ _) nM.2.1
   ·exact qzm hD.2.1
  ·cases ha
   exact h'.bA ⟨nM.1,nM.2.1,qzm hD.2.2.1,nM.2.2.2⟩
  ·cases ha
   refine h'.bA ⟨by show(p.aO++[_]).length≤_;rw[En,Eo];have:=hD.1;omega,nM.2.1,nM.2.2.1,fun d hd=>?_⟩
   rcases Gi.1 hd with hd|hd
   ·exact nM.2.2.2 d hd
   ·simp at hd;subst hd;exact⟨nM.2.1,nM.2.2.1⟩
 split at ha
 ·unfold uT at ha
  split at ha
  ·cases ha
  split at ha
  ·cases ha
  repeat' split at ha
  all_goals first|(cases ha;done)|skip
  all_goals (cases ha;exact h'.b6)
 ·unfold nL at ha
  split at ha
  ·cases ha
  split at ha
  ·cases ha
  rename_i u hu
  have hN:=h.N u (E5 hu)
  have vb:=h'.N u (E5 hu)
  split at ha
  ·unfold vZ at ha
   split at ha
   ·cases ha
   split at ha
   ·cases ha
   repeat' split at ha
   all_goals first|(cases ha;done)|skip
   cases ha
   exact h'.b6.aw ⟨q7e hN.1,vb.2⟩
  split at ha
  ·unfold wc at ha
   split at ha
   ·cases ha
   split at ha
   ·cases ha
   rename_i v hv
   have hV':=h'.N v (E5 hv)
   repeat' split at ha
   all_goals first|(cases ha;done)|skip
   cases ha
   exact(h'.aw (u:={ u with partner:=v.name }) ⟨vb.1,vb.2⟩).aw (u:={ v with partner:=u.name }) ⟨hV'.1,hV'.2⟩
  split at ha
  ·repeat' split at ha
   all_goals first|(cases ha;done)|skip
   cases ha
   exact h'.aw ⟨vb.1,by show(u.results++[_]).length≤_;rw[En,Eo];have:=hN.2;omega⟩
  split at ha
  ·split at ha
   ·cases ha
   split at ha
   ·cases ha
   split at ha
   ·cases ha
   ·cases ha
    exact h'.aw ⟨vb.1,vb.2⟩
  split at ha
  ·split at ha
   ·cases ha
   ·cases ha
    exact h'.aw ⟨vb.1,vb.2⟩
  ·split at ha
   ·cases ha
   ·cases ha
    exact h'.aw ⟨vb.1,vb.2⟩
theorem jfo {w:Int→Int}{n:Nat}{r r':qu}{e:je}(h:SB n r)(ha:after w r e=.ok r'):SB (n+1) r':=by
 unfold after at ha
 split at ha
 ·cases ha
 split at ha
 ·cases ha
 rename_i r1 h1
 cases ha
 have:=jiu h h1
 exact⟨this.L,this.P,this.U,this.D,this.N⟩
def HB (h:fA):Prop:=∀(j:Nat) (r:qu),h.2[j]?=E7 r→SB j r
theorem HB.empty:HB ([],[l8]):=by
 intro j r hr
 cases j with
 |zero=>simp at hr;subst hr;exact SB.empty
 |succ j=>simp at hr
theorem HB.accept {w:Int→Int}{h h':fA}{k:Int}{e:je}(o:jd w h)(b:HB h)(ha:Go.W.accept w h k e=.ok h'):HB h':=by
 unfold Go.W.accept at ha
 split at ha
 ·cases ha
 split at ha
 ·split at ha
  ·cases ha
  split at ha
  ·cases ha
  ·cases ha
   intro j r hr
   simp only[List.getElem?_dropLast]at hr
   split at hr
   ·exact b j r hr
   ·cases hr
 ·split at ha
  ·cases ha
  ·rename_i r' h1
   cases ha
   intro j r hr
   have hn:=o.now
   have hlen:=o.len
   simp only at hr
   by_cases hj:j<h.2.length
   ·rw[List.getElem?_append_left hj]at hr;exact b j r hr
   ·rw[List.getElem?_append_right (by omega)]at hr
    have hj2:j=h.1.length+1:=by
     cases hd:j-h.2.length with
     |zero=>omega
     |succ d=>rw[hd]at hr;simp at hr
    subst hj2
    rw[hlen,Nat.sub_self]at hr
    simp at hr
    subst hr
    exact jfo (b _ _ hn) h1
end Go.Z
namespace Go.Z
open Go Go.Abs Go.W
def yB (n:Nat)(h:fA):Option HV→Prop
 |none=>h=([],[l8])∧n=0
 |some v=>v.lc≤v.cs.length∧v.ls≤v.ss.length∧h.1=(v.cs.take v.lc).map ql.er∧h.2=(v.ss.take v.ls).map qc.er∧v.ev.length=n∧v.lc≤n
def Vy (n:Nat)(h:fA)(c:Int)(s:Option HV):Except Int fA→Prop
 | .error x=>c=x∧x≠0∧yB n h s
 | .ok h'=>c=0∧yB (n+1) h' s
theorem Vz {α:Type}{xs:List α}{len:Nat}{x:α}(h1:len≤xs.length)(h2:len≤BB):qX xs len x=E7 (xs.take len++[x]):=by
 unfold qX
 rw[if_pos ⟨h1,by unfold BB at h2;omega⟩]
theorem VA {n:Nat}(h:n≤BB):j9 .i64 ((n:Int)+1)=((n+1:Nat):Int):=gj (by unfold BB at h;omega)
theorem NL {n:Nat}(h:n≤BB)(h0:0<n):j9 .i64 ((n:Int)-1)=((n-1:Nat):Int):=by
 obtain⟨m,rfl⟩:∃m,n=m+1:=⟨n-1,by omega⟩
 have:=qzy (i:=m) (by unfold BB at h;omega)
 rw[this];rfl
theorem qt3 {α:Type}{l:List α}{k:Nat}(h:k≤l.length):(l.take k).dropLast=l.take (k-1):=by
 rw[List.dropLast_eq_take,Ev,List.take_take]
 congr 1;omega
theorem VB {a b:Int}:f51 (E7 [a,b])=E7 (eN [a,b]):=iw (by simp[SM])
theorem jf6 {e:ql}(hc:kg e.er=0):∃c s',HA e=E7 (c,s')∧Vy 0 ([],[l8]) c s' (Go.W.accept (j9 .i64) ([],[l8]) (0+1) e.er):=by
 unfold HA Go.W.accept
 rw[show j9 .i64 1=1 from rfl,show e.er.number=e.number from rfl,show e.er.kind=e.kind from rfl,show((0:Int)+1)=1 from rfl]
 by_cases h1:e.number=1
 ·rw[dT h1,if_neg (fun h=>h h1)]
  simp only[cT]
  by_cases h2:e.kind=ol
  ·rw[show decide (e.kind=([117,110,100,111]:List UInt8))=true from dT h2,if_pos h2]
   simp only[cT,iN,jx,VB]
   exact⟨_,_,rfl,rfl,by decide,rfl,rfl⟩
  ·rw[show decide (e.kind=([117,110,100,111]:List UInt8))=false from dF h2,if_neg h2]
   have hw:WF eI.er:=WF.empty 0
   obtain⟨r',c,g1,g2⟩:=q5p (r:=eI) (SB.empty.gb (r:=eI) (Nat.zero_le _)) hw hc h2
   simp only[cond_false,g1,jx]
   rw[show now ([],[l8])=eI.er from rfl]
   cases ha:after (j9 .i64) eI.er e.er with
   |error k=>
    rw[ha]at g2
    obtain⟨rfl,g3⟩:=g2
    rw[dF g3]
    exact⟨_,_,rfl,rfl,g3,rfl,rfl⟩
   |ok s=>
    rw[ha]at g2
    obtain⟨rfl,rfl⟩:=g2
    exact⟨_,_,rfl,rfl,Ga _,Ga _,rfl,rfl,rfl,Ga _⟩
 ·rw[dF h1,if_pos h1]
  exact⟨_,_,rfl,rfl,by decide,rfl,rfl⟩
theorem jlw {v:HV}{n:Nat}{h:fA}{e:ql}(hr:yB n h (E7 v))(o:jd (j9 .i64) h)(b:HB h)(hn:n<BB)(hc:kg e.er=0):∃c s',NM (E7 v) e=E7 (c,s')∧Vy n h c s' (Go.W.accept (j9 .i64) h ((n:Int)+1) e.er):=by
 obtain⟨r1,r2,r3,r4,r5,r6⟩:=hr
 have gO:h.1.length=v.lc:=by rw[r3,E6,Ev];omega
 have n6:h.2.length=v.ls:=by rw[r4,E6,Ev];omega
 have NN:v.ls=v.lc+1:=by rw[←gO,←n6];exact o.len
 have gC:qX v.ev v.ev.length e=E7 (v.ev++[e]):=by rw[Vz (Ga _) (by omega),List.take_length]
 show ∃c s',(jx (HC v e) fun q=>E7 (q.1,E7 q.2))=E7 (c,s')∧_
 unfold HC Go.W.accept
 rw[show e.er.number=e.number from rfl,show e.er.kind=e.kind from rfl,r5,VA (by omega)]
 by_cases h1:e.number=((n+1:Nat):Int)
 case neg=>
  rw[dF h1,if_pos (show e.number≠(n:Int)+1 from h1)]
  exact⟨_,_,rfl,rfl,by decide,r1,r2,r3,r4,r5,r6⟩
 rw[dT h1,if_neg (show ¬e.number≠(n:Int)+1 from fun hh=>hh h1)]
 simp only[cT]
 by_cases h2:e.kind=ol
 ·rw[show decide (e.kind=([117,110,100,111]:List UInt8))=true from dT h2,if_pos h2]
  simp only[cT,iN,jx]
  by_cases h3:v.lc=0
  ·have h4:h.1=[]:=List.eq_nil_of_length_eq_zero (by rw[gO,h3])
   rw[h4]
   simp only[h3,show decide (((0:Nat):Int)=0)=true from rfl,show decide ((0:Int)<((0:Nat):Int))=false from rfl,cond_false,VB]
   exact⟨_,_,rfl,rfl,by decide,r1,r2,r3,r4,r5,r6⟩
  ·have gR:0<v.lc:=by omega
   rw[dF (show ¬(v.lc:Int)=0 by omega),dT (show(0:Int)<(v.lc:Int) by omega),NL (by omega) gR]
   obtain⟨x,hx⟩:∃x,(v.cs.take v.lc)[v.lc-1]?=E7 x:=⟨_,List.getElem?_eq_getElem (by rw[Ev];omega)⟩
   have lU:max 0 ((v.lc-1:Nat):Int)=((v.lc-1:Nat):Int):=by omega
   have qY:h.1.getLast?=E7 x.er:=by
    rw[List.getLast?_eq_getElem?,gO,r3,Gc,hx];rfl
   rw[lU,qY]
   simp only[cT,yb hx,VB]
   by_cases h5:x.kind=kH
   ·rw[if_pos (show x.er.kind=kH from h5),show decide (x.kind=([115,104,105,112]:List UInt8))=true from dT h5]
    exact⟨_,_,rfl,rfl,by decide,r1,r2,r3,r4,r5,r6⟩
   ·rw[if_neg (show ¬x.er.kind=kH from h5),show decide (x.kind=([115,104,105,112]:List UInt8))=false from dF h5]
    rw[r5]at gC
    simp only[Bool.false_eq_true,if_false,show decide (eN [0,0]=0)=true from rfl,cT]
    rw[dT (show(0:Int)≤((v.lc-1:Nat):Int)∧((v.lc-1:Nat):Int)≤(v.lc:Int)∧v.lc≤v.ls by omega)]
    simp only[cT,gC]
    have VC:((v.lc-1:Nat):Int).toNat=v.lc-1:=Int.toNat_natCast _
    refine⟨_,_,rfl,rfl,by show((v.lc-1:Nat):Int).toNat≤v.cs.length;rw[VC];omega,by show v.lc≤v.ss.length;omega,?_,?_,by show(v.ev++[e]).length=_;rw[En,r5];rfl,by show((v.lc-1:Nat):Int).toNat≤n+1;rw[VC];omega⟩
    ·show h.1.dropLast=(v.cs.take ((v.lc-1:Nat):Int).toNat).map ql.er
     rw[VC,r3,←Gl,qt3 r1]
    ·show h.2.dropLast=(v.ss.take v.lc).map qc.er
     rw[r4,←Gl,qt3 r2,NN];rfl
 ·rw[show decide (e.kind=([117,110,100,111]:List UInt8))=false from dF h2,if_neg h2]
  have dx:=o.now
  rw[gO,r4,Gc]at dx
  cases hr:(v.ss.take v.ls)[v.lc]? with
  |none=>rw[hr]at dx;cases dx
  |some r=>
   rw[hr]at dx
   have vK:r.er=now h:=by simpa using dx
   have HD:SB v.lc r.er:=b v.lc r.er (by rw[r4,Gc,hr];rfl)
   have hwf:WF r.er:=by rw[vK];exact o.qZ
   obtain⟨r',c,g1,g2⟩:=q5p (HD.gb (by omega)) hwf hc h2
   have hi:j9 .i64 ((v.ls:Int)-1)=(v.lc:Int):=by rw[NL (by omega) (by omega),NN];rfl
   rw[hi]
   simp only[cond_false,yb hr,g1,jx]
   rw[vK]at g2
   cases ha:after (j9 .i64) (now h) e.er with
   |error k=>
    rw[ha]at g2
    obtain⟨rfl,g3⟩:=g2
    rw[dF g3]
    exact⟨_,_,rfl,rfl,g3,r1,r2,r3,r4,r5,r6⟩
   |ok s=>
    rw[ha]at g2
    obtain⟨rfl,rfl⟩:=g2
    rw[r5]at gC
    rw[Vz r1 (by omega),Vz r2 (by omega)]
    simp only[gC,show decide ((0:Int)=0)=true from rfl,cT]
    refine⟨_,_,rfl,rfl,?_,?_,?_,?_,by show(v.ev++[e]).length=_;rw[En,r5];rfl,by show v.lc+1≤n+1;omega⟩
    ·show v.lc+1≤(v.cs.take v.lc++[e]).length
     rw[En,Ev,Eo];omega
    ·show v.ls+1≤(v.ss.take v.ls++[r']).length
     rw[En,Ev,Eo];omega
    ·show h.1++[e.er]=((v.cs.take v.lc++[e]).take (v.lc+1)).map ql.er
     rw[Gk (by rw[En,Ev,Eo];omega),Gp,r3];rfl
    ·show h.2++[r'.er]=((v.ss.take v.ls++[r']).take (v.ls+1)).map qc.er
     rw[Gk (by rw[En,Ev,Eo];omega),Gp,r4];rfl
theorem jlc {s:Option HV}{n:Nat}{h:fA}{e:ql}(hr:yB n h s)(o:jd (j9 .i64) h)(b:HB h)(hn:n<BB)(hc:kg e.er=0):∃c s',NM s e=E7 (c,s')∧Vy n h c s' (Go.W.accept (j9 .i64) h ((n:Int)+1) e.er):=by
 cases s with
 |some v=>exact jlw hr o b hn hc
 |none=>
  obtain⟨rfl,rfl⟩:=hr
  exact jf6 hc
end Go.Z
namespace Go.Z
open Go Go.Abs Go.W
def pq (e:ql):Prop:=(e.names.getD []).length≤SM∧(e.values.getD []).length≤SM
theorem ja0 {α:Type}{o:Option (List α)}(h:(o.getD []).length≤SM):∃q b,(cond o.isNone (E7 (none,false)) (jx (bp (E7 []) (o.getD [])) fun v2=>E7 (v2,true)):Option (Option (List α)×Bool))=E7 (q,b)∧q.getD []=o.getD []:=by
 cases o with
 |none=>exact⟨none,false,rfl,rfl⟩
 |some l=>
  have:bp (E7 []) l=E7 (E7 l):=by
   unfold bp
   simp only[Gn,List.nil_append]
   rw[if_pos (by simpa using h)]
   rfl
  exact⟨E7 l,true,by simp only[Option.isNone_some,cond_false,Gn,this,jx],rfl⟩
theorem jok {e:ql}(h:pq e):∃e',f66 e=E7 e'∧e'.er=e.er∧pq e':=by
 obtain⟨q1,b1,h1,k1⟩:=ja0 (o:=e.names) h.1
 obtain⟨q2,b2,h2,k2⟩:=ja0 (o:=e.values) h.2
 refine⟨⟨e.number,e.kind,q1,q2,e.text⟩,?_,?_,?_⟩
 ·unfold f66
  rw[show f122 e.names=E7 (q1,b1)from h1,show f123 e.values=E7 (q2,b2)from h2]
  cases b1<;>cases b2<;>rfl
 ·show je.mk _ _ _ _ _=je.mk _ _ _ _ _
  simp only[k1,k2]
 ·exact⟨by show(q1.getD []).length≤_;rw[k1];exact h.1,by show(q2.getD []).length≤_;rw[k2];exact h.2⟩
def zb9 (n:Nat):Except (Int×Int) fA→(Int×Int×Option HV)⊕(Int×Option HV)→Prop
 | .error x,d=>∃s,d=.inl (x.1,x.2,s)∧x.2≠0
 | .ok h,d=>∃o,d=.inr ((n:Int),o)∧yB n h o∧jd (j9 .i64) h∧HB h
theorem jar {l:Option (List ql)}(hb:∀e∈l.getD [],pq e)(hl:(l.getD []).length≤BB):∀(m:List ql) (i:Nat) (h:fA) (s:Option HV),(l.getD []).drop i=m→i≤(l.getD []).length→yB i h s→jd (j9 .i64) h→HB h→∃d,bj (A4 l) ((i:Int),s)=E7 d∧zb9 (l.getD []).length (vd (j9 .i64) i h (m.map ql.er)) d
 | [],i,h,s,hm,hi,hr,o,b=>by
  have he:i=(l.getD []).length:=by
   have:=List.drop_eq_nil_iff.1 hm;omega
  subst he
  refine⟨.inr (((l.getD []).length:Int),s),jO ?_,s,rfl,hr,o,b⟩
  unfold A4
  rw[fU];rfl
 |e::m,i,h,s,hm,hi,hr,o,b=>by
  have hx:(l.getD [])[i]?=E7 e:=by
   have:=congrArg List.head? hm
   rwa [List.head?_drop]at this
  have aY:i<(l.getD []).length:=(List.getElem?_eq_some_iff.1 hx).1
  have Eh:(l.getD []).drop (i+1)=m:=by rw[uP hx]at hm;exact(List.cons.inj hm).2
  have El:=hb e (E5 hx)
  have hw:j9 .i64 ((i:Int)+1)=((i+1:Nat):Int):=VA (by omega)
  have b9:A4 l ((i:Int),s)=cond (decide (kg e.er=0)) (jx (f66 e) fun e2=>jx (NM s e2) fun q=>cond (decide (q.1=0)) (E7 (.inl (((i+1:Nat):Int),q.2))) (E7 (.inr (.inl (((i+1:Nat):Int),q.1,q.2))))) (E7 (.inr (.inl (((i+1:Nat):Int),kg e.er,s)))):=by
   unfold A4
   simp only[gH aY,cT,yb hx,jx,jp2 El.1 El.2,hw]
  rw[List.map_cons]
  simp only[vd]
  by_cases hc:kg e.er=0
  case neg=>
   rw[if_pos hc]
   refine⟨.inl (((i+1:Nat):Int),kg e.er,s),jO ?_,s,rfl,hc⟩
   rw[b9,dF hc];rfl
  rw[if_neg (fun h=>h hc)]
  obtain⟨e',g1,g2,g3⟩:=jok El
  obtain⟨c,s',k1,k2⟩:=jlc (e:=e') hr o b (by omega) (by rw[g2];exact hc)
  rw[g2]at k2
  rw[dT hc,cT,g1]at b9
  simp only[jx,k1]at b9
  cases ha:Go.W.accept (j9 .i64) h ((i:Int)+1) e.er with
  |error x=>
   rw[ha]at k2
   obtain⟨rfl,k3,k4⟩:=k2
   rw[dF k3]at b9
   exact⟨.inl (((i+1:Nat):Int),c,s'),jO b9,s',rfl,k3⟩
  |ok h'=>
   rw[ha]at k2
   obtain⟨rfl,k4⟩:=k2
   rw[dT (rfl:(0:Int)=0)]at b9
   obtain⟨d,d1,d2⟩:=jar hb hl m (i+1) h' s' Eh aY k4 (o.accept hc ha) (b.accept o ha)
   exact⟨d,by rw[pi b9];exact d1,d2⟩
def zfa (n:Nat):Except (Int×Int) fA→(Int×Int)⊕Option HV→Prop
 | .error x,d=>d=.inl x∧x.2≠0
 | .ok h,d=>∃o,d=.inr o∧yB n h o∧jd (j9 .i64) h∧HB h∧n≤1000
theorem jsm {l:Option (List ql)}(hb:∀e∈l.getD [],pq e):∃d,f47 l=E7 d∧zfa (l.getD []).length (run (j9 .i64) ((l.getD []).map ql.er)) d:=by
 unfold f47 run
 rw[E6]
 by_cases h:1000<(l.getD []).length
 ·rw[dT (by omega),if_pos h]
  exact⟨_,rfl,rfl,by decide⟩
 ·rw[dF (by omega),if_neg h,cond_false]
  obtain⟨d,d1,d2⟩:=jar hb (by unfold BB;omega) (l.getD []) 0 ([],[l8]) none rfl (Nat.zero_le _) ⟨rfl,rfl⟩ jd.empty HB.empty
  rw[show(0:Int)=((0:Nat):Int)from rfl,d1]
  cases hr:vd (j9 .i64) 0 ([],[l8]) ((l.getD []).map ql.er)with
  |error x=>
   rw[hr]at d2
   obtain⟨s,rfl,k⟩:=d2
   exact⟨_,rfl,rfl,k⟩
  |ok h'=>
   rw[hr]at d2
   obtain⟨o,rfl,k1,k2,k3⟩:=d2
   exact⟨_,rfl,o,rfl,k1,k2,k3,by omega⟩
theorem jm2 {n:Nat}{h:fA}{o:Option HV}(hr:yB n h o)(k:jd (j9 .i64) h)(hn:n≤1000):∃r,jrt o=E7 r∧r.er=now h:=by
 cases o with
 |none=>
  obtain⟨rfl,rfl⟩:=hr
  exact⟨eI,rfl,rfl⟩
 |some v=>
  obtain⟨r1,r2,r3,r4,r5,r6⟩:=hr
  have gO:h.1.length=v.lc:=by rw[r3,E6,Ev];omega
  have n6:h.2.length=v.ls:=by rw[r4,E6,Ev];omega
  have NN:v.ls=v.lc+1:=by rw[←gO,←n6];exact k.len
  have hi:j9 .i64 ((v.ls:Int)-1)=(v.lc:Int):=by rw[NL (by unfold BB;omega) (by omega),NN];rfl
  have dx:=k.now
  rw[gO,r4,Gc]at dx
  cases hq:(v.ss.take v.ls)[v.lc]? with
  |none=>rw[hq]at dx;cases dx
  |some r=>
   rw[hq]at dx
   exact⟨r,by show zq (v.ss.take v.ls) (j9 .i64 ((v.ls:Int)-1))=E7 r;rw[hi];exact yb hq,by simpa using dx⟩
def jje:Except (Int×Int) fA→qu×Int×Int
 | .error x=>(l8,x.1,x.2)
 | .ok h=>(now h,0,0)
theorem j34 {l:Option (List ql)}(hb:∀e∈l.getD [],pq e):∃r,f9 l=E7 r∧(r.1.er,r.2)=jje (run (j9 .i64) ((l.getD []).map ql.er)):=by
 obtain⟨d,d1,d2⟩:=jsm hb
 unfold f9
 rw[d1]
 cases hr:run (j9 .i64) ((l.getD []).map ql.er)with
 |error x=>
  rw[hr]at d2
  obtain⟨rfl,k⟩:=d2
  refine⟨(eI,x.1,x.2),?_,rfl⟩
  simp only[jx]
  rw[dF k];rfl
 |ok h=>
  rw[hr]at d2
  obtain⟨o,rfl,k1,k2,k3,k4⟩:=d2
  obtain⟨r,q1,q2⟩:=jm2 k1 k2 k4
  refine⟨(r,0,0),?_,?_⟩
  ·simp only[jx,q1]
  ·rw[q2];rfl
end Go.Z
