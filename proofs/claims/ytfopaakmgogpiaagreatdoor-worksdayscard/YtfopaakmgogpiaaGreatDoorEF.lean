/- Chapter 10, plain. -/
import Derived.Test.YtfopaakmgogpiaaGreatDoorEC
import Derived.Test.YtfopaakmgogpiaaGreatDoorV9
set_option maxRecDepth 100000
set_option maxHeartbeats 4000000
open Nat renaming le_trans→I,le_refl→Gk
open List renaming length_append→En,length_singleton→E1,length_take→E2,mem_of_getElem?→E3,length_map→E6,length_set→Gl,mem_map_of_mem→Gm,getElem?_map→Gn,mem_append→Gp,take_of_length_le→Gq,map_dropLast→G2,not_mem_nil→Ha,map_append→Hd
open Option renaming some→E4,getD_some→Hb
namespace Go.Z
open Go Go.Abs Go.W
structure SB (n:Nat)(r:qu):Prop where
 L:r.au.length≤n
 P:r.ae.length≤n
 U:r.units.length≤n
 D:∀p∈r.ae,p.aH.length≤n∧p.bH.ax.length≤n∧p.bH.aw.length≤n∧∀d∈p.aH,d.ax.length≤n∧d.aw.length≤n
 N:∀u∈r.units,u.uses.length≤n∧u.results.length≤n
theorem SB.mono {n m:Nat}{r:qu}(h:SB n r)(hm:n≤m):SB m r:=
 ⟨I h.L hm,I h.P hm,I h.U hm,fun p hp=>⟨I (h.D p hp).1 hm,I (h.D p hp).2.1 hm,I (h.D p hp).2.2.1 hm,fun d hd=>⟨I ((h.D p hp).2.2.2 d hd).1 hm,I ((h.D p hp).2.2.2 d hd).2 hm⟩⟩,fun u hu=>⟨I (h.N u hu).1 hm,I (h.N u hu).2 hm⟩⟩
theorem SB.empty:SB 0 jY:=⟨Gk _,Gk _,Gk _,fun p (hp:p∈([]:List jf))=>absurd hp Ha,fun u (hu:u∈([]:List qy))=>absurd hu Ha⟩
theorem SB.gb {n:Nat}{r:qc}(h:SB n r.er)(hn:n≤BB):GB r:=by
 refine⟨I h.L hn,?_,?_,fun p hp=>?_,fun u hu=>?_⟩
 ·have:=h.P;rw[xj,E6]at this;exact I this hn
 ·have:=h.U;rw[Ae,E6]at this;exact I this hn
 ·obtain⟨h1,h2,h3,h4⟩:=h.D p.er (by rw[xj];exact Gm hp)
  have h1':(p.aH.getD []).length≤n:=by
   have:((p.aH.getD []).map qr.er).length≤n:=h1
   rwa [E6]at this
  refine⟨I h1' hn,I h2 hn,I h3 hn,fun d hd=>?_⟩
  obtain⟨h5,h6⟩:=h4 d.er (Gm hd)
  exact⟨I h5 hn,I h6 hn⟩
 ·obtain⟨h1,h2⟩:=h.N u.er (by rw[Ae];exact Gm hu)
  exact⟨I h1 hn,I h2 hn⟩
theorem SB.bE {n:Nat}{r:qu}(h:SB n r){i:Nat}{p:jf}(hp:p.aH.length≤n∧p.bH.ax.length≤n∧p.bH.aw.length≤n∧∀d∈p.aH,d.ax.length≤n∧d.aw.length≤n):SB n (bE r i p):=
 ⟨h.L,by show(r.ae.set i p).length≤n;rw[Gl];exact h.P,h.U,fun q hq=>by
  rcases xI hq with hq|rfl
  ·exact h.D q hq
  ·exact hp,h.N⟩
theorem SB.aA {n:Nat}{r:qu}(h:SB n r){i:Nat}{u:qy}(hu:u.uses.length≤n∧u.results.length≤n):SB n (aA r i u):=
 ⟨h.L,h.P,by show(r.units.set i u).length≤n;rw[Gl];exact h.U,h.D,fun q hq=>by
  rcases xI hq with hq|rfl
  ·exact h.N q hq
  ·exact hu⟩
theorem SB.cf {n:Nat}{r:qu}(h:SB n r){i:Nat}{x:qj}:SB n (cf r i x):=
 ⟨by show(r.au.set i x).length≤n;rw[Gl];exact h.L,h.P,h.U,h.D,h.N⟩
theorem q0e {α:Type}{p:α→Bool}{x:α}{l:List α}{n:Nat}(h:l.length≤n):(eW p x l).length≤n+1:=by
 unfold eW
 split
 ·rw[Gl];omega
 ·rw[En,E1];omega
theorem q7l {w:Int→Int}{l:List ql}{k:List UInt8}{x:Int}{n:Nat}(h:l.length≤n):(mR w l k x).length≤n+1:=by
 unfold mR
 split
 ·split
  ·rw[Gl];omega
  ·omega
 ·rw[En,E1];omega
theorem je4 {w:Int→Int}{n:Nat}{r r':qu}{e:je}(h:SB n r)(ha:apply w r e=.ok r'):SB (n+1) r':=by
 have h':=h.mono (Nat.le_succ n)
 unfold apply at ha
 split at ha
 ·unfold oi at ha
  split at ha
  ·repeat' split at ha
   all_goals first|(cases ha;done)|skip
   cases ha
   exact⟨by show(r.au++[_]).length≤_;rw[En,E1];have:=h.L;omega,h'.P,h'.U,h'.D,h'.N⟩
  split at ha
  ·repeat' split at ha
   all_goals first|(cases ha;done)|skip
   cases ha
   refine⟨h'.L,by show(r.ae++[_]).length≤_;rw[En,E1];have:=h.P;omega,h'.U,fun p hp=>?_,h'.N⟩
   rcases Gp.1 hp with hp|hp
   ·exact h'.D p hp
   ·simp at hp;subst hp;simp
  ·split at ha
   ·cases ha
   repeat' split at ha
   all_goals first|(cases ha;done)|skip
   cases ha
   refine⟨h'.L,h'.P,by show(r.units++[_]).length≤_;rw[En,E1];have:=h.U;omega,h'.D,fun p hp=>?_⟩
   rcases Gp.1 hp with hp|hp
   ·exact h'.N p hp
   ·simp at hp;subst hp;simp
 split at ha
 ·unfold oj at ha
  split at ha
  ·cases ha
  split at ha
  ·cases ha
  rename_i p hp
  have hD:=h.D p (E3 hp)
  have nH:=h'.D p (E3 hp)
  repeat' split at ha
  all_goals first|(cases ha;done)|skip
  ·cases ha
   refine h'.bE ⟨nH.1,?_,nH.2.2.1,nH.2.2.2⟩
   show(iP p.bH.ax _ _).length≤_
   unfold iP
   split
   ·exact I (List.length_filter_le _ _) nH.2.1
   ·exact q0e hD.2.1
  ·cases ha
   exact h'.bE ⟨nH.1,nH.2.1,q0e hD.2.2.1,nH.2.2.2⟩
  ·cases ha
   refine h'.bE ⟨by show(p.aH++[_]).length≤_;rw[En,E1];have:=hD.1;omega,nH.2.1,nH.2.2.1,fun d hd=>?_⟩
   rcases Gp.1 hd with hd|hd
   ·exact nH.2.2.2 d hd
   ·simp at hd;subst hd;exact⟨nH.2.1,nH.2.2.1⟩
 split at ha
 ·unfold vC at ha
  split at ha
  ·cases ha
  split at ha
  ·cases ha
  repeat' split at ha
  all_goals first|(cases ha;done)|skip
  all_goals (cases ha;exact h'.cf)
 ·unfold ol at ha
  split at ha
  ·cases ha
  split at ha
  ·cases ha
  rename_i u hu
  have hN:=h.N u (E3 hu)
  have uK:=h'.N u (E3 hu)
  split at ha
  ·unfold xw at ha
   split at ha
   ·cases ha
   split at ha
   ·cases ha
   repeat' split at ha
   all_goals first|(cases ha;done)|skip
   cases ha
   exact h'.cf.aA ⟨q7l hN.1,uK.2⟩
  split at ha
  ·unfold xy at ha
   split at ha
   ·cases ha
   split at ha
   ·cases ha
   rename_i v hv
   have hV':=h'.N v (E3 hv)
   repeat' split at ha
   all_goals first|(cases ha;done)|skip
   cases ha
   exact(h'.aA (u:={ u with partner:=v.name }) ⟨uK.1,uK.2⟩).aA (u:={ v with partner:=u.name }) ⟨hV'.1,hV'.2⟩
  split at ha
  ·repeat' split at ha
   all_goals first|(cases ha;done)|skip
   cases ha
   exact h'.aA ⟨uK.1,by show(u.results++[_]).length≤_;rw[En,E1];have:=hN.2;omega⟩
  split at ha
  ·split at ha
   ·cases ha
   split at ha
   ·cases ha
   split at ha
   ·cases ha
   ·cases ha
    exact h'.aA ⟨uK.1,uK.2⟩
  split at ha
  ·split at ha
   ·cases ha
   ·cases ha
    exact h'.aA ⟨uK.1,uK.2⟩
  ·split at ha
   ·cases ha
   ·cases ha
    exact h'.aA ⟨uK.1,uK.2⟩
theorem jip {w:Int→Int}{n:Nat}{r r':qu}{e:je}(h:SB n r)(ha:after w r e=.ok r'):SB (n+1) r':=by
 unfold after at ha
 split at ha
 ·cases ha
 split at ha
 ·cases ha
 rename_i r1 h1
 cases ha
 have:=je4 h h1
 exact⟨this.L,this.P,this.U,this.D,this.N⟩
def HB (h:eH):Prop:=∀(j:Nat) (r:qu),h.2[j]?=E4 r→SB j r
theorem HB.empty:HB ([],[jY]):=by
 intro j r hr
 cases j with
 |zero=>simp at hr;subst hr;exact SB.empty
 |succ j=>simp at hr
theorem HB.accept {w:Int→Int}{h h':eH}{k:Int}{e:je}(o:jb w h)(b:HB h)(ha:Go.W.accept w h k e=.ok h'):HB h':=by
 unfold Go.W.accept at ha
 split at ha
 ·cases ha
 split at ha
 ·split at ha
  ·cases ha
  split at ha
  ·cases ha
  ·cases ha
   intro j r hr
   simp only[List.getElem?_dropLast]at hr
   split at hr
   ·exact b j r hr
   ·cases hr
 ·split at ha
  ·cases ha
  ·rename_i r' h1
   cases ha
   intro j r hr
   have hn:=o.now
   have hlen:=o.len
   simp only at hr
   by_cases hj:j<h.2.length
   ·rw[List.getElem?_append_left hj]at hr;exact b j r hr
   ·rw[List.getElem?_append_right (by omega)]at hr
    have hj2:j=h.1.length+1:=by
     cases hd:j-h.2.length with
     |zero=>omega
     |succ d=>rw[hd]at hr;simp at hr
    subst hj2
    rw[hlen,Nat.sub_self]at hr
    simp at hr
    subst hr
    exact jip (b _ _ hn) h1
end Go.Z
namespace Go.Z
open Go Go.Abs Go.W
def AE (n:Nat)(h:eH):Option HV→Prop
 |none=>h=([],[jY])∧n=0
 |some v=>v.lc≤v.cs.length∧v.ls≤v.ss.length∧h.1=(v.cs.take v.lc).map qm.er∧h.2=(v.ss.take v.ls).map qc.er∧v.ev.length=n∧v.lc≤n
def VA (n:Nat)(h:eH)(c:Int)(s:Option HV):Except Int eH→Prop
 | .error x=>c=x∧x≠0∧AE n h s
 | .ok h'=>c=0∧AE (n+1) h' s
theorem VB {α:Type}{xs:List α}{len:Nat}{x:α}(h1:len≤xs.length)(h2:len≤BB):qM xs len x=E4 (xs.take len++[x]):=by
 unfold qM
 rw[if_pos ⟨h1,by unfold BB at h2;omega⟩]
theorem G8 {n:Nat}(h:n≤BB):j9 .i64 ((n:Int)+1)=((n+1:Nat):Int):=il (by unfold BB at h;omega)
theorem VC {n:Nat}(h:n≤BB)(h0:0<n):j9 .i64 ((n:Int)-1)=((n-1:Nat):Int):=by
 obtain⟨m,rfl⟩:∃m,n=m+1:=⟨n-1,by omega⟩
 have:=q0i (i:=m) (by unfold BB at h;omega)
 rw[this];rfl
theorem qtz {α:Type}{l:List α}{k:Nat}(h:k≤l.length):(l.take k).dropLast=l.take (k-1):=by
 rw[List.dropLast_eq_take,E2,List.take_take]
 congr 1;omega
theorem VD {a b:Int}:f51 (E4 [a,b])=E4 (fP [a,b]):=iq (by simp[SM])
theorem jih {e:qm}(hc:kc e.er=0):∃c s',G9 e=E4 (c,s')∧VA 0 ([],[jY]) c s' (Go.W.accept (j9 .i64) ([],[jY]) (0+1) e.er):=by
 unfold G9 Go.W.accept
 rw[show j9 .i64 1=1 from rfl,show e.er.number=e.number from rfl,show e.er.kind=e.kind from rfl,show((0:Int)+1)=1 from rfl]
 by_cases h1:e.number=1
 ·rw[dT h1,if_neg (fun h=>h h1)]
  simp only[cT]
  by_cases h2:e.kind=lX
  ·rw[show decide (e.kind=([117,110,100,111]:List UInt8))=true from dT h2,if_pos h2]
   simp only[cT,lA,jx,VD]
   exact⟨_,_,rfl,rfl,by decide,rfl,rfl⟩
  ·rw[show decide (e.kind=([117,110,100,111]:List UInt8))=false from dF h2,if_neg h2]
   have hw:WF eM.er:=WF.empty 0
   obtain⟨r',c,g1,g2⟩:=q6z (r:=eM) (SB.empty.gb (r:=eM) (Nat.zero_le _)) hw hc h2
   simp only[cond_false,g1,jx]
   rw[show now ([],[jY])=eM.er from rfl]
   cases ha:after (j9 .i64) eM.er e.er with
   |error k=>
    rw[ha]at g2
    obtain⟨rfl,g3⟩:=g2
    rw[dF g3]
    exact⟨_,_,rfl,rfl,g3,rfl,rfl⟩
   |ok s=>
    rw[ha]at g2
    obtain⟨rfl,rfl⟩:=g2
    exact⟨_,_,rfl,rfl,Gk _,Gk _,rfl,rfl,rfl,Gk _⟩
 ·rw[dF h1,if_pos h1]
  exact⟨_,_,rfl,rfl,by decide,rfl,rfl⟩
theorem jlo {v:HV}{n:Nat}{h:eH}{e:qm}(hr:AE n h (E4 v))(o:jb (j9 .i64) h)(b:HB h)(hn:n<BB)(hc:kc e.er=0):∃c s',ND (E4 v) e=E4 (c,s')∧VA n h c s' (Go.W.accept (j9 .i64) h ((n:Int)+1) e.er):=by
 obtain⟨r1,r2,r3,r4,r5,r6⟩:=hr
 have hZ:h.1.length=v.lc:=by rw[r3,E6,E2];omega
 have pC:h.2.length=v.ls:=by rw[r4,E6,E2];omega
 have hls:v.ls=v.lc+1:=by rw[←hZ,←pC];exact o.len
 have gB:qM v.ev v.ev.length e=E4 (v.ev++[e]):=by rw[VB (Gk _) (by omega),List.take_length]
 show ∃c s',(jx (Hc v e) fun q=>E4 (q.1,E4 q.2))=E4 (c,s')∧_
 unfold Hc Go.W.accept
 rw[show e.er.number=e.number from rfl,show e.er.kind=e.kind from rfl,r5,G8 (by omega)]
 by_cases h1:e.number=((n+1:Nat):Int)
 case neg=>
  rw[dF h1,if_pos (show e.number≠(n:Int)+1 from h1)]
  exact⟨_,_,rfl,rfl,by decide,r1,r2,r3,r4,r5,r6⟩
 rw[dT h1,if_neg (show ¬e.number≠(n:Int)+1 from fun hh=>hh h1)]
 simp only[cT]
 by_cases h2:e.kind=lX
 ·rw[show decide (e.kind=([117,110,100,111]:List UInt8))=true from dT h2,if_pos h2]
  simp only[cT,lA,jx]
  by_cases h3:v.lc=0
  ·have h4:h.1=[]:=List.eq_nil_of_length_eq_zero (by rw[hZ,h3])
   rw[h4]
   simp only[h3,show decide (((0:Nat):Int)=0)=true from rfl,show decide ((0:Int)<((0:Nat):Int))=false from rfl,cond_false,VD]
   exact⟨_,_,rfl,rfl,by decide,r1,r2,r3,r4,r5,r6⟩
  ·have gL:0<v.lc:=by omega
   rw[dF (show ¬(v.lc:Int)=0 by omega),dT (show(0:Int)<(v.lc:Int) by omega),VC (by omega) gL]
   obtain⟨x,hx⟩:∃x,(v.cs.take v.lc)[v.lc-1]?=E4 x:=⟨_,List.getElem?_eq_getElem (by rw[E2];omega)⟩
   have lQ:max 0 ((v.lc-1:Nat):Int)=((v.lc-1:Nat):Int):=by omega
   have qN:h.1.getLast?=E4 x.er:=by
    rw[List.getLast?_eq_getElem?,hZ,r3,Gn,hx];rfl
   rw[lQ,qN]
   simp only[cT,z7 hx,VD]
   by_cases h5:x.kind=jW
   ·rw[if_pos (show x.er.kind=jW from h5),show decide (x.kind=([115,104,105,112]:List UInt8))=true from dT h5]
    exact⟨_,_,rfl,rfl,by decide,r1,r2,r3,r4,r5,r6⟩
   ·rw[if_neg (show ¬x.er.kind=jW from h5),show decide (x.kind=([115,104,105,112]:List UInt8))=false from dF h5]
    rw[r5]at gB
    simp only[Bool.false_eq_true,if_false,show decide (fP [0,0]=0)=true from rfl,cT]
    rw[dT (show(0:Int)≤((v.lc-1:Nat):Int)∧((v.lc-1:Nat):Int)≤(v.lc:Int)∧v.lc≤v.ls by omega)]
    simp only[cT,gB]
    have VE:((v.lc-1:Nat):Int).toNat=v.lc-1:=Int.toNat_natCast _
    refine⟨_,_,rfl,rfl,by show((v.lc-1:Nat):Int).toNat≤v.cs.length;rw[VE];omega,by show v.lc≤v.ss.length;omega,?_,?_,by show(v.ev++[e]).length=_;rw[En,r5];rfl,by show((v.lc-1:Nat):Int).toNat≤n+1;rw[VE];omega⟩
    ·show h.1.dropLast=(v.cs.take ((v.lc-1:Nat):Int).toNat).map qm.er
     rw[VE,r3,←G2,qtz r1]
    ·show h.2.dropLast=(v.ss.take v.lc).map qc.er
     rw[r4,←G2,qtz r2,hls];rfl
 ·rw[show decide (e.kind=([117,110,100,111]:List UInt8))=false from dF h2,if_neg h2]
  have eC:=o.now
  rw[hZ,r4,Gn]at eC
  cases hr:(v.ss.take v.ls)[v.lc]? with
  |none=>rw[hr]at eC;cases eC
  |some r=>
   rw[hr]at eC
   have vi:r.er=now h:=by simpa using eC
   have VF:SB v.lc r.er:=b v.lc r.er (by rw[r4,Gn,hr];rfl)
   have hwf:WF r.er:=by rw[vi];exact o.xJ
   obtain⟨r',c,g1,g2⟩:=q6z (VF.gb (by omega)) hwf hc h2
   have hi:j9 .i64 ((v.ls:Int)-1)=(v.lc:Int):=by rw[VC (by omega) (by omega),hls];rfl
   rw[hi]
   simp only[cond_false,z7 hr,g1,jx]
   rw[vi]at g2
   cases ha:after (j9 .i64) (now h) e.er with
   |error k=>
    rw[ha]at g2
    obtain⟨rfl,g3⟩:=g2
    rw[dF g3]
    exact⟨_,_,rfl,rfl,g3,r1,r2,r3,r4,r5,r6⟩
   |ok s=>
    rw[ha]at g2
    obtain⟨rfl,rfl⟩:=g2
    rw[r5]at gB
    rw[VB r1 (by omega),VB r2 (by omega)]
    simp only[gB,show decide ((0:Int)=0)=true from rfl,cT]
    refine⟨_,_,rfl,rfl,?_,?_,?_,?_,by show(v.ev++[e]).length=_;rw[En,r5];rfl,by show v.lc+1≤n+1;omega⟩
    ·show v.lc+1≤(v.cs.take v.lc++[e]).length
     rw[En,E2,E1];omega
    ·show v.ls+1≤(v.ss.take v.ls++[r']).length
     rw[En,E2,E1];omega
    ·show h.1++[e.er]=((v.cs.take v.lc++[e]).take (v.lc+1)).map qm.er
     rw[Gq (by rw[En,E2,E1];omega),Hd,r3];rfl
    ·show h.2++[r'.er]=((v.ss.take v.ls++[r']).take (v.ls+1)).map qc.er
     rw[Gq (by rw[En,E2,E1];omega),Hd,r4];rfl
theorem jkx {s:Option HV}{n:Nat}{h:eH}{e:qm}(hr:AE n h s)(o:jb (j9 .i64) h)(b:HB h)(hn:n<BB)(hc:kc e.er=0):∃c s',ND s e=E4 (c,s')∧VA n h c s' (Go.W.accept (j9 .i64) h ((n:Int)+1) e.er):=by
 cases s with
 |some v=>exact jlo hr o b hn hc
 |none=>
  obtain⟨rfl,rfl⟩:=hr
  exact jih hc
end Go.Z
namespace Go.Z
open Go Go.Abs Go.W
def qO (e:qm):Prop:=(e.names.getD []).length≤SM∧(e.values.getD []).length≤SM
theorem jdf {α:Type}{o:Option (List α)}(h:(o.getD []).length≤SM):∃q b,(cond o.isNone (E4 (none,false)) (jx (bg (E4 []) (o.getD [])) fun v2=>E4 (v2,true)):Option (Option (List α)×Bool))=E4 (q,b)∧q.getD []=o.getD []:=by
 cases o with
 |none=>exact⟨none,false,rfl,rfl⟩
 |some l=>
  have:bg (E4 []) l=E4 (E4 l):=by
   unfold bg
   simp only[Hb,List.nil_append]
   rw[if_pos (by simpa using h)]
   rfl
  exact⟨E4 l,true,by simp only[Option.isNone_some,cond_false,Hb,this,jx],rfl⟩
theorem jus {e:qm}(h:qO e):∃e',f66 e=E4 e'∧e'.er=e.er∧qO e':=by
 obtain⟨q1,b1,h1,k1⟩:=jdf (o:=e.names) h.1
 obtain⟨q2,b2,h2,k2⟩:=jdf (o:=e.values) h.2
 refine⟨⟨e.number,e.kind,q1,q2,e.text⟩,?_,?_,?_⟩
 ·unfold f66
  rw[show f122 e.names=E4 (q1,b1)from h1,show f123 e.values=E4 (q2,b2)from h2]
  cases b1<;>cases b2<;>rfl
 ·show je.mk _ _ _ _ _=je.mk _ _ _ _ _
  simp only[k1,k2]
 ·exact⟨by show(q1.getD []).length≤_;rw[k1];exact h.1,by show(q2.getD []).length≤_;rw[k2];exact h.2⟩
def zdb (n:Nat):Except (Int×Int) eH→(Int×Int×Option HV)⊕(Int×Option HV)→Prop
 | .error x,d=>∃s,d=.inl (x.1,x.2,s)∧x.2≠0
 | .ok h,d=>∃o,d=.inr ((n:Int),o)∧AE n h o∧jb (j9 .i64) h∧HB h
theorem jbg {l:Option (List qm)}(hb:∀e∈l.getD [],qO e)(hl:(l.getD []).length≤BB):∀(m:List qm) (i:Nat) (h:eH) (s:Option HV),(l.getD []).drop i=m→i≤(l.getD []).length→AE i h s→jb (j9 .i64) h→HB h→∃d,bf (AF l) ((i:Int),s)=E4 d∧zdb (l.getD []).length (uL (j9 .i64) i h (m.map qm.er)) d
 | [],i,h,s,hm,hi,hr,o,b=>by
  have he:i=(l.getD []).length:=by
   have:=List.drop_eq_nil_iff.1 hm;omega
  subst he
  refine⟨.inr (((l.getD []).length:Int),s),iF ?_,s,rfl,hr,o,b⟩
  unfold AF
  rw[kr];rfl
 |e::m,i,h,s,hm,hi,hr,o,b=>by
  have hx:(l.getD [])[i]?=E4 e:=by
   have:=congrArg List.head? hm
   rwa [List.head?_drop]at this
  have aX:i<(l.getD []).length:=(List.getElem?_eq_some_iff.1 hx).1
  have qK:(l.getD []).drop (i+1)=m:=by rw[oW hx]at hm;exact(List.cons.inj hm).2
  have D2:=hb e (E3 hx)
  have hw:j9 .i64 ((i:Int)+1)=((i+1:Nat):Int):=G8 (by omega)
  have bU:AF l ((i:Int),s)=cond (decide (kc e.er=0)) (jx (f66 e) fun e2=>jx (ND s e2) fun q=>cond (decide (q.1=0)) (E4 (.inl (((i+1:Nat):Int),q.2))) (E4 (.inr (.inl (((i+1:Nat):Int),q.1,q.2))))) (E4 (.inr (.inl (((i+1:Nat):Int),kc e.er,s)))):=by
   unfold AF
   simp only[eV aX,cT,z7 hx,jx,jtt D2.1 D2.2,hw]
  rw[List.map_cons]
  simp only[uL]
  by_cases hc:kc e.er=0
  case neg=>
   rw[if_pos hc]
   refine⟨.inl (((i+1:Nat):Int),kc e.er,s),iF ?_,s,rfl,hc⟩
   rw[bU,dF hc];rfl
  rw[if_neg (fun h=>h hc)]
  obtain⟨e',g1,g2,g3⟩:=jus D2
  obtain⟨c,s',k1,k2⟩:=jkx (e:=e') hr o b (by omega) (by rw[g2];exact hc)
  rw[g2]at k2
  rw[dT hc,cT,g1]at bU
  simp only[jx,k1]at bU
  cases ha:Go.W.accept (j9 .i64) h ((i:Int)+1) e.er with
  |error x=>
   rw[ha]at k2
   obtain⟨rfl,k3,k4⟩:=k2
   rw[dF k3]at bU
   exact⟨.inl (((i+1:Nat):Int),c,s'),iF bU,s',rfl,k3⟩
  |ok h'=>
   rw[ha]at k2
   obtain⟨rfl,k4⟩:=k2
   rw[dT (rfl:(0:Int)=0)]at bU
   obtain⟨d,d1,d2⟩:=jbg hb hl m (i+1) h' s' qK aX k4 (o.accept hc ha) (b.accept o ha)
   exact⟨d,by rw[mL bU];exact d1,d2⟩
def zfq (n:Nat):Except (Int×Int) eH→(Int×Int)⊕Option HV→Prop
 | .error x,d=>d=.inl x∧x.2≠0
 | .ok h,d=>∃o,d=.inr o∧AE n h o∧jb (j9 .i64) h∧HB h∧n≤1000
theorem jut {l:Option (List qm)}(hb:∀e∈l.getD [],qO e):∃d,f47 l=E4 d∧zfq (l.getD []).length (run (j9 .i64) ((l.getD []).map qm.er)) d:=by
 unfold f47 run
 rw[E6]
 by_cases h:1000<(l.getD []).length
 ·rw[dT (by omega),if_pos h]
  exact⟨_,rfl,rfl,by decide⟩
 ·rw[dF (by omega),if_neg h,cond_false]
  obtain⟨d,d1,d2⟩:=jbg hb (by unfold BB;omega) (l.getD []) 0 ([],[jY]) none rfl (Nat.zero_le _) ⟨rfl,rfl⟩ jb.empty HB.empty
  rw[show(0:Int)=((0:Nat):Int)from rfl,d1]
  cases hr:uL (j9 .i64) 0 ([],[jY]) ((l.getD []).map qm.er)with
  |error x=>
   rw[hr]at d2
   obtain⟨s,rfl,k⟩:=d2
   exact⟨_,rfl,rfl,k⟩
  |ok h'=>
   rw[hr]at d2
   obtain⟨o,rfl,k1,k2,k3⟩:=d2
   exact⟨_,rfl,o,rfl,k1,k2,k3,by omega⟩
end Go.Z
