/- Chapter 10, plain. -/
import Derived.Test.YtimdocpnkimlfaaGreatDoorEA
import Derived.Test.YtimdocpnkimlfaaGreatDoorV9
set_option linter.unusedVariables false
set_option linter.unusedSimpArgs false
set_option maxRecDepth 100000
set_option maxHeartbeats 4000000
open Option renaming some→I,getD_some→Gn,none→Gv
open List renaming length_singleton→En,length_append→E9,length_map→Gd,mem_of_getElem?→Ge,getElem?_map→Gf,length_take→Gi,getElem?_eq_some_iff→Gj,map_append→Gl,length_set→Gs,getElem?_eq_getElem→Gt,dropLast_eq_take→Gu,map_cons→Gx,map_id→Gz,drop_eq_nil_iff→G2,mem_append→G3,eq_nil_of_length_eq_zero→G5,mem_map_of_mem→G6,getLast?_eq_getElem?→Ha,take_of_length_le→Hb,head?_drop→H9,map_dropLast→Ie,not_mem_nil→If,head?→Jc,cons→Jd,map_take→Je,map_nil→Jf
open Nat renaming le_trans→Ga,le_refl→Gp,zero_le→G7
open Bool renaming true→Gm,and_self→Gy,false→G4
namespace Go.Z
open Go Go.Abs Go.W
structure SB (n:Nat)(r:bj):Prop where
 L:r.au.length≤n
 P:r.ae.length≤n
 U:r.units.length≤n
 D:∀p∈r.ae,p.aM.length≤n∧p.bX.aB.length≤n∧p.bX.aA.length≤n∧∀d∈p.aM,d.aB.length≤n∧d.aA.length≤n
 N:∀u∈r.units,u.uses.length≤n∧u.results.length≤n
theorem SB.mono {n m r}(h:SB n r)(hm:n≤m):SB m r:=
 ⟨Ga h.L hm,Ga h.P hm,Ga h.U hm,fun p hp=>⟨Ga (h.D p hp).1 hm,Ga (h.D p hp).2.1 hm,Ga (h.D p hp).2.2.1 hm,fun d hd=>⟨Ga ((h.D p hp).2.2.2 d hd).1 hm,Ga ((h.D p hp).2.2.2 d hd).2 hm⟩⟩,fun u hu=>⟨Ga (h.N u hu).1 hm,Ga (h.N u hu).2 hm⟩⟩
theorem SB.empty:SB 0 mc:=⟨Gp _,Gp _,Gp _,fun p (hp:p∈([]:List cY))=>absurd hp If,fun u (hu:u∈([]:List br))=>absurd hu If⟩
theorem SB.gb {n r}(h:SB n r.er)(hn:n≤BB):GB r:=by
 refine⟨Ga h.L hn,?_,?_,fun p hp=>?_,fun u hu=>?_⟩
 ·have:=h.P;rw[yK,Gd]at this;exact Ga this hn
 ·have:=h.U;rw[A8,Gd]at this;exact Ga this hn
 ·obtain⟨h1,h2,h3,h4⟩:=h.D p.er (by rw[yK];exact G6 hp)
  have h1':(p.aM.getD []).length≤n:=by
   have:((p.aM.getD []).map aY.er).length≤n:=h1
   rwa [Gd]at this
  refine⟨Ga h1' hn,Ga h2 hn,Ga h3 hn,fun d hd=>?_⟩
  obtain⟨h5,h6⟩:=h4 d.er (G6 hd)
  exact⟨Ga h5 hn,Ga h6 hn⟩
 ·obtain⟨h1,h2⟩:=h.N u.er (by rw[A8];exact G6 hu)
  exact⟨Ga h1 hn,Ga h2 hn⟩
theorem SB.bR {n r}(h:SB n r){i p}(hp:p.aM.length≤n∧p.bX.aB.length≤n∧p.bX.aA.length≤n∧∀d∈p.aM,d.aB.length≤n∧d.aA.length≤n):SB n (bR r i p):=
 ⟨h.L,by show(r.ae.set i p).length≤n;rw[Gs];exact h.P,h.U,fun q hq=>by
  rcases zF hq with hq|rfl
  ·exact h.D q hq
  ·exact hp,h.N⟩
theorem SB.ay {n r}(h:SB n r){i u}(hu:u.uses.length≤n∧u.results.length≤n):SB n (ay r i u):=
 ⟨h.L,h.P,by show(r.units.set i u).length≤n;rw[Gs];exact h.U,h.D,fun q hq=>by
  rcases zF hq with hq|rfl
  ·exact h.N q hq
  ·exact hu⟩
theorem SB.b4 {n r}(h:SB n r){i x}:SB n (b4 r i x):=
 ⟨by show(r.au.set i x).length≤n;rw[Gs];exact h.L,h.P,h.U,h.D,h.N⟩
theorem qzw {α:Type}{p:α→Bool}{x l n}(h:l.length≤n):(ke p x l).length≤n+1:=by
 unfold ke
 split
 ·rw[Gs];omega
 ·rw[E9,En];omega
theorem jb6 {w l k x n}(h:l.length≤n):(jP w l k x).length≤n+1:=by
 unfold jP
 split
 ·split
  ·rw[Gs];omega
  ·omega
 ·rw[E9,En];omega
theorem jjs {w:Int→Int}{n:Nat}{r r' e}(h:SB n r)(ha:apply w r e=.ok r'):SB (n+1) r':=by
 have h':=h.mono (Nat.le_succ n)
 unfold apply at ha
 split at ha
 ·unfold l7 at ha
  split at ha
  ·repeat' split at ha
   all_goals first|(cases ha;done)|skip
   cases ha
   exact⟨by show(r.au++[_]).length≤_;rw[E9,En];have:=h.L;omega,h'.P,h'.U,h'.D,h'.N⟩
  split at ha
  ·repeat' split at ha
   all_goals first|(cases ha;done)|skip
   cases ha
   refine⟨h'.L,by show(r.ae++[_]).length≤_;rw[E9,En];have:=h.P;omega,h'.U,fun p hp=>?_,h'.N⟩
   rcases G3.1 hp with hp|hp
   ·exact h'.D p hp
   ·simp at hp;subst hp;simp
  ·split at ha
   ·cases ha
   repeat' split at ha
   all_goals first|(cases ha;done)|skip
   cases ha
   refine⟨h'.L,h'.P,by show(r.units++[_]).length≤_;rw[E9,En];have:=h.U;omega,h'.D,fun p hp=>?_⟩
   rcases G3.1 hp with hp|hp
   ·exact h'.N p hp
   ·simp at hp;subst hp;simp
 split at ha
 ·unfold kj at ha
  split at ha
  ·cases ha
  split at ha
  ·cases ha
  rename_i p hp
  have hD:=h.D p (Ge hp)
  have ov:=h'.D p (Ge hp)
  repeat' split at ha
  all_goals first|(cases ha;done)|skip
  ·cases ha
   refine h'.bR ⟨ov.1,?_,ov.2.2.1,ov.2.2.2⟩
   show(kw p.bX.aB _ _).length≤_
   unfold kw
   split
   ·exact Ga (List.length_filter_le _ _) ov.2.1
   ·exact qzw hD.2.1
  ·cases ha
   exact h'.bR ⟨ov.1,ov.2.1,qzw hD.2.2.1,ov.2.2.2⟩
  ·cases ha
   refine h'.bR ⟨by show(p.aM++[_]).length≤_;rw[E9,En];have:=hD.1;omega,ov.2.1,ov.2.2.1,fun d hd=>?_⟩
   rcases G3.1 hd with hd|hd
   ·exact ov.2.2.2 d hd
   ·simp at hd;subst hd;exact⟨ov.2.1,ov.2.2.1⟩
 split at ha
 ·unfold lE at ha
  split at ha
  ·cases ha
  split at ha
  ·cases ha
  repeat' split at ha
  all_goals first|(cases ha;done)|skip
  all_goals (cases ha;exact h'.b4)
 ·unfold l8 at ha
  split at ha
  ·cases ha
  split at ha
  ·cases ha
  rename_i u hu
  have hN:=h.N u (Ge hu)
  have vD:=h'.N u (Ge hu)
  split at ha
  ·unfold pO at ha
   split at ha
   ·cases ha
   split at ha
   ·cases ha
   repeat' split at ha
   all_goals first|(cases ha;done)|skip
   cases ha
   exact h'.b4.ay ⟨jb6 hN.1,vD.2⟩
  split at ha
  ·unfold pP at ha
   split at ha
   ·cases ha
   split at ha
   ·cases ha
   rename_i v hv
   have hV':=h'.N v (Ge hv)
   repeat' split at ha
   all_goals first|(cases ha;done)|skip
   cases ha
   exact(h'.ay (u:={ u with partner:=v.name }) ⟨vD.1,vD.2⟩).ay (u:={ v with partner:=u.name }) ⟨hV'.1,hV'.2⟩
  split at ha
  ·repeat' split at ha
   all_goals first|(cases ha;done)|skip
   cases ha
   exact h'.ay ⟨vD.1,by show(u.results++[_]).length≤_;rw[E9,En];have:=hN.2;omega⟩
  split at ha
  ·split at ha
   ·cases ha
   split at ha
   ·cases ha
   split at ha
   ·cases ha
   ·cases ha
    exact h'.ay ⟨vD.1,vD.2⟩
  split at ha
  ·split at ha
   ·cases ha
   ·cases ha
    exact h'.ay ⟨vD.1,vD.2⟩
  ·split at ha
   ·cases ha
   ·cases ha
    exact h'.ay ⟨vD.1,vD.2⟩
theorem jj6 {w n r r' e}(h:SB n r)(ha:after w r e=.ok r'):SB (n+1) r':=by
 unfold after at ha
 split at ha
 ·cases ha
 split at ha
 ·cases ha
 rename_i r1 h1
 cases ha
 have:=jjs h h1
 exact⟨this.L,this.P,this.U,this.D,this.N⟩
def HB (h:yv):Prop:=∀(j:Nat) (r:bj),h.2[j]?=I r→SB j r
theorem HB.empty:HB ([],[mc]):=by
 intro j r hr
 cases j with
 |zero=>simp at hr;subst hr;exact SB.empty
 |succ j=>simp at hr
theorem HB.accept {w h h' k e}(o:eL w h)(b:HB h)(ha:Go.W.accept w h k e=.ok h'):HB h':=by
 unfold Go.W.accept at ha
 split at ha
 ·cases ha
 split at ha
 ·split at ha
  ·cases ha
  split at ha
  ·cases ha
  ·cases ha
   intro j r hr
   simp only[List.getElem?_dropLast]at hr
   split at hr
   ·exact b j r hr
   ·cases hr
 ·split at ha
  ·cases ha
  ·rename_i r' h1
   cases ha
   intro j r hr
   have hn:=o.now
   have hlen:=o.len
   simp only at hr
   by_cases hj:j<h.2.length
   ·rw[List.getElem?_append_left hj]at hr;exact b j r hr
   ·rw[List.getElem?_append_right (by omega)]at hr
    have hj2:j=h.1.length+1:=by
     cases hd:j-h.2.length with
     |zero=>omega
     |succ d=>rw[hd]at hr;simp at hr
    subst hj2
    rw[hlen,Nat.sub_self]at hr
    simp at hr
    subst hr
    exact jj6 (b _ _ hn) h1
end Go.Z
namespace Go.Z
open Go Go.Abs Go.W
def zG (n:Nat)(h:yv):Option HV→Prop
 |none=>h=([],[mc])∧n=0
 |some v=>v.lc≤v.cs.length∧v.ls≤v.ss.length∧h.1=(v.cs.take v.lc).map GEv.er∧h.2=(v.ss.take v.ls).map ar.er∧v.ev.length=n∧v.lc≤n
def TU (n:Nat)(h:yv)(c:Int)(s:Option HV):Except Int yv→Prop
 | .error x=>c=x∧x≠0∧zG n h s
 | .ok h'=>c=0∧zG (n+1) h' s
theorem TV {α:Type}{xs:List α}{len x}(h1:len≤xs.length)(h2:len≤BB):rP xs len x=I (xs.take len++[x]):=by
 unfold rP
 rw[if_pos ⟨h1,by unfold BB at h2;omega⟩]
theorem L7 {n}(h:n≤BB):qe .i64 ((n:Int)+1)=((n+1:Nat):Int):=yg (by unfold BB at h;omega)
theorem L8 {n}(h:n≤BB)(h0:0<n):qe .i64 ((n:Int)-1)=((n-1:Nat):Int):=by
 obtain⟨m,rfl⟩:∃m,n=m+1:=⟨n-1,by omega⟩
 have:=qz3 (i:=m) (by unfold BB at h;omega)
 rw[this];rfl
theorem qr7 {α:Type}{l:List α}{k}(h:k≤l.length):(l.take k).dropLast=l.take (k-1):=by
 rw[Gu,Gi,List.take_take]
 congr 1;omega
theorem TW {a b}:f46 (I [a,b])=I (fF [a,b]):=jG (by simp[SM])
theorem jhs {e}(hc:jn e.er=0):∃c s',wJ e=I (c,s')∧TU 0 ([],[mc]) c s' (Go.W.accept (qe .i64) ([],[mc]) (0+1) e.er):=by
 unfold wJ Go.W.accept
 rw[show qe .i64 1=1 from rfl,show e.er.number=e.number from rfl,show e.er.kind=e.kind from rfl,show((0:Int)+1)=1 from rfl]
 by_cases h1:e.number=1
 ·rw[decide_eq_true h1,if_neg (fun h=>h h1)]
  simp only[cond_true]
  by_cases h2:e.kind=y8
  ·rw[show decide (e.kind=([117,110,100,111]:List UInt8))=Gm from decide_eq_true h2,if_pos h2]
   simp only[cond_true,lD,qa,TW]
   exact⟨_,_,rfl,rfl,by decide,rfl,rfl⟩
  ·rw[show decide (e.kind=([117,110,100,111]:List UInt8))=G4 from decide_eq_false h2,if_neg h2]
   have hw:WF dN.er:=WF.empty 0
   obtain⟨r',c,g1,g2⟩:=q7z (r:=dN) (SB.empty.gb (r:=dN) (G7 _)) hw hc h2
   simp only[cond_false,g1,qa]
   rw[show now ([],[mc])=dN.er from rfl]
   cases ha:after (qe .i64) dN.er e.er with
   |error k=>
    rw[ha]at g2
    obtain⟨rfl,g3⟩:=g2
    rw[decide_eq_false g3]
    exact⟨_,_,rfl,rfl,g3,rfl,rfl⟩
   |ok s=>
    rw[ha]at g2
    obtain⟨rfl,rfl⟩:=g2
    exact⟨_,_,rfl,rfl,Gp _,Gp _,rfl,rfl,rfl,Gp _⟩
 ·rw[decide_eq_false h1,if_pos h1]
  exact⟨_,_,rfl,rfl,by decide,rfl,rfl⟩
theorem jo3 {v:HV}{n:Nat}{h e}(hr:zG n h (I v))(o:eL (qe .i64) h)(b:HB h)(hn:n<BB)(hc:jn e.er=0):∃c s',Ip (I v) e=I (c,s')∧TU n h c s' (Go.W.accept (qe .i64) h ((n:Int)+1) e.er):=by
 obtain⟨r1,r2,r3,r4,r5,r6⟩:=hr
 have ig:h.1.length=v.lc:=by rw[r3,Gd,Gi];omega
 have oc:h.2.length=v.ls:=by rw[r4,Gd,Gi];omega
 have L9:v.ls=v.lc+1:=by rw[←ig,←oc];exact o.len
 have eM:rP v.ev v.ev.length e=I (v.ev++[e]):=by rw[TV (Gp _) (by omega),List.take_length]
 show ∃c s',(qa (wK v e) fun q=>I (q.1,I q.2))=I (c,s')∧_
 unfold wK Go.W.accept
 rw[show e.er.number=e.number from rfl,show e.er.kind=e.kind from rfl,r5,L7 (by omega)]
 by_cases h1:e.number=((n+1:Nat):Int)
 case neg=>
  rw[decide_eq_false h1,if_pos (show e.number≠(n:Int)+1 from h1)]
  exact⟨_,_,rfl,rfl,by decide,r1,r2,r3,r4,r5,r6⟩
 rw[decide_eq_true h1,if_neg (show ¬e.number≠(n:Int)+1 from fun hh=>hh h1)]
 simp only[cond_true]
 by_cases h2:e.kind=y8
 ·rw[show decide (e.kind=([117,110,100,111]:List UInt8))=Gm from decide_eq_true h2,if_pos h2]
  simp only[cond_true,lD,qa]
  by_cases h3:v.lc=0
  ·have h4:h.1=[]:=G5 (by rw[ig,h3])
   rw[h4]
   simp only[h3,show decide (((0:Nat):Int)=0)=Gm from rfl,show decide ((0:Int)<((0:Nat):Int))=G4 from rfl,cond_false,TW]
   exact⟨_,_,rfl,rfl,by decide,r1,r2,r3,r4,r5,r6⟩
  ·have gI:0<v.lc:=by omega
   rw[decide_eq_false (show ¬(v.lc:Int)=0 by omega),decide_eq_true (show(0:Int)<(v.lc:Int) by omega),L8 (by omega) gI]
   obtain⟨x,hx⟩:∃x,(v.cs.take v.lc)[v.lc-1]?=I x:=⟨_,Gt (by rw[Gi];omega)⟩
   have mJ:max 0 ((v.lc-1:Nat):Int)=((v.lc-1:Nat):Int):=by omega
   have kE:h.1.getLast?=I x.er:=by
    rw[Ha,ig,r3,Gf,hx];rfl
   rw[mJ,kE]
   simp only[cond_true,ja hx,TW]
   by_cases h5:x.kind=yw
   ·rw[if_pos (show x.er.kind=yw from h5),show decide (x.kind=([115,104,105,112]:List UInt8))=Gm from decide_eq_true h5]
    exact⟨_,_,rfl,rfl,by decide,r1,r2,r3,r4,r5,r6⟩
   ·rw[if_neg (show ¬x.er.kind=yw from h5),show decide (x.kind=([115,104,105,112]:List UInt8))=G4 from decide_eq_false h5]
    rw[r5]at eM
    simp only[Bool.false_eq_true,if_false,show decide (fF [0,0]=0)=Gm from rfl,cond_true]
    rw[decide_eq_true (show(0:Int)≤((v.lc-1:Nat):Int)∧((v.lc-1:Nat):Int)≤(v.lc:Int)∧v.lc≤v.ls by omega)]
    simp only[cond_true,eM]
    have TX:((v.lc-1:Nat):Int).toNat=v.lc-1:=Int.toNat_natCast _
    refine⟨_,_,rfl,rfl,by show((v.lc-1:Nat):Int).toNat≤v.cs.length;rw[TX];omega,by show v.lc≤v.ss.length;omega,?_,?_,by show(v.ev++[e]).length=_;rw[E9,r5];rfl,by show((v.lc-1:Nat):Int).toNat≤n+1;rw[TX];omega⟩
    ·show h.1.dropLast=(v.cs.take ((v.lc-1:Nat):Int).toNat).map GEv.er
     rw[TX,r3,←Ie,qr7 r1]
    ·show h.2.dropLast=(v.ss.take v.lc).map ar.er
     rw[r4,←Ie,qr7 r2,L9];rfl
 ·rw[show decide (e.kind=([117,110,100,111]:List UInt8))=G4 from decide_eq_false h2,if_neg h2]
  have dO:=o.now
  rw[ig,r4,Gf]at dO
  cases hr:(v.ss.take v.ls)[v.lc]? with
  |none=>rw[hr]at dO;cases dO
  |some r=>
   rw[hr]at dO
   have vZ:r.er=now h:=by simpa using dO
   have TY:SB v.lc r.er:=b v.lc r.er (by rw[r4,Gf,hr];rfl)
   have hwf:WF r.er:=by rw[vZ];exact o.rQ
   obtain⟨r',c,g1,g2⟩:=q7z (TY.gb (by omega)) hwf hc h2
   have hi:qe .i64 ((v.ls:Int)-1)=(v.lc:Int):=by rw[L8 (by omega) (by omega),L9];rfl
   rw[hi]
   simp only[cond_false,ja hr,g1,qa]
   rw[vZ]at g2
   cases ha:after (qe .i64) (now h) e.er with
   |error k=>
    rw[ha]at g2
    obtain⟨rfl,g3⟩:=g2
    rw[decide_eq_false g3]
    exact⟨_,_,rfl,rfl,g3,r1,r2,r3,r4,r5,r6⟩
   |ok s=>
    rw[ha]at g2
    obtain⟨rfl,rfl⟩:=g2
    rw[r5]at eM
    rw[TV r1 (by omega),TV r2 (by omega)]
    simp only[eM,show decide ((0:Int)=0)=Gm from rfl,cond_true]
    refine⟨_,_,rfl,rfl,?_,?_,?_,?_,by show(v.ev++[e]).length=_;rw[E9,r5];rfl,by show v.lc+1≤n+1;omega⟩
    ·show v.lc+1≤(v.cs.take v.lc++[e]).length
     rw[E9,Gi,En];omega
    ·show v.ls+1≤(v.ss.take v.ls++[r']).length
     rw[E9,Gi,En];omega
    ·show h.1++[e.er]=((v.cs.take v.lc++[e]).take (v.lc+1)).map GEv.er
     rw[Hb (by rw[E9,Gi,En];omega),Gl,r3];rfl
    ·show h.2++[r'.er]=((v.ss.take v.ls++[r']).take (v.ls+1)).map ar.er
     rw[Hb (by rw[E9,Gi,En];omega),Gl,r4];rfl
theorem q73 {s n h e}(hr:zG n h s)(o:eL (qe .i64) h)(b:HB h)(hn:n<BB)(hc:jn e.er=0):∃c s',Ip s e=I (c,s')∧TU n h c s' (Go.W.accept (qe .i64) h ((n:Int)+1) e.er):=by
 cases s with
 |some v=>exact jo3 hr o b hn hc
 |none=>
  obtain⟨rfl,rfl⟩:=hr
  exact jhs hc
end Go.Z
namespace Go.Z
open Go Go.Abs Go.W
def iJ (e:GEv):Prop:=(e.names.getD []).length≤SM∧(e.values.getD []).length≤SM
theorem jeh {α:Type}{o:Option (List α)}(h:(o.getD []).length≤SM):∃q b,(cond o.isNone (I (Gv,G4)) (qa (bq (I []) (o.getD [])) fun v2=>I (v2,Gm)):Option (Option (List α)×Bool))=I (q,b)∧q.getD []=o.getD []:=by
 cases o with
 |none=>exact⟨Gv,G4,rfl,rfl⟩
 |some l=>
  have:bq (I []) l=I (I l):=by
   unfold bq
   simp only[Gn,List.nil_append]
   rw[if_pos (by simpa using h)]
   rfl
  exact⟨I l,Gm,by simp only[Option.isNone_some,cond_false,Gn,this,qa],rfl⟩
theorem jem {e:GEv}(h:iJ e):∃e',f50 e=I e'∧e'.er=e.er∧iJ e':=by
 obtain⟨q1,b1,h1,k1⟩:=jeh (o:=e.names) h.1
 obtain⟨q2,b2,h2,k2⟩:=jeh (o:=e.values) h.2
 refine⟨⟨e.number,e.kind,q1,q2,e.text⟩,?_,?_,?_⟩
 ·unfold f50
  rw[show Ma e.names=I (q1,b1)from h1,show Mb e.values=I (q2,b2)from h2]
  cases b1<;>cases b2<;>rfl
 ·show dR.mk _ _ _ _ _=dR.mk _ _ _ _ _
  simp only[k1,k2]
 ·exact⟨by show(q1.getD []).length≤_;rw[k1];exact h.1,by show(q2.getD []).length≤_;rw[k2];exact h.2⟩
def zdn (n:Nat):Except (Int×Int) yv→(Int×Int×Option HV)⊕(Int×Option HV)→Prop
 | .error x,d=>∃s,d=.inl (x.1,x.2,s)∧x.2≠0
 | .ok h,d=>∃o,d=.inr ((n:Int),o)∧zG n h o∧eL (qe .i64) h∧HB h
theorem jdh {l}(hb:∀e∈l.getD [],iJ e)(hl:(l.getD []).length≤BB):∀(m:List GEv) (i:Nat) (h:yv) (s:Option HV),(l.getD []).drop i=m→i≤(l.getD []).length→zG i h s→eL (qe .i64) h→HB h→∃d,bB (wL l) ((i:Int),s)=I d∧zdn (l.getD []).length (yn (qe .i64) i h (m.map GEv.er)) d
 | [],i,h,s,hm,hi,hr,o,b=>by
  have he:i=(l.getD []).length:=by
   have:=G2.1 hm;omega
  subst he
  refine⟨.inr (((l.getD []).length:Int),s),ku ?_,s,rfl,hr,o,b⟩
  unfold wL
  rw[z6];rfl
 |e::m,i,h,s,hm,hi,hr,o,b=>by
  have hx:(l.getD [])[i]?=I e:=by
   have:=congrArg Jc hm
   rwa [H9]at this
  have bz:i<(l.getD []).length:=(Gj.1 hx).1
  have zB:(l.getD []).drop (i+1)=m:=by rw[rJ hx]at hm;exact(Jd.inj hm).2
  have Es:=hb e (Ge hx)
  have hw:qe .i64 ((i:Int)+1)=((i+1:Nat):Int):=L7 (by omega)
  have cB:wL l ((i:Int),s)=cond (decide (jn e.er=0)) (qa (f50 e) fun e2=>qa (Ip s e2) fun q=>cond (decide (q.1=0)) (I (.inl (((i+1:Nat):Int),q.2))) (I (.inr (.inl (((i+1:Nat):Int),q.1,q.2))))) (I (.inr (.inl (((i+1:Nat):Int),jn e.er,s)))):=by
   unfold wL
   simp only[yo bz,cond_true,ja hx,qa,jcu Es.1 Es.2,hw]
  rw[Gx]
  simp only[yn]
  by_cases hc:jn e.er=0
  case neg=>
   rw[if_pos hc]
   refine⟨.inl (((i+1:Nat):Int),jn e.er,s),ku ?_,s,rfl,hc⟩
   rw[cB,decide_eq_false hc];rfl
  rw[if_neg (fun h=>h hc)]
  obtain⟨e',g1,g2,g3⟩:=jem Es
  obtain⟨c,s',k1,k2⟩:=q73 (e:=e') hr o b (by omega) (by rw[g2];exact hc)
  rw[g2]at k2
  rw[decide_eq_true hc,cond_true,g1]at cB
  simp only[qa,k1]at cB
  cases ha:Go.W.accept (qe .i64) h ((i:Int)+1) e.er with
  |error x=>
   rw[ha]at k2
   obtain⟨rfl,k3,k4⟩:=k2
   rw[decide_eq_false k3]at cB
   exact⟨.inl (((i+1:Nat):Int),c,s'),ku cB,s',rfl,k3⟩
  |ok h'=>
   rw[ha]at k2
   obtain⟨rfl,k4⟩:=k2
   rw[decide_eq_true (rfl:(0:Int)=0)]at cB
   obtain⟨d,d1,d2⟩:=jdh hb hl m (i+1) h' s' zB bz k4 (o.accept hc ha) (b.accept o ha)
   exact⟨d,by rw[oQ cB];exact d1,d2⟩
def zdy (n:Nat):Except (Int×Int) yv→(Int×Int)⊕Option HV→Prop
 | .error x,d=>d=.inl x∧x.2≠0
 | .ok h,d=>∃o,d=.inr o∧zG n h o∧eL (qe .i64) h∧HB h∧n≤1000
theorem T0 {l}(hb:∀e∈l.getD [],iJ e):∃d,f45 l=I d∧zdy (l.getD []).length (run (qe .i64) ((l.getD []).map GEv.er)) d:=by
 unfold f45 run
 rw[Gd]
 by_cases h:1000<(l.getD []).length
 ·rw[decide_eq_true (by omega),if_pos h]
  exact⟨_,rfl,rfl,by decide⟩
 ·rw[decide_eq_false (by omega),if_neg h,cond_false]
  obtain⟨d,d1,d2⟩:=jdh hb (by unfold BB;omega) (l.getD []) 0 ([],[mc]) Gv rfl (G7 _) ⟨rfl,rfl⟩ eL.empty HB.empty
  rw[show(0:Int)=((0:Nat):Int)from rfl,d1]
  cases hr:yn (qe .i64) 0 ([],[mc]) ((l.getD []).map GEv.er)with
  |error x=>
   rw[hr]at d2
   obtain⟨s,rfl,k⟩:=d2
   exact⟨_,rfl,rfl,k⟩
  |ok h'=>
   rw[hr]at d2
   obtain⟨o,rfl,k1,k2,k3⟩:=d2
   exact⟨_,rfl,o,rfl,k1,k2,k3,by omega⟩
theorem jpn {n h o}(hr:zG n h o)(k:eL (qe .i64) h)(hn:n≤1000):∃r,jqj o=I r∧r.er=now h:=by
 cases o with
 |none=>
  obtain⟨rfl,rfl⟩:=hr
  exact⟨dN,rfl,rfl⟩
 |some v=>
  obtain⟨r1,r2,r3,r4,r5,r6⟩:=hr
  have ig:h.1.length=v.lc:=by rw[r3,Gd,Gi];omega
  have oc:h.2.length=v.ls:=by rw[r4,Gd,Gi];omega
  have L9:v.ls=v.lc+1:=by rw[←ig,←oc];exact k.len
  have hi:qe .i64 ((v.ls:Int)-1)=(v.lc:Int):=by rw[L8 (by unfold BB;omega) (by omega),L9];rfl
  have dO:=k.now
  rw[ig,r4,Gf]at dO
  cases hq:(v.ss.take v.ls)[v.lc]? with
  |none=>rw[hq]at dO;cases dO
  |some r=>
   rw[hq]at dO
   exact⟨r,by show qq (v.ss.take v.ls) (qe .i64 ((v.ls:Int)-1))=I r;rw[hi];exact ja hq,by simpa using dO⟩
def Iq:Except (Int×Int) yv→bj×Int×Int
 | .error x=>(mc,x.1,x.2)
 | .ok h=>(now h,0,0)
theorem jeo {l}(hb:∀e∈l.getD [],iJ e):∃r,f16 l=I r∧(r.1.er,r.2)=Iq (run (qe .i64) ((l.getD []).map GEv.er)):=by
 obtain⟨d,d1,d2⟩:=T0 hb
 unfold f16
 rw[d1]
 cases hr:run (qe .i64) ((l.getD []).map GEv.er)with
 |error x=>
  rw[hr]at d2
  obtain⟨rfl,k⟩:=d2
  refine⟨(dN,x.1,x.2),?_,rfl⟩
  simp only[qa]
  rw[decide_eq_false k];rfl
 |ok h=>
  rw[hr]at d2
  obtain⟨o,rfl,k1,k2,k3,k4⟩:=d2
  obtain⟨r,q1,q2⟩:=jpn k1 k2 k4
  refine⟨(r,0,0),?_,?_⟩
  ·simp only[qa,q1]
  ·rw[q2];rfl
def Bw (r:Except (Int×Int) yv)(n:Nat)(e:dR):Int:=match r with
 | .error x=>x.2
 | .ok h=>if jn e≠0 then jn e else if 1000≤n then 5 else match Go.W.accept (qe .i64) h ((n:Int)+1) e with
  | .error x=>x
  | .ok _=>0
theorem jtw {l e}(hb:∀e∈l.getD [],iJ e)(he:iJ e):f13 l e=I (Bw (run (qe .i64) ((l.getD []).map GEv.er)) (l.getD []).length e.er):=by
 obtain⟨d,d1,d2⟩:=T0 hb
 unfold f13 Bw
 rw[d1,jcu he.1 he.2]
 simp only[qa,lD]
 have zH:∀a b c:Int,f46 (I [a,b,c])=I (fF [a,b,c]):=fun a b c=>jG (by simp[SM])
 cases hr:run (qe .i64) ((l.getD []).map GEv.er)with
 |error x=>
  rw[hr]at d2
  obtain⟨rfl,k⟩:=d2
  simp only[zH,qa]
  have:fF [x.2,jn e.er,if decide (1000≤((l.getD []).length:Int))=Gm then 5 else 0]=x.2:=by simp[fF,k]
  rw[this,decide_eq_false k];rfl
 |ok h=>
  rw[hr]at d2
  obtain⟨o,rfl,k1,k2,k3,k4⟩:=d2
  simp only[zH,qa]
  generalize hk:(if decide (1000≤((l.getD []).length:Int))=Gm then(5:Int)else 0)=kk
  by_cases hc:jn e.er=0
  case neg=>
   rw[if_pos hc]
   have:fF [0,jn e.er,kk]=jn e.er:=by simp[fF,hc]
   rw[this,decide_eq_false hc];rfl
  rw[if_neg (fun h=>h hc)]
  by_cases hn:1000≤(l.getD []).length
  ·rw[if_pos hn]
   have:fF [0,jn e.er,kk]=5:=by
    rw[←hk,decide_eq_true (by omega)];simp[fF,hc]
   rw[this];rfl
  ·rw[if_neg hn]
   have:fF [0,jn e.er,kk]=0:=by
    rw[←hk,decide_eq_false (by omega)];simp[fF,hc]
   rw[this]
   obtain⟨e',g1,g2,g3⟩:=jem he
   obtain⟨c,s',a1,a2⟩:=q73 (e:=e') k1 k2 k3 (by unfold BB;omega) (by rw[g2];exact hc)
   rw[g2]at a2
   simp only[decide_true,cond_true,g1,qa,a1]
   cases ha:Go.W.accept (qe .i64) h (((l.getD []).length:Int)+1) e.er with
   |error x=>
    rw[ha]at a2
    rw[a2.1]
   |ok h'=>
    rw[ha]at a2
    rw[a2.1]
end Go.Z
namespace Go.Z
open Go Go.Abs Go.W
theorem q5u {α:Type}{o:Option (List α)}{k}(h:k≤(o.getD []).length):∃q,yH o Gv (I (k:Int))=I q∧q.getD []=(o.getD []).take k:=by
 have hc:Mc (o.getD []) Gv (I (k:Int))=I ((o.getD []).take k):=by
  unfold Mc
  have h1:rR (o.getD []).length (o.getD []).length (I (k:Int))=I k:=by
   unfold rR
   simp only[]
   rw[if_pos ⟨by omega,by omega⟩,Int.toNat_natCast]
  rw[h1];rfl
 unfold yH
 rw[hc]
 cases o with
 |none=>exact⟨Gv,rfl,by simp⟩
 |some l=>exact⟨_,rfl,rfl⟩
theorem T1 {α:Type}{o:Option (List α)}{x}(h:(o.getD []).length<SM):∃q,bq (I []) (o.getD [])=I (I (o.getD []))∧bq (I (o.getD [])) [x]=I q∧q.getD []=o.getD []++[x]:=by
 refine⟨I (o.getD []++[x]),?_,?_,rfl⟩
 ·unfold bq
  rw[if_pos (by simp only[Gn,List.length_nil];unfold SM at h;omega)]
  rfl
 ·unfold bq
  rw[if_pos (by simp only[Gn,En];unfold SM at h;omega)]
  rfl
theorem jdk {e:GEv}(hc:jn e.er=0):∀v∈e.values.getD [],0≤v:=by
 intro v hv
 unfold jn at hc
 split at hc
 ·simp at hc
 split at hc
 ·simp at hc
 split at hc
 ·simp at hc
 split at hc
 ·simp at hc
 split at hc
 ·simp at hc
 rename_i h
 simp only[Bool.not_eq_true',Bool.not_eq_false]at h
 have:=List.all_eq_true.1 h v hv
 simp at this
 exact this.1
def T2 (i:Nat)(h:yv)(s:Option (List GEv)×Option (List ar)):Prop:=h.1=(s.1.getD []).map GEv.er∧h.2=(s.2.getD []).map ar.er∧h.1.length≤i
def T3 (n:Nat):Except (Int×Int) yv→(Int×Int×Int×(Option (List jc))×(Option (List aC))×(Option (List bh)))⊕((Option (List GEv))×Bool×(Option (List ar))×Bool×Int)→Prop
 | .error x,d=>∃s,d=.inl (x.1,x.2,s)∧x.2≠0
 | .ok h,d=>∃s w1 w2,d=.inr (s.1,w1,s.2,w2,(n:Int))∧T2 n h s∧eL (qe .i64) h∧HB h
theorem jex {l:Option (List GEv)}(hb:∀e∈l.getD [],iJ e)(hl:(l.getD []).length≤BB):∀(m:List GEv) (i:Nat) (h:yv) (s:Option (List GEv)×Option (List ar)) (w1 w2:Bool),(l.getD []).drop i=m→i≤(l.getD []).length→T2 i h s→eL (qe .i64) h→HB h→∃d,bB (oW l) (s.1,s.2,(i:Int),w1,w2)=I d∧T3 (l.getD []).length (yn (qe .i64) i h (m.map GEv.er)) d
 | [],i,h,s,w1,w2,hm,hi,hr,o,b=>by
  have he:i=(l.getD []).length:=by
   have:=G2.1 hm;omega
  subst he
  refine⟨.inr (s.1,w1,s.2,w2,((l.getD []).length:Int)),ku ?_,s,w1,w2,rfl,hr,o,b⟩
  unfold oW
  rw[z6];rfl
 |e::m,i,h,s,w1,w2,hm,hi,hr,o,b=>by
  have hx:(l.getD [])[i]?=I e:=by
   have:=congrArg Jc hm
   rwa [H9]at this
  have bz:i<(l.getD []).length:=(Gj.1 hx).1
  have zB:(l.getD []).drop (i+1)=m:=by rw[rJ hx]at hm;exact(Jd.inj hm).2
  have Es:=hb e (Ge hx)
  have hw:qe .i64 ((i:Int)+1)=((i+1:Nat):Int):=L7 (by omega)
  obtain⟨r1,r2,r3⟩:=hr
  have ig:h.1.length=(s.1.getD []).length:=by rw[r1,Gd]
  have oc:h.2.length=(s.2.getD []).length:=by rw[r2,Gd]
  have hlen:=o.len
  rw[Gx]
  simp only[yn]
  obtain⟨F,hF⟩:∃F,oW l (s.1,s.2,(i:Int),w1,w2)=F:=⟨_,rfl⟩
  have hG:=hF
  unfold oW at hG
  simp only[yo bz,cond_true,ja hx,qa,jds Es.1 Es.2,hw]at hG
  subst hG
  by_cases hc:jn e.er=0
  case neg=>
   rw[decide_eq_false hc,cond_false]at hF
   rw[if_pos hc]
   exact⟨_,ku hF,_,rfl,hc⟩
  rw[if_neg (fun h=>h hc)]
  rw[decide_eq_true hc,cond_true]at hF
  have wM:∀(h':yv) (q:Option (List GEv)×Option (List ar)) (v1 v2:Bool),oW l (s.1,s.2,(i:Int),w1,w2)=I (.inl (q.1,q.2,((i+1:Nat):Int),v1,v2))→Go.W.accept (qe .i64) h ((i:Int)+1) e.er=.ok h'→T2 (i+1) h' q→∃d,bB (oW l) (s.1,s.2,(i:Int),w1,w2)=I d∧T3 (l.getD []).length (match Go.W.accept (qe .i64) h ((i:Int)+1) e.er with
    | .error x=>.error ((i:Int)+1,x)
    | .ok h'=>yn (qe .i64) (i+1) h' (m.map GEv.er)) d:=by
   intro h' q v1 v2 g1 g2 g3
   obtain⟨d,d1,d2⟩:=jex hb hl m (i+1) h' q v1 v2 zB bz g3 (o.accept hc g2) (b.accept o g2)
   rw[g2]
   exact⟨d,by rw[oQ g1];exact d1,d2⟩
  have wN:∀(x:Int) (q),oW l (s.1,s.2,(i:Int),w1,w2)=I (.inr (.inl (((i+1:Nat):Int),x,q)))→Go.W.accept (qe .i64) h ((i:Int)+1) e.er=.error x→x≠0→∃d,bB (oW l) (s.1,s.2,(i:Int),w1,w2)=I d∧T3 (l.getD []).length (match Go.W.accept (qe .i64) h ((i:Int)+1) e.er with
    | .error x=>.error ((i:Int)+1,x)
    | .ok h'=>yn (qe .i64) (i+1) h' (m.map GEv.er)) d:=by
   intro x q g1 g2 g3
   rw[g2]
   exact⟨_,ku g1,q,rfl,g3⟩
  have hA:∀y,Go.W.accept (qe .i64) h ((i:Int)+1) e.er=y→Go.W.accept (qe .i64) h ((i:Int)+1) e.er=y:=fun _ h=>h
  by_cases h1:e.number=((i+1:Nat):Int)
  case neg=>
   rw[decide_eq_false h1]at hF
   refine wN 11 _ hF ?_ (by decide)
   unfold Go.W.accept
   rw[if_pos (show e.er.number≠(i:Int)+1 from h1)]
  rw[decide_eq_true h1,cond_true]at hF
  have hn1:¬e.er.number≠(i:Int)+1:=fun hh=>hh h1
  by_cases h2:e.kind=y8
  ·rw[show decide (e.kind=([117,110,100,111]:List UInt8))=Gm from decide_eq_true h2,cond_true]at hF
   have ha:Go.W.accept (qe .i64) h ((i:Int)+1) e.er=(match h.1.getLast? with
     |none=>.error 12
     |some c=>if c.kind=yw then .error 19 else .ok (h.1.dropLast,h.2.dropLast)):=by
    unfold Go.W.accept
    rw[if_neg hn1,if_pos (show e.er.kind=y8 from h2)]
    cases h.1.getLast?<;>rfl
   by_cases h3:(s.1.getD []).length=0
   ·rw[decide_eq_true (by omega),cond_true]at hF
    refine wN 12 _ hF ?_ (by decide)
    rw[ha,show h.1=[]from G5 (by omega)];rfl
   ·rw[decide_eq_false (by omega),cond_false,L8 (by omega) (by omega)]at hF
    obtain⟨x,hx⟩:∃x,(s.1.getD [])[(s.1.getD []).length-1]?=I x:=⟨_,Gt (by omega)⟩
    have kE:h.1.getLast?=I x.er:=by
     rw[Ha,ig,r1,Gf,hx];rfl
    rw[kE]at ha
    simp only[ja hx]at hF
    by_cases h5:x.kind=yw
    ·rw[show decide (x.kind=([115,104,105,112]:List UInt8))=Gm from decide_eq_true h5,cond_true]at hF
     refine wN 19 _ hF ?_ (by decide)
     rw[ha]
     exact if_pos (show x.er.kind=yw from h5)
    ·rw[show decide (x.kind=([115,104,105,112]:List UInt8))=G4 from decide_eq_false h5,cond_false]at hF
     obtain⟨q1,c1,c2⟩:=q5u (o:=s.1) (k:=(s.1.getD []).length-1) (by omega)
     obtain⟨q2,cH,fe⟩:=q5u (o:=s.2) (k:=(s.1.getD []).length) (by omega)
     simp only[c1,cH]at hF
     refine wM (h.1.dropLast,h.2.dropLast) (q1,q2) _ _ hF ?_ ⟨?_,?_,?_⟩
     ·rw[ha]
      exact if_neg (show ¬x.er.kind=yw from h5)
     ·show h.1.dropLast=_
      rw[c2,Gu,ig,r1,Je]
     ·show h.2.dropLast=_
      rw[fe,Gu,r2,Je,←r2,hlen,ig];rfl
     ·show h.1.dropLast.length≤_
      rw[List.length_dropLast];omega
  ·rw[show decide (e.kind=([117,110,100,111]:List UInt8))=G4 from decide_eq_false h2,cond_false]at hF
   have ha:Go.W.accept (qe .i64) h ((i:Int)+1) e.er=(match after (qe .i64) (now h) e.er with
     | .error x=>.error x
     | .ok r=>.ok (h.1++[e.er],h.2++[r])):=by
    unfold Go.W.accept
    rw[if_neg hn1,if_neg (show ¬e.er.kind=y8 from h2)]
    cases after (qe .i64) (now h) e.er<;>rfl
   have dO:=o.now
   rw[ig,r2,Gf]at dO
   cases hq:(s.2.getD [])[(s.1.getD []).length]? with
   |none=>rw[hq]at dO;cases dO
   |some r=>
    rw[hq]at dO
    have vZ:r.er=now h:=by simpa using dO
    have TY:SB (s.1.getD []).length r.er:=b _ r.er (by rw[r2,Gf,hq];rfl)
    obtain⟨r',c,g1,g2⟩:=jn9 (e:=e) (TY.gb (by omega)) (by rw[vZ];exact o.rQ) hc h2 (jdk hc)
    simp only[ja hq,g1]at hF
    rw[vZ]at g2
    cases hat:after (qe .i64) (now h) e.er with
    |error k=>
     rw[hat]at g2 ha
     obtain⟨rfl,g3⟩:=g2
     rw[decide_eq_false g3,cond_false]at hF
     exact wN _ _ hF ha g3
    |ok t=>
     rw[hat]at g2 ha
     obtain⟨rfl,rfl⟩:=g2
     obtain⟨q1,c1,c2,cH⟩:=T1 (o:=s.1) (x:=e) (by unfold BB at hl;unfold SM;omega)
     obtain⟨q2,fe,cD,eh⟩:=T1 (o:=s.2) (x:=r') (by unfold BB at hl;unfold SM;omega)
     rw[decide_eq_true (rfl:(0:Int)=0),cond_true]at hF
     simp only[c1,c2,fe,cD]at hF
     refine wM _ (q1,q2) _ _ hF ha ⟨?_,?_,?_⟩
     ·show h.1++[e.er]=_
      rw[cH,r1,Gl];rfl
     ·show h.2++[r'.er]=_
      rw[eh,r2,Gl];rfl
     ·show(h.1++[e.er]).length≤_
      rw[E9,En];omega
def zcz:Except (Int×Int) yv→Option (List GEv)×ar×Int×Int→Prop
 | .error x,d=>d=(Gv,⟨0,Gv,Gv,Gv⟩,x.1,x.2)∧x.2≠0
 | .ok h,d=>∃s r,d=(s,r,0,0)∧h.1=(s.getD []).map GEv.er∧r.er=now h∧eL (qe .i64) h∧HB h∧h.1.length≤1000
theorem T4 {l}(hb:∀e∈l.getD [],iJ e):∃d,f93 l=I d∧zcz (run (qe .i64) ((l.getD []).map GEv.er)) d:=by
 unfold f93 run
 rw[Gd]
 by_cases h:1000<(l.getD []).length
 ·rw[decide_eq_true (by omega),if_pos h]
  exact⟨_,rfl,rfl,by decide⟩
 ·rw[decide_eq_false (by omega),if_neg h,cond_false]
  obtain⟨d,d1,d2⟩:=jex hb (by unfold BB;omega) (l.getD []) 0 ([],[mc]) (Gv,I [⟨0,Gv,Gv,Gv⟩]) G4 Gm rfl (G7 _) ⟨rfl,rfl,G7 _⟩ eL.empty HB.empty
  have d1':bB (oW l) (Gv,I [⟨0,Gv,Gv,Gv⟩],0,G4,Gm)=I d:=d1
  rw[d1']
  cases hr:yn (qe .i64) 0 ([],[mc]) ((l.getD []).map GEv.er)with
  |error x=>
   rw[hr]at d2
   obtain⟨s,rfl,k⟩:=d2
   exact⟨_,rfl,rfl,k⟩
  |ok h'=>
   rw[hr]at d2
   obtain⟨s,w1,w2,rfl,⟨k1,k2,k3⟩,k4,k5⟩:=d2
   have dO:=k4.now
   rw[k2,Gf,k1,Gd]at dO
   cases hq:(s.2.getD [])[(s.1.getD []).length]? with
   |none=>rw[hq]at dO;cases dO
   |some r=>
    rw[hq]at dO
    refine⟨(s.1,r,0,0),?_,s.1,r,rfl,k1,by simpa using dO,k4,k5,by omega⟩
    simp only[qa,ja hq]
theorem T5 {l}(hb:∀e∈l.getD [],iJ e):∃r,f38 l=I r∧(r.1.er,r.2)=Iq (run (qe .i64) ((l.getD []).map GEv.er)):=by
 obtain⟨d,d1,d2⟩:=T4 hb
 unfold f38
 rw[d1]
 refine⟨_,rfl,?_⟩
 cases hr:run (qe .i64) ((l.getD []).map GEv.er)with
 |error x=>
  rw[hr]at d2
  obtain⟨rfl,k⟩:=d2
  rfl
 |ok h=>
  rw[hr]at d2
  obtain⟨s,r,rfl,k1,k2,k3⟩:=d2
  show(r.er,((0:Int),(0:Int)))=_
  rw[k2];rfl
theorem jqx {l:Option (List GEv)}{e:GEv}(hb:∀e∈l.getD [],iJ e)(he:iJ e):f14 l e=I (Bw (run (qe .i64) ((l.getD []).map GEv.er)) (l.getD []).length e.er):=by
 obtain⟨r,h1,h2⟩:=T5 hb
 unfold f14 Bw
 rw[h1]
 have h3:r.2.2=(Iq (run (qe .i64) ((l.getD []).map GEv.er))).2.2:=by rw[←h2]
 cases hr:run (qe .i64) ((l.getD []).map GEv.er)with
 |error x=>
  rw[hr]at h3
  have hx:x.2≠0:=by
   obtain⟨d,d1,d2⟩:=T4 hb
   rw[hr]at d2;exact d2.2
  have T6:r.2.2=x.2:=h3
  simp only[qa,T6]
  rw[decide_eq_false hx];rfl
 |ok h=>
  rw[hr]at h3
  have T6:r.2.2=0:=h3
  simp only[qa,T6,jds he.1 he.2]
  simp only[decide_true,cond_true]
  by_cases hc:jn e.er=0
  case neg=>
   rw[decide_eq_false hc,if_pos hc];rfl
  rw[decide_eq_true hc,if_neg (fun h=>h hc),cond_true]
  by_cases hn:1000≤(l.getD []).length
  ·rw[decide_eq_true (by omega),if_pos hn];rfl
  rw[decide_eq_false (by omega),if_neg hn,cond_false]
  obtain⟨q,c1,c2,cH⟩:=T1 (o:=l) (x:=e) (by unfold SM;omega)
  obtain⟨r2,k1,k2⟩:=T5 (l:=q) (fun x hx=>by
   rw[cH]at hx
   rcases G3.1 hx with hx|hx
   ·exact hb x hx
   ·simp at hx;subst hx;exact he)
  simp only[c1,c2,k1]
  have k3:r2.2.2=(Iq (run (qe .i64) ((q.getD []).map GEv.er))).2.2:=by rw[←k2]
  rw[k3,cH,Gl]
  have uZ:yn (qe .i64) 0 ([],[mc]) ((l.getD []).map GEv.er)=.ok h:=by
   have:=hr
   unfold run at this
   rwa [if_neg (by rw[Gd];omega)]at this
  have bE:run (qe .i64) ((l.getD []).map GEv.er++List.map GEv.er [e])=match Go.W.accept (qe .i64) h (((l.getD []).length:Int)+1) e.er with
    | .error x=>.error (((l.getD []).length:Int)+1,x)
    | .ok h'=>.ok h':=by
   unfold run
   rw[if_neg (by rw[E9,Gd,Gd,En];omega),Md,uZ]
   simp only[Gx,Jf,yn,Gd,Nat.zero_add]
   rw[if_neg (fun h=>h hc)]
   cases Go.W.accept (qe .i64) h (((l.getD []).length:Int)+1) e.er<;>rfl
  rw[bE]
  cases Go.W.accept (qe .i64) h (((l.getD []).length:Int)+1) e.er with
  |error x=>rfl
  |ok h'=>rfl
end Go.Z
namespace Go.Z
open Go Go.Abs Go.W
theorem zI {f:Int→Option (Int⊕(Unit⊕Int))}{n}(hn:n≤SM)(cL:f (n:Int)=I (.inr (.inr (n:Int))))(h:∀i:Nat,i<n→f (i:Int)=I (.inl (qe .i64 ((i:Int)+1)))):∃d,bB f 0=I (.inr d):=
 ⟨_,jil n f cL fun i hi=>by rw[h i hi,yg (by unfold SM at hn;omega)]⟩
theorem zJ {α:Type}{l:List α}{i}(h:i<l.length):∃x,l[i]?=I x:=⟨_,Gt h⟩
theorem qzn {a b:aY}(h1:a.aB.getD []=b.aB.getD [])(h2:a.aA.getD []=b.aA.getD [])(l1:(a.aB.getD []).length≤SM)(l2:(a.aA.getD []).length≤SM):Et a b=I Gm:=by
 unfold Et
 obtain⟨d,hd⟩:=zI (f:=Bx a b) l1 (by unfold Bx;rw[z6];rfl) (fun i hi=>by
  obtain⟨x,hx⟩:=zJ hi
  unfold Bx
  simp only[yo hi,cond_true,ja hx,qa,ja (show(b.aB.getD [])[i]?=I x by rw[←h1];exact hx),decide_true,Gy])
 obtain⟨d',T7⟩:=zI (f:=Bz a b) l2 (by unfold Bz;rw[z6];rfl) (fun i hi=>by
  obtain⟨x,hx⟩:=zJ hi
  unfold Bz
  simp only[yo hi,cond_true,ja hx,qa,ja (show(b.aA.getD [])[i]?=I x by rw[←h2];exact hx),decide_true,Gy])
 rw[hd,T7,h1,h2]
 simp only[decide_true,cond_true,qa]
theorem T8 {α β γ:Type}{f:α→γ}{g:β→γ}{l:List α}{m:List β}(h:l.map f=m.map g){i:Nat}{x:α}(hx:l[i]?=I x):∃y,m[i]?=I y∧f x=g y:=by
 have h1:(l.map f)[i]?=I (f x):=by rw[Gf,hx];rfl
 rw[h,Gf]at h1
 cases hm:m[i]? with
 |none=>rw[hm]at h1;cases h1
 |some y=>rw[hm]at h1;exact⟨y,rfl,by simpa using h1.symm⟩
theorem T9 {α β γ:Type}{f:α→γ}{g:β→γ}{l:List α}{m:List β}(h:l.map f=m.map g):l.length=m.length:=by
 have:=congrArg List.length h
 simpa using this
theorem Ua {a b:aY}(h:a.er=b.er):a.aB.getD []=b.aB.getD []∧a.aA.getD []=b.aA.getD []:=⟨congrArg gi.aB h,congrArg gi.aA h⟩
theorem jf1 {a b:aC}(h:a.er=b.er)(l1:(a.aM.getD []).length≤BB)(l2:(a.dn.getD []).length≤BB)(rS:(a.dt.getD []).length≤BB)(oC:∀d∈a.aM.getD [],(d.aB.getD []).length≤BB∧(d.aA.getD []).length≤BB):f56 a b=I Gm:=by
 have e1:a.name=b.name:=congrArg cY.name h
 have e2:a.dn.getD []=b.dn.getD []:=congrArg (fun x=>(cY.bX x).aB) h
 have e3:a.dt.getD []=b.dt.getD []:=congrArg (fun x=>(cY.bX x).aA) h
 have e4:(a.aM.getD []).map aY.er=(b.aM.getD []).map aY.er:=congrArg cY.aM h
 have e5:=T9 e4
 unfold f56
 obtain⟨d,hd⟩:=zI (f:=BA a b) (jk l1) (by unfold BA;rw[z6];rfl) (fun i hi=>by
  obtain⟨x,hx⟩:=zJ hi
  obtain⟨y,hy,pS⟩:=T8 e4 hx
  have hl:=oC x (Ge hx)
  unfold BA
  simp only[yo hi,cond_true,ja hx,qa,ja hy,qzn (Ua pS).1 (Ua pS).2 (jk hl.1) (jk hl.2)])
 rw[hd,qzn (a:=⟨a.dn,a.dt⟩) (b:=⟨b.dn,b.dt⟩) e2 e3 (jk l2) (jk rS),e1,e5]
 simp only[decide_true,cond_true,qa]
theorem jlf {a b:bh}(h:a.er=b.er)(l1:(a.uses.getD []).length≤BB)(l2:(a.results.getD []).length≤BB):f57 a b=I Gm:=by
 have e1:a.name=b.name:=congrArg br.name h
 have e2:a.product=b.product:=congrArg br.product h
 have e3:a.version=b.version:=congrArg br.version h
 have e4:a.uses.getD []=b.uses.getD []:=congrArg br.uses h
 have e5:a.results.getD []=b.results.getD []:=congrArg br.results h
 have e6:a.partner=b.partner:=congrArg br.partner h
 have e7:a.aq=b.aq:=congrArg br.aq h
 have e8:a.ah=b.ah:=congrArg br.ah h
 unfold f57
 obtain⟨d,hd⟩:=zI (f:=BD a b) (jk l1) (by unfold BD;rw[z6];rfl) (fun i hi=>by
  obtain⟨x,hx⟩:=zJ hi
  unfold BD
  simp only[yo hi,cond_true,ja hx,qa,ja (show(b.uses.getD [])[i]?=I x by rw[←e4];exact hx),decide_true,Gy])
 obtain⟨d',T7⟩:=zI (f:=BE a b) (jk l2) (by unfold BE;rw[z6];rfl) (fun i hi=>by
  obtain⟨x,hx⟩:=zJ hi
  unfold BE
  simp only[yo hi,cond_true,ja hx,qa,ja (show(b.results.getD [])[i]?=I x by rw[←e5];exact hx),decide_true,Gy])
 rw[hd,T7,e1,e2,e3,e4,e5,e6,e7,e8]
 simp only[decide_true,cond_true,qa,beq_self_eq_true]
theorem q5i {a b:ar}(h:a.er=b.er)(g:GB a):f17 a b=I Gm:=by
 have e1:a.day=b.day:=congrArg bj.day h
 have e2:a.au.getD []=b.au.getD []:=congrArg bj.au h
 have e3:(a.ae.getD []).map aC.er=(b.ae.getD []).map aC.er:=congrArg bj.ae h
 have e4:(a.units.getD []).map bh.er=(b.units.getD []).map bh.er:=congrArg bj.units h
 have e5:=T9 e3
 have e6:=T9 e4
 unfold f17
 obtain⟨d0,h0⟩:=zI (f:=BF a b) (jk g.L) (by unfold BF;rw[z6];rfl) (fun i hi=>by
  obtain⟨x,hx⟩:=zJ hi
  unfold BF
  simp only[yo hi,cond_true,ja hx,qa,ja (show(b.au.getD [])[i]?=I x by rw[←e2];exact hx),decide_true,Gy])
 obtain⟨d1,h1⟩:=zI (f:=BG a b) (jk g.P) (by unfold BG;rw[z6];rfl) (fun i hi=>by
  obtain⟨x,hx⟩:=zJ hi
  obtain⟨y,hy,pS⟩:=T8 e3 hx
  obtain⟨k1,k2,k3,k4⟩:=g.D x (Ge hx)
  unfold BG
  simp only[yo hi,cond_true,ja hx,qa,ja hy,jf1 pS k1 k2 k3 k4])
 obtain⟨d2,h2⟩:=zI (f:=BH a b) (jk g.U) (by unfold BH;rw[z6];rfl) (fun i hi=>by
  obtain⟨x,hx⟩:=zJ hi
  obtain⟨y,hy,pS⟩:=T8 e4 hx
  obtain⟨k1,k2⟩:=g.N x (Ge hx)
  unfold BH
  simp only[yo hi,cond_true,ja hx,qa,ja hy,jlf pS k1 k2])
 rw[h0,h1,h2,e1,e2,e5,e6]
 simp only[decide_true,cond_true,qa]
theorem zK {α β γ:Type}{l:List α}(hl:l.length≤BB){f:Int×Option (List β)×Bool→Option ((Int×Option (List β)×Bool)⊕(Int×Option (List β)×Bool))}{g:α→Option β}{p:α→γ}{q:β→γ}(hg:∀x∈l,∃y,g x=I y∧q y=p x)
  (hf:∀s,f s=cond (decide (s.1<(l.length:Int))) (qa (qq l s.1) fun x=>qa (g x) fun y=>cond s.2.2 (qa (bq s.2.1 [y]) fun v=>I (.inl (qe .i64 (s.1+1),v,Gm))) (cond s.2.1.isNone (qa (bq s.2.1 [y]) fun v=>I (.inl (qe .i64 (s.1+1),v,Gm))) Gv)) (I (.inr (s.1,s.2.1,s.2.2)))):
  ∃d,bB f (0,Gv,G4)=I d∧(d.2.1.getD []).map q=l.map p:=by
 have key:∀(m:List α) (i:Nat) (a:List β),l.drop i=m→i≤l.length→a.length=i→∃d,bB f ((i:Int),jx a,gw a)=I d∧(d.2.1.getD []).map q=a.map q++m.map p:=by
  intro m
  induction m with
  |nil=>
   intro i a hm hi ha
   have he:i=l.length:=by
    have:=G2.1 hm;omega
   subst he
   refine⟨((l.length:Int),jx a,gw a),ku ?_,by simp only[zw,Jf,List.append_nil]⟩
   rw[hf,z6];rfl
  |cons x m ih=>
   intro i a hm hi ha
   have hx:l[i]?=I x:=by
    have:=congrArg Jc hm
    rwa [H9]at this
   have bz:i<l.length:=(Gj.1 hx).1
   have zB:l.drop (i+1)=m:=by rw[rJ hx]at hm;exact(Jd.inj hm).2
   obtain⟨y,hy,hyq⟩:=hg x (Ge hx)
   obtain⟨d,d1,d2⟩:=ih (i+1) (a++[y]) zB bz (by rw[E9,ha];rfl)
   refine⟨d,?_,?_⟩
   ·rw[oQ (s':=(((i+1:Nat):Int),jx (a++[y]),gw (a++[y])))]
    ·exact d1
    ·rw[hf]
     simp only[yo bz,cond_true,ja hx,qa,hy]
     rw[show(qe .i64 ((i:Int)+1))=((i+1:Nat):Int)from L7 (by omega)]
     have:=wA (a:=a) (x:=y) (k:=fun v=>I (Sum.inl (((i+1:Nat):Int),v,Gm):(Int×Option (List β)×Bool)⊕(Int×Option (List β)×Bool))) (by unfold BB at hl;omega)
     rw[show gw (a++[y])=Gm by cases a<;>rfl]
     exact this
   ·rw[d2,Gl,List.append_assoc,Gx,Gx,hyq];rfl
 obtain⟨d,d1,d2⟩:=key l 0 [] rfl (G7 _) rfl
 exact⟨d,d1,d2⟩
theorem q7w {a:aY}(l1:(a.aB.getD []).length≤BB)(l2:(a.aA.getD []).length≤BB):∃r,BI a=I r∧r.er=a.er:=by
 obtain⟨d,d1,d2⟩:=zK (l:=a.aB.getD []) l1 (f:=Ir a) (g:=some) (p:=id) (q:=id) (fun x _=>⟨x,rfl,rfl⟩) (fun s=>rfl)
 obtain⟨d',d3,d4⟩:=zK (l:=a.aA.getD []) l2 (f:=Iu a d) (g:=some) (p:=id) (q:=id) (fun x _=>⟨x,rfl,rfl⟩) (fun s=>rfl)
 refine⟨⟨d.2.1,d'.2.1⟩,?_,?_⟩
 ·unfold BI
  rw[d1];simp only[qa,d3]
 ·show gi.mk _ _=gi.mk _ _
  rw[Gz,Gz]at d2 d4
  rw[d2,d4]
theorem jvg {a:aC}(l1:(a.aM.getD []).length≤BB)(l2:(a.dn.getD []).length≤BB)(rS:(a.dt.getD []).length≤BB)(oC:∀d∈a.aM.getD [],(d.aB.getD []).length≤BB∧(d.aA.getD []).length≤BB):∃r,f58 a=I r∧r.er=a.er:=by
 obtain⟨v,v1,v2⟩:=q7w (a:=⟨a.dn,a.dt⟩) l2 rS
 obtain⟨d,d1,d2⟩:=zK (l:=a.aM.getD []) l1 (f:=Iw a v) (g:=BI) (p:=aY.er) (q:=aY.er) (fun x hx=>q7w (oC x hx).1 (oC x hx).2) (fun s=>rfl)
 refine⟨⟨a.name,v.aB,v.aA,d.2.1⟩,?_,?_⟩
 ·unfold f58
  rw[v1];simp only[qa,d1]
 ·have e:=Ua v2
  show cY.mk _ _ _=cY.mk _ _ _
  rw[d2]
  show cY.mk _ ⟨v.aB.getD [],v.aA.getD []⟩ _=_
  rw[e.1,e.2]
theorem jql {a:bh}(l1:(a.uses.getD []).length≤BB)(l2:(a.results.getD []).length≤BB):∃r,f59 a=I r∧r.er=a.er:=by
 obtain⟨d,d1,d2⟩:=zK (l:=a.uses.getD []) l1 (f:=Ix a) (g:=some) (p:=id) (q:=id) (fun x _=>⟨x,rfl,rfl⟩) (fun s=>rfl)
 obtain⟨d',d3,d4⟩:=zK (l:=a.results.getD []) l2 (f:=Iy a d) (g:=some) (p:=id) (q:=id) (fun x _=>⟨x,rfl,rfl⟩) (fun s=>rfl)
 refine⟨⟨a.name,a.product,a.version,d.2.1,d'.2.1,a.partner,a.aq,a.ah⟩,?_,?_⟩
 ·unfold f59
  rw[d1];simp only[qa,d3]
 ·show br.mk _ _ _ _ _ _ _ _=br.mk _ _ _ _ _ _ _ _
  rw[Gz,Gz]at d2 d4
  rw[d2,d4]
theorem Ub {a:ar}(g:GB a):∃r,f18 a=I r∧r.er=a.er:=by
 obtain⟨d,d1,d2⟩:=zK (l:=a.au.getD []) g.L (f:=Iz a) (g:=some) (p:=id) (q:=id) (fun x _=>⟨x,rfl,rfl⟩) (fun s=>rfl)
 obtain⟨d',d3,d4⟩:=zK (l:=a.ae.getD []) g.P (f:=IA a d) (g:=f58) (p:=aC.er) (q:=aC.er) (fun x hx=>jvg (g.D x hx).1 (g.D x hx).2.1 (g.D x hx).2.2.1 (g.D x hx).2.2.2) (fun s=>rfl)
 obtain⟨d'',d5,d6⟩:=zK (l:=a.units.getD []) g.U (f:=IB a d d') (g:=f59) (p:=bh.er) (q:=bh.er) (fun x hx=>jql (g.N x hx).1 (g.N x hx).2) (fun s=>rfl)
 refine⟨⟨a.day,d.2.1,d'.2.1,d''.2.1⟩,?_,?_⟩
 ·unfold f18
  rw[d1];simp only[qa,d3,d5]
 ·show bj.mk _ _ _ _=bj.mk _ _ _ _
  rw[Gz,Gz]at d2
  rw[d2,d4,d6]
theorem jdz {l n}(hn:n≤1000):∃b,f12 l (n:Int)=I b∧(b=Gm→(l.getD []).length≤n∧∀e∈l.getD [],iJ e):=by
 unfold f12
 by_cases h:n<(l.getD []).length
 ·rw[decide_eq_true (by omega)]
  exact⟨G4,rfl,fun h=>by cases h⟩
 ·rw[decide_eq_false (by omega),cond_false]
  rcases Uc (l.getD []) (BJ l) (fun _ e=>iJ e) (by unfold BJ;rw[z6];rfl) (fun i x hx=>by
   have hi:i<(l.getD []).length:=(Gj.1 hx).1
   unfold BJ
   simp only[yo hi,cond_true,ja hx,qa]
   by_cases h1:40<(x.kind.length:Int)
   ·rw[decide_eq_true h1];exact .inr ⟨_,rfl⟩
   rw[decide_eq_false h1,cond_false]
   by_cases h2:6<((x.names.getD []).length:Int)
   ·rw[decide_eq_true h2];exact .inr ⟨_,rfl⟩
   rw[decide_eq_false h2,cond_false]
   by_cases h3:8<((x.values.getD []).length:Int)
   ·rw[decide_eq_true h3];exact .inr ⟨_,rfl⟩
   rw[decide_eq_false h3,cond_false]
   by_cases h4:200<(x.text.length:Int)
   ·rw[decide_eq_true h4];exact .inr ⟨_,rfl⟩
   rw[decide_eq_false h4,cond_false]
   have hb:iJ x:=⟨by unfold SM;omega,by unfold SM;omega⟩
   rcases Uc (x.names.getD []) (BK l (i:Int)) (fun _ _=>True) (by unfold BK;simp only[ja hx,qa];rw[z6];rfl) (fun j y hy=>by
    have hj:j<(x.names.getD []).length:=(Gj.1 hy).1
    unfold BK
    simp only[ja hx,qa,yo hj,cond_true,ja hy]
    by_cases h5:40<(y.length:Int)
    ·rw[decide_eq_true h5];exact .inr ⟨_,rfl⟩
    rw[decide_eq_false h5,cond_false,yg (by omega)]
    exact .inl ⟨rfl,trivial⟩)with⟨e,he⟩|⟨he,_⟩
   ·rw[he];exact .inr ⟨_,rfl⟩
   ·rw[he]
    refine .inl ⟨?_,hb⟩
    simp only[]
    rw[yg (by omega)])with⟨e,he⟩|⟨he,hall⟩
  ·rw[he]
   exact⟨G4,rfl,fun h=>by cases h⟩
  ·rw[he]
   refine⟨Gm,rfl,fun _=>⟨by omega,fun e hm=>?_⟩⟩
   obtain⟨i,hi⟩:=List.getElem?_of_mem hm
   exact hall i e hi
theorem ob {α β:Type}{x:α}{f:α→Option β}:qa (I x) f=f x:=rfl
end Go.Z
namespace Go.Z
open Go Go.Abs Go.W
theorem jdq:∀ x∈cQ,x.1=y8∨0<x.2.2:=by decide
theorem j3h {e}(hc:jn e=0)(hu:e.kind≠y8):∃v t,e.values=v::t:=by
 obtain⟨_,f,h1,_,h3⟩:=Ic hc
 have hm:(e.kind,f.1,f.2)∈cQ:=by
  unfold ye at h1
  cases hf:cQ.find? (fun x=>decide (x.1=e.kind))with
  |none=>rw[hf]at h1;cases h1
  |some x=>
   rw[hf]at h1
   cases h1
   have:=List.find?_some hf
   rw[←of_decide_eq_true this]
   exact List.mem_of_find?_eq_some hf
 rcases jdq _ hm with h|h
 ·exact absurd h hu
 ·cases hv:e.values with
  |cons v t=>exact⟨v,t,rfl⟩
  |nil=>rw[hv]at h3;simp at h3;have h:0<f.2:=h;omega
theorem jn5 {e:GEv}(hc:jn e.er=0)(hu:e.er.kind≠y8):qq (e.values.getD []) 0=I (vl e.er 0):=by
 obtain⟨v,t,hv⟩:=j3h hc hu
 have hv:e.values.getD []=v::t:=hv
 rw[gM hv,Tx hv]
end Go.Z
namespace Go.Z
open Go Go.Abs Go.W
structure lh (l:Option (List GEv))(h:yv):Prop where
 hb:∀e∈l.getD [],iJ e
 hr:run (qe .i64) ((l.getD []).map GEv.er)=.ok h
theorem lh.ok {l h}(j:lh l h):eL (qe .i64) h:=jvu j.hr
theorem lh.sb {l h}(j:lh l h):SB h.1.length (now h)∧h.1.length≤BB:=by
 obtain⟨d,d1,d2⟩:=T4 j.hb
 rw[j.hr]at d2
 obtain⟨s,q,rfl,k1,k2,k3,k4,k5⟩:=d2
 exact⟨k4 _ _ k3.now,by unfold BB;omega⟩
theorem lh.gb {l h}(j:lh l h){g:ar}(he:g.er=now h):GB g:=SB.gb (by rw[he];exact j.sb.1) j.sb.2
theorem lh.wf {l h}(j:lh l h):WF (now h):=j.ok.rQ
theorem lh.Me {l h}(j:lh l h):iC (now h):=j.ok.BL
theorem lh.ct {l h}(j:lh l h):∃g,f16 l=I (g,0,0)∧g.er=now h∧GB g:=by
 obtain⟨⟨g,i,bad⟩,p1,p2⟩:=jeo j.hb
 rw[j.hr]at p2
 have h1:g.er=now h:=congrArg Prod.fst p2
 have h2:i=0:=congrArg (fun x=>x.2.1) p2
 have h3:bad=0:=congrArg (fun x=>x.2.2) p2
 subst h2 h3
 exact⟨g,p1,h1,j.gb h1⟩
theorem lh.take {l:List GEv}{h}(j:lh (I l) h)(m:Nat)(hm:m≤l.length):∃q,lh (I (l.take m)) q:=by
 have hr:=j.hr
 simp only[Gn]at hr
 rw[←List.take_append_drop m l,Gl]at hr
 obtain⟨q,q1,_⟩:=jbw hr
 exact⟨q,fun e he=>j.hb e (List.mem_of_mem_take he),q1⟩
end Go.Z
namespace Go.Z
open Go Go.Abs Go.W
theorem jwb {l n}(hn:n≤1000):∃b,f11 l (n:Int)=I b∧(b=Gm→(l.getD []).length≤n∧∃h,lh l h):=by
 obtain⟨b1,h1,k1⟩:=jdz (l:=l) hn
 unfold f11
 rw[h1,ob]
 cases b1 with
 |false=>exact⟨G4,rfl,fun h=>by cases h⟩
 |true=>
  obtain⟨l1,hb⟩:=k1 rfl
  obtain⟨⟨g,i,bad⟩,p1,p2⟩:=T5 hb
  rw[p1,cond_true,ob]
  refine⟨_,rfl,fun h=>⟨l1,?_⟩⟩
  have h:bad=0:=by simpa using h
  subst h
  cases hr:run (qe .i64) ((l.getD []).map GEv.er)with
  |ok q=>exact⟨q,hb,hr⟩
  |error x=>
   exfalso
   rw[hr]at p2
   obtain⟨d,d1,d2⟩:=T0 hb
   rw[hr]at d2
   exact d2.2 (congrArg (fun x=>x.2.2) p2).symm
end Go.Z
