/- Chapter 10, plain. -/
import Derived.Test.YtlhfdilpecnjeaaGreatDoorEA
import Derived.Test.YtlhfdilpecnjeaaGreatDoorV9
set_option linter.unusedVariables false
set_option linter.unusedSimpArgs false
set_option maxRecDepth 100000
set_option maxHeartbeats 4000000
noncomputable section
open List renaming length_singleton->En,length_append->Ha,length_map->Hc,length_take->H2,mem_of_getElem?->H3,getElem?_map->H4,getElem?_eq_some_iff->H8,length_set->Ia,getElem?_eq_getElem->Ib,dropLast_eq_take->Ic,eq_nil_of_length_eq_zero->Ig,map_append->Ij,mem_map_of_mem->Ik,getLast?_eq_getElem?->Iq,mem_append->Iw,take_of_length_le->Ix,drop_eq_nil_iff->I1,map_dropLast->I2,not_mem_nil->I3,head?_drop->I5,map_cons->I6,map_take->I7
open Option renaming some->E6,getD_some->If,none->Il
open Nat renaming le_trans->Hb,le_refl->H9,zero_le->Iy
open Bool renaming false->Io,true->Ip
namespace Go.Z
open Go Go.Abs Go.W
structure SB (n:Nat)(r:yc):Prop where
 L:r.az.length<=n
 P:r.ah.length<=n
 U:r.units.length<=n
 D:∀p∈r.ah,p.bm.length<=n/\p.bW.bd.length<=n/\p.bW.aS.length<=n/\∀d∈p.bm,d.bd.length<=n/\d.aS.length<=n
 N:∀u∈r.units,u.uses.length<=n/\u.results.length<=n
theorem SB.mono {n m r}(h:SB n r)(hm:n<=m):SB m r:=
 ⟨Hb h.L hm,Hb h.P hm,Hb h.U hm,fun p hp=>⟨Hb (h.D p hp).1 hm,Hb (h.D p hp).2.1 hm,Hb (h.D p hp).2.2.1 hm,fun d hd=>⟨Hb ((h.D p hp).2.2.2 d hd).1 hm,Hb ((h.D p hp).2.2.2 d hd).2 hm⟩⟩,fun u hu=>⟨Hb (h.N u hu).1 hm,Hb (h.N u hu).2 hm⟩⟩
theorem SB.empty:SB 0 mE:=⟨H9 _,H9 _,H9 _,fun p (hp:p∈([]:List wP))=>absurd hp I3,fun u (hu:u∈([]:List lj))=>absurd hu I3⟩
theorem SB.gb {n r}(h:SB n r.er)(hn:n<=BB):GB r:=by
 refine⟨Hb h.L hn,?_,?_,fun p hp=>?_,fun u hu=>?_⟩
 .have:=h.P;rw[yL,Hc]at this;exact Hb this hn
 .have:=h.U;rw[wS,Hc]at this;exact Hb this hn
 .obtain⟨Y,I,h3,h4⟩:=h.D p.er (by rw[yL];exact Ik hp)
  have zG:(p.bm.getD []).length<=n:=by
   have:((p.bm.getD []).map cg.er).length<=n:=Y;rwa [Hc]at this
  refine⟨Hb zG hn,Hb I hn,Hb h3 hn,fun d hd=>?_⟩;obtain⟨h5,h6⟩:=h4 d.er (Ik hd);exact⟨Hb h5 hn,Hb h6 hn⟩
 .obtain⟨Y,I⟩:=h.N u.er (by rw[wS];exact Ik hu);exact⟨Hb Y hn,Hb I hn⟩
theorem SB.bI {n r}(h:SB n r){i p}(hp:p.bm.length<=n/\p.bW.bd.length<=n/\p.bW.aS.length<=n/\∀d∈p.bm,d.bd.length<=n/\d.aS.length<=n):SB n (bI r i p):=
 ⟨h.L,by show(r.ah.set i p).length<=n;rw[Ia];exact h.P,h.U,fun q hq=>by
  rcases tw hq with hq|rfl
  ·exact h.D q hq
  ·exact hp,h.N⟩
theorem SB.aH {n r}(h:SB n r){i u}(hu:u.uses.length<=n/\u.results.length<=n):SB n (aH r i u):=
 ⟨h.L,h.P,by show(r.units.set i u).length<=n;rw[Ia];exact h.U,h.D,fun q hq=>by
  rcases tw hq with hq|rfl
  ·exact h.N q hq
  ·exact hu⟩
theorem SB.cy {n r}(h:SB n r){i x}:SB n (cy r i x):=
 ⟨by show(r.az.set i x).length<=n;rw[Ia];exact h.L,h.P,h.U,h.D,h.N⟩
theorem q4n {α:Type}{p:α->Bool}{x l n}(h:l.length<=n):(ki p x l).length<=n+1:=by
 unfold ki;split
 .rw[Ia];omega
 .rw[Ha,En];omega
theorem jeu {w l k x n}(h:l.length<=n):(oi w l k x).length<=n+1:=by
 unfold oi;split
 .split
  .rw[Ia];omega
  .omega
 .rw[Ha,En];omega
theorem joz {w:Int->Int}{n:Nat}{r r' e}(h:SB n r)(ha:apply w r e=.ok r'):SB (n+1) r':=by
 have h':=h.mono (Nat.le_succ n);unfold apply at ha;split at ha
 .unfold pn at ha;split at ha
  .repeat' split at ha
   all_goals first|(cases ha;done)|skip
   cases ha;exact⟨by show(r.az++[_]).length<=_;rw[Ha,En];have:=h.L;omega,h'.P,h'.U,h'.D,h'.N⟩
  split at ha
  .repeat' split at ha
   all_goals first|(cases ha;done)|skip
   cases ha;refine⟨h'.L,by show(r.ah++[_]).length<=_;rw[Ha,En];have:=h.P;omega,h'.U,fun p hp=>?_,h'.N⟩;rcases Iw.1 hp with hp|hp
   .exact h'.D p hp
   .simp at hp;subst hp;simp
  .split at ha
   .cases ha
   repeat' split at ha
   all_goals first|(cases ha;done)|skip
   cases ha;refine⟨h'.L,h'.P,by show(r.units++[_]).length<=_;rw[Ha,En];have:=h.U;omega,h'.D,fun p hp=>?_⟩;rcases Iw.1 hp with hp|hp
   .exact h'.N p hp
   .simp at hp;subst hp;simp
 split at ha
 .unfold po at ha;split at ha
  .cases ha
  split at ha
  .cases ha
  rename_i p hp;have hD:=h.D p (H3 hp);have pu:=h'.D p (H3 hp)
  repeat' split at ha
  all_goals first|(cases ha;done)|skip
  .cases ha;refine h'.bI ⟨pu.1,?_,pu.2.2.1,pu.2.2.2⟩;show(kE p.bW.bd _ _).length<=_;unfold kE;split
   .exact Hb (List.length_filter_le _ _) pu.2.1
   .exact q4n hD.2.1
  .cases ha;exact h'.bI ⟨pu.1,pu.2.1,q4n hD.2.2.1,pu.2.2.2⟩
  .cases ha;refine h'.bI ⟨by show(p.bm++[_]).length<=_;rw[Ha,En];have:=hD.1;omega,pu.2.1,pu.2.2.1,fun d hd=>?_⟩;rcases Iw.1 hd with hd|hd
   .exact pu.2.2.2 d hd
   .simp at hd;subst hd;exact⟨pu.2.1,pu.2.2.1⟩
 split at ha
 .unfold vr at ha;split at ha
  .cases ha
  split at ha
  .cases ha
  repeat' split at ha
  all_goals first|(cases ha;done)|skip
  all_goals (cases ha;exact h'.cy)
 .unfold pq at ha;split at ha
  .cases ha
  split at ha
  .cases ha
  rename_i u hu;have hN:=h.N u (H3 hu);have rO:=h'.N u (H3 hu);split at ha
  .unfold wY at ha;split at ha
   .cases ha
   split at ha
   .cases ha
   repeat' split at ha
   all_goals first|(cases ha;done)|skip
   cases ha;exact h'.cy.aH ⟨jeu hN.1,rO.2⟩
  split at ha
  .unfold wZ at ha;split at ha
   .cases ha
   split at ha
   .cases ha
   rename_i v hv;have hV':=h'.N v (H3 hv)
   repeat' split at ha
   all_goals first|(cases ha;done)|skip
   cases ha;exact(h'.aH (u:={ u with partner:=v.name }) ⟨rO.1,rO.2⟩).aH (u:={ v with partner:=u.name }) ⟨hV'.1,hV'.2⟩
  split at ha
  .repeat' split at ha
   all_goals first|(cases ha;done)|skip
   cases ha;exact h'.aH ⟨rO.1,by show(u.results++[_]).length<=_;rw[Ha,En];have:=hN.2;omega⟩
  split at ha
  .split at ha
   .cases ha
   split at ha
   .cases ha
   split at ha
   .cases ha
   .cases ha;exact h'.aH ⟨rO.1,rO.2⟩
  split at ha
  .split at ha
   .cases ha
   .cases ha;exact h'.aH ⟨rO.1,rO.2⟩
  .split at ha
   .cases ha
   .cases ha;exact h'.aH ⟨rO.1,rO.2⟩
theorem jlm {w n r r' e}(h:SB n r)(ha:after w r e=.ok r'):SB (n+1) r':=by
 unfold after at ha;split at ha
 .cases ha
 split at ha
 .cases ha
 rename_i r1 Y;cases ha;have:=joz h Y;exact⟨this.L,this.P,this.U,this.D,this.N⟩
def HB (h:yj):Prop:=∀(j:Nat) (r:yc),h.2[j]?=E6 r->SB j r
theorem HB.empty:HB ([],[mE]):=by
 intro j r Q
 cases j with
 |zero=>simp at Q;subst Q;exact SB.empty|succ j=>simp at Q
theorem HB.accept {w h h' k e}(o:iD w h)(b:HB h)(ha:Go.W.accept w h k e=.ok h'):HB h':=by
 unfold Go.W.accept at ha;split at ha
 .cases ha
 split at ha
 .split at ha
  .cases ha
  split at ha
  .cases ha
  .cases ha;intro j r Q;simp only[List.getElem?_dropLast]at Q;split at Q
   .exact b j r Q
   .cases Q
 .split at ha
  .cases ha
  .rename_i r' Y;cases ha;intro j r Q;have hn:=o.now;have hlen:=o.len;simp only at Q;by_cases hj:j<h.2.length
   .rw[List.getElem?_append_left hj]at Q;exact b j r Q
   .rw[List.getElem?_append_right (by omega)]at Q
    have hj2:j=h.1.length+1:=by
     cases hd:j-h.2.length with
     |zero=>omega|succ d=>rw[hd]at Q;simp at Q
    subst hj2;rw[hlen,Nat.sub_self]at Q;simp at Q;subst Q;exact jlm (b _ _ hn) Y
end Go.Z
namespace Go.Z
open Go Go.Abs Go.W
def tz (n:Nat)(h:yj):Option HV->Prop
 |none=>h=([],[mE])/\n=0|some v=>v.lc<=v.cs.length/\v.ls<=v.ss.length/\h.1=(v.cs.take v.lc).map GEv.er/\h.2=(v.ss.take v.ls).map aw.er/\v.ev.length=n/\v.lc<=n
def Ws (n:Nat)(h:yj)(c:Int)(s:Option HV):Except Int yj->Prop
 | .error x=>c=x/\x≠0/\tz n h s| .ok h'=>c=0/\tz (n+1) h' s
theorem Wt {α:Type}{xs:List α}{len x}(Y:len<=xs.length)(I:len<=BB):qC xs len x=E6 (xs.take len++[x]):=by
 unfold qC;rw[if_pos ⟨Y,by unfold BB at I;omega⟩]
theorem Wu {n}(h:n<=BB):qd .i64 ((n:Int)+1)=((n+1:Nat):Int):=zd (by unfold BB at h;omega)
theorem OL {n}(h:n<=BB)(h0:0<n):qd .i64 ((n:Int)-1)=((n-1:Nat):Int):=by
 obtain⟨m,rfl⟩:∃m,n=m+1:=⟨n-1,by omega⟩;have:=q4c (i:=m) (by unfold BB at h;omega);rw[this];rfl
theorem qwp {α:Type}{l:List α}{k}(h:k<=l.length):(l.take k).dropLast=l.take (k-1):=by
 rw[Ic,H2,List.take_take]
 congr 1;omega
theorem vA {a b}:f35 (E6 [a,b])=E6 (fW [a,b]):=jD (by simp[SM])
theorem jmh {e}(hc:qz e.er=0):∃c s',B2 e=E6 (c,s')/\Ws 0 ([],[mE]) c s' (Go.W.accept (qd .i64) ([],[mE]) (0+1) e.er):=by
 unfold B2 Go.W.accept;rw[show qd .i64 1=1 from rfl,show e.er.number=e.number from rfl,show e.er.kind=e.kind from rfl,show((0:Int)+1)=1 from rfl];by_cases Y:e.number=1
 .rw[decide_eq_true Y,if_neg (fun h=>h Y)];simp only[cond_true];by_cases I:e.kind=oh
  .rw[show decide (e.kind=([117,110,100,111]:aj))=Ip from decide_eq_true I,if_pos I];simp only[cond_true,yn,qa,vA];exact⟨_,_,rfl,rfl,by decide,rfl,rfl⟩
  .rw[show decide (e.kind=([117,110,100,111]:aj))=Io from decide_eq_false I,if_neg I];have hw:WF dY.er:=WF.empty 0;obtain⟨r',c,g1,g2⟩:=jb1 (r:=dY) (SB.empty.gb (r:=dY) (Iy _)) hw hc I;simp only[cond_false,g1,qa];rw[show now ([],[mE])=dY.er from rfl]
   cases ha:after (qd .i64) dY.er e.er with
   |error k=>
    rw[ha]at g2;obtain⟨rfl,g3⟩:=g2;rw[decide_eq_false g3];exact⟨_,_,rfl,rfl,g3,rfl,rfl⟩
   |ok s=>
    rw[ha]at g2;obtain⟨rfl,rfl⟩:=g2;exact⟨_,_,rfl,rfl,H9 _,H9 _,rfl,rfl,rfl,H9 _⟩
 .rw[decide_eq_false Y,if_pos Y];exact⟨_,_,rfl,rfl,by decide,rfl,rfl⟩
theorem js9 {v:HV}{n:Nat}{h e}(Q:tz n h (E6 v))(o:iD (qd .i64) h)(b:HB h)(hn:n<BB)(hc:qz e.er=0):∃c s',tA (E6 v) e=E6 (c,s')/\Ws n h c s' (Go.W.accept (qd .i64) h ((n:Int)+1) e.er):=by
 obtain⟨r1,r2,r3,r4,r5,r6⟩:=Q
 have dQ:h.1.length=v.lc:=by rw[r3,Hc,H2];omega
 have dW:h.2.length=v.ls:=by rw[r4,Hc,H2];omega
 have OM:v.ls=v.lc+1:=by rw[<-dQ,<-dW];exact o.len
 have eR:qC v.ev v.ev.length e=E6 (v.ev++[e]):=by rw[Wt (H9 _) (by omega),List.take_length]
 show ∃c s',(qa (B3 v e) fun q=>E6 (q.1,E6 q.2))=E6 (c,s')/\_;unfold B3 Go.W.accept;rw[show e.er.number=e.number from rfl,show e.er.kind=e.kind from rfl,r5,Wu (by omega)];by_cases Y:e.number=((n+1:Nat):Int)
 case neg=>
  rw[decide_eq_false Y,if_pos (show e.number≠(n:Int)+1 from Y)];exact⟨_,_,rfl,rfl,by decide,r1,r2,r3,r4,r5,r6⟩
 rw[decide_eq_true Y,if_neg (show ¬e.number≠(n:Int)+1 from fun hh=>hh Y)];simp only[cond_true];by_cases I:e.kind=oh
 .rw[show decide (e.kind=([117,110,100,111]:aj))=Ip from decide_eq_true I,if_pos I];simp only[cond_true,yn,qa];by_cases h3:v.lc=0
  .have h4:h.1=[]:=Ig (by rw[dQ,h3]);rw[h4];simp only[h3,show decide (((0:Nat):Int)=0)=Ip from rfl,show decide ((0:Int)<((0:Nat):Int))=Io from rfl,cond_false,vA];exact⟨_,_,rfl,rfl,by decide,r1,r2,r3,r4,r5,r6⟩
  .have iw:0<v.lc:=by omega
   rw[decide_eq_false (show ¬(v.lc:Int)=0 by omega),decide_eq_true (show(0:Int)<(v.lc:Int) by omega),OL (by omega) iw];obtain⟨x,M⟩:∃x,(v.cs.take v.lc)[v.lc-1]?=E6 x:=⟨_,Ib (by rw[H2];omega)⟩
   have nw:max 0 ((v.lc-1:Nat):Int)=((v.lc-1:Nat):Int):=by omega
   have tB:h.1.getLast?=E6 x.er:=by
    rw[Iq,dQ,r3,H4,M];rfl
   rw[nw,tB];simp only[cond_true,q9 M,vA];by_cases h5:x.kind=lP
   .rw[if_pos (show x.er.kind=lP from h5),show decide (x.kind=([115,104,105,112]:aj))=Ip from decide_eq_true h5];exact⟨_,_,rfl,rfl,by decide,r1,r2,r3,r4,r5,r6⟩
   .rw[if_neg (show ¬x.er.kind=lP from h5),show decide (x.kind=([115,104,105,112]:aj))=Io from decide_eq_false h5];rw[r5]at eR;simp only[Bool.false_eq_true,if_false,show decide (fW [0,0]=0)=Ip from rfl,cond_true];rw[decide_eq_true (show(0:Int)<=((v.lc-1:Nat):Int)/\((v.lc-1:Nat):Int)<=(v.lc:Int)/\v.lc<=v.ls by omega)];simp only[cond_true,eR];have Wv:((v.lc-1:Nat):Int).toNat=v.lc-1:=Int.toNat_natCast _;refine⟨_,_,rfl,rfl,by show((v.lc-1:Nat):Int).toNat<=v.cs.length;rw[Wv];omega,by show v.lc<=v.ss.length;omega,?_,?_,by show(v.ev++[e]).length=_;rw[Ha,r5];rfl,by show((v.lc-1:Nat):Int).toNat<=n+1;rw[Wv];omega⟩
    .show h.1.dropLast=(v.cs.take ((v.lc-1:Nat):Int).toNat).map GEv.er;rw[Wv,r3,<-I2,qwp r1]
    .show h.2.dropLast=(v.ss.take v.lc).map aw.er;rw[r4,<-I2,qwp r2,OM];rfl
 .rw[show decide (e.kind=([117,110,100,111]:aj))=Io from decide_eq_false I,if_neg I];have dD:=o.now;rw[dQ,r4,H4]at dD
  cases Q:(v.ss.take v.ls)[v.lc]? with
  |none=>rw[Q]at dD;cases dD
  |some r=>
   rw[Q]at dD
   have wv:r.er=now h:=by simpa using dD
   have B4:SB v.lc r.er:=b v.lc r.er (by rw[r4,H4,Q];rfl)
   have hwf:WF r.er:=by rw[wv];exact o.tC
   obtain⟨r',c,g1,g2⟩:=jb1 (B4.gb (by omega)) hwf hc I
   have hi:qd .i64 ((v.ls:Int)-1)=(v.lc:Int):=by rw[OL (by omega) (by omega),OM];rfl
   rw[hi];simp only[cond_false,q9 Q,g1,qa];rw[wv]at g2
   cases ha:after (qd .i64) (now h) e.er with
   |error k=>
    rw[ha]at g2;obtain⟨rfl,g3⟩:=g2;rw[decide_eq_false g3];exact⟨_,_,rfl,rfl,g3,r1,r2,r3,r4,r5,r6⟩
   |ok s=>
    rw[ha]at g2;obtain⟨rfl,rfl⟩:=g2;rw[r5]at eR;rw[Wt r1 (by omega),Wt r2 (by omega)];simp only[eR,show decide ((0:Int)=0)=Ip from rfl,cond_true];refine⟨_,_,rfl,rfl,?_,?_,?_,?_,by show(v.ev++[e]).length=_;rw[Ha,r5];rfl,by show v.lc+1<=n+1;omega⟩
    .show v.lc+1<=(v.cs.take v.lc++[e]).length;rw[Ha,H2,En];omega
    .show v.ls+1<=(v.ss.take v.ls++[r']).length;rw[Ha,H2,En];omega
    .show h.1++[e.er]=((v.cs.take v.lc++[e]).take (v.lc+1)).map GEv.er;rw[Ix (by rw[Ha,H2,En];omega),Ij,r3];rfl
    .show h.2++[r'.er]=((v.ss.take v.ls++[r']).take (v.ls+1)).map aw.er;rw[Ix (by rw[Ha,H2,En];omega),Ij,r4];rfl
theorem jb0 {s n h e}(Q:tz n h s)(o:iD (qd .i64) h)(b:HB h)(hn:n<BB)(hc:qz e.er=0):∃c s',tA s e=E6 (c,s')/\Ws n h c s' (Go.W.accept (qd .i64) h ((n:Int)+1) e.er):=by
 cases s with
 |some v=>exact js9 Q o b hn hc
 |none=>
  obtain⟨rfl,rfl⟩:=Q;exact jmh hc
end Go.Z
namespace Go.Z
open Go Go.Abs Go.W
def jE (e:GEv):Prop:=(e.names.getD []).length<=SM/\(e.values.getD []).length<=SM
theorem jje {α:Type}{o:Option (List α)}(h:(o.getD []).length<=SM):∃q b,(cond o.isNone (E6 (Il,Io)) (qa (bC (E6 []) (o.getD [])) fun v2=>E6 (v2,Ip)):Option (Option (List α)×Bool))=E6 (q,b)/\q.getD []=o.getD []:=by
 cases o with
 |none=>exact⟨Il,Io,rfl,rfl⟩
 |some l=>
  have:bC (E6 []) l=E6 (E6 l):=by
   unfold bC;simp only[If,List.nil_append];rw[if_pos (by simpa using h)];rfl
  exact⟨E6 l,Ip,by simp only[Option.isNone_some,cond_false,If,this,qa],rfl⟩
theorem jgx {e:GEv}(h:jE e):∃e',f46 e=E6 e'/\e'.er=e.er/\jE e':=by
 obtain⟨q1,b1,Y,k1⟩:=jje (o:=e.names) h.1;obtain⟨q2,b2,I,k2⟩:=jje (o:=e.values) h.2;refine⟨⟨e.number,e.kind,q1,q2,e.text⟩,?_,?_,?_⟩
 .unfold f46;rw[show f120 e.names=E6 (q1,b1)from Y,show f131 e.values=E6 (q2,b2)from I];cases b1<;>cases b2<;>rfl
 .show cf.mk _ _ _ _ _=cf.mk _ _ _ _ _;simp only[k1,k2]
 .exact⟨by show(q1.getD []).length<=_;rw[k1];exact h.1,by show(q2.getD []).length<=_;rw[k2];exact h.2⟩
def zei (n:Nat):Except (Int×Int) yj->(Int×Int×Option HV)⊕(Int×Option HV)->Prop
 | .error x,d=>∃s,d=.inl (x.1,x.2,s)/\x.2≠0| .ok h,d=>∃o,d=.inr ((n:Int),o)/\tz n h o/\iD (qd .i64) h/\HB h
theorem jjt {l}(hb:∀e∈l.getD [],jE e)(hl:(l.getD []).length<=BB):∀(m:List GEv) (i:Nat) (h:yj) (s:Option HV),(l.getD []).drop i=m->i<=(l.getD []).length->tz i h s->iD (qd .i64) h->HB h->∃d,bq (rP l) ((i:Int),s)=E6 d/\zei (l.getD []).length (ya (qd .i64) i h (m.map GEv.er)) d
 | [],i,h,s,hm,hi,Q,o,b=>by
  have he:i=(l.getD []).length:=by
   have:=I1.1 hm;omega
  subst he;refine⟨.inr (((l.getD []).length:Int),s),zj ?_,s,rfl,Q,o,b⟩;unfold rP;rw[yd];rfl
 |e::m,i,h,s,hm,hi,Q,o,b=>by
  have M:(l.getD [])[i]?=E6 e:=by
   have:=congrArg List.head? hm;rwa [I5]at this
  have bg:i<(l.getD []).length:=(H8.1 M).1
  have yY:(l.getD []).drop (i+1)=m:=by rw[rF M]at hm;exact(List.cons.inj hm).2
  have vB:=hb e (H3 M);have hw:qd .i64 ((i:Int)+1)=((i+1:Nat):Int):=Wu (by omega)
  have cn:rP l ((i:Int),s)=cond (decide (qz e.er=0)) (qa (f46 e) fun e2=>qa (tA s e2) fun q=>cond (decide (q.1=0)) (E6 (.inl (((i+1:Nat):Int),q.2))) (E6 (.inr (.inl (((i+1:Nat):Int),q.1,q.2))))) (E6 (.inr (.inl (((i+1:Nat):Int),qz e.er,s)))):=by
   unfold rP;simp only[kj bg,cond_true,q9 M,qa,J8 vB.1 vB.2,hw]
  rw[I6];simp only[ya];by_cases hc:qz e.er=0
  case neg=>
   rw[if_pos hc];refine⟨.inl (((i+1:Nat):Int),qz e.er,s),zj ?_,s,rfl,hc⟩;rw[cn,decide_eq_false hc];rfl
  rw[if_neg (fun h=>h hc)];obtain⟨e',g1,g2,g3⟩:=jgx vB;obtain⟨c,s',k1,k2⟩:=jb0 (e:=e') Q o b (by omega) (by rw[g2];exact hc);rw[g2]at k2;rw[decide_eq_true hc,cond_true,g1]at cn;simp only[qa,k1]at cn
  cases ha:Go.W.accept (qd .i64) h ((i:Int)+1) e.er with
  |error x=>
   rw[ha]at k2;obtain⟨rfl,k3,k4⟩:=k2;rw[decide_eq_false k3]at cn;exact⟨.inl (((i+1:Nat):Int),c,s'),zj cn,s',rfl,k3⟩
  |ok h'=>
   rw[ha]at k2;obtain⟨rfl,k4⟩:=k2;rw[decide_eq_true (rfl:(0:Int)=0)]at cn;obtain⟨d,d1,d2⟩:=jjt hb hl m (i+1) h' s' yY bg k4 (o.accept hc ha) (b.accept o ha);exact⟨d,by rw[km cn];exact d1,d2⟩
def zjb (n:Nat):Except (Int×Int) yj->(Int×Int)⊕Option HV->Prop
 | .error x,d=>d=.inl x/\x.2≠0| .ok h,d=>∃o,d=.inr o/\tz n h o/\iD (qd .i64) h/\HB h/\n<=1000
theorem jg6 {l}(hb:∀e∈l.getD [],jE e):∃d,f27 l=E6 d/\zjb (l.getD []).length (run (qd .i64) ((l.getD []).map GEv.er)) d:=by
 unfold f27 run;rw[Hc];by_cases h:1000<(l.getD []).length
 .rw[decide_eq_true (by omega),if_pos h];exact⟨_,rfl,rfl,by decide⟩
 .rw[decide_eq_false (by omega),if_neg h,cond_false];obtain⟨d,d1,d2⟩:=jjt hb (by unfold BB;omega) (l.getD []) 0 ([],[mE]) Il rfl (Iy _) ⟨rfl,rfl⟩ iD.empty HB.empty;rw[show(0:Int)=((0:Nat):Int)from rfl,d1]
  cases Q:ya (qd .i64) 0 ([],[mE]) ((l.getD []).map GEv.er)with
  |error x=>
   rw[Q]at d2;obtain⟨s,rfl,k⟩:=d2;exact⟨_,rfl,rfl,k⟩
  |ok h'=>
   rw[Q]at d2;obtain⟨o,rfl,k1,k2,k3⟩:=d2;exact⟨_,rfl,o,rfl,k1,k2,k3,by omega⟩
theorem ju1 {n h o}(Q:tz n h o)(k:iD (qd .i64) h)(hn:n<=1000):∃r,OO o=E6 r/\r.er=now h:=by
 cases o with
 |none=>
  obtain⟨rfl,rfl⟩:=Q;exact⟨dY,rfl,rfl⟩
 |some v=>
  obtain⟨r1,r2,r3,r4,r5,r6⟩:=Q
  have dQ:h.1.length=v.lc:=by rw[r3,Hc,H2];omega
  have dW:h.2.length=v.ls:=by rw[r4,Hc,H2];omega
  have OM:v.ls=v.lc+1:=by rw[<-dQ,<-dW];exact k.len
  have hi:qd .i64 ((v.ls:Int)-1)=(v.lc:Int):=by rw[OL (by unfold BB;omega) (by omega),OM];rfl
  have dD:=k.now;rw[dQ,r4,H4]at dD
  cases hq:(v.ss.take v.ls)[v.lc]? with
  |none=>rw[hq]at dD;cases dD
  |some r=>
   rw[hq]at dD;exact⟨r,by show qm (v.ss.take v.ls) (qd .i64 ((v.ls:Int)-1))=E6 r;rw[hi];exact q9 hq,by simpa using dD⟩
def j5y:Except (Int×Int) yj->yc×Int×Int
 | .error x=>(mE,x.1,x.2)| .ok h=>(now h,0,0)
end Go.Z
namespace Go.Z
open Go Go.Abs Go.W
theorem Ww {α:Type}{o:Option (List α)}{k}(h:k<=(o.getD []).length):∃q,jB o Il (E6 (k:Int))=E6 q/\q.getD []=(o.getD []).take k:=by
 have hc:fL (o.getD []) Il (E6 (k:Int))=E6 ((o.getD []).take k):=by
  unfold fL
  have Y:lm (o.getD []).length (o.getD []).length (E6 (k:Int))=E6 k:=by
   unfold lm;simp only[];rw[if_pos ⟨by omega,by omega⟩,Int.toNat_natCast]
  rw[Y];rfl
 unfold jB;rw[hc]
 cases o with
 |none=>exact⟨Il,rfl,by simp⟩|some l=>exact⟨_,rfl,rfl⟩
theorem jce {α:Type}{o:Option (List α)}{x}(h:(o.getD []).length<SM):∃q,bC (E6 []) (o.getD [])=E6 (E6 (o.getD []))/\bC (E6 (o.getD [])) [x]=E6 q/\q.getD []=o.getD []++[x]:=by
 refine⟨E6 (o.getD []++[x]),?_,?_,rfl⟩
 .unfold bC;rw[if_pos (by simp only[If,List.length_nil];unfold SM at h;omega)];rfl
 .unfold bC;rw[if_pos (by simp only[If,En];unfold SM at h;omega)];rfl
theorem jhn {e:GEv}(hc:qz e.er=0):∀v∈e.values.getD [],0<=v:=by
 intro v hv;unfold qz at hc;split at hc
 .simp at hc
 split at hc
 .simp at hc
 split at hc
 .simp at hc
 split at hc
 .simp at hc
 split at hc
 .simp at hc
 rename_i h;simp only[Bool.not_eq_true',Bool.not_eq_false]at h;have:=List.all_eq_true.1 h v hv;simp at this;exact this.1
def Wx (i:Nat)(h:yj)(s:ak GEv×ak aw):Prop:=h.1=(s.1.getD []).map GEv.er/\h.2=(s.2.getD []).map aw.er/\h.1.length<=i
def Wy (n:Nat):Except (Int×Int) yj->(Int×Int×Int×(ak ji)×(ak bp)×(ak bw))⊕((ak GEv)×Bool×(ak aw)×Bool×Int)->Prop
 | .error x,d=>∃s,d=.inl (x.1,x.2,s)/\x.2≠0| .ok h,d=>∃s w1 w2,d=.inr (s.1,w1,s.2,w2,(n:Int))/\Wx n h s/\iD (qd .i64) h/\HB h
theorem jiq {l:ak GEv}(hb:∀e∈l.getD [],jE e)(hl:(l.getD []).length<=BB):∀(m:List GEv) (i:Nat) (h:yj) (s:ak GEv×ak aw) (w1 w2:Bool),(l.getD []).drop i=m->i<=(l.getD []).length->Wx i h s->iD (qd .i64) h->HB h->∃d,bq (qD l) (s.1,s.2,(i:Int),w1,w2)=E6 d/\Wy (l.getD []).length (ya (qd .i64) i h (m.map GEv.er)) d
 | [],i,h,s,w1,w2,hm,hi,Q,o,b=>by
  have he:i=(l.getD []).length:=by
   have:=I1.1 hm;omega
  subst he;refine⟨.inr (s.1,w1,s.2,w2,((l.getD []).length:Int)),zj ?_,s,w1,w2,rfl,Q,o,b⟩;unfold qD;rw[yd];rfl
 |e::m,i,h,s,w1,w2,hm,hi,Q,o,b=>by
  have M:(l.getD [])[i]?=E6 e:=by
   have:=congrArg List.head? hm;rwa [I5]at this
  have bg:i<(l.getD []).length:=(H8.1 M).1
  have yY:(l.getD []).drop (i+1)=m:=by rw[rF M]at hm;exact(List.cons.inj hm).2
  have vB:=hb e (H3 M);have hw:qd .i64 ((i:Int)+1)=((i+1:Nat):Int):=Wu (by omega);obtain⟨r1,r2,r3⟩:=Q
  have dQ:h.1.length=(s.1.getD []).length:=by rw[r1,Hc]
  have dW:h.2.length=(s.2.getD []).length:=by rw[r2,Hc]
  have hlen:=o.len;rw[I6];simp only[ya];obtain⟨F,hF⟩:∃F,qD l (s.1,s.2,(i:Int),w1,w2)=F:=⟨_,rfl⟩;have hG:=hF;unfold qD at hG;simp only[kj bg,cond_true,q9 M,qa,jwj vB.1 vB.2,hw]at hG;subst hG;by_cases hc:qz e.er=0
  case neg=>
   rw[decide_eq_false hc,cond_false]at hF;rw[if_pos hc];exact⟨_,zj hF,_,rfl,hc⟩
  rw[if_neg (fun h=>h hc)];rw[decide_eq_true hc,cond_true]at hF
  have xb:∀(h':yj) (q:ak GEv×ak aw) (v1 v2:Bool),qD l (s.1,s.2,(i:Int),w1,w2)=E6 (.inl (q.1,q.2,((i+1:Nat):Int),v1,v2))->Go.W.accept (qd .i64) h ((i:Int)+1) e.er=.ok h'->Wx (i+1) h' q->∃d,bq (qD l) (s.1,s.2,(i:Int),w1,w2)=E6 d/\Wy (l.getD []).length (match Go.W.accept (qd .i64) h ((i:Int)+1) e.er with
    | .error x=>.error ((i:Int)+1,x)
    | .ok h'=>ya (qd .i64) (i+1) h' (m.map GEv.er)) d:=by
   intro h' q v1 v2 g1 g2 g3;obtain⟨d,d1,d2⟩:=jiq hb hl m (i+1) h' q v1 v2 yY bg g3 (o.accept hc g2) (b.accept o g2);rw[g2];exact⟨d,by rw[km g1];exact d1,d2⟩
  have xd:∀(x:Int) (q),qD l (s.1,s.2,(i:Int),w1,w2)=E6 (.inr (.inl (((i+1:Nat):Int),x,q)))->Go.W.accept (qd .i64) h ((i:Int)+1) e.er=.error x->x≠0->∃d,bq (qD l) (s.1,s.2,(i:Int),w1,w2)=E6 d/\Wy (l.getD []).length (match Go.W.accept (qd .i64) h ((i:Int)+1) e.er with
    | .error x=>.error ((i:Int)+1,x)
    | .ok h'=>ya (qd .i64) (i+1) h' (m.map GEv.er)) d:=by
   intro x q g1 g2 g3;rw[g2];exact⟨_,zj g1,q,rfl,g3⟩
  have hA:∀y,Go.W.accept (qd .i64) h ((i:Int)+1) e.er=y->Go.W.accept (qd .i64) h ((i:Int)+1) e.er=y:=fun _ h=>h;by_cases Y:e.number=((i+1:Nat):Int)
  case neg=>
   rw[decide_eq_false Y]at hF;refine xd 11 _ hF ?_ (by decide);unfold Go.W.accept;rw[if_pos (show e.er.number≠(i:Int)+1 from Y)]
  rw[decide_eq_true Y,cond_true]at hF;have hn1:¬e.er.number≠(i:Int)+1:=fun hh=>hh Y;by_cases I:e.kind=oh
  .rw[show decide (e.kind=([117,110,100,111]:aj))=Ip from decide_eq_true I,cond_true]at hF
   have ha:Go.W.accept (qd .i64) h ((i:Int)+1) e.er=(match h.1.getLast? with
     |none=>.error 12
     |some c=>if c.kind=lP then .error 19 else .ok (h.1.dropLast,h.2.dropLast)):=by
    unfold Go.W.accept;rw[if_neg hn1,if_pos (show e.er.kind=oh from I)];cases h.1.getLast?<;>rfl
   by_cases h3:(s.1.getD []).length=0
   .rw[decide_eq_true (by omega),cond_true]at hF;refine xd 12 _ hF ?_ (by decide);rw[ha,show h.1=[]from Ig (by omega)];rfl
   .rw[decide_eq_false (by omega),cond_false,OL (by omega) (by omega)]at hF;obtain⟨x,M⟩:∃x,(s.1.getD [])[(s.1.getD []).length-1]?=E6 x:=⟨_,Ib (by omega)⟩
    have tB:h.1.getLast?=E6 x.er:=by
     rw[Iq,dQ,r1,H4,M];rfl
    rw[tB]at ha;simp only[q9 M]at hF;by_cases h5:x.kind=lP
    .rw[show decide (x.kind=([115,104,105,112]:aj))=Ip from decide_eq_true h5,cond_true]at hF;refine xd 19 _ hF ?_ (by decide);rw[ha];exact if_pos (show x.er.kind=lP from h5)
    .rw[show decide (x.kind=([115,104,105,112]:aj))=Io from decide_eq_false h5,cond_false]at hF;obtain⟨q1,c1,c2⟩:=Ww (o:=s.1) (k:=(s.1.getD []).length-1) (by omega);obtain⟨q2,du,fi⟩:=Ww (o:=s.2) (k:=(s.1.getD []).length) (by omega);simp only[c1,du]at hF;refine xb (h.1.dropLast,h.2.dropLast) (q1,q2) _ _ hF ?_ ⟨?_,?_,?_⟩
     .rw[ha];exact if_neg (show ¬x.er.kind=lP from h5)
     .show h.1.dropLast=_;rw[c2,Ic,dQ,r1,I7]
     .show h.2.dropLast=_;rw[fi,Ic,r2,I7,<-r2,hlen,dQ];rfl
     .show h.1.dropLast.length<=_;rw[List.length_dropLast];omega
  .rw[show decide (e.kind=([117,110,100,111]:aj))=Io from decide_eq_false I,cond_false]at hF
   have ha:Go.W.accept (qd .i64) h ((i:Int)+1) e.er=(match after (qd .i64) (now h) e.er with
     | .error x=>.error x
     | .ok r=>.ok (h.1++[e.er],h.2++[r])):=by
    unfold Go.W.accept;rw[if_neg hn1,if_neg (show ¬e.er.kind=oh from I)];cases after (qd .i64) (now h) e.er<;>rfl
   have dD:=o.now;rw[dQ,r2,H4]at dD
   cases hq:(s.2.getD [])[(s.1.getD []).length]? with
   |none=>rw[hq]at dD;cases dD
   |some r=>
    rw[hq]at dD
    have wv:r.er=now h:=by simpa using dD
    have B4:SB (s.1.getD []).length r.er:=b _ r.er (by rw[r2,H4,hq];rfl);obtain⟨r',c,g1,g2⟩:=j2m (e:=e) (B4.gb (by omega)) (by rw[wv];exact o.tC) hc I (jhn hc);simp only[q9 hq,g1]at hF;rw[wv]at g2
    cases hat:after (qd .i64) (now h) e.er with
    |error k=>
     rw[hat]at g2 ha;obtain⟨rfl,g3⟩:=g2;rw[decide_eq_false g3,cond_false]at hF;exact xd _ _ hF ha g3
    |ok t=>
     rw[hat]at g2 ha;obtain⟨rfl,rfl⟩:=g2;obtain⟨q1,c1,c2,du⟩:=jce (o:=s.1) (x:=e) (by unfold BB at hl;unfold SM;omega);obtain⟨q2,fi,dv,ei⟩:=jce (o:=s.2) (x:=r') (by unfold BB at hl;unfold SM;omega);rw[decide_eq_true (rfl:(0:Int)=0),cond_true]at hF;simp only[c1,c2,fi,dv]at hF;refine xb _ (q1,q2) _ _ hF ha ⟨?_,?_,?_⟩
     .show h.1++[e.er]=_;rw[du,r1,Ij];rfl
     .show h.2++[r'.er]=_;rw[ei,r2,Ij];rfl
     .show(h.1++[e.er]).length<=_;rw[Ha,En];omega
def zj5:Except (Int×Int) yj->ak GEv×aw×Int×Int->Prop
 | .error x,d=>d=(Il,⟨0,Il,Il,Il⟩,x.1,x.2)/\x.2≠0| .ok h,d=>∃s r,d=(s,r,0,0)/\h.1=(s.getD []).map GEv.er/\r.er=now h/\iD (qd .i64) h/\HB h/\h.1.length<=1000
theorem j04 {l}(hb:∀e∈l.getD [],jE e):∃d,f28 l=E6 d/\zj5 (run (qd .i64) ((l.getD []).map GEv.er)) d:=by
 unfold f28 run;rw[Hc];by_cases h:1000<(l.getD []).length
 .rw[decide_eq_true (by omega),if_pos h];exact⟨_,rfl,rfl,by decide⟩
 .rw[decide_eq_false (by omega),if_neg h,cond_false];obtain⟨d,d1,d2⟩:=jiq hb (by unfold BB;omega) (l.getD []) 0 ([],[mE]) (Il,E6 [⟨0,Il,Il,Il⟩]) Io Ip rfl (Iy _) ⟨rfl,rfl,Iy _⟩ iD.empty HB.empty;have d1':bq (qD l) (Il,E6 [⟨0,Il,Il,Il⟩],0,Io,Ip)=E6 d:=d1;rw[d1']
  cases Q:ya (qd .i64) 0 ([],[mE]) ((l.getD []).map GEv.er)with
  |error x=>
   rw[Q]at d2;obtain⟨s,rfl,k⟩:=d2;exact⟨_,rfl,rfl,k⟩
  |ok h'=>
   rw[Q]at d2;obtain⟨s,w1,w2,rfl,⟨k1,k2,k3⟩,k4,k5⟩:=d2;have dD:=k4.now;rw[k2,H4,k1,Hc]at dD
   cases hq:(s.2.getD [])[(s.1.getD []).length]? with
   |none=>rw[hq]at dD;cases dD
   |some r=>
    rw[hq]at dD;refine⟨(s.1,r,0,0),?_,s.1,r,rfl,k1,by simpa using dD,k4,k5,by omega⟩;simp only[qa,q9 hq]
theorem j5q {l}(hb:∀e∈l.getD [],jE e):∃r,f8 l=E6 r/\(r.1.er,r.2)=j5y (run (qd .i64) ((l.getD []).map GEv.er)):=by
 obtain⟨d,d1,d2⟩:=j04 hb;unfold f8;rw[d1];refine⟨_,rfl,?_⟩
 cases Q:run (qd .i64) ((l.getD []).map GEv.er)with
 |error x=>
  rw[Q]at d2;obtain⟨rfl,k⟩:=d2;rfl
 |ok h=>
  rw[Q]at d2;obtain⟨s,r,rfl,k1,k2,k3⟩:=d2;show(r.er,((0:Int),(0:Int)))=_;rw[k2];rfl
end Go.Z
namespace Go.Z
open Go Go.Abs Go.W
theorem zfm {f:Int->Option (Int⊕(Unit⊕Int))}{n}(hn:n<=SM)(da:f (n:Int)=E6 (.inr (.inr (n:Int))))(h:∀i:Nat,i<n->f (i:Int)=E6 (.inl (qd .i64 ((i:Int)+1)))):∃d,bq f 0=E6 (.inr d):=
 ⟨_,jp1 n f da fun i hi=>by rw[h i hi,zd (by unfold SM at hn;omega)]⟩
theorem jmv {α:Type}{l:List α}{i}(h:i<l.length):∃x,l[i]?=E6 x:=⟨_,Ib h⟩
theorem j1y {l n}(hn:n<=1000):∃b,f51 l (n:Int)=E6 b/\(b=Ip->(l.getD []).length<=n/\∀e∈l.getD [],jE e):=by
 unfold f51;by_cases h:n<(l.getD []).length
 .rw[decide_eq_true (by omega)];exact⟨Io,rfl,fun h=>by cases h⟩
 .rw[decide_eq_false (by omega),cond_false]
  rcases Wz (l.getD []) (B5 l) (fun _ e=>jE e) (by unfold B5;rw[yd];rfl) (fun i x M=>by
   have hi:i<(l.getD []).length:=(H8.1 M).1;unfold B5;simp only[kj hi,cond_true,q9 M,qa];by_cases Y:40<(x.kind.length:Int)
   ·rw[decide_eq_true Y];exact .inr ⟨_,rfl⟩
   rw[decide_eq_false Y,cond_false];by_cases I:6<((x.names.getD []).length:Int)
   ·rw[decide_eq_true I];exact .inr ⟨_,rfl⟩
   rw[decide_eq_false I,cond_false];by_cases h3:8<((x.values.getD []).length:Int)
   ·rw[decide_eq_true h3];exact .inr ⟨_,rfl⟩
   rw[decide_eq_false h3,cond_false];by_cases h4:200<(x.text.length:Int)
   ·rw[decide_eq_true h4];exact .inr ⟨_,rfl⟩
   rw[decide_eq_false h4,cond_false];have hb:jE x:=⟨by unfold SM;omega,by unfold SM;omega⟩
   rcases Wz (x.names.getD []) (B6 l (i:Int)) (fun _ _=>True) (by unfold B6;simp only[q9 M,qa];rw[yd];rfl) (fun j y hy=>by
    have hj:j<(x.names.getD []).length:=(H8.1 hy).1;unfold B6;simp only[q9 M,qa,kj hj,cond_true,q9 hy];by_cases h5:40<(y.length:Int)
    ·rw[decide_eq_true h5];exact .inr ⟨_,rfl⟩
    rw[decide_eq_false h5,cond_false,zd (by omega)]
    exact .inl ⟨rfl,trivial⟩)with⟨e,he⟩|⟨he,_⟩
   ·rw[he];exact .inr ⟨_,rfl⟩
   ·rw[he];refine .inl ⟨?_,hb⟩;simp only[]
    rw[zd (by omega)])with⟨e,he⟩|⟨he,hall⟩
  .rw[he];exact⟨Io,rfl,fun h=>by cases h⟩
  .rw[he];refine⟨Ip,rfl,fun _=>⟨by omega,fun e hm=>?_⟩⟩;obtain⟨i,hi⟩:=List.getElem?_of_mem hm;exact hall i e hi
theorem ob {α β:Type}{x:α}{f:α->Option β}:qa (E6 x) f=f x:=rfl
end Go.Z
namespace Go.Z
open Go Go.Abs Go.W
theorem jn4 {a b}(h:a.getD []=b.getD [])(hl:(a.getD []).length<=SM):f24 a b=E6 Ip:=by
 unfold f24;rw[show((a.getD []).length:Int)=((b.getD []).length:Int) by rw[h],decide_eq_true rfl,cond_true]
 obtain⟨d,hd⟩:=zfm (f:=B7 a b) (n:=(a.getD []).length) hl (by unfold B7;simp only[yd];rfl) (fun i hi=>by
  obtain⟨x,M⟩:=jmv hi;unfold B7
  simp only[kj hi,cond_true,qa,q9 M,q9 (show(b.getD [])[i]?=E6 x by rw[<-h];exact M),decide_true])
 rw[hd];rfl
variable {r:aw}{u:bw}
theorem jjm (hl:(u.uses.getD []).length<=SM):∃w,f61 u=E6 (jh (u.er.uses.map (·.k)),w):=by
 unfold f61 f147;rw[BG (f:=J9 u.uses) (l:=u.uses.getD []) (g:=fun x:bD=>x.k) (q:=f148) hl (fun x _=>rfl) (fun s=>rfl)];exact⟨_,rfl⟩
theorem WA {a:ak aj}{n:aj}(hl:(a.getD []).length<=SM):f63 a n=E6 ((a.getD []).any fun x=>decide (n=x)):=by
 have h:f149 a n=E6 (ek ((a.getD []).findIdx? fun x=>decide (n=x))):=nK (p:=fun x=>decide (n=x)) hl fun i=>rfl;unfold f63;rw[h,ob,wU,cC]
theorem js5 {n:aj}(hl:(u.uses.getD []).length<=SM):f159 u n=E6 (vC u.er n):=by
 obtain⟨w,h⟩:=jjm hl;unfold f159;rw[h,ob,WA (by rw[zc,Hc];exact hl),ob,zc,List.any_map];unfold vC
 congr 2
 funext x;by_cases e:x.k=n<;>simp[e,Ne.symm,eq_comm]
def xe (S:yc)(n:aj):List aj:=(S.units.filter fun u=>vC u n).map (·.name)
theorem jo2 {n}:xe r.er n=((r.units.getD []).filter fun u=>vC u.er n).map (·.name):=by
 unfold xe;rw[wS,List.filter_map,List.map_map];rfl
theorem j1u {n:aj}(b:GB r):∃w,f89 r n=E6 (jh (xe r.er n),w):=by
 have Y:f64 r.units n=E6 (jh ((r.units.getD []).filter fun u=>vC u.er n),fS ((r.units.getD []).filter fun u=>vC u.er n)):=by
  unfold f64;rw[F9 (f:=Ka r.units n) (l:=r.units.getD []) (p:=fun u=>vC u.er n) (q:=fun u=>f159 u n) (jo b.U) (fun x M=>js5 (jo (b.N x M).1)) (fun s=>rfl)];rfl
 have I:f65 (jh ((r.units.getD []).filter fun u=>vC u.er n))=E6 (jh (xe r.er n),fS (xe r.er n)):=by
  unfold f65;rw[BG (f:=Gn (jh ((r.units.getD []).filter fun u=>vC u.er n))) (l:=((jh ((r.units.getD []).filter fun u=>vC u.er n)).getD [])) (g:=fun u:bw=>u.name) (q:=f67) (by rw[zc];exact qyk (jo b.U)) (fun x _=>rfl) (fun s=>rfl),zc,jo2];rfl
 unfold f89;rw[Y,ob,I];exact⟨_,rfl⟩
def Gp (S:yc)(k:aj):Int:=S.az.foldl (fun n x=>if decide (x.kind=k)&&!x.held then qd .i64 (n+x.left)else n) 0
theorem j3h {k}(b:GB r):f93 r k=E6 (Gp r.er k):=by
 unfold f93 Gp;have hl:=jo b.L
 have:=F8 (r.az.getD []) (zH r k) (fun i (c:Int)=>(c,(i:Int))) (fun n x=>if decide (x.kind=k)&&!x.held then qd .i64 (n+x.left)else n) (fun c=>(c,((r.az.getD []).length:Int))) 0 (fun c=>by unfold zH;simp only[yd];rfl)
  (fun i c x M hi=>by
   unfold zH;simp only[kj hi,cond_true,qa,q9 M];rw[zd (by unfold SM at hl;omega)]
   cases decide (x.kind=k)<;>cases x.held<;>rfl)
 have h:bq (zH r k) (0,0)=_:=this;rw[h];rfl
end Go.Z
namespace Go.Z
open Go Go.Abs Go.W
structure JOk (l:ak GEv)(h:yj):Prop where
 hb:∀e∈l.getD [],jE e
 Q:run (qd .i64) ((l.getD []).map GEv.er)=.ok h
theorem jsi {a b:Int}:f35 (E6 [a,b])=E6 (fW [a,b]):=jD (by simp[SM])
end Go.Z
namespace Go.Z
open Go Go.Abs Go.W
theorem q8u {σ δ:Type}{f:σ->Option (σ⊕δ)}(st:Nat->σ){n:Nat}{d:δ}(G:∀i,i<n->f (st i)=E6 (.inl (st (i+1))))(he:f (st n)=E6 (.inr d)):bq f (st 0)=E6 d:=by
 have key:∀(k i:Nat),i+k=n->bq f (st i)=E6 d:=by
  intro k
  induction k with
  |zero=>intro i hi;rw[show i=n by omega];exact zj he|succ k ih=>intro i hi;rw[km (G i (by omega))];exact ih (i+1) (by omega)
 exact key n 0 (by omega)
theorem j3g {l n}(hn:n<=1000):∃b,f15 l (n:Int)=E6 b/\(b=Ip->(l.getD []).length<=n/\∃h,JOk l h):=by
 obtain⟨b1,Y,k1⟩:=j1y (l:=l) hn;unfold f15;rw[Y,ob]
 cases b1 with
 |false=>exact⟨Io,rfl,fun h=>by cases h⟩
 |true=>
  obtain⟨l1,hb⟩:=k1 rfl;obtain⟨⟨g,i,bad⟩,p1,p2⟩:=j5q hb;rw[p1,cond_true,ob];refine⟨_,rfl,fun h=>⟨l1,?_⟩⟩
  have h:bad=0:=by simpa using h
  subst h
  cases Q:run (qd .i64) ((l.getD []).map GEv.er)with
  |ok q=>exact⟨q,hb,Q⟩
  |error x=>
   exfalso;rw[Q]at p2;obtain⟨d,d1,d2⟩:=jg6 hb;rw[Q]at d2;exact d2.2 (congrArg (fun x=>x.2.2) p2).symm
end Go.Z
end
