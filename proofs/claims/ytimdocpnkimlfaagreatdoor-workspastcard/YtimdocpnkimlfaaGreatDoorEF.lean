/- Chapter 10, plain. -/
import Derived.Test.YtimdocpnkimlfaaGreatDoorEA
import Derived.Test.YtimdocpnkimlfaaGreatDoorV9
set_option linter.unusedVariables false
set_option linter.unusedSimpArgs false
set_option maxRecDepth 100000
set_option maxHeartbeats 4000000
open Option renaming some→I,none→Gq,getD_some→Gs
open List renaming length_singleton→En,length_append→Ga,mem_of_getElem?→Gd,length_take→Ge,length_map→Gh,getElem?_map→Gi,getElem?_eq_some_iff→Gj,getElem?_eq_getElem→Gm,map_append→Gn,mem_map_of_mem→Gt,length_set→Gy,dropLast_eq_take→Gz,map_id→G8,drop_eq_nil_iff→G9,eq_nil_of_length_eq_zero→Hb,getLast?_eq_getElem?→Hd,map_cons→He,mem_append→If,take_of_length_le→Ig,head?_drop→Ik,length_filter_le→Jk,map_dropLast→Jp,not_mem_nil→Jq,head?→Jr,cons→Lg,map_take→Lh,Sublist→Ny
open Nat renaming le_trans→Gb,le_refl→Gx,zero_le→Hc
open Bool renaming true→Gr,and_self→G7,false→Ha
namespace Go.Z
open Go Go.Abs Go.W
structure SB (n:Nat)(r:bm):Prop where
 L:r.au.length≤n
 P:r.ae.length≤n
 U:r.units.length≤n
 D:∀p∈r.ae,p.aH.length≤n∧p.bV.aB.length≤n∧p.bV.aA.length≤n∧∀d∈p.aH,d.aB.length≤n∧d.aA.length≤n
 N:∀u∈r.units,u.uses.length≤n∧u.results.length≤n
theorem SB.mono {n m r}(h:SB n r)(hm:n≤m):SB m r:=
 ⟨Gb h.L hm,Gb h.P hm,Gb h.U hm,fun p hp=>⟨Gb (h.D p hp).1 hm,Gb (h.D p hp).2.1 hm,Gb (h.D p hp).2.2.1 hm,fun d hd=>⟨Gb ((h.D p hp).2.2.2 d hd).1 hm,Gb ((h.D p hp).2.2.2 d hd).2 hm⟩⟩,fun u hu=>⟨Gb (h.N u hu).1 hm,Gb (h.N u hu).2 hm⟩⟩
theorem SB.empty:SB 0 yz:=⟨Gx _,Gx _,Gx _,fun p (hp:p∈([]:List cZ))=>absurd hp Jq,fun u (hu:u∈([]:List bq))=>absurd hu Jq⟩
theorem SB.gb {n r}(h:SB n r.er)(hn:n≤BB):GB r:=by
 refine⟨Gb h.L hn,?_,?_,fun p hp=>?_,fun u hu=>?_⟩
 ·have:=h.P;rw[pP,Gh]at this;exact Gb this hn
 ·have:=h.U;rw[rN,Gh]at this;exact Gb this hn
 ·obtain⟨h1,h2,h3,h4⟩:=h.D p.er (by rw[pP];exact Gt hp)
  have h1':(p.aH.getD []).length≤n:=by
   have:((p.aH.getD []).map bf.er).length≤n:=h1
   rwa [Gh]at this
  refine⟨Gb h1' hn,Gb h2 hn,Gb h3 hn,fun d hd=>?_⟩
  obtain⟨h5,h6⟩:=h4 d.er (Gt hd)
  exact⟨Gb h5 hn,Gb h6 hn⟩
 ·obtain⟨h1,h2⟩:=h.N u.er (by rw[rN];exact Gt hu)
  exact⟨Gb h1 hn,Gb h2 hn⟩
theorem SB.bP {n r}(h:SB n r){i p}(hp:p.aH.length≤n∧p.bV.aB.length≤n∧p.bV.aA.length≤n∧∀d∈p.aH,d.aB.length≤n∧d.aA.length≤n):SB n (bP r i p):=
 ⟨h.L,by show(r.ae.set i p).length≤n;rw[Gy];exact h.P,h.U,fun q hq=>by
  rcases zO hq with hq|rfl
  ·exact h.D q hq
  ·exact hp,h.N⟩
theorem SB.ay {n r}(h:SB n r){i u}(hu:u.uses.length≤n∧u.results.length≤n):SB n (ay r i u):=
 ⟨h.L,h.P,by show(r.units.set i u).length≤n;rw[Gy];exact h.U,h.D,fun q hq=>by
  rcases zO hq with hq|rfl
  ·exact h.N q hq
  ·exact hu⟩
theorem SB.b6 {n r}(h:SB n r){i x}:SB n (b6 r i x):=
 ⟨by show(r.au.set i x).length≤n;rw[Gy];exact h.L,h.P,h.U,h.D,h.N⟩
theorem q0f {α:Type}{p:α→Bool}{x l n}(h:l.length≤n):(kc p x l).length≤n+1:=by
 unfold kc
 split
 ·rw[Gy];omega
 ·rw[Ga,En];omega
theorem q9y {w l k x n}(h:l.length≤n):(jP w l k x).length≤n+1:=by
 unfold jP
 split
 ·split
  ·rw[Gy];omega
  ·omega
 ·rw[Ga,En];omega
theorem jkt {w:Int→Int}{n:Nat}{r r' e}(h:SB n r)(ha:apply w r e=.ok r'):SB (n+1) r':=by
 have h':=h.mono (Nat.le_succ n)
 unfold apply at ha
 split at ha
 ·unfold lW at ha
  split at ha
  ·repeat' split at ha
   all_goals first|(cases ha;done)|skip
   cases ha
   exact⟨by show(r.au++[_]).length≤_;rw[Ga,En];have:=h.L;omega,h'.P,h'.U,h'.D,h'.N⟩
  split at ha
  ·repeat' split at ha
   all_goals first|(cases ha;done)|skip
   cases ha
   refine⟨h'.L,by show(r.ae++[_]).length≤_;rw[Ga,En];have:=h.P;omega,h'.U,fun p hp=>?_,h'.N⟩
   rcases If.1 hp with hp|hp
   ·exact h'.D p hp
   ·simp at hp;subst hp;simp
  ·split at ha
   ·cases ha
   repeat' split at ha
   all_goals first|(cases ha;done)|skip
   cases ha
   refine⟨h'.L,h'.P,by show(r.units++[_]).length≤_;rw[Ga,En];have:=h.U;omega,h'.D,fun p hp=>?_⟩
   rcases If.1 hp with hp|hp
   ·exact h'.N p hp
   ·simp at hp;subst hp;simp
 split at ha
 ·unfold kn at ha
  split at ha
  ·cases ha
  split at ha
  ·cases ha
  rename_i p hp
  have hD:=h.D p (Gd hp)
  have ot:=h'.D p (Gd hp)
  repeat' split at ha
  all_goals first|(cases ha;done)|skip
  ·cases ha
   refine h'.bP ⟨ot.1,?_,ot.2.2.1,ot.2.2.2⟩
   show(kr p.bV.aB _ _).length≤_
   unfold kr
   split
   ·exact Gb (Jk _ _) ot.2.1
   ·exact q0f hD.2.1
  ·cases ha
   exact h'.bP ⟨ot.1,ot.2.1,q0f hD.2.2.1,ot.2.2.2⟩
  ·cases ha
   refine h'.bP ⟨by show(p.aH++[_]).length≤_;rw[Ga,En];have:=hD.1;omega,ot.2.1,ot.2.2.1,fun d hd=>?_⟩
   rcases If.1 hd with hd|hd
   ·exact ot.2.2.2 d hd
   ·simp at hd;subst hd;exact⟨ot.2.1,ot.2.2.1⟩
 split at ha
 ·unfold oU at ha
  split at ha
  ·cases ha
  split at ha
  ·cases ha
  repeat' split at ha
  all_goals first|(cases ha;done)|skip
  all_goals (cases ha;exact h'.b6)
 ·unfold lX at ha
  split at ha
  ·cases ha
  split at ha
  ·cases ha
  rename_i u hu
  have hN:=h.N u (Gd hu)
  have vM:=h'.N u (Gd hu)
  split at ha
  ·unfold pT at ha
   split at ha
   ·cases ha
   split at ha
   ·cases ha
   repeat' split at ha
   all_goals first|(cases ha;done)|skip
   cases ha
   exact h'.b6.ay ⟨q9y hN.1,vM.2⟩
  split at ha
  ·unfold pU at ha
   split at ha
   ·cases ha
   split at ha
   ·cases ha
   rename_i v hv
   have hV':=h'.N v (Gd hv)
   repeat' split at ha
   all_goals first|(cases ha;done)|skip
   cases ha
   exact(h'.ay (u:={ u with partner:=v.name }) ⟨vM.1,vM.2⟩).ay (u:={ v with partner:=u.name }) ⟨hV'.1,hV'.2⟩
  split at ha
  ·repeat' split at ha
   all_goals first|(cases ha;done)|skip
   cases ha
   exact h'.ay ⟨vM.1,by show(u.results++[_]).length≤_;rw[Ga,En];have:=hN.2;omega⟩
  split at ha
  ·split at ha
   ·cases ha
   split at ha
   ·cases ha
   split at ha
   ·cases ha
   ·cases ha
    exact h'.ay ⟨vM.1,vM.2⟩
  split at ha
  ·split at ha
   ·cases ha
   ·cases ha
    exact h'.ay ⟨vM.1,vM.2⟩
  ·split at ha
   ·cases ha
   ·cases ha
    exact h'.ay ⟨vM.1,vM.2⟩
theorem jkp {w n r r' e}(h:SB n r)(ha:after w r e=.ok r'):SB (n+1) r':=by
 unfold after at ha
 split at ha
 ·cases ha
 split at ha
 ·cases ha
 rename_i r1 h1
 cases ha
 have:=jkt h h1
 exact⟨this.L,this.P,this.U,this.D,this.N⟩
def HB (h:yp):Prop:=∀(j:Nat) (r:bm),h.2[j]?=I r→SB j r
theorem HB.empty:HB ([],[yz]):=by
 intro j r hr
 cases j with
 |zero=>simp at hr;subst hr;exact SB.empty
 |succ j=>simp at hr
theorem HB.accept {w h h' k e}(o:dD w h)(b:HB h)(ha:Go.W.accept w h k e=.ok h'):HB h':=by
 unfold Go.W.accept at ha
 split at ha
 ·cases ha
 split at ha
 ·split at ha
  ·cases ha
  split at ha
  ·cases ha
  ·cases ha
   intro j r hr
   simp only[List.getElem?_dropLast]at hr
   split at hr
   ·exact b j r hr
   ·cases hr
 ·split at ha
  ·cases ha
  ·rename_i r' h1
   cases ha
   intro j r hr
   have hn:=o.now
   have hlen:=o.len
   simp only at hr
   by_cases hj:j<h.2.length
   ·rw[List.getElem?_append_left hj]at hr;exact b j r hr
   ·rw[List.getElem?_append_right (by omega)]at hr
    have hj2:j=h.1.length+1:=by
     cases hd:j-h.2.length with
     |zero=>omega
     |succ d=>rw[hd]at hr;simp at hr
    subst hj2
    rw[hlen,Nat.sub_self]at hr
    simp at hr
    subst hr
    exact jkp (b _ _ hn) h1
end Go.Z
namespace Go.Z
open Go Go.Abs Go.W
def zP (n:Nat)(h:yp):Option HV→Prop
 |none=>h=([],[yz])∧n=0
 |some v=>v.lc≤v.cs.length∧v.ls≤v.ss.length∧h.1=(v.cs.take v.lc).map GEv.er∧h.2=(v.ss.take v.ls).map ak.er∧v.ev.length=n∧v.lc≤n
def Ub (n:Nat)(h:yp)(c:Int)(s:Option HV):Except Int yp→Prop
 | .error x=>c=x∧x≠0∧zP n h s
 | .ok h'=>c=0∧zP (n+1) h' s
theorem Uc {α:Type}{xs:List α}{len x}(h1:len≤xs.length)(h2:len≤BB):rU xs len x=I (xs.take len++[x]):=by
 unfold rU
 rw[if_pos ⟨h1,by unfold BB at h2;omega⟩]
theorem Mb {n}(h:n≤BB):qe .i64 ((n:Int)+1)=((n+1:Nat):Int):=ye (by unfold BB at h;omega)
theorem Mc {n}(h:n≤BB)(h0:0<n):qe .i64 ((n:Int)-1)=((n-1:Nat):Int):=by
 obtain⟨m,rfl⟩:∃m,n=m+1:=⟨n-1,by omega⟩
 have:=qzz (i:=m) (by unfold BB at h;omega)
 rw[this];rfl
theorem qse {α:Type}{l:List α}{k}(h:k≤l.length):(l.take k).dropLast=l.take (k-1):=by
 rw[Gz,Ge,List.take_take]
 congr 1;omega
theorem Ud {a b}:f46 (I [a,b])=I (gB [a,b]):=iY (by simp[SM])
theorem jhq {e}(hc:zb e.er=0):∃c s',BG e=I (c,s')∧Ub 0 ([],[yz]) c s' (Go.W.accept (qe .i64) ([],[yz]) (0+1) e.er):=by
 unfold BG Go.W.accept
 rw[show qe .i64 1=1 from rfl,show e.er.number=e.number from rfl,show e.er.kind=e.kind from rfl,show((0:Int)+1)=1 from rfl]
 by_cases h1:e.number=1
 ·rw[decide_eq_true h1,if_neg (fun h=>h h1)]
  simp only[cond_true]
  by_cases h2:e.kind=iX
  ·rw[show decide (e.kind=([117,110,100,111]:List UInt8))=Gr from decide_eq_true h2,if_pos h2]
   simp only[cond_true,lT,qa,Ud]
   exact⟨_,_,rfl,rfl,by decide,rfl,rfl⟩
  ·rw[show decide (e.kind=([117,110,100,111]:List UInt8))=Ha from decide_eq_false h2,if_neg h2]
   have hw:WF dX.er:=WF.empty 0
   obtain⟨r',c,g1,g2⟩:=q7x (r:=dX) (SB.empty.gb (r:=dX) (Hc _)) hw hc h2
   simp only[cond_false,g1,qa]
   rw[show now ([],[yz])=dX.er from rfl]
   cases ha:after (qe .i64) dX.er e.er with
   |error k=>
    rw[ha]at g2
    obtain⟨rfl,g3⟩:=g2
    rw[decide_eq_false g3]
    exact⟨_,_,rfl,rfl,g3,rfl,rfl⟩
   |ok s=>
    rw[ha]at g2
    obtain⟨rfl,rfl⟩:=g2
    exact⟨_,_,rfl,rfl,Gx _,Gx _,rfl,rfl,rfl,Gx _⟩
 ·rw[decide_eq_false h1,if_pos h1]
  exact⟨_,_,rfl,rfl,by decide,rfl,rfl⟩
theorem jou {v:HV}{n:Nat}{h e}(hr:zP n h (I v))(o:dD (qe .i64) h)(b:HB h)(hn:n<BB)(hc:zb e.er=0):∃c s',Md (I v) e=I (c,s')∧Ub n h c s' (Go.W.accept (qe .i64) h ((n:Int)+1) e.er):=by
 obtain⟨r1,r2,r3,r4,r5,r6⟩:=hr
 have hH:h.1.length=v.lc:=by rw[r3,Gh,Ge];omega
 have oH:h.2.length=v.ls:=by rw[r4,Gh,Ge];omega
 have Me:v.ls=v.lc+1:=by rw[←hH,←oH];exact o.len
 have fI:rU v.ev v.ev.length e=I (v.ev++[e]):=by rw[Uc (Gx _) (by omega),List.take_length]
 show ∃c s',(qa (BH v e) fun q=>I (q.1,I q.2))=I (c,s')∧_
 unfold BH Go.W.accept
 rw[show e.er.number=e.number from rfl,show e.er.kind=e.kind from rfl,r5,Mb (by omega)]
 by_cases h1:e.number=((n+1:Nat):Int)
 case neg=>
  rw[decide_eq_false h1,if_pos (show e.number≠(n:Int)+1 from h1)]
  exact⟨_,_,rfl,rfl,by decide,r1,r2,r3,r4,r5,r6⟩
 rw[decide_eq_true h1,if_neg (show ¬e.number≠(n:Int)+1 from fun hh=>hh h1)]
 simp only[cond_true]
 by_cases h2:e.kind=iX
 ·rw[show decide (e.kind=([117,110,100,111]:List UInt8))=Gr from decide_eq_true h2,if_pos h2]
  simp only[cond_true,lT,qa]
  by_cases h3:v.lc=0
  ·have h4:h.1=[]:=Hb (by rw[hH,h3])
   rw[h4]
   simp only[h3,show decide (((0:Nat):Int)=0)=Gr from rfl,show decide ((0:Int)<((0:Nat):Int))=Ha from rfl,cond_false,Ud]
   exact⟨_,_,rfl,rfl,by decide,r1,r2,r3,r4,r5,r6⟩
  ·have gN:0<v.lc:=by omega
   rw[decide_eq_false (show ¬(v.lc:Int)=0 by omega),decide_eq_true (show(0:Int)<(v.lc:Int) by omega),Mc (by omega) gN]
   obtain⟨x,hx⟩:∃x,(v.cs.take v.lc)[v.lc-1]?=I x:=⟨_,Gm (by rw[Ge];omega)⟩
   have mA:max 0 ((v.lc-1:Nat):Int)=((v.lc-1:Nat):Int):=by omega
   have rV:h.1.getLast?=I x.er:=by
    rw[Hd,hH,r3,Gi,hx];rfl
   rw[mA,rV]
   simp only[cond_true,q9 hx,Ud]
   by_cases h5:x.kind=iW
   ·rw[if_pos (show x.er.kind=iW from h5),show decide (x.kind=([115,104,105,112]:List UInt8))=Gr from decide_eq_true h5]
    exact⟨_,_,rfl,rfl,by decide,r1,r2,r3,r4,r5,r6⟩
   ·rw[if_neg (show ¬x.er.kind=iW from h5),show decide (x.kind=([115,104,105,112]:List UInt8))=Ha from decide_eq_false h5]
    rw[r5]at fI
    simp only[Bool.false_eq_true,if_false,show decide (gB [0,0]=0)=Gr from rfl,cond_true]
    rw[decide_eq_true (show(0:Int)≤((v.lc-1:Nat):Int)∧((v.lc-1:Nat):Int)≤(v.lc:Int)∧v.lc≤v.ls by omega)]
    simp only[cond_true,fI]
    have Ue:((v.lc-1:Nat):Int).toNat=v.lc-1:=Int.toNat_natCast _
    refine⟨_,_,rfl,rfl,by show((v.lc-1:Nat):Int).toNat≤v.cs.length;rw[Ue];omega,by show v.lc≤v.ss.length;omega,?_,?_,by show(v.ev++[e]).length=_;rw[Ga,r5];rfl,by show((v.lc-1:Nat):Int).toNat≤n+1;rw[Ue];omega⟩
    ·show h.1.dropLast=(v.cs.take ((v.lc-1:Nat):Int).toNat).map GEv.er
     rw[Ue,r3,←Jp,qse r1]
    ·show h.2.dropLast=(v.ss.take v.lc).map ak.er
     rw[r4,←Jp,qse r2,Me];rfl
 ·rw[show decide (e.kind=([117,110,100,111]:List UInt8))=Ha from decide_eq_false h2,if_neg h2]
  have eg:=o.now
  rw[hH,r4,Gi]at eg
  cases hr:(v.ss.take v.ls)[v.lc]? with
  |none=>rw[hr]at eg;cases eg
  |some r=>
   rw[hr]at eg
   have wx:r.er=now h:=by simpa using eg
   have Uf:SB v.lc r.er:=b v.lc r.er (by rw[r4,Gi,hr];rfl)
   have hwf:WF r.er:=by rw[wx];exact o.rW
   obtain⟨r',c,g1,g2⟩:=q7x (Uf.gb (by omega)) hwf hc h2
   have hi:qe .i64 ((v.ls:Int)-1)=(v.lc:Int):=by rw[Mc (by omega) (by omega),Me];rfl
   rw[hi]
   simp only[cond_false,q9 hr,g1,qa]
   rw[wx]at g2
   cases ha:after (qe .i64) (now h) e.er with
   |error k=>
    rw[ha]at g2
    obtain⟨rfl,g3⟩:=g2
    rw[decide_eq_false g3]
    exact⟨_,_,rfl,rfl,g3,r1,r2,r3,r4,r5,r6⟩
   |ok s=>
    rw[ha]at g2
    obtain⟨rfl,rfl⟩:=g2
    rw[r5]at fI
    rw[Uc r1 (by omega),Uc r2 (by omega)]
    simp only[fI,show decide ((0:Int)=0)=Gr from rfl,cond_true]
    refine⟨_,_,rfl,rfl,?_,?_,?_,?_,by show(v.ev++[e]).length=_;rw[Ga,r5];rfl,by show v.lc+1≤n+1;omega⟩
    ·show v.lc+1≤(v.cs.take v.lc++[e]).length
     rw[Ga,Ge,En];omega
    ·show v.ls+1≤(v.ss.take v.ls++[r']).length
     rw[Ga,Ge,En];omega
    ·show h.1++[e.er]=((v.cs.take v.lc++[e]).take (v.lc+1)).map GEv.er
     rw[Ig (by rw[Ga,Ge,En];omega),Gn,r3];rfl
    ·show h.2++[r'.er]=((v.ss.take v.ls++[r']).take (v.ls+1)).map ak.er
     rw[Ig (by rw[Ga,Ge,En];omega),Gn,r4];rfl
theorem jn0 {s n h e}(hr:zP n h s)(o:dD (qe .i64) h)(b:HB h)(hn:n<BB)(hc:zb e.er=0):∃c s',Md s e=I (c,s')∧Ub n h c s' (Go.W.accept (qe .i64) h ((n:Int)+1) e.er):=by
 cases s with
 |some v=>exact jou hr o b hn hc
 |none=>
  obtain⟨rfl,rfl⟩:=hr
  exact jhq hc
end Go.Z
namespace Go.Z
open Go Go.Abs Go.W
def oX (e:GEv):Prop:=(e.names.getD []).length≤SM∧(e.values.getD []).length≤SM
theorem jei {α:Type}{o:Option (List α)}(h:(o.getD []).length≤SM):∃q b,(cond o.isNone (I (Gq,Ha)) (qa (bB (I []) (o.getD [])) fun v2=>I (v2,Gr)):Option (Option (List α)×Bool))=I (q,b)∧q.getD []=o.getD []:=by
 cases o with
 |none=>exact⟨Gq,Ha,rfl,rfl⟩
 |some l=>
  have:bB (I []) l=I (I l):=by
   unfold bB
   simp only[Gs,List.nil_append]
   rw[if_pos (by simpa using h)]
   rfl
  exact⟨I l,Gr,by simp only[Option.isNone_some,cond_false,Gs,this,qa],rfl⟩
theorem jvs {e:GEv}(h:oX e):∃e',f50 e=I e'∧e'.er=e.er∧oX e':=by
 obtain⟨q1,b1,h1,k1⟩:=jei (o:=e.names) h.1
 obtain⟨q2,b2,h2,k2⟩:=jei (o:=e.values) h.2
 refine⟨⟨e.number,e.kind,q1,q2,e.text⟩,?_,?_,?_⟩
 ·unfold f50
  rw[show Mf e.names=I (q1,b1)from h1,show Mg e.values=I (q2,b2)from h2]
  cases b1<;>cases b2<;>rfl
 ·show dV.mk _ _ _ _ _=dV.mk _ _ _ _ _
  simp only[k1,k2]
 ·exact⟨by show(q1.getD []).length≤_;rw[k1];exact h.1,by show(q2.getD []).length≤_;rw[k2];exact h.2⟩
def zg4 (n:Nat):Except (Int×Int) yp→(Int×Int×Option HV)⊕(Int×Option HV)→Prop
 | .error x,d=>∃s,d=.inl (x.1,x.2,s)∧x.2≠0
 | .ok h,d=>∃o,d=.inr ((n:Int),o)∧zP n h o∧dD (qe .i64) h∧HB h
theorem jdw {l}(hb:∀e∈l.getD [],oX e)(hl:(l.getD []).length≤BB):∀(m:List GEv) (i:Nat) (h:yp) (s:Option HV),(l.getD []).drop i=m→i≤(l.getD []).length→zP i h s→dD (qe .i64) h→HB h→∃d,bu (wT l) ((i:Int),s)=I d∧zg4 (l.getD []).length (yo (qe .i64) i h (m.map GEv.er)) d
 | [],i,h,s,hm,hi,hr,o,b=>by
  have he:i=(l.getD []).length:=by
   have:=G9.1 hm;omega
  subst he
  refine⟨.inr (((l.getD []).length:Int),s),ko ?_,s,rfl,hr,o,b⟩
  unfold wT
  rw[zq];rfl
 |e::m,i,h,s,hm,hi,hr,o,b=>by
  have hx:(l.getD [])[i]?=I e:=by
   have:=congrArg Jr hm
   rwa [Ik]at this
  have bw:i<(l.getD []).length:=(Gj.1 hx).1
  have rS:(l.getD []).drop (i+1)=m:=by rw[rL hx]at hm;exact(Lg.inj hm).2
  have EA:=hb e (Gd hx)
  have hw:qe .i64 ((i:Int)+1)=((i+1:Nat):Int):=Mb (by omega)
  have cy:wT l ((i:Int),s)=cond (decide (zb e.er=0)) (qa (f50 e) fun e2=>qa (Md s e2) fun q=>cond (decide (q.1=0)) (I (.inl (((i+1:Nat):Int),q.2))) (I (.inr (.inl (((i+1:Nat):Int),q.1,q.2))))) (I (.inr (.inl (((i+1:Nat):Int),zb e.er,s)))):=by
   unfold wT
   simp only[yc bw,cond_true,q9 hx,qa,jrp EA.1 EA.2,hw]
  rw[He]
  simp only[yo]
  by_cases hc:zb e.er=0
  case neg=>
   rw[if_pos hc]
   refine⟨.inl (((i+1:Nat):Int),zb e.er,s),ko ?_,s,rfl,hc⟩
   rw[cy,decide_eq_false hc];rfl
  rw[if_neg (fun h=>h hc)]
  obtain⟨e',g1,g2,g3⟩:=jvs EA
  obtain⟨c,s',k1,k2⟩:=jn0 (e:=e') hr o b (by omega) (by rw[g2];exact hc)
  rw[g2]at k2
  rw[decide_eq_true hc,cond_true,g1]at cy
  simp only[qa,k1]at cy
  cases ha:Go.W.accept (qe .i64) h ((i:Int)+1) e.er with
  |error x=>
   rw[ha]at k2
   obtain⟨rfl,k3,k4⟩:=k2
   rw[decide_eq_false k3]at cy
   exact⟨.inl (((i+1:Nat):Int),c,s'),ko cy,s',rfl,k3⟩
  |ok h'=>
   rw[ha]at k2
   obtain⟨rfl,k4⟩:=k2
   rw[decide_eq_true (rfl:(0:Int)=0)]at cy
   obtain⟨d,d1,d2⟩:=jdw hb hl m (i+1) h' s' rS bw k4 (o.accept hc ha) (b.accept o ha)
   exact⟨d,by rw[oh cy];exact d1,d2⟩
def zey (n:Nat):Except (Int×Int) yp→(Int×Int)⊕Option HV→Prop
 | .error x,d=>d=.inl x∧x.2≠0
 | .ok h,d=>∃o,d=.inr o∧zP n h o∧dD (qe .i64) h∧HB h∧n≤1000
theorem Ug {l}(hb:∀e∈l.getD [],oX e):∃d,f45 l=I d∧zey (l.getD []).length (run (qe .i64) ((l.getD []).map GEv.er)) d:=by
 unfold f45 run
 rw[Gh]
 by_cases h:1000<(l.getD []).length
 ·rw[decide_eq_true (by omega),if_pos h]
  exact⟨_,rfl,rfl,by decide⟩
 ·rw[decide_eq_false (by omega),if_neg h,cond_false]
  obtain⟨d,d1,d2⟩:=jdw hb (by unfold BB;omega) (l.getD []) 0 ([],[yz]) Gq rfl (Hc _) ⟨rfl,rfl⟩ dD.empty HB.empty
  rw[show(0:Int)=((0:Nat):Int)from rfl,d1]
  cases hr:yo (qe .i64) 0 ([],[yz]) ((l.getD []).map GEv.er)with
  |error x=>
   rw[hr]at d2
   obtain⟨s,rfl,k⟩:=d2
   exact⟨_,rfl,rfl,k⟩
  |ok h'=>
   rw[hr]at d2
   obtain⟨o,rfl,k1,k2,k3⟩:=d2
   exact⟨_,rfl,o,rfl,k1,k2,k3,by omega⟩
theorem job {n h o}(hr:zP n h o)(k:dD (qe .i64) h)(hn:n≤1000):∃r,jub o=I r∧r.er=now h:=by
 cases o with
 |none=>
  obtain⟨rfl,rfl⟩:=hr
  exact⟨dX,rfl,rfl⟩
 |some v=>
  obtain⟨r1,r2,r3,r4,r5,r6⟩:=hr
  have hH:h.1.length=v.lc:=by rw[r3,Gh,Ge];omega
  have oH:h.2.length=v.ls:=by rw[r4,Gh,Ge];omega
  have Me:v.ls=v.lc+1:=by rw[←hH,←oH];exact k.len
  have hi:qe .i64 ((v.ls:Int)-1)=(v.lc:Int):=by rw[Mc (by unfold BB;omega) (by omega),Me];rfl
  have eg:=k.now
  rw[hH,r4,Gi]at eg
  cases hq:(v.ss.take v.ls)[v.lc]? with
  |none=>rw[hq]at eg;cases eg
  |some r=>
   rw[hq]at eg
   exact⟨r,by show qr (v.ss.take v.ls) (qe .i64 ((v.ls:Int)-1))=I r;rw[hi];exact q9 hq,by simpa using eg⟩
def jni:Except (Int×Int) yp→bm×Int×Int
 | .error x=>(yz,x.1,x.2)
 | .ok h=>(now h,0,0)
theorem jv4 {l}(hb:∀e∈l.getD [],oX e):∃r,f16 l=I r∧(r.1.er,r.2)=jni (run (qe .i64) ((l.getD []).map GEv.er)):=by
 obtain⟨d,d1,d2⟩:=Ug hb
 unfold f16
 rw[d1]
 cases hr:run (qe .i64) ((l.getD []).map GEv.er)with
 |error x=>
  rw[hr]at d2
  obtain⟨rfl,k⟩:=d2
  refine⟨(dX,x.1,x.2),?_,rfl⟩
  simp only[qa]
  rw[decide_eq_false k];rfl
 |ok h=>
  rw[hr]at d2
  obtain⟨o,rfl,k1,k2,k3,k4⟩:=d2
  obtain⟨r,q1,q2⟩:=job k1 k2 k4
  refine⟨(r,0,0),?_,?_⟩
  ·simp only[qa,q1]
  ·rw[q2];rfl
end Go.Z
namespace Go.Z
open Go Go.Abs Go.W
theorem Uh {α:Type}{o:Option (List α)}{k}(h:k≤(o.getD []).length):∃q,wK o Gq (I (k:Int))=I q∧q.getD []=(o.getD []).take k:=by
 have hc:Mh (o.getD []) Gq (I (k:Int))=I ((o.getD []).take k):=by
  unfold Mh
  have h1:rX (o.getD []).length (o.getD []).length (I (k:Int))=I k:=by
   unfold rX
   simp only[]
   rw[if_pos ⟨by omega,by omega⟩,Int.toNat_natCast]
  rw[h1];rfl
 unfold wK
 rw[hc]
 cases o with
 |none=>exact⟨Gq,rfl,by simp⟩
 |some l=>exact⟨_,rfl,rfl⟩
theorem q7t {α:Type}{o:Option (List α)}{x}(h:(o.getD []).length<SM):∃q,bB (I []) (o.getD [])=I (I (o.getD []))∧bB (I (o.getD [])) [x]=I q∧q.getD []=o.getD []++[x]:=by
 refine⟨I (o.getD []++[x]),?_,?_,rfl⟩
 ·unfold bB
  rw[if_pos (by simp only[Gs,List.length_nil];unfold SM at h;omega)]
  rfl
 ·unfold bB
  rw[if_pos (by simp only[Gs,En];unfold SM at h;omega)]
  rfl
theorem jc6 {e:GEv}(hc:zb e.er=0):∀v∈e.values.getD [],0≤v:=by
 intro v hv
 unfold zb at hc
 split at hc
 ·simp at hc
 split at hc
 ·simp at hc
 split at hc
 ·simp at hc
 split at hc
 ·simp at hc
 split at hc
 ·simp at hc
 rename_i h
 simp only[Bool.not_eq_true',Bool.not_eq_false]at h
 have:=List.all_eq_true.1 h v hv
 simp at this
 exact this.1
def Ui (i:Nat)(h:yp)(s:Option (List GEv)×Option (List ak)):Prop:=h.1=(s.1.getD []).map GEv.er∧h.2=(s.2.getD []).map ak.er∧h.1.length≤i
def Uj (n:Nat):Except (Int×Int) yp→(Int×Int×Int×(Option (List je))×(Option (List aC))×(Option (List bg)))⊕((Option (List GEv))×Bool×(Option (List ak))×Bool×Int)→Prop
 | .error x,d=>∃s,d=.inl (x.1,x.2,s)∧x.2≠0
 | .ok h,d=>∃s w1 w2,d=.inr (s.1,w1,s.2,w2,(n:Int))∧Ui n h s∧dD (qe .i64) h∧HB h
theorem jen {l:Option (List GEv)}(hb:∀e∈l.getD [],oX e)(hl:(l.getD []).length≤BB):∀(m:List GEv) (i:Nat) (h:yp) (s:Option (List GEv)×Option (List ak)) (w1 w2:Bool),(l.getD []).drop i=m→i≤(l.getD []).length→Ui i h s→dD (qe .i64) h→HB h→∃d,bu (oY l) (s.1,s.2,(i:Int),w1,w2)=I d∧Uj (l.getD []).length (yo (qe .i64) i h (m.map GEv.er)) d
 | [],i,h,s,w1,w2,hm,hi,hr,o,b=>by
  have he:i=(l.getD []).length:=by
   have:=G9.1 hm;omega
  subst he
  refine⟨.inr (s.1,w1,s.2,w2,((l.getD []).length:Int)),ko ?_,s,w1,w2,rfl,hr,o,b⟩
  unfold oY
  rw[zq];rfl
 |e::m,i,h,s,w1,w2,hm,hi,hr,o,b=>by
  have hx:(l.getD [])[i]?=I e:=by
   have:=congrArg Jr hm
   rwa [Ik]at this
  have bw:i<(l.getD []).length:=(Gj.1 hx).1
  have rS:(l.getD []).drop (i+1)=m:=by rw[rL hx]at hm;exact(Lg.inj hm).2
  have EA:=hb e (Gd hx)
  have hw:qe .i64 ((i:Int)+1)=((i+1:Nat):Int):=Mb (by omega)
  obtain⟨r1,r2,r3⟩:=hr
  have hH:h.1.length=(s.1.getD []).length:=by rw[r1,Gh]
  have oH:h.2.length=(s.2.getD []).length:=by rw[r2,Gh]
  have hlen:=o.len
  rw[He]
  simp only[yo]
  obtain⟨F,hF⟩:∃F,oY l (s.1,s.2,(i:Int),w1,w2)=F:=⟨_,rfl⟩
  have hG:=hF
  unfold oY at hG
  simp only[yc bw,cond_true,q9 hx,qa,ju3 EA.1 EA.2,hw]at hG
  subst hG
  by_cases hc:zb e.er=0
  case neg=>
   rw[decide_eq_false hc,cond_false]at hF
   rw[if_pos hc]
   exact⟨_,ko hF,_,rfl,hc⟩
  rw[if_neg (fun h=>h hc)]
  rw[decide_eq_true hc,cond_true]at hF
  have Ix:∀(h':yp) (q:Option (List GEv)×Option (List ak)) (v1 v2:Bool),oY l (s.1,s.2,(i:Int),w1,w2)=I (.inl (q.1,q.2,((i+1:Nat):Int),v1,v2))→Go.W.accept (qe .i64) h ((i:Int)+1) e.er=.ok h'→Ui (i+1) h' q→∃d,bu (oY l) (s.1,s.2,(i:Int),w1,w2)=I d∧Uj (l.getD []).length (match Go.W.accept (qe .i64) h ((i:Int)+1) e.er with
    | .error x=>.error ((i:Int)+1,x)
    | .ok h'=>yo (qe .i64) (i+1) h' (m.map GEv.er)) d:=by
   intro h' q v1 v2 g1 g2 g3
   obtain⟨d,d1,d2⟩:=jen hb hl m (i+1) h' q v1 v2 rS bw g3 (o.accept hc g2) (b.accept o g2)
   rw[g2]
   exact⟨d,by rw[oh g1];exact d1,d2⟩
  have wU:∀(x:Int) (q),oY l (s.1,s.2,(i:Int),w1,w2)=I (.inr (.inl (((i+1:Nat):Int),x,q)))→Go.W.accept (qe .i64) h ((i:Int)+1) e.er=.error x→x≠0→∃d,bu (oY l) (s.1,s.2,(i:Int),w1,w2)=I d∧Uj (l.getD []).length (match Go.W.accept (qe .i64) h ((i:Int)+1) e.er with
    | .error x=>.error ((i:Int)+1,x)
    | .ok h'=>yo (qe .i64) (i+1) h' (m.map GEv.er)) d:=by
   intro x q g1 g2 g3
   rw[g2]
   exact⟨_,ko g1,q,rfl,g3⟩
  have hA:∀y,Go.W.accept (qe .i64) h ((i:Int)+1) e.er=y→Go.W.accept (qe .i64) h ((i:Int)+1) e.er=y:=fun _ h=>h
  by_cases h1:e.number=((i+1:Nat):Int)
  case neg=>
   rw[decide_eq_false h1]at hF
   refine wU 11 _ hF ?_ (by decide)
   unfold Go.W.accept
   rw[if_pos (show e.er.number≠(i:Int)+1 from h1)]
  rw[decide_eq_true h1,cond_true]at hF
  have hn1:¬e.er.number≠(i:Int)+1:=fun hh=>hh h1
  by_cases h2:e.kind=iX
  ·rw[show decide (e.kind=([117,110,100,111]:List UInt8))=Gr from decide_eq_true h2,cond_true]at hF
   have ha:Go.W.accept (qe .i64) h ((i:Int)+1) e.er=(match h.1.getLast? with
     |none=>.error 12
     |some c=>if c.kind=iW then .error 19 else .ok (h.1.dropLast,h.2.dropLast)):=by
    unfold Go.W.accept
    rw[if_neg hn1,if_pos (show e.er.kind=iX from h2)]
    cases h.1.getLast?<;>rfl
   by_cases h3:(s.1.getD []).length=0
   ·rw[decide_eq_true (by omega),cond_true]at hF
    refine wU 12 _ hF ?_ (by decide)
    rw[ha,show h.1=[]from Hb (by omega)];rfl
   ·rw[decide_eq_false (by omega),cond_false,Mc (by omega) (by omega)]at hF
    obtain⟨x,hx⟩:∃x,(s.1.getD [])[(s.1.getD []).length-1]?=I x:=⟨_,Gm (by omega)⟩
    have rV:h.1.getLast?=I x.er:=by
     rw[Hd,hH,r1,Gi,hx];rfl
    rw[rV]at ha
    simp only[q9 hx]at hF
    by_cases h5:x.kind=iW
    ·rw[show decide (x.kind=([115,104,105,112]:List UInt8))=Gr from decide_eq_true h5,cond_true]at hF
     refine wU 19 _ hF ?_ (by decide)
     rw[ha]
     exact if_pos (show x.er.kind=iW from h5)
    ·rw[show decide (x.kind=([115,104,105,112]:List UInt8))=Ha from decide_eq_false h5,cond_false]at hF
     obtain⟨q1,c1,c2⟩:=Uh (o:=s.1) (k:=(s.1.getD []).length-1) (by omega)
     obtain⟨q2,cT,fk⟩:=Uh (o:=s.2) (k:=(s.1.getD []).length) (by omega)
     simp only[c1,cT]at hF
     refine Ix (h.1.dropLast,h.2.dropLast) (q1,q2) _ _ hF ?_ ⟨?_,?_,?_⟩
     ·rw[ha]
      exact if_neg (show ¬x.er.kind=iW from h5)
     ·show h.1.dropLast=_
      rw[c2,Gz,hH,r1,Lh]
     ·show h.2.dropLast=_
      rw[fk,Gz,r2,Lh,←r2,hlen,hH];rfl
     ·show h.1.dropLast.length≤_
      rw[List.length_dropLast];omega
  ·rw[show decide (e.kind=([117,110,100,111]:List UInt8))=Ha from decide_eq_false h2,cond_false]at hF
   have ha:Go.W.accept (qe .i64) h ((i:Int)+1) e.er=(match after (qe .i64) (now h) e.er with
     | .error x=>.error x
     | .ok r=>.ok (h.1++[e.er],h.2++[r])):=by
    unfold Go.W.accept
    rw[if_neg hn1,if_neg (show ¬e.er.kind=iX from h2)]
    cases after (qe .i64) (now h) e.er<;>rfl
   have eg:=o.now
   rw[hH,r2,Gi]at eg
   cases hq:(s.2.getD [])[(s.1.getD []).length]? with
   |none=>rw[hq]at eg;cases eg
   |some r=>
    rw[hq]at eg
    have wx:r.er=now h:=by simpa using eg
    have Uf:SB (s.1.getD []).length r.er:=b _ r.er (by rw[r2,Gi,hq];rfl)
    obtain⟨r',c,g1,g2⟩:=jo4 (e:=e) (Uf.gb (by omega)) (by rw[wx];exact o.rW) hc h2 (jc6 hc)
    simp only[q9 hq,g1]at hF
    rw[wx]at g2
    cases hat:after (qe .i64) (now h) e.er with
    |error k=>
     rw[hat]at g2 ha
     obtain⟨rfl,g3⟩:=g2
     rw[decide_eq_false g3,cond_false]at hF
     exact wU _ _ hF ha g3
    |ok t=>
     rw[hat]at g2 ha
     obtain⟨rfl,rfl⟩:=g2
     obtain⟨q1,c1,c2,cT⟩:=q7t (o:=s.1) (x:=e) (by unfold BB at hl;unfold SM;omega)
     obtain⟨q2,fk,cU,et⟩:=q7t (o:=s.2) (x:=r') (by unfold BB at hl;unfold SM;omega)
     rw[decide_eq_true (rfl:(0:Int)=0),cond_true]at hF
     simp only[c1,c2,fk,cU]at hF
     refine Ix _ (q1,q2) _ _ hF ha ⟨?_,?_,?_⟩
     ·show h.1++[e.er]=_
      rw[cT,r1,Gn];rfl
     ·show h.2++[r'.er]=_
      rw[et,r2,Gn];rfl
     ·show(h.1++[e.er]).length≤_
      rw[Ga,En];omega
def zik:Except (Int×Int) yp→Option (List GEv)×ak×Int×Int→Prop
 | .error x,d=>d=(Gq,⟨0,Gq,Gq,Gq⟩,x.1,x.2)∧x.2≠0
 | .ok h,d=>∃s r,d=(s,r,0,0)∧h.1=(s.getD []).map GEv.er∧r.er=now h∧dD (qe .i64) h∧HB h∧h.1.length≤1000
theorem Uk {l}(hb:∀e∈l.getD [],oX e):∃d,f93 l=I d∧zik (run (qe .i64) ((l.getD []).map GEv.er)) d:=by
 unfold f93 run
 rw[Gh]
 by_cases h:1000<(l.getD []).length
 ·rw[decide_eq_true (by omega),if_pos h]
  exact⟨_,rfl,rfl,by decide⟩
 ·rw[decide_eq_false (by omega),if_neg h,cond_false]
  obtain⟨d,d1,d2⟩:=jen hb (by unfold BB;omega) (l.getD []) 0 ([],[yz]) (Gq,I [⟨0,Gq,Gq,Gq⟩]) Ha Gr rfl (Hc _) ⟨rfl,rfl,Hc _⟩ dD.empty HB.empty
  have d1':bu (oY l) (Gq,I [⟨0,Gq,Gq,Gq⟩],0,Ha,Gr)=I d:=d1
  rw[d1']
  cases hr:yo (qe .i64) 0 ([],[yz]) ((l.getD []).map GEv.er)with
  |error x=>
   rw[hr]at d2
   obtain⟨s,rfl,k⟩:=d2
   exact⟨_,rfl,rfl,k⟩
  |ok h'=>
   rw[hr]at d2
   obtain⟨s,w1,w2,rfl,⟨k1,k2,k3⟩,k4,k5⟩:=d2
   have eg:=k4.now
   rw[k2,Gi,k1,Gh]at eg
   cases hq:(s.2.getD [])[(s.1.getD []).length]? with
   |none=>rw[hq]at eg;cases eg
   |some r=>
    rw[hq]at eg
    refine⟨(s.1,r,0,0),?_,s.1,r,rfl,k1,by simpa using eg,k4,k5,by omega⟩
    simp only[qa,q9 hq]
theorem jrx {l}(hb:∀e∈l.getD [],oX e):∃r,f38 l=I r∧(r.1.er,r.2)=jni (run (qe .i64) ((l.getD []).map GEv.er)):=by
 obtain⟨d,d1,d2⟩:=Uk hb
 unfold f38
 rw[d1]
 refine⟨_,rfl,?_⟩
 cases hr:run (qe .i64) ((l.getD []).map GEv.er)with
 |error x=>
  rw[hr]at d2
  obtain⟨rfl,k⟩:=d2
  rfl
 |ok h=>
  rw[hr]at d2
  obtain⟨s,r,rfl,k1,k2,k3⟩:=d2
  show(r.er,((0:Int),(0:Int)))=_
  rw[k2];rfl
end Go.Z
namespace Go.Z
open Go Go.Abs Go.W
theorem rZ {f:Int→Option (Int⊕(Unit⊕Int))}{n}(hn:n≤SM)(dq:f (n:Int)=I (.inr (.inr (n:Int))))(h:∀i:Nat,i<n→f (i:Int)=I (.inl (qe .i64 ((i:Int)+1)))):∃d,bu f 0=I (.inr d):=
 ⟨_,jkz n f dq fun i hi=>by rw[h i hi,ye (by unfold SM at hn;omega)]⟩
theorem zQ {α:Type}{l:List α}{i}(h:i<l.length):∃x,l[i]?=I x:=⟨_,Gm h⟩
theorem qzv {a b:bf}(h1:a.aB.getD []=b.aB.getD [])(h2:a.aA.getD []=b.aA.getD [])(l1:(a.aB.getD []).length≤SM)(l2:(a.aA.getD []).length≤SM):EB a b=I Gr:=by
 unfold EB
 obtain⟨d,hd⟩:=rZ (f:=BI a b) l1 (by unfold BI;rw[zq];rfl) (fun i hi=>by
  obtain⟨x,hx⟩:=zQ hi
  unfold BI
  simp only[yc hi,cond_true,q9 hx,qa,q9 (show(b.aB.getD [])[i]?=I x by rw[←h1];exact hx),decide_true,G7])
 obtain⟨d',Ul⟩:=rZ (f:=BJ a b) l2 (by unfold BJ;rw[zq];rfl) (fun i hi=>by
  obtain⟨x,hx⟩:=zQ hi
  unfold BJ
  simp only[yc hi,cond_true,q9 hx,qa,q9 (show(b.aA.getD [])[i]?=I x by rw[←h2];exact hx),decide_true,G7])
 rw[hd,Ul,h1,h2]
 simp only[decide_true,cond_true,qa]
theorem Um {α β γ:Type}{f:α→γ}{g:β→γ}{l:List α}{m:List β}(h:l.map f=m.map g){i:Nat}{x:α}(hx:l[i]?=I x):∃y,m[i]?=I y∧f x=g y:=by
 have h1:(l.map f)[i]?=I (f x):=by rw[Gi,hx];rfl
 rw[h,Gi]at h1
 cases hm:m[i]? with
 |none=>rw[hm]at h1;cases h1
 |some y=>rw[hm]at h1;exact⟨y,rfl,by simpa using h1.symm⟩
theorem Un {α β γ:Type}{f:α→γ}{g:β→γ}{l:List α}{m:List β}(h:l.map f=m.map g):l.length=m.length:=by
 have:=congrArg List.length h
 simpa using this
theorem Uo {a b:bf}(h:a.er=b.er):a.aB.getD []=b.aB.getD []∧a.aA.getD []=b.aA.getD []:=⟨congrArg gq.aB h,congrArg gq.aA h⟩
theorem jg1 {a b:aC}(h:a.er=b.er)(l1:(a.aH.getD []).length≤BB)(l2:(a.dn.getD []).length≤BB)(sd:(a.dt.getD []).length≤BB)(oA:∀d∈a.aH.getD [],(d.aB.getD []).length≤BB∧(d.aA.getD []).length≤BB):f56 a b=I Gr:=by
 have e1:a.name=b.name:=congrArg cZ.name h
 have e2:a.dn.getD []=b.dn.getD []:=congrArg (fun x=>(cZ.bV x).aB) h
 have e3:a.dt.getD []=b.dt.getD []:=congrArg (fun x=>(cZ.bV x).aA) h
 have e4:(a.aH.getD []).map bf.er=(b.aH.getD []).map bf.er:=congrArg cZ.aH h
 have e5:=Un e4
 unfold f56
 obtain⟨d,hd⟩:=rZ (f:=BK a b) (jk l1) (by unfold BK;rw[zq];rfl) (fun i hi=>by
  obtain⟨x,hx⟩:=zQ hi
  obtain⟨y,hy,pW⟩:=Um e4 hx
  have hl:=oA x (Gd hx)
  unfold BK
  simp only[yc hi,cond_true,q9 hx,qa,q9 hy,qzv (Uo pW).1 (Uo pW).2 (jk hl.1) (jk hl.2)])
 rw[hd,qzv (a:=⟨a.dn,a.dt⟩) (b:=⟨b.dn,b.dt⟩) e2 e3 (jk l2) (jk sd),e1,e5]
 simp only[decide_true,cond_true,qa]
theorem ji2 {a b:bg}(h:a.er=b.er)(l1:(a.uses.getD []).length≤BB)(l2:(a.results.getD []).length≤BB):f57 a b=I Gr:=by
 have e1:a.name=b.name:=congrArg bq.name h
 have e2:a.product=b.product:=congrArg bq.product h
 have e3:a.version=b.version:=congrArg bq.version h
 have e4:a.uses.getD []=b.uses.getD []:=congrArg bq.uses h
 have e5:a.results.getD []=b.results.getD []:=congrArg bq.results h
 have e6:a.partner=b.partner:=congrArg bq.partner h
 have e7:a.ar=b.ar:=congrArg bq.ar h
 have e8:a.ah=b.ah:=congrArg bq.ah h
 unfold f57
 obtain⟨d,hd⟩:=rZ (f:=BL a b) (jk l1) (by unfold BL;rw[zq];rfl) (fun i hi=>by
  obtain⟨x,hx⟩:=zQ hi
  unfold BL
  simp only[yc hi,cond_true,q9 hx,qa,q9 (show(b.uses.getD [])[i]?=I x by rw[←e4];exact hx),decide_true,G7])
 obtain⟨d',Ul⟩:=rZ (f:=BM a b) (jk l2) (by unfold BM;rw[zq];rfl) (fun i hi=>by
  obtain⟨x,hx⟩:=zQ hi
  unfold BM
  simp only[yc hi,cond_true,q9 hx,qa,q9 (show(b.results.getD [])[i]?=I x by rw[←e5];exact hx),decide_true,G7])
 rw[hd,Ul,e1,e2,e3,e4,e5,e6,e7,e8]
 simp only[decide_true,cond_true,qa,beq_self_eq_true]
theorem q43 {a b:ak}(h:a.er=b.er)(g:GB a):f17 a b=I Gr:=by
 have e1:a.day=b.day:=congrArg bm.day h
 have e2:a.au.getD []=b.au.getD []:=congrArg bm.au h
 have e3:(a.ae.getD []).map aC.er=(b.ae.getD []).map aC.er:=congrArg bm.ae h
 have e4:(a.units.getD []).map bg.er=(b.units.getD []).map bg.er:=congrArg bm.units h
 have e5:=Un e3
 have e6:=Un e4
 unfold f17
 obtain⟨d0,h0⟩:=rZ (f:=BN a b) (jk g.L) (by unfold BN;rw[zq];rfl) (fun i hi=>by
  obtain⟨x,hx⟩:=zQ hi
  unfold BN
  simp only[yc hi,cond_true,q9 hx,qa,q9 (show(b.au.getD [])[i]?=I x by rw[←e2];exact hx),decide_true,G7])
 obtain⟨d1,h1⟩:=rZ (f:=BO a b) (jk g.P) (by unfold BO;rw[zq];rfl) (fun i hi=>by
  obtain⟨x,hx⟩:=zQ hi
  obtain⟨y,hy,pW⟩:=Um e3 hx
  obtain⟨k1,k2,k3,k4⟩:=g.D x (Gd hx)
  unfold BO
  simp only[yc hi,cond_true,q9 hx,qa,q9 hy,jg1 pW k1 k2 k3 k4])
 obtain⟨d2,h2⟩:=rZ (f:=BP a b) (jk g.U) (by unfold BP;rw[zq];rfl) (fun i hi=>by
  obtain⟨x,hx⟩:=zQ hi
  obtain⟨y,hy,pW⟩:=Um e4 hx
  obtain⟨k1,k2⟩:=g.N x (Gd hx)
  unfold BP
  simp only[yc hi,cond_true,q9 hx,qa,q9 hy,ji2 pW k1 k2])
 rw[h0,h1,h2,e1,e2,e5,e6]
 simp only[decide_true,cond_true,qa]
theorem zR {α β γ:Type}{l:List α}(hl:l.length≤BB){f:Int×Option (List β)×Bool→Option ((Int×Option (List β)×Bool)⊕(Int×Option (List β)×Bool))}{g:α→Option β}{p:α→γ}{q:β→γ}(hg:∀x∈l,∃y,g x=I y∧q y=p x)
  (hf:∀s,f s=cond (decide (s.1<(l.length:Int))) (qa (qr l s.1) fun x=>qa (g x) fun y=>cond s.2.2 (qa (bB s.2.1 [y]) fun v=>I (.inl (qe .i64 (s.1+1),v,Gr))) (cond s.2.1.isNone (qa (bB s.2.1 [y]) fun v=>I (.inl (qe .i64 (s.1+1),v,Gr))) Gq)) (I (.inr (s.1,s.2.1,s.2.2)))):
  ∃d,bu f (0,Gq,Ha)=I d∧(d.2.1.getD []).map q=l.map p:=by
 have key:∀(m:List α) (i:Nat) (a:List β),l.drop i=m→i≤l.length→a.length=i→∃d,bu f ((i:Int),jy a,gu a)=I d∧(d.2.1.getD []).map q=a.map q++m.map p:=by
  intro m
  induction m with
  |nil=>
   intro i a hm hi ha
   have he:i=l.length:=by
    have:=G9.1 hm;omega
   subst he
   refine⟨((l.length:Int),jy a,gu a),ko ?_,by simp only[zt,List.map_nil,List.append_nil]⟩
   rw[hf,zq];rfl
  |cons x m ih=>
   intro i a hm hi ha
   have hx:l[i]?=I x:=by
    have:=congrArg Jr hm
    rwa [Ik]at this
   have bw:i<l.length:=(Gj.1 hx).1
   have rS:l.drop (i+1)=m:=by rw[rL hx]at hm;exact(Lg.inj hm).2
   obtain⟨y,hy,hyq⟩:=hg x (Gd hx)
   obtain⟨d,d1,d2⟩:=ih (i+1) (a++[y]) rS bw (by rw[Ga,ha];rfl)
   refine⟨d,?_,?_⟩
   ·rw[oh (s':=(((i+1:Nat):Int),jy (a++[y]),gu (a++[y])))]
    ·exact d1
    ·rw[hf]
     simp only[yc bw,cond_true,q9 hx,qa,hy]
     rw[show(qe .i64 ((i:Int)+1))=((i+1:Nat):Int)from Mb (by omega)]
     have:=wL (a:=a) (x:=y) (k:=fun v=>I (Sum.inl (((i+1:Nat):Int),v,Gr):(Int×Option (List β)×Bool)⊕(Int×Option (List β)×Bool))) (by unfold BB at hl;omega)
     rw[show gu (a++[y])=Gr by cases a<;>rfl]
     exact this
   ·rw[d2,Gn,List.append_assoc,He,He,hyq];rfl
 obtain⟨d,d1,d2⟩:=key l 0 [] rfl (Hc _) rfl
 exact⟨d,d1,d2⟩
theorem q70 {a:bf}(l1:(a.aB.getD []).length≤BB)(l2:(a.aA.getD []).length≤BB):∃r,BQ a=I r∧r.er=a.er:=by
 obtain⟨d,d1,d2⟩:=zR (l:=a.aB.getD []) l1 (f:=Iy a) (g:=some) (p:=id) (q:=id) (fun x _=>⟨x,rfl,rfl⟩) (fun s=>rfl)
 obtain⟨d',d3,d4⟩:=zR (l:=a.aA.getD []) l2 (f:=Iz a d) (g:=some) (p:=id) (q:=id) (fun x _=>⟨x,rfl,rfl⟩) (fun s=>rfl)
 refine⟨⟨d.2.1,d'.2.1⟩,?_,?_⟩
 ·unfold BQ
  rw[d1];simp only[qa,d3]
 ·show gq.mk _ _=gq.mk _ _
  rw[G8,G8]at d2 d4
  rw[d2,d4]
theorem js4 {a:aC}(l1:(a.aH.getD []).length≤BB)(l2:(a.dn.getD []).length≤BB)(sd:(a.dt.getD []).length≤BB)(oA:∀d∈a.aH.getD [],(d.aB.getD []).length≤BB∧(d.aA.getD []).length≤BB):∃r,f58 a=I r∧r.er=a.er:=by
 obtain⟨v,v1,v2⟩:=q70 (a:=⟨a.dn,a.dt⟩) l2 sd
 obtain⟨d,d1,d2⟩:=zR (l:=a.aH.getD []) l1 (f:=IA a v) (g:=BQ) (p:=bf.er) (q:=bf.er) (fun x hx=>q70 (oA x hx).1 (oA x hx).2) (fun s=>rfl)
 refine⟨⟨a.name,v.aB,v.aA,d.2.1⟩,?_,?_⟩
 ·unfold f58
  rw[v1];simp only[qa,d1]
 ·have e:=Uo v2
  show cZ.mk _ _ _=cZ.mk _ _ _
  rw[d2]
  show cZ.mk _ ⟨v.aB.getD [],v.aA.getD []⟩ _=_
  rw[e.1,e.2]
theorem jq7 {a:bg}(l1:(a.uses.getD []).length≤BB)(l2:(a.results.getD []).length≤BB):∃r,f59 a=I r∧r.er=a.er:=by
 obtain⟨d,d1,d2⟩:=zR (l:=a.uses.getD []) l1 (f:=IB a) (g:=some) (p:=id) (q:=id) (fun x _=>⟨x,rfl,rfl⟩) (fun s=>rfl)
 obtain⟨d',d3,d4⟩:=zR (l:=a.results.getD []) l2 (f:=IC a d) (g:=some) (p:=id) (q:=id) (fun x _=>⟨x,rfl,rfl⟩) (fun s=>rfl)
 refine⟨⟨a.name,a.product,a.version,d.2.1,d'.2.1,a.partner,a.ar,a.ah⟩,?_,?_⟩
 ·unfold f59
  rw[d1];simp only[qa,d3]
 ·show bq.mk _ _ _ _ _ _ _ _=bq.mk _ _ _ _ _ _ _ _
  rw[G8,G8]at d2 d4
  rw[d2,d4]
theorem Mi {a:ak}(g:GB a):∃r,f18 a=I r∧r.er=a.er:=by
 obtain⟨d,d1,d2⟩:=zR (l:=a.au.getD []) g.L (f:=IE a) (g:=some) (p:=id) (q:=id) (fun x _=>⟨x,rfl,rfl⟩) (fun s=>rfl)
 obtain⟨d',d3,d4⟩:=zR (l:=a.ae.getD []) g.P (f:=IF a d) (g:=f58) (p:=aC.er) (q:=aC.er) (fun x hx=>js4 (g.D x hx).1 (g.D x hx).2.1 (g.D x hx).2.2.1 (g.D x hx).2.2.2) (fun s=>rfl)
 obtain⟨d'',d5,d6⟩:=zR (l:=a.units.getD []) g.U (f:=IG a d d') (g:=f59) (p:=bg.er) (q:=bg.er) (fun x hx=>jq7 (g.N x hx).1 (g.N x hx).2) (fun s=>rfl)
 refine⟨⟨a.day,d.2.1,d'.2.1,d''.2.1⟩,?_,?_⟩
 ·unfold f18
  rw[d1];simp only[qa,d3,d5]
 ·show bm.mk _ _ _ _=bm.mk _ _ _ _
  rw[G8,G8]at d2
  rw[d2,d4,d6]
theorem jsk {l n}(hn:n≤1000):∃b,f12 l (n:Int)=I b∧(b=Gr→(l.getD []).length≤n∧∀e∈l.getD [],oX e):=by
 unfold f12
 by_cases h:n<(l.getD []).length
 ·rw[decide_eq_true (by omega)]
  exact⟨Ha,rfl,fun h=>by cases h⟩
 ·rw[decide_eq_false (by omega),cond_false]
  rcases Up (l.getD []) (BR l) (fun _ e=>oX e) (by unfold BR;rw[zq];rfl) (fun i x hx=>by
   have hi:i<(l.getD []).length:=(Gj.1 hx).1
   unfold BR
   simp only[yc hi,cond_true,q9 hx,qa]
   by_cases h1:40<(x.kind.length:Int)
   ·rw[decide_eq_true h1];exact .inr ⟨_,rfl⟩
   rw[decide_eq_false h1,cond_false]
   by_cases h2:6<((x.names.getD []).length:Int)
   ·rw[decide_eq_true h2];exact .inr ⟨_,rfl⟩
   rw[decide_eq_false h2,cond_false]
   by_cases h3:8<((x.values.getD []).length:Int)
   ·rw[decide_eq_true h3];exact .inr ⟨_,rfl⟩
   rw[decide_eq_false h3,cond_false]
   by_cases h4:200<(x.text.length:Int)
   ·rw[decide_eq_true h4];exact .inr ⟨_,rfl⟩
   rw[decide_eq_false h4,cond_false]
   have hb:oX x:=⟨by unfold SM;omega,by unfold SM;omega⟩
   rcases Up (x.names.getD []) (BS l (i:Int)) (fun _ _=>True) (by unfold BS;simp only[q9 hx,qa];rw[zq];rfl) (fun j y hy=>by
    have hj:j<(x.names.getD []).length:=(Gj.1 hy).1
    unfold BS
    simp only[q9 hx,qa,yc hj,cond_true,q9 hy]
    by_cases h5:40<(y.length:Int)
    ·rw[decide_eq_true h5];exact .inr ⟨_,rfl⟩
    rw[decide_eq_false h5,cond_false,ye (by omega)]
    exact .inl ⟨rfl,trivial⟩)with⟨e,he⟩|⟨he,_⟩
   ·rw[he];exact .inr ⟨_,rfl⟩
   ·rw[he]
    refine .inl ⟨?_,hb⟩
    simp only[]
    rw[ye (by omega)])with⟨e,he⟩|⟨he,hall⟩
  ·rw[he]
   exact⟨Ha,rfl,fun h=>by cases h⟩
  ·rw[he]
   refine⟨Gr,rfl,fun _=>⟨by omega,fun e hm=>?_⟩⟩
   obtain⟨i,hi⟩:=List.getElem?_of_mem hm
   exact hall i e hi
theorem ob {α β:Type}{x:α}{f:α→Option β}:qa (I x) f=f x:=rfl
end Go.Z
namespace Go.Z
open Go Go.Abs Go.W
theorem jd8:∀ x∈cP,x.1=iX∨0<x.2.2:=by decide
theorem j5x {e}(hc:zb e=0)(hu:e.kind≠iX):∃v t,e.values=v::t:=by
 obtain⟨_,f,h1,_,h3⟩:=Ij hc
 have hm:(e.kind,f.1,f.2)∈cP:=by
  unfold yt at h1
  cases hf:cP.find? (fun x=>decide (x.1=e.kind))with
  |none=>rw[hf]at h1;cases h1
  |some x=>
   rw[hf]at h1
   cases h1
   have:=List.find?_some hf
   rw[←of_decide_eq_true this]
   exact List.mem_of_find?_eq_some hf
 rcases jd8 _ hm with h|h
 ·exact absurd h hu
 ·cases hv:e.values with
  |cons v t=>exact⟨v,t,rfl⟩
  |nil=>rw[hv]at h3;simp at h3;have h:0<f.2:=h;omega
def jmw (day:Int):Except (Int×Int) yp→bm×Int
 | .error x=>(yz,x.2)
 | .ok h=>if day<0∨999999999<day then(yz,3)else(IH (qe .i64) day h.1,0)
theorem q75 {e:GEv}(hc:zb e.er=0)(hu:e.er.kind≠iX):qr (e.values.getD []) 0=I (vl e.er 0):=by
 obtain⟨v,t,hv⟩:=j5x hc hu
 have hv:e.values.getD []=v::t:=hv
 rw[gR hv,TN hv]
theorem jdr {l:List GEv}(p:dV→Bool):(l.filter fun e=>p e.er).map GEv.er=(l.map GEv.er).filter p:=by
 rw[List.filter_map];rfl
theorem q8h {h:yp}{day:Int}(k2:dD (qe .i64) h){ct:Option (List GEv)}{st:Option (List ak)}(c1:h.1=(ct.getD []).map GEv.er)(c2:h.2=(st.getD []).map ak.er)(cT:(ct.getD []).length≤SM):
  ∃r,(qa (f60 day 0 999999999) fun v3=>qa (f46 (I [0,v3])) fun v5=>cond (decide (v5=0)) (qa (f61 ct day) fun v8=>qa (qr (st.getD []) ((v8.1.getD []).length:Int)) fun v10=>I (v10,(0:Int))) (I (⟨0,Gq,Gq,Gq⟩,v5)))=I r∧(r.1.er,r.2)=jmw day (.ok h):=by
 have f2:∀a b:Int,f46 (I [a,b])=I (gB [a,b]):=fun a b=>iY (by simp[SM])
 rw[Eh,ob,f2,ob]
 by_cases hd:day<0∨999999999<day
 ·rw[if_pos hd]
  refine⟨(⟨0,Gq,Gq,Gq⟩,3),rfl,?_⟩
  show _=ite _ _ _
  rw[if_pos hd];rfl
 ·rw[if_neg hd]
  have hf:f61 ct day=I (jy ((ct.getD []).filter fun e=>decide (vl e.er 0≤day)),gu ((ct.getD []).filter fun e=>decide (vl e.er 0≤day))):=by
   unfold f61
   rw[LU (f:=II ct day) (l:=ct.getD []) (p:=fun e=>decide (vl e.er 0≤day)) (q:=fun e=>f62 e day) cT (fun e he=>by
    have:=k2.kinds e.er (by rw[c1];exact Gt he)
    unfold f62
    rw[q75 this.1 this.2];rfl) (fun s=>rfl)]
   rfl
  have ha:=k2.oZ day
  have hl:(h.1.filter fun e=>decide (vl e 0≤day)).length=((ct.getD []).filter fun e=>decide (vl e.er 0≤day)).length:=by
   rw[c1,←jdr (fun e=>decide (vl e 0≤day)),Gh]
  rw[hl,c2,Gi]at ha
  cases hq:(st.getD [])[((ct.getD []).filter fun e=>decide (vl e.er 0≤day)).length]? with
  |none=>rw[hq]at ha;cases ha
  |some r=>
   rw[hq]at ha
   refine⟨(r,0),?_,?_⟩
   ·rw[hf,show decide (gB [0,0]=0)=Gr from rfl,cond_true,ob]
    simp only[zt]
    rw[q9 hq];rfl
   ·have ha:r.er=IH (qe .i64) day h.1:=by simpa using ha
    show(r.er,(0:Int))=ite _ _ _
    rw[if_neg hd,ha]
theorem jt8 {l:Option (List GEv)}{day:Int}(hb:∀e∈l.getD [],oX e):∃r,f19 l day=I r∧(r.1.er,r.2)=jmw day (run (qe .i64) ((l.getD []).map GEv.er)):=by
 obtain⟨d,d1,d2⟩:=Ug hb
 unfold f19 Mj
 rw[d1,ob]
 cases hr:run (qe .i64) ((l.getD []).map GEv.er)with
 |error x=>
  rw[hr]at d2
  obtain⟨rfl,k⟩:=d2
  have f2:∀a b:Int,f46 (I [a,b])=I (gB [a,b]):=fun a b=>iY (by simp[SM])
  have h0:∀y:Int,gB [x.2,y]=x.2:=fun y=>by simp[gB,k]
  simp only[ob,Eh,f2,h0,decide_eq_false k,cond_false]
  exact⟨_,rfl,rfl⟩
 |ok h=>
  rw[hr]at d2
  obtain⟨o,rfl,k1,k2,k3,k4⟩:=d2
  cases o with
  |none=>
   have e1:h=([],[yz]):=k1.1
   exact q8h (ct:=none) (st:=I [dX]) k2 (by rw[e1];rfl) (by rw[e1];rfl) (by simp[SM])
  |some v=>
   obtain⟨r1,r2,r3,r4,r5,r6⟩:=k1
   have hc:decide (v.lc≤v.cs.length∧v.ls≤v.ss.length)=Gr:=decide_eq_true ⟨by omega,by omega⟩
   have hH:h.1.length=v.lc:=by rw[r3,Gh,Ge];omega
   show ∃r,qa (cond (decide (v.lc≤v.cs.length∧v.ls≤v.ss.length)) _ _) _=_∧_
   rw[hc,cond_true,ob]
   refine q8h (ct:=I (v.cs.take v.lc)) (st:=I (v.ss.take v.ls)) k2 r3 r4 ?_
   show(v.cs.take v.lc).length≤SM
   rw[Ge]
   unfold SM;omega
theorem jh6 {h}(k2:dD (qe .i64) h)(day:Int){i e}(he:h.1[i]?=I e):vl e 0≤day↔i<(h.1.filter fun e=>decide (vl e 0≤day)).length:=by
 have hp:=Uq (p:=fun e=>decide (vl e 0≤day)) (l:=h.1) (fun i j x y n6 hx hy hp=>by
  have h1:=k2.gw i x hx (j-i) y (by rw[show i+(j-i)=j by omega];exact hy)
  simp at hp ⊢;omega)
 generalize hm:(h.1.filter fun e=>decide (vl e 0≤day)).length=m at hp
 constructor
 ·intro hle
  have hs:(h.1.take (i+1)).filter (fun e=>decide (vl e 0≤day))=h.1.take (i+1):=by
   rw[List.filter_eq_self]
   intro x hx
   obtain⟨j,hj,hx⟩:=List.getElem_of_mem hx
   rw[Ge]at hj
   rw[List.getElem_take]at hx
   have h1:=k2.gw j x (by rw[←hx];exact Gm (by omega)) (i-j) e (by rw[show j+(i-j)=i by omega];exact he)
   simp;omega
  have hl:(h.1.take (i+1)).length≤m:=by
   rw[←hs,←hm]
   exact Ny.length_le (Ny.filter _ (List.take_sublist _ _))
  rw[Ge]at hl
  have:=(Gj.1 he).1
  omega
 ·intro bw
  have hx:e∈h.1.filter (fun e=>decide (vl e 0≤day)):=by
   rw[hp]
   exact Gd (i:=i) (by rw[List.getElem?_take_of_lt bw];exact he)
  simpa using(List.mem_filter.1 hx).2
end Go.Z
namespace Go.Z
open Go Go.Abs Go.W
structure iK (l:Option (List GEv))(h:yp):Prop where
 hb:∀e∈l.getD [],oX e
 hr:run (qe .i64) ((l.getD []).map GEv.er)=.ok h
theorem iK.ok {l h}(j:iK l h):dD (qe .i64) h:=jdi j.hr
theorem iK.sb {l h}(j:iK l h):SB h.1.length (now h)∧h.1.length≤BB:=by
 obtain⟨d,d1,d2⟩:=Uk j.hb
 rw[j.hr]at d2
 obtain⟨s,q,rfl,k1,k2,k3,k4,k5⟩:=d2
 exact⟨k4 _ _ k3.now,by unfold BB;omega⟩
theorem iK.hbs {l h}(j:iK l h):HB h∧h.1.length≤1000:=by
 obtain⟨d,d1,d2⟩:=Uk j.hb
 rw[j.hr]at d2
 obtain⟨s,q,rfl,k1,k2,k3,k4,k5⟩:=d2
 exact⟨k4,k5⟩
theorem iK.gb {l h}(j:iK l h){g:ak}(he:g.er=now h):GB g:=SB.gb (by rw[he];exact j.sb.1) j.sb.2
theorem iK.wf {l h}(j:iK l h):WF (now h):=j.ok.rW
theorem iK.Ml {l h}(j:iK l h):iC (now h):=j.ok.BT
theorem iK.cr {l h}(j:iK l h):∃g,f16 l=I (g,0,0)∧g.er=now h∧GB g:=by
 obtain⟨⟨g,i,bad⟩,p1,p2⟩:=jv4 j.hb
 rw[j.hr]at p2
 have h1:g.er=now h:=congrArg Prod.fst p2
 have h2:i=0:=congrArg (fun x=>x.2.1) p2
 have h3:bad=0:=congrArg (fun x=>x.2.2) p2
 subst h2 h3
 exact⟨g,p1,h1,j.gb h1⟩
theorem iK.oZ {l h}(j:iK l h){day:Int}(h0:0≤day)(h1:day≤999999999):∃g,f19 l day=I (g,0)∧h.2[(h.1.filter fun e=>decide (vl e 0≤day)).length]?=I g.er∧GB g:=by
 obtain⟨⟨g,c⟩,p1,p2⟩:=jt8 (day:=day) j.hb
 rw[j.hr]at p2
 have p2:(g.er,c)=if day<0∨999999999<day then(yz,3)else(IH (qe .i64) day h.1,0):=p2
 rw[if_neg (by omega)]at p2
 have e1:g.er=IH (qe .i64) day h.1:=congrArg Prod.fst p2
 have e2:c=0:=congrArg Prod.snd p2
 subst e2
 have ha:=j.ok.oZ day
 rw[←e1]at ha
 have hle:(h.1.filter fun e=>decide (vl e 0≤day)).length≤h.1.length:=Jk _ _
 exact⟨g,p1,ha,SB.gb (j.hbs.1 _ _ ha) (by have:=j.hbs.2;unfold BB;omega)⟩
theorem iK.take {l:List GEv}{h}(j:iK (I l) h)(m:Nat)(hm:m≤l.length):∃q,iK (I (l.take m)) q:=by
 have hr:=j.hr
 simp only[Gs]at hr
 rw[←List.take_append_drop m l,Gn]at hr
 obtain⟨q,q1,_⟩:=Mm hr
 exact⟨q,fun e he=>j.hb e (List.mem_of_mem_take he),q1⟩
end Go.Z
namespace Go.Z
open Go Go.Abs Go.W
theorem q46 {σ δ:Type}{f:σ→Option (σ⊕δ)}(st:Nat→σ){n:Nat}{d:δ}(hs:∀i,i<n→f (st i)=I (.inl (st (i+1))))(he:f (st n)=I (.inr d)):bu f (st 0)=I d:=by
 have key:∀(k i:Nat),i+k=n→bu f (st i)=I d:=by
  intro k
  induction k with
  |zero=>intro i hi;rw[show i=n by omega];exact ko he
  |succ k ih=>intro i hi;rw[oh (hs i (by omega))];exact ih (i+1) (by omega)
 exact key n 0 (by omega)
theorem jo7 {i n:Nat}(h:i<n)(hn:n≤SM):qe .i64 ((i:Int)+1)=((i+1:Nat):Int):=ye (by unfold SM at hn;omega)
theorem jui {l n}(hn:n≤1000):∃b,f11 l (n:Int)=I b∧(b=Gr→(l.getD []).length≤n∧∃h,iK l h):=by
 obtain⟨b1,h1,k1⟩:=jsk (l:=l) hn
 unfold f11
 rw[h1,ob]
 cases b1 with
 |false=>exact⟨Ha,rfl,fun h=>by cases h⟩
 |true=>
  obtain⟨l1,hb⟩:=k1 rfl
  obtain⟨⟨g,i,bad⟩,p1,p2⟩:=jrx hb
  rw[p1,cond_true,ob]
  refine⟨_,rfl,fun h=>⟨l1,?_⟩⟩
  have h:bad=0:=by simpa using h
  subst h
  cases hr:run (qe .i64) ((l.getD []).map GEv.er)with
  |ok q=>exact⟨q,hb,hr⟩
  |error x=>
   exfalso
   rw[hr]at p2
   obtain⟨d,d1,d2⟩:=Ug hb
   rw[hr]at d2
   exact d2.2 (congrArg (fun x=>x.2.2) p2).symm
end Go.Z
namespace Go.Z
open Go Go.Abs Go.W
theorem jdl:wV (qe .i64):=fun n h1 h2=>by
 obtain⟨k,rfl⟩:=Int.eq_ofNat_of_zero_le h1
 cases k with
 |zero=>rfl
 |succ m=>
  show qe .i64 ((m:Int)+1)=((m+1:Nat):Int)
  exact ye (by omega)
end Go.Z
