/- Chapter 10, plain. -/
import Derived.Test.YtimdocpnkimlfaaGreatDoorEC
import Derived.Test.YtimdocpnkimlfaaGreatDoorVB
set_option linter.unusedVariables false
set_option linter.unusedSimpArgs false
set_option maxRecDepth 100000
set_option maxHeartbeats 4000000
open Nat renaming le_trans→I,le_refl→Gt
open List renaming length_append→En,length_singleton→Ey,length_take→Gn,mem_of_getElem?→Gp,length_map→Gq,length_set→Gv,getElem?_map→Gw,mem_map_of_mem→Gy,mem_append→Gz,take_of_length_le→G0,map_dropLast→G1,not_mem_nil→G2,map_append→G6
open Option renaming some→Gs,getD_some→G5
namespace Go.Z
open Go Go.Abs Go.W
structure SB (n:Nat)(r:ju):Prop where
 L:r.lots.length≤n
 P:r.ae.length≤n
 U:r.units.length≤n
 D:∀p∈r.ae,p.aM.length≤n∧p.bU.aK.length≤n∧p.bU.az.length≤n∧∀d∈p.aM,d.aK.length≤n∧d.az.length≤n
 N:∀u∈r.units,u.uses.length≤n∧u.results.length≤n
theorem SB.mono {n m r}(h:SB n r)(hm:n≤m):SB m r:=
 ⟨I h.L hm,I h.P hm,I h.U hm,fun p hp=>⟨I (h.D p hp).1 hm,I (h.D p hp).2.1 hm,I (h.D p hp).2.2.1 hm,fun d hd=>⟨I ((h.D p hp).2.2.2 d hd).1 hm,I ((h.D p hp).2.2.2 d hd).2 hm⟩⟩,fun u hu=>⟨I (h.N u hu).1 hm,I (h.N u hu).2 hm⟩⟩
theorem SB.empty:SB 0 mb:=⟨Gt _,Gt _,Gt _,fun p (hp:p∈([]:List lj))=>absurd hp G2,fun u (hu:u∈([]:List aW))=>absurd hu G2⟩
theorem SB.gb {n r}(h:SB n r.er)(hn:n≤BB):GB r:=by
 refine⟨I h.L hn,?_,?_,fun p hp=>?_,fun u hu=>?_⟩
 ·have:=h.P;rw[rZ,Gq]at this;exact I this hn
 ·have:=h.U;rw[mX,Gq]at this;exact I this hn
 ·obtain⟨h1,h2,h3,h4⟩:=h.D p.er (by rw[rZ];exact Gy hp)
  have h1':(p.aM.getD []).length≤n:=by
   have:((p.aM.getD []).map bL.er).length≤n:=h1
   rwa [Gq]at this
  refine⟨I h1' hn,I h2 hn,I h3 hn,fun d hd=>?_⟩
  obtain⟨h5,h6⟩:=h4 d.er (Gy hd)
  exact⟨I h5 hn,I h6 hn⟩
 ·obtain⟨h1,h2⟩:=h.N u.er (by rw[mX];exact Gy hu)
  exact⟨I h1 hn,I h2 hn⟩
theorem SB.bK {n r}(h:SB n r){i p}(hp:p.aM.length≤n∧p.bU.aK.length≤n∧p.bU.az.length≤n∧∀d∈p.aM,d.aK.length≤n∧d.az.length≤n):SB n (bK r i p):=
 ⟨h.L,by show(r.ae.set i p).length≤n;rw[Gv];exact h.P,h.U,fun q hq=>by
  rcases xh hq with hq|rfl
  ·exact h.D q hq
  ·exact hp,h.N⟩
theorem SB.av {n r}(h:SB n r){i u}(hu:u.uses.length≤n∧u.results.length≤n):SB n (av r i u):=
 ⟨h.L,h.P,by show(r.units.set i u).length≤n;rw[Gv];exact h.U,h.D,fun q hq=>by
  rcases xh hq with hq|rfl
  ·exact h.N q hq
  ·exact hu⟩
theorem SB.cj {n r}(h:SB n r){i x}:SB n (cj r i x):=
 ⟨by show(r.lots.set i x).length≤n;rw[Gv];exact h.L,h.P,h.U,h.D,h.N⟩
theorem q0j {α:Type}{p:α→Bool}{x l n}(h:l.length≤n):(kg p x l).length≤n+1:=by
 unfold kg
 split
 ·rw[Gv];omega
 ·rw[En,Ey];omega
theorem jc4 {w l k x n}(h:l.length≤n):(jT w l k x).length≤n+1:=by
 unfold jT
 split
 ·split
  ·rw[Gv];omega
  ·omega
 ·rw[En,Ey];omega
theorem jkv {w:Int→Int}{n:Nat}{r r' e}(h:SB n r)(ha:apply w r e=.ok r'):SB (n+1) r':=by
 have h':=h.mono (Nat.le_succ n)
 unfold apply at ha
 split at ha
 ·unfold l6 at ha
  split at ha
  ·repeat' split at ha
   all_goals first|(cases ha;done)|skip
   cases ha
   exact⟨by show(r.lots++[_]).length≤_;rw[En,Ey];have:=h.L;omega,h'.P,h'.U,h'.D,h'.N⟩
  split at ha
  ·repeat' split at ha
   all_goals first|(cases ha;done)|skip
   cases ha
   refine⟨h'.L,by show(r.ae++[_]).length≤_;rw[En,Ey];have:=h.P;omega,h'.U,fun p hp=>?_,h'.N⟩
   rcases Gz.1 hp with hp|hp
   ·exact h'.D p hp
   ·simp at hp;subst hp;simp
  ·split at ha
   ·cases ha
   repeat' split at ha
   all_goals first|(cases ha;done)|skip
   cases ha
   refine⟨h'.L,h'.P,by show(r.units++[_]).length≤_;rw[En,Ey];have:=h.U;omega,h'.D,fun p hp=>?_⟩
   rcases Gz.1 hp with hp|hp
   ·exact h'.N p hp
   ·simp at hp;subst hp;simp
 split at ha
 ·unfold ku at ha
  split at ha
  ·cases ha
  split at ha
  ·cases ha
  rename_i p hp
  have hD:=h.D p (Gp hp)
  have oE:=h'.D p (Gp hp)
  repeat' split at ha
  all_goals first|(cases ha;done)|skip
  ·cases ha
   refine h'.bK ⟨oE.1,?_,oE.2.2.1,oE.2.2.2⟩
   show(k9 p.bU.aK _ _).length≤_
   unfold k9
   split
   ·exact I (List.length_filter_le _ _) oE.2.1
   ·exact q0j hD.2.1
  ·cases ha
   exact h'.bK ⟨oE.1,oE.2.1,q0j hD.2.2.1,oE.2.2.2⟩
  ·cases ha
   refine h'.bK ⟨by show(p.aM++[_]).length≤_;rw[En,Ey];have:=hD.1;omega,oE.2.1,oE.2.2.1,fun d hd=>?_⟩
   rcases Gz.1 hd with hd|hd
   ·exact oE.2.2.2 d hd
   ·simp at hd;subst hd;exact⟨oE.2.1,oE.2.2.1⟩
 split at ha
 ·unfold pk at ha
  split at ha
  ·cases ha
  split at ha
  ·cases ha
  repeat' split at ha
  all_goals first|(cases ha;done)|skip
  all_goals (cases ha;exact h'.cj)
 ·unfold lF at ha
  split at ha
  ·cases ha
  split at ha
  ·cases ha
  rename_i u hu
  have hN:=h.N u (Gp hu)
  have wh:=h'.N u (Gp hu)
  split at ha
  ·unfold qC at ha
   split at ha
   ·cases ha
   split at ha
   ·cases ha
   repeat' split at ha
   all_goals first|(cases ha;done)|skip
   cases ha
   exact h'.cj.av ⟨jc4 hN.1,wh.2⟩
  split at ha
  ·unfold qD at ha
   split at ha
   ·cases ha
   split at ha
   ·cases ha
   rename_i v hv
   have hV':=h'.N v (Gp hv)
   repeat' split at ha
   all_goals first|(cases ha;done)|skip
   cases ha
   exact(h'.av (u:={ u with partner:=v.name }) ⟨wh.1,wh.2⟩).av (u:={ v with partner:=u.name }) ⟨hV'.1,hV'.2⟩
  split at ha
  ·repeat' split at ha
   all_goals first|(cases ha;done)|skip
   cases ha
   exact h'.av ⟨wh.1,by show(u.results++[_]).length≤_;rw[En,Ey];have:=hN.2;omega⟩
  split at ha
  ·split at ha
   ·cases ha
   split at ha
   ·cases ha
   split at ha
   ·cases ha
   ·cases ha
    exact h'.av ⟨wh.1,wh.2⟩
  split at ha
  ·split at ha
   ·cases ha
   ·cases ha
    exact h'.av ⟨wh.1,wh.2⟩
  ·split at ha
   ·cases ha
   ·cases ha
    exact h'.av ⟨wh.1,wh.2⟩
theorem jm2 {w n r r' e}(h:SB n r)(ha:after w r e=.ok r'):SB (n+1) r':=by
 unfold after at ha
 split at ha
 ·cases ha
 split at ha
 ·cases ha
 rename_i r1 h1
 cases ha
 have:=jkv h h1
 exact⟨this.L,this.P,this.U,this.D,this.N⟩
def HB (h:kl):Prop:=∀(j:Nat) (r:ju),h.2[j]?=Gs r→SB j r
theorem HB.empty:HB ([],[mb]):=by
 intro j r hr
 cases j with
 |zero=>simp at hr;subst hr;exact SB.empty
 |succ j=>simp at hr
theorem HB.accept {w h h' k e}(o:eH w h)(b:HB h)(ha:Go.W.accept w h k e=.ok h'):HB h':=by
 unfold Go.W.accept at ha
 split at ha
 ·cases ha
 split at ha
 ·split at ha
  ·cases ha
  split at ha
  ·cases ha
  ·cases ha
   intro j r hr
   simp only[List.getElem?_dropLast]at hr
   split at hr
   ·exact b j r hr
   ·cases hr
 ·split at ha
  ·cases ha
  ·rename_i r' h1
   cases ha
   intro j r hr
   have hn:=o.now
   have hlen:=o.len
   simp only at hr
   by_cases hj:j<h.2.length
   ·rw[List.getElem?_append_left hj]at hr;exact b j r hr
   ·rw[List.getElem?_append_right (by omega)]at hr
    have hj2:j=h.1.length+1:=by
     cases hd:j-h.2.length with
     |zero=>omega
     |succ d=>rw[hd]at hr;simp at hr
    subst hj2
    rw[hlen,Nat.sub_self]at hr
    simp at hr
    subst hr
    exact jm2 (b _ _ hn) h1
end Go.Z
namespace Go.Z
open Go Go.Abs Go.W
def Aj (n:Nat)(h:kl):Option HV→Prop
 |none=>h=([],[mb])∧n=0
 |some v=>v.lc≤v.cs.length∧v.ls≤v.ss.length∧h.1=(v.cs.take v.lc).map GEv.er∧h.2=(v.ss.take v.ls).map aj.er∧v.ev.length=n∧v.lc≤n
def Yc (n:Nat)(h:kl)(c:Int)(s:Option HV):Except Int kl→Prop
 | .error x=>c=x∧x≠0∧Aj n h s
 | .ok h'=>c=0∧Aj (n+1) h' s
theorem Yd {α:Type}{xs:List α}{len x}(h1:len≤xs.length)(h2:len≤BB):sk xs len x=Gs (xs.take len++[x]):=by
 unfold sk
 rw[if_pos ⟨h1,by unfold BB at h2;omega⟩]
theorem Ye {n}(h:n≤BB):qe .i64 ((n:Int)+1)=((n+1:Nat):Int):=yh (by unfold BB at h;omega)
theorem NE {n}(h:n≤BB)(h0:0<n):qe .i64 ((n:Int)-1)=((n-1:Nat):Int):=by
 obtain⟨m,rfl⟩:∃m,n=m+1:=⟨n-1,by omega⟩
 have:=q0p (i:=m) (by unfold BB at h;omega)
 rw[this];rfl
theorem qs4 {α:Type}{l:List α}{k}(h:k≤l.length):(l.take k).dropLast=l.take (k-1):=by
 rw[List.dropLast_eq_take,Gn,List.take_take]
 congr 1;omega
theorem Yf {a b}:f46 (Gs [a,b])=Gs (ie [a,b]):=jH (by simp[SM])
theorem jjj {e}(hc:zf e.er=0):∃c s',JA e=Gs (c,s')∧Yc 0 ([],[mb]) c s' (Go.W.accept (qe .i64) ([],[mb]) (0+1) e.er):=by
 unfold JA Go.W.accept
 rw[show qe .i64 1=1 from rfl,show e.er.number=e.number from rfl,show e.er.kind=e.kind from rfl,show((0:Int)+1)=1 from rfl]
 by_cases h1:e.number=1
 ·rw[decide_eq_true h1,if_neg (fun h=>h h1)]
  simp only[cond_true]
  by_cases h2:e.kind=mT
  ·rw[show decide (e.kind=([117,110,100,111]:List UInt8))=true from decide_eq_true h2,if_pos h2]
   simp only[cond_true,kI,qa,Yf]
   exact⟨_,_,rfl,rfl,by decide,rfl,rfl⟩
  ·rw[show decide (e.kind=([117,110,100,111]:List UInt8))=false from decide_eq_false h2,if_neg h2]
   have hw:WF fo.er:=WF.empty 0
   obtain⟨r',c,g1,g2⟩:=q9j (r:=fo) (SB.empty.gb (r:=fo) (Nat.zero_le _)) hw hc h2
   simp only[cond_false,g1,qa]
   rw[show now ([],[mb])=fo.er from rfl]
   cases ha:after (qe .i64) fo.er e.er with
   |error k=>
    rw[ha]at g2
    obtain⟨rfl,g3⟩:=g2
    rw[decide_eq_false g3]
    exact⟨_,_,rfl,rfl,g3,rfl,rfl⟩
   |ok s=>
    rw[ha]at g2
    obtain⟨rfl,rfl⟩:=g2
    exact⟨_,_,rfl,rfl,Gt _,Gt _,rfl,rfl,rfl,Gt _⟩
 ·rw[decide_eq_false h1,if_pos h1]
  exact⟨_,_,rfl,rfl,by decide,rfl,rfl⟩
theorem jqc {v:HV}{n:Nat}{h e}(hr:Aj n h (Gs v))(o:eH (qe .i64) h)(b:HB h)(hn:n<BB)(hc:zf e.er=0):∃c s',NF (Gs v) e=Gs (c,s')∧Yc n h c s' (Go.W.accept (qe .i64) h ((n:Int)+1) e.er):=by
 obtain⟨r1,r2,r3,r4,r5,r6⟩:=hr
 have iy:h.1.length=v.lc:=by rw[r3,Gq,Gn];omega
 have oU:h.2.length=v.ls:=by rw[r4,Gq,Gn];omega
 have NG:v.ls=v.lc+1:=by rw[←iy,←oU];exact o.len
 have hO:sk v.ev v.ev.length e=Gs (v.ev++[e]):=by rw[Yd (Gt _) (by omega),List.take_length]
 show ∃c s',(qa (JB v e) fun q=>Gs (q.1,Gs q.2))=Gs (c,s')∧_
 unfold JB Go.W.accept
 rw[show e.er.number=e.number from rfl,show e.er.kind=e.kind from rfl,r5,Ye (by omega)]
 by_cases h1:e.number=((n+1:Nat):Int)
 case neg=>
  rw[decide_eq_false h1,if_pos (show e.number≠(n:Int)+1 from h1)]
  exact⟨_,_,rfl,rfl,by decide,r1,r2,r3,r4,r5,r6⟩
 rw[decide_eq_true h1,if_neg (show ¬e.number≠(n:Int)+1 from fun hh=>hh h1)]
 simp only[cond_true]
 by_cases h2:e.kind=mT
 ·rw[show decide (e.kind=([117,110,100,111]:List UInt8))=true from decide_eq_true h2,if_pos h2]
  simp only[cond_true,kI,qa]
  by_cases h3:v.lc=0
  ·have h4:h.1=[]:=List.eq_nil_of_length_eq_zero (by rw[iy,h3])
   rw[h4]
   simp only[h3,show decide (((0:Nat):Int)=0)=true from rfl,show decide ((0:Int)<((0:Nat):Int))=false from rfl,cond_false,Yf]
   exact⟨_,_,rfl,rfl,by decide,r1,r2,r3,r4,r5,r6⟩
  ·have gR:0<v.lc:=by omega
   rw[decide_eq_false (show ¬(v.lc:Int)=0 by omega),decide_eq_true (show(0:Int)<(v.lc:Int) by omega),NE (by omega) gR]
   obtain⟨x,hx⟩:∃x,(v.cs.take v.lc)[v.lc-1]?=Gs x:=⟨_,List.getElem?_eq_getElem (by rw[Gn];omega)⟩
   have mL:max 0 ((v.lc-1:Nat):Int)=((v.lc-1:Nat):Int):=by omega
   have sn:h.1.getLast?=Gs x.er:=by
    rw[List.getLast?_eq_getElem?,iy,r3,Gw,hx];rfl
   rw[mL,sn]
   simp only[cond_true,jb hx,Yf]
   by_cases h5:x.kind=kw
   ·rw[if_pos (show x.er.kind=kw from h5),show decide (x.kind=([115,104,105,112]:List UInt8))=true from decide_eq_true h5]
    exact⟨_,_,rfl,rfl,by decide,r1,r2,r3,r4,r5,r6⟩
   ·rw[if_neg (show ¬x.er.kind=kw from h5),show decide (x.kind=([115,104,105,112]:List UInt8))=false from decide_eq_false h5]
    rw[r5]at hO
    simp only[Bool.false_eq_true,if_false,show decide (ie [0,0]=0)=true from rfl,cond_true]
    rw[decide_eq_true (show(0:Int)≤((v.lc-1:Nat):Int)∧((v.lc-1:Nat):Int)≤(v.lc:Int)∧v.lc≤v.ls by omega)]
    simp only[cond_true,hO]
    have Yg:((v.lc-1:Nat):Int).toNat=v.lc-1:=Int.toNat_natCast _
    refine⟨_,_,rfl,rfl,by show((v.lc-1:Nat):Int).toNat≤v.cs.length;rw[Yg];omega,by show v.lc≤v.ss.length;omega,?_,?_,by show(v.ev++[e]).length=_;rw[En,r5];rfl,by show((v.lc-1:Nat):Int).toNat≤n+1;rw[Yg];omega⟩
    ·show h.1.dropLast=(v.cs.take ((v.lc-1:Nat):Int).toNat).map GEv.er
     rw[Yg,r3,←G1,qs4 r1]
    ·show h.2.dropLast=(v.ss.take v.lc).map aj.er
     rw[r4,←G1,qs4 r2,NG];rfl
 ·rw[show decide (e.kind=([117,110,100,111]:List UInt8))=false from decide_eq_false h2,if_neg h2]
  have dY:=o.now
  rw[iy,r4,Gw]at dY
  cases hr:(v.ss.take v.ls)[v.lc]? with
  |none=>rw[hr]at dY;cases dY
  |some r=>
   rw[hr]at dY
   have wN:r.er=now h:=by simpa using dY
   have Yh:SB v.lc r.er:=b v.lc r.er (by rw[r4,Gw,hr];rfl)
   have hwf:WF r.er:=by rw[wN];exact o.su
   obtain⟨r',c,g1,g2⟩:=q9j (Yh.gb (by omega)) hwf hc h2
   have hi:qe .i64 ((v.ls:Int)-1)=(v.lc:Int):=by rw[NE (by omega) (by omega),NG];rfl
   rw[hi]
   simp only[cond_false,jb hr,g1,qa]
   rw[wN]at g2
   cases ha:after (qe .i64) (now h) e.er with
   |error k=>
    rw[ha]at g2
    obtain⟨rfl,g3⟩:=g2
    rw[decide_eq_false g3]
    exact⟨_,_,rfl,rfl,g3,r1,r2,r3,r4,r5,r6⟩
   |ok s=>
    rw[ha]at g2
    obtain⟨rfl,rfl⟩:=g2
    rw[r5]at hO
    rw[Yd r1 (by omega),Yd r2 (by omega)]
    simp only[hO,show decide ((0:Int)=0)=true from rfl,cond_true]
    refine⟨_,_,rfl,rfl,?_,?_,?_,?_,by show(v.ev++[e]).length=_;rw[En,r5];rfl,by show v.lc+1≤n+1;omega⟩
    ·show v.lc+1≤(v.cs.take v.lc++[e]).length
     rw[En,Gn,Ey];omega
    ·show v.ls+1≤(v.ss.take v.ls++[r']).length
     rw[En,Gn,Ey];omega
    ·show h.1++[e.er]=((v.cs.take v.lc++[e]).take (v.lc+1)).map GEv.er
     rw[G0 (by rw[En,Gn,Ey];omega),G6,r3];rfl
    ·show h.2++[r'.er]=((v.ss.take v.ls++[r']).take (v.ls+1)).map aj.er
     rw[G0 (by rw[En,Gn,Ey];omega),G6,r4];rfl
theorem jq0 {s n h e}(hr:Aj n h s)(o:eH (qe .i64) h)(b:HB h)(hn:n<BB)(hc:zf e.er=0):∃c s',NF s e=Gs (c,s')∧Yc n h c s' (Go.W.accept (qe .i64) h ((n:Int)+1) e.er):=by
 cases s with
 |some v=>exact jqc hr o b hn hc
 |none=>
  obtain⟨rfl,rfl⟩:=hr
  exact jjj hc
end Go.Z
namespace Go.Z
open Go Go.Abs Go.W
def qF (e:GEv):Prop:=(e.names.getD []).length≤SM∧(e.values.getD []).length≤SM
theorem jf0 {α:Type}{o:Option (List α)}(h:(o.getD []).length≤SM):∃q b,(cond o.isNone (Gs (none,false)) (qa (bH (Gs []) (o.getD [])) fun v2=>Gs (v2,true)):Option (Option (List α)×Bool))=Gs (q,b)∧q.getD []=o.getD []:=by
 cases o with
 |none=>exact⟨none,false,rfl,rfl⟩
 |some l=>
  have:bH (Gs []) l=Gs (Gs l):=by
   unfold bH
   simp only[G5,List.nil_append]
   rw[if_pos (by simpa using h)]
   rfl
  exact⟨Gs l,true,by simp only[Option.isNone_some,cond_false,G5,this,qa],rfl⟩
theorem jyj {e:GEv}(h:qF e):∃e',f50 e=Gs e'∧e'.er=e.er∧qF e':=by
 obtain⟨q1,b1,h1,k1⟩:=jf0 (o:=e.names) h.1
 obtain⟨q2,b2,h2,k2⟩:=jf0 (o:=e.values) h.2
 refine⟨⟨e.number,e.kind,q1,q2,e.text⟩,?_,?_,?_⟩
 ·unfold f50
  rw[show NH e.names=Gs (q1,b1)from h1,show NI e.values=Gs (q2,b2)from h2]
  cases b1<;>cases b2<;>rfl
 ·show ek.mk _ _ _ _ _=ek.mk _ _ _ _ _
  simp only[k1,k2]
 ·exact⟨by show(q1.getD []).length≤_;rw[k1];exact h.1,by show(q2.getD []).length≤_;rw[k2];exact h.2⟩
def zkq (n:Nat):Except (Int×Int) kl→(Int×Int×Option HV)⊕(Int×Option HV)→Prop
 | .error x,d=>∃s,d=.inl (x.1,x.2,s)∧x.2≠0
 | .ok h,d=>∃o,d=.inr ((n:Int),o)∧Aj n h o∧eH (qe .i64) h∧HB h
theorem jf5 {l}(hb:∀e∈l.getD [],qF e)(hl:(l.getD []).length≤BB):∀(m:List GEv) (i:Nat) (h:kl) (s:Option HV),(l.getD []).drop i=m→i≤(l.getD []).length→Aj i h s→eH (qe .i64) h→HB h→∃d,bm (Cv l) ((i:Int),s)=Gs d∧zkq (l.getD []).length (yp (qe .i64) i h (m.map GEv.er)) d
 | [],i,h,s,hm,hi,hr,o,b=>by
  have he:i=(l.getD []).length:=by
   have:=List.drop_eq_nil_iff.1 hm;omega
  subst he
  refine⟨.inr (((l.getD []).length:Int),s),ki ?_,s,rfl,hr,o,b⟩
  unfold Cv
  rw[zr];rfl
 |e::m,i,h,s,hm,hi,hr,o,b=>by
  have hx:(l.getD [])[i]?=Gs e:=by
   have:=congrArg List.head? hm
   rwa [List.head?_drop]at this
  have br:i<(l.getD []).length:=(List.getElem?_eq_some_iff.1 hx).1
  have Af:(l.getD []).drop (i+1)=m:=by rw[rW hx]at hm;exact(List.cons.inj hm).2
  have FD:=hb e (Gp hx)
  have hw:qe .i64 ((i:Int)+1)=((i+1:Nat):Int):=Ye (by omega)
  have cK:Cv l ((i:Int),s)=cond (decide (zf e.er=0)) (qa (f50 e) fun e2=>qa (NF s e2) fun q=>cond (decide (q.1=0)) (Gs (.inl (((i+1:Nat):Int),q.2))) (Gs (.inr (.inl (((i+1:Nat):Int),q.1,q.2))))) (Gs (.inr (.inl (((i+1:Nat):Int),zf e.er,s)))):=by
   unfold Cv
   simp only[ye br,cond_true,jb hx,qa,jxf FD.1 FD.2,hw]
  rw[List.map_cons]
  simp only[yp]
  by_cases hc:zf e.er=0
  case neg=>
   rw[if_pos hc]
   refine⟨.inl (((i+1:Nat):Int),zf e.er,s),ki ?_,s,rfl,hc⟩
   rw[cK,decide_eq_false hc];rfl
  rw[if_neg (fun h=>h hc)]
  obtain⟨e',g1,g2,g3⟩:=jyj FD
  obtain⟨c,s',k1,k2⟩:=jq0 (e:=e') hr o b (by omega) (by rw[g2];exact hc)
  rw[g2]at k2
  rw[decide_eq_true hc,cond_true,g1]at cK
  simp only[qa,k1]at cK
  cases ha:Go.W.accept (qe .i64) h ((i:Int)+1) e.er with
  |error x=>
   rw[ha]at k2
   obtain⟨rfl,k3,k4⟩:=k2
   rw[decide_eq_false k3]at cK
   exact⟨.inl (((i+1:Nat):Int),c,s'),ki cK,s',rfl,k3⟩
  |ok h'=>
   rw[ha]at k2
   obtain⟨rfl,k4⟩:=k2
   rw[decide_eq_true (rfl:(0:Int)=0)]at cK
   obtain⟨d,d1,d2⟩:=jf5 hb hl m (i+1) h' s' Af br k4 (o.accept hc ha) (b.accept o ha)
   exact⟨d,by rw[oA cK];exact d1,d2⟩
def zhy (n:Nat):Except (Int×Int) kl→(Int×Int)⊕Option HV→Prop
 | .error x,d=>d=.inl x∧x.2≠0
 | .ok h,d=>∃o,d=.inr o∧Aj n h o∧eH (qe .i64) h∧HB h∧n≤1000
theorem je5 {l}(hb:∀e∈l.getD [],qF e):∃d,f45 l=Gs d∧zhy (l.getD []).length (run (qe .i64) ((l.getD []).map GEv.er)) d:=by
 unfold f45 run
 rw[Gq]
 by_cases h:1000<(l.getD []).length
 ·rw[decide_eq_true (by omega),if_pos h]
  exact⟨_,rfl,rfl,by decide⟩
 ·rw[decide_eq_false (by omega),if_neg h,cond_false]
  obtain⟨d,d1,d2⟩:=jf5 hb (by unfold BB;omega) (l.getD []) 0 ([],[mb]) none rfl (Nat.zero_le _) ⟨rfl,rfl⟩ eH.empty HB.empty
  rw[show(0:Int)=((0:Nat):Int)from rfl,d1]
  cases hr:yp (qe .i64) 0 ([],[mb]) ((l.getD []).map GEv.er)with
  |error x=>
   rw[hr]at d2
   obtain⟨s,rfl,k⟩:=d2
   exact⟨_,rfl,rfl,k⟩
  |ok h'=>
   rw[hr]at d2
   obtain⟨o,rfl,k1,k2,k3⟩:=d2
   exact⟨_,rfl,o,rfl,k1,k2,k3,by omega⟩
theorem jrf {n h o}(hr:Aj n h o)(k:eH (qe .i64) h)(hn:n≤1000):∃r,jub o=Gs r∧r.er=now h:=by
 cases o with
 |none=>
  obtain⟨rfl,rfl⟩:=hr
  exact⟨fo,rfl,rfl⟩
 |some v=>
  obtain⟨r1,r2,r3,r4,r5,r6⟩:=hr
  have iy:h.1.length=v.lc:=by rw[r3,Gq,Gn];omega
  have oU:h.2.length=v.ls:=by rw[r4,Gq,Gn];omega
  have NG:v.ls=v.lc+1:=by rw[←iy,←oU];exact k.len
  have hi:qe .i64 ((v.ls:Int)-1)=(v.lc:Int):=by rw[NE (by unfold BB;omega) (by omega),NG];rfl
  have dY:=k.now
  rw[iy,r4,Gw]at dY
  cases hq:(v.ss.take v.ls)[v.lc]? with
  |none=>rw[hq]at dY;cases dY
  |some r=>
   rw[hq]at dY
   exact⟨r,by show qr (v.ss.take v.ls) (qe .i64 ((v.ls:Int)-1))=Gs r;rw[hi];exact jb hq,by simpa using dY⟩
def joq:Except (Int×Int) kl→ju×Int×Int
 | .error x=>(mb,x.1,x.2)
 | .ok h=>(now h,0,0)
theorem jt4 {l}(hb:∀e∈l.getD [],qF e):∃r,f16 l=Gs r∧(r.1.er,r.2)=joq (run (qe .i64) ((l.getD []).map GEv.er)):=by
 obtain⟨d,d1,d2⟩:=je5 hb
 unfold f16
 rw[d1]
 cases hr:run (qe .i64) ((l.getD []).map GEv.er)with
 |error x=>
  rw[hr]at d2
  obtain⟨rfl,k⟩:=d2
  refine⟨(fo,x.1,x.2),?_,rfl⟩
  simp only[qa]
  rw[decide_eq_false k];rfl
 |ok h=>
  rw[hr]at d2
  obtain⟨o,rfl,k1,k2,k3,k4⟩:=d2
  obtain⟨r,q1,q2⟩:=jrf k1 k2 k4
  refine⟨(r,0,0),?_,?_⟩
  ·simp only[qa,q1]
  ·rw[q2];rfl
end Go.Z
