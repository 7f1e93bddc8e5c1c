/- Chapter 10, plain. -/
import Derived.Test.YtfopaakmgogpiaaGreatDoorEC
import Derived.Test.YtfopaakmgogpiaaGreatDoorVB
import Derived.Test.YtfopaakmgogpiaaGreatDoorV9
set_option linter.unusedVariables false
set_option linter.unusedSimpArgs false
set_option maxRecDepth 100000
set_option maxHeartbeats 4000000
open Nat renaming le_trans→I,le_refl→E7
open List renaming length_append→En,length_singleton→E0,length_take→E1,mem_of_getElem?→E4,length_map→E6,length_set→E9,getElem?_map→Ga,mem_map_of_mem→Gb,mem_append→Gc,take_of_length_le→Gd,map_dropLast→Ge,not_mem_nil→Gm,map_append→Gz
open Option renaming some→E3,getD_some→Gy
namespace Go.Z
open Go Go.Abs Go.W
structure SB (n:Nat)(r:qu):Prop where
 L:r.au.length≤n
 P:r.ae.length≤n
 U:r.units.length≤n
 D:∀p∈r.ae,p.aH.length≤n∧p.bJ.ax.length≤n∧p.bJ.aw.length≤n∧∀d∈p.aH,d.ax.length≤n∧d.aw.length≤n
 N:∀u∈r.units,u.uses.length≤n∧u.results.length≤n
theorem SB.mono {n m:Nat}{r:qu}(h:SB n r)(hm:n≤m):SB m r:=
 ⟨I h.L hm,I h.P hm,I h.U hm,fun p hp=>⟨I (h.D p hp).1 hm,I (h.D p hp).2.1 hm,I (h.D p hp).2.2.1 hm,fun d hd=>⟨I ((h.D p hp).2.2.2 d hd).1 hm,I ((h.D p hp).2.2.2 d hd).2 hm⟩⟩,fun u hu=>⟨I (h.N u hu).1 hm,I (h.N u hu).2 hm⟩⟩
theorem SB.empty:SB 0 lL:=⟨E7 _,E7 _,E7 _,fun p (hp:p∈([]:List jd))=>absurd hp Gm,fun u (hu:u∈([]:List qz))=>absurd hu Gm⟩
theorem SB.gb {n:Nat}{r:qc}(h:SB n r.er)(hn:n≤BB):GB r:=by
 refine⟨I h.L hn,?_,?_,fun p hp=>?_,fun u hu=>?_⟩
 ·have:=h.P;rw[xB,E6]at this;exact I this hn
 ·have:=h.U;rw[Av,E6]at this;exact I this hn
 ·obtain⟨h1,h2,h3,h4⟩:=h.D p.er (by rw[xB];exact Gb hp)
  have h1':(p.aH.getD []).length≤n:=by
   have:((p.aH.getD []).map qr.er).length≤n:=h1
   rwa [E6]at this
  refine⟨I h1' hn,I h2 hn,I h3 hn,fun d hd=>?_⟩
  obtain⟨h5,h6⟩:=h4 d.er (Gb hd)
  exact⟨I h5 hn,I h6 hn⟩
 ·obtain⟨h1,h2⟩:=h.N u.er (by rw[Av];exact Gb hu)
  exact⟨I h1 hn,I h2 hn⟩
theorem SB.bG {n:Nat}{r:qu}(h:SB n r){i:Nat}{p:jd}(hp:p.aH.length≤n∧p.bJ.ax.length≤n∧p.bJ.aw.length≤n∧∀d∈p.aH,d.ax.length≤n∧d.aw.length≤n):SB n (bG r i p):=
 ⟨h.L,by show(r.ae.set i p).length≤n;rw[E9];exact h.P,h.U,fun q hq=>by
  rcases xV hq with hq|rfl
  ·exact h.D q hq
  ·exact hp,h.N⟩
theorem SB.aA {n:Nat}{r:qu}(h:SB n r){i:Nat}{u:qz}(hu:u.uses.length≤n∧u.results.length≤n):SB n (aA r i u):=
 ⟨h.L,h.P,by show(r.units.set i u).length≤n;rw[E9];exact h.U,h.D,fun q hq=>by
  rcases xV hq with hq|rfl
  ·exact h.N q hq
  ·exact hu⟩
theorem SB.cj {n:Nat}{r:qu}(h:SB n r){i:Nat}{x:qk}:SB n (cj r i x):=
 ⟨by show(r.au.set i x).length≤n;rw[E9];exact h.L,h.P,h.U,h.D,h.N⟩
theorem q0a {α:Type}{p:α→Bool}{x:α}{l:List α}{n:Nat}(h:l.length≤n):(eX p x l).length≤n+1:=by
 unfold eX
 split
 ·rw[E9];omega
 ·rw[En,E0];omega
theorem q8r {w:Int→Int}{l:List qm}{k:List UInt8}{x:Int}{n:Nat}(h:l.length≤n):(mW w l k x).length≤n+1:=by
 unfold mW
 split
 ·split
  ·rw[E9];omega
  ·omega
 ·rw[En,E0];omega
theorem jdx {w:Int→Int}{n:Nat}{r r':qu}{e:je}(h:SB n r)(ha:apply w r e=.ok r'):SB (n+1) r':=by
 have h':=h.mono (Nat.le_succ n)
 unfold apply at ha
 split at ha
 ·unfold oA at ha
  split at ha
  ·repeat' split at ha
   all_goals first|(cases ha;done)|skip
   cases ha
   exact⟨by show(r.au++[_]).length≤_;rw[En,E0];have:=h.L;omega,h'.P,h'.U,h'.D,h'.N⟩
  split at ha
  ·repeat' split at ha
   all_goals first|(cases ha;done)|skip
   cases ha
   refine⟨h'.L,by show(r.ae++[_]).length≤_;rw[En,E0];have:=h.P;omega,h'.U,fun p hp=>?_,h'.N⟩
   rcases Gc.1 hp with hp|hp
   ·exact h'.D p hp
   ·simp at hp;subst hp;simp
  ·split at ha
   ·cases ha
   repeat' split at ha
   all_goals first|(cases ha;done)|skip
   cases ha
   refine⟨h'.L,h'.P,by show(r.units++[_]).length≤_;rw[En,E0];have:=h.U;omega,h'.D,fun p hp=>?_⟩
   rcases Gc.1 hp with hp|hp
   ·exact h'.N p hp
   ·simp at hp;subst hp;simp
 split at ha
 ·unfold oB at ha
  split at ha
  ·cases ha
  split at ha
  ·cases ha
  rename_i p hp
  have hD:=h.D p (E4 hp)
  have nQ:=h'.D p (E4 hp)
  repeat' split at ha
  all_goals first|(cases ha;done)|skip
  ·cases ha
   refine h'.bG ⟨nQ.1,?_,nQ.2.2.1,nQ.2.2.2⟩
   show(iU p.bJ.ax _ _).length≤_
   unfold iU
   split
   ·exact I (List.length_filter_le _ _) nQ.2.1
   ·exact q0a hD.2.1
  ·cases ha
   exact h'.bG ⟨nQ.1,nQ.2.1,q0a hD.2.2.1,nQ.2.2.2⟩
  ·cases ha
   refine h'.bG ⟨by show(p.aH++[_]).length≤_;rw[En,E0];have:=hD.1;omega,nQ.2.1,nQ.2.2.1,fun d hd=>?_⟩
   rcases Gc.1 hd with hd|hd
   ·exact nQ.2.2.2 d hd
   ·simp at hd;subst hd;exact⟨nQ.2.1,nQ.2.2.1⟩
 split at ha
 ·unfold vM at ha
  split at ha
  ·cases ha
  split at ha
  ·cases ha
  repeat' split at ha
  all_goals first|(cases ha;done)|skip
  all_goals (cases ha;exact h'.cj)
 ·unfold oC at ha
  split at ha
  ·cases ha
  split at ha
  ·cases ha
  rename_i u hu
  have hN:=h.N u (E4 hu)
  have uR:=h'.N u (E4 hu)
  split at ha
  ·unfold xM at ha
   split at ha
   ·cases ha
   split at ha
   ·cases ha
   repeat' split at ha
   all_goals first|(cases ha;done)|skip
   cases ha
   exact h'.cj.aA ⟨q8r hN.1,uR.2⟩
  split at ha
  ·unfold xN at ha
   split at ha
   ·cases ha
   split at ha
   ·cases ha
   rename_i v hv
   have hV':=h'.N v (E4 hv)
   repeat' split at ha
   all_goals first|(cases ha;done)|skip
   cases ha
   exact(h'.aA (u:={ u with partner:=v.name }) ⟨uR.1,uR.2⟩).aA (u:={ v with partner:=u.name }) ⟨hV'.1,hV'.2⟩
  split at ha
  ·repeat' split at ha
   all_goals first|(cases ha;done)|skip
   cases ha
   exact h'.aA ⟨uR.1,by show(u.results++[_]).length≤_;rw[En,E0];have:=hN.2;omega⟩
  split at ha
  ·split at ha
   ·cases ha
   split at ha
   ·cases ha
   split at ha
   ·cases ha
   ·cases ha
    exact h'.aA ⟨uR.1,uR.2⟩
  split at ha
  ·split at ha
   ·cases ha
   ·cases ha
    exact h'.aA ⟨uR.1,uR.2⟩
  ·split at ha
   ·cases ha
   ·cases ha
    exact h'.aA ⟨uR.1,uR.2⟩
theorem jgt {w:Int→Int}{n:Nat}{r r':qu}{e:je}(h:SB n r)(ha:after w r e=.ok r'):SB (n+1) r':=by
 unfold after at ha
 split at ha
 ·cases ha
 split at ha
 ·cases ha
 rename_i r1 h1
 cases ha
 have:=jdx h h1
 exact⟨this.L,this.P,this.U,this.D,this.N⟩
def HB (h:fB):Prop:=∀(j:Nat) (r:qu),h.2[j]?=E3 r→SB j r
theorem HB.empty:HB ([],[lL]):=by
 intro j r hr
 cases j with
 |zero=>simp at hr;subst hr;exact SB.empty
 |succ j=>simp at hr
theorem HB.accept {w:Int→Int}{h h':fB}{k:Int}{e:je}(o:jf w h)(b:HB h)(ha:Go.W.accept w h k e=.ok h'):HB h':=by
 unfold Go.W.accept at ha
 split at ha
 ·cases ha
 split at ha
 ·split at ha
  ·cases ha
  split at ha
  ·cases ha
  ·cases ha
   intro j r hr
   simp only[List.getElem?_dropLast]at hr
   split at hr
   ·exact b j r hr
   ·cases hr
 ·split at ha
  ·cases ha
  ·rename_i r' h1
   cases ha
   intro j r hr
   have hn:=o.now
   have hlen:=o.len
   simp only at hr
   by_cases hj:j<h.2.length
   ·rw[List.getElem?_append_left hj]at hr;exact b j r hr
   ·rw[List.getElem?_append_right (by omega)]at hr
    have hj2:j=h.1.length+1:=by
     cases hd:j-h.2.length with
     |zero=>omega
     |succ d=>rw[hd]at hr;simp at hr
    subst hj2
    rw[hlen,Nat.sub_self]at hr
    simp at hr
    subst hr
    exact jgt (b _ _ hn) h1
end Go.Z
namespace Go.Z
open Go Go.Abs Go.W
def xW (n:Nat)(h:fB):Option HV→Prop
 |none=>h=([],[lL])∧n=0
 |some v=>v.lc≤v.cs.length∧v.ls≤v.ss.length∧h.1=(v.cs.take v.lc).map ql.er∧h.2=(v.ss.take v.ls).map qc.er∧v.ev.length=n∧v.lc≤n
def VF (n:Nat)(h:fB)(c:Int)(s:Option HV):Except Int fB→Prop
 | .error x=>c=x∧x≠0∧xW n h s
 | .ok h'=>c=0∧xW (n+1) h' s
theorem VG {α:Type}{xs:List α}{len:Nat}{x:α}(h1:len≤xs.length)(h2:len≤BB):qS xs len x=E3 (xs.take len++[x]):=by
 unfold qS
 rw[if_pos ⟨h1,by unfold BB at h2;omega⟩]
theorem Nz {n:Nat}(h:n≤BB):j6 .i64 ((n:Int)+1)=((n+1:Nat):Int):=il (by unfold BB at h;omega)
theorem NA {n:Nat}(h:n≤BB)(h0:0<n):j6 .i64 ((n:Int)-1)=((n-1:Nat):Int):=by
 obtain⟨m,rfl⟩:∃m,n=m+1:=⟨n-1,by omega⟩
 have:=qz6 (i:=m) (by unfold BB at h;omega)
 rw[this];rfl
theorem qt7 {α:Type}{l:List α}{k:Nat}(h:k≤l.length):(l.take k).dropLast=l.take (k-1):=by
 rw[List.dropLast_eq_take,E1,List.take_take]
 congr 1;omega
theorem VH {a b:Int}:f51 (E3 [a,b])=E3 (eW [a,b]):=iG (by simp[SM])
theorem jfe {e:ql}(hc:yt e.er=0):∃c s',vP e=E3 (c,s')∧VF 0 ([],[lL]) c s' (Go.W.accept (j6 .i64) ([],[lL]) (0+1) e.er):=by
 unfold vP Go.W.accept
 rw[show j6 .i64 1=1 from rfl,show e.er.number=e.number from rfl,show e.er.kind=e.kind from rfl,show((0:Int)+1)=1 from rfl]
 by_cases h1:e.number=1
 ·rw[dT h1,if_neg (fun h=>h h1)]
  simp only[cT]
  by_cases h2:e.kind=ou
  ·rw[show decide (e.kind=([117,110,100,111]:List UInt8))=true from dT h2,if_pos h2]
   simp only[cT,kU,jw,VH]
   exact⟨_,_,rfl,rfl,by decide,rfl,rfl⟩
  ·rw[show decide (e.kind=([117,110,100,111]:List UInt8))=false from dF h2,if_neg h2]
   have hw:WF dq.er:=WF.empty 0
   obtain⟨r',c,g1,g2⟩:=q6v (r:=dq) (SB.empty.gb (r:=dq) (Nat.zero_le _)) hw hc h2
   simp only[cond_false,g1,jw]
   rw[show now ([],[lL])=dq.er from rfl]
   cases ha:after (j6 .i64) dq.er e.er with
   |error k=>
    rw[ha]at g2
    obtain⟨rfl,g3⟩:=g2
    rw[dF g3]
    exact⟨_,_,rfl,rfl,g3,rfl,rfl⟩
   |ok s=>
    rw[ha]at g2
    obtain⟨rfl,rfl⟩:=g2
    exact⟨_,_,rfl,rfl,E7 _,E7 _,rfl,rfl,rfl,E7 _⟩
 ·rw[dF h1,if_pos h1]
  exact⟨_,_,rfl,rfl,by decide,rfl,rfl⟩
theorem jne {v:HV}{n:Nat}{h:fB}{e:ql}(hr:xW n h (E3 v))(o:jf (j6 .i64) h)(b:HB h)(hn:n<BB)(hc:yt e.er=0):∃c s',Ho (E3 v) e=E3 (c,s')∧VF n h c s' (Go.W.accept (j6 .i64) h ((n:Int)+1) e.er):=by
 obtain⟨r1,r2,r3,r4,r5,r6⟩:=hr
 have gL:h.1.length=v.lc:=by rw[r3,E6,E1];omega
 have n9:h.2.length=v.ls:=by rw[r4,E6,E1];omega
 have NB:v.ls=v.lc+1:=by rw[←gL,←n9];exact o.len
 have eg:qS v.ev v.ev.length e=E3 (v.ev++[e]):=by rw[VG (E7 _) (by omega),List.take_length]
 show ∃c s',(jw (vQ v e) fun q=>E3 (q.1,E3 q.2))=E3 (c,s')∧_
 unfold vQ Go.W.accept
 rw[show e.er.number=e.number from rfl,show e.er.kind=e.kind from rfl,r5,Nz (by omega)]
 by_cases h1:e.number=((n+1:Nat):Int)
 case neg=>
  rw[dF h1,if_pos (show e.number≠(n:Int)+1 from h1)]
  exact⟨_,_,rfl,rfl,by decide,r1,r2,r3,r4,r5,r6⟩
 rw[dT h1,if_neg (show ¬e.number≠(n:Int)+1 from fun hh=>hh h1)]
 simp only[cT]
 by_cases h2:e.kind=ou
 ·rw[show decide (e.kind=([117,110,100,111]:List UInt8))=true from dT h2,if_pos h2]
  simp only[cT,kU,jw]
  by_cases h3:v.lc=0
  ·have h4:h.1=[]:=List.eq_nil_of_length_eq_zero (by rw[gL,h3])
   rw[h4]
   simp only[h3,show decide (((0:Nat):Int)=0)=true from rfl,show decide ((0:Int)<((0:Nat):Int))=false from rfl,cond_false,VH]
   exact⟨_,_,rfl,rfl,by decide,r1,r2,r3,r4,r5,r6⟩
  ·have gO:0<v.lc:=by omega
   rw[dF (show ¬(v.lc:Int)=0 by omega),dT (show(0:Int)<(v.lc:Int) by omega),NA (by omega) gO]
   obtain⟨x,hx⟩:∃x,(v.cs.take v.lc)[v.lc-1]?=E3 x:=⟨_,List.getElem?_eq_getElem (by rw[E1];omega)⟩
   have lY:max 0 ((v.lc-1:Nat):Int)=((v.lc-1:Nat):Int):=by omega
   have qT:h.1.getLast?=E3 x.er:=by
    rw[List.getLast?_eq_getElem?,gL,r3,Ga,hx];rfl
   rw[lY,qT]
   simp only[cT,z6 hx,VH]
   by_cases h5:x.kind=kE
   ·rw[if_pos (show x.er.kind=kE from h5),show decide (x.kind=([115,104,105,112]:List UInt8))=true from dT h5]
    exact⟨_,_,rfl,rfl,by decide,r1,r2,r3,r4,r5,r6⟩
   ·rw[if_neg (show ¬x.er.kind=kE from h5),show decide (x.kind=([115,104,105,112]:List UInt8))=false from dF h5]
    rw[r5]at eg
    simp only[Bool.false_eq_true,if_false,show decide (eW [0,0]=0)=true from rfl,cT]
    rw[dT (show(0:Int)≤((v.lc-1:Nat):Int)∧((v.lc-1:Nat):Int)≤(v.lc:Int)∧v.lc≤v.ls by omega)]
    simp only[cT,eg]
    have VI:((v.lc-1:Nat):Int).toNat=v.lc-1:=Int.toNat_natCast _
    refine⟨_,_,rfl,rfl,by show((v.lc-1:Nat):Int).toNat≤v.cs.length;rw[VI];omega,by show v.lc≤v.ss.length;omega,?_,?_,by show(v.ev++[e]).length=_;rw[En,r5];rfl,by show((v.lc-1:Nat):Int).toNat≤n+1;rw[VI];omega⟩
    ·show h.1.dropLast=(v.cs.take ((v.lc-1:Nat):Int).toNat).map ql.er
     rw[VI,r3,←Ge,qt7 r1]
    ·show h.2.dropLast=(v.ss.take v.lc).map qc.er
     rw[r4,←Ge,qt7 r2,NB];rfl
 ·rw[show decide (e.kind=([117,110,100,111]:List UInt8))=false from dF h2,if_neg h2]
  have dy:=o.now
  rw[gL,r4,Ga]at dy
  cases hr:(v.ss.take v.ls)[v.lc]? with
  |none=>rw[hr]at dy;cases dy
  |some r=>
   rw[hr]at dy
   have vt:r.er=now h:=by simpa using dy
   have VJ:SB v.lc r.er:=b v.lc r.er (by rw[r4,Ga,hr];rfl)
   have hwf:WF r.er:=by rw[vt];exact o.xX
   obtain⟨r',c,g1,g2⟩:=q6v (VJ.gb (by omega)) hwf hc h2
   have hi:j6 .i64 ((v.ls:Int)-1)=(v.lc:Int):=by rw[NA (by omega) (by omega),NB];rfl
   rw[hi]
   simp only[cond_false,z6 hr,g1,jw]
   rw[vt]at g2
   cases ha:after (j6 .i64) (now h) e.er with
   |error k=>
    rw[ha]at g2
    obtain⟨rfl,g3⟩:=g2
    rw[dF g3]
    exact⟨_,_,rfl,rfl,g3,r1,r2,r3,r4,r5,r6⟩
   |ok s=>
    rw[ha]at g2
    obtain⟨rfl,rfl⟩:=g2
    rw[r5]at eg
    rw[VG r1 (by omega),VG r2 (by omega)]
    simp only[eg,show decide ((0:Int)=0)=true from rfl,cT]
    refine⟨_,_,rfl,rfl,?_,?_,?_,?_,by show(v.ev++[e]).length=_;rw[En,r5];rfl,by show v.lc+1≤n+1;omega⟩
    ·show v.lc+1≤(v.cs.take v.lc++[e]).length
     rw[En,E1,E0];omega
    ·show v.ls+1≤(v.ss.take v.ls++[r']).length
     rw[En,E1,E0];omega
    ·show h.1++[e.er]=((v.cs.take v.lc++[e]).take (v.lc+1)).map ql.er
     rw[Gd (by rw[En,E1,E0];omega),Gz,r3];rfl
    ·show h.2++[r'.er]=((v.ss.take v.ls++[r']).take (v.ls+1)).map qc.er
     rw[Gd (by rw[En,E1,E0];omega),Gz,r4];rfl
theorem q6n {s:Option HV}{n:Nat}{h:fB}{e:ql}(hr:xW n h s)(o:jf (j6 .i64) h)(b:HB h)(hn:n<BB)(hc:yt e.er=0):∃c s',Ho s e=E3 (c,s')∧VF n h c s' (Go.W.accept (j6 .i64) h ((n:Int)+1) e.er):=by
 cases s with
 |some v=>exact jne hr o b hn hc
 |none=>
  obtain⟨rfl,rfl⟩:=hr
  exact jfe hc
end Go.Z
namespace Go.Z
open Go Go.Abs Go.W
def lM (e:ql):Prop:=(e.names.getD []).length≤SM∧(e.values.getD []).length≤SM
theorem ja4 {α:Type}{o:Option (List α)}(h:(o.getD []).length≤SM):∃q b,(cond o.isNone (E3 (none,false)) (jw (bh (E3 []) (o.getD [])) fun v2=>E3 (v2,true)):Option (Option (List α)×Bool))=E3 (q,b)∧q.getD []=o.getD []:=by
 cases o with
 |none=>exact⟨none,false,rfl,rfl⟩
 |some l=>
  have:bh (E3 []) l=E3 (E3 l):=by
   unfold bh
   simp only[Gy,List.nil_append]
   rw[if_pos (by simpa using h)]
   rfl
  exact⟨E3 l,true,by simp only[Option.isNone_some,cond_false,Gy,this,jw],rfl⟩
theorem jcv {e:ql}(h:lM e):∃e',f66 e=E3 e'∧e'.er=e.er∧lM e':=by
 obtain⟨q1,b1,h1,k1⟩:=ja4 (o:=e.names) h.1
 obtain⟨q2,b2,h2,k2⟩:=ja4 (o:=e.values) h.2
 refine⟨⟨e.number,e.kind,q1,q2,e.text⟩,?_,?_,?_⟩
 ·unfold f66
  rw[show f122 e.names=E3 (q1,b1)from h1,show f123 e.values=E3 (q2,b2)from h2]
  cases b1<;>cases b2<;>rfl
 ·show je.mk _ _ _ _ _=je.mk _ _ _ _ _
  simp only[k1,k2]
 ·exact⟨by show(q1.getD []).length≤_;rw[k1];exact h.1,by show(q2.getD []).length≤_;rw[k2];exact h.2⟩
def zcg (n:Nat):Except (Int×Int) fB→(Int×Int×Option HV)⊕(Int×Option HV)→Prop
 | .error x,d=>∃s,d=.inl (x.1,x.2,s)∧x.2≠0
 | .ok h,d=>∃o,d=.inr ((n:Int),o)∧xW n h o∧jf (j6 .i64) h∧HB h
theorem jde {l:Option (List ql)}(hb:∀e∈l.getD [],lM e)(hl:(l.getD []).length≤BB):∀(m:List ql) (i:Nat) (h:fB) (s:Option HV),(l.getD []).drop i=m→i≤(l.getD []).length→xW i h s→jf (j6 .i64) h→HB h→∃d,bf (vR l) ((i:Int),s)=E3 d∧zcg (l.getD []).length (lN (j6 .i64) i h (m.map ql.er)) d
 | [],i,h,s,hm,hi,hr,o,b=>by
  have he:i=(l.getD []).length:=by
   have:=List.drop_eq_nil_iff.1 hm;omega
  subst he
  refine⟨.inr (((l.getD []).length:Int),s),iT ?_,s,rfl,hr,o,b⟩
  unfold vR
  rw[kw];rfl
 |e::m,i,h,s,hm,hi,hr,o,b=>by
  have hx:(l.getD [])[i]?=E3 e:=by
   have:=congrArg List.head? hm
   rwa [List.head?_drop]at this
  have aY:i<(l.getD []).length:=(List.getElem?_eq_some_iff.1 hx).1
  have xR:(l.getD []).drop (i+1)=m:=by rw[qN hx]at hm;exact(List.cons.inj hm).2
  have Ef:=hb e (E4 hx)
  have hw:j6 .i64 ((i:Int)+1)=((i+1:Nat):Int):=Nz (by omega)
  have b9:vR l ((i:Int),s)=cond (decide (yt e.er=0)) (jw (f66 e) fun e2=>jw (Ho s e2) fun q=>cond (decide (q.1=0)) (E3 (.inl (((i+1:Nat):Int),q.2))) (E3 (.inr (.inl (((i+1:Nat):Int),q.1,q.2))))) (E3 (.inr (.inl (((i+1:Nat):Int),yt e.er,s)))):=by
   unfold vR
   simp only[fA aY,cT,z6 hx,jw,VD Ef.1 Ef.2,hw]
  rw[List.map_cons]
  simp only[lN]
  by_cases hc:yt e.er=0
  case neg=>
   rw[if_pos hc]
   refine⟨.inl (((i+1:Nat):Int),yt e.er,s),iT ?_,s,rfl,hc⟩
   rw[b9,dF hc];rfl
  rw[if_neg (fun h=>h hc)]
  obtain⟨e',g1,g2,g3⟩:=jcv Ef
  obtain⟨c,s',k1,k2⟩:=q6n (e:=e') hr o b (by omega) (by rw[g2];exact hc)
  rw[g2]at k2
  rw[dT hc,cT,g1]at b9
  simp only[jw,k1]at b9
  cases ha:Go.W.accept (j6 .i64) h ((i:Int)+1) e.er with
  |error x=>
   rw[ha]at k2
   obtain⟨rfl,k3,k4⟩:=k2
   rw[dF k3]at b9
   exact⟨.inl (((i+1:Nat):Int),c,s'),iT b9,s',rfl,k3⟩
  |ok h'=>
   rw[ha]at k2
   obtain⟨rfl,k4⟩:=k2
   rw[dT (rfl:(0:Int)=0)]at b9
   obtain⟨d,d1,d2⟩:=jde hb hl m (i+1) h' s' xR aY k4 (o.accept hc ha) (b.accept o ha)
   exact⟨d,by rw[oo b9];exact d1,d2⟩
def ze2 (n:Nat):Except (Int×Int) fB→(Int×Int)⊕Option HV→Prop
 | .error x,d=>d=.inl x∧x.2≠0
 | .ok h,d=>∃o,d=.inr o∧xW n h o∧jf (j6 .i64) h∧HB h∧n≤1000
theorem jc6 {l:Option (List ql)}(hb:∀e∈l.getD [],lM e):∃d,f47 l=E3 d∧ze2 (l.getD []).length (run (j6 .i64) ((l.getD []).map ql.er)) d:=by
 unfold f47 run
 rw[E6]
 by_cases h:1000<(l.getD []).length
 ·rw[dT (by omega),if_pos h]
  exact⟨_,rfl,rfl,by decide⟩
 ·rw[dF (by omega),if_neg h,cond_false]
  obtain⟨d,d1,d2⟩:=jde hb (by unfold BB;omega) (l.getD []) 0 ([],[lL]) none rfl (Nat.zero_le _) ⟨rfl,rfl⟩ jf.empty HB.empty
  rw[show(0:Int)=((0:Nat):Int)from rfl,d1]
  cases hr:lN (j6 .i64) 0 ([],[lL]) ((l.getD []).map ql.er)with
  |error x=>
   rw[hr]at d2
   obtain⟨s,rfl,k⟩:=d2
   exact⟨_,rfl,rfl,k⟩
  |ok h'=>
   rw[hr]at d2
   obtain⟨o,rfl,k1,k2,k3⟩:=d2
   exact⟨_,rfl,o,rfl,k1,k2,k3,by omega⟩
theorem jk4 {n:Nat}{h:fB}{o:Option HV}(hr:xW n h o)(k:jf (j6 .i64) h)(hn:n≤1000):∃r,jtg o=E3 r∧r.er=now h:=by
 cases o with
 |none=>
  obtain⟨rfl,rfl⟩:=hr
  exact⟨dq,rfl,rfl⟩
 |some v=>
  obtain⟨r1,r2,r3,r4,r5,r6⟩:=hr
  have gL:h.1.length=v.lc:=by rw[r3,E6,E1];omega
  have n9:h.2.length=v.ls:=by rw[r4,E6,E1];omega
  have NB:v.ls=v.lc+1:=by rw[←gL,←n9];exact k.len
  have hi:j6 .i64 ((v.ls:Int)-1)=(v.lc:Int):=by rw[NA (by unfold BB;omega) (by omega),NB];rfl
  have dy:=k.now
  rw[gL,r4,Ga]at dy
  cases hq:(v.ss.take v.ls)[v.lc]? with
  |none=>rw[hq]at dy;cases dy
  |some r=>
   rw[hq]at dy
   exact⟨r,by show zo (v.ss.take v.ls) (j6 .i64 ((v.ls:Int)-1))=E3 r;rw[hi];exact z6 hq,by simpa using dy⟩
def Hp:Except (Int×Int) fB→qu×Int×Int
 | .error x=>(lL,x.1,x.2)
 | .ok h=>(now h,0,0)
theorem j0z {l:Option (List ql)}(hb:∀e∈l.getD [],lM e):∃r,f9 l=E3 r∧(r.1.er,r.2)=Hp (run (j6 .i64) ((l.getD []).map ql.er)):=by
 obtain⟨d,d1,d2⟩:=jc6 hb
 unfold f9
 rw[d1]
 cases hr:run (j6 .i64) ((l.getD []).map ql.er)with
 |error x=>
  rw[hr]at d2
  obtain⟨rfl,k⟩:=d2
  refine⟨(dq,x.1,x.2),?_,rfl⟩
  simp only[jw]
  rw[dF k];rfl
 |ok h=>
  rw[hr]at d2
  obtain⟨o,rfl,k1,k2,k3,k4⟩:=d2
  obtain⟨r,q1,q2⟩:=jk4 k1 k2 k4
  refine⟨(r,0,0),?_,?_⟩
  ·simp only[jw,q1]
  ·rw[q2];rfl
def NC (r:Except (Int×Int) fB)(n:Nat)(e:je):Int:=match r with
 | .error x=>x.2
 | .ok h=>if yt e≠0 then yt e else if 1000≤n then 5 else match Go.W.accept (j6 .i64) h ((n:Int)+1) e with
  | .error x=>x
  | .ok _=>0
theorem jrs {l:Option (List ql)}{e:ql}(hb:∀e∈l.getD [],lM e)(he:lM e):f15 l e=E3 (NC (run (j6 .i64) ((l.getD []).map ql.er)) (l.getD []).length e.er):=by
 obtain⟨d,d1,d2⟩:=jc6 hb
 unfold f15 NC
 rw[d1,VD he.1 he.2]
 simp only[jw,kU]
 have f3:∀a b c:Int,f51 (E3 [a,b,c])=E3 (eW [a,b,c]):=fun a b c=>iG (by simp[SM])
 cases hr:run (j6 .i64) ((l.getD []).map ql.er)with
 |error x=>
  rw[hr]at d2
  obtain⟨rfl,k⟩:=d2
  simp only[f3,jw]
  have:eW [x.2,yt e.er,if decide (1000≤((l.getD []).length:Int))=true then 5 else 0]=x.2:=by simp[eW,k]
  rw[this,dF k];rfl
 |ok h=>
  rw[hr]at d2
  obtain⟨o,rfl,k1,k2,k3,k4⟩:=d2
  simp only[f3,jw]
  generalize hk:(if decide (1000≤((l.getD []).length:Int))=true then(5:Int)else 0)=kk
  by_cases hc:yt e.er=0
  case neg=>
   rw[if_pos hc]
   have:eW [0,yt e.er,kk]=yt e.er:=by simp[eW,hc]
   rw[this,dF hc];rfl
  rw[if_neg (fun h=>h hc)]
  by_cases hn:1000≤(l.getD []).length
  ·rw[if_pos hn]
   have:eW [0,yt e.er,kk]=5:=by
    rw[←hk,dT (by omega)];simp[eW,hc]
   rw[this];rfl
  ·rw[if_neg hn]
   have:eW [0,yt e.er,kk]=0:=by
    rw[←hk,dF (by omega)];simp[eW,hc]
   rw[this]
   obtain⟨e',g1,g2,g3⟩:=jcv he
   obtain⟨c,s',a1,a2⟩:=q6n (e:=e') k1 k2 k3 (by unfold BB;omega) (by rw[g2];exact hc)
   rw[g2]at a2
   simp only[decide_true,cT,g1,jw,a1]
   cases ha:Go.W.accept (j6 .i64) h (((l.getD []).length:Int)+1) e.er with
   |error x=>
    rw[ha]at a2
    rw[a2.1]
   |ok h'=>
    rw[ha]at a2
    rw[a2.1]
end Go.Z
