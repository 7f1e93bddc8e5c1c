/- Chapter 10, plain. -/
import Derived.Test.YtfopaakmgogpiaaGreatDoorEC
import Derived.Test.YtfopaakmgogpiaaGreatDoorVB
set_option linter.unusedVariables false
set_option linter.unusedSimpArgs false
set_option maxRecDepth 100000
set_option maxHeartbeats 4000000
open Nat renaming le_trans→I,le_refl→Ev
open List renaming length_append→Eh,length_singleton→Ek,length_take→En,mem_of_getElem?→Eo,length_map→Ep,length_set→Ga,getElem?_map→Gb,mem_map_of_mem→Gc,mem_append→Ge,take_of_length_le→Gf,map_dropLast→Gh,not_mem_nil→Gi,map_append→Gl
open Option renaming some→Eu,getD_some→Gk
namespace Go.Z
open Go Go.Abs Go.W
structure SB (n:Nat)(r:qu):Prop where
 L:r.ar.length≤n
 P:r.ae.length≤n
 U:r.units.length≤n
 D:∀p∈r.ae,p.aO.length≤n∧p.bK.aI.length≤n∧p.bK.aH.length≤n∧∀d∈p.aO,d.aI.length≤n∧d.aH.length≤n
 N:∀u∈r.units,u.uses.length≤n∧u.results.length≤n
theorem SB.mono {n m r}(h:SB n r)(hm:n≤m):SB m r:=
 ⟨I h.L hm,I h.P hm,I h.U hm,fun p hp=>⟨I (h.D p hp).1 hm,I (h.D p hp).2.1 hm,I (h.D p hp).2.2.1 hm,fun d hd=>⟨I ((h.D p hp).2.2.2 d hd).1 hm,I ((h.D p hp).2.2.2 d hd).2 hm⟩⟩,fun u hu=>⟨I (h.N u hu).1 hm,I (h.N u hu).2 hm⟩⟩
theorem SB.empty:SB 0 mH:=⟨Ev _,Ev _,Ev _,fun p (hp:p∈([]:List jj))=>absurd hp Gi,fun u (hu:u∈([]:List qz))=>absurd hu Gi⟩
theorem SB.gb {n r}(h:SB n r.er)(hn:n≤BB):GB r:=by
 refine⟨I h.L hn,?_,?_,fun p hp=>?_,fun u hu=>?_⟩
 ·have:=h.P;rw[yn,Ep]at this;exact I this hn
 ·have:=h.U;rw[rG,Ep]at this;exact I this hn
 ·obtain⟨h1,h2,h3,h4⟩:=h.D p.er (by rw[yn];exact Gc hp)
  have IJ:(p.aO.getD []).length≤n:=by
   have:((p.aO.getD []).map qt.er).length≤n:=h1
   rwa [Ep]at this
  refine⟨I IJ hn,I h2 hn,I h3 hn,fun d hd=>?_⟩
  obtain⟨h5,h6⟩:=h4 d.er (Gc hd)
  exact⟨I h5 hn,I h6 hn⟩
 ·obtain⟨h1,h2⟩:=h.N u.er (by rw[rG];exact Gc hu)
  exact⟨I h1 hn,I h2 hn⟩
theorem SB.bD {n r}(h:SB n r){i p}(hp:p.aO.length≤n∧p.bK.aI.length≤n∧p.bK.aH.length≤n∧∀d∈p.aO,d.aI.length≤n∧d.aH.length≤n):SB n (bD r i p):=
 ⟨h.L,by show(r.ae.set i p).length≤n;rw[Ga];exact h.P,h.U,fun q hq=>by
  rcases yP hq with hq|rfl
  ·exact h.D q hq
  ·exact hp,h.N⟩
theorem SB.aw {n r}(h:SB n r){i u}(hu:u.uses.length≤n∧u.results.length≤n):SB n (aw r i u):=
 ⟨h.L,h.P,by show(r.units.set i u).length≤n;rw[Ga];exact h.U,h.D,fun q hq=>by
  rcases yP hq with hq|rfl
  ·exact h.N q hq
  ·exact hu⟩
theorem SB.b8 {n r}(h:SB n r){i x}:SB n (b8 r i x):=
 ⟨by show(r.ar.set i x).length≤n;rw[Ga];exact h.L,h.P,h.U,h.D,h.N⟩
theorem q0t {α:Type}{p:α→Bool}{x l n}(h:l.length≤n):(eS p x l).length≤n+1:=by
 unfold eS
 split
 ·rw[Ga];omega
 ·rw[Eh,Ek];omega
theorem jbj {w l k x n}(h:l.length≤n):(mF w l k x).length≤n+1:=by
 unfold mF
 split
 ·split
  ·rw[Ga];omega
  ·omega
 ·rw[Eh,Ek];omega
theorem jf5 {w:Int→Int}{n:Nat}{r r' e}(h:SB n r)(ha:apply w r e=.ok r'):SB (n+1) r':=by
 have h':=h.mono (Nat.le_succ n)
 unfold apply at ha
 split at ha
 ·unfold n8 at ha
  split at ha
  ·repeat' split at ha
   all_goals first|(cases ha;done)|skip
   cases ha
   exact⟨by show(r.ar++[_]).length≤_;rw[Eh,Ek];have:=h.L;omega,h'.P,h'.U,h'.D,h'.N⟩
  split at ha
  ·repeat' split at ha
   all_goals first|(cases ha;done)|skip
   cases ha
   refine⟨h'.L,by show(r.ae++[_]).length≤_;rw[Eh,Ek];have:=h.P;omega,h'.U,fun p hp=>?_,h'.N⟩
   rcases Ge.1 hp with hp|hp
   ·exact h'.D p hp
   ·simp at hp;subst hp;simp
  ·split at ha
   ·cases ha
   repeat' split at ha
   all_goals first|(cases ha;done)|skip
   cases ha
   refine⟨h'.L,h'.P,by show(r.units++[_]).length≤_;rw[Eh,Ek];have:=h.U;omega,h'.D,fun p hp=>?_⟩
   rcases Ge.1 hp with hp|hp
   ·exact h'.N p hp
   ·simp at hp;subst hp;simp
 split at ha
 ·unfold n9 at ha
  split at ha
  ·cases ha
  split at ha
  ·cases ha
  rename_i p hp
  have hD:=h.D p (Eo hp)
  have od:=h'.D p (Eo hp)
  repeat' split at ha
  all_goals first|(cases ha;done)|skip
  ·cases ha
   refine h'.bD ⟨od.1,?_,od.2.2.1,od.2.2.2⟩
   show(jE p.bK.aI _ _).length≤_
   unfold jE
   split
   ·exact I (List.length_filter_le _ _) od.2.1
   ·exact q0t hD.2.1
  ·cases ha
   exact h'.bD ⟨od.1,od.2.1,q0t hD.2.2.1,od.2.2.2⟩
  ·cases ha
   refine h'.bD ⟨by show(p.aO++[_]).length≤_;rw[Eh,Ek];have:=hD.1;omega,od.2.1,od.2.2.1,fun d hd=>?_⟩
   rcases Ge.1 hd with hd|hd
   ·exact od.2.2.2 d hd
   ·simp at hd;subst hd;exact⟨od.2.1,od.2.2.1⟩
 split at ha
 ·unfold vo at ha
  split at ha
  ·cases ha
  split at ha
  ·cases ha
  repeat' split at ha
  all_goals first|(cases ha;done)|skip
  all_goals (cases ha;exact h'.b8)
 ·unfold oc at ha
  split at ha
  ·cases ha
  split at ha
  ·cases ha
  rename_i u hu
  have hN:=h.N u (Eo hu)
  have vw:=h'.N u (Eo hu)
  split at ha
  ·unfold wA at ha
   split at ha
   ·cases ha
   split at ha
   ·cases ha
   repeat' split at ha
   all_goals first|(cases ha;done)|skip
   cases ha
   exact h'.b8.aw ⟨jbj hN.1,vw.2⟩
  split at ha
  ·unfold wC at ha
   split at ha
   ·cases ha
   split at ha
   ·cases ha
   rename_i v hv
   have hV':=h'.N v (Eo hv)
   repeat' split at ha
   all_goals first|(cases ha;done)|skip
   cases ha
   exact(h'.aw (u:={ u with partner:=v.name }) ⟨vw.1,vw.2⟩).aw (u:={ v with partner:=u.name }) ⟨hV'.1,hV'.2⟩
  split at ha
  ·repeat' split at ha
   all_goals first|(cases ha;done)|skip
   cases ha
   exact h'.aw ⟨vw.1,by show(u.results++[_]).length≤_;rw[Eh,Ek];have:=hN.2;omega⟩
  split at ha
  ·split at ha
   ·cases ha
   split at ha
   ·cases ha
   split at ha
   ·cases ha
   ·cases ha
    exact h'.aw ⟨vw.1,vw.2⟩
  split at ha
  ·split at ha
   ·cases ha
   ·cases ha
    exact h'.aw ⟨vw.1,vw.2⟩
  ·split at ha
   ·cases ha
   ·cases ha
    exact h'.aw ⟨vw.1,vw.2⟩
theorem jh7 {w n r r' e}(h:SB n r)(ha:after w r e=.ok r'):SB (n+1) r':=by
 unfold after at ha
 split at ha
 ·cases ha
 split at ha
 ·cases ha
 rename_i r1 h1
 cases ha
 have:=jf5 h h1
 exact⟨this.L,this.P,this.U,this.D,this.N⟩
def HB (h:iQ):Prop:=∀(j:Nat) (r:qu),h.2[j]?=Eu r→SB j r
theorem HB.empty:HB ([],[mH]):=by
 intro j r hr
 cases j with
 |zero=>simp at hr;subst hr;exact SB.empty
 |succ j=>simp at hr
theorem HB.accept {w h h' k e}(o:jb w h)(b:HB h)(ha:Go.W.accept w h k e=.ok h'):HB h':=by
 unfold Go.W.accept at ha
 split at ha
 ·cases ha
 split at ha
 ·split at ha
  ·cases ha
  split at ha
  ·cases ha
  ·cases ha
   intro j r hr
   simp only[List.getElem?_dropLast]at hr
   split at hr
   ·exact b j r hr
   ·cases hr
 ·split at ha
  ·cases ha
  ·rename_i r' h1
   cases ha
   intro j r hr
   have hn:=o.now
   have hlen:=o.len
   simp only at hr
   by_cases hj:j<h.2.length
   ·rw[List.getElem?_append_left hj]at hr;exact b j r hr
   ·rw[List.getElem?_append_right (by omega)]at hr
    have hj2:j=h.1.length+1:=by
     cases hd:j-h.2.length with
     |zero=>omega
     |succ d=>rw[hd]at hr;simp at hr
    subst hj2
    rw[hlen,Nat.sub_self]at hr
    simp at hr
    subst hr
    exact jh7 (b _ _ hn) h1
end Go.Z
namespace Go.Z
open Go Go.Abs Go.W
def yQ (n:Nat)(h:iQ):Option HV→Prop
 |none=>h=([],[mH])∧n=0
 |some v=>v.lc≤v.cs.length∧v.ls≤v.ss.length∧h.1=(v.cs.take v.lc).map ql.er∧h.2=(v.ss.take v.ls).map qc.er∧v.ev.length=n∧v.lc≤n
def Xc (n:Nat)(h:iQ)(c:Int)(s:Option HV):Except Int iQ→Prop
 | .error x=>c=x∧x≠0∧yQ n h s
 | .ok h'=>c=0∧yQ (n+1) h' s
theorem Xd {α:Type}{xs:List α}{len x}(h1:len≤xs.length)(h2:len≤BB):rK xs len x=Eu (xs.take len++[x]):=by
 unfold rK
 rw[if_pos ⟨h1,by unfold BB at h2;omega⟩]
theorem Xe {n}(h:n≤BB):j6 .i64 ((n:Int)+1)=((n+1:Nat):Int):=kl (by unfold BB at h;omega)
theorem Pa {n}(h:n≤BB)(h0:0<n):j6 .i64 ((n:Int)-1)=((n-1:Nat):Int):=by
 obtain⟨m,rfl⟩:∃m,n=m+1:=⟨n-1,by omega⟩
 have:=q1a (i:=m) (by unfold BB at h;omega)
 rw[this];rfl
theorem quz {α:Type}{l:List α}{k}(h:k≤l.length):(l.take k).dropLast=l.take (k-1):=by
 rw[List.dropLast_eq_take,En,List.take_take]
 congr 1;omega
theorem Xf {a b}:f51 (Eu [a,b])=Eu (dp [a,b]):=hM (by simp[SM])
theorem jin {e}(hc:ki e.er=0):∃c s',IK e=Eu (c,s')∧Xc 0 ([],[mH]) c s' (Go.W.accept (j6 .i64) ([],[mH]) (0+1) e.er):=by
 unfold IK Go.W.accept
 rw[show j6 .i64 1=1 from rfl,show e.er.number=e.number from rfl,show e.er.kind=e.kind from rfl,show((0:Int)+1)=1 from rfl]
 by_cases h1:e.number=1
 ·rw[dT h1,if_neg (fun h=>h h1)]
  simp only[cT]
  by_cases h2:e.kind=oH
  ·rw[show decide (e.kind=([117,110,100,111]:List UInt8))=true from dT h2,if_pos h2]
   simp only[cT,iO,jw,Xf]
   exact⟨_,_,rfl,rfl,by decide,rfl,rfl⟩
  ·rw[show decide (e.kind=([117,110,100,111]:List UInt8))=false from dF h2,if_neg h2]
   have hw:WF eG.er:=WF.empty 0
   obtain⟨r',c,g1,g2⟩:=q7j (r:=eG) (SB.empty.gb (r:=eG) (Nat.zero_le _)) hw hc h2
   simp only[cond_false,g1,jw]
   rw[show now ([],[mH])=eG.er from rfl]
   cases ha:after (j6 .i64) eG.er e.er with
   |error k=>
    rw[ha]at g2
    obtain⟨rfl,g3⟩:=g2
    rw[dF g3]
    exact⟨_,_,rfl,rfl,g3,rfl,rfl⟩
   |ok s=>
    rw[ha]at g2
    obtain⟨rfl,rfl⟩:=g2
    exact⟨_,_,rfl,rfl,Ev _,Ev _,rfl,rfl,rfl,Ev _⟩
 ·rw[dF h1,if_pos h1]
  exact⟨_,_,rfl,rfl,by decide,rfl,rfl⟩
theorem jn3 {v:HV}{n:Nat}{h e}(hr:yQ n h (Eu v))(o:jb (j6 .i64) h)(b:HB h)(hn:n<BB)(hc:ki e.er=0):∃c s',Pb (Eu v) e=Eu (c,s')∧Xc n h c s' (Go.W.accept (j6 .i64) h ((n:Int)+1) e.er):=by
 obtain⟨r1,r2,r3,r4,r5,r6⟩:=hr
 have gK:h.1.length=v.lc:=by rw[r3,Ep,En];omega
 have ov:h.2.length=v.ls:=by rw[r4,Ep,En];omega
 have Pc:v.ls=v.lc+1:=by rw[←gK,←ov];exact o.len
 have gA:rK v.ev v.ev.length e=Eu (v.ev++[e]):=by rw[Xd (Ev _) (by omega),List.take_length]
 show ∃c s',(jw (IL v e) fun q=>Eu (q.1,Eu q.2))=Eu (c,s')∧_
 unfold IL Go.W.accept
 rw[show e.er.number=e.number from rfl,show e.er.kind=e.kind from rfl,r5,Xe (by omega)]
 by_cases h1:e.number=((n+1:Nat):Int)
 case neg=>
  rw[dF h1,if_pos (show e.number≠(n:Int)+1 from h1)]
  exact⟨_,_,rfl,rfl,by decide,r1,r2,r3,r4,r5,r6⟩
 rw[dT h1,if_neg (show ¬e.number≠(n:Int)+1 from fun hh=>hh h1)]
 simp only[cT]
 by_cases h2:e.kind=oH
 ·rw[show decide (e.kind=([117,110,100,111]:List UInt8))=true from dT h2,if_pos h2]
  simp only[cT,iO,jw]
  by_cases h3:v.lc=0
  ·have h4:h.1=[]:=List.eq_nil_of_length_eq_zero (by rw[gK,h3])
   rw[h4]
   simp only[h3,show decide (((0:Nat):Int)=0)=true from rfl,show decide ((0:Int)<((0:Nat):Int))=false from rfl,cond_false,Xf]
   exact⟨_,_,rfl,rfl,by decide,r1,r2,r3,r4,r5,r6⟩
  ·have gN:0<v.lc:=by omega
   rw[dF (show ¬(v.lc:Int)=0 by omega),dT (show(0:Int)<(v.lc:Int) by omega),Pa (by omega) gN]
   obtain⟨x,hx⟩:∃x,(v.cs.take v.lc)[v.lc-1]?=Eu x:=⟨_,List.getElem?_eq_getElem (by rw[En];omega)⟩
   have l9:max 0 ((v.lc-1:Nat):Int)=((v.lc-1:Nat):Int):=by omega
   have rL:h.1.getLast?=Eu x.er:=by
    rw[List.getLast?_eq_getElem?,gK,r3,Gb,hx];rfl
   rw[l9,rL]
   simp only[cT,zy hx,Xf]
   by_cases h5:x.kind=kP
   ·rw[if_pos (show x.er.kind=kP from h5),show decide (x.kind=([115,104,105,112]:List UInt8))=true from dT h5]
    exact⟨_,_,rfl,rfl,by decide,r1,r2,r3,r4,r5,r6⟩
   ·rw[if_neg (show ¬x.er.kind=kP from h5),show decide (x.kind=([115,104,105,112]:List UInt8))=false from dF h5]
    rw[r5]at gA
    simp only[Bool.false_eq_true,if_false,show decide (dp [0,0]=0)=true from rfl,cT]
    rw[dT (show(0:Int)≤((v.lc-1:Nat):Int)∧((v.lc-1:Nat):Int)≤(v.lc:Int)∧v.lc≤v.ls by omega)]
    simp only[cT,gA]
    have Xg:((v.lc-1:Nat):Int).toNat=v.lc-1:=Int.toNat_natCast _
    refine⟨_,_,rfl,rfl,by show((v.lc-1:Nat):Int).toNat≤v.cs.length;rw[Xg];omega,by show v.lc≤v.ss.length;omega,?_,?_,by show(v.ev++[e]).length=_;rw[Eh,r5];rfl,by show((v.lc-1:Nat):Int).toNat≤n+1;rw[Xg];omega⟩
    ·show h.1.dropLast=(v.cs.take ((v.lc-1:Nat):Int).toNat).map ql.er
     rw[Xg,r3,←Gh,quz r1]
    ·show h.2.dropLast=(v.ss.take v.lc).map qc.er
     rw[r4,←Gh,quz r2,Pc];rfl
 ·rw[show decide (e.kind=([117,110,100,111]:List UInt8))=false from dF h2,if_neg h2]
  have dw:=o.now
  rw[gK,r4,Gb]at dw
  cases hr:(v.ss.take v.ls)[v.lc]? with
  |none=>rw[hr]at dw;cases dw
  |some r=>
   rw[hr]at dw
   have vY:r.er=now h:=by simpa using dw
   have Xh:SB v.lc r.er:=b v.lc r.er (by rw[r4,Gb,hr];rfl)
   have hwf:WF r.er:=by rw[vY];exact o.rM
   obtain⟨r',c,g1,g2⟩:=q7j (Xh.gb (by omega)) hwf hc h2
   have hi:j6 .i64 ((v.ls:Int)-1)=(v.lc:Int):=by rw[Pa (by omega) (by omega),Pc];rfl
   rw[hi]
   simp only[cond_false,zy hr,g1,jw]
   rw[vY]at g2
   cases ha:after (j6 .i64) (now h) e.er with
   |error k=>
    rw[ha]at g2
    obtain⟨rfl,g3⟩:=g2
    rw[dF g3]
    exact⟨_,_,rfl,rfl,g3,r1,r2,r3,r4,r5,r6⟩
   |ok s=>
    rw[ha]at g2
    obtain⟨rfl,rfl⟩:=g2
    rw[r5]at gA
    rw[Xd r1 (by omega),Xd r2 (by omega)]
    simp only[gA,show decide ((0:Int)=0)=true from rfl,cT]
    refine⟨_,_,rfl,rfl,?_,?_,?_,?_,by show(v.ev++[e]).length=_;rw[Eh,r5];rfl,by show v.lc+1≤n+1;omega⟩
    ·show v.lc+1≤(v.cs.take v.lc++[e]).length
     rw[Eh,En,Ek];omega
    ·show v.ls+1≤(v.ss.take v.ls++[r']).length
     rw[Eh,En,Ek];omega
    ·show h.1++[e.er]=((v.cs.take v.lc++[e]).take (v.lc+1)).map ql.er
     rw[Gf (by rw[Eh,En,Ek];omega),Gl,r3];rfl
    ·show h.2++[r'.er]=((v.ss.take v.ls++[r']).take (v.ls+1)).map qc.er
     rw[Gf (by rw[Eh,En,Ek];omega),Gl,r4];rfl
theorem jok {s n h e}(hr:yQ n h s)(o:jb (j6 .i64) h)(b:HB h)(hn:n<BB)(hc:ki e.er=0):∃c s',Pb s e=Eu (c,s')∧Xc n h c s' (Go.W.accept (j6 .i64) h ((n:Int)+1) e.er):=by
 cases s with
 |some v=>exact jn3 hr o b hn hc
 |none=>
  obtain⟨rfl,rfl⟩:=hr
  exact jin hc
end Go.Z
namespace Go.Z
open Go Go.Abs Go.W
def oP (e:ql):Prop:=(e.names.getD []).length≤SM∧(e.values.getD []).length≤SM
theorem jd3 {α:Type}{o:Option (List α)}(h:(o.getD []).length≤SM):∃q b,(cond o.isNone (Eu (none,false)) (jw (bj (Eu []) (o.getD [])) fun v2=>Eu (v2,true)):Option (Option (List α)×Bool))=Eu (q,b)∧q.getD []=o.getD []:=by
 cases o with
 |none=>exact⟨none,false,rfl,rfl⟩
 |some l=>
  have:bj (Eu []) l=Eu (Eu l):=by
   unfold bj
   simp only[Gk,List.nil_append]
   rw[if_pos (by simpa using h)]
   rfl
  exact⟨Eu l,true,by simp only[Option.isNone_some,cond_false,Gk,this,jw],rfl⟩
theorem jva {e:ql}(h:oP e):∃e',f66 e=Eu e'∧e'.er=e.er∧oP e':=by
 obtain⟨q1,b1,h1,k1⟩:=jd3 (o:=e.names) h.1
 obtain⟨q2,b2,h2,k2⟩:=jd3 (o:=e.values) h.2
 refine⟨⟨e.number,e.kind,q1,q2,e.text⟩,?_,?_,?_⟩
 ·unfold f66
  rw[show f122 e.names=Eu (q1,b1)from h1,show f123 e.values=Eu (q2,b2)from h2]
  cases b1<;>cases b2<;>rfl
 ·show je.mk _ _ _ _ _=je.mk _ _ _ _ _
  simp only[k1,k2]
 ·exact⟨by show(q1.getD []).length≤_;rw[k1];exact h.1,by show(q2.getD []).length≤_;rw[k2];exact h.2⟩
def zjg (n:Nat):Except (Int×Int) iQ→(Int×Int×Option HV)⊕(Int×Option HV)→Prop
 | .error x,d=>∃s,d=.inl (x.1,x.2,s)∧x.2≠0
 | .ok h,d=>∃o,d=.inr ((n:Int),o)∧yQ n h o∧jb (j6 .i64) h∧HB h
theorem jdo {l}(hb:∀e∈l.getD [],oP e)(hl:(l.getD []).length≤BB):∀(m:List ql) (i:Nat) (h:iQ) (s:Option HV),(l.getD []).drop i=m→i≤(l.getD []).length→yQ i h s→jb (j6 .i64) h→HB h→∃d,aY (Bz l) ((i:Int),s)=Eu d∧zjg (l.getD []).length (vz (j6 .i64) i h (m.map ql.er)) d
 | [],i,h,s,hm,hi,hr,o,b=>by
  have he:i=(l.getD []).length:=by
   have:=List.drop_eq_nil_iff.1 hm;omega
  subst he
  refine⟨.inr (((l.getD []).length:Int),s),jD ?_,s,rfl,hr,o,b⟩
  unfold Bz
  rw[ky];rfl
 |e::m,i,h,s,hm,hi,hr,o,b=>by
  have hx:(l.getD [])[i]?=Eu e:=by
   have:=congrArg List.head? hm
   rwa [List.head?_drop]at this
  have bh:i<(l.getD []).length:=(List.getElem?_eq_some_iff.1 hx).1
  have yK:(l.getD []).drop (i+1)=m:=by rw[pF hx]at hm;exact(List.cons.inj hm).2
  have Fj:=hb e (Eo hx)
  have hw:j6 .i64 ((i:Int)+1)=((i+1:Nat):Int):=Xe (by omega)
  have b6:Bz l ((i:Int),s)=cond (decide (ki e.er=0)) (jw (f66 e) fun e2=>jw (Pb s e2) fun q=>cond (decide (q.1=0)) (Eu (.inl (((i+1:Nat):Int),q.2))) (Eu (.inr (.inl (((i+1:Nat):Int),q.1,q.2))))) (Eu (.inr (.inl (((i+1:Nat):Int),ki e.er,s)))):=by
   unfold Bz
   simp only[eR bh,cT,zy hx,jw,jwg Fj.1 Fj.2,hw]
  rw[List.map_cons]
  simp only[vz]
  by_cases hc:ki e.er=0
  case neg=>
   rw[if_pos hc]
   refine⟨.inl (((i+1:Nat):Int),ki e.er,s),jD ?_,s,rfl,hc⟩
   rw[b6,dF hc];rfl
  rw[if_neg (fun h=>h hc)]
  obtain⟨e',g1,g2,g3⟩:=jva Fj
  obtain⟨c,s',k1,k2⟩:=jok (e:=e') hr o b (by omega) (by rw[g2];exact hc)
  rw[g2]at k2
  rw[dT hc,cT,g1]at b6
  simp only[jw,k1]at b6
  cases ha:Go.W.accept (j6 .i64) h ((i:Int)+1) e.er with
  |error x=>
   rw[ha]at k2
   obtain⟨rfl,k3,k4⟩:=k2
   rw[dF k3]at b6
   exact⟨.inl (((i+1:Nat):Int),c,s'),jD b6,s',rfl,k3⟩
  |ok h'=>
   rw[ha]at k2
   obtain⟨rfl,k4⟩:=k2
   rw[dT (rfl:(0:Int)=0)]at b6
   obtain⟨d,d1,d2⟩:=jdo hb hl m (i+1) h' s' yK bh k4 (o.accept hc ha) (b.accept o ha)
   exact⟨d,by rw[oF b6];exact d1,d2⟩
def zc7 (n:Nat):Except (Int×Int) iQ→(Int×Int)⊕Option HV→Prop
 | .error x,d=>d=.inl x∧x.2≠0
 | .ok h,d=>∃o,d=.inr o∧yQ n h o∧jb (j6 .i64) h∧HB h∧n≤1000
theorem ju9 {l}(hb:∀e∈l.getD [],oP e):∃d,f47 l=Eu d∧zc7 (l.getD []).length (run (j6 .i64) ((l.getD []).map ql.er)) d:=by
 unfold f47 run
 rw[Ep]
 by_cases h:1000<(l.getD []).length
 ·rw[dT (by omega),if_pos h]
  exact⟨_,rfl,rfl,by decide⟩
 ·rw[dF (by omega),if_neg h,cond_false]
  obtain⟨d,d1,d2⟩:=jdo hb (by unfold BB;omega) (l.getD []) 0 ([],[mH]) none rfl (Nat.zero_le _) ⟨rfl,rfl⟩ jb.empty HB.empty
  rw[show(0:Int)=((0:Nat):Int)from rfl,d1]
  cases hr:vz (j6 .i64) 0 ([],[mH]) ((l.getD []).map ql.er)with
  |error x=>
   rw[hr]at d2
   obtain⟨s,rfl,k⟩:=d2
   exact⟨_,rfl,rfl,k⟩
  |ok h'=>
   rw[hr]at d2
   obtain⟨o,rfl,k1,k2,k3⟩:=d2
   exact⟨_,rfl,o,rfl,k1,k2,k3,by omega⟩
theorem job {n h o}(hr:yQ n h o)(k:jb (j6 .i64) h)(hn:n≤1000):∃r,jr5 o=Eu r∧r.er=now h:=by
 cases o with
 |none=>
  obtain⟨rfl,rfl⟩:=hr
  exact⟨eG,rfl,rfl⟩
 |some v=>
  obtain⟨r1,r2,r3,r4,r5,r6⟩:=hr
  have gK:h.1.length=v.lc:=by rw[r3,Ep,En];omega
  have ov:h.2.length=v.ls:=by rw[r4,Ep,En];omega
  have Pc:v.ls=v.lc+1:=by rw[←gK,←ov];exact k.len
  have hi:j6 .i64 ((v.ls:Int)-1)=(v.lc:Int):=by rw[Pa (by unfold BB;omega) (by omega),Pc];rfl
  have dw:=k.now
  rw[gK,r4,Gb]at dw
  cases hq:(v.ss.take v.ls)[v.lc]? with
  |none=>rw[hq]at dw;cases dw
  |some r=>
   rw[hq]at dw
   exact⟨r,by show zn (v.ss.take v.ls) (j6 .i64 ((v.ls:Int)-1))=Eu r;rw[hi];exact zy hq,by simpa using dw⟩
def jl2:Except (Int×Int) iQ→qu×Int×Int
 | .error x=>(mH,x.1,x.2)
 | .ok h=>(now h,0,0)
theorem j75 {l}(hb:∀e∈l.getD [],oP e):∃r,f9 l=Eu r∧(r.1.er,r.2)=jl2 (run (j6 .i64) ((l.getD []).map ql.er)):=by
 obtain⟨d,d1,d2⟩:=ju9 hb
 unfold f9
 rw[d1]
 cases hr:run (j6 .i64) ((l.getD []).map ql.er)with
 |error x=>
  rw[hr]at d2
  obtain⟨rfl,k⟩:=d2
  refine⟨(eG,x.1,x.2),?_,rfl⟩
  simp only[jw]
  rw[dF k];rfl
 |ok h=>
  rw[hr]at d2
  obtain⟨o,rfl,k1,k2,k3,k4⟩:=d2
  obtain⟨r,q1,q2⟩:=job k1 k2 k4
  refine⟨(r,0,0),?_,?_⟩
  ·simp only[jw,q1]
  ·rw[q2];rfl
end Go.Z
