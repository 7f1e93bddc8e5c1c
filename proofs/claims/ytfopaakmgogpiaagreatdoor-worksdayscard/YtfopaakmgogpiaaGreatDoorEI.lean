/- Chapter 10, plain. -/
import Derived.Test.YtfopaakmgogpiaaGreatDoorEF
import Derived.Test.YtfopaakmgogpiaaGreatDoorWL
set_option maxRecDepth 100000
set_option maxHeartbeats 4000000
open Option renaming some→I,none→E3,getD_some→Mr
open List renaming getElem?_eq_some_iff→En,mem_of_getElem?→E1,getElem?_map→E2,length_map→E4,getElem?_eq_getElem→E6,map_id→Gl,length_take→Gm,drop_eq_nil_iff→Gn,head?_drop→G2,map_append→Ha,length_singleton→Hb,dropLast_eq_take→H7,length_filter_le→If,map_cons→Md,length_append→Mm,head?→Mw,cons→Mx,map_take→Mz,Sublist→Nh
open Bool renaming and_self→Gk,true→Gp,false→Mn
open Nat renaming zero_le→Gq
namespace Go.Z
open Go Go.Abs Go.W
theorem q12 {α:Type}{o:Option (List α)}{k:Nat}(h:k≤(o.getD []).length):∃q,xg o E3 (I (k:Int))=I q∧q.getD []=(o.getD []).take k:=by
 have hc:NE (o.getD []) E3 (I (k:Int))=I ((o.getD []).take k):=by
  unfold NE
  have h1:qP (o.getD []).length (o.getD []).length (I (k:Int))=I k:=by
   unfold qP
   simp only[]
   rw[if_pos ⟨by omega,by omega⟩,Int.toNat_natCast]
  rw[h1];rfl
 unfold xg
 rw[hc]
 cases o with
 |none=>exact⟨E3,rfl,by simp⟩
 |some l=>exact⟨_,rfl,rfl⟩
theorem q6m {α:Type}{o:Option (List α)}{x:α}(h:(o.getD []).length<SM):∃q,bg (I []) (o.getD [])=I (I (o.getD []))∧bg (I (o.getD [])) [x]=I q∧q.getD []=o.getD []++[x]:=by
 refine⟨I (o.getD []++[x]),?_,?_,rfl⟩
 ·unfold bg
  rw[if_pos (by simp only[Mr,List.length_nil];unfold SM at h;omega)]
  rfl
 ·unfold bg
  rw[if_pos (by simp only[Mr,Hb];unfold SM at h;omega)]
  rfl
theorem q0p {e:qm}(hc:kc e.er=0):∀v∈e.values.getD [],0≤v:=by
 intro v hv
 unfold kc at hc
 split at hc
 ·simp at hc
 split at hc
 ·simp at hc
 split at hc
 ·simp at hc
 split at hc
 ·simp at hc
 split at hc
 ·simp at hc
 rename_i h
 simp only[Bool.not_eq_true',Bool.not_eq_false]at h
 have:=List.all_eq_true.1 h v hv
 simp at this
 exact this.1
def VG (i:Nat)(h:eH)(s:Option (List qm)×Option (List qc)):Prop:=h.1=(s.1.getD []).map qm.er∧h.2=(s.2.getD []).map qc.er∧h.1.length≤i
def VH (n:Nat):Except (Int×Int) eH→(Int×Int×Int×(Option (List qj))×(Option (List qi))×(Option (List qe)))⊕((Option (List qm))×Bool×(Option (List qc))×Bool×Int)→Prop
 | .error x,d=>∃s,d=.inl (x.1,x.2,s)∧x.2≠0
 | .ok h,d=>∃s w1 w2,d=.inr (s.1,w1,s.2,w2,(n:Int))∧VG n h s∧jb (j9 .i64) h∧HB h
theorem jc0 {l:Option (List qm)}(hb:∀e∈l.getD [],qO e)(hl:(l.getD []).length≤BB):∀(m:List qm) (i:Nat) (h:eH) (s:Option (List qm)×Option (List qc)) (w1 w2:Bool),(l.getD []).drop i=m→i≤(l.getD []).length→VG i h s→jb (j9 .i64) h→HB h→∃d,bf (ot l) (s.1,s.2,(i:Int),w1,w2)=I d∧VH (l.getD []).length (uL (j9 .i64) i h (m.map qm.er)) d
 | [],i,h,s,w1,w2,hm,hi,hr,o,b=>by
  have he:i=(l.getD []).length:=by
   have:=Gn.1 hm;omega
  subst he
  refine⟨.inr (s.1,w1,s.2,w2,((l.getD []).length:Int)),iF ?_,s,w1,w2,rfl,hr,o,b⟩
  unfold ot
  rw[kr];rfl
 |e::m,i,h,s,w1,w2,hm,hi,hr,o,b=>by
  have hx:(l.getD [])[i]?=I e:=by
   have:=congrArg Mw hm
   rwa [G2]at this
  have aX:i<(l.getD []).length:=(En.1 hx).1
  have qK:(l.getD []).drop (i+1)=m:=by rw[oW hx]at hm;exact(Mx.inj hm).2
  have D2:=hb e (E1 hx)
  have hw:j9 .i64 ((i:Int)+1)=((i+1:Nat):Int):=G8 (by omega)
  obtain⟨r1,r2,r3⟩:=hr
  have hZ:h.1.length=(s.1.getD []).length:=by rw[r1,E4]
  have pC:h.2.length=(s.2.getD []).length:=by rw[r2,E4]
  have hlen:=o.len
  rw[Md]
  simp only[uL]
  obtain⟨F,hF⟩:∃F,ot l (s.1,s.2,(i:Int),w1,w2)=F:=⟨_,rfl⟩
  have hG:=hF
  unfold ot at hG
  simp only[eV aX,cT,z7 hx,jx,jos D2.1 D2.2,hw]at hG
  subst hG
  by_cases hc:kc e.er=0
  case neg=>
   rw[dF hc,cond_false]at hF
   rw[if_pos hc]
   exact⟨_,iF hF,_,rfl,hc⟩
  rw[if_neg (fun h=>h hc)]
  rw[dT hc,cT]at hF
  have Hd:∀(h':eH) (q:Option (List qm)×Option (List qc)) (v1 v2:Bool),ot l (s.1,s.2,(i:Int),w1,w2)=I (.inl (q.1,q.2,((i+1:Nat):Int),v1,v2))→Go.W.accept (j9 .i64) h ((i:Int)+1) e.er=.ok h'→VG (i+1) h' q→∃d,bf (ot l) (s.1,s.2,(i:Int),w1,w2)=I d∧VH (l.getD []).length (match Go.W.accept (j9 .i64) h ((i:Int)+1) e.er with
    | .error x=>.error ((i:Int)+1,x)
    | .ok h'=>uL (j9 .i64) (i+1) h' (m.map qm.er)) d:=by
   intro h' q v1 v2 g1 g2 g3
   obtain⟨d,d1,d2⟩:=jc0 hb hl m (i+1) h' q v1 v2 qK aX g3 (o.accept hc g2) (b.accept o g2)
   rw[g2]
   exact⟨d,by rw[mL g1];exact d1,d2⟩
  have vF:∀(x:Int) (q),ot l (s.1,s.2,(i:Int),w1,w2)=I (.inr (.inl (((i+1:Nat):Int),x,q)))→Go.W.accept (j9 .i64) h ((i:Int)+1) e.er=.error x→x≠0→∃d,bf (ot l) (s.1,s.2,(i:Int),w1,w2)=I d∧VH (l.getD []).length (match Go.W.accept (j9 .i64) h ((i:Int)+1) e.er with
    | .error x=>.error ((i:Int)+1,x)
    | .ok h'=>uL (j9 .i64) (i+1) h' (m.map qm.er)) d:=by
   intro x q g1 g2 g3
   rw[g2]
   exact⟨_,iF g1,q,rfl,g3⟩
  have hA:∀y,Go.W.accept (j9 .i64) h ((i:Int)+1) e.er=y→Go.W.accept (j9 .i64) h ((i:Int)+1) e.er=y:=fun _ h=>h
  by_cases h1:e.number=((i+1:Nat):Int)
  case neg=>
   rw[dF h1]at hF
   refine vF 11 _ hF ?_ (by decide)
   unfold Go.W.accept
   rw[if_pos (show e.er.number≠(i:Int)+1 from h1)]
  rw[dT h1,cT]at hF
  have hn1:¬e.er.number≠(i:Int)+1:=fun hh=>hh h1
  by_cases h2:e.kind=lX
  ·rw[show decide (e.kind=([117,110,100,111]:List UInt8))=Gp from dT h2,cT]at hF
   have ha:Go.W.accept (j9 .i64) h ((i:Int)+1) e.er=(match h.1.getLast? with
     |none=>.error 12
     |some c=>if c.kind=jW then .error 19 else .ok (h.1.dropLast,h.2.dropLast)):=by
    unfold Go.W.accept
    rw[if_neg hn1,if_pos (show e.er.kind=lX from h2)]
    cases h.1.getLast?<;>rfl
   by_cases h3:(s.1.getD []).length=0
   ·rw[dT (by omega),cT]at hF
    refine vF 12 _ hF ?_ (by decide)
    rw[ha,show h.1=[]from List.eq_nil_of_length_eq_zero (by omega)];rfl
   ·rw[dF (by omega),cond_false,VC (by omega) (by omega)]at hF
    obtain⟨x,hx⟩:∃x,(s.1.getD [])[(s.1.getD []).length-1]?=I x:=⟨_,E6 (by omega)⟩
    have qN:h.1.getLast?=I x.er:=by
     rw[List.getLast?_eq_getElem?,hZ,r1,E2,hx];rfl
    rw[qN]at ha
    simp only[z7 hx]at hF
    by_cases h5:x.kind=jW
    ·rw[show decide (x.kind=([115,104,105,112]:List UInt8))=Gp from dT h5,cT]at hF
     refine vF 19 _ hF ?_ (by decide)
     rw[ha]
     exact if_pos (show x.er.kind=jW from h5)
    ·rw[show decide (x.kind=([115,104,105,112]:List UInt8))=Mn from dF h5,cond_false]at hF
     obtain⟨q1,c1,c2⟩:=q12 (o:=s.1) (k:=(s.1.getD []).length-1) (by omega)
     obtain⟨q2,c3,c4⟩:=q12 (o:=s.2) (k:=(s.1.getD []).length) (by omega)
     simp only[c1,c3]at hF
     refine Hd (h.1.dropLast,h.2.dropLast) (q1,q2) _ _ hF ?_ ⟨?_,?_,?_⟩
     ·rw[ha]
      exact if_neg (show ¬x.er.kind=jW from h5)
     ·show h.1.dropLast=_
      rw[c2,H7,hZ,r1,Mz]
     ·show h.2.dropLast=_
      rw[c4,H7,r2,Mz,←r2,hlen,hZ];rfl
     ·show h.1.dropLast.length≤_
      rw[List.length_dropLast];omega
  ·rw[show decide (e.kind=([117,110,100,111]:List UInt8))=Mn from dF h2,cond_false]at hF
   have ha:Go.W.accept (j9 .i64) h ((i:Int)+1) e.er=(match after (j9 .i64) (now h) e.er with
     | .error x=>.error x
     | .ok r=>.ok (h.1++[e.er],h.2++[r])):=by
    unfold Go.W.accept
    rw[if_neg hn1,if_neg (show ¬e.er.kind=lX from h2)]
    cases after (j9 .i64) (now h) e.er<;>rfl
   have eC:=o.now
   rw[hZ,r2,E2]at eC
   cases hq:(s.2.getD [])[(s.1.getD []).length]? with
   |none=>rw[hq]at eC;cases eC
   |some r=>
    rw[hq]at eC
    have vi:r.er=now h:=by simpa using eC
    have VF:SB (s.1.getD []).length r.er:=b _ r.er (by rw[r2,E2,hq];rfl)
    obtain⟨r',c,g1,g2⟩:=jcb (e:=e) (VF.gb (by omega)) (by rw[vi];exact o.xJ) hc h2 (q0p hc)
    simp only[z7 hq,g1]at hF
    rw[vi]at g2
    cases hat:after (j9 .i64) (now h) e.er with
    |error k=>
     rw[hat]at g2 ha
     obtain⟨rfl,g3⟩:=g2
     rw[dF g3,cond_false]at hF
     exact vF _ _ hF ha g3
    |ok t=>
     rw[hat]at g2 ha
     obtain⟨rfl,rfl⟩:=g2
     obtain⟨q1,c1,c2,c3⟩:=q6m (o:=s.1) (x:=e) (by unfold BB at hl;unfold SM;omega)
     obtain⟨q2,c4,c5,c6⟩:=q6m (o:=s.2) (x:=r') (by unfold BB at hl;unfold SM;omega)
     rw[dT (rfl:(0:Int)=0),cT]at hF
     simp only[c1,c2,c4,c5]at hF
     refine Hd _ (q1,q2) _ _ hF ha ⟨?_,?_,?_⟩
     ·show h.1++[e.er]=_
      rw[c3,r1,Ha];rfl
     ·show h.2++[r'.er]=_
      rw[c6,r2,Ha];rfl
     ·show(h.1++[e.er]).length≤_
      rw[Mm,Hb];omega
def zg2:Except (Int×Int) eH→Option (List qm)×qc×Int×Int→Prop
 | .error x,d=>d=(E3,⟨0,E3,E3,E3⟩,x.1,x.2)∧x.2≠0
 | .ok h,d=>∃s r,d=(s,r,0,0)∧h.1=(s.getD []).map qm.er∧r.er=now h∧jb (j9 .i64) h∧HB h∧h.1.length≤1000
theorem js0 {l:Option (List qm)}(hb:∀e∈l.getD [],qO e):∃d,f49 l=I d∧zg2 (run (j9 .i64) ((l.getD []).map qm.er)) d:=by
 unfold f49 run
 rw[E4]
 by_cases h:1000<(l.getD []).length
 ·rw[dT (by omega),if_pos h]
  exact⟨_,rfl,rfl,by decide⟩
 ·rw[dF (by omega),if_neg h,cond_false]
  obtain⟨d,d1,d2⟩:=jc0 hb (by unfold BB;omega) (l.getD []) 0 ([],[jY]) (E3,I [⟨0,E3,E3,E3⟩]) Mn Gp rfl (Gq _) ⟨rfl,rfl,Gq _⟩ jb.empty HB.empty
  have d1':bf (ot l) (E3,I [⟨0,E3,E3,E3⟩],0,Mn,Gp)=I d:=d1
  rw[d1']
  cases hr:uL (j9 .i64) 0 ([],[jY]) ((l.getD []).map qm.er)with
  |error x=>
   rw[hr]at d2
   obtain⟨s,rfl,k⟩:=d2
   exact⟨_,rfl,rfl,k⟩
  |ok h'=>
   rw[hr]at d2
   obtain⟨s,w1,w2,rfl,⟨k1,k2,k3⟩,k4,k5⟩:=d2
   have eC:=k4.now
   rw[k2,E2,k1,E4]at eC
   cases hq:(s.2.getD [])[(s.1.getD []).length]? with
   |none=>rw[hq]at eC;cases eC
   |some r=>
    rw[hq]at eC
    refine⟨(s.1,r,0,0),?_,s.1,r,rfl,k1,by simpa using eC,k4,k5,by omega⟩
    simp only[jx,z7 hq]
end Go.Z
namespace Go.Z
open Go Go.Abs Go.W
theorem xK {f:Int→Option (Int⊕(Unit⊕Int))}{n:Nat}(hn:n≤SM)(cM:f (n:Int)=I (.inr (.inr (n:Int))))(h:∀i:Nat,i<n→f (i:Int)=I (.inl (j9 .i64 ((i:Int)+1)))):∃d,bf f 0=I (.inr d):=
 ⟨_,jdn n f cM fun i hi=>by rw[h i hi,il (by unfold SM at hn;omega)]⟩
theorem xM {α:Type}{l:List α}{i:Nat}(h:i<l.length):∃x,l[i]?=I x:=⟨_,E6 h⟩
theorem q0o {a b:qr}(h1:a.ax.getD []=b.ax.getD [])(h2:a.aw.getD []=b.aw.getD [])(l1:(a.ax.getD []).length≤SM)(l2:(a.aw.getD []).length≤SM):f119 a b=I Gp:=by
 unfold f119
 obtain⟨d,hd⟩:=xK (f:=AG a b) l1 (by unfold AG;rw[kr];rfl) (fun i hi=>by
  obtain⟨x,hx⟩:=xM hi
  unfold AG
  simp only[eV hi,cT,z7 hx,jx,z7 (show(b.ax.getD [])[i]?=I x by rw[←h1];exact hx),decide_true,Gk])
 obtain⟨d',VI⟩:=xK (f:=AH a b) l2 (by unfold AH;rw[kr];rfl) (fun i hi=>by
  obtain⟨x,hx⟩:=xM hi
  unfold AH
  simp only[eV hi,cT,z7 hx,jx,z7 (show(b.aw.getD [])[i]?=I x by rw[←h2];exact hx),decide_true,Gk])
 rw[hd,VI,h1,h2]
 simp only[decide_true,cT,jx]
theorem VJ {α β γ:Type}{f:α→γ}{g:β→γ}{l:List α}{m:List β}(h:l.map f=m.map g){i:Nat}{x:α}(hx:l[i]?=I x):∃y,m[i]?=I y∧f x=g y:=by
 have h1:(l.map f)[i]?=I (f x):=by rw[E2,hx];rfl
 rw[h,E2]at h1
 cases hm:m[i]? with
 |none=>rw[hm]at h1;cases h1
 |some y=>rw[hm]at h1;exact⟨y,rfl,by simpa using h1.symm⟩
theorem VK {α β γ:Type}{f:α→γ}{g:β→γ}{l:List α}{m:List β}(h:l.map f=m.map g):l.length=m.length:=by
 have:=congrArg List.length h
 simpa using this
theorem VL {a b:qr}(h:a.er=b.er):a.ax.getD []=b.ax.getD []∧a.aw.getD []=b.aw.getD []:=⟨congrArg jg.ax h,congrArg jg.aw h⟩
theorem jf5 {a b:qi}(h:a.er=b.er)(l1:(a.aH.getD []).length≤BB)(l2:(a.dn.getD []).length≤BB)(l3:(a.dt.getD []).length≤BB)(l4:∀d∈a.aH.getD [],(d.ax.getD []).length≤BB∧(d.aw.getD []).length≤BB):f61 a b=I Gp:=by
 have e1:a.name=b.name:=congrArg jf.name h
 have e2:a.dn.getD []=b.dn.getD []:=congrArg (fun x=>(jf.bH x).ax) h
 have e3:a.dt.getD []=b.dt.getD []:=congrArg (fun x=>(jf.bH x).aw) h
 have e4:(a.aH.getD []).map qr.er=(b.aH.getD []).map qr.er:=congrArg jf.aH h
 have e5:=VK e4
 unfold f61
 obtain⟨d,hd⟩:=xK (f:=AJ a b) (yf l1) (by unfold AJ;rw[kr];rfl) (fun i hi=>by
  obtain⟨x,hx⟩:=xM hi
  obtain⟨y,hy,xN⟩:=VJ e4 hx
  have hl:=l4 x (E1 hx)
  unfold AJ
  simp only[eV hi,cT,z7 hx,jx,z7 hy,q0o (VL xN).1 (VL xN).2 (yf hl.1) (yf hl.2)])
 rw[hd,q0o (a:=⟨a.dn,a.dt⟩) (b:=⟨b.dn,b.dt⟩) e2 e3 (yf l2) (yf l3),e1,e5]
 simp only[decide_true,cT,jx]
theorem jei {a b:qe}(h:a.er=b.er)(l1:(a.uses.getD []).length≤BB)(l2:(a.results.getD []).length≤BB):f62 a b=I Gp:=by
 have e1:a.name=b.name:=congrArg qy.name h
 have e2:a.product=b.product:=congrArg qy.product h
 have e3:a.version=b.version:=congrArg qy.version h
 have e4:a.uses.getD []=b.uses.getD []:=congrArg qy.uses h
 have e5:a.results.getD []=b.results.getD []:=congrArg qy.results h
 have e6:a.partner=b.partner:=congrArg qy.partner h
 have e7:a.ar=b.ar:=congrArg qy.ar h
 have e8:a.ai=b.ai:=congrArg qy.ai h
 unfold f62
 obtain⟨d,hd⟩:=xK (f:=AK a b) (yf l1) (by unfold AK;rw[kr];rfl) (fun i hi=>by
  obtain⟨x,hx⟩:=xM hi
  unfold AK
  simp only[eV hi,cT,z7 hx,jx,z7 (show(b.uses.getD [])[i]?=I x by rw[←e4];exact hx),decide_true,Gk])
 obtain⟨d',VI⟩:=xK (f:=AL a b) (yf l2) (by unfold AL;rw[kr];rfl) (fun i hi=>by
  obtain⟨x,hx⟩:=xM hi
  unfold AL
  simp only[eV hi,cT,z7 hx,jx,z7 (show(b.results.getD [])[i]?=I x by rw[←e5];exact hx),decide_true,Gk])
 rw[hd,VI,e1,e2,e3,e4,e5,e6,e7,e8]
 simp only[decide_true,cT,jx,beq_self_eq_true]
theorem jd1 {a b:qc}(h:a.er=b.er)(g:GB a):f13 a b=I Gp:=by
 have e1:a.day=b.day:=congrArg qu.day h
 have e2:a.au.getD []=b.au.getD []:=congrArg qu.au h
 have e3:(a.ae.getD []).map qi.er=(b.ae.getD []).map qi.er:=congrArg qu.ae h
 have e4:(a.units.getD []).map qe.er=(b.units.getD []).map qe.er:=congrArg qu.units h
 have e5:=VK e3
 have e6:=VK e4
 unfold f13
 obtain⟨d0,h0⟩:=xK (f:=AO a b) (yf g.L) (by unfold AO;rw[kr];rfl) (fun i hi=>by
  obtain⟨x,hx⟩:=xM hi
  unfold AO
  simp only[eV hi,cT,z7 hx,jx,z7 (show(b.au.getD [])[i]?=I x by rw[←e2];exact hx),decide_true,Gk])
 obtain⟨d1,h1⟩:=xK (f:=AP a b) (yf g.P) (by unfold AP;rw[kr];rfl) (fun i hi=>by
  obtain⟨x,hx⟩:=xM hi
  obtain⟨y,hy,xN⟩:=VJ e3 hx
  obtain⟨k1,k2,k3,k4⟩:=g.D x (E1 hx)
  unfold AP
  simp only[eV hi,cT,z7 hx,jx,z7 hy,jf5 xN k1 k2 k3 k4])
 obtain⟨d2,h2⟩:=xK (f:=AQ a b) (yf g.U) (by unfold AQ;rw[kr];rfl) (fun i hi=>by
  obtain⟨x,hx⟩:=xM hi
  obtain⟨y,hy,xN⟩:=VJ e4 hx
  obtain⟨k1,k2⟩:=g.N x (E1 hx)
  unfold AQ
  simp only[eV hi,cT,z7 hx,jx,z7 hy,jei xN k1 k2])
 rw[h0,h1,h2,e1,e2,e5,e6]
 simp only[decide_true,cT,jx]
theorem xO {α β γ:Type}{l:List α}(hl:l.length≤BB){f:Int×Option (List β)×Bool→Option ((Int×Option (List β)×Bool)⊕(Int×Option (List β)×Bool))}{g:α→Option β}{p:α→γ}{q:β→γ}(hg:∀x∈l,∃y,g x=I y∧q y=p x)
  (hf:∀s,f s=cond (decide (s.1<(l.length:Int))) (jx (zp l s.1) fun x=>jx (g x) fun y=>cond s.2.2 (jx (bg s.2.1 [y]) fun v=>I (.inl (j9 .i64 (s.1+1),v,Gp))) (cond s.2.1.isNone (jx (bg s.2.1 [y]) fun v=>I (.inl (j9 .i64 (s.1+1),v,Gp))) E3)) (I (.inr (s.1,s.2.1,s.2.2)))):
  ∃d,bf f (0,E3,Mn)=I d∧(d.2.1.getD []).map q=l.map p:=by
 have key:∀(m:List α) (i:Nat) (a:List β),l.drop i=m→i≤l.length→a.length=i→∃d,bf f ((i:Int),yp a,fK a)=I d∧(d.2.1.getD []).map q=a.map q++m.map p:=by
  intro m
  induction m with
  |nil=>
   intro i a hm hi ha
   have he:i=l.length:=by
    have:=Gn.1 hm;omega
   subst he
   refine⟨((l.length:Int),yp a,fK a),iF ?_,by simp only[kj,List.map_nil,List.append_nil]⟩
   rw[hf,kr];rfl
  |cons x m ih=>
   intro i a hm hi ha
   have hx:l[i]?=I x:=by
    have:=congrArg Mw hm
    rwa [G2]at this
   have aX:i<l.length:=(En.1 hx).1
   have qK:l.drop (i+1)=m:=by rw[oW hx]at hm;exact(Mx.inj hm).2
   obtain⟨y,hy,hyq⟩:=hg x (E1 hx)
   obtain⟨d,d1,d2⟩:=ih (i+1) (a++[y]) qK aX (by rw[Mm,ha];rfl)
   refine⟨d,?_,?_⟩
   ·rw[mL (s':=(((i+1:Nat):Int),yp (a++[y]),fK (a++[y])))]
    ·exact d1
    ·rw[hf]
     simp only[eV aX,cT,z7 hx,jx,hy]
     rw[show(j9 .i64 ((i:Int)+1))=((i+1:Nat):Int)from G8 (by omega)]
     have:=vw (a:=a) (x:=y) (k:=fun v=>I (Sum.inl (((i+1:Nat):Int),v,Gp):(Int×Option (List β)×Bool)⊕(Int×Option (List β)×Bool))) (by unfold BB at hl;omega)
     rw[show fK (a++[y])=Gp by cases a<;>rfl]
     exact this
   ·rw[d2,Ha,List.append_assoc,Md,Md,hyq];rfl
 obtain⟨d,d1,d2⟩:=key l 0 [] rfl (Gq _) rfl
 exact⟨d,d1,d2⟩
theorem q6v {a:qr}(l1:(a.ax.getD []).length≤BB)(l2:(a.aw.getD []).length≤BB):∃r,f120 a=I r∧r.er=a.er:=by
 obtain⟨d,d1,d2⟩:=xO (l:=a.ax.getD []) l1 (f:=He a) (g:=some) (p:=id) (q:=id) (fun x _=>⟨x,rfl,rfl⟩) (fun s=>rfl)
 obtain⟨d',d3,d4⟩:=xO (l:=a.aw.getD []) l2 (f:=Hf a d) (g:=some) (p:=id) (q:=id) (fun x _=>⟨x,rfl,rfl⟩) (fun s=>rfl)
 refine⟨⟨d.2.1,d'.2.1⟩,?_,?_⟩
 ·unfold f120
  rw[d1];simp only[jx,d3]
 ·show jg.mk _ _=jg.mk _ _
  rw[Gl,Gl]at d2 d4
  rw[d2,d4]
theorem jo0 {a:qi}(l1:(a.aH.getD []).length≤BB)(l2:(a.dn.getD []).length≤BB)(l3:(a.dt.getD []).length≤BB)(l4:∀d∈a.aH.getD [],(d.ax.getD []).length≤BB∧(d.aw.getD []).length≤BB):∃r,f63 a=I r∧r.er=a.er:=by
 obtain⟨v,v1,v2⟩:=q6v (a:=⟨a.dn,a.dt⟩) l2 l3
 obtain⟨d,d1,d2⟩:=xO (l:=a.aH.getD []) l1 (f:=Hg a v) (g:=f120) (p:=qr.er) (q:=qr.er) (fun x hx=>q6v (l4 x hx).1 (l4 x hx).2) (fun s=>rfl)
 refine⟨⟨a.name,v.ax,v.aw,d.2.1⟩,?_,?_⟩
 ·unfold f63
  rw[v1];simp only[jx,d1]
 ·have e:=VL v2
  show jf.mk _ _ _=jf.mk _ _ _
  rw[d2]
  show jf.mk _ ⟨v.ax.getD [],v.aw.getD []⟩ _=_
  rw[e.1,e.2]
theorem jrh {a:qe}(l1:(a.uses.getD []).length≤BB)(l2:(a.results.getD []).length≤BB):∃r,f64 a=I r∧r.er=a.er:=by
 obtain⟨d,d1,d2⟩:=xO (l:=a.uses.getD []) l1 (f:=Hh a) (g:=some) (p:=id) (q:=id) (fun x _=>⟨x,rfl,rfl⟩) (fun s=>rfl)
 obtain⟨d',d3,d4⟩:=xO (l:=a.results.getD []) l2 (f:=Hj a d) (g:=some) (p:=id) (q:=id) (fun x _=>⟨x,rfl,rfl⟩) (fun s=>rfl)
 refine⟨⟨a.name,a.product,a.version,d.2.1,d'.2.1,a.partner,a.ar,a.ai⟩,?_,?_⟩
 ·unfold f64
  rw[d1];simp only[jx,d3]
 ·show qy.mk _ _ _ _ _ _ _ _=qy.mk _ _ _ _ _ _ _ _
  rw[Gl,Gl]at d2 d4
  rw[d2,d4]
theorem jt0 {a:qc}(g:GB a):∃r,f14 a=I r∧r.er=a.er:=by
 obtain⟨d,d1,d2⟩:=xO (l:=a.au.getD []) g.L (f:=Hk a) (g:=some) (p:=id) (q:=id) (fun x _=>⟨x,rfl,rfl⟩) (fun s=>rfl)
 obtain⟨d',d3,d4⟩:=xO (l:=a.ae.getD []) g.P (f:=Hl a d) (g:=f63) (p:=qi.er) (q:=qi.er) (fun x hx=>jo0 (g.D x hx).1 (g.D x hx).2.1 (g.D x hx).2.2.1 (g.D x hx).2.2.2) (fun s=>rfl)
 obtain⟨d'',d5,d6⟩:=xO (l:=a.units.getD []) g.U (f:=Hm a d d') (g:=f64) (p:=qe.er) (q:=qe.er) (fun x hx=>jrh (g.N x hx).1 (g.N x hx).2) (fun s=>rfl)
 refine⟨⟨a.day,d.2.1,d'.2.1,d''.2.1⟩,?_,?_⟩
 ·unfold f14
  rw[d1];simp only[jx,d3,d5]
 ·show qu.mk _ _ _ _=qu.mk _ _ _ _
  rw[Gl,Gl]at d2
  rw[d2,d4,d6]
theorem jxk {l:Option (List qm)}{n:Nat}(hn:n≤1000):∃b,f7 l (n:Int)=I b∧(b=Gp→(l.getD []).length≤n∧∀e∈l.getD [],qO e):=by
 unfold f7
 by_cases h:n<(l.getD []).length
 ·rw[dT (by omega)]
  exact⟨Mn,rfl,fun h=>by cases h⟩
 ·rw[dF (by omega),cond_false]
  rcases VM (l.getD []) (AR l) (fun _ e=>qO e) (by unfold AR;rw[kr];rfl) (fun i x hx=>by
   have hi:i<(l.getD []).length:=(En.1 hx).1
   unfold AR
   simp only[eV hi,cT,z7 hx,jx]
   by_cases h1:40<(x.kind.length:Int)
   ·rw[dT h1];exact .inr ⟨_,rfl⟩
   rw[dF h1,cond_false]
   by_cases h2:6<((x.names.getD []).length:Int)
   ·rw[dT h2];exact .inr ⟨_,rfl⟩
   rw[dF h2,cond_false]
   by_cases h3:8<((x.values.getD []).length:Int)
   ·rw[dT h3];exact .inr ⟨_,rfl⟩
   rw[dF h3,cond_false]
   by_cases h4:200<(x.text.length:Int)
   ·rw[dT h4];exact .inr ⟨_,rfl⟩
   rw[dF h4,cond_false]
   have hb:qO x:=⟨by unfold SM;omega,by unfold SM;omega⟩
   rcases VM (x.names.getD []) (AU l (i:Int)) (fun _ _=>True) (by unfold AU;simp only[z7 hx,jx];rw[kr];rfl) (fun j y hy=>by
    have hj:j<(x.names.getD []).length:=(En.1 hy).1
    unfold AU
    simp only[z7 hx,jx,eV hj,cT,z7 hy]
    by_cases h5:40<(y.length:Int)
    ·rw[dT h5];exact .inr ⟨_,rfl⟩
    rw[dF h5,cond_false,il (by omega)]
    exact .inl ⟨rfl,trivial⟩)with⟨e,he⟩|⟨he,_⟩
   ·rw[he];exact .inr ⟨_,rfl⟩
   ·rw[he]
    refine .inl ⟨?_,hb⟩
    simp only[]
    rw[il (by omega)])with⟨e,he⟩|⟨he,hall⟩
  ·rw[he]
   exact⟨Mn,rfl,fun h=>by cases h⟩
  ·rw[he]
   refine⟨Gp,rfl,fun _=>⟨by omega,fun e hm=>?_⟩⟩
   obtain⟨i,hi⟩:=List.getElem?_of_mem hm
   exact hall i e hi
end Go.Z
namespace Go.Z
open Go Go.Abs Go.W
theorem jcw:∀ x∈cq,x.1=lX∨0<x.2.2:=by decide
theorem j58 {e:je}(hc:kc e=0)(hu:e.kind≠lX):∃v t,e.values=v::t:=by
 obtain⟨_,f,h1,_,h3⟩:=NA hc
 have hm:(e.kind,f.1,f.2)∈cq:=by
  unfold fM at h1
  cases hf:cq.find? (fun x=>decide (x.1=e.kind))with
  |none=>rw[hf]at h1;cases h1
  |some x=>
   rw[hf]at h1
   cases h1
   have:=List.find?_some hf
   rw[←of_decide_eq_true this]
   exact List.mem_of_find?_eq_some hf
 rcases jcw _ hm with h|h
 ·exact absurd h hu
 ·cases hv:e.values with
  |cons v t=>exact⟨v,t,rfl⟩
  |nil=>rw[hv]at h3;simp at h3;have h:0<f.2:=h;omega
def VN (day:Int):Except (Int×Int) eH→qu×Int
 | .error x=>(jY,x.2)
 | .ok h=>if day<0∨999999999<day then(jY,3)else(VO (j9 .i64) day h.1,0)
theorem VP {e:qm}(hc:kc e.er=0)(hu:e.er.kind≠lX):zp (e.values.getD []) 0=I (vl e.er 0):=by
 obtain⟨v,t,hv⟩:=j58 hc hu
 have hv:e.values.getD []=v::t:=hv
 rw[gh hv,Vf hv]
theorem jcr {l:List qm}(p:je→Bool):(l.filter fun e=>p e.er).map qm.er=(l.map qm.er).filter p:=by
 rw[List.filter_map];rfl
theorem ob {α β:Type}{x:α}{f:α→Option β}:jx (I x) f=f x:=rfl
theorem q6t {h:eH}{day:Int}(k2:jb (j9 .i64) h){ct:Option (List qm)}{st:Option (List qc)}(c1:h.1=(ct.getD []).map qm.er)(c2:h.2=(st.getD []).map qc.er)(c3:(ct.getD []).length≤SM):
  ∃r,(jx (f52 day 0 999999999) fun v3=>jx (f51 (I [0,v3])) fun v5=>cond (decide (v5=0)) (jx (f67 ct day) fun v8=>jx (zp (st.getD []) ((v8.1.getD []).length:Int)) fun v10=>I (v10,(0:Int))) (I (⟨0,E3,E3,E3⟩,v5)))=I r∧(r.1.er,r.2)=VN day (.ok h):=by
 have f2:∀a b:Int,f51 (I [a,b])=I (fP [a,b]):=fun a b=>iq (by simp[SM])
 rw[DP,ob,f2,ob]
 by_cases hd:day<0∨999999999<day
 ·rw[if_pos hd]
  refine⟨(⟨0,E3,E3,E3⟩,3),rfl,?_⟩
  show _=ite _ _ _
  rw[if_pos hd];rfl
 ·rw[if_neg hd]
  have hf:f67 ct day=I (yp ((ct.getD []).filter fun e=>decide (vl e.er 0≤day)),fK ((ct.getD []).filter fun e=>decide (vl e.er 0≤day))):=by
   unfold f67
   rw[Nt (f:=Hn ct day) (l:=ct.getD []) (p:=fun e=>decide (vl e.er 0≤day)) (q:=fun e=>f68 e day) c3 (fun e he=>by
    have:=k2.kinds e.er (by rw[c1];exact List.mem_map_of_mem he)
    unfold f68
    rw[VP this.1 this.2];rfl) (fun s=>rfl)]
   rfl
  have ha:=k2.Ho day
  have hl:(h.1.filter fun e=>decide (vl e 0≤day)).length=((ct.getD []).filter fun e=>decide (vl e.er 0≤day)).length:=by
   rw[c1,←jcr (fun e=>decide (vl e 0≤day)),E4]
  rw[hl,c2,E2]at ha
  cases hq:(st.getD [])[((ct.getD []).filter fun e=>decide (vl e.er 0≤day)).length]? with
  |none=>rw[hq]at ha;cases ha
  |some r=>
   rw[hq]at ha
   refine⟨(r,0),?_,?_⟩
   ·rw[hf,show decide (fP [0,0]=0)=Gp from rfl,cT,ob]
    simp only[kj]
    rw[z7 hq];rfl
   ·have ha:r.er=VO (j9 .i64) day h.1:=by simpa using ha
    show(r.er,(0:Int))=ite _ _ _
    rw[if_neg hd,ha]
theorem jrd {l:Option (List qm)}{day:Int}(hb:∀e∈l.getD [],qO e):∃r,f17 l day=I r∧(r.1.er,r.2)=VN day (run (j9 .i64) ((l.getD []).map qm.er)):=by
 obtain⟨d,d1,d2⟩:=jut hb
 unfold f17 NF
 rw[d1,ob]
 cases hr:run (j9 .i64) ((l.getD []).map qm.er)with
 |error x=>
  rw[hr]at d2
  obtain⟨rfl,k⟩:=d2
  have f2:∀a b:Int,f51 (I [a,b])=I (fP [a,b]):=fun a b=>iq (by simp[SM])
  have h0:∀y:Int,fP [x.2,y]=x.2:=fun y=>by simp[fP,k]
  simp only[ob,DP,f2,h0,dF k,cond_false]
  exact⟨_,rfl,rfl⟩
 |ok h=>
  rw[hr]at d2
  obtain⟨o,rfl,k1,k2,k3,k4⟩:=d2
  cases o with
  |none=>
   have e1:h=([],[jY]):=k1.1
   exact q6t (ct:=none) (st:=I [eM]) k2 (by rw[e1];rfl) (by rw[e1];rfl) (by simp[SM])
  |some v=>
   obtain⟨r1,r2,r3,r4,r5,r6⟩:=k1
   have hc:decide (v.lc≤v.cs.length∧v.ls≤v.ss.length)=Gp:=dT ⟨by omega,by omega⟩
   have hZ:h.1.length=v.lc:=by rw[r3,E4,Gm];omega
   show ∃r,jx (cond (decide (v.lc≤v.cs.length∧v.ls≤v.ss.length)) _ _) _=_∧_
   rw[hc,cT,ob]
   refine q6t (ct:=I (v.cs.take v.lc)) (st:=I (v.ss.take v.ls)) k2 r3 r4 ?_
   show(v.cs.take v.lc).length≤SM
   rw[Gm]
   unfold SM;omega
theorem jii {h:eH}(k2:jb (j9 .i64) h)(day:Int){i:Nat}{e:je}(he:h.1[i]?=I e):vl e 0≤day↔i<(h.1.filter fun e=>decide (vl e 0≤day)).length:=by
 have hp:=VQ (p:=fun e=>decide (vl e 0≤day)) (l:=h.1) (fun i j x y oK hx hy hp=>by
  have h1:=k2.hJ i x hx (j-i) y (by rw[show i+(j-i)=j by omega];exact hy)
  simp at hp ⊢;omega)
 generalize hm:(h.1.filter fun e=>decide (vl e 0≤day)).length=m at hp
 constructor
 ·intro hle
  have hs:(h.1.take (i+1)).filter (fun e=>decide (vl e 0≤day))=h.1.take (i+1):=by
   rw[List.filter_eq_self]
   intro x hx
   obtain⟨j,hj,hx⟩:=List.getElem_of_mem hx
   rw[Gm]at hj
   rw[List.getElem_take]at hx
   have h1:=k2.hJ j x (by rw[←hx];exact E6 (by omega)) (i-j) e (by rw[show j+(i-j)=i by omega];exact he)
   simp;omega
  have hl:(h.1.take (i+1)).length≤m:=by
   rw[←hs,←hm]
   exact Nh.length_le (Nh.filter _ (List.take_sublist _ _))
  rw[Gm]at hl
  have:=(En.1 he).1
  omega
 ·intro aX
  have hx:e∈h.1.filter (fun e=>decide (vl e 0≤day)):=by
   rw[hp]
   exact E1 (i:=i) (by rw[List.getElem?_take_of_lt aX];exact he)
  simpa using(List.mem_filter.1 hx).2
theorem VR {h:eH}{day:Int}{v1:Option (List qm)×qc×Int×Int}(k2:jb (j9 .i64) h)(k3:HB h)(c1:h.1=(v1.1.getD []).map qm.er)(hn:h.1.length≤1000):∀(m:List qm) (i:Nat) (r:qc),(v1.1.getD []).drop i=m→i≤(v1.1.getD []).length→h.2[min i (h.1.filter fun e=>decide (vl e 0≤day)).length]?=I r.er→∃d,bf (qQ day v1) ((i:Int),r.day,r.au,r.ae,r.units)=I d∧h.2[(h.1.filter fun e=>decide (vl e 0≤day)).length]?=I (qc.er ⟨d.2.1,d.2.2.1,d.2.2.2.1,d.2.2.2.2⟩)
 | [],i,r,hm,hi,hr=>by
  have he:i=(v1.1.getD []).length:=by
   have:=Gn.1 hm;omega
  have hl:h.1.length=(v1.1.getD []).length:=by rw[c1,E4]
  have hle:(h.1.filter fun e=>decide (vl e 0≤day)).length≤h.1.length:=If _ _
  refine⟨((i:Int),r.day,r.au,r.ae,r.units),iF ?_,?_⟩
  ·unfold qQ
   subst he
   rw[kr];rfl
  ·rw[show min i (h.1.filter fun e=>decide (vl e 0≤day)).length=(h.1.filter fun e=>decide (vl e 0≤day)).length by omega]at hr
   exact hr
 |e::m,i,r,hm,hi,hr=>by
  have hx:(v1.1.getD [])[i]?=I e:=by
   have:=congrArg Mw hm
   rwa [G2]at this
  have aX:i<(v1.1.getD []).length:=(En.1 hx).1
  have qK:(v1.1.getD []).drop (i+1)=m:=by rw[oW hx]at hm;exact(Mx.inj hm).2
  have hl:h.1.length=(v1.1.getD []).length:=by rw[c1,E4]
  have he:h.1[i]?=I e.er:=by rw[c1,E2,hx];rfl
  have hk:=k2.kinds e.er (E1 he)
  have hw:j9 .i64 ((i:Int)+1)=((i+1:Nat):Int):=G8 (by unfold BB;omega)
  have hE:=jii k2 day he
  by_cases hd:vl e.er 0≤day
  ·have fh:=hE.1 hd
   rw[show min i (h.1.filter fun e=>decide (vl e 0≤day)).length=i by omega]at hr
   obtain⟨r',q1,q2⟩:=k2.next i _ _ he hr
   obtain⟨r2,c,a1,a2⟩:=jcb (r:=r) (e:=e) (SB.gb (k3 _ _ hr) (by unfold BB;omega)) (k2.wf _ _ hr) hk.1 hk.2 (q0p hk.1)
   rw[q2]at a2
   have bU:qQ day v1 ((i:Int),r.day,r.au,r.ae,r.units)=I (.inl (((i+1:Nat):Int),r2.day,r2.au,r2.ae,r2.units)):=by
    unfold qQ
    simp only[eV aX,cT,jx,z7 hx,VP hk.1 hk.2,dT hd,show f69 ⟨r.day,r.au,r.ae,r.units⟩ e=I (r2,c)from a1,hw]
   rw[mL bU]
   exact VR k2 k3 c1 hn m (i+1) r2 qK aX (by rw[show min (i+1) (h.1.filter fun e=>decide (vl e 0≤day)).length=i+1 by omega,a2.2];exact q1)
  ·have fh:¬i<(h.1.filter fun e=>decide (vl e 0≤day)).length:=fun hh=>hd (hE.2 hh)
   have bU:qQ day v1 ((i:Int),r.day,r.au,r.ae,r.units)=I (.inl (((i+1:Nat):Int),r.day,r.au,r.ae,r.units)):=by
    unfold qQ
    simp only[eV aX,cT,jx,z7 hx,VP hk.1 hk.2,dF hd,cond_false,hw]
   rw[mL bU]
   exact VR k2 k3 c1 hn m (i+1) r qK aX (by rw[show min (i+1) (h.1.filter fun e=>decide (vl e 0≤day)).length=min i (h.1.filter fun e=>decide (vl e 0≤day)).length by omega];exact hr)
theorem jop {l:Option (List qm)}{day:Int}(hb:∀e∈l.getD [],qO e):∃r,f18 l day=I r∧(r.1.er,r.2)=VN day (run (j9 .i64) ((l.getD []).map qm.er))∧∃n,n≤BB∧SB n r.1.er:=by
 obtain⟨d,d1,d2⟩:=js0 hb
 unfold f18
 rw[d1]
 simp only[jx,NB]
 have g0:∃n,n≤BB∧SB n (qc.er ⟨0,E3,E3,E3⟩):=⟨0,Gq _,SB.empty⟩
 cases hr:run (j9 .i64) ((l.getD []).map qm.er)with
 |error x=>
  rw[hr]at d2
  obtain⟨rfl,k⟩:=d2
  exact⟨(⟨0,E3,E3,E3⟩,x.2),by rw[dF k];rfl,rfl,g0⟩
 |ok h=>
  rw[hr]at d2
  obtain⟨s,r,rfl,c1,c2,k2,k3,k4⟩:=d2
  by_cases hd:day<0∨999999999<day
  ·refine⟨(⟨0,E3,E3,E3⟩,3),by rw[dT hd];rfl,?_,g0⟩
   show _=ite _ _ _
   rw[if_pos hd];rfl
  ·obtain⟨d,e1,e2⟩:=VR (day:=day) (v1:=(s,r,0,0)) k2 k3 c1 k4 (s.getD []) 0 ⟨0,E3,E3,E3⟩ rfl (Gq _) (by rw[Nat.zero_min];exact k2.first)
   have e1':bf (qQ day (s,r,0,0)) (0,0,E3,E3,E3)=I d:=e1
   refine⟨(⟨d.2.1,d.2.2.1,d.2.2.2.1,d.2.2.2.2⟩,0),?_,?_,?_⟩
   ·rw[dF hd]
    simp only[decide_true,cT,cond_false,e1']
   ·have h1:=k2.Ho day
    rw[e2]at h1
    show(qc.er ⟨d.2.1,d.2.2.1,d.2.2.2.1,d.2.2.2.2⟩,(0:Int))=ite _ _ _
    rw[if_neg hd,I.inj h1]
   ·have hle:(h.1.filter fun e=>decide (vl e 0≤day)).length≤h.1.length:=If _ _
    exact⟨_,by unfold BB;omega,k3 _ _ e2⟩
theorem jmo (a0:Option (List qm))(a1:Int):f4 a0 a1=I Gp:=by
 obtain⟨b1,h1,k1⟩:=jxk (l:=a0) (n:=24) (by omega)
 unfold f4
 rw[show f7 a0 24=I b1 from h1]
 cases b1 with
 |false=>rfl
 |true=>
  obtain⟨l1,hb⟩:=k1 rfl
  obtain⟨wo,p1,p2⟩:=jrd (day:=a1) hb
  obtain⟨yG,q1,q2,n,hn,g18⟩:=jop (day:=a1) hb
  have heq:wo.1.er=yG.1.er∧wo.2=yG.2:=by
   have:=p2.trans q2.symm
   exact⟨(Prod.mk.injEq ..▸this:_∧_).1,(Prod.mk.injEq ..▸this:_∧_).2⟩
  have g17:GB wo.1:=SB.gb (n:=n) (by rw[heq.1];exact g18) hn
  obtain⟨rc,c1,c2⟩:=jt0 g17
  have grc:GB rc:=SB.gb (n:=n) (by rw[c2,heq.1];exact g18) hn
  simp only[cT,jx,p1,q1,decide_true,heq.2,c1,jd1 (c2.trans heq.1) grc]
  rfl
theorem I4 (a0:Option (List qm))(a1:Int):jz jZ (X jZ) 4 [sl 5 vev a0,.int .i64 a1]=I (.bool Gp,Mn):=W4 (jmo a0 a1)
end Go.Z
