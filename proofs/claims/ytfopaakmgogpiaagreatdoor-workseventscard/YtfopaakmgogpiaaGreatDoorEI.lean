/- Chapter 10, plain. -/
import Derived.Test.YtfopaakmgogpiaaGreatDoorEF
import Derived.Test.YtfopaakmgogpiaaGreatDoorEC
import Derived.Test.YtfopaakmgogpiaaGreatDoorW14
import Derived.Test.YtfopaakmgogpiaaGreatDoorW8
import Derived.Test.YtfopaakmgogpiaaGreatDoorW4
import Derived.Test.YtfopaakmgogpiaaGreatDoorWL
set_option linter.unusedVariables false
set_option linter.unusedSimpArgs false
set_option maxRecDepth 100000
set_option maxHeartbeats 4000000
open Option renaming some→I,none→Ga,getD_some→Ha
open List renaming length_map→En,getElem?_eq_some_iff→E0,getElem?_map→E1,mem_of_getElem?→E3,length_singleton→E4,map_id→E7,map_append→E9,length_append→Gb,map_cons→Gd,getElem?_eq_getElem→Ge,dropLast_eq_take→Gm,drop_eq_nil_iff→Gy,head?_drop→Hb,map_take→Hh,map_nil→H6
open Bool renaming and_self→E6,true→Gc,false→Gz
namespace Go.Z
open Go Go.Abs Go.W
theorem q49 {α:Type}{o:Option (List α)}{k:Nat}(h:k≤(o.getD []).length):∃q,xu o Ga (I (k:Int))=I q∧q.getD []=(o.getD []).take k:=by
 have hc:ND (o.getD []) Ga (I (k:Int))=I ((o.getD []).take k):=by
  unfold ND
  have h1:qU (o.getD []).length (o.getD []).length (I (k:Int))=I k:=by
   unfold qU
   simp only[]
   rw[if_pos ⟨by omega,by omega⟩,Int.toNat_natCast]
  rw[h1];rfl
 unfold xu
 rw[hc]
 cases o with
 |none=>exact⟨Ga,rfl,by simp⟩
 |some l=>exact⟨_,rfl,rfl⟩
theorem VK {α:Type}{o:Option (List α)}{x:α}(h:(o.getD []).length<SM):∃q,bh (I []) (o.getD [])=I (I (o.getD []))∧bh (I (o.getD [])) [x]=I q∧q.getD []=o.getD []++[x]:=by
 refine⟨I (o.getD []++[x]),?_,?_,rfl⟩
 ·unfold bh
  rw[if_pos (by simp only[Ha,List.length_nil];unfold SM at h;omega)]
  rfl
 ·unfold bh
  rw[if_pos (by simp only[Ha,E4];unfold SM at h;omega)]
  rfl
theorem jct {e:ql}(hc:yt e.er=0):∀v∈e.values.getD [],0≤v:=by
 intro v hv
 unfold yt at hc
 split at hc
 ·simp at hc
 split at hc
 ·simp at hc
 split at hc
 ·simp at hc
 split at hc
 ·simp at hc
 split at hc
 ·simp at hc
 rename_i h
 simp only[Bool.not_eq_true',Bool.not_eq_false]at h
 have:=List.all_eq_true.1 h v hv
 simp at this
 exact this.1
def VL (i:Nat)(h:fB)(s:Option (List ql)×Option (List qc)):Prop:=h.1=(s.1.getD []).map ql.er∧h.2=(s.2.getD []).map qc.er∧h.1.length≤i
def VM (n:Nat):Except (Int×Int) fB→(Int×Int×Int×(Option (List qk))×(Option (List qi))×(Option (List qf)))⊕((Option (List ql))×Bool×(Option (List qc))×Bool×Int)→Prop
 | .error x,d=>∃s,d=.inl (x.1,x.2,s)∧x.2≠0
 | .ok h,d=>∃s w1 w2,d=.inr (s.1,w1,s.2,w2,(n:Int))∧VL n h s∧jf (j6 .i64) h∧HB h
theorem jc0 {l:Option (List ql)}(hb:∀e∈l.getD [],lM e)(hl:(l.getD []).length≤BB):∀(m:List ql) (i:Nat) (h:fB) (s:Option (List ql)×Option (List qc)) (w1 w2:Bool),(l.getD []).drop i=m→i≤(l.getD []).length→VL i h s→jf (j6 .i64) h→HB h→∃d,bf (oE l) (s.1,s.2,(i:Int),w1,w2)=I d∧VM (l.getD []).length (lN (j6 .i64) i h (m.map ql.er)) d
 | [],i,h,s,w1,w2,hm,hi,hr,o,b=>by
  have he:i=(l.getD []).length:=by
   have:=Gy.1 hm;omega
  subst he
  refine⟨.inr (s.1,w1,s.2,w2,((l.getD []).length:Int)),iT ?_,s,w1,w2,rfl,hr,o,b⟩
  unfold oE
  rw[kw];rfl
 |e::m,i,h,s,w1,w2,hm,hi,hr,o,b=>by
  have hx:(l.getD [])[i]?=I e:=by
   have:=congrArg List.head? hm
   rwa [Hb]at this
  have aY:i<(l.getD []).length:=(E0.1 hx).1
  have xR:(l.getD []).drop (i+1)=m:=by rw[qN hx]at hm;exact(List.cons.inj hm).2
  have Ef:=hb e (E3 hx)
  have hw:j6 .i64 ((i:Int)+1)=((i+1:Nat):Int):=Nz (by omega)
  obtain⟨r1,r2,r3⟩:=hr
  have gL:h.1.length=(s.1.getD []).length:=by rw[r1,En]
  have n9:h.2.length=(s.2.getD []).length:=by rw[r2,En]
  have hlen:=o.len
  rw[Gd]
  simp only[lN]
  obtain⟨F,hF⟩:∃F,oE l (s.1,s.2,(i:Int),w1,w2)=F:=⟨_,rfl⟩
  have hG:=hF
  unfold oE at hG
  simp only[fA aY,cT,z6 hx,jw,VE Ef.1 Ef.2,hw]at hG
  subst hG
  by_cases hc:yt e.er=0
  case neg=>
   rw[dF hc,cond_false]at hF
   rw[if_pos hc]
   exact⟨_,iT hF,_,rfl,hc⟩
  rw[if_neg (fun h=>h hc)]
  rw[dT hc,cT]at hF
  have Hq:∀(h':fB) (q:Option (List ql)×Option (List qc)) (v1 v2:Bool),oE l (s.1,s.2,(i:Int),w1,w2)=I (.inl (q.1,q.2,((i+1:Nat):Int),v1,v2))→Go.W.accept (j6 .i64) h ((i:Int)+1) e.er=.ok h'→VL (i+1) h' q→∃d,bf (oE l) (s.1,s.2,(i:Int),w1,w2)=I d∧VM (l.getD []).length (match Go.W.accept (j6 .i64) h ((i:Int)+1) e.er with
    | .error x=>.error ((i:Int)+1,x)
    | .ok h'=>lN (j6 .i64) (i+1) h' (m.map ql.er)) d:=by
   intro h' q v1 v2 g1 g2 g3
   obtain⟨d,d1,d2⟩:=jc0 hb hl m (i+1) h' q v1 v2 xR aY g3 (o.accept hc g2) (b.accept o g2)
   rw[g2]
   exact⟨d,by rw[oo g1];exact d1,d2⟩
  have vS:∀(x:Int) (q),oE l (s.1,s.2,(i:Int),w1,w2)=I (.inr (.inl (((i+1:Nat):Int),x,q)))→Go.W.accept (j6 .i64) h ((i:Int)+1) e.er=.error x→x≠0→∃d,bf (oE l) (s.1,s.2,(i:Int),w1,w2)=I d∧VM (l.getD []).length (match Go.W.accept (j6 .i64) h ((i:Int)+1) e.er with
    | .error x=>.error ((i:Int)+1,x)
    | .ok h'=>lN (j6 .i64) (i+1) h' (m.map ql.er)) d:=by
   intro x q g1 g2 g3
   rw[g2]
   exact⟨_,iT g1,q,rfl,g3⟩
  have hA:∀y,Go.W.accept (j6 .i64) h ((i:Int)+1) e.er=y→Go.W.accept (j6 .i64) h ((i:Int)+1) e.er=y:=fun _ h=>h
  by_cases h1:e.number=((i+1:Nat):Int)
  case neg=>
   rw[dF h1]at hF
   refine vS 11 _ hF ?_ (by decide)
   unfold Go.W.accept
   rw[if_pos (show e.er.number≠(i:Int)+1 from h1)]
  rw[dT h1,cT]at hF
  have hn1:¬e.er.number≠(i:Int)+1:=fun hh=>hh h1
  by_cases h2:e.kind=ou
  ·rw[show decide (e.kind=([117,110,100,111]:List UInt8))=Gc from dT h2,cT]at hF
   have ha:Go.W.accept (j6 .i64) h ((i:Int)+1) e.er=(match h.1.getLast? with
     |none=>.error 12
     |some c=>if c.kind=kE then .error 19 else .ok (h.1.dropLast,h.2.dropLast)):=by
    unfold Go.W.accept
    rw[if_neg hn1,if_pos (show e.er.kind=ou from h2)]
    cases h.1.getLast?<;>rfl
   by_cases h3:(s.1.getD []).length=0
   ·rw[dT (by omega),cT]at hF
    refine vS 12 _ hF ?_ (by decide)
    rw[ha,show h.1=[]from List.eq_nil_of_length_eq_zero (by omega)];rfl
   ·rw[dF (by omega),cond_false,NA (by omega) (by omega)]at hF
    obtain⟨x,hx⟩:∃x,(s.1.getD [])[(s.1.getD []).length-1]?=I x:=⟨_,Ge (by omega)⟩
    have qT:h.1.getLast?=I x.er:=by
     rw[List.getLast?_eq_getElem?,gL,r1,E1,hx];rfl
    rw[qT]at ha
    simp only[z6 hx]at hF
    by_cases h5:x.kind=kE
    ·rw[show decide (x.kind=([115,104,105,112]:List UInt8))=Gc from dT h5,cT]at hF
     refine vS 19 _ hF ?_ (by decide)
     rw[ha]
     exact if_pos (show x.er.kind=kE from h5)
    ·rw[show decide (x.kind=([115,104,105,112]:List UInt8))=Gz from dF h5,cond_false]at hF
     obtain⟨q1,c1,c2⟩:=q49 (o:=s.1) (k:=(s.1.getD []).length-1) (by omega)
     obtain⟨q2,c3,c4⟩:=q49 (o:=s.2) (k:=(s.1.getD []).length) (by omega)
     simp only[c1,c3]at hF
     refine Hq (h.1.dropLast,h.2.dropLast) (q1,q2) _ _ hF ?_ ⟨?_,?_,?_⟩
     ·rw[ha]
      exact if_neg (show ¬x.er.kind=kE from h5)
     ·show h.1.dropLast=_
      rw[c2,Gm,gL,r1,Hh]
     ·show h.2.dropLast=_
      rw[c4,Gm,r2,Hh,←r2,hlen,gL];rfl
     ·show h.1.dropLast.length≤_
      rw[List.length_dropLast];omega
  ·rw[show decide (e.kind=([117,110,100,111]:List UInt8))=Gz from dF h2,cond_false]at hF
   have ha:Go.W.accept (j6 .i64) h ((i:Int)+1) e.er=(match after (j6 .i64) (now h) e.er with
     | .error x=>.error x
     | .ok r=>.ok (h.1++[e.er],h.2++[r])):=by
    unfold Go.W.accept
    rw[if_neg hn1,if_neg (show ¬e.er.kind=ou from h2)]
    cases after (j6 .i64) (now h) e.er<;>rfl
   have dy:=o.now
   rw[gL,r2,E1]at dy
   cases hq:(s.2.getD [])[(s.1.getD []).length]? with
   |none=>rw[hq]at dy;cases dy
   |some r=>
    rw[hq]at dy
    have vt:r.er=now h:=by simpa using dy
    have VJ:SB (s.1.getD []).length r.er:=b _ r.er (by rw[r2,E1,hq];rfl)
    obtain⟨r',c,g1,g2⟩:=jrk (e:=e) (VJ.gb (by omega)) (by rw[vt];exact o.xX) hc h2 (jct hc)
    simp only[z6 hq,g1]at hF
    rw[vt]at g2
    cases hat:after (j6 .i64) (now h) e.er with
    |error k=>
     rw[hat]at g2 ha
     obtain⟨rfl,g3⟩:=g2
     rw[dF g3,cond_false]at hF
     exact vS _ _ hF ha g3
    |ok t=>
     rw[hat]at g2 ha
     obtain⟨rfl,rfl⟩:=g2
     obtain⟨q1,c1,c2,c3⟩:=VK (o:=s.1) (x:=e) (by unfold BB at hl;unfold SM;omega)
     obtain⟨q2,c4,c5,c6⟩:=VK (o:=s.2) (x:=r') (by unfold BB at hl;unfold SM;omega)
     rw[dT (rfl:(0:Int)=0),cT]at hF
     simp only[c1,c2,c4,c5]at hF
     refine Hq _ (q1,q2) _ _ hF ha ⟨?_,?_,?_⟩
     ·show h.1++[e.er]=_
      rw[c3,r1,E9];rfl
     ·show h.2++[r'.er]=_
      rw[c6,r2,E9];rfl
     ·show(h.1++[e.er]).length≤_
      rw[Gb,E4];omega
def zfv:Except (Int×Int) fB→Option (List ql)×qc×Int×Int→Prop
 | .error x,d=>d=(Ga,⟨0,Ga,Ga,Ga⟩,x.1,x.2)∧x.2≠0
 | .ok h,d=>∃s r,d=(s,r,0,0)∧h.1=(s.getD []).map ql.er∧r.er=now h∧jf (j6 .i64) h∧HB h∧h.1.length≤1000
theorem VN {l:Option (List ql)}(hb:∀e∈l.getD [],lM e):∃d,f49 l=I d∧zfv (run (j6 .i64) ((l.getD []).map ql.er)) d:=by
 unfold f49 run
 rw[En]
 by_cases h:1000<(l.getD []).length
 ·rw[dT (by omega),if_pos h]
  exact⟨_,rfl,rfl,by decide⟩
 ·rw[dF (by omega),if_neg h,cond_false]
  obtain⟨d,d1,d2⟩:=jc0 hb (by unfold BB;omega) (l.getD []) 0 ([],[lL]) (Ga,I [⟨0,Ga,Ga,Ga⟩]) Gz Gc rfl (Nat.zero_le _) ⟨rfl,rfl,Nat.zero_le _⟩ jf.empty HB.empty
  have d1':bf (oE l) (Ga,I [⟨0,Ga,Ga,Ga⟩],0,Gz,Gc)=I d:=d1
  rw[d1']
  cases hr:lN (j6 .i64) 0 ([],[lL]) ((l.getD []).map ql.er)with
  |error x=>
   rw[hr]at d2
   obtain⟨s,rfl,k⟩:=d2
   exact⟨_,rfl,rfl,k⟩
  |ok h'=>
   rw[hr]at d2
   obtain⟨s,w1,w2,rfl,⟨k1,k2,k3⟩,k4,k5⟩:=d2
   have dy:=k4.now
   rw[k2,E1,k1,En]at dy
   cases hq:(s.2.getD [])[(s.1.getD []).length]? with
   |none=>rw[hq]at dy;cases dy
   |some r=>
    rw[hq]at dy
    refine⟨(s.1,r,0,0),?_,s.1,r,rfl,k1,by simpa using dy,k4,k5,by omega⟩
    simp only[jw,z6 hq]
theorem VO {l:Option (List ql)}(hb:∀e∈l.getD [],lM e):∃r,f10 l=I r∧(r.1.er,r.2)=Hp (run (j6 .i64) ((l.getD []).map ql.er)):=by
 obtain⟨d,d1,d2⟩:=VN hb
 unfold f10
 rw[d1]
 refine⟨_,rfl,?_⟩
 cases hr:run (j6 .i64) ((l.getD []).map ql.er)with
 |error x=>
  rw[hr]at d2
  obtain⟨rfl,k⟩:=d2
  rfl
 |ok h=>
  rw[hr]at d2
  obtain⟨s,r,rfl,k1,k2,k3⟩:=d2
  show(r.er,((0:Int),(0:Int)))=_
  rw[k2];rfl
theorem jr2 {l:Option (List ql)}{e:ql}(hb:∀e∈l.getD [],lM e)(he:lM e):f16 l e=I (NC (run (j6 .i64) ((l.getD []).map ql.er)) (l.getD []).length e.er):=by
 obtain⟨r,h1,h2⟩:=VO hb
 unfold f16 NC
 rw[h1]
 have h3:r.2.2=(Hp (run (j6 .i64) ((l.getD []).map ql.er))).2.2:=by rw[←h2]
 cases hr:run (j6 .i64) ((l.getD []).map ql.er)with
 |error x=>
  rw[hr]at h3
  have hx:x.2≠0:=by
   obtain⟨d,d1,d2⟩:=VN hb
   rw[hr]at d2;exact d2.2
  have VP:r.2.2=x.2:=h3
  simp only[jw,VP]
  rw[dF hx];rfl
 |ok h=>
  rw[hr]at h3
  have VP:r.2.2=0:=h3
  simp only[jw,VP,VE he.1 he.2]
  simp only[decide_true,cT]
  by_cases hc:yt e.er=0
  case neg=>
   rw[dF hc,if_pos hc];rfl
  rw[dT hc,if_neg (fun h=>h hc),cT]
  by_cases hn:1000≤(l.getD []).length
  ·rw[dT (by omega),if_pos hn];rfl
  rw[dF (by omega),if_neg hn,cond_false]
  obtain⟨q,c1,c2,c3⟩:=VK (o:=l) (x:=e) (by unfold SM;omega)
  obtain⟨r2,k1,k2⟩:=VO (l:=q) (fun x hx=>by
   rw[c3]at hx
   rcases List.mem_append.1 hx with hx|hx
   ·exact hb x hx
   ·simp at hx;subst hx;exact he)
  simp only[c1,c2,k1]
  have k3:r2.2.2=(Hp (run (j6 .i64) ((q.getD []).map ql.er))).2.2:=by rw[←k2]
  rw[k3,c3,E9]
  have uv:lN (j6 .i64) 0 ([],[lL]) ((l.getD []).map ql.er)=.ok h:=by
   have:=hr
   unfold run at this
   rwa [if_neg (by rw[En];omega)]at this
  have bm:run (j6 .i64) ((l.getD []).map ql.er++List.map ql.er [e])=match Go.W.accept (j6 .i64) h (((l.getD []).length:Int)+1) e.er with
    | .error x=>.error (((l.getD []).length:Int)+1,x)
    | .ok h'=>.ok h':=by
   unfold run
   rw[if_neg (by rw[Gb,En,En,E4];omega),qna,uv]
   simp only[Gd,H6,lN,En,Nat.zero_add]
   rw[if_neg (fun h=>h hc)]
   cases Go.W.accept (j6 .i64) h (((l.getD []).length:Int)+1) e.er<;>rfl
  rw[bm]
  cases Go.W.accept (j6 .i64) h (((l.getD []).length:Int)+1) e.er with
  |error x=>rfl
  |ok h'=>rfl
end Go.Z
namespace Go.Z
open Go Go.Abs Go.W
theorem xY {f:Int→Option (Int⊕(Unit⊕Int))}{n:Nat}(hn:n≤SM)(cN:f (n:Int)=I (.inr (.inr (n:Int))))(h:∀i:Nat,i<n→f (i:Int)=I (.inl (j6 .i64 ((i:Int)+1)))):∃d,bf f 0=I (.inr d):=
 ⟨_,jfd n f cN fun i hi=>by rw[h i hi,il (by unfold SM at hn;omega)]⟩
theorem xZ {α:Type}{l:List α}{i:Nat}(h:i<l.length):∃x,l[i]?=I x:=⟨_,Ge h⟩
theorem q0h {a b:qr}(h1:a.ax.getD []=b.ax.getD [])(h2:a.aw.getD []=b.aw.getD [])(l1:(a.ax.getD []).length≤SM)(l2:(a.aw.getD []).length≤SM):f119 a b=I Gc:=by
 unfold f119
 obtain⟨d,hd⟩:=xY (f:=AY a b) l1 (by unfold AY;rw[kw];rfl) (fun i hi=>by
  obtain⟨x,hx⟩:=xZ hi
  unfold AY
  simp only[fA hi,cT,z6 hx,jw,z6 (show(b.ax.getD [])[i]?=I x by rw[←h1];exact hx),decide_true,E6])
 obtain⟨d',VQ⟩:=xY (f:=AZ a b) l2 (by unfold AZ;rw[kw];rfl) (fun i hi=>by
  obtain⟨x,hx⟩:=xZ hi
  unfold AZ
  simp only[fA hi,cT,z6 hx,jw,z6 (show(b.aw.getD [])[i]?=I x by rw[←h2];exact hx),decide_true,E6])
 rw[hd,VQ,h1,h2]
 simp only[decide_true,cT,jw]
theorem VR {α β γ:Type}{f:α→γ}{g:β→γ}{l:List α}{m:List β}(h:l.map f=m.map g){i:Nat}{x:α}(hx:l[i]?=I x):∃y,m[i]?=I y∧f x=g y:=by
 have h1:(l.map f)[i]?=I (f x):=by rw[E1,hx];rfl
 rw[h,E1]at h1
 cases hm:m[i]? with
 |none=>rw[hm]at h1;cases h1
 |some y=>rw[hm]at h1;exact⟨y,rfl,by simpa using h1.symm⟩
theorem VS {α β γ:Type}{f:α→γ}{g:β→γ}{l:List α}{m:List β}(h:l.map f=m.map g):l.length=m.length:=by
 have:=congrArg List.length h
 simpa using this
theorem VT {a b:qr}(h:a.er=b.er):a.ax.getD []=b.ax.getD []∧a.aw.getD []=b.aw.getD []:=⟨congrArg jg.ax h,congrArg jg.aw h⟩
theorem jey {a b:qi}(h:a.er=b.er)(l1:(a.aH.getD []).length≤BB)(l2:(a.dn.getD []).length≤BB)(l3:(a.dt.getD []).length≤BB)(l4:∀d∈a.aH.getD [],(d.ax.getD []).length≤BB∧(d.aw.getD []).length≤BB):f61 a b=I Gc:=by
 have e1:a.name=b.name:=congrArg jd.name h
 have e2:a.dn.getD []=b.dn.getD []:=congrArg (fun x=>(jd.bJ x).ax) h
 have e3:a.dt.getD []=b.dt.getD []:=congrArg (fun x=>(jd.bJ x).aw) h
 have e4:(a.aH.getD []).map qr.er=(b.aH.getD []).map qr.er:=congrArg jd.aH h
 have e5:=VS e4
 unfold f61
 obtain⟨d,hd⟩:=xY (f:=A0 a b) (yf l1) (by unfold A0;rw[kw];rfl) (fun i hi=>by
  obtain⟨x,hx⟩:=xZ hi
  obtain⟨y,hy,x5⟩:=VR e4 hx
  have hl:=l4 x (E3 hx)
  unfold A0
  simp only[fA hi,cT,z6 hx,jw,z6 hy,q0h (VT x5).1 (VT x5).2 (yf hl.1) (yf hl.2)])
 rw[hd,q0h (a:=⟨a.dn,a.dt⟩) (b:=⟨b.dn,b.dt⟩) e2 e3 (yf l2) (yf l3),e1,e5]
 simp only[decide_true,cT,jw]
theorem je5 {a b:qf}(h:a.er=b.er)(l1:(a.uses.getD []).length≤BB)(l2:(a.results.getD []).length≤BB):f62 a b=I Gc:=by
 have e1:a.name=b.name:=congrArg qz.name h
 have e2:a.product=b.product:=congrArg qz.product h
 have e3:a.version=b.version:=congrArg qz.version h
 have e4:a.uses.getD []=b.uses.getD []:=congrArg qz.uses h
 have e5:a.results.getD []=b.results.getD []:=congrArg qz.results h
 have e6:a.partner=b.partner:=congrArg qz.partner h
 have e7:a.aq=b.aq:=congrArg qz.aq h
 have e8:a.ai=b.ai:=congrArg qz.ai h
 unfold f62
 obtain⟨d,hd⟩:=xY (f:=A1 a b) (yf l1) (by unfold A1;rw[kw];rfl) (fun i hi=>by
  obtain⟨x,hx⟩:=xZ hi
  unfold A1
  simp only[fA hi,cT,z6 hx,jw,z6 (show(b.uses.getD [])[i]?=I x by rw[←e4];exact hx),decide_true,E6])
 obtain⟨d',VQ⟩:=xY (f:=A2 a b) (yf l2) (by unfold A2;rw[kw];rfl) (fun i hi=>by
  obtain⟨x,hx⟩:=xZ hi
  unfold A2
  simp only[fA hi,cT,z6 hx,jw,z6 (show(b.results.getD [])[i]?=I x by rw[←e5];exact hx),decide_true,E6])
 rw[hd,VQ,e1,e2,e3,e4,e5,e6,e7,e8]
 simp only[decide_true,cT,jw,beq_self_eq_true]
theorem jdw {a b:qc}(h:a.er=b.er)(g:GB a):f13 a b=I Gc:=by
 have e1:a.day=b.day:=congrArg qu.day h
 have e2:a.au.getD []=b.au.getD []:=congrArg qu.au h
 have e3:(a.ae.getD []).map qi.er=(b.ae.getD []).map qi.er:=congrArg qu.ae h
 have e4:(a.units.getD []).map qf.er=(b.units.getD []).map qf.er:=congrArg qu.units h
 have e5:=VS e3
 have e6:=VS e4
 unfold f13
 obtain⟨d0,h0⟩:=xY (f:=A3 a b) (yf g.L) (by unfold A3;rw[kw];rfl) (fun i hi=>by
  obtain⟨x,hx⟩:=xZ hi
  unfold A3
  simp only[fA hi,cT,z6 hx,jw,z6 (show(b.au.getD [])[i]?=I x by rw[←e2];exact hx),decide_true,E6])
 obtain⟨d1,h1⟩:=xY (f:=A4 a b) (yf g.P) (by unfold A4;rw[kw];rfl) (fun i hi=>by
  obtain⟨x,hx⟩:=xZ hi
  obtain⟨y,hy,x5⟩:=VR e3 hx
  obtain⟨k1,k2,k3,k4⟩:=g.D x (E3 hx)
  unfold A4
  simp only[fA hi,cT,z6 hx,jw,z6 hy,jey x5 k1 k2 k3 k4])
 obtain⟨d2,h2⟩:=xY (f:=A5 a b) (yf g.U) (by unfold A5;rw[kw];rfl) (fun i hi=>by
  obtain⟨x,hx⟩:=xZ hi
  obtain⟨y,hy,x5⟩:=VR e4 hx
  obtain⟨k1,k2⟩:=g.N x (E3 hx)
  unfold A5
  simp only[fA hi,cT,z6 hx,jw,z6 hy,je5 x5 k1 k2])
 rw[h0,h1,h2,e1,e2,e5,e6]
 simp only[decide_true,cT,jw]
theorem x6 {α β γ:Type}{l:List α}(hl:l.length≤BB){f:Int×Option (List β)×Bool→Option ((Int×Option (List β)×Bool)⊕(Int×Option (List β)×Bool))}{g:α→Option β}{p:α→γ}{q:β→γ}(hg:∀x∈l,∃y,g x=I y∧q y=p x)
  (hf:∀s,f s=cond (decide (s.1<(l.length:Int))) (jw (zo l s.1) fun x=>jw (g x) fun y=>cond s.2.2 (jw (bh s.2.1 [y]) fun v=>I (.inl (j6 .i64 (s.1+1),v,Gc))) (cond s.2.1.isNone (jw (bh s.2.1 [y]) fun v=>I (.inl (j6 .i64 (s.1+1),v,Gc))) Ga)) (I (.inr (s.1,s.2.1,s.2.2)))):
  ∃d,bf f (0,Ga,Gz)=I d∧(d.2.1.getD []).map q=l.map p:=by
 have key:∀(m:List α) (i:Nat) (a:List β),l.drop i=m→i≤l.length→a.length=i→∃d,bf f ((i:Int),yq a,fR a)=I d∧(d.2.1.getD []).map q=a.map q++m.map p:=by
  intro m
  induction m with
  |nil=>
   intro i a hm hi ha
   have he:i=l.length:=by
    have:=Gy.1 hm;omega
   subst he
   refine⟨((l.length:Int),yq a,fR a),iT ?_,by simp only[kn,H6,List.append_nil]⟩
   rw[hf,kw];rfl
  |cons x m ih=>
   intro i a hm hi ha
   have hx:l[i]?=I x:=by
    have:=congrArg List.head? hm
    rwa [Hb]at this
   have aY:i<l.length:=(E0.1 hx).1
   have xR:l.drop (i+1)=m:=by rw[qN hx]at hm;exact(List.cons.inj hm).2
   obtain⟨y,hy,hyq⟩:=hg x (E3 hx)
   obtain⟨d,d1,d2⟩:=ih (i+1) (a++[y]) xR aY (by rw[Gb,ha];rfl)
   refine⟨d,?_,?_⟩
   ·rw[oo (s':=(((i+1:Nat):Int),yq (a++[y]),fR (a++[y])))]
    ·exact d1
    ·rw[hf]
     simp only[fA aY,cT,z6 hx,jw,hy]
     rw[show(j6 .i64 ((i:Int)+1))=((i+1:Nat):Int)from Nz (by omega)]
     have:=vI (a:=a) (x:=y) (k:=fun v=>I (Sum.inl (((i+1:Nat):Int),v,Gc):(Int×Option (List β)×Bool)⊕(Int×Option (List β)×Bool))) (by unfold BB at hl;omega)
     rw[show fR (a++[y])=Gc by cases a<;>rfl]
     exact this
   ·rw[d2,E9,List.append_assoc,Gd,Gd,hyq];rfl
 obtain⟨d,d1,d2⟩:=key l 0 [] rfl (Nat.zero_le _) rfl
 exact⟨d,d1,d2⟩
theorem q7e {a:qr}(l1:(a.ax.getD []).length≤BB)(l2:(a.aw.getD []).length≤BB):∃r,f120 a=I r∧r.er=a.er:=by
 obtain⟨d,d1,d2⟩:=x6 (l:=a.ax.getD []) l1 (f:=Hr a) (g:=some) (p:=id) (q:=id) (fun x _=>⟨x,rfl,rfl⟩) (fun s=>rfl)
 obtain⟨d',d3,d4⟩:=x6 (l:=a.aw.getD []) l2 (f:=Hs a d) (g:=some) (p:=id) (q:=id) (fun x _=>⟨x,rfl,rfl⟩) (fun s=>rfl)
 refine⟨⟨d.2.1,d'.2.1⟩,?_,?_⟩
 ·unfold f120
  rw[d1];simp only[jw,d3]
 ·show jg.mk _ _=jg.mk _ _
  rw[E7,E7]at d2 d4
  rw[d2,d4]
theorem jpv {a:qi}(l1:(a.aH.getD []).length≤BB)(l2:(a.dn.getD []).length≤BB)(l3:(a.dt.getD []).length≤BB)(l4:∀d∈a.aH.getD [],(d.ax.getD []).length≤BB∧(d.aw.getD []).length≤BB):∃r,f63 a=I r∧r.er=a.er:=by
 obtain⟨v,v1,v2⟩:=q7e (a:=⟨a.dn,a.dt⟩) l2 l3
 obtain⟨d,d1,d2⟩:=x6 (l:=a.aH.getD []) l1 (f:=Ht a v) (g:=f120) (p:=qr.er) (q:=qr.er) (fun x hx=>q7e (l4 x hx).1 (l4 x hx).2) (fun s=>rfl)
 refine⟨⟨a.name,v.ax,v.aw,d.2.1⟩,?_,?_⟩
 ·unfold f63
  rw[v1];simp only[jw,d1]
 ·have e:=VT v2
  show jd.mk _ _ _=jd.mk _ _ _
  rw[d2]
  show jd.mk _ ⟨v.ax.getD [],v.aw.getD []⟩ _=_
  rw[e.1,e.2]
theorem jt6 {a:qf}(l1:(a.uses.getD []).length≤BB)(l2:(a.results.getD []).length≤BB):∃r,f64 a=I r∧r.er=a.er:=by
 obtain⟨d,d1,d2⟩:=x6 (l:=a.uses.getD []) l1 (f:=Hu a) (g:=some) (p:=id) (q:=id) (fun x _=>⟨x,rfl,rfl⟩) (fun s=>rfl)
 obtain⟨d',d3,d4⟩:=x6 (l:=a.results.getD []) l2 (f:=Hv a d) (g:=some) (p:=id) (q:=id) (fun x _=>⟨x,rfl,rfl⟩) (fun s=>rfl)
 refine⟨⟨a.name,a.product,a.version,d.2.1,d'.2.1,a.partner,a.aq,a.ai⟩,?_,?_⟩
 ·unfold f64
  rw[d1];simp only[jw,d3]
 ·show qz.mk _ _ _ _ _ _ _ _=qz.mk _ _ _ _ _ _ _ _
  rw[E7,E7]at d2 d4
  rw[d2,d4]
theorem joh {a:qc}(g:GB a):∃r,f14 a=I r∧r.er=a.er:=by
 obtain⟨d,d1,d2⟩:=x6 (l:=a.au.getD []) g.L (f:=Hw a) (g:=some) (p:=id) (q:=id) (fun x _=>⟨x,rfl,rfl⟩) (fun s=>rfl)
 obtain⟨d',d3,d4⟩:=x6 (l:=a.ae.getD []) g.P (f:=Hx a d) (g:=f63) (p:=qi.er) (q:=qi.er) (fun x hx=>jpv (g.D x hx).1 (g.D x hx).2.1 (g.D x hx).2.2.1 (g.D x hx).2.2.2) (fun s=>rfl)
 obtain⟨d'',d5,d6⟩:=x6 (l:=a.units.getD []) g.U (f:=Hy a d d') (g:=f64) (p:=qf.er) (q:=qf.er) (fun x hx=>jt6 (g.N x hx).1 (g.N x hx).2) (fun s=>rfl)
 refine⟨⟨a.day,d.2.1,d'.2.1,d''.2.1⟩,?_,?_⟩
 ·unfold f14
  rw[d1];simp only[jw,d3,d5]
 ·show qu.mk _ _ _ _=qu.mk _ _ _ _
  rw[E7,E7]at d2
  rw[d2,d4,d6]
theorem jkl {l:Option (List ql)}{n:Nat}(hn:n≤1000):∃b,f7 l (n:Int)=I b∧(b=Gc→(l.getD []).length≤n∧∀e∈l.getD [],lM e):=by
 unfold f7
 by_cases h:n<(l.getD []).length
 ·rw[dT (by omega)]
  exact⟨Gz,rfl,fun h=>by cases h⟩
 ·rw[dF (by omega),cond_false]
  rcases VU (l.getD []) (A6 l) (fun _ e=>lM e) (by unfold A6;rw[kw];rfl) (fun i x hx=>by
   have hi:i<(l.getD []).length:=(E0.1 hx).1
   unfold A6
   simp only[fA hi,cT,z6 hx,jw]
   by_cases h1:40<(x.kind.length:Int)
   ·rw[dT h1];exact .inr ⟨_,rfl⟩
   rw[dF h1,cond_false]
   by_cases h2:6<((x.names.getD []).length:Int)
   ·rw[dT h2];exact .inr ⟨_,rfl⟩
   rw[dF h2,cond_false]
   by_cases h3:8<((x.values.getD []).length:Int)
   ·rw[dT h3];exact .inr ⟨_,rfl⟩
   rw[dF h3,cond_false]
   by_cases h4:200<(x.text.length:Int)
   ·rw[dT h4];exact .inr ⟨_,rfl⟩
   rw[dF h4,cond_false]
   have hb:lM x:=⟨by unfold SM;omega,by unfold SM;omega⟩
   rcases VU (x.names.getD []) (A7 l (i:Int)) (fun _ _=>True) (by unfold A7;simp only[z6 hx,jw];rw[kw];rfl) (fun j y hy=>by
    have hj:j<(x.names.getD []).length:=(E0.1 hy).1
    unfold A7
    simp only[z6 hx,jw,fA hj,cT,z6 hy]
    by_cases h5:40<(y.length:Int)
    ·rw[dT h5];exact .inr ⟨_,rfl⟩
    rw[dF h5,cond_false,il (by omega)]
    exact .inl ⟨rfl,trivial⟩)with⟨e,he⟩|⟨he,_⟩
   ·rw[he];exact .inr ⟨_,rfl⟩
   ·rw[he]
    refine .inl ⟨?_,hb⟩
    simp only[]
    rw[il (by omega)])with⟨e,he⟩|⟨he,hall⟩
  ·rw[he]
   exact⟨Gz,rfl,fun h=>by cases h⟩
  ·rw[he]
   refine⟨Gc,rfl,fun _=>⟨by omega,fun e hm=>?_⟩⟩
   obtain⟨i,hi⟩:=List.getElem?_of_mem hm
   exact hall i e hi
end Go.Z
namespace Go.Z
open Go Go.Abs Go.W
theorem jj2 {l:Option (List ql)}(hb:∀e∈l.getD [],lM e){r:qc}{x:Int×Int}(h:(r.er,x)=Hp (run (j6 .i64) ((l.getD []).map ql.er))):GB r:=by
 obtain⟨d,d1,d2⟩:=VN hb
 cases hr:run (j6 .i64) ((l.getD []).map ql.er)with
 |error x=>
  rw[hr]at h
  have:r.er=lL:=congrArg Prod.fst h
  exact SB.gb (n:=0) (by rw[this];exact SB.empty) (Nat.zero_le _)
 |ok hh=>
  rw[hr]at h d2
  obtain⟨s,q,rfl,k1,k2,k3,k4,k5⟩:=d2
  have:r.er=now hh:=congrArg Prod.fst h
  exact SB.gb (n:=hh.1.length) (by rw[this];exact k4 _ _ k3.now) (by unfold BB;omega)
theorem jk5 (a0:Option (List ql))(a1:ql):f3 a0 a1=I Gc:=by
 obtain⟨b1,h1,k1⟩:=jkl (l:=a0) (n:=24) (by omega)
 obtain⟨b2,h2,k2⟩:=jkl (l:=I [a1]) (n:=1) (by omega)
 unfold f3
 rw[show f7 a0 24=I b1 from h1,show f7 (I [a1]) 1=I b2 from h2]
 cases b1 with
 |false=>rfl
 |true=>
 cases b2 with
 |false=>rfl
 |true=>
  obtain⟨l1,hb⟩:=k1 rfl
  have he:lM a1:=(k2 rfl).2 a1 (by simp)
  obtain⟨r9,p1,p2⟩:=j0z hb
  obtain⟨yU,q1,q2⟩:=VO hb
  have heq:r9.1.er=yU.1.er∧r9.2=yU.2:=by
   have:=p2.trans q2.symm
   exact⟨(Prod.mk.injEq ..▸this:_∧_).1,(Prod.mk.injEq ..▸this:_∧_).2⟩
  have g9:=jj2 hb p2
  obtain⟨rc,c1,c2⟩:=joh g9
  have grc:GB rc:=jj2 hb (x:=r9.2) (by rw[c2];exact p2)
  simp only[cT,jw,p1,q1,VD he.1 he.2,VE he.1 he.2,decide_true,heq.2,c1,jdw (c2.trans heq.1) grc,jrs hb he,jr2 hb he]
  rfl
theorem I3 (a0:Option (List ql))(a1:ql):jy gp (X gp) 3 [sl 5 vev a0,.agg [.int .i64 a1.number,.str a1.kind,sl 1 qae a1.names,sl 1 kr a1.values,.str a1.text]]=I (.bool Gc,Gz):=W3 (jk5 a0 a1)
end Go.Z
