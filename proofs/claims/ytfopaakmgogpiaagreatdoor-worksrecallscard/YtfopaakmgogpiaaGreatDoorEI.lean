/- Chapter 10, plain. -/
import Derived.Test.YtfopaakmgogpiaaGreatDoorEF
set_option linter.unusedVariables false
set_option linter.unusedSimpArgs false
set_option maxRecDepth 100000
set_option maxHeartbeats 4000000
open Option renaming some→I,none→Ep,getD_some→Ga
open List renaming getElem?_eq_some_iff→Eh,getElem?_map→Ek,length_map→En,getElem?_eq_getElem→Eo,length_singleton→Eu,dropLast_eq_take→Ev,map_append→Gb,map_take→Gc
namespace Go.Z
open Go Go.Abs Go.W
theorem q3c {α:Type}{o:Option (List α)}{k}(h:k≤(o.getD []).length):∃q,xZ o Ep (I (k:Int))=I q∧q.getD []=(o.getD []).take k:=by
 have hc:Pd (o.getD []) Ep (I (k:Int))=I ((o.getD []).take k):=by
  unfold Pd
  have h1:rN (o.getD []).length (o.getD []).length (I (k:Int))=I k:=by
   unfold rN
   simp only[]
   rw[if_pos ⟨by omega,by omega⟩,Int.toNat_natCast]
  rw[h1];rfl
 unfold xZ
 rw[hc]
 cases o with
 |none=>exact⟨Ep,rfl,by simp⟩
 |some l=>exact⟨_,rfl,rfl⟩
theorem q76 {α:Type}{o:Option (List α)}{x}(h:(o.getD []).length<SM):∃q,bj (I []) (o.getD [])=I (I (o.getD []))∧bj (I (o.getD [])) [x]=I q∧q.getD []=o.getD []++[x]:=by
 refine⟨I (o.getD []++[x]),?_,?_,rfl⟩
 ·unfold bj
  rw[if_pos (by simp only[Ga,List.length_nil];unfold SM at h;omega)]
  rfl
 ·unfold bj
  rw[if_pos (by simp only[Ga,Eu];unfold SM at h;omega)]
  rfl
theorem jb8 {e:ql}(hc:ki e.er=0):∀v∈e.values.getD [],0≤v:=by
 intro v hv
 unfold ki at hc
 split at hc
 ·simp at hc
 split at hc
 ·simp at hc
 split at hc
 ·simp at hc
 split at hc
 ·simp at hc
 split at hc
 ·simp at hc
 rename_i h
 simp only[Bool.not_eq_true',Bool.not_eq_false]at h
 have:=List.all_eq_true.1 h v hv
 simp at this
 exact this.1
def Xi (i:Nat)(h:iQ)(s:Option (List ql)×Option (List qc)):Prop:=h.1=(s.1.getD []).map ql.er∧h.2=(s.2.getD []).map qc.er∧h.1.length≤i
def Xj (n:Nat):Except (Int×Int) iQ→(Int×Int×Int×(Option (List qm))×(Option (List qq))×(Option (List qf)))⊕((Option (List ql))×Bool×(Option (List qc))×Bool×Int)→Prop
 | .error x,d=>∃s,d=.inl (x.1,x.2,s)∧x.2≠0
 | .ok h,d=>∃s w1 w2,d=.inr (s.1,w1,s.2,w2,(n:Int))∧Xi n h s∧jb (j6 .i64) h∧HB h
theorem jdh {l:Option (List ql)}(hb:∀e∈l.getD [],oP e)(hl:(l.getD []).length≤BB):∀(m:List ql) (i:Nat) (h:iQ) (s:Option (List ql)×Option (List qc)) (w1 w2:Bool),(l.getD []).drop i=m→i≤(l.getD []).length→Xi i h s→jb (j6 .i64) h→HB h→∃d,aY (oQ l) (s.1,s.2,(i:Int),w1,w2)=I d∧Xj (l.getD []).length (vz (j6 .i64) i h (m.map ql.er)) d
 | [],i,h,s,w1,w2,hm,hi,hr,o,b=>by
  have he:i=(l.getD []).length:=by
   have:=List.drop_eq_nil_iff.1 hm;omega
  subst he
  refine⟨.inr (s.1,w1,s.2,w2,((l.getD []).length:Int)),jD ?_,s,w1,w2,rfl,hr,o,b⟩
  unfold oQ
  rw[ky];rfl
 |e::m,i,h,s,w1,w2,hm,hi,hr,o,b=>by
  have hx:(l.getD [])[i]?=I e:=by
   have:=congrArg List.head? hm
   rwa [List.head?_drop]at this
  have bh:i<(l.getD []).length:=(Eh.1 hx).1
  have yK:(l.getD []).drop (i+1)=m:=by rw[pF hx]at hm;exact(List.cons.inj hm).2
  have Fj:=hb e (List.mem_of_getElem? hx)
  have hw:j6 .i64 ((i:Int)+1)=((i+1:Nat):Int):=Xe (by omega)
  obtain⟨r1,r2,r3⟩:=hr
  have gK:h.1.length=(s.1.getD []).length:=by rw[r1,En]
  have ov:h.2.length=(s.2.getD []).length:=by rw[r2,En]
  have hlen:=o.len
  rw[List.map_cons]
  simp only[vz]
  obtain⟨F,hF⟩:∃F,oQ l (s.1,s.2,(i:Int),w1,w2)=F:=⟨_,rfl⟩
  have hG:=hF
  unfold oQ at hG
  simp only[eR bh,cT,zy hx,jw,jp2 Fj.1 Fj.2,hw]at hG
  subst hG
  by_cases hc:ki e.er=0
  case neg=>
   rw[dF hc,cond_false]at hF
   rw[if_pos hc]
   exact⟨_,jD hF,_,rfl,hc⟩
  rw[if_neg (fun h=>h hc)]
  rw[dT hc,cT]at hF
  have IP:∀(h':iQ) (q:Option (List ql)×Option (List qc)) (v1 v2:Bool),oQ l (s.1,s.2,(i:Int),w1,w2)=I (.inl (q.1,q.2,((i+1:Nat):Int),v1,v2))→Go.W.accept (j6 .i64) h ((i:Int)+1) e.er=.ok h'→Xi (i+1) h' q→∃d,aY (oQ l) (s.1,s.2,(i:Int),w1,w2)=I d∧Xj (l.getD []).length (match Go.W.accept (j6 .i64) h ((i:Int)+1) e.er with
    | .error x=>.error ((i:Int)+1,x)
    | .ok h'=>vz (j6 .i64) (i+1) h' (m.map ql.er)) d:=by
   intro h' q v1 v2 g1 g2 g3
   obtain⟨d,d1,d2⟩:=jdh hb hl m (i+1) h' q v1 v2 yK bh g3 (o.accept hc g2) (b.accept o g2)
   rw[g2]
   exact⟨d,by rw[oF g1];exact d1,d2⟩
  have iq:∀(x:Int) (q),oQ l (s.1,s.2,(i:Int),w1,w2)=I (.inr (.inl (((i+1:Nat):Int),x,q)))→Go.W.accept (j6 .i64) h ((i:Int)+1) e.er=.error x→x≠0→∃d,aY (oQ l) (s.1,s.2,(i:Int),w1,w2)=I d∧Xj (l.getD []).length (match Go.W.accept (j6 .i64) h ((i:Int)+1) e.er with
    | .error x=>.error ((i:Int)+1,x)
    | .ok h'=>vz (j6 .i64) (i+1) h' (m.map ql.er)) d:=by
   intro x q g1 g2 g3
   rw[g2]
   exact⟨_,jD g1,q,rfl,g3⟩
  have hA:∀y,Go.W.accept (j6 .i64) h ((i:Int)+1) e.er=y→Go.W.accept (j6 .i64) h ((i:Int)+1) e.er=y:=fun _ h=>h
  by_cases h1:e.number=((i+1:Nat):Int)
  case neg=>
   rw[dF h1]at hF
   refine iq 11 _ hF ?_ (by decide)
   unfold Go.W.accept
   rw[if_pos (show e.er.number≠(i:Int)+1 from h1)]
  rw[dT h1,cT]at hF
  have hn1:¬e.er.number≠(i:Int)+1:=fun hh=>hh h1
  by_cases h2:e.kind=oH
  ·rw[show decide (e.kind=([117,110,100,111]:List UInt8))=true from dT h2,cT]at hF
   have ha:Go.W.accept (j6 .i64) h ((i:Int)+1) e.er=(match h.1.getLast? with
     |none=>.error 12
     |some c=>if c.kind=kP then .error 19 else .ok (h.1.dropLast,h.2.dropLast)):=by
    unfold Go.W.accept
    rw[if_neg hn1,if_pos (show e.er.kind=oH from h2)]
    cases h.1.getLast?<;>rfl
   by_cases h3:(s.1.getD []).length=0
   ·rw[dT (by omega),cT]at hF
    refine iq 12 _ hF ?_ (by decide)
    rw[ha,show h.1=[]from List.eq_nil_of_length_eq_zero (by omega)];rfl
   ·rw[dF (by omega),cond_false,Pa (by omega) (by omega)]at hF
    obtain⟨x,hx⟩:∃x,(s.1.getD [])[(s.1.getD []).length-1]?=I x:=⟨_,Eo (by omega)⟩
    have rL:h.1.getLast?=I x.er:=by
     rw[List.getLast?_eq_getElem?,gK,r1,Ek,hx];rfl
    rw[rL]at ha
    simp only[zy hx]at hF
    by_cases h5:x.kind=kP
    ·rw[show decide (x.kind=([115,104,105,112]:List UInt8))=true from dT h5,cT]at hF
     refine iq 19 _ hF ?_ (by decide)
     rw[ha]
     exact if_pos (show x.er.kind=kP from h5)
    ·rw[show decide (x.kind=([115,104,105,112]:List UInt8))=false from dF h5,cond_false]at hF
     obtain⟨q1,c1,c2⟩:=q3c (o:=s.1) (k:=(s.1.getD []).length-1) (by omega)
     obtain⟨q2,c3,c4⟩:=q3c (o:=s.2) (k:=(s.1.getD []).length) (by omega)
     simp only[c1,c3]at hF
     refine IP (h.1.dropLast,h.2.dropLast) (q1,q2) _ _ hF ?_ ⟨?_,?_,?_⟩
     ·rw[ha]
      exact if_neg (show ¬x.er.kind=kP from h5)
     ·show h.1.dropLast=_
      rw[c2,Ev,gK,r1,Gc]
     ·show h.2.dropLast=_
      rw[c4,Ev,r2,Gc,←r2,hlen,gK];rfl
     ·show h.1.dropLast.length≤_
      rw[List.length_dropLast];omega
  ·rw[show decide (e.kind=([117,110,100,111]:List UInt8))=false from dF h2,cond_false]at hF
   have ha:Go.W.accept (j6 .i64) h ((i:Int)+1) e.er=(match after (j6 .i64) (now h) e.er with
     | .error x=>.error x
     | .ok r=>.ok (h.1++[e.er],h.2++[r])):=by
    unfold Go.W.accept
    rw[if_neg hn1,if_neg (show ¬e.er.kind=oH from h2)]
    cases after (j6 .i64) (now h) e.er<;>rfl
   have dw:=o.now
   rw[gK,r2,Ek]at dw
   cases hq:(s.2.getD [])[(s.1.getD []).length]? with
   |none=>rw[hq]at dw;cases dw
   |some r=>
    rw[hq]at dw
    have vY:r.er=now h:=by simpa using dw
    have Xh:SB (s.1.getD []).length r.er:=b _ r.er (by rw[r2,Ek,hq];rfl)
    obtain⟨r',c,g1,g2⟩:=jt6 (e:=e) (Xh.gb (by omega)) (by rw[vY];exact o.rM) hc h2 (jb8 hc)
    simp only[zy hq,g1]at hF
    rw[vY]at g2
    cases hat:after (j6 .i64) (now h) e.er with
    |error k=>
     rw[hat]at g2 ha
     obtain⟨rfl,g3⟩:=g2
     rw[dF g3,cond_false]at hF
     exact iq _ _ hF ha g3
    |ok t=>
     rw[hat]at g2 ha
     obtain⟨rfl,rfl⟩:=g2
     obtain⟨q1,c1,c2,c3⟩:=q76 (o:=s.1) (x:=e) (by unfold BB at hl;unfold SM;omega)
     obtain⟨q2,c4,c5,c6⟩:=q76 (o:=s.2) (x:=r') (by unfold BB at hl;unfold SM;omega)
     rw[dT (rfl:(0:Int)=0),cT]at hF
     simp only[c1,c2,c4,c5]at hF
     refine IP _ (q1,q2) _ _ hF ha ⟨?_,?_,?_⟩
     ·show h.1++[e.er]=_
      rw[c3,r1,Gb];rfl
     ·show h.2++[r'.er]=_
      rw[c6,r2,Gb];rfl
     ·show(h.1++[e.er]).length≤_
      rw[List.length_append,Eu];omega
def zid:Except (Int×Int) iQ→Option (List ql)×qc×Int×Int→Prop
 | .error x,d=>d=(Ep,⟨0,Ep,Ep,Ep⟩,x.1,x.2)∧x.2≠0
 | .ok h,d=>∃s r,d=(s,r,0,0)∧h.1=(s.getD []).map ql.er∧r.er=now h∧jb (j6 .i64) h∧HB h∧h.1.length≤1000
theorem jdm {l}(hb:∀e∈l.getD [],oP e):∃d,f49 l=I d∧zid (run (j6 .i64) ((l.getD []).map ql.er)) d:=by
 unfold f49 run
 rw[En]
 by_cases h:1000<(l.getD []).length
 ·rw[dT (by omega),if_pos h]
  exact⟨_,rfl,rfl,by decide⟩
 ·rw[dF (by omega),if_neg h,cond_false]
  obtain⟨d,d1,d2⟩:=jdh hb (by unfold BB;omega) (l.getD []) 0 ([],[mH]) (Ep,I [⟨0,Ep,Ep,Ep⟩]) false true rfl (Nat.zero_le _) ⟨rfl,rfl,Nat.zero_le _⟩ jb.empty HB.empty
  have d1':aY (oQ l) (Ep,I [⟨0,Ep,Ep,Ep⟩],0,false,true)=I d:=d1
  rw[d1']
  cases hr:vz (j6 .i64) 0 ([],[mH]) ((l.getD []).map ql.er)with
  |error x=>
   rw[hr]at d2
   obtain⟨s,rfl,k⟩:=d2
   exact⟨_,rfl,rfl,k⟩
  |ok h'=>
   rw[hr]at d2
   obtain⟨s,w1,w2,rfl,⟨k1,k2,k3⟩,k4,k5⟩:=d2
   have dw:=k4.now
   rw[k2,Ek,k1,En]at dw
   cases hq:(s.2.getD [])[(s.1.getD []).length]? with
   |none=>rw[hq]at dw;cases dw
   |some r=>
    rw[hq]at dw
    refine⟨(s.1,r,0,0),?_,s.1,r,rfl,k1,by simpa using dw,k4,k5,by omega⟩
    simp only[jw,zy hq]
theorem jwb {l}(hb:∀e∈l.getD [],oP e):∃r,f10 l=I r∧(r.1.er,r.2)=jl2 (run (j6 .i64) ((l.getD []).map ql.er)):=by
 obtain⟨d,d1,d2⟩:=jdm hb
 unfold f10
 rw[d1]
 refine⟨_,rfl,?_⟩
 cases hr:run (j6 .i64) ((l.getD []).map ql.er)with
 |error x=>
  rw[hr]at d2
  obtain⟨rfl,k⟩:=d2
  rfl
 |ok h=>
  rw[hr]at d2
  obtain⟨s,r,rfl,k1,k2,k3⟩:=d2
  show(r.er,((0:Int),(0:Int)))=_
  rw[k2];rfl
end Go.Z
namespace Go.Z
open Go Go.Abs Go.W
theorem zg0 {f:Int→Option (Int⊕(Unit⊕Int))}{n}(hn:n≤SM)(cM:f (n:Int)=I (.inr (.inr (n:Int))))(h:∀i:Nat,i<n→f (i:Int)=I (.inl (j6 .i64 ((i:Int)+1)))):∃d,aY f 0=I (.inr d):=
 ⟨_,jjw n f cM fun i hi=>by rw[h i hi,kl (by unfold SM at hn;omega)]⟩
theorem Xk {α:Type}{l:List α}{i}(h:i<l.length):∃x,l[i]?=I x:=⟨_,Eo h⟩
theorem j0u {l n}(hn:n≤1000):∃b,f7 l (n:Int)=I b∧(b=true→(l.getD []).length≤n∧∀e∈l.getD [],oP e):=by
 unfold f7
 by_cases h:n<(l.getD []).length
 ·rw[dT (by omega)]
  exact⟨false,rfl,fun h=>by cases h⟩
 ·rw[dF (by omega),cond_false]
  rcases Xl (l.getD []) (BA l) (fun _ e=>oP e) (by unfold BA;rw[ky];rfl) (fun i x hx=>by
   have hi:i<(l.getD []).length:=(Eh.1 hx).1
   unfold BA
   simp only[eR hi,cT,zy hx,jw]
   by_cases h1:40<(x.kind.length:Int)
   ·rw[dT h1];exact .inr ⟨_,rfl⟩
   rw[dF h1,cond_false]
   by_cases h2:6<((x.names.getD []).length:Int)
   ·rw[dT h2];exact .inr ⟨_,rfl⟩
   rw[dF h2,cond_false]
   by_cases h3:8<((x.values.getD []).length:Int)
   ·rw[dT h3];exact .inr ⟨_,rfl⟩
   rw[dF h3,cond_false]
   by_cases h4:200<(x.text.length:Int)
   ·rw[dT h4];exact .inr ⟨_,rfl⟩
   rw[dF h4,cond_false]
   have hb:oP x:=⟨by unfold SM;omega,by unfold SM;omega⟩
   rcases Xl (x.names.getD []) (BD l (i:Int)) (fun _ _=>True) (by unfold BD;simp only[zy hx,jw];rw[ky];rfl) (fun j y hy=>by
    have hj:j<(x.names.getD []).length:=(Eh.1 hy).1
    unfold BD
    simp only[zy hx,jw,eR hj,cT,zy hy]
    by_cases h5:40<(y.length:Int)
    ·rw[dT h5];exact .inr ⟨_,rfl⟩
    rw[dF h5,cond_false,kl (by omega)]
    exact .inl ⟨rfl,trivial⟩)with⟨e,he⟩|⟨he,_⟩
   ·rw[he];exact .inr ⟨_,rfl⟩
   ·rw[he]
    refine .inl ⟨?_,hb⟩
    simp only[]
    rw[kl (by omega)])with⟨e,he⟩|⟨he,hall⟩
  ·rw[he]
   exact⟨false,rfl,fun h=>by cases h⟩
  ·rw[he]
   refine⟨true,rfl,fun _=>⟨by omega,fun e hm=>?_⟩⟩
   obtain⟨i,hi⟩:=List.getElem?_of_mem hm
   exact hall i e hi
end Go.Z
