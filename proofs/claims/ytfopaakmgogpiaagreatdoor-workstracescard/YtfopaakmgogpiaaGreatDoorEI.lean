/- Chapter 10, plain. -/
import Derived.Test.YtfopaakmgogpiaaGreatDoorEF
set_option linter.unusedVariables false
set_option linter.unusedSimpArgs false
set_option maxRecDepth 100000
set_option maxHeartbeats 4000000
open Option renaming some→I,none→E6,getD_some→Gb
open List renaming getElem?_eq_some_iff→En,getElem?_map→Eo,length_map→Ev,getElem?_eq_getElem→E5,length_singleton→E7,dropLast_eq_take→Ga,map_append→Gc,map_take→Gh
namespace Go.Z
open Go Go.Abs Go.W
theorem q3z {α:Type}{o:Option (List α)}{k:Nat}(h:k≤(o.getD []).length):∃q,xI o E6 (I (k:Int))=I q∧q.getD []=(o.getD []).take k:=by
 have hc:NP (o.getD []) E6 (I (k:Int))=I ((o.getD []).take k):=by
  unfold NP
  have h1:rh (o.getD []).length (o.getD []).length (I (k:Int))=I k:=by
   unfold rh
   simp only[]
   rw[if_pos ⟨by omega,by omega⟩,Int.toNat_natCast]
  rw[h1];rfl
 unfold xI
 rw[hc]
 cases o with
 |none=>exact⟨E6,rfl,by simp⟩
 |some l=>exact⟨_,rfl,rfl⟩
theorem q5y {α:Type}{o:Option (List α)}{x:α}(h:(o.getD []).length<SM):∃q,bp (I []) (o.getD [])=I (I (o.getD []))∧bp (I (o.getD [])) [x]=I q∧q.getD []=o.getD []++[x]:=by
 refine⟨I (o.getD []++[x]),?_,?_,rfl⟩
 ·unfold bp
  rw[if_pos (by simp only[Gb,List.length_nil];unfold SM at h;omega)]
  rfl
 ·unfold bp
  rw[if_pos (by simp only[Gb,E7];unfold SM at h;omega)]
  rfl
theorem jan {e:ql}(hc:kg e.er=0):∀v∈e.values.getD [],0≤v:=by
 intro v hv
 unfold kg at hc
 split at hc
 ·simp at hc
 split at hc
 ·simp at hc
 split at hc
 ·simp at hc
 split at hc
 ·simp at hc
 split at hc
 ·simp at hc
 rename_i h
 simp only[Bool.not_eq_true',Bool.not_eq_false]at h
 have:=List.all_eq_true.1 h v hv
 simp at this
 exact this.1
def VD (i:Nat)(h:fA)(s:Option (List ql)×Option (List qc)):Prop:=h.1=(s.1.getD []).map ql.er∧h.2=(s.2.getD []).map qc.er∧h.1.length≤i
def VE (n:Nat):Except (Int×Int) fA→(Int×Int×Int×(Option (List qj))×(Option (List qn))×(Option (List qe)))⊕((Option (List ql))×Bool×(Option (List qc))×Bool×Int)→Prop
 | .error x,d=>∃s,d=.inl (x.1,x.2,s)∧x.2≠0
 | .ok h,d=>∃s w1 w2,d=.inr (s.1,w1,s.2,w2,(n:Int))∧VD n h s∧jd (j9 .i64) h∧HB h
theorem jbw {l:Option (List ql)}(hb:∀e∈l.getD [],pq e)(hl:(l.getD []).length≤BB):∀(m:List ql) (i:Nat) (h:fA) (s:Option (List ql)×Option (List qc)) (w1 w2:Bool),(l.getD []).drop i=m→i≤(l.getD []).length→VD i h s→jd (j9 .i64) h→HB h→∃d,bj (oA l) (s.1,s.2,(i:Int),w1,w2)=I d∧VE (l.getD []).length (vd (j9 .i64) i h (m.map ql.er)) d
 | [],i,h,s,w1,w2,hm,hi,hr,o,b=>by
  have he:i=(l.getD []).length:=by
   have:=List.drop_eq_nil_iff.1 hm;omega
  subst he
  refine⟨.inr (s.1,w1,s.2,w2,((l.getD []).length:Int)),jO ?_,s,w1,w2,rfl,hr,o,b⟩
  unfold oA
  rw[fU];rfl
 |e::m,i,h,s,w1,w2,hm,hi,hr,o,b=>by
  have hx:(l.getD [])[i]?=I e:=by
   have:=congrArg List.head? hm
   rwa [List.head?_drop]at this
  have aY:i<(l.getD []).length:=(En.1 hx).1
  have Eh:(l.getD []).drop (i+1)=m:=by rw[uP hx]at hm;exact(List.cons.inj hm).2
  have El:=hb e (List.mem_of_getElem? hx)
  have hw:j9 .i64 ((i:Int)+1)=((i+1:Nat):Int):=VA (by omega)
  obtain⟨r1,r2,r3⟩:=hr
  have gO:h.1.length=(s.1.getD []).length:=by rw[r1,Ev]
  have n6:h.2.length=(s.2.getD []).length:=by rw[r2,Ev]
  have hlen:=o.len
  rw[List.map_cons]
  simp only[vd]
  obtain⟨F,hF⟩:∃F,oA l (s.1,s.2,(i:Int),w1,w2)=F:=⟨_,rfl⟩
  have hG:=hF
  unfold oA at hG
  simp only[gH aY,cT,yb hx,jx,jnn El.1 El.2,hw]at hG
  subst hG
  by_cases hc:kg e.er=0
  case neg=>
   rw[dF hc,cond_false]at hF
   rw[if_pos hc]
   exact⟨_,jO hF,_,rfl,hc⟩
  rw[if_neg (fun h=>h hc)]
  rw[dT hc,cT]at hF
  have HE:∀(h':fA) (q:Option (List ql)×Option (List qc)) (v1 v2:Bool),oA l (s.1,s.2,(i:Int),w1,w2)=I (.inl (q.1,q.2,((i+1:Nat):Int),v1,v2))→Go.W.accept (j9 .i64) h ((i:Int)+1) e.er=.ok h'→VD (i+1) h' q→∃d,bj (oA l) (s.1,s.2,(i:Int),w1,w2)=I d∧VE (l.getD []).length (match Go.W.accept (j9 .i64) h ((i:Int)+1) e.er with
    | .error x=>.error ((i:Int)+1,x)
    | .ok h'=>vd (j9 .i64) (i+1) h' (m.map ql.er)) d:=by
   intro h' q v1 v2 g1 g2 g3
   obtain⟨d,d1,d2⟩:=jbw hb hl m (i+1) h' q v1 v2 Eh aY g3 (o.accept hc g2) (b.accept o g2)
   rw[g2]
   exact⟨d,by rw[pi g1];exact d1,d2⟩
  have fQ:∀(x:Int) (q),oA l (s.1,s.2,(i:Int),w1,w2)=I (.inr (.inl (((i+1:Nat):Int),x,q)))→Go.W.accept (j9 .i64) h ((i:Int)+1) e.er=.error x→x≠0→∃d,bj (oA l) (s.1,s.2,(i:Int),w1,w2)=I d∧VE (l.getD []).length (match Go.W.accept (j9 .i64) h ((i:Int)+1) e.er with
    | .error x=>.error ((i:Int)+1,x)
    | .ok h'=>vd (j9 .i64) (i+1) h' (m.map ql.er)) d:=by
   intro x q g1 g2 g3
   rw[g2]
   exact⟨_,jO g1,q,rfl,g3⟩
  have hA:∀y,Go.W.accept (j9 .i64) h ((i:Int)+1) e.er=y→Go.W.accept (j9 .i64) h ((i:Int)+1) e.er=y:=fun _ h=>h
  by_cases h1:e.number=((i+1:Nat):Int)
  case neg=>
   rw[dF h1]at hF
   refine fQ 11 _ hF ?_ (by decide)
   unfold Go.W.accept
   rw[if_pos (show e.er.number≠(i:Int)+1 from h1)]
  rw[dT h1,cT]at hF
  have hn1:¬e.er.number≠(i:Int)+1:=fun hh=>hh h1
  by_cases h2:e.kind=ol
  ·rw[show decide (e.kind=([117,110,100,111]:List UInt8))=true from dT h2,cT]at hF
   have ha:Go.W.accept (j9 .i64) h ((i:Int)+1) e.er=(match h.1.getLast? with
     |none=>.error 12
     |some c=>if c.kind=kH then .error 19 else .ok (h.1.dropLast,h.2.dropLast)):=by
    unfold Go.W.accept
    rw[if_neg hn1,if_pos (show e.er.kind=ol from h2)]
    cases h.1.getLast?<;>rfl
   by_cases h3:(s.1.getD []).length=0
   ·rw[dT (by omega),cT]at hF
    refine fQ 12 _ hF ?_ (by decide)
    rw[ha,show h.1=[]from List.eq_nil_of_length_eq_zero (by omega)];rfl
   ·rw[dF (by omega),cond_false,NL (by omega) (by omega)]at hF
    obtain⟨x,hx⟩:∃x,(s.1.getD [])[(s.1.getD []).length-1]?=I x:=⟨_,E5 (by omega)⟩
    have qY:h.1.getLast?=I x.er:=by
     rw[List.getLast?_eq_getElem?,gO,r1,Eo,hx];rfl
    rw[qY]at ha
    simp only[yb hx]at hF
    by_cases h5:x.kind=kH
    ·rw[show decide (x.kind=([115,104,105,112]:List UInt8))=true from dT h5,cT]at hF
     refine fQ 19 _ hF ?_ (by decide)
     rw[ha]
     exact if_pos (show x.er.kind=kH from h5)
    ·rw[show decide (x.kind=([115,104,105,112]:List UInt8))=false from dF h5,cond_false]at hF
     obtain⟨q1,c1,c2⟩:=q3z (o:=s.1) (k:=(s.1.getD []).length-1) (by omega)
     obtain⟨q2,c3,c4⟩:=q3z (o:=s.2) (k:=(s.1.getD []).length) (by omega)
     simp only[c1,c3]at hF
     refine HE (h.1.dropLast,h.2.dropLast) (q1,q2) _ _ hF ?_ ⟨?_,?_,?_⟩
     ·rw[ha]
      exact if_neg (show ¬x.er.kind=kH from h5)
     ·show h.1.dropLast=_
      rw[c2,Ga,gO,r1,Gh]
     ·show h.2.dropLast=_
      rw[c4,Ga,r2,Gh,←r2,hlen,gO];rfl
     ·show h.1.dropLast.length≤_
      rw[List.length_dropLast];omega
  ·rw[show decide (e.kind=([117,110,100,111]:List UInt8))=false from dF h2,cond_false]at hF
   have ha:Go.W.accept (j9 .i64) h ((i:Int)+1) e.er=(match after (j9 .i64) (now h) e.er with
     | .error x=>.error x
     | .ok r=>.ok (h.1++[e.er],h.2++[r])):=by
    unfold Go.W.accept
    rw[if_neg hn1,if_neg (show ¬e.er.kind=ol from h2)]
    cases after (j9 .i64) (now h) e.er<;>rfl
   have dx:=o.now
   rw[gO,r2,Eo]at dx
   cases hq:(s.2.getD [])[(s.1.getD []).length]? with
   |none=>rw[hq]at dx;cases dx
   |some r=>
    rw[hq]at dx
    have vK:r.er=now h:=by simpa using dx
    have HD:SB (s.1.getD []).length r.er:=b _ r.er (by rw[r2,Eo,hq];rfl)
    obtain⟨r',c,g1,g2⟩:=jr6 (e:=e) (HD.gb (by omega)) (by rw[vK];exact o.qZ) hc h2 (jan hc)
    simp only[yb hq,g1]at hF
    rw[vK]at g2
    cases hat:after (j9 .i64) (now h) e.er with
    |error k=>
     rw[hat]at g2 ha
     obtain⟨rfl,g3⟩:=g2
     rw[dF g3,cond_false]at hF
     exact fQ _ _ hF ha g3
    |ok t=>
     rw[hat]at g2 ha
     obtain⟨rfl,rfl⟩:=g2
     obtain⟨q1,c1,c2,c3⟩:=q5y (o:=s.1) (x:=e) (by unfold BB at hl;unfold SM;omega)
     obtain⟨q2,c4,c5,c6⟩:=q5y (o:=s.2) (x:=r') (by unfold BB at hl;unfold SM;omega)
     rw[dT (rfl:(0:Int)=0),cT]at hF
     simp only[c1,c2,c4,c5]at hF
     refine HE _ (q1,q2) _ _ hF ha ⟨?_,?_,?_⟩
     ·show h.1++[e.er]=_
      rw[c3,r1,Gc];rfl
     ·show h.2++[r'.er]=_
      rw[c6,r2,Gc];rfl
     ·show(h.1++[e.er]).length≤_
      rw[List.length_append,E7];omega
def zf4:Except (Int×Int) fA→Option (List ql)×qc×Int×Int→Prop
 | .error x,d=>d=(E6,⟨0,E6,E6,E6⟩,x.1,x.2)∧x.2≠0
 | .ok h,d=>∃s r,d=(s,r,0,0)∧h.1=(s.getD []).map ql.er∧r.er=now h∧jd (j9 .i64) h∧HB h∧h.1.length≤1000
theorem jby {l:Option (List ql)}(hb:∀e∈l.getD [],pq e):∃d,f49 l=I d∧zf4 (run (j9 .i64) ((l.getD []).map ql.er)) d:=by
 unfold f49 run
 rw[Ev]
 by_cases h:1000<(l.getD []).length
 ·rw[dT (by omega),if_pos h]
  exact⟨_,rfl,rfl,by decide⟩
 ·rw[dF (by omega),if_neg h,cond_false]
  obtain⟨d,d1,d2⟩:=jbw hb (by unfold BB;omega) (l.getD []) 0 ([],[l8]) (E6,I [⟨0,E6,E6,E6⟩]) false true rfl (Nat.zero_le _) ⟨rfl,rfl,Nat.zero_le _⟩ jd.empty HB.empty
  have d1':bj (oA l) (E6,I [⟨0,E6,E6,E6⟩],0,false,true)=I d:=d1
  rw[d1']
  cases hr:vd (j9 .i64) 0 ([],[l8]) ((l.getD []).map ql.er)with
  |error x=>
   rw[hr]at d2
   obtain⟨s,rfl,k⟩:=d2
   exact⟨_,rfl,rfl,k⟩
  |ok h'=>
   rw[hr]at d2
   obtain⟨s,w1,w2,rfl,⟨k1,k2,k3⟩,k4,k5⟩:=d2
   have dx:=k4.now
   rw[k2,Eo,k1,Ev]at dx
   cases hq:(s.2.getD [])[(s.1.getD []).length]? with
   |none=>rw[hq]at dx;cases dx
   |some r=>
    rw[hq]at dx
    refine⟨(s.1,r,0,0),?_,s.1,r,rfl,k1,by simpa using dx,k4,k5,by omega⟩
    simp only[jx,yb hq]
theorem jth {l:Option (List ql)}(hb:∀e∈l.getD [],pq e):∃r,f10 l=I r∧(r.1.er,r.2)=jje (run (j9 .i64) ((l.getD []).map ql.er)):=by
 obtain⟨d,d1,d2⟩:=jby hb
 unfold f10
 rw[d1]
 refine⟨_,rfl,?_⟩
 cases hr:run (j9 .i64) ((l.getD []).map ql.er)with
 |error x=>
  rw[hr]at d2
  obtain⟨rfl,k⟩:=d2
  rfl
 |ok h=>
  rw[hr]at d2
  obtain⟨s,r,rfl,k1,k2,k3⟩:=d2
  show(r.er,((0:Int),(0:Int)))=_
  rw[k2];rfl
end Go.Z
namespace Go.Z
open Go Go.Abs Go.W
theorem ze8 {f:Int→Option (Int⊕(Unit⊕Int))}{n:Nat}(hn:n≤SM)(cN:f (n:Int)=I (.inr (.inr (n:Int))))(h:∀i:Nat,i<n→f (i:Int)=I (.inl (j9 .i64 ((i:Int)+1)))):∃d,bj f 0=I (.inr d):=
 ⟨_,jc2 n f cN fun i hi=>by rw[h i hi,gj (by unfold SM at hn;omega)]⟩
theorem jit {α:Type}{l:List α}{i:Nat}(h:i<l.length):∃x,l[i]?=I x:=⟨_,E5 h⟩
theorem jwq {l:Option (List ql)}{n:Nat}(hn:n≤1000):∃b,f7 l (n:Int)=I b∧(b=true→(l.getD []).length≤n∧∀e∈l.getD [],pq e):=by
 unfold f7
 by_cases h:n<(l.getD []).length
 ·rw[dT (by omega)]
  exact⟨false,rfl,fun h=>by cases h⟩
 ·rw[dF (by omega),cond_false]
  rcases VF (l.getD []) (A5 l) (fun _ e=>pq e) (by unfold A5;rw[fU];rfl) (fun i x hx=>by
   have hi:i<(l.getD []).length:=(En.1 hx).1
   unfold A5
   simp only[gH hi,cT,yb hx,jx]
   by_cases h1:40<(x.kind.length:Int)
   ·rw[dT h1];exact .inr ⟨_,rfl⟩
   rw[dF h1,cond_false]
   by_cases h2:6<((x.names.getD []).length:Int)
   ·rw[dT h2];exact .inr ⟨_,rfl⟩
   rw[dF h2,cond_false]
   by_cases h3:8<((x.values.getD []).length:Int)
   ·rw[dT h3];exact .inr ⟨_,rfl⟩
   rw[dF h3,cond_false]
   by_cases h4:200<(x.text.length:Int)
   ·rw[dT h4];exact .inr ⟨_,rfl⟩
   rw[dF h4,cond_false]
   have hb:pq x:=⟨by unfold SM;omega,by unfold SM;omega⟩
   rcases VF (x.names.getD []) (A6 l (i:Int)) (fun _ _=>True) (by unfold A6;simp only[yb hx,jx];rw[fU];rfl) (fun j y hy=>by
    have hj:j<(x.names.getD []).length:=(En.1 hy).1
    unfold A6
    simp only[yb hx,jx,gH hj,cT,yb hy]
    by_cases h5:40<(y.length:Int)
    ·rw[dT h5];exact .inr ⟨_,rfl⟩
    rw[dF h5,cond_false,gj (by omega)]
    exact .inl ⟨rfl,trivial⟩)with⟨e,he⟩|⟨he,_⟩
   ·rw[he];exact .inr ⟨_,rfl⟩
   ·rw[he]
    refine .inl ⟨?_,hb⟩
    simp only[]
    rw[gj (by omega)])with⟨e,he⟩|⟨he,hall⟩
  ·rw[he]
   exact⟨false,rfl,fun h=>by cases h⟩
  ·rw[he]
   refine⟨true,rfl,fun _=>⟨by omega,fun e hm=>?_⟩⟩
   obtain⟨i,hi⟩:=List.getElem?_of_mem hm
   exact hall i e hi
end Go.Z
