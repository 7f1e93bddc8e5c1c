/- Chapter 10, plain. -/
import Derived.Test.YtfopaakmgogpiaaGreatDoorEF
import Derived.Test.YtfopaakmgogpiaaGreatDoorEC
import Derived.Test.YtfopaakmgogpiaaGreatDoorW14
import Derived.Test.YtfopaakmgogpiaaGreatDoorW8
import Derived.Test.YtfopaakmgogpiaaGreatDoorW4
import Derived.Test.YtfopaakmgogpiaaGreatDoorWL
set_option linter.unusedVariables false
set_option linter.unusedSimpArgs false
set_option maxRecDepth 100000
set_option maxHeartbeats 4000000
namespace Go.Z
open Go Go.Abs Go.W
theorem q1y {α:Type}{o:Option (List α)}{k:Nat}(h:k≤(o.getD []).length):∃q,qlq o none (some (k:Int))=some q∧q.getD []=(o.getD []).take k:=by
 have hc:q7d (o.getD []) none (some (k:Int))=some ((o.getD []).take k):=by
  unfold q7d
  have h1:qk1 (o.getD []).length (o.getD []).length (some (k:Int))=some k:=by
   unfold qk1
   simp only[]
   rw[if_pos ⟨by omega,by omega⟩,Int.toNat_natCast]
  rw[h1];rfl
 unfold qlq
 rw[hc]
 cases o with
 |none=>exact⟨none,rfl,by simp⟩
 |some l=>exact⟨_,rfl,rfl⟩
theorem qzk {α:Type}{o:Option (List α)}{x:α}(h:(o.getD []).length<SM):∃q,apO (some []) (o.getD [])=some (some (o.getD []))∧apO (some (o.getD [])) [x]=some q∧q.getD []=o.getD []++[x]:=by
 refine⟨some (o.getD []++[x]),?_,?_,rfl⟩
 ·unfold apO
  rw[if_pos (by simp only[Option.getD_some,List.length_nil];unfold SM at h;omega)]
  rfl
 ·unfold apO
  rw[if_pos (by simp only[Option.getD_some,List.length_singleton];unfold SM at h;omega)]
  rfl
theorem jbq {e:ql}(hc:yx e.er=0):∀v∈e.values.getD [],0≤v:=by
 intro v hv
 unfold yx at hc
 split at hc
 ·simp at hc
 split at hc
 ·simp at hc
 split at hc
 ·simp at hc
 split at hc
 ·simp at hc
 split at hc
 ·simp at hc
 rename_i h
 simp only[Bool.not_eq_true',Bool.not_eq_false]at h
 have:=List.all_eq_true.1 h v hv
 simp at this
 exact this.1
def jh0 (i:Nat)(h:qb7)(s:Option (List ql)×Option (List qc)):Prop:=h.1=(s.1.getD []).map ql.er∧h.2=(s.2.getD []).map qc.er∧h.1.length≤i
def jgb (n:Nat):Except (Int×Int) qb7→(Int×Int×Int×(Option (List qj))×(Option (List qi))×(Option (List qf)))⊕((Option (List ql))×Bool×(Option (List qc))×Bool×Int)→Prop
 | .error x,d=>∃s,d=.inl (x.1,x.2,s)∧x.2≠0
 | .ok h,d=>∃s w1 w2,d=.inr (s.1,w1,s.2,w2,(n:Int))∧jh0 n h s∧je (j6 .i64) h∧HB h
theorem jbg {l:Option (List ql)}(hb:∀e∈l.getD [],EvB e)(hl:(l.getD []).length≤BB):∀(m:List ql) (i:Nat) (h:qb7) (s:Option (List ql)×Option (List qc)) (w1 w2:Bool),(l.getD []).drop i=m→i≤(l.getD []).length→jh0 i h s→je (j6 .i64) h→HB h→∃d,itO (qgb l) (s.1,s.2,(i:Int),w1,w2)=some d∧jgb (l.getD []).length (qdj (j6 .i64) i h (m.map ql.er)) d
 | [],i,h,s,w1,w2,hm,hi,hr,o,b=>by
  have he:i=(l.getD []).length:=by
   have:=List.drop_eq_nil_iff.1 hm;omega
  subst he
  refine⟨.inr (s.1,w1,s.2,w2,((l.getD []).length:Int)),qa6 ?_,s,w1,w2,rfl,hr,o,b⟩
  unfold qgb
  rw[ku];rfl
 |e::m,i,h,s,w1,w2,hm,hi,hr,o,b=>by
  have hx:(l.getD [])[i]?=some e:=by
   have:=congrArg List.head? hm
   rwa [List.head?_drop]at this
  have hlt:i<(l.getD []).length:=(List.getElem?_eq_some_iff.1 hx).1
  have hm':(l.getD []).drop (i+1)=m:=by rw[qcp hx]at hm;exact(List.cons.inj hm).2
  have heb:=hb e (List.mem_of_getElem? hx)
  have hw:j6 .i64 ((i:Int)+1)=((i+1:Nat):Int):=qs2 (by omega)
  obtain⟨r1,r2,r3⟩:=hr
  have hl1:h.1.length=(s.1.getD []).length:=by rw[r1,List.length_map]
  have hl2:h.2.length=(s.2.getD []).length:=by rw[r2,List.length_map]
  have hlen:=o.len
  rw[List.map_cons]
  simp only[qdj]
  obtain⟨F,hF⟩:∃F,qgb l (s.1,s.2,(i:Int),w1,w2)=F:=⟨_,rfl⟩
  have hG:=hF
  unfold qgb at hG
  simp only[qal hlt,cT,z6 hx,jw,q3g heb.1 heb.2,hw]at hG
  subst hG
  by_cases hc:yx e.er=0
  case neg=>
   rw[dF hc,cond_false]at hF
   rw[if_pos hc]
   exact⟨_,qa6 hF,_,rfl,hc⟩
  rw[if_neg (fun h=>h hc)]
  rw[dT hc,cT]at hF
  have hacc:∀(h':qb7) (q:Option (List ql)×Option (List qc)) (v1 v2:Bool),qgb l (s.1,s.2,(i:Int),w1,w2)=some (.inl (q.1,q.2,((i+1:Nat):Int),v1,v2))→Go.W.accept (j6 .i64) h ((i:Int)+1) e.er=.ok h'→jh0 (i+1) h' q→∃d,itO (qgb l) (s.1,s.2,(i:Int),w1,w2)=some d∧jgb (l.getD []).length (match Go.W.accept (j6 .i64) h ((i:Int)+1) e.er with
    | .error x=>.error ((i:Int)+1,x)
    | .ok h'=>qdj (j6 .i64) (i+1) h' (m.map ql.er)) d:=by
   intro h' q v1 v2 g1 g2 g3
   obtain⟨d,d1,d2⟩:=jbg hb hl m (i+1) h' q v1 v2 hm' hlt g3 (o.accept hc g2) (b.accept o g2)
   rw[g2]
   exact⟨d,by rw[qec g1];exact d1,d2⟩
  have hbad:∀(x:Int) (q),qgb l (s.1,s.2,(i:Int),w1,w2)=some (.inr (.inl (((i+1:Nat):Int),x,q)))→Go.W.accept (j6 .i64) h ((i:Int)+1) e.er=.error x→x≠0→∃d,itO (qgb l) (s.1,s.2,(i:Int),w1,w2)=some d∧jgb (l.getD []).length (match Go.W.accept (j6 .i64) h ((i:Int)+1) e.er with
    | .error x=>.error ((i:Int)+1,x)
    | .ok h'=>qdj (j6 .i64) (i+1) h' (m.map ql.er)) d:=by
   intro x q g1 g2 g3
   rw[g2]
   exact⟨_,qa6 g1,q,rfl,g3⟩
  have hA:∀y,Go.W.accept (j6 .i64) h ((i:Int)+1) e.er=y→Go.W.accept (j6 .i64) h ((i:Int)+1) e.er=y:=fun _ h=>h
  by_cases h1:e.number=((i+1:Nat):Int)
  case neg=>
   rw[dF h1]at hF
   refine hbad 11 _ hF ?_ (by decide)
   unfold Go.W.accept
   rw[if_pos (show e.er.number≠(i:Int)+1 from h1)]
  rw[dT h1,cT]at hF
  have hn1:¬e.er.number≠(i:Int)+1:=fun hh=>hh h1
  by_cases h2:e.kind=qek
  ·rw[show decide (e.kind=([117,110,100,111]:List UInt8))=true from dT h2,cT]at hF
   have ha:Go.W.accept (j6 .i64) h ((i:Int)+1) e.er=(match h.1.getLast? with
     |none=>.error 12
     |some c=>if c.kind=qb6 then .error 19 else .ok (h.1.dropLast,h.2.dropLast)):=by
    unfold Go.W.accept
    rw[if_neg hn1,if_pos (show e.er.kind=qek from h2)]
    cases h.1.getLast?<;>rfl
   by_cases h3:(s.1.getD []).length=0
   ·rw[dT (by omega),cT]at hF
    refine hbad 12 _ hF ?_ (by decide)
    rw[ha,show h.1=[]from List.eq_nil_of_length_eq_zero (by omega)];rfl
   ·rw[dF (by omega),cond_false,qo4 (by omega) (by omega)]at hF
    obtain⟨x,hx⟩:∃x,(s.1.getD [])[(s.1.getD []).length-1]?=some x:=⟨_,List.getElem?_eq_getElem (by omega)⟩
    have hlast:h.1.getLast?=some x.er:=by
     rw[List.getLast?_eq_getElem?,hl1,r1,List.getElem?_map,hx];rfl
    rw[hlast]at ha
    simp only[z6 hx]at hF
    by_cases h5:x.kind=qb6
    ·rw[show decide (x.kind=([115,104,105,112]:List UInt8))=true from dT h5,cT]at hF
     refine hbad 19 _ hF ?_ (by decide)
     rw[ha]
     exact if_pos (show x.er.kind=qb6 from h5)
    ·rw[show decide (x.kind=([115,104,105,112]:List UInt8))=false from dF h5,cond_false]at hF
     obtain⟨q1,c1,c2⟩:=q1y (o:=s.1) (k:=(s.1.getD []).length-1) (by omega)
     obtain⟨q2,c3,c4⟩:=q1y (o:=s.2) (k:=(s.1.getD []).length) (by omega)
     simp only[c1,c3]at hF
     refine hacc (h.1.dropLast,h.2.dropLast) (q1,q2) _ _ hF ?_ ⟨?_,?_,?_⟩
     ·rw[ha]
      exact if_neg (show ¬x.er.kind=qb6 from h5)
     ·show h.1.dropLast=_
      rw[c2,List.dropLast_eq_take,hl1,r1,List.map_take]
     ·show h.2.dropLast=_
      rw[c4,List.dropLast_eq_take,r2,List.map_take,←r2,hlen,hl1];rfl
     ·show h.1.dropLast.length≤_
      rw[List.length_dropLast];omega
  ·rw[show decide (e.kind=([117,110,100,111]:List UInt8))=false from dF h2,cond_false]at hF
   have ha:Go.W.accept (j6 .i64) h ((i:Int)+1) e.er=(match after (j6 .i64) (now h) e.er with
     | .error x=>.error x
     | .ok r=>.ok (h.1++[e.er],h.2++[r])):=by
    unfold Go.W.accept
    rw[if_neg hn1,if_neg (show ¬e.er.kind=qek from h2)]
    cases after (j6 .i64) (now h) e.er<;>rfl
   have hnow:=o.now
   rw[hl1,r2,List.getElem?_map]at hnow
   cases hq:(s.2.getD [])[(s.1.getD []).length]? with
   |none=>rw[hq]at hnow;cases hnow
   |some r=>
    rw[hq]at hnow
    have hre:r.er=now h:=by simpa using hnow
    have hsb:SB (s.1.getD []).length r.er:=b _ r.er (by rw[r2,List.getElem?_map,hq];rfl)
    obtain⟨r',c,g1,g2⟩:=jsa (e:=e) (hsb.gb (by omega)) (by rw[hre];exact o.wfNow) hc h2 (jbq hc)
    simp only[z6 hq,g1]at hF
    rw[hre]at g2
    cases hat:after (j6 .i64) (now h) e.er with
    |error k=>
     rw[hat]at g2 ha
     obtain⟨rfl,g3⟩:=g2
     rw[dF g3,cond_false]at hF
     exact hbad _ _ hF ha g3
    |ok t=>
     rw[hat]at g2 ha
     obtain⟨rfl,rfl⟩:=g2
     obtain⟨q1,c1,c2,c3⟩:=qzk (o:=s.1) (x:=e) (by unfold BB at hl;unfold SM;omega)
     obtain⟨q2,c4,c5,c6⟩:=qzk (o:=s.2) (x:=r') (by unfold BB at hl;unfold SM;omega)
     rw[dT (rfl:(0:Int)=0),cT]at hF
     simp only[c1,c2,c4,c5]at hF
     refine hacc _ (q1,q2) _ _ hF ha ⟨?_,?_,?_⟩
     ·show h.1++[e.er]=_
      rw[c3,r1,List.map_append];rfl
     ·show h.2++[r'.er]=_
      rw[c6,r2,List.map_append];rfl
     ·show(h.1++[e.er]).length≤_
      rw[List.length_append,List.length_singleton];omega
def zdr:Except (Int×Int) qb7→Option (List ql)×qc×Int×Int→Prop
 | .error x,d=>d=(none,⟨0,none,none,none⟩,x.1,x.2)∧x.2≠0
 | .ok h,d=>∃s r,d=(s,r,0,0)∧h.1=(s.getD []).map ql.er∧r.er=now h∧je (j6 .i64) h∧HB h∧h.1.length≤1000
theorem q3v {l:Option (List ql)}(hb:∀e∈l.getD [],EvB e):∃d,f49 l=some d∧zdr (run (j6 .i64) ((l.getD []).map ql.er)) d:=by
 unfold f49 run
 rw[List.length_map]
 by_cases h:1000<(l.getD []).length
 ·rw[dT (by omega),if_pos h]
  exact⟨_,rfl,rfl,by decide⟩
 ·rw[dF (by omega),if_neg h,cond_false]
  obtain⟨d,d1,d2⟩:=jbg hb (by unfold BB;omega) (l.getD []) 0 ([],[qbe]) (none,some [⟨0,none,none,none⟩]) false true rfl (Nat.zero_le _) ⟨rfl,rfl,Nat.zero_le _⟩ je.empty HB.empty
  have d1':itO (qgb l) (none,some [⟨0,none,none,none⟩],0,false,true)=some d:=d1
  rw[d1']
  cases hr:qdj (j6 .i64) 0 ([],[qbe]) ((l.getD []).map ql.er)with
  |error x=>
   rw[hr]at d2
   obtain⟨s,rfl,k⟩:=d2
   exact⟨_,rfl,rfl,k⟩
  |ok h'=>
   rw[hr]at d2
   obtain⟨s,w1,w2,rfl,⟨k1,k2,k3⟩,k4,k5⟩:=d2
   have hnow:=k4.now
   rw[k2,List.getElem?_map,k1,List.length_map]at hnow
   cases hq:(s.2.getD [])[(s.1.getD []).length]? with
   |none=>rw[hq]at hnow;cases hnow
   |some r=>
    rw[hq]at hnow
    refine⟨(s.1,r,0,0),?_,s.1,r,rfl,k1,by simpa using hnow,k4,k5,by omega⟩
    simp only[jw,z6 hq]
theorem q27 {l:Option (List ql)}(hb:∀e∈l.getD [],EvB e):∃r,f10 l=some r∧(r.1.er,r.2)=qx7 (run (j6 .i64) ((l.getD []).map ql.er)):=by
 obtain⟨d,d1,d2⟩:=q3v hb
 unfold f10
 rw[d1]
 refine⟨_,rfl,?_⟩
 cases hr:run (j6 .i64) ((l.getD []).map ql.er)with
 |error x=>
  rw[hr]at d2
  obtain⟨rfl,k⟩:=d2
  rfl
 |ok h=>
  rw[hr]at d2
  obtain⟨s,r,rfl,k1,k2,k3⟩:=d2
  show(r.er,((0:Int),(0:Int)))=_
  rw[k2];rfl
theorem js7 {l:Option (List ql)}{e:ql}(hb:∀e∈l.getD [],EvB e)(he:EvB e):f16 l e=some (qwt (run (j6 .i64) ((l.getD []).map ql.er)) (l.getD []).length e.er):=by
 obtain⟨r,h1,h2⟩:=q27 hb
 unfold f16 qwt
 rw[h1]
 have h3:r.2.2=(qx7 (run (j6 .i64) ((l.getD []).map ql.er))).2.2:=by rw[←h2]
 cases hr:run (j6 .i64) ((l.getD []).map ql.er)with
 |error x=>
  rw[hr]at h3
  have hx:x.2≠0:=by
   obtain⟨d,d1,d2⟩:=q3v hb
   rw[hr]at d2;exact d2.2
  have h3':r.2.2=x.2:=h3
  simp only[jw,h3']
  rw[dF hx];rfl
 |ok h=>
  rw[hr]at h3
  have h3':r.2.2=0:=h3
  simp only[jw,h3',q3g he.1 he.2]
  simp only[decide_true,cT]
  by_cases hc:yx e.er=0
  case neg=>
   rw[dF hc,if_pos hc];rfl
  rw[dT hc,if_neg (fun h=>h hc),cT]
  by_cases hn:1000≤(l.getD []).length
  ·rw[dT (by omega),if_pos hn];rfl
  rw[dF (by omega),if_neg hn,cond_false]
  obtain⟨q,c1,c2,c3⟩:=qzk (o:=l) (x:=e) (by unfold SM;omega)
  obtain⟨r2,k1,k2⟩:=q27 (l:=q) (fun x hx=>by
   rw[c3]at hx
   rcases List.mem_append.1 hx with hx|hx
   ·exact hb x hx
   ·simp at hx;subst hx;exact he)
  simp only[c1,c2,k1]
  have k3:r2.2.2=(qx7 (run (j6 .i64) ((q.getD []).map ql.er))).2.2:=by rw[←k2]
  rw[k3,c3,List.map_append]
  have hrf:qdj (j6 .i64) 0 ([],[qbe]) ((l.getD []).map ql.er)=.ok h:=by
   have:=hr
   unfold run at this
   rwa [if_neg (by rw[List.length_map];omega)]at this
  have hrun:run (j6 .i64) ((l.getD []).map ql.er++List.map ql.er [e])=match Go.W.accept (j6 .i64) h (((l.getD []).length:Int)+1) e.er with
    | .error x=>.error (((l.getD []).length:Int)+1,x)
    | .ok h'=>.ok h':=by
   unfold run
   rw[if_neg (by rw[List.length_append,List.length_map,List.length_map,List.length_singleton];omega),runFrom_append,hrf]
   simp only[List.map_cons,List.map_nil,qdj,List.length_map,Nat.zero_add]
   rw[if_neg (fun h=>h hc)]
   cases Go.W.accept (j6 .i64) h (((l.getD []).length:Int)+1) e.er<;>rfl
  rw[hrun]
  cases Go.W.accept (j6 .i64) h (((l.getD []).length:Int)+1) e.er with
  |error x=>rfl
  |ok h'=>rfl
end Go.Z
namespace Go.Z
open Go Go.Abs Go.W
theorem qq2 {f:Int→Option (Int⊕(Unit⊕Int))}{n:Nat}(hn:n≤SM)(hend:f (n:Int)=some (.inr (.inr (n:Int))))(h:∀i:Nat,i<n→f (i:Int)=some (.inl (j6 .i64 ((i:Int)+1)))):∃d,itO f 0=some (.inr d):=
 ⟨_,jeo n f hend fun i hi=>by rw[h i hi,qaj (by unfold SM at hn;omega)]⟩
theorem qfx {α:Type}{l:List α}{i:Nat}(h:i<l.length):∃x,l[i]?=some x:=⟨_,List.getElem?_eq_getElem h⟩
theorem q0l {a b:qr}(h1:a.needs.getD []=b.needs.getD [])(h2:a.tests.getD []=b.tests.getD [])(l1:(a.needs.getD []).length≤SM)(l2:(a.tests.getD []).length≤SM):f119 a b=some true:=by
 unfold f119
 obtain⟨d,hd⟩:=qq2 (f:=qk8 a b) l1 (by unfold qk8;rw[ku];rfl) (fun i hi=>by
  obtain⟨x,hx⟩:=qfx hi
  unfold qk8
  simp only[qal hi,cT,z6 hx,jw,z6 (show(b.needs.getD [])[i]?=some x by rw[←h1];exact hx),decide_true,Bool.and_self])
 obtain⟨d',hd'⟩:=qq2 (f:=qkk a b) l2 (by unfold qkk;rw[ku];rfl) (fun i hi=>by
  obtain⟨x,hx⟩:=qfx hi
  unfold qkk
  simp only[qal hi,cT,z6 hx,jw,z6 (show(b.tests.getD [])[i]?=some x by rw[←h2];exact hx),decide_true,Bool.and_self])
 rw[hd,hd',h1,h2]
 simp only[decide_true,cT,jw]
theorem qzn {α β γ:Type}{f:α→γ}{g:β→γ}{l:List α}{m:List β}(h:l.map f=m.map g){i:Nat}{x:α}(hx:l[i]?=some x):∃y,m[i]?=some y∧f x=g y:=by
 have h1:(l.map f)[i]?=some (f x):=by rw[List.getElem?_map,hx];rfl
 rw[h,List.getElem?_map]at h1
 cases hm:m[i]? with
 |none=>rw[hm]at h1;cases h1
 |some y=>rw[hm]at h1;exact⟨y,rfl,by simpa using h1.symm⟩
theorem qzv {α β γ:Type}{f:α→γ}{g:β→γ}{l:List α}{m:List β}(h:l.map f=m.map g):l.length=m.length:=by
 have:=congrArg List.length h
 simpa using this
theorem q16 {a b:qr}(h:a.er=b.er):a.needs.getD []=b.needs.getD []∧a.tests.getD []=b.tests.getD []:=⟨congrArg jf.needs h,congrArg jf.tests h⟩
theorem jic {a b:qi}(h:a.er=b.er)(l1:(a.docs.getD []).length≤BB)(l2:(a.dn.getD []).length≤BB)(l3:(a.dt.getD []).length≤BB)(l4:∀d∈a.docs.getD [],(d.needs.getD []).length≤BB∧(d.tests.getD []).length≤BB):f61 a b=some true:=by
 have e1:a.name=b.name:=congrArg jd.name h
 have e2:a.dn.getD []=b.dn.getD []:=congrArg (fun x=>(jd.draft x).needs) h
 have e3:a.dt.getD []=b.dt.getD []:=congrArg (fun x=>(jd.draft x).tests) h
 have e4:(a.docs.getD []).map qr.er=(b.docs.getD []).map qr.er:=congrArg jd.docs h
 have e5:=qzv e4
 unfold f61
 obtain⟨d,hd⟩:=qq2 (f:=qpi a b) (yg l1) (by unfold qpi;rw[ku];rfl) (fun i hi=>by
  obtain⟨x,hx⟩:=qfx hi
  obtain⟨y,hy,hxy⟩:=qzn e4 hx
  have hl:=l4 x (List.mem_of_getElem? hx)
  unfold qpi
  simp only[qal hi,cT,z6 hx,jw,z6 hy,q0l (q16 hxy).1 (q16 hxy).2 (yg hl.1) (yg hl.2)])
 rw[hd,q0l (a:=⟨a.dn,a.dt⟩) (b:=⟨b.dn,b.dt⟩) e2 e3 (yg l2) (yg l3),e1,e5]
 simp only[decide_true,cT,jw]
theorem jf3 {a b:qf}(h:a.er=b.er)(l1:(a.uses.getD []).length≤BB)(l2:(a.results.getD []).length≤BB):f62 a b=some true:=by
 have e1:a.name=b.name:=congrArg qz.name h
 have e2:a.product=b.product:=congrArg qz.product h
 have e3:a.version=b.version:=congrArg qz.version h
 have e4:a.uses.getD []=b.uses.getD []:=congrArg qz.uses h
 have e5:a.results.getD []=b.results.getD []:=congrArg qz.results h
 have e6:a.partner=b.partner:=congrArg qz.partner h
 have e7:a.shipped=b.shipped:=congrArg qz.shipped h
 have e8:a.complaints=b.complaints:=congrArg qz.complaints h
 unfold f62
 obtain⟨d,hd⟩:=qq2 (f:=qpl a b) (yg l1) (by unfold qpl;rw[ku];rfl) (fun i hi=>by
  obtain⟨x,hx⟩:=qfx hi
  unfold qpl
  simp only[qal hi,cT,z6 hx,jw,z6 (show(b.uses.getD [])[i]?=some x by rw[←e4];exact hx),decide_true,Bool.and_self])
 obtain⟨d',hd'⟩:=qq2 (f:=qpc a b) (yg l2) (by unfold qpc;rw[ku];rfl) (fun i hi=>by
  obtain⟨x,hx⟩:=qfx hi
  unfold qpc
  simp only[qal hi,cT,z6 hx,jw,z6 (show(b.results.getD [])[i]?=some x by rw[←e5];exact hx),decide_true,Bool.and_self])
 rw[hd,hd',e1,e2,e3,e4,e5,e6,e7,e8]
 simp only[decide_true,cT,jw,beq_self_eq_true]
theorem jiq {a b:qc}(h:a.er=b.er)(g:GB a):f13 a b=some true:=by
 have e1:a.day=b.day:=congrArg qv.day h
 have e2:a.lots.getD []=b.lots.getD []:=congrArg qv.lots h
 have e3:(a.products.getD []).map qi.er=(b.products.getD []).map qi.er:=congrArg qv.products h
 have e4:(a.units.getD []).map qf.er=(b.units.getD []).map qf.er:=congrArg qv.units h
 have e5:=qzv e3
 have e6:=qzv e4
 unfold f13
 obtain⟨d0,h0⟩:=qq2 (f:=qpf a b) (yg g.L) (by unfold qpf;rw[ku];rfl) (fun i hi=>by
  obtain⟨x,hx⟩:=qfx hi
  unfold qpf
  simp only[qal hi,cT,z6 hx,jw,z6 (show(b.lots.getD [])[i]?=some x by rw[←e2];exact hx),decide_true,Bool.and_self])
 obtain⟨d1,h1⟩:=qq2 (f:=qoo a b) (yg g.P) (by unfold qoo;rw[ku];rfl) (fun i hi=>by
  obtain⟨x,hx⟩:=qfx hi
  obtain⟨y,hy,hxy⟩:=qzn e3 hx
  obtain⟨k1,k2,k3,k4⟩:=g.D x (List.mem_of_getElem? hx)
  unfold qoo
  simp only[qal hi,cT,z6 hx,jw,z6 hy,jic hxy k1 k2 k3 k4])
 obtain⟨d2,h2⟩:=qq2 (f:=qpm a b) (yg g.U) (by unfold qpm;rw[ku];rfl) (fun i hi=>by
  obtain⟨x,hx⟩:=qfx hi
  obtain⟨y,hy,hxy⟩:=qzn e4 hx
  obtain⟨k1,k2⟩:=g.N x (List.mem_of_getElem? hx)
  unfold qpm
  simp only[qal hi,cT,z6 hx,jw,z6 hy,jf3 hxy k1 k2])
 rw[h0,h1,h2,e1,e2,e5,e6]
 simp only[decide_true,cT,jw]
theorem qg8 {α β γ:Type}{l:List α}(hl:l.length≤BB){f:Int×Option (List β)×Bool→Option ((Int×Option (List β)×Bool)⊕(Int×Option (List β)×Bool))}{g:α→Option β}{p:α→γ}{q:β→γ}(hg:∀x∈l,∃y,g x=some y∧q y=p x)
  (hf:∀s,f s=cond (decide (s.1<(l.length:Int))) (jw (zo l s.1) fun x=>jw (g x) fun y=>cond s.2.2 (jw (apO s.2.1 [y]) fun v=>some (.inl (j6 .i64 (s.1+1),v,true))) (cond s.2.1.isNone (jw (apO s.2.1 [y]) fun v=>some (.inl (j6 .i64 (s.1+1),v,true))) none)) (some (.inr (s.1,s.2.1,s.2.2)))):
  ∃d,itO f (0,none,false)=some d∧(d.2.1.getD []).map q=l.map p:=by
 have key:∀(m:List α) (i:Nat) (a:List β),l.drop i=m→i≤l.length→a.length=i→∃d,itO f ((i:Int),yr a,qb9 a)=some d∧(d.2.1.getD []).map q=a.map q++m.map p:=by
  intro m
  induction m with
  |nil=>
   intro i a hm hi ha
   have he:i=l.length:=by
    have:=List.drop_eq_nil_iff.1 hm;omega
   subst he
   refine⟨((l.length:Int),yr a,qb9 a),qa6 ?_,by simp only[ko,List.map_nil,List.append_nil]⟩
   rw[hf,ku];rfl
  |cons x m ih=>
   intro i a hm hi ha
   have hx:l[i]?=some x:=by
    have:=congrArg List.head? hm
    rwa [List.head?_drop]at this
   have hlt:i<l.length:=(List.getElem?_eq_some_iff.1 hx).1
   have hm':l.drop (i+1)=m:=by rw[qcp hx]at hm;exact(List.cons.inj hm).2
   obtain⟨y,hy,hyq⟩:=hg x (List.mem_of_getElem? hx)
   obtain⟨d,d1,d2⟩:=ih (i+1) (a++[y]) hm' hlt (by rw[List.length_append,ha];rfl)
   refine⟨d,?_,?_⟩
   ·rw[qec (s':=(((i+1:Nat):Int),yr (a++[y]),qb9 (a++[y])))]
    ·exact d1
    ·rw[hf]
     simp only[qal hlt,cT,z6 hx,jw,hy]
     rw[show(j6 .i64 ((i:Int)+1))=((i+1:Nat):Int)from qs2 (by omega)]
     have:=qet (a:=a) (x:=y) (k:=fun v=>some (Sum.inl (((i+1:Nat):Int),v,true):(Int×Option (List β)×Bool)⊕(Int×Option (List β)×Bool))) (by unfold BB at hl;omega)
     rw[show qb9 (a++[y])=true by cases a<;>rfl]
     exact this
   ·rw[d2,List.map_append,List.append_assoc,List.map_cons,List.map_cons,hyq];rfl
 obtain⟨d,d1,d2⟩:=key l 0 [] rfl (Nat.zero_le _) rfl
 exact⟨d,d1,d2⟩
theorem q6q {a:qr}(l1:(a.needs.getD []).length≤BB)(l2:(a.tests.getD []).length≤BB):∃r,f120 a=some r∧r.er=a.er:=by
 obtain⟨d,d1,d2⟩:=qg8 (l:=a.needs.getD []) l1 (f:=qr4 a) (g:=some) (p:=id) (q:=id) (fun x _=>⟨x,rfl,rfl⟩) (fun s=>rfl)
 obtain⟨d',d3,d4⟩:=qg8 (l:=a.tests.getD []) l2 (f:=qsf a d) (g:=some) (p:=id) (q:=id) (fun x _=>⟨x,rfl,rfl⟩) (fun s=>rfl)
 refine⟨⟨d.2.1,d'.2.1⟩,?_,?_⟩
 ·unfold f120
  rw[d1];simp only[jw,d3]
 ·show jf.mk _ _=jf.mk _ _
  rw[List.map_id,List.map_id]at d2 d4
  rw[d2,d4]
theorem jsb {a:qi}(l1:(a.docs.getD []).length≤BB)(l2:(a.dn.getD []).length≤BB)(l3:(a.dt.getD []).length≤BB)(l4:∀d∈a.docs.getD [],(d.needs.getD []).length≤BB∧(d.tests.getD []).length≤BB):∃r,f63 a=some r∧r.er=a.er:=by
 obtain⟨v,v1,v2⟩:=q6q (a:=⟨a.dn,a.dt⟩) l2 l3
 obtain⟨d,d1,d2⟩:=qg8 (l:=a.docs.getD []) l1 (f:=qvf a v) (g:=f120) (p:=qr.er) (q:=qr.er) (fun x hx=>q6q (l4 x hx).1 (l4 x hx).2) (fun s=>rfl)
 refine⟨⟨a.name,v.needs,v.tests,d.2.1⟩,?_,?_⟩
 ·unfold f63
  rw[v1];simp only[jw,d1]
 ·have e:=q16 v2
  show jd.mk _ _ _=jd.mk _ _ _
  rw[d2]
  show jd.mk _ ⟨v.needs.getD [],v.tests.getD []⟩ _=_
  rw[e.1,e.2]
theorem jo3 {a:qf}(l1:(a.uses.getD []).length≤BB)(l2:(a.results.getD []).length≤BB):∃r,f64 a=some r∧r.er=a.er:=by
 obtain⟨d,d1,d2⟩:=qg8 (l:=a.uses.getD []) l1 (f:=qwe a) (g:=some) (p:=id) (q:=id) (fun x _=>⟨x,rfl,rfl⟩) (fun s=>rfl)
 obtain⟨d',d3,d4⟩:=qg8 (l:=a.results.getD []) l2 (f:=qx2 a d) (g:=some) (p:=id) (q:=id) (fun x _=>⟨x,rfl,rfl⟩) (fun s=>rfl)
 refine⟨⟨a.name,a.product,a.version,d.2.1,d'.2.1,a.partner,a.shipped,a.complaints⟩,?_,?_⟩
 ·unfold f64
  rw[d1];simp only[jw,d3]
 ·show qz.mk _ _ _ _ _ _ _ _=qz.mk _ _ _ _ _ _ _ _
  rw[List.map_id,List.map_id]at d2 d4
  rw[d2,d4]
theorem jo9 {a:qc}(g:GB a):∃r,f14 a=some r∧r.er=a.er:=by
 obtain⟨d,d1,d2⟩:=qg8 (l:=a.lots.getD []) g.L (f:=qwn a) (g:=some) (p:=id) (q:=id) (fun x _=>⟨x,rfl,rfl⟩) (fun s=>rfl)
 obtain⟨d',d3,d4⟩:=qg8 (l:=a.products.getD []) g.P (f:=qwo a d) (g:=f63) (p:=qi.er) (q:=qi.er) (fun x hx=>jsb (g.D x hx).1 (g.D x hx).2.1 (g.D x hx).2.2.1 (g.D x hx).2.2.2) (fun s=>rfl)
 obtain⟨d'',d5,d6⟩:=qg8 (l:=a.units.getD []) g.U (f:=qwl a d d') (g:=f64) (p:=qf.er) (q:=qf.er) (fun x hx=>jo3 (g.N x hx).1 (g.N x hx).2) (fun s=>rfl)
 refine⟨⟨a.day,d.2.1,d'.2.1,d''.2.1⟩,?_,?_⟩
 ·unfold f14
  rw[d1];simp only[jw,d3,d5]
 ·show qv.mk _ _ _ _=qv.mk _ _ _ _
  rw[List.map_id,List.map_id]at d2
  rw[d2,d4,d6]
theorem jjx {l:Option (List ql)}{n:Nat}(hn:n≤1000):∃b,f7 l (n:Int)=some b∧(b=true→(l.getD []).length≤n∧∀e∈l.getD [],EvB e):=by
 unfold f7
 by_cases h:n<(l.getD []).length
 ·rw[dT (by omega)]
  exact⟨false,rfl,fun h=>by cases h⟩
 ·rw[dF (by omega),cond_false]
  rcases qy3 (l.getD []) (qun l) (fun _ e=>EvB e) (by unfold qun;rw[ku];rfl) (fun i x hx=>by
   have hi:i<(l.getD []).length:=(List.getElem?_eq_some_iff.1 hx).1
   unfold qun
   simp only[qal hi,cT,z6 hx,jw]
   by_cases h1:40<(x.kind.length:Int)
   ·rw[dT h1];exact .inr ⟨_,rfl⟩
   rw[dF h1,cond_false]
   by_cases h2:6<((x.names.getD []).length:Int)
   ·rw[dT h2];exact .inr ⟨_,rfl⟩
   rw[dF h2,cond_false]
   by_cases h3:8<((x.values.getD []).length:Int)
   ·rw[dT h3];exact .inr ⟨_,rfl⟩
   rw[dF h3,cond_false]
   by_cases h4:200<(x.text.length:Int)
   ·rw[dT h4];exact .inr ⟨_,rfl⟩
   rw[dF h4,cond_false]
   have hb:EvB x:=⟨by unfold SM;omega,by unfold SM;omega⟩
   rcases qy3 (x.names.getD []) (qum l (i:Int)) (fun _ _=>True) (by unfold qum;simp only[z6 hx,jw];rw[ku];rfl) (fun j y hy=>by
    have hj:j<(x.names.getD []).length:=(List.getElem?_eq_some_iff.1 hy).1
    unfold qum
    simp only[z6 hx,jw,qal hj,cT,z6 hy]
    by_cases h5:40<(y.length:Int)
    ·rw[dT h5];exact .inr ⟨_,rfl⟩
    rw[dF h5,cond_false,qaj (by omega)]
    exact .inl ⟨rfl,trivial⟩)with⟨e,he⟩|⟨he,_⟩
   ·rw[he];exact .inr ⟨_,rfl⟩
   ·rw[he]
    refine .inl ⟨?_,hb⟩
    simp only[]
    rw[qaj (by omega)])with⟨e,he⟩|⟨he,hall⟩
  ·rw[he]
   exact⟨false,rfl,fun h=>by cases h⟩
  ·rw[he]
   refine⟨true,rfl,fun _=>⟨by omega,fun e hm=>?_⟩⟩
   obtain⟨i,hi⟩:=List.getElem?_of_mem hm
   exact hall i e hi
end Go.Z
namespace Go.Z
open Go Go.Abs Go.W
theorem jjl {l:Option (List ql)}(hb:∀e∈l.getD [],EvB e){r:qc}{x:Int×Int}(h:(r.er,x)=qx7 (run (j6 .i64) ((l.getD []).map ql.er))):GB r:=by
 obtain⟨d,d1,d2⟩:=q3v hb
 cases hr:run (j6 .i64) ((l.getD []).map ql.er)with
 |error x=>
  rw[hr]at h
  have:r.er=qbe:=congrArg Prod.fst h
  exact SB.gb (n:=0) (by rw[this];exact SB.empty) (Nat.zero_le _)
 |ok hh=>
  rw[hr]at h d2
  obtain⟨s,q,rfl,k1,k2,k3,k4,k5⟩:=d2
  have:r.er=now hh:=congrArg Prod.fst h
  exact SB.gb (n:=hh.1.length) (by rw[this];exact k4 _ _ k3.now) (by unfold BB;omega)
theorem jmh (a0:Option (List ql))(a1:ql):f3 a0 a1=some true:=by
 obtain⟨b1,h1,k1⟩:=jjx (l:=a0) (n:=24) (by omega)
 obtain⟨b2,h2,k2⟩:=jjx (l:=some [a1]) (n:=1) (by omega)
 unfold f3
 rw[show f7 a0 24=some b1 from h1,show f7 (some [a1]) 1=some b2 from h2]
 cases b1 with
 |false=>rfl
 |true=>
 cases b2 with
 |false=>rfl
 |true=>
  obtain⟨l1,hb⟩:=k1 rfl
  have he:EvB a1:=(k2 rfl).2 a1 (by simp)
  obtain⟨r9,p1,p2⟩:=jwv hb
  obtain⟨r10,q1,q2⟩:=q27 hb
  have heq:r9.1.er=r10.1.er∧r9.2=r10.2:=by
   have:=p2.trans q2.symm
   exact⟨(Prod.mk.injEq ..▸this:_∧_).1,(Prod.mk.injEq ..▸this:_∧_).2⟩
  have g9:=jjl hb p2
  obtain⟨rc,c1,c2⟩:=jo9 g9
  have grc:GB rc:=jjl hb (x:=r9.2) (by rw[c2];exact p2)
  simp only[cT,jw,p1,q1,q21 he.1 he.2,q3g he.1 he.2,decide_true,heq.2,c1,jiq (c2.trans heq.1) grc,joh hb he,js7 hb he]
  rfl
theorem I3 (a0:Option (List ql))(a1:ql):jy prZ (X prZ) 3 [sl 5 vev a0,.agg [.int .i64 a1.number,.str a1.kind,sl 1 qae a1.names,sl 1 kr a1.values,.str a1.text]]=some (.bool true,false):=W3 (jmh a0 a1)
end Go.Z
