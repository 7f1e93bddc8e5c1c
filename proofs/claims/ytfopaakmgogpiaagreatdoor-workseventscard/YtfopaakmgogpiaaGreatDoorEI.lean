/- Chapter 10, plain. -/
import Derived.Test.YtfopaakmgogpiaaGreatDoorEF
import Derived.Test.YtfopaakmgogpiaaGreatDoorEC
import Derived.Test.YtfopaakmgogpiaaGreatDoorW14
import Derived.Test.YtfopaakmgogpiaaGreatDoorW8
import Derived.Test.YtfopaakmgogpiaaGreatDoorW4
import Derived.Test.YtfopaakmgogpiaaGreatDoorWL
set_option linter.unusedVariables false
set_option linter.unusedSimpArgs false
set_option maxRecDepth 100000
set_option maxHeartbeats 4000000
namespace Go.Z
open Go Go.Abs Go.W
theorem q15 {α:Type} {o:Option (List α)} {k:Nat} (h:k≤(o.getD []).length):∃ q,qj8 o none (some (k:Int))=some q∧q.getD []=(o.getD []).take k:=by
 have hc:q81 (o.getD []) none (some (k:Int))=some ((o.getD []).take k):=by
  unfold q81
  have h1:qjv (o.getD []).length (o.getD []).length (some (k:Int))=some k:=by
   unfold qjv
   simp only []
   rw [if_pos ⟨by omega,by omega⟩,Int.toNat_natCast]
  rw [h1]; rfl
 unfold qj8
 rw [hc]
 cases o with
 | none=>exact ⟨none,rfl,by simp⟩
 | some l=>exact ⟨_,rfl,rfl⟩
theorem qxz {α:Type} {o:Option (List α)} {x:α} (h:(o.getD []).length < SM):∃ q,apO (some []) (o.getD [])=some (some (o.getD []))∧apO (some (o.getD [])) [x]=some q∧q.getD []=o.getD []++[x]:=by
 refine ⟨some (o.getD []++[x]),?_,?_,rfl⟩
 ·unfold apO
  rw [if_pos (by simp only [Option.getD_some,List.length_nil]; unfold SM at h; omega)]
  rfl
 ·unfold apO
  rw [if_pos (by simp only [Option.getD_some,List.length_singleton]; unfold SM at h; omega)]
  rfl
theorem q89 {e:GEv} (hc:zb e.er=0):∀ v∈e.values.getD [],0≤v:=by
 intro v hv
 unfold zb at hc
 split at hc
 ·simp at hc
 split at hc
 ·simp at hc
 split at hc
 ·simp at hc
 split at hc
 ·simp at hc
 split at hc
 ·simp at hc
 rename_i h
 simp only [Bool.not_eq_true',Bool.not_eq_false] at h
 have:=List.all_eq_true.1 h v hv
 simp at this
 exact this.1
def jg3 (i:Nat) (h:qav) (s:Option (List GEv) × Option (List GReg)):Prop:=h.1=(s.1.getD []).map GEv.er∧h.2=(s.2.getD []).map GReg.er∧h.1.length≤i
def jdp (n:Nat):Except (Int × Int) qav→(Int × Int × Int × (Option (List qt)) × (Option (List GProd)) × (Option (List GUn))) ⊕ ((Option (List GEv)) × Bool × (Option (List GReg)) × Bool × Int)→Prop
 | .error x,d=>∃ s,d=.inl (x.1,x.2,s)∧x.2 ≠ 0
 | .ok h,d=>∃ s w1 w2,d=.inr (s.1,w1,s.2,w2,(n:Int))∧jg3 n h s∧HOk (qe .i64) h∧HB h
theorem q9n {l:Option (List GEv)} (hb:∀ e∈l.getD [],EvB e) (hl:(l.getD []).length≤BB):∀ (m:List GEv) (i:Nat) (h:qav) (s:Option (List GEv) × Option (List GReg)) (w1 w2:Bool),(l.getD []).drop i=m→i≤(l.getD []).length→jg3 i h s→HOk (qe .i64) h→HB h→∃ d,itO (qev l) (s.1,s.2,(i:Int),w1,w2)=some d∧jdp (l.getD []).length (qb5 (qe .i64) i h (m.map GEv.er)) d
 | [],i,h,s,w1,w2,hm,hi,hr,o,b=>by
  have he:i=(l.getD []).length:=by
   have:=List.drop_eq_nil_iff.1 hm; omega
  subst he
  refine ⟨.inr (s.1,w1,s.2,w2,((l.getD []).length:Int)),ki ?_,s,w1,w2,rfl,hr,o,b⟩
  unfold qev
  rw [zx]; rfl
 | e::m,i,h,s,w1,w2,hm,hi,hr,o,b=>by
  have hx:(l.getD [])[i]?=some e:=by
   have:=congrArg List.head? hm
   rwa [List.head?_drop] at this
  have hlt:i < (l.getD []).length:=(List.getElem?_eq_some_iff.1 hx).1
  have hm':(l.getD []).drop (i + 1)=m:=by rw [qbf hx] at hm; exact (List.cons.inj hm).2
  have heb:=hb e (List.mem_of_getElem? hx)
  have hw:qe .i64 ((i:Int) + 1)=((i + 1:Nat):Int):=qr6 (by omega)
  obtain ⟨r1,r2,r3⟩:=hr
  have hl1:h.1.length=(s.1.getD []).length:=by rw [r1,List.length_map]
  have hl2:h.2.length=(s.2.getD []).length:=by rw [r2,List.length_map]
  have hlen:=o.len
  rw [List.map_cons]
  simp only [qb5]
  obtain ⟨F,hF⟩:∃ F,qev l (s.1,s.2,(i:Int),w1,w2)=F:=⟨_,rfl⟩
  have hG:=hF
  unfold qev at hG
  simp only [yn hlt,cond_true,jf hx,qa,q1j heb.1 heb.2,hw] at hG
  subst hG
  by_cases hc:zb e.er=0
  case neg=>
   rw [decide_eq_false hc,cond_false] at hF
   rw [if_pos hc]
   exact ⟨_,ki hF,_,rfl,hc⟩
  rw [if_neg (fun h=>h hc)]
  rw [decide_eq_true hc,cond_true] at hF
  have hacc:∀ (h':qav) (q:Option (List GEv) × Option (List GReg)) (v1 v2:Bool),qev l (s.1,s.2,(i:Int),w1,w2)=some (.inl (q.1,q.2,((i + 1:Nat):Int),v1,v2))→Go.W.accept (qe .i64) h ((i:Int) + 1) e.er=.ok h'→jg3 (i + 1) h' q→∃ d,itO (qev l) (s.1,s.2,(i:Int),w1,w2)=some d∧jdp (l.getD []).length (match Go.W.accept (qe .i64) h ((i:Int) + 1) e.er with
    | .error x=>.error ((i:Int) + 1,x)
    | .ok h'=>qb5 (qe .i64) (i + 1) h' (m.map GEv.er)) d:=by
   intro h' q v1 v2 g1 g2 g3
   obtain ⟨d,d1,d2⟩:=q9n hb hl m (i + 1) h' q v1 v2 hm' hlt g3 (o.accept hc g2) (b.accept o g2)
   rw [g2]
   exact ⟨d,by rw [qc7 g1]; exact d1,d2⟩
  have hbad:∀ (x:Int) (q),qev l (s.1,s.2,(i:Int),w1,w2)=some (.inr (.inl (((i + 1:Nat):Int),x,q)))→Go.W.accept (qe .i64) h ((i:Int) + 1) e.er=.error x→x ≠ 0→∃ d,itO (qev l) (s.1,s.2,(i:Int),w1,w2)=some d∧jdp (l.getD []).length (match Go.W.accept (qe .i64) h ((i:Int) + 1) e.er with
    | .error x=>.error ((i:Int) + 1,x)
    | .ok h'=>qb5 (qe .i64) (i + 1) h' (m.map GEv.er)) d:=by
   intro x q g1 g2 g3
   rw [g2]
   exact ⟨_,ki g1,q,rfl,g3⟩
  have hA:∀ y,Go.W.accept (qe .i64) h ((i:Int) + 1) e.er=y→Go.W.accept (qe .i64) h ((i:Int) + 1) e.er=y:=fun _ h=>h
  by_cases h1:e.number=((i + 1:Nat):Int)
  case neg=>
   rw [decide_eq_false h1] at hF
   refine hbad 11 _ hF ?_ (by decide)
   unfold Go.W.accept
   rw [if_pos (show e.er.number ≠ (i:Int) + 1 from h1)]
  rw [decide_eq_true h1,cond_true] at hF
  have hn1:¬ e.er.number ≠ (i:Int) + 1:=fun hh=>hh h1
  by_cases h2:e.kind=qc4
  ·rw [show decide (e.kind=([117,110,100,111]:List UInt8))=true from decide_eq_true h2,cond_true] at hF
   have ha:Go.W.accept (qe .i64) h ((i:Int) + 1) e.er=(match h.1.getLast? with
     | none=>.error 12
     | some c=>if c.kind=qau then .error 19 else .ok (h.1.dropLast,h.2.dropLast)):=by
    unfold Go.W.accept
    rw [if_neg hn1,if_pos (show e.er.kind=qc4 from h2)]
    cases h.1.getLast? <;> rfl
   by_cases h3:(s.1.getD []).length=0
   ·rw [decide_eq_true (by omega),cond_true] at hF
    refine hbad 12 _ hF ?_ (by decide)
    rw [ha,show h.1=[] from List.eq_nil_of_length_eq_zero (by omega)]; rfl
   ·rw [decide_eq_false (by omega),cond_false,qn5 (by omega) (by omega)] at hF
    obtain ⟨x,hx⟩:∃ x,(s.1.getD [])[(s.1.getD []).length - 1]?=some x:=⟨_,List.getElem?_eq_getElem (by omega)⟩
    have hlast:h.1.getLast?=some x.er:=by
     rw [List.getLast?_eq_getElem?,hl1,r1,List.getElem?_map,hx]; rfl
    rw [hlast] at ha
    simp only [jf hx] at hF
    by_cases h5:x.kind=qau
    ·rw [show decide (x.kind=([115,104,105,112]:List UInt8))=true from decide_eq_true h5,cond_true] at hF
     refine hbad 19 _ hF ?_ (by decide)
     rw [ha]
     exact if_pos (show x.er.kind=qau from h5)
    ·rw [show decide (x.kind=([115,104,105,112]:List UInt8))=false from decide_eq_false h5,cond_false] at hF
     obtain ⟨q1,c1,c2⟩:=q15 (o:=s.1) (k:=(s.1.getD []).length - 1) (by omega)
     obtain ⟨q2,c3,c4⟩:=q15 (o:=s.2) (k:=(s.1.getD []).length) (by omega)
     simp only [c1,c3] at hF
     refine hacc (h.1.dropLast,h.2.dropLast) (q1,q2) _ _ hF ?_ ⟨?_,?_,?_⟩
     ·rw [ha]
      exact if_neg (show ¬ x.er.kind=qau from h5)
     ·show h.1.dropLast=_
      rw [c2,List.dropLast_eq_take,hl1,r1,List.map_take]
     ·show h.2.dropLast=_
      rw [c4,List.dropLast_eq_take,r2,List.map_take,← r2,hlen,hl1]; rfl
     ·show h.1.dropLast.length≤_
      rw [List.length_dropLast]; omega
  ·rw [show decide (e.kind=([117,110,100,111]:List UInt8))=false from decide_eq_false h2,cond_false] at hF
   have ha:Go.W.accept (qe .i64) h ((i:Int) + 1) e.er=(match after (qe .i64) (now h) e.er with
     | .error x=>.error x
     | .ok r=>.ok (h.1++[e.er],h.2++[r])):=by
    unfold Go.W.accept
    rw [if_neg hn1,if_neg (show ¬ e.er.kind=qc4 from h2)]
    cases after (qe .i64) (now h) e.er <;> rfl
   have hnow:=o.now
   rw [hl1,r2,List.getElem?_map] at hnow
   cases hq:(s.2.getD [])[(s.1.getD []).length]? with
   | none=>rw [hq] at hnow; cases hnow
   | some r=>
    rw [hq] at hnow
    have hre:r.er=now h:=by simpa using hnow
    have hsb:SB (s.1.getD []).length r.er:=b _ r.er (by rw [r2,List.getElem?_map,hq]; rfl)
    obtain ⟨r',c,g1,g2⟩:=js5 (e:=e) (hsb.gb (by omega)) (by rw [hre]; exact o.wfNow) hc h2 (q89 hc)
    simp only [jf hq,g1] at hF
    rw [hre] at g2
    cases hat:after (qe .i64) (now h) e.er with
    | error k=>
     rw [hat] at g2 ha
     obtain ⟨rfl,g3⟩:=g2
     rw [decide_eq_false g3,cond_false] at hF
     exact hbad _ _ hF ha g3
    | ok t=>
     rw [hat] at g2 ha
     obtain ⟨rfl,rfl⟩:=g2
     obtain ⟨q1,c1,c2,c3⟩:=qxz (o:=s.1) (x:=e) (by unfold BB at hl; unfold SM; omega)
     obtain ⟨q2,c4,c5,c6⟩:=qxz (o:=s.2) (x:=r') (by unfold BB at hl; unfold SM; omega)
     rw [decide_eq_true (rfl:(0:Int)=0),cond_true] at hF
     simp only [c1,c2,c4,c5] at hF
     refine hacc _ (q1,q2) _ _ hF ha ⟨?_,?_,?_⟩
     ·show h.1++[e.er]=_
      rw [c3,r1,List.map_append]; rfl
     ·show h.2++[r'.er]=_
      rw [c6,r2,List.map_append]; rfl
     ·show (h.1++[e.er]).length≤_
      rw [List.length_append,List.length_singleton]; omega
def zdo:Except (Int × Int) qav→Option (List GEv) × GReg × Int × Int→Prop
 | .error x,d=>d=(none,⟨0,none,none,none⟩,x.1,x.2)∧x.2 ≠ 0
 | .ok h,d=>∃ s r,d=(s,r,0,0)∧h.1=(s.getD []).map GEv.er∧r.er=now h∧HOk (qe .i64) h∧HB h∧h.1.length≤1000
theorem q22 {l:Option (List GEv)} (hb:∀ e∈l.getD [],EvB e):∃ d,f49 l=some d∧zdo (run (qe .i64) ((l.getD []).map GEv.er)) d:=by
 unfold f49 run
 rw [List.length_map]
 by_cases h:1000 < (l.getD []).length
 ·rw [decide_eq_true (by omega),if_pos h]
  exact ⟨_,rfl,rfl,by decide⟩
 ·rw [decide_eq_false (by omega),if_neg h,cond_false]
  obtain ⟨d,d1,d2⟩:=q9n hb (by unfold BB; omega) (l.getD []) 0 ([],[ko]) (none,some [⟨0,none,none,none⟩]) false true rfl (Nat.zero_le _) ⟨rfl,rfl,Nat.zero_le _⟩ HOk.empty HB.empty
  have d1':itO (qev l) (none,some [⟨0,none,none,none⟩],0,false,true)=some d:=d1
  rw [d1']
  cases hr:qb5 (qe .i64) 0 ([],[ko]) ((l.getD []).map GEv.er) with
  | error x=>
   rw [hr] at d2
   obtain ⟨s,rfl,k⟩:=d2
   exact ⟨_,rfl,rfl,k⟩
  | ok h'=>
   rw [hr] at d2
   obtain ⟨s,w1,w2,rfl,⟨k1,k2,k3⟩,k4,k5⟩:=d2
   have hnow:=k4.now
   rw [k2,List.getElem?_map,k1,List.length_map] at hnow
   cases hq:(s.2.getD [])[(s.1.getD []).length]? with
   | none=>rw [hq] at hnow; cases hnow
   | some r=>
    rw [hq] at hnow
    refine ⟨(s.1,r,0,0),?_,s.1,r,rfl,k1,by simpa using hnow,k4,k5,by omega⟩
    simp only [qa,jf hq]
theorem q2e {l:Option (List GEv)} (hb:∀ e∈l.getD [],EvB e):∃ r,f10 l=some r∧(r.1.er,r.2)=qu8 (run (qe .i64) ((l.getD []).map GEv.er)):=by
 obtain ⟨d,d1,d2⟩:=q22 hb
 unfold f10
 rw [d1]
 refine ⟨_,rfl,?_⟩
 cases hr:run (qe .i64) ((l.getD []).map GEv.er) with
 | error x=>
  rw [hr] at d2
  obtain ⟨rfl,k⟩:=d2
  rfl
 | ok h=>
  rw [hr] at d2
  obtain ⟨s,r,rfl,k1,k2,k3⟩:=d2
  show (r.er,((0:Int),(0:Int)))=_
  rw [k2]; rfl
theorem jqk {l:Option (List GEv)} {e:GEv} (hb:∀ e∈l.getD [],EvB e) (he:EvB e):f16 l e=some (quw (run (qe .i64) ((l.getD []).map GEv.er)) (l.getD []).length e.er):=by
 obtain ⟨r,h1,h2⟩:=q2e hb
 unfold f16 quw
 rw [h1]
 have h3:r.2.2=(qu8 (run (qe .i64) ((l.getD []).map GEv.er))).2.2:=by rw [← h2]
 cases hr:run (qe .i64) ((l.getD []).map GEv.er) with
 | error x=>
  rw [hr] at h3
  have hx:x.2 ≠ 0:=by
   obtain ⟨d,d1,d2⟩:=q22 hb
   rw [hr] at d2; exact d2.2
  have h3':r.2.2=x.2:=h3
  simp only [qa,h3']
  rw [decide_eq_false hx]; rfl
 | ok h=>
  rw [hr] at h3
  have h3':r.2.2=0:=h3
  simp only [qa,h3',q1j he.1 he.2]
  simp only [decide_true,cond_true]
  by_cases hc:zb e.er=0
  case neg=>
   rw [decide_eq_false hc,if_pos hc]; rfl
  rw [decide_eq_true hc,if_neg (fun h=>h hc),cond_true]
  by_cases hn:1000≤(l.getD []).length
  ·rw [decide_eq_true (by omega),if_pos hn]; rfl
  rw [decide_eq_false (by omega),if_neg hn,cond_false]
  obtain ⟨q,c1,c2,c3⟩:=qxz (o:=l) (x:=e) (by unfold SM; omega)
  obtain ⟨r2,k1,k2⟩:=q2e (l:=q) (fun x hx=>by
   rw [c3] at hx
   rcases List.mem_append.1 hx with hx | hx
   ·exact hb x hx
   ·simp at hx; subst hx; exact he)
  simp only [c1,c2,k1]
  have k3:r2.2.2=(qu8 (run (qe .i64) ((q.getD []).map GEv.er))).2.2:=by rw [← k2]
  rw [k3,c3,List.map_append]
  have hrf:qb5 (qe .i64) 0 ([],[ko]) ((l.getD []).map GEv.er)=.ok h:=by
   have:=hr
   unfold run at this
   rwa [if_neg (by rw [List.length_map]; omega)] at this
  have hrun:run (qe .i64) ((l.getD []).map GEv.er++List.map GEv.er [e])=match Go.W.accept (qe .i64) h (((l.getD []).length:Int) + 1) e.er with
    | .error x=>.error (((l.getD []).length:Int) + 1,x)
    | .ok h'=>.ok h':=by
   unfold run
   rw [if_neg (by rw [List.length_append,List.length_map,List.length_map,List.length_singleton]; omega),runFrom_append,hrf]
   simp only [List.map_cons,List.map_nil,qb5,List.length_map,Nat.zero_add]
   rw [if_neg (fun h=>h hc)]
   cases Go.W.accept (qe .i64) h (((l.getD []).length:Int) + 1) e.er <;> rfl
  rw [hrun]
  cases Go.W.accept (qe .i64) h (((l.getD []).length:Int) + 1) e.er with
  | error x=>rfl
  | ok h'=>rfl
end Go.Z
namespace Go.Z
open Go Go.Abs Go.W
theorem qp7 {f:Int→Option (Int ⊕ (Unit ⊕ Int))} {n:Nat} (hn:n≤SM) (hend:f (n:Int)=some (.inr (.inr (n:Int)))) (h:∀ i:Nat,i < n→f (i:Int)=some (.inl (qe .i64 ((i:Int) + 1)))):∃ d,itO f 0=some (.inr d):=
 ⟨_,je3 n f hend fun i hi=>by rw [h i hi,yl (by unfold SM at hn; omega)]⟩
theorem qd9 {α:Type} {l:List α} {i:Nat} (h:i < l.length):∃ x,l[i]?=some x:=⟨_,List.getElem?_eq_getElem h⟩
theorem qy8 {a b:GDoc} (h1:a.needs.getD []=b.needs.getD []) (h2:a.tests.getD []=b.tests.getD []) (l1:(a.needs.getD []).length≤SM) (l2:(a.tests.getD []).length≤SM):f119 a b=some true:=by
 unfold f119
 obtain ⟨d,hd⟩:=qp7 (f:=qjw a b) l1 (by unfold qjw; rw [zx]; rfl) (fun i hi=>by
  obtain ⟨x,hx⟩:=qd9 hi
  unfold qjw
  simp only [yn hi,cond_true,jf hx,qa,jf (show (b.needs.getD [])[i]?=some x by rw [← h1]; exact hx),decide_true,Bool.and_self])
 obtain ⟨d',hd'⟩:=qp7 (f:=qi6 a b) l2 (by unfold qi6; rw [zx]; rfl) (fun i hi=>by
  obtain ⟨x,hx⟩:=qd9 hi
  unfold qi6
  simp only [yn hi,cond_true,jf hx,qa,jf (show (b.tests.getD [])[i]?=some x by rw [← h2]; exact hx),decide_true,Bool.and_self])
 rw [hd,hd',h1,h2]
 simp only [decide_true,cond_true,qa]
theorem qx7 {α β γ:Type} {f:α→γ} {g:β→γ} {l:List α} {m:List β} (h:l.map f=m.map g) {i:Nat} {x:α} (hx:l[i]?=some x):∃ y,m[i]?=some y∧f x=g y:=by
 have h1:(l.map f)[i]?=some (f x):=by rw [List.getElem?_map,hx]; rfl
 rw [h,List.getElem?_map] at h1
 cases hm:m[i]? with
 | none=>rw [hm] at h1; cases h1
 | some y=>rw [hm] at h1; exact ⟨y,rfl,by simpa using h1.symm⟩
theorem qx4 {α β γ:Type} {f:α→γ} {g:β→γ} {l:List α} {m:List β} (h:l.map f=m.map g):l.length=m.length:=by
 have:=congrArg List.length h
 simpa using this
theorem q2g {a b:GDoc} (h:a.er=b.er):a.needs.getD []=b.needs.getD []∧a.tests.getD []=b.tests.getD []:=⟨congrArg SDoc.needs h,congrArg SDoc.tests h⟩
theorem jez {a b:GProd} (h:a.er=b.er) (l1:(a.docs.getD []).length≤BB) (l2:(a.dn.getD []).length≤BB) (l3:(a.dt.getD []).length≤BB) (l4:∀ d∈a.docs.getD [],(d.needs.getD []).length≤BB∧(d.tests.getD []).length≤BB):f61 a b=some true:=by
 have e1:a.name=b.name:=congrArg SProd.name h
 have e2:a.dn.getD []=b.dn.getD []:=congrArg (fun x=>(SProd.draft x).needs) h
 have e3:a.dt.getD []=b.dt.getD []:=congrArg (fun x=>(SProd.draft x).tests) h
 have e4:(a.docs.getD []).map GDoc.er=(b.docs.getD []).map GDoc.er:=congrArg SProd.docs h
 have e5:=qx4 e4
 unfold f61
 obtain ⟨d,hd⟩:=qp7 (f:=qoc a b) (jo l1) (by unfold qoc; rw [zx]; rfl) (fun i hi=>by
  obtain ⟨x,hx⟩:=qd9 hi
  obtain ⟨y,hy,hxy⟩:=qx7 e4 hx
  have hl:=l4 x (List.mem_of_getElem? hx)
  unfold qoc
  simp only [yn hi,cond_true,jf hx,qa,jf hy,qy8 (q2g hxy).1 (q2g hxy).2 (jo hl.1) (jo hl.2)])
 rw [hd,qy8 (a:=⟨a.dn,a.dt⟩) (b:=⟨b.dn,b.dt⟩) e2 e3 (jo l2) (jo l3),e1,e5]
 simp only [decide_true,cond_true,qa]
theorem jdf {a b:GUn} (h:a.er=b.er) (l1:(a.uses.getD []).length≤BB) (l2:(a.results.getD []).length≤BB):f62 a b=some true:=by
 have e1:a.name=b.name:=congrArg SUnit.name h
 have e2:a.product=b.product:=congrArg SUnit.product h
 have e3:a.version=b.version:=congrArg SUnit.version h
 have e4:a.uses.getD []=b.uses.getD []:=congrArg SUnit.uses h
 have e5:a.results.getD []=b.results.getD []:=congrArg SUnit.results h
 have e6:a.partner=b.partner:=congrArg SUnit.partner h
 have e7:a.shipped=b.shipped:=congrArg SUnit.shipped h
 have e8:a.complaints=b.complaints:=congrArg SUnit.complaints h
 unfold f62
 obtain ⟨d,hd⟩:=qp7 (f:=qnx a b) (jo l1) (by unfold qnx; rw [zx]; rfl) (fun i hi=>by
  obtain ⟨x,hx⟩:=qd9 hi
  unfold qnx
  simp only [yn hi,cond_true,jf hx,qa,jf (show (b.uses.getD [])[i]?=some x by rw [← e4]; exact hx),decide_true,Bool.and_self])
 obtain ⟨d',hd'⟩:=qp7 (f:=qnb a b) (jo l2) (by unfold qnb; rw [zx]; rfl) (fun i hi=>by
  obtain ⟨x,hx⟩:=qd9 hi
  unfold qnb
  simp only [yn hi,cond_true,jf hx,qa,jf (show (b.results.getD [])[i]?=some x by rw [← e5]; exact hx),decide_true,Bool.and_self])
 rw [hd,hd',e1,e2,e3,e4,e5,e6,e7,e8]
 simp only [decide_true,cond_true,qa,beq_self_eq_true]
theorem jgu {a b:GReg} (h:a.er=b.er) (g:GB a):f13 a b=some true:=by
 have e1:a.day=b.day:=congrArg SReg.day h
 have e2:a.lots.getD []=b.lots.getD []:=congrArg SReg.lots h
 have e3:(a.products.getD []).map GProd.er=(b.products.getD []).map GProd.er:=congrArg SReg.products h
 have e4:(a.units.getD []).map GUn.er=(b.units.getD []).map GUn.er:=congrArg SReg.units h
 have e5:=qx4 e3
 have e6:=qx4 e4
 unfold f13
 obtain ⟨d0,h0⟩:=qp7 (f:=qnt a b) (jo g.L) (by unfold qnt; rw [zx]; rfl) (fun i hi=>by
  obtain ⟨x,hx⟩:=qd9 hi
  unfold qnt
  simp only [yn hi,cond_true,jf hx,qa,jf (show (b.lots.getD [])[i]?=some x by rw [← e2]; exact hx),decide_true,Bool.and_self])
 obtain ⟨d1,h1⟩:=qp7 (f:=qn7 a b) (jo g.P) (by unfold qn7; rw [zx]; rfl) (fun i hi=>by
  obtain ⟨x,hx⟩:=qd9 hi
  obtain ⟨y,hy,hxy⟩:=qx7 e3 hx
  obtain ⟨k1,k2,k3,k4⟩:=g.D x (List.mem_of_getElem? hx)
  unfold qn7
  simp only [yn hi,cond_true,jf hx,qa,jf hy,jez hxy k1 k2 k3 k4])
 obtain ⟨d2,h2⟩:=qp7 (f:=qn8 a b) (jo g.U) (by unfold qn8; rw [zx]; rfl) (fun i hi=>by
  obtain ⟨x,hx⟩:=qd9 hi
  obtain ⟨y,hy,hxy⟩:=qx7 e4 hx
  obtain ⟨k1,k2⟩:=g.N x (List.mem_of_getElem? hx)
  unfold qn8
  simp only [yn hi,cond_true,jf hx,qa,jf hy,jdf hxy k1 k2])
 rw [h0,h1,h2,e1,e2,e5,e6]
 simp only [decide_true,cond_true,qa]
theorem qf0 {α β γ:Type} {l:List α} (hl:l.length≤BB) {f:Int × Option (List β) × Bool→Option ((Int × Option (List β) × Bool) ⊕ (Int × Option (List β) × Bool))} {g:α→Option β} {p:α→γ} {q:β→γ} (hg:∀ x∈l,∃ y,g x=some y∧q y=p x)
  (hf:∀ s,f s=cond (decide (s.1 < (l.length:Int))) (qa (qw l s.1) fun x=>qa (g x) fun y=>cond s.2.2 (qa (apO s.2.1 [y]) fun v=>some (.inl (qe .i64 (s.1 + 1),v,true))) (cond s.2.1.isNone (qa (apO s.2.1 [y]) fun v=>some (.inl (qe .i64 (s.1 + 1),v,true))) none)) (some (.inr (s.1,s.2.1,s.2.2)))):
  ∃ d,itO f (0,none,false)=some d∧(d.2.1.getD []).map q=l.map p:=by
 have key:∀ (m:List α) (i:Nat) (a:List β),l.drop i=m→i≤l.length→a.length=i→∃ d,itO f ((i:Int),jz a,qay a)=some d∧(d.2.1.getD []).map q=a.map q++m.map p:=by
  intro m
  induction m with
  | nil=>
   intro i a hm hi ha
   have he:i=l.length:=by
    have:=List.drop_eq_nil_iff.1 hm; omega
   subst he
   refine ⟨((l.length:Int),jz a,qay a),ki ?_,by simp only [zt,List.map_nil,List.append_nil]⟩
   rw [hf,zx]; rfl
  | cons x m ih=>
   intro i a hm hi ha
   have hx:l[i]?=some x:=by
    have:=congrArg List.head? hm
    rwa [List.head?_drop] at this
   have hlt:i < l.length:=(List.getElem?_eq_some_iff.1 hx).1
   have hm':l.drop (i + 1)=m:=by rw [qbf hx] at hm; exact (List.cons.inj hm).2
   obtain ⟨y,hy,hyq⟩:=hg x (List.mem_of_getElem? hx)
   obtain ⟨d,d1,d2⟩:=ih (i + 1) (a++[y]) hm' hlt (by rw [List.length_append,ha]; rfl)
   refine ⟨d,?_,?_⟩
   ·rw [qc7 (s':=(((i + 1:Nat):Int),jz (a++[y]),qay (a++[y])))]
    ·exact d1
    ·rw [hf]
     simp only [yn hlt,cond_true,jf hx,qa,hy]
     rw [show (qe .i64 ((i:Int) + 1))=((i + 1:Nat):Int) from qr6 (by omega)]
     have:=qdk (a:=a) (x:=y) (k:=fun v=>some (Sum.inl (((i + 1:Nat):Int),v,true):(Int × Option (List β) × Bool) ⊕ (Int × Option (List β) × Bool))) (by unfold BB at hl; omega)
     rw [show qay (a++[y])=true by cases a <;> rfl]
     exact this
   ·rw [d2,List.map_append,List.append_assoc,List.map_cons,List.map_cons,hyq]; rfl
 obtain ⟨d,d1,d2⟩:=key l 0 [] rfl (Nat.zero_le _) rfl
 exact ⟨d,d1,d2⟩
theorem q42 {a:GDoc} (l1:(a.needs.getD []).length≤BB) (l2:(a.tests.getD []).length≤BB):∃ r,f120 a=some r∧r.er=a.er:=by
 obtain ⟨d,d1,d2⟩:=qf0 (l:=a.needs.getD []) l1 (f:=qpw a) (g:=some) (p:=id) (q:=id) (fun x _=>⟨x,rfl,rfl⟩) (fun s=>rfl)
 obtain ⟨d',d3,d4⟩:=qf0 (l:=a.tests.getD []) l2 (f:=qpj a d) (g:=some) (p:=id) (q:=id) (fun x _=>⟨x,rfl,rfl⟩) (fun s=>rfl)
 refine ⟨⟨d.2.1,d'.2.1⟩,?_,?_⟩
 ·unfold f120
  rw [d1]; simp only [qa,d3]
 ·show SDoc.mk _ _=SDoc.mk _ _
  rw [List.map_id,List.map_id] at d2 d4
  rw [d2,d4]
theorem jp0 {a:GProd} (l1:(a.docs.getD []).length≤BB) (l2:(a.dn.getD []).length≤BB) (l3:(a.dt.getD []).length≤BB) (l4:∀ d∈a.docs.getD [],(d.needs.getD []).length≤BB∧(d.tests.getD []).length≤BB):∃ r,f63 a=some r∧r.er=a.er:=by
 obtain ⟨v,v1,v2⟩:=q42 (a:=⟨a.dn,a.dt⟩) l2 l3
 obtain ⟨d,d1,d2⟩:=qf0 (l:=a.docs.getD []) l1 (f:=qvc a v) (g:=f120) (p:=GDoc.er) (q:=GDoc.er) (fun x hx=>q42 (l4 x hx).1 (l4 x hx).2) (fun s=>rfl)
 refine ⟨⟨a.name,v.needs,v.tests,d.2.1⟩,?_,?_⟩
 ·unfold f63
  rw [v1]; simp only [qa,d1]
 ·have e:=q2g v2
  show SProd.mk _ _ _=SProd.mk _ _ _
  rw [d2]
  show SProd.mk _ ⟨v.needs.getD [],v.tests.getD []⟩ _=_
  rw [e.1,e.2]
theorem jm5 {a:GUn} (l1:(a.uses.getD []).length≤BB) (l2:(a.results.getD []).length≤BB):∃ r,f64 a=some r∧r.er=a.er:=by
 obtain ⟨d,d1,d2⟩:=qf0 (l:=a.uses.getD []) l1 (f:=qv7 a) (g:=some) (p:=id) (q:=id) (fun x _=>⟨x,rfl,rfl⟩) (fun s=>rfl)
 obtain ⟨d',d3,d4⟩:=qf0 (l:=a.results.getD []) l2 (f:=qvj a d) (g:=some) (p:=id) (q:=id) (fun x _=>⟨x,rfl,rfl⟩) (fun s=>rfl)
 refine ⟨⟨a.name,a.product,a.version,d.2.1,d'.2.1,a.partner,a.shipped,a.complaints⟩,?_,?_⟩
 ·unfold f64
  rw [d1]; simp only [qa,d3]
 ·show SUnit.mk _ _ _ _ _ _ _ _=SUnit.mk _ _ _ _ _ _ _ _
  rw [List.map_id,List.map_id] at d2 d4
  rw [d2,d4]
theorem joy {a:GReg} (g:GB a):∃ r,f14 a=some r∧r.er=a.er:=by
 obtain ⟨d,d1,d2⟩:=qf0 (l:=a.lots.getD []) g.L (f:=qvx a) (g:=some) (p:=id) (q:=id) (fun x _=>⟨x,rfl,rfl⟩) (fun s=>rfl)
 obtain ⟨d',d3,d4⟩:=qf0 (l:=a.products.getD []) g.P (f:=qve a d) (g:=f63) (p:=GProd.er) (q:=GProd.er) (fun x hx=>jp0 (g.D x hx).1 (g.D x hx).2.1 (g.D x hx).2.2.1 (g.D x hx).2.2.2) (fun s=>rfl)
 obtain ⟨d'',d5,d6⟩:=qf0 (l:=a.units.getD []) g.U (f:=qu6 a d d') (g:=f64) (p:=GUn.er) (q:=GUn.er) (fun x hx=>jm5 (g.N x hx).1 (g.N x hx).2) (fun s=>rfl)
 refine ⟨⟨a.day,d.2.1,d'.2.1,d''.2.1⟩,?_,?_⟩
 ·unfold f14
  rw [d1]; simp only [qa,d3,d5]
 ·show SReg.mk _ _ _ _=SReg.mk _ _ _ _
  rw [List.map_id,List.map_id] at d2
  rw [d2,d4,d6]
theorem jh3 {l:Option (List GEv)} {n:Nat} (hn:n≤1000):∃ b,f7 l (n:Int)=some b∧(b=true→(l.getD []).length≤n∧∀ e∈l.getD [],EvB e):=by
 unfold f7
 by_cases h:n < (l.getD []).length
 ·rw [decide_eq_true (by omega)]
  exact ⟨false,rfl,fun h=>by cases h⟩
 ·rw [decide_eq_false (by omega),cond_false]
  rcases qxj (l.getD []) (qtj l) (fun _ e=>EvB e) (by unfold qtj; rw [zx]; rfl) (fun i x hx=>by
   have hi:i < (l.getD []).length:=(List.getElem?_eq_some_iff.1 hx).1
   unfold qtj
   simp only [yn hi,cond_true,jf hx,qa]
   by_cases h1:40 < (x.kind.length:Int)
   ·rw [decide_eq_true h1]; exact .inr ⟨_,rfl⟩
   rw [decide_eq_false h1,cond_false]
   by_cases h2:6 < ((x.names.getD []).length:Int)
   ·rw [decide_eq_true h2]; exact .inr ⟨_,rfl⟩
   rw [decide_eq_false h2,cond_false]
   by_cases h3:8 < ((x.values.getD []).length:Int)
   ·rw [decide_eq_true h3]; exact .inr ⟨_,rfl⟩
   rw [decide_eq_false h3,cond_false]
   by_cases h4:200 < (x.text.length:Int)
   ·rw [decide_eq_true h4]; exact .inr ⟨_,rfl⟩
   rw [decide_eq_false h4,cond_false]
   have hb:EvB x:=⟨by unfold SM; omega,by unfold SM; omega⟩
   rcases qxj (x.names.getD []) (qth l (i:Int)) (fun _ _=>True) (by unfold qth; simp only [jf hx,qa]; rw [zx]; rfl) (fun j y hy=>by
    have hj:j < (x.names.getD []).length:=(List.getElem?_eq_some_iff.1 hy).1
    unfold qth
    simp only [jf hx,qa,yn hj,cond_true,jf hy]
    by_cases h5:40 < (y.length:Int)
    ·rw [decide_eq_true h5]; exact .inr ⟨_,rfl⟩
    rw [decide_eq_false h5,cond_false,yl (by omega)]
    exact .inl ⟨rfl,trivial⟩) with ⟨e,he⟩ | ⟨he,_⟩
   ·rw [he]; exact .inr ⟨_,rfl⟩
   ·rw [he]
    refine .inl ⟨?_,hb⟩
    simp only []
    rw [yl (by omega)]) with ⟨e,he⟩ | ⟨he,hall⟩
  ·rw [he]
   exact ⟨false,rfl,fun h=>by cases h⟩
  ·rw [he]
   refine ⟨true,rfl,fun _=>⟨by omega,fun e hm=>?_⟩⟩
   obtain ⟨i,hi⟩:=List.getElem?_of_mem hm
   exact hall i e hi
end Go.Z
namespace Go.Z
open Go Go.Abs Go.W
theorem jin {l:Option (List GEv)} (hb:∀ e∈l.getD [],EvB e) {r:GReg} {x:Int × Int} (h:(r.er,x)=qu8 (run (qe .i64) ((l.getD []).map GEv.er))):GB r:=by
 obtain ⟨d,d1,d2⟩:=q22 hb
 cases hr:run (qe .i64) ((l.getD []).map GEv.er) with
 | error x=>
  rw [hr] at h
  have:r.er=ko:=congrArg Prod.fst h
  exact SB.gb (n:=0) (by rw [this]; exact SB.empty) (Nat.zero_le _)
 | ok hh=>
  rw [hr] at h d2
  obtain ⟨s,q,rfl,k1,k2,k3,k4,k5⟩:=d2
  have:r.er=now hh:=congrArg Prod.fst h
  exact SB.gb (n:=hh.1.length) (by rw [this]; exact k4 _ _ k3.now) (by unfold BB; omega)
theorem jlp (a0:Option (List GEv)) (a1:GEv):f3 a0 a1=some true:=by
 obtain ⟨b1,h1,k1⟩:=jh3 (l:=a0) (n:=24) (by omega)
 obtain ⟨b2,h2,k2⟩:=jh3 (l:=some [a1]) (n:=1) (by omega)
 unfold f3
 rw [show f7 a0 24=some b1 from h1,show f7 (some [a1]) 1=some b2 from h2]
 cases b1 with
 | false=>rfl
 | true=>
 cases b2 with
 | false=>rfl
 | true=>
  obtain ⟨l1,hb⟩:=k1 rfl
  have he:EvB a1:=(k2 rfl).2 a1 (by simp)
  obtain ⟨r9,p1,p2⟩:=jzs hb
  obtain ⟨r10,q1,q2⟩:=q2e hb
  have heq:r9.1.er=r10.1.er∧r9.2=r10.2:=by
   have:=p2.trans q2.symm
   exact ⟨(Prod.mk.injEq .. ▸ this:_∧_).1,(Prod.mk.injEq .. ▸ this:_∧_).2⟩
  have g9:=jin hb p2
  obtain ⟨rc,c1,c2⟩:=joy g9
  have grc:GB rc:=jin hb (x:=r9.2) (by rw [c2]; exact p2)
  simp only [cond_true,qa,p1,q1,q3k he.1 he.2,q1j he.1 he.2,decide_true,heq.2,c1,jgu (c2.trans heq.1) grc,jr5 hb he,jqk hb he]
  rfl
theorem I3 (a0:Option (List GEv)) (a1:GEv):qc prZ (X prZ) 3 [sl 5 vev a0,.agg [.int .i64 a1.number,.str a1.kind,sl 1 ye a1.names,sl 1 zw a1.values,.str a1.text]]=some (.bool true,false):=W3 (jlp a0 a1)
end Go.Z
