/- Chapter 10, plain. -/
import Derived.Test.YtimdocpnkimlfaaGreatDoorEF
set_option linter.unusedVariables false
set_option linter.unusedSimpArgs false
set_option maxRecDepth 100000
set_option maxHeartbeats 4000000
open Option renaming some→I,none→Gn,getD_some→Gs
open List renaming getElem?_map→En,length_map→Ey,length_singleton→Gp,dropLast_eq_take→Gq,map_append→Gt,map_take→Gv
namespace Go.Z
open Go Go.Abs Go.W
theorem NJ {α:Type}{o:Option (List α)}{k}(h:k≤(o.getD []).length):∃q,vQ o Gn (I (k:Int))=I q∧q.getD []=(o.getD []).take k:=by
 have hc:NK (o.getD []) Gn (I (k:Int))=I ((o.getD []).take k):=by
  unfold NK
  have h1:sw (o.getD []).length (o.getD []).length (I (k:Int))=I k:=by
   unfold sw
   simp only[]
   rw[if_pos ⟨by omega,by omega⟩,Int.toNat_natCast]
  rw[h1];rfl
 unfold vQ
 rw[hc]
 cases o with
 |none=>exact⟨Gn,rfl,by simp⟩
 |some l=>exact⟨_,rfl,rfl⟩
theorem q9c {α:Type}{o:Option (List α)}{x}(h:(o.getD []).length<SM):∃q,bH (I []) (o.getD [])=I (I (o.getD []))∧bH (I (o.getD [])) [x]=I q∧q.getD []=o.getD []++[x]:=by
 refine⟨I (o.getD []++[x]),?_,?_,rfl⟩
 ·unfold bH
  rw[if_pos (by simp only[Gs,List.length_nil];unfold SM at h;omega)]
  rfl
 ·unfold bH
  rw[if_pos (by simp only[Gs,Gp];unfold SM at h;omega)]
  rfl
theorem jff {e:GEv}(hc:zf e.er=0):∀v∈e.values.getD [],0≤v:=by
 intro v hv
 unfold zf at hc
 split at hc
 ·simp at hc
 split at hc
 ·simp at hc
 split at hc
 ·simp at hc
 split at hc
 ·simp at hc
 split at hc
 ·simp at hc
 rename_i h
 simp only[Bool.not_eq_true',Bool.not_eq_false]at h
 have:=List.all_eq_true.1 h v hv
 simp at this
 exact this.1
def Yi (i:Nat)(h:kl)(s:Option (List GEv)×Option (List aj)):Prop:=h.1=(s.1.getD []).map GEv.er∧h.2=(s.2.getD []).map aj.er∧h.1.length≤i
def Yj (n:Nat):Except (Int×Int) kl→(Int×Int×Int×(Option (List jd))×(Option (List aS))×(Option (List ay)))⊕((Option (List GEv))×Bool×(Option (List aj))×Bool×Int)→Prop
 | .error x,d=>∃s,d=.inl (x.1,x.2,s)∧x.2≠0
 | .ok h,d=>∃s w1 w2,d=.inr (s.1,w1,s.2,w2,(n:Int))∧Yi n h s∧eH (qe .i64) h∧HB h
theorem jf7 {l:Option (List GEv)}(hb:∀e∈l.getD [],qF e)(hl:(l.getD []).length≤BB):∀(m:List GEv) (i:Nat) (h:kl) (s:Option (List GEv)×Option (List aj)) (w1 w2:Bool),(l.getD []).drop i=m→i≤(l.getD []).length→Yi i h s→eH (qe .i64) h→HB h→∃d,bm (pq l) (s.1,s.2,(i:Int),w1,w2)=I d∧Yj (l.getD []).length (yp (qe .i64) i h (m.map GEv.er)) d
 | [],i,h,s,w1,w2,hm,hi,hr,o,b=>by
  have he:i=(l.getD []).length:=by
   have:=List.drop_eq_nil_iff.1 hm;omega
  subst he
  refine⟨.inr (s.1,w1,s.2,w2,((l.getD []).length:Int)),ki ?_,s,w1,w2,rfl,hr,o,b⟩
  unfold pq
  rw[zr];rfl
 |e::m,i,h,s,w1,w2,hm,hi,hr,o,b=>by
  have hx:(l.getD [])[i]?=I e:=by
   have:=congrArg List.head? hm
   rwa [List.head?_drop]at this
  have br:i<(l.getD []).length:=(List.getElem?_eq_some_iff.1 hx).1
  have Af:(l.getD []).drop (i+1)=m:=by rw[rW hx]at hm;exact(List.cons.inj hm).2
  have FD:=hb e (List.mem_of_getElem? hx)
  have hw:qe .i64 ((i:Int)+1)=((i+1:Nat):Int):=Ye (by omega)
  obtain⟨r1,r2,r3⟩:=hr
  have iy:h.1.length=(s.1.getD []).length:=by rw[r1,Ey]
  have oU:h.2.length=(s.2.getD []).length:=by rw[r2,Ey]
  have hlen:=o.len
  rw[List.map_cons]
  simp only[yp]
  obtain⟨F,hF⟩:∃F,pq l (s.1,s.2,(i:Int),w1,w2)=F:=⟨_,rfl⟩
  have hG:=hF
  unfold pq at hG
  simp only[ye br,cond_true,jb hx,qa,juh FD.1 FD.2,hw]at hG
  subst hG
  by_cases hc:zf e.er=0
  case neg=>
   rw[decide_eq_false hc,cond_false]at hF
   rw[if_pos hc]
   exact⟨_,ki hF,_,rfl,hc⟩
  rw[if_neg (fun h=>h hc)]
  rw[decide_eq_true hc,cond_true]at hF
  have JC:∀(h':kl) (q:Option (List GEv)×Option (List aj)) (v1 v2:Bool),pq l (s.1,s.2,(i:Int),w1,w2)=I (.inl (q.1,q.2,((i+1:Nat):Int),v1,v2))→Go.W.accept (qe .i64) h ((i:Int)+1) e.er=.ok h'→Yi (i+1) h' q→∃d,bm (pq l) (s.1,s.2,(i:Int),w1,w2)=I d∧Yj (l.getD []).length (match Go.W.accept (qe .i64) h ((i:Int)+1) e.er with
    | .error x=>.error ((i:Int)+1,x)
    | .ok h'=>yp (qe .i64) (i+1) h' (m.map GEv.er)) d:=by
   intro h' q v1 v2 g1 g2 g3
   obtain⟨d,d1,d2⟩:=jf7 hb hl m (i+1) h' q v1 v2 Af br g3 (o.accept hc g2) (b.accept o g2)
   rw[g2]
   exact⟨d,by rw[oA g1];exact d1,d2⟩
  have xi:∀(x:Int) (q),pq l (s.1,s.2,(i:Int),w1,w2)=I (.inr (.inl (((i+1:Nat):Int),x,q)))→Go.W.accept (qe .i64) h ((i:Int)+1) e.er=.error x→x≠0→∃d,bm (pq l) (s.1,s.2,(i:Int),w1,w2)=I d∧Yj (l.getD []).length (match Go.W.accept (qe .i64) h ((i:Int)+1) e.er with
    | .error x=>.error ((i:Int)+1,x)
    | .ok h'=>yp (qe .i64) (i+1) h' (m.map GEv.er)) d:=by
   intro x q g1 g2 g3
   rw[g2]
   exact⟨_,ki g1,q,rfl,g3⟩
  have hA:∀y,Go.W.accept (qe .i64) h ((i:Int)+1) e.er=y→Go.W.accept (qe .i64) h ((i:Int)+1) e.er=y:=fun _ h=>h
  by_cases h1:e.number=((i+1:Nat):Int)
  case neg=>
   rw[decide_eq_false h1]at hF
   refine xi 11 _ hF ?_ (by decide)
   unfold Go.W.accept
   rw[if_pos (show e.er.number≠(i:Int)+1 from h1)]
  rw[decide_eq_true h1,cond_true]at hF
  have hn1:¬e.er.number≠(i:Int)+1:=fun hh=>hh h1
  by_cases h2:e.kind=mT
  ·rw[show decide (e.kind=([117,110,100,111]:List UInt8))=true from decide_eq_true h2,cond_true]at hF
   have ha:Go.W.accept (qe .i64) h ((i:Int)+1) e.er=(match h.1.getLast? with
     |none=>.error 12
     |some c=>if c.kind=kw then .error 19 else .ok (h.1.dropLast,h.2.dropLast)):=by
    unfold Go.W.accept
    rw[if_neg hn1,if_pos (show e.er.kind=mT from h2)]
    cases h.1.getLast?<;>rfl
   by_cases h3:(s.1.getD []).length=0
   ·rw[decide_eq_true (by omega),cond_true]at hF
    refine xi 12 _ hF ?_ (by decide)
    rw[ha,show h.1=[]from List.eq_nil_of_length_eq_zero (by omega)];rfl
   ·rw[decide_eq_false (by omega),cond_false,NE (by omega) (by omega)]at hF
    obtain⟨x,hx⟩:∃x,(s.1.getD [])[(s.1.getD []).length-1]?=I x:=⟨_,List.getElem?_eq_getElem (by omega)⟩
    have sn:h.1.getLast?=I x.er:=by
     rw[List.getLast?_eq_getElem?,iy,r1,En,hx];rfl
    rw[sn]at ha
    simp only[jb hx]at hF
    by_cases h5:x.kind=kw
    ·rw[show decide (x.kind=([115,104,105,112]:List UInt8))=true from decide_eq_true h5,cond_true]at hF
     refine xi 19 _ hF ?_ (by decide)
     rw[ha]
     exact if_pos (show x.er.kind=kw from h5)
    ·rw[show decide (x.kind=([115,104,105,112]:List UInt8))=false from decide_eq_false h5,cond_false]at hF
     obtain⟨q1,c1,c2⟩:=NJ (o:=s.1) (k:=(s.1.getD []).length-1) (by omega)
     obtain⟨q2,dj,fm⟩:=NJ (o:=s.2) (k:=(s.1.getD []).length) (by omega)
     simp only[c1,dj]at hF
     refine JC (h.1.dropLast,h.2.dropLast) (q1,q2) _ _ hF ?_ ⟨?_,?_,?_⟩
     ·rw[ha]
      exact if_neg (show ¬x.er.kind=kw from h5)
     ·show h.1.dropLast=_
      rw[c2,Gq,iy,r1,Gv]
     ·show h.2.dropLast=_
      rw[fm,Gq,r2,Gv,←r2,hlen,iy];rfl
     ·show h.1.dropLast.length≤_
      rw[List.length_dropLast];omega
  ·rw[show decide (e.kind=([117,110,100,111]:List UInt8))=false from decide_eq_false h2,cond_false]at hF
   have ha:Go.W.accept (qe .i64) h ((i:Int)+1) e.er=(match after (qe .i64) (now h) e.er with
     | .error x=>.error x
     | .ok r=>.ok (h.1++[e.er],h.2++[r])):=by
    unfold Go.W.accept
    rw[if_neg hn1,if_neg (show ¬e.er.kind=mT from h2)]
    cases after (qe .i64) (now h) e.er<;>rfl
   have dY:=o.now
   rw[iy,r2,En]at dY
   cases hq:(s.2.getD [])[(s.1.getD []).length]? with
   |none=>rw[hq]at dY;cases dY
   |some r=>
    rw[hq]at dY
    have wN:r.er=now h:=by simpa using dY
    have Yh:SB (s.1.getD []).length r.er:=b _ r.er (by rw[r2,En,hq];rfl)
    obtain⟨r',c,g1,g2⟩:=jqy (e:=e) (Yh.gb (by omega)) (by rw[wN];exact o.su) hc h2 (jff hc)
    simp only[jb hq,g1]at hF
    rw[wN]at g2
    cases hat:after (qe .i64) (now h) e.er with
    |error k=>
     rw[hat]at g2 ha
     obtain⟨rfl,g3⟩:=g2
     rw[decide_eq_false g3,cond_false]at hF
     exact xi _ _ hF ha g3
    |ok t=>
     rw[hat]at g2 ha
     obtain⟨rfl,rfl⟩:=g2
     obtain⟨q1,c1,c2,dj⟩:=q9c (o:=s.1) (x:=e) (by unfold BB at hl;unfold SM;omega)
     obtain⟨q2,fm,dA,en⟩:=q9c (o:=s.2) (x:=r') (by unfold BB at hl;unfold SM;omega)
     rw[decide_eq_true (rfl:(0:Int)=0),cond_true]at hF
     simp only[c1,c2,fm,dA]at hF
     refine JC _ (q1,q2) _ _ hF ha ⟨?_,?_,?_⟩
     ·show h.1++[e.er]=_
      rw[dj,r1,Gt];rfl
     ·show h.2++[r'.er]=_
      rw[en,r2,Gt];rfl
     ·show(h.1++[e.er]).length≤_
      rw[List.length_append,Gp];omega
def zij:Except (Int×Int) kl→Option (List GEv)×aj×Int×Int→Prop
 | .error x,d=>d=(Gn,⟨0,Gn,Gn,Gn⟩,x.1,x.2)∧x.2≠0
 | .ok h,d=>∃s r,d=(s,r,0,0)∧h.1=(s.getD []).map GEv.er∧r.er=now h∧eH (qe .i64) h∧HB h∧h.1.length≤1000
theorem Yk {l}(hb:∀e∈l.getD [],qF e):∃d,f93 l=I d∧zij (run (qe .i64) ((l.getD []).map GEv.er)) d:=by
 unfold f93 run
 rw[Ey]
 by_cases h:1000<(l.getD []).length
 ·rw[decide_eq_true (by omega),if_pos h]
  exact⟨_,rfl,rfl,by decide⟩
 ·rw[decide_eq_false (by omega),if_neg h,cond_false]
  obtain⟨d,d1,d2⟩:=jf7 hb (by unfold BB;omega) (l.getD []) 0 ([],[mb]) (Gn,I [⟨0,Gn,Gn,Gn⟩]) false true rfl (Nat.zero_le _) ⟨rfl,rfl,Nat.zero_le _⟩ eH.empty HB.empty
  have d1':bm (pq l) (Gn,I [⟨0,Gn,Gn,Gn⟩],0,false,true)=I d:=d1
  rw[d1']
  cases hr:yp (qe .i64) 0 ([],[mb]) ((l.getD []).map GEv.er)with
  |error x=>
   rw[hr]at d2
   obtain⟨s,rfl,k⟩:=d2
   exact⟨_,rfl,rfl,k⟩
  |ok h'=>
   rw[hr]at d2
   obtain⟨s,w1,w2,rfl,⟨k1,k2,k3⟩,k4,k5⟩:=d2
   have dY:=k4.now
   rw[k2,En,k1,Ey]at dY
   cases hq:(s.2.getD [])[(s.1.getD []).length]? with
   |none=>rw[hq]at dY;cases dY
   |some r=>
    rw[hq]at dY
    refine⟨(s.1,r,0,0),?_,s.1,r,rfl,k1,by simpa using dY,k4,k5,by omega⟩
    simp only[qa,jb hq]
theorem jyx {l}(hb:∀e∈l.getD [],qF e):∃r,f38 l=I r∧(r.1.er,r.2)=joq (run (qe .i64) ((l.getD []).map GEv.er)):=by
 obtain⟨d,d1,d2⟩:=Yk hb
 unfold f38
 rw[d1]
 refine⟨_,rfl,?_⟩
 cases hr:run (qe .i64) ((l.getD []).map GEv.er)with
 |error x=>
  rw[hr]at d2
  obtain⟨rfl,k⟩:=d2
  rfl
 |ok h=>
  rw[hr]at d2
  obtain⟨s,r,rfl,k1,k2,k3⟩:=d2
  show(r.er,((0:Int),(0:Int)))=_
  rw[k2];rfl
end Go.Z
