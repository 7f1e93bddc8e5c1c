/-
  Chapter 4: costs, stocks, dominated parts: both sides.
-/
import Derived.Test.YtnjngdcbkkonnaaGreatDoorQC
import Derived.Test.YtnjngdcbkkonnaaGreatDoorA17
import Derived.Test.YtnjngdcbkkonnaaGreatDoorA18
set_option linter.unusedVariables false
set_option linter.unusedSimpArgs false
set_option maxRecDepth 100000
set_option maxHeartbeats 1000000
namespace Go.Z
open Go Go.Abs
def qa0 (qs:List qc):Int:=qs.foldl (fun s q=>s + q.cost) 0
theorem qgt {q:qc} (h:qao q=0):1≤q.cost∧q.cost≤1000000∧0≤q.stock∧q.stock≤100:=by
 unfold qao at h
 split at h
 ·next h1=>
  have:=qbl.1 h1
  have k1:=qy4 (this (zh q.cost 1 1000000) (by simp))
  have k2:=qy4 (this (zh q.stock 0 100) (by simp))
  omega
 ·next h1=>exact absurd h h1
theorem qhz:∀ {qs:List qc} {s:Int},qs.foldl (fun s q=>s + q.cost) s=s + qa0 qs
 | [],s=>by simp [qa0]
 | q::qs,s=>by
  unfold qa0
  rw [List.foldl_cons,List.foldl_cons,qhz,qhz (s:=0 + q.cost)]
  omega
theorem qxc {qs:List qc} {q:qc}:qa0 (qs++[q])=qa0 qs + q.cost:=by
 unfold qa0; rw [List.foldl_append]; rfl
section
variable {ps:Option (List qc)} {ch:Option (List Int)} {qs:List qc}
theorem qt0:∀ {qs:List qc},(∀ q∈qs,qao q=0)→0≤qa0 qs∧qa0 qs≤1000000 * (qs.length:Int)
 | [],_=>by simp [qa0]
 | q::qs,h=>by
  have h1:=qgt (h q (List.mem_cons_self ..))
  have h2:=qt0 (qs:=qs) fun q hq=>h q (List.mem_cons_of_mem _ hq)
  have e:qa0 (q::qs)=q.cost + qa0 qs:=by
   have:=qhz (qs:=qs) (s:=0 + q.cost)
   unfold qa0 at this ⊢
   rw [List.foldl_cons,this]; omega
  rw [e,List.length_cons]
  omega
theorem q0m (hp:qpd (ps.getD []) (ch.getD []) qs) (hq:∀ q∈qs,qao q=0) (hl:(ch.getD []).length≤3):f71 ps ch=some (qa0 qs):=by
 have hpl:=hp.len
 obtain ⟨d,g1,g2⟩:=qef (ch.getD []).length (fun i=>(qa0 (qs.take i),(i:Int))) (qhd ps ch) (fun d=>d.1) (fun _=>qa0 qs) ⟨(qa0 (qs.take (ch.getD []).length),((ch.getD []).length:Int)),by unfold qhd; dsimp only; rw [zb]; rfl,by dsimp only; rw [List.take_of_length_le (by omega)]⟩ (fun i hi=>by
  left
  refine ⟨?_,rfl⟩
  obtain ⟨q,k1,k2⟩:=hp.at_ i _ (List.getElem?_eq_getElem hi)
  have hi':i < qs.length:=by omega
  have b1:=qt0 (qs:=qs.take i) fun q h=>hq q (List.mem_of_mem_take h)
  have b2:=qgt (hq q (List.mem_of_getElem? k1))
  have b3:(qs.take i).length≤3:=by rw [List.length_take]; omega
  unfold qhd
  dsimp only
  rw [zt hi,cond_true,j7 (List.getElem?_eq_getElem hi),qj,k2,qj,jt hi (by omega),qev (x:=qa0 (qs.take i) + q.cost) (by omega) (by omega)]
  have e:qs.take (i + 1)=qs.take i++[q]:=by rw [List.take_add_one,k1]; rfl
  rw [e,qxc])
 have g1':itO (qhd ps ch) (0,0)=some d:=g1
 unfold f71
 rw [g1',qj,g2]
theorem q4q:f116 ps ch=f71 ps ch:=rfl
end
def qui (ps:List qc) (ch:List Int):Prop:=∀ c∈ch,0≤c∧c < (ps.length:Int)
def qbx (l:List qc) (c:Int):List qc:=match l[c.toNat]? with
 | some p=>l.set c.toNat (qf3 p (p.stock - 1))
 | none=>l
def qcn (l:List qc) (ch:List Int):List qc:=ch.foldl qbx l
def qfl (l:List qc):Bool:=l.all fun p=>!decide (p.stock < 0)
def qdy (l:List qc) (ch:List Int):Option (List qc):=if qfl (qcn l ch) then some (qcn l ch) else none
theorem qgh {l:List qc} {c:Int}:(qbx l c).length=l.length:=by
 unfold qbx
 split
 ·exact List.length_set
 ·rfl
theorem qi9:∀ {ch:List Int} {l:List qc},(qcn l ch).length=l.length
 | [],l=>rfl
 | c::ch,l=>by
  show (qcn (qbx l c) ch).length=_
  rw [qi9,qgh]
theorem qpr {l:List qc} {c:Int} {p:qc} (h:l[c.toNat]?=some p):qbx l c=l.set c.toNat (qf3 p (p.stock - 1)):=by
 unfold qbx
 rw [h]
def bdS (k:Nat) (l:List qc):Prop:=∀ p∈l,-1000 + (k:Int)≤p.stock∧p.stock≤1000
theorem qwa {k:Nat} {l:List qc} {c:Int} (h:bdS (k + 1) l):bdS k (qbx l c):=by
 intro p hp
 unfold qbx at hp
 split at hp
 ·next q hq=>
  rcases List.mem_or_eq_of_mem_set hp with hm | rfl
  ·have:=h p hm
   omega
  ·have:=h q (List.mem_of_getElem? hq)
   show -1000 + (k:Int)≤q.stock - 1∧q.stock - 1≤1000
   omega
 ·have:=h p hp
  omega
theorem qqn:∀ {ch:List Int} {l:List qc} {i:Nat} {p:qc},l[i]?=some p→∃ q,(qcn l ch)[i]?=some q∧q.stock≤p.stock
 | [],l,i,p,h=>⟨p,h,Int.le_refl _⟩
 | c::ch,l,i,p,h=>by
  have:∃ q,(qbx l c)[i]?=some q∧q.stock≤p.stock:=by
   unfold qbx
   split
   ·next r hr=>
    by_cases hi:c.toNat=i
    ·subst hi
     rw [h] at hr
     cases hr
     have hlt:=(List.getElem?_eq_some_iff.1 h).1
     exact ⟨qf3 p (p.stock - 1),by rw [List.getElem?_set_self hlt],by show p.stock - 1≤p.stock; omega⟩
    ·exact ⟨p,by rw [List.getElem?_set_ne hi]; exact h,Int.le_refl _⟩
   ·exact ⟨p,h,Int.le_refl _⟩
  obtain ⟨q,h1,h2⟩:=this
  obtain ⟨r,h3,h4⟩:=qqn (ch:=ch) h1
  exact ⟨r,h3,by omega⟩
theorem qy7 {l:List qc} {c:Int} (h:0≤c∧c < (l.length:Int)):∃ p,l[c.toNat]?=some p∧qe5 l.length l c=some p:=by
 have hlt:c.toNat < l.length:=by omega
 exact ⟨l[c.toNat],List.getElem?_eq_getElem hlt,by unfold qe5; rw [if_pos h,List.getElem?_eq_getElem hlt]⟩
section
variable {ch:Option (List Int)}
theorem q27 {n:Nat} (hch:(ch.getD []).length≤1000):∀ (k i:Nat) (l:List qc),i + k=(ch.getD []).length→l.length=n→qui l ((ch.getD []).drop i)→bdS k l→(∀ p∈l,0≤p.stock) →
  ∃ d,itO (qdd n ch) ((i:Int),l)=some d∧(match d with | .inl _=>none | .inr s=>some s.2)=qdy l ((ch.getD []).drop i)
 | 0,i,l,hi,hn,hx,hb,hp=>by
  refine ⟨.inr ((i:Int),l),qb8 ?_,?_⟩
  ·unfold qdd
   dsimp only
   rw [decide_eq_false (show ¬ (i:Int) < ((ch.getD []).length:Int) by omega)]; rfl
  ·rw [List.drop_eq_nil_of_le (by omega)]
   have:qfl l=true:=by
    unfold qfl
    rw [List.all_eq_true]
    intro p hm
    have:=hp p hm
    rw [decide_eq_false (by omega)]; rfl
   unfold qdy
   show _=if qfl l=true then some l else none
   rw [if_pos this]
 | k + 1,i,l,hi,hn,hx,hb,hp=>by
  have hlt:i < (ch.getD []).length:=by omega
  have hc:(ch.getD [])[i]?=some (ch.getD [])[i]:=List.getElem?_eq_getElem hlt
  generalize (ch.getD [])[i]=c at hc
  rw [ko hc] at hx ⊢
  obtain ⟨p,g1,g2⟩:=qy7 (hx c (List.mem_cons_self ..))
  have hbp:=hb p (List.mem_of_getElem? g1)
  have hpp:=hp p (List.mem_of_getElem? g1)
  have hlt2:c.toNat < l.length:=(List.getElem?_eq_some_iff.1 g1).1
  rw [hn] at g2
  have e:qdd n ch ((i:Int),l)=cond (decide (p.stock=0)) (some (.inr (.inl l))) (some (.inl (((i + 1:Nat):Int),qbx l c))):=by
   unfold qdd
   dsimp only
   rw [zt hlt,cond_true,j7 hc,qj,g2,qj,jt hlt (by omega),qev (x:=p.stock - 1) (by omega) (by omega),qpr g1]
  by_cases h0:p.stock=0
  ·rw [decide_eq_true h0,cond_true] at e
   refine ⟨_,qb8 e,?_⟩
   have hd:(qbx l c)[c.toNat]?=some (qf3 p (p.stock - 1)):=by rw [qpr g1,List.getElem?_set_self hlt2]
   obtain ⟨q,k1,k2⟩:=qqn (ch:=(ch.getD []).drop (i + 1)) hd
   have hq:q.stock < 0:=by
    have:(qf3 p (p.stock - 1)).stock=p.stock - 1:=rfl
    omega
   have hno:qfl (qcn (qbx l c) ((ch.getD []).drop (i + 1)))=false:=by
    unfold qfl
    rw [List.all_eq_false]
    exact ⟨q,List.mem_of_getElem? k1,by rw [decide_eq_true hq]; decide⟩
   unfold qdy
   show none=if qfl (qcn (qbx l c) ((ch.getD []).drop (i + 1)))=true then _ else none
   rw [hno]; rfl
  ·rw [decide_eq_false h0,cond_false] at e
   obtain ⟨d,j1,j2⟩:=q27 hch k (i + 1) (qbx l c) (by omega) (by rw [qgh,hn]) (fun x hm=>by
     rw [qgh]; exact hx x (List.mem_cons_of_mem _ hm)) (qwa hb) (fun q hm=>by
     unfold qbx at hm
     rw [g1] at hm
     rcases List.mem_or_eq_of_mem_set hm with hm | rfl
     ·exact hp q hm
     ·show 0≤p.stock - 1; omega)
   exact ⟨d,by rw [qgd e]; exact j1,j2⟩
theorem q54 {n:Nat} (hch:(ch.getD []).length≤1000):∀ (k i:Nat) (l:List qc),i + k=(ch.getD []).length→l.length=n→qui l ((ch.getD []).drop i)→bdS k l →
  ∃ j,itO (qfh n ch) ((i:Int),l)=some (j,qcn l ((ch.getD []).drop i))
 | 0,i,l,hi,hn,hx,hb=>by
  refine ⟨(i:Int),qb8 ?_⟩
  unfold qfh
  dsimp only
  rw [decide_eq_false (show ¬ (i:Int) < ((ch.getD []).length:Int) by omega),List.drop_eq_nil_of_le (by omega)]; rfl
 | k + 1,i,l,hi,hn,hx,hb=>by
  have hlt:i < (ch.getD []).length:=by omega
  have hc:(ch.getD [])[i]?=some (ch.getD [])[i]:=List.getElem?_eq_getElem hlt
  generalize (ch.getD [])[i]=c at hc
  rw [ko hc] at hx ⊢
  obtain ⟨p,g1,g2⟩:=qy7 (hx c (List.mem_cons_self ..))
  have hbp:=hb p (List.mem_of_getElem? g1)
  rw [hn] at g2
  have e:qfh n ch ((i:Int),l)=some (.inl (((i + 1:Nat):Int),qbx l c)):=by
   unfold qfh
   dsimp only
   rw [zt hlt,cond_true,j7 hc,qj,g2,qj,jt hlt (by omega),qev (x:=p.stock - 1) (by omega) (by omega),qpr g1]
  obtain ⟨j,j1⟩:=q54 hch k (i + 1) (qbx l c) (by omega) (by rw [qgh,hn]) (fun x hm=>by
    rw [qgh]; exact hx x (List.mem_cons_of_mem _ hm)) (qwa hb)
  exact ⟨j,by rw [qgd e]; exact j1⟩
theorem q4p {ps:Option (List qc)} (hn:(ps.getD []).length≤1073741824) (hc:(ch.getD []).length≤3) (hx:qui (ps.getD []) (ch.getD [])) (hp:∀ p∈ps.getD [],qao p=0):f138 ps ch=some (match qdy (ps.getD []) (ch.getD []) with | some l=>(some l,true) | none=>(none,false)):=by
 obtain ⟨d,g1,g2⟩:=q27 (ch:=ch) (n:=(ps.getD []).length) (by omega) (ch.getD []).length 0 (ps.getD []) (by omega) rfl (by rw [List.drop_zero]; exact hx) (fun p h=>by have:=qgt (hp p h); omega) (fun p h=>by have:=qgt (hp p h); omega)
 rw [List.drop_zero] at g2
 have g1':itO (qdd (ps.getD []).length ch) (0,ps.getD [])=some d:=g1
 unfold f138
 rw [decide_eq_true hn,cond_true,g1',qj]
 rcases d with d | d
 ·rw [← g2]
 ·have g2':some d.2=qdy (ps.getD []) (ch.getD []):=g2
  have hlen:d.2.length=(ps.getD []).length:=by
   unfold qdy at g2'
   split at g2'
   ·rw [Option.some.inj g2']; exact qi9
   ·cases g2'
  rw [← g2']
  dsimp only
  rw [decide_eq_true hlen]; rfl
theorem q8e {ps:Option (List qc)} (hn:(ps.getD []).length≤1073741824) (hc:(ch.getD []).length≤3) (hx:qui (ps.getD []) (ch.getD [])) (hp:∀ p∈ps.getD [],qao p=0):f72 ps ch=some (match qdy (ps.getD []) (ch.getD []) with | some l=>(some l,true) | none=>(none,false)):=by
 obtain ⟨j,g1⟩:=q54 (ch:=ch) (n:=(ps.getD []).length) (by omega) (ch.getD []).length 0 (ps.getD []) (by omega) rfl (by rw [List.drop_zero]; exact hx) (fun p h=>by have:=qgt (hp p h); omega)
 rw [List.drop_zero] at g1
 have g1':itO (qfh (ps.getD []).length ch) (0,ps.getD [])=some (j,qcn (ps.getD []) (ch.getD [])):=g1
 have hlen:(qcn (ps.getD []) (ch.getD [])).length=(ps.getD []).length:=qi9
 obtain ⟨d,k1,k2⟩:=qar (qcn (ps.getD []) (ch.getD [])) (qjd (ps.getD []).length (qcn (ps.getD []) (ch.getD []))) (fun p=>!decide (p.stock < 0)) (fun d=>match d with | .inl _=>false | .inr _=>true) ⟨.inr _,by unfold qjd; rw [hlen,zb]; rfl,rfl⟩ (fun i x hx' hi=>by
  have hix:qe5 (ps.getD []).length (qcn (ps.getD []) (ch.getD [])) (i:Int)=some x:=by
   unfold qe5
   rw [if_pos (by omega)]
   exact hx'
  unfold qjd
  rw [decide_eq_true (show (i:Int) < ((ps.getD []).length:Int) by omega),cond_true,hix,qj,jt hi (by omega)]
  cases decide (x.stock < 0) with
  | true=>exact .inr ⟨rfl,.inl (),rfl,rfl⟩
  | false=>exact .inl ⟨rfl,rfl⟩)
 have k2':_=qfl (qcn (ps.getD []) (ch.getD [])):=k2
 unfold f72 qdy
 rw [decide_eq_true hn,cond_true,g1',qj]
 dsimp only
 rw [k1,qj]
 cases ho:qfl (qcn (ps.getD []) (ch.getD [])) with
 | true=>
  rw [ho] at k2'
  rcases d with d | d
  ·cases k2'
  ·dsimp only
   rw [decide_eq_true hlen]; rfl
 | false=>
  rw [ho] at k2'
  rcases d with d | d
  ·rfl
  ·cases k2'
end
def qdp (p q:qc):Bool:=(za p false).all fun v=>qdk (za q false) v
def qk7 (p q:qc):Bool:=qdp p q && decide (p.cost≤q.cost) && decide (q.stock≤p.stock)
theorem qs7 {x y:GEl}:eqE x y=eqE y x:=by
 unfold eqE
 rw [show decide (x.kind=y.kind)=decide (y.kind=x.kind) from decide_eq_decide.2 eq_comm,show decide (x.a=y.a)=decide (y.a=x.a) from decide_eq_decide.2 eq_comm,show decide (x.b=y.b)=decide (y.b=x.b) from decide_eq_decide.2 eq_comm]
theorem q47 {o:Option (List GEl)} {x:GEl} (hn:(o.getD []).length≤1073741824):f179 o x=some (qdk (o.getD []) x):=by
 unfold f179 f209
 obtain ⟨d,g1,g2⟩:=qef (o.getD []).length (fun i=>(i:Int)) (qem o x) (fun d=>match d with | .inl i=>decide (0≤i) | .inr _=>false) (fun i=>qdk ((o.getD []).drop i) x) ⟨.inr _,by unfold qem; rw [zb]; rfl,by rw [List.drop_eq_nil_of_le (Nat.le_refl _)]; rfl⟩ (fun i hlt=>by
  have hx:(o.getD [])[i]?=some (o.getD [])[i]:=List.getElem?_eq_getElem hlt
  generalize (o.getD [])[i]=e at hx
  rw [ko hx]
  unfold qem qdk
  rw [zt hlt,cond_true,j7 hx,qj,List.any_cons]
  rw [show (decide (x.kind=e.kind) && decide (x.a=e.a) && decide (x.b=e.b))=eqE x e from rfl,qs7]
  cases eqE e x with
  | true=>exact .inr ⟨.inl (i:Int),rfl,by simp⟩
  | false=>exact .inl ⟨by rw [cond_false,jt hlt (by omega)],rfl⟩)
 have g1':itO (qem o x) 0=some d:=g1
 have g2':_=qdk (o.getD []) x:=g2
 rw [g1',qj,← g2']
 rcases d with d | d <;> rfl
theorem qv0 {p q:qc} (hp:okP p) (hq:okP q):f139 p q=some (qk7 p q):=by
 have v1:=qdj (p:=p) (c:=false)
 have v2:=qdj (p:=q) (c:=false)
 have key:ql6 (some (za p false)) (some (za q false)) true=some (!qdp p q):=by
  unfold ql6 qrz
  obtain ⟨d,g1,g2⟩:=qar (za p false) (qdu (some (za p false)) (some (za q false)) true) (fun v=>qdk (za q false) v) (fun d=>match d with | .inl i=>!decide (0≤i) | .inr _=>true) ⟨.inr _,by unfold qdu; simp only [Option.getD_some]; rw [zb]; rfl,rfl⟩ (fun i x hx hi=>by
   unfold qdu f178
   simp only [Option.getD_some]
   rw [zt hi,cond_true,j7 hx,qj,q47 (o:=some (za q false)) (by simp only [Option.getD_some]; omega),qj,qj,jt hi (by omega)]
   simp only [Option.getD_some]
   cases qdk (za q false) x with
   | true=>exact .inl ⟨rfl,rfl⟩
   | false=>exact .inr ⟨rfl,.inl (i:Int),rfl,by simp⟩)
  rw [g1,qj]
  unfold qdp
  rw [← g2]
  rcases d with d | d
  ·simp [qh]
  ·simp [qh]
 unfold f139 qk7
 rw [qsr hq,qj]
 dsimp only
 rw [cond_true,qsr hp,qj]
 dsimp only
 rw [key,qj]
 cases qdp p q with
 | false=>rfl
 | true=>
  simp only [Bool.not_true,cond_false,Bool.true_and]
  cases decide (p.cost≤q.cost) <;> rfl
theorem q48 {p q:qc} (hp:okP p) (hq:okP q):f181 p q=some (qdp p q):=by
 have v1:=qdj (p:=p) (c:=false)
 have v2:=qdj (p:=q) (c:=false)
 have inner:∀ (i:Nat) (x:GEl),(za p false)[i]?=some x→∃ d,itO (qda (some (za p false),true) (some (za q false),true) (i:Int)) (false,0)=some d∧d.1=qdk (za q false) x:=by
  intro i x hx
  have key:∀ (k j:Nat) (t:Bool),j + k=(za q false).length→∃ d,itO (qda (some (za p false),true) (some (za q false),true) (i:Int)) (t,(j:Int))=some d∧d.1=(t || qdk ((za q false).drop j) x):=by
   intro k
   induction k with
   | zero=>
    intro j t hj
    have:j=(za q false).length:=by omega
    subst this
    refine ⟨(t,((za q false).length:Int)),qb8 ?_,?_⟩
    ·unfold qda
     dsimp only
     simp only [Option.getD_some]
     rw [zb]; rfl
    ·rw [List.drop_eq_nil_of_le (Nat.le_refl _)]; simp [qdk]
   | succ k ih=>
    intro j t hj
    have hlt:j < (za q false).length:=by omega
    have hy:(za q false)[j]?=some (za q false)[j]:=List.getElem?_eq_getElem hlt
    generalize (za q false)[j]=e at hy
    have e1:qda (some (za p false),true) (some (za q false),true) (i:Int) (t,(j:Int))=some (.inl (t || eqE e x,((j + 1:Nat):Int))):=by
     unfold qda
     dsimp only
     simp only [Option.getD_some]
     rw [zt hlt,cond_true,jt hlt (by omega)]
     cases t with
     | true=>rfl
     | false=>rw [cond_false,j7 hx,qj,j7 hy,qj,qs7]; rfl
    obtain ⟨d,g1,g2⟩:=ih (j + 1) (t || eqE e x) (by omega)
    refine ⟨d,by rw [qgd e1]; exact g1,?_⟩
    rw [g2,ko hy]
    unfold qdk
    rw [List.any_cons,Bool.or_assoc]
  obtain ⟨d,g1,g2⟩:=key (za q false).length 0 false (by omega)
  exact ⟨d,g1,by simpa using g2⟩
 unfold f181
 rw [qpy hp,qj,qpy hq,qj]
 obtain ⟨d,g1,g2⟩:=qar (za p false) (qf6 (some (za p false),true) (some (za q false),true)) (fun v=>qdk (za q false) v) (fun d=>match d with | .inl _=>false | .inr _=>true) ⟨.inr _,by unfold qf6; simp only [Option.getD_some]; rw [zb]; rfl,rfl⟩ (fun i x hx hi=>by
  obtain ⟨d,j1,j2⟩:=inner i x hx
  unfold qf6
  simp only [Option.getD_some]
  rw [zt hi,cond_true,j1,qj,j2,jt hi (by omega)]
  cases qdk (za q false) x with
  | true=>exact .inl ⟨rfl,rfl⟩
  | false=>exact .inr ⟨rfl,.inl (),rfl,rfl⟩)
 rw [g1,qj]
 unfold qdp
 rw [← g2]
 rcases d with d | d <;> rfl
theorem qvz {p q:qc} (hp:okP p) (hq:okP q):f140 p q=some (qk7 p q):=by
 unfold f140 qk7
 rw [q48 hp hq,qj]
 cases qdp p q with
 | false=>rfl
 | true=>
  simp only [cond_true,Bool.true_and]
  cases decide (p.cost≤q.cost) <;> rfl
def qsm (l:List qc) (i k:Nat):Bool:=match l[k]?,l[i]? with
 | some o,some p=>!decide ((k:Int)=(i:Int)) && (qk7 o p && (decide ((k:Int) < (i:Int)) || !qk7 p o))
 | _,_=>false
def ql2 (l:List qc) (i:Nat):Bool:=(List.range l.length).any fun k=>qsm l i k
def qjg (l:List qc):List Int:=(List.range l.length).flatMap fun i=>if ql2 l i then [(i:Int)] else []
theorem qul {δ:Type} {n:Nat} {P:Nat→Bool} {F:Bool × Int→Option ((Bool × Int) ⊕ δ)} {mk:Bool × Int→δ} (hend:∀ t,F (t,(n:Int))=some (.inr (mk (t,(n:Int))))) (hstep:∀ k t,k < n→F (t,(k:Int))=some (.inl (t || P k,((k + 1:Nat):Int)))):itO F (false,0)=some (mk ((List.range n).any P,(n:Int))):=by
 have key:∀ (k j:Nat) (t:Bool),j + k=n→itO F (t,(j:Int))=some (mk (t || ((List.range n).drop j).any P,(n:Int))):=by
  intro k
  induction k with
  | zero=>
   intro j t hj
   have:j=n:=by omega
   subst this
   rw [qb8 (hend t),List.drop_eq_nil_of_le (by simp)]
   simp
  | succ k ih=>
   intro j t hj
   have hlt:j < n:=by omega
   have hx:(List.range n)[j]?=some j:=List.getElem?_range hlt
   rw [qgd (hstep j t hlt),ih (j + 1) _ (by omega),ko hx,List.any_cons,Bool.or_assoc]
 have:=key n 0 false (by omega)
 simpa using this
theorem qqu {n:Nat} {Q:Nat→Bool} {G:Option (List Int) × Int × Bool→Option ((Option (List Int) × Int × Bool) ⊕ (Option (List Int) × Bool × Int))} (hn:n≤1000) (hend:∀ a,G (j0 a,(n:Int),yu a)=some (.inr (j0 a,yu a,(n:Int))))
  (hstep:∀ (i:Nat) (a:List Int),i < n→a.length≤1000→G (j0 a,(i:Int),yu a)=some (.inl (j0 (a++if Q i then [(i:Int)] else []),((i + 1:Nat):Int),yu (a++if Q i then [(i:Int)] else [])))):
  itO G (none,0,false)=some (j0 ((List.range n).flatMap fun i=>if Q i then [(i:Int)] else []),yu ((List.range n).flatMap fun i=>if Q i then [(i:Int)] else []),(n:Int)):=by
 have hl:(List.range n).length=n:=by simp
 have:=qco (List.range n) (fun i=>(i:Int)) G (fun i=>if Q i then [(i:Int)] else []) [] (fun i a=>a.length≤i) (Nat.le_refl _) (fun a=>by rw [hl]; exact hend a) (fun i x a hx hi hI=>by
  have hxi:x=i:=by
   rw [List.getElem?_range (by omega)] at hx
   exact (Option.some.inj hx).symm
  subst hxi
  refine ⟨?_,hstep x a (by omega) (by omega)⟩
  rw [List.length_append]
  split
  ·simp; omega
  ·simp; omega)
 rw [hl,List.nil_append] at this
 exact this
section
variable {o:Option (List qc)}
theorem q7s (hq:∀ p∈o.getD [],okP p) (hl:(o.getD []).length≤1000) {i:Nat} {p:qc} (hp:(o.getD [])[i]?=some p) {s0:Option (List Int) × Int × Bool} (hs:s0.2.1=(i:Int)):itO (qjs o s0 p) (false,0)=some (ql2 (o.getD []) i,((o.getD []).length:Int)):=by
 have hpk:=hq p (List.mem_of_getElem? hp)
 refine qul (mk:=id) (P:=fun k=>qsm (o.getD []) i k) (fun t=>by unfold qjs; dsimp only; rw [zb]; rfl) (fun k t hk=>?_)
 have hx:(o.getD [])[k]?=some (o.getD [])[k]:=List.getElem?_eq_getElem hk
 have hqk:=hq _ (List.getElem_mem hk)
 generalize (o.getD [])[k]=q at hx hqk
 unfold qjs qsm
 dsimp only
 rw [zt hk,cond_true,j7 hx,qj,hs,jt hk (by omega),qv0 hqk hpk,qv0 hpk hqk,hx,hp]
 cases t with
 | true=>rfl
 | false=>
  simp only [qj,cond_false,Bool.false_or]
  cases decide ((k:Int)=(i:Int)) with
  | true=>rfl
  | false=>
   cases qk7 q p with
   | false=>rfl
   | true=>
    cases decide ((k:Int) < (i:Int)) with
    | true=>rfl
    | false=>simp
theorem q6p (hq:∀ p∈o.getD [],okP p) (hl:(o.getD []).length≤1000) {i:Nat} {p:qc} (hp:(o.getD [])[i]?=some p) {s0:Option (List Int) × Int × Bool} (hs:s0.2.1=(i:Int)):itO (qja o s0) (false,0)=some (ql2 (o.getD []) i,((o.getD []).length:Int)):=by
 have hpk:=hq p (List.mem_of_getElem? hp)
 refine qul (mk:=id) (P:=fun k=>qsm (o.getD []) i k) (fun t=>by unfold qja; dsimp only; rw [zb]; rfl) (fun k t hk=>?_)
 have hx:(o.getD [])[k]?=some (o.getD [])[k]:=List.getElem?_eq_getElem hk
 have hqk:=hq _ (List.getElem_mem hk)
 generalize (o.getD [])[k]=q at hx hqk
 unfold qja qsm
 dsimp only
 rw [zt hk,cond_true,j7 hx,hs,j7 hp,jt hk (by omega),hx,hp]
 cases t with
 | true=>rfl
 | false=>
  simp only [qj,cond_false,Bool.false_or]
  rw [qvz hqk hpk,qvz hpk hqk]
  simp only [qj]
  cases decide ((k:Int)=(i:Int)) with
  | true=>rfl
  | false=>
   cases qk7 q p with
   | false=>rfl
   | true=>
    cases decide ((k:Int) < (i:Int)) with
    | true=>rfl
    | false=>simp
theorem q84 (hl:(o.getD []).length≤1000):f70 o=some (if qbw (o.getD [])=0 then (j0 (qjg (o.getD [])),0) else (none,qbw (o.getD []))):=by
 unfold f70
 rw [qto,qj]
 by_cases hz:qbw (o.getD [])=0
 ·have hq:∀ p∈o.getD [],okP p:=fun p h=>qtf ((qd9 hz).2 p h)
  rw [decide_eq_true hz,cond_true,if_pos hz]
  rw [qqu (n:=(o.getD []).length) (Q:=ql2 (o.getD [])) (G:=qjq o) hl (fun a=>by unfold qjq; dsimp only; rw [zb]; rfl) (fun i a hi ha=>by
   have hx:(o.getD [])[i]?=some (o.getD [])[i]:=List.getElem?_eq_getElem hi
   unfold qjq
   dsimp only
   rw [zt hi,cond_true,j7 hx,qj,q7s hq hl hx rfl,qj,jt hi (by omega)]
   dsimp only
   cases ql2 (o.getD []) i with
   | true=>
    rw [cond_true,qbk (by omega)]
    simp [qcs]
   | false=>simp)]
  rfl
 ·rw [decide_eq_false hz,if_neg hz]; rfl
theorem qzq (hz:qbw (o.getD [])=0) (hl:(o.getD []).length≤1000):f73 o=some (j0 (qjg (o.getD [])),yu (qjg (o.getD []))):=by
 have hq:∀ p∈o.getD [],okP p:=fun p h=>qtf ((qd9 hz).2 p h)
 unfold f73
 rw [qqu (n:=(o.getD []).length) (Q:=ql2 (o.getD [])) (G:=qjy o) hl (fun a=>by unfold qjy; dsimp only; rw [zb]; rfl) (fun i a hi ha=>by
  have hx:(o.getD [])[i]?=some (o.getD [])[i]:=List.getElem?_eq_getElem hi
  unfold qjy
  dsimp only
  rw [zt hi,cond_true,q6p hq hl hx rfl,qj,jt hi (by omega)]
  dsimp only
  cases ql2 (o.getD []) i with
  | true=>
   rw [cond_true,qbk (by omega)]
   simp [qcs]
  | false=>simp)]
 rfl
end
theorem qt7 {a b:Option (List Int)} (hn:(a.getD []).length≤1073741824) (h:a.getD []=b.getD []):f42 a b=some true:=by
 unfold f42
 rw [h,decide_eq_true rfl,cond_true]
 obtain ⟨d,g1,g2⟩:=qar (a.getD []) (qj7 a b) (fun _=>true) (fun d=>match d with | .inl _=>false | .inr _=>true) ⟨.inr _,by unfold qj7; rw [zb]; rfl,rfl⟩ (fun i x hx hi=>by
  left
  unfold qj7
  rw [zt hi,cond_true,j7 hx,qj,← h,j7 hx,qj,decide_eq_true rfl,jt hi (by omega)]
  exact ⟨rfl,rfl⟩)
 rw [g1,qj]
 rcases d with d | d
 ·simp at g2
 ·rfl
theorem qnm {a b:Option (List qc)} (hn:(a.getD []).length≤1073741824) (h:a.getD []=b.getD []):f74 a b=some true:=by
 unfold f74
 rw [h,decide_eq_true rfl,cond_true]
 obtain ⟨d,g1,g2⟩:=qar (a.getD []) (qjv a b) (fun _=>true) (fun d=>match d with | .inl _=>false | .inr _=>true) ⟨.inr _,by unfold qjv; rw [zb]; rfl,rfl⟩ (fun i x hx hi=>by
  left
  unfold qjv
  rw [zt hi,cond_true,j7 hx,qj,← h,j7 hx,qj,jt hi (by omega)]
  simp)
 rw [g1,qj]
 rcases d with d | d
 ·simp at g2
 ·rfl
theorem qss {o:Option (List qc)} (hn:(o.getD []).length≤1073741824):f75 o=some (j0 (o.getD []),yu (o.getD [])):=by
 unfold f75
 have:=qmm (o.getD []) (qjh o) id (by omega) (fun a=>by unfold qjh; dsimp only; rw [zb]; rfl) (fun i x a hx hi hl=>by
  unfold qjh
  dsimp only
  rw [zt hi,cond_true,j7 hx,qj,jt hi (by omega)]
  exact qbk hl)
 rw [this,qj]
 simp
theorem q6d {ps:List qc} {ch:List Int} (h:qaf ps ch=0):qui ps ch:=by
 intro c hc
 unfold qaf at h
 split at h
 ·cases h
 ·have ha:(ch.all fun i=>inB ps.length i)=true:=by
   cases ha:ch.all fun i=>inB ps.length i with
   | true=>rfl
   | false=>rw [ha] at h; cases h
  have:=List.all_eq_true.1 ha c hc
  unfold inB at this
  simp only [Bool.and_eq_true,Bool.not_eq_true',decide_eq_false_iff_not] at this
  omega
end Go.Z
/-
 CrossoverStocks: the law runs true.
-/
namespace Go.Z
open Go Go.Abs
theorem qvk {l:List qc} (h:ql0 l=true):l.length≤7:=by
 unfold ql0 at h
 simp only [Bool.and_eq_true,Bool.or_eq_true,decide_eq_true_eq] at h
 omega
theorem qv5 {c e:Int} (h:e ≠ 0→c=0):f43 c e e c=some true:=by
 unfold f43
 by_cases he:e=0
 ·rw [decide_eq_true he]; simp
 ·rw [decide_eq_false he,h he]; simp
theorem qx1 {l:List qc}:(qjg l).length≤l.length:=by
 unfold qjg
 have:∀ m:List Nat,(m.flatMap fun i=>if ql2 l i then [(i:Int)] else []).length≤m.length:=by
  intro m
  induction m with
  | nil=>exact Nat.le_refl _
  | cons x m ih=>
   rw [List.flatMap_cons,List.length_append,List.length_cons]
   split
   ·simp only [List.length_cons,List.length_nil]; omega
   ·simp only [List.length_nil]; omega
 have:=this (List.range l.length)
 simpa using this
theorem q46 (o:Option (List qc)) (c:Option (List Int)):f9 o c=some true:=by
 unfold f9
 rw [show E16=some true from rfl,qj,cond_true,q78,qj]
 cases hs:ql0 (o.getD []) with
 | false=>rfl
 | true=>
  have hl:=qvk hs
  rw [cond_true]
  by_cases h5:(5:Int) < ((c.getD []).length:Int)
  ·rw [decide_eq_true h5]; rfl
  rw [decide_eq_false h5,cond_false,q8c (by omega),qj,q6n (by omega),qj]
  have q1:=qbq (o.getD [])
  have q2:(some (c.getD []):Option (List Int)).getD []=c.getD []:=rfl
  dsimp only
  generalize j0 (o.getD [])=P at q1 ⊢
  generalize (some (c.getD []):Option (List Int))=C at q2 ⊢
  have hC:f133 P C=some (j5 [qbw (o.getD []),qaf (o.getD []) (c.getD [])]):=by rw [q4c (by rw [q2]; omega),q1,q2]
  have h32:f32 (some [qbw (o.getD []),qaf (o.getD []) (c.getD [])])=some (j5 [qbw (o.getD []),qaf (o.getD []) (c.getD [])]):=by unfold f32; rw [qnn (by simp)]; rfl
  have h70:=q84 (o:=P) (by rw [q1]; omega)
  rw [q1] at h70
  rw [h70,q6y,q6w]
  unfold f67 f68 f69
  rw [hC]
  simp only [qj]
  rw [h32]
  simp only [qj]
  have hds:(j0 (qjg (o.getD []))).getD []=qjg (o.getD []):=qbq _
  have hdl:=qx1 (l:=o.getD [])
  have e42:f42 (j0 (qjg (o.getD []))) (j0 (qjg (o.getD [])))=some true:=qt7 (by rw [hds]; omega) rfl
  by_cases hz:j5 [qbw (o.getD []),qaf (o.getD []) (c.getD [])]=0
  ·obtain ⟨z1,z2⟩:=q2o hz
   obtain ⟨z4,qs,hp⟩:=q01 z2
   have hq:∀ q∈qs,qao q=0:=fun q h=>(qd9 z1).2 q (hp.mem q h)
   have hp':qpd (P.getD []) (C.getD []) qs:=by rw [q1,q2]; exact hp
   have e1:=q0m hp' hq (by rw [q2]; exact z4)
   have e2:=q0m hp hq z4
   have hx:=q6d z2
   have e3:=q4p (ps:=P) (ch:=C) (by rw [q1]; omega) (by rw [q2]; exact z4) (by rw [q1,q2]; exact hx) (by rw [q1]; exact (qd9 z1).2)
   have e4:=q8e (ps:=o) (ch:=c) (by omega) z4 hx (qd9 z1).2
   have e5:=qzq (o:=o) z1 (by omega)
   rw [q1,q2] at e3
   rw [hz,z1,q4q,e1,e2,e3,e4,e5]
   simp only [qj,if_true]
   simp only [decide_true,cond_true,qj]
   rw [qv5 (fun h=>absurd rfl h)]
   simp only [qj,cond_true]
   cases ht:qdy (o.getD []) (c.getD []) with
   | some l=>
    have hlen:l.length=(o.getD []).length:=by
     unfold qdy at ht
     split at ht
     ·rw [← Option.some.inj ht]; exact qi9
     ·cases ht
    have e75:f75 (some l)=some (j0 l,yu l):=qss (o:=some l) (by show l.length≤_; omega)
    have e74:f74 (j0 l) (some l)=some true:=qnm (by rw [qbq]; omega) (by rw [qbq]; rfl)
    simp only [qcy,qj,e75,e74,e42,cond_true,Bool.not_true]
    rfl
   | none=>
    have e75:f75 none=some (none,false):=qss (o:=none) (by simp)
    have e74:f74 none none=some true:=qnm (by simp) rfl
    simp only [qcy,qj,e75,e74,e42,cond_true,cond_false,Bool.not_false]
    rfl
  ·rw [decide_eq_false hz]
   simp only [cond_false,qj]
   have e75:f75 none=some (none,false):=qss (o:=none) (by simp)
   have e74:f74 none none=some true:=qnm (by simp) rfl
   have e43:f43 0 (j5 [qbw (o.getD []),qaf (o.getD []) (c.getD [])]) (j5 [qbw (o.getD []),qaf (o.getD []) (c.getD [])]) 0=some true:=qv5 (fun _=>rfl)
   have e42n:f42 none none=some true:=qt7 (by simp) rfl
   by_cases z1:qbw (o.getD [])=0
   ·have e5:=qzq (o:=o) z1 (by omega)
    rw [e5,e43,e75]
    simp only [qj,e74,decide_eq_true z1,if_pos z1,cond_true,e42]
    simp [z1]
   ·rw [e43,e75]
    simp only [qj,e74,decide_eq_false z1,if_neg z1,cond_true,cond_false,e42n]
    simp
theorem I9 (x:Option (List qc)) (c:Option (List Int)):qd prY (X prY) 9 [sl 8 qg x,sl 1 qp c]=some (.bool true,false):=W9 (q46 x c)
end Go.Z
