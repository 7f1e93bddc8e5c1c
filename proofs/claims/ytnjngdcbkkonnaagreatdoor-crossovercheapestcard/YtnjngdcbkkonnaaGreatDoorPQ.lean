/- Chapter 4. -/
import Derived.Test.YtnjngdcbkkonnaaGreatDoorA8
import Derived.Test.YtnjngdcbkkonnaaGreatDoorPB
import Derived.Test.YtnjngdcbkkonnaaGreatDoorPH
set_option linter.unusedVariables false
set_option linter.unusedSimpArgs false
set_option maxRecDepth 100000
set_option maxHeartbeats 1000000
namespace Go.Z
open Go Go.Abs
structure qe9 (ps:List ql) (ch:List Int) (qs:List ql):Prop where
 len:qs.length=ch.length
 at_:∀ (k:Nat) i,ch[k]?=some i→∃ q,qs[k]?=some q∧js ps i=some q
 mem:∀ q∈qs,q∈ps
def qa7 (c:Bool):List ql→List GEl→List (List GEl)
 | [],x=>[x]
 | p::l,x=>(yc p c).flatMap fun v=>qa7 c l (x++[v])
section
variable {S D α β:Type}
theorem qor {g:S→α→Option (S ⊕ D)}:∀ {a b:List α} {s:S},kl g (a++b) s=qc (kl g a s) fun r=>match r with | .inl s'=>kl g b s' | .inr d=>some (.inr d)
 | [],b,s=>rfl
 | v::a,b,s=>by
  simp only [List.cons_append,kl]
  cases g s v with
  | none=>rfl
  | some r=>
   cases r with
   | inl s'=>simp only [qd]; exact qor
   | inr d=>rfl
theorem qu5 {g:S→α→Option (S ⊕ D)} {h:β→List α}:∀ {l:List β} {s:S},kl g (l.flatMap h) s=kl (fun s v=>kl g (h v) s) l s
 | [],s=>rfl
 | v::l,s=>by
  rw [List.flatMap_cons,qor]
  simp only [kl]
  cases kl g (h v) s with
  | none=>rfl
  | some r=>
   cases r with
   | inl s'=>simp only [qd]; exact qu5
   | inr d=>rfl
theorem q6i {g:S→α→Option (S ⊕ D)} {x:α} {s:S}:kl g [x] s=g s x:=by
 simp only [kl]
 cases g s x with
 | none=>rfl
 | some r=>cases r <;> rfl
theorem qsd {g g':S→α→Option (S ⊕ D)}:∀ {l:List α} {s:S},(∀ s,∀ v∈l,g s v=g' s v)→kl g l s=kl g' l s
 | [],s,_=>rfl
 | v::l,s,h=>by
  simp only [kl]
  rw [h s v (List.mem_cons_self ..)]
  cases g' s v with
  | none=>rfl
  | some r=>
   cases r with
   | inl s'=>simp only [qd]; exact qsd fun s x hx=>h s x (List.mem_cons_of_mem _ hx)
   | inr d=>rfl
theorem q21 {x:List GEl} (h:x.length≤1073741824):∃ b,f198 (qi x)=some (qi x,b)∧(b || (qi x).isNone)=true:=by
 cases x with
 | nil=>exact ⟨false,rfl,rfl⟩
 | cons a l=>
  refine ⟨true,?_,rfl⟩
  unfold f198 apO
  rw [if_pos (by simpa [qi] using h)]
  rfl
theorem q9k {l:List β} {k:Nat} {x:β} (h:l[k]?=some x):js l (k:Int)=some x:=by rw [qei,h]
theorem q8q {y:S→Option (List GEl)→Option (S ⊕ D)} {ps:Option (List ql)} {ch:Option (List Int)} {c:Bool} {qs:List ql} (hp:qe9 (ps.getD []) (ch.getD []) qs) (ho:∀ q∈qs,okP q) (hl:qs.length≤1000):
  ∀ (m:Nat) (x:List GEl) (s:S),x.length + m=qs.length→vis y ch ps c m (qi x) s=kl (fun s x=>y s (qi x)) (qa7 c (qs.drop x.length) x) s
 | 0,x,s,hm=>by
  rw [List.drop_eq_nil_of_le (by omega)]
  show _=kl _ [x] s
  rw [q6i]
  obtain ⟨b,h1,h2⟩:=q21 (x:=x) (by omega)
  unfold vis
  rw [h1,qd]
 | m + 1,x,s,hm=>by
  have hk:x.length < (ch.getD []).length:=by rw [← hp.len]; omega
  obtain ⟨q,g1,g2⟩:=hp.at_ x.length _ (List.getElem?_eq_getElem hk)
  rw [zr g1]
  show _=kl _ ((yc q c).flatMap fun v=>qa7 c (qs.drop (x.length + 1)) (x++[v])) s
  rw [qu5]
  obtain ⟨b,h1,h2⟩:=q21 (x:=x) (by omega)
  have hq:okP q:=ho q (List.mem_of_getElem? g1)
  unfold vis
  rw [jn,q9k (List.getElem?_eq_getElem hk),qd,g2,qd,q7z hq,qd]
  simp only [Option.getD_some]
  rw [decide_eq_true (qdt (p:=q) (c:=c)),cond_true,h1,qd]
  simp only [h2,cond_true]
  refine qsd fun s v _=>?_
  rw [qnh (by omega),qd]
  have:=q8q (y:=y) (c:=c) hp ho hl m (x++[v]) s (by rw [List.length_append]; simp only [List.length_cons,List.length_nil]; omega)
  rw [this]
  congr 2
  simp
theorem jea {y:S→Option (List GEl)→Option (S ⊕ D)} {ps:Option (List ql)} {ch:Option (List Int)} {c:Bool} {qs:List ql} {s:S} (hp:qe9 (ps.getD []) (ch.getD []) qs) (ho:∀ q∈qs,okP q) (hl:qs.length≤1000):vis y ch ps c (ch.getD []).length none s=kl (fun s x=>y s (qi x)) (qa7 c qs []) s:=by
 have:=q8q (y:=y) (c:=c) hp ho hl (ch.getD []).length [] s (by rw [hp.len]; simp)
 exact this
end
def qeb (c:Bool) (out:List (List GEl)) (p:ql):List (List GEl):=out.flatMap fun x=>(yc p c).map fun v=>x++[v]
theorem qwq {c:Bool}:∀ {qs:List ql} {out:List (List GEl)},qs.foldl (qeb c) out=out.flatMap (qa7 c qs)
 | [],out=>by
  show out=out.flatMap fun x=>[x]
  rw [qcs]; simp
 | p::qs,out=>by
  rw [List.foldl_cons,qwq]
  unfold qeb
  rw [List.flatMap_assoc]
  congr 1
  funext x
  rw [List.flatMap_map]
  rfl
theorem q9s {c:Bool} {qs:List ql}:qs.foldl (qeb c) [[]]=qa7 c qs []:=by rw [qwq]; simp
theorem ja6 {p:ql} {c:Bool} (h:okP p) {v:GEl} (hv:v∈yc p c):v∈yc p false:=by
 obtain ⟨⟨a1,a2,a3,a4⟩,b1,b2,b3,b4⟩:=h
 have hs:∀ {a s:Int},0≤s→s≤1→∀ {x},x∈yi a s c→x∈yi a s false:=by
  intro a s h1 h2 x hx
  unfold yi at hx ⊢
  split at hx
  ·next h0=>rw [if_pos h0]; exact hx
  ·next h0=>
   rw [if_neg h0]
   have:s=1:=by omega
   subst this
   cases c with
   | false=>exact hx
   | true=>
    simp only [if_true,Bool.false_eq_true,if_false,List.mem_cons,List.not_mem_nil,or_false] at hx ⊢
    omega
 unfold yc at hv ⊢
 obtain ⟨a,ha,hv⟩:=List.mem_flatMap.1 hv
 obtain ⟨b,hb,hv⟩:=List.mem_map.1 hv
 exact List.mem_flatMap.2 ⟨a,hs a3 a4 ha,List.mem_map.2 ⟨b,hs b3 b4 hb,hv⟩⟩
theorem q0v {c:Bool}:∀ {qs:List ql} {x y:List GEl},y∈qa7 c qs x→y.length=x.length + qs.length∧∀ v∈y,v∈x∨∃ q∈qs,v∈yc q c
 | [],x,y,h=>by
  have:y=x:=by simpa [qa7] using h
  subst this
  exact ⟨rfl,fun v hv=>.inl hv⟩
 | p::qs,x,y,h=>by
  obtain ⟨v,hv,hy⟩:=List.mem_flatMap.1 h
  obtain ⟨h1,h2⟩:=q0v hy
  refine ⟨by rw [h1,List.length_append]; simp only [List.length_cons,List.length_nil]; omega,fun u hu=>?_⟩
  rcases h2 u hu with hu | ⟨q,hq,hu⟩
  ·rcases List.mem_append.1 hu with hu | hu
   ·exact .inl hu
   ·have:u=v:=by simpa using hu
    subst this
    exact .inr ⟨p,List.mem_cons_self ..,hv⟩
  ·exact .inr ⟨q,List.mem_cons_of_mem _ hq,hu⟩
theorem quv:∀ {l:List ql} {ks:List (List UInt8)},qp6 ks l=0→∀ p∈l,qas p=0
 | [],_,_,_,h=>by cases h
 | q::l,ks,h,p,hp=>by
  unfold qp6 at h
  split at h
  ·next h1=>
   rcases List.mem_cons.1 hp with rfl | hp
   ·exact ko.1 h1 _ (List.mem_cons_self ..)
   ·exact quv h p hp
  ·next h1=>exact absurd h h1
theorem qbs {l:List ql} (h:qb2 l=0):l.length≤6∧∀ p∈l,qas p=0:=by
 unfold qb2 at h
 split at h
 ·cases h
 ·exact ⟨by omega,quv h⟩
theorem q57 {p:ql} (h:qas p=0) {v:GEl} (hv:v∈yc p false):y9 v=0:=by
 unfold qas at h
 split at h
 ·next h1=>
  have h2:j7 ((yc p false).map y9)=0:=by
   by_cases hz:j7 ((yc p false).map y9)=0
   ·exact hz
   ·rw [decide_eq_false hz] at h; cases h
  exact ko.1 h2 _ (List.mem_map.2 ⟨v,hv,rfl⟩)
 ·next h1=>exact absurd h h1
theorem jhs {c:Bool} {ps qs:List ql} {ch:List Int} (hc:qb2 ps=0) (hp:qe9 ps ch qs) (hn:ch.length≤3):(∀ q∈qs,okP q)∧∀ x∈qa7 c qs [],kg x=0:=by
 have h1:∀ q∈qs,qas q=0:=fun q hq=>(qbs hc).2 q (hp.mem q hq)
 refine ⟨fun q hq=>qz0 (h1 q hq),fun x hx=>?_⟩
 obtain ⟨g1,g2⟩:=q0v hx
 unfold kg
 rw [if_neg (by rw [g1,hp.len]; simp; omega)]
 refine ko.2 fun e he=>?_
 obtain ⟨v,hv,rfl⟩:=List.mem_map.1 he
 rcases g2 v hv with hv | ⟨q,hq,hv⟩
 ·cases hv
 ·exact q57 (h1 q hq) (ja6 (qz0 (h1 q hq)) hv)
structure okR (v:qy):Prop where
 a:0≤v.num
 b:v.num≤9223372036854775807
 c:1≤v.den
 d:v.den≤9223372036854775807
def qcy (x y:qy):Bool:=decide (x.num * y.den < y.num * x.den)
theorem qv4 {a b:qy} (ha:okR a) (hb:okR b):f127 a b=some (qcy b a):=q9y ha.a ha.b (by have:=ha.c; omega) ha.d hb.a hb.b (by have:=hb.c; omega) hb.d
theorem q5o {a b:qy} (ha:okR a) (hb:okR b):f58 200 a b=some (qcy a b):=jdq ha.a ha.b ha.c ha.d hb.a hb.b hb.c hb.d
def qlo (s:qdq):qy:=⟨s.a,s.b⟩
def qhi (s:qdq):qy:=⟨s.c,s.d⟩
def mkQ (x y:qy):qdq:=⟨x.num,x.den,y.num,y.den⟩
def jt4 (s:Option qdq) (v:qy):qdq:=match s with
 | none=>mkQ v v
 | some s=>mkQ (cond (qcy v (qlo s)) v (qlo s)) (cond (qcy (qhi s) v) v (qhi s))
theorem q2e {x:List GEl} {w:Int} (hl:kg x=0) (hw:ji w 1 8=0):(lev w x).2=17∨((lev w x).2=0∧okR (lev w x).1):=by
 rcases jik (o:=some x) hl hw with h | ⟨h1,h2,h3,h4,h5⟩
 ·exact .inl h
 ·exact .inr ⟨h1,h2,h3,h4,h5⟩
def ext (w:Int):List (List GEl)→Option qdq→Option (Option qdq)
 | [],s=>some s
 | x::l,s=>if (lev w x).2=0 then ext w l (some (jt4 s (lev w x).1)) else none
def qea (p:ql) (v:GEl):Bool:=decide (max (v.a - p.pa) (p.pa - v.a)=p.sa) && decide (max (v.b - p.pb) (p.pb - v.b)=p.sb)
theorem qr3 {a s:Int} (h:okN a s):(yi a s false).filter (fun x=>decide (max (x - a) (a - x)=s))=yi a s true:=by
 obtain ⟨h1,h2,h3,h4⟩:=h
 unfold yi
 by_cases hs:s=0
 ·rw [if_pos hs,if_pos hs]
  simp only [List.filter_cons,List.filter_nil,decide_eq_true_eq]
  rw [if_pos (by omega)]
 ·rw [if_neg hs,if_neg hs]
  have:s=1:=by omega
  subst this
  simp only [Bool.false_eq_true,if_false,if_true,List.filter_cons,List.filter_nil,decide_eq_true_eq]
  rw [if_pos (by omega),if_neg (by omega),if_pos (by omega)]
theorem qwi {E:GEl→Bool} {P Q:Int→Bool} {f:Int→Int→GEl} (hE:∀ a b,E (f a b)=(P a && Q b)) {lb:List Int}:∀ {la:List Int},(la.flatMap fun a=>lb.map (f a)).filter E=(la.filter P).flatMap fun a=>(lb.filter Q).map (f a)
 | []=>rfl
 | a::la=>by
  rw [List.flatMap_cons,List.filter_append,qwi hE,List.filter_map,List.filter_cons]
  cases hp:P a with
  | true=>
   rw [if_pos rfl,List.flatMap_cons]
   congr 2
   congr 1
   funext b
   show E (f a b)=_
   rw [hE,hp,Bool.true_and]
  | false=>
   have:lb.filter (E ∘ f a)=[]:=by
    rw [List.filter_eq_nil_iff]
    intro b _
    show ¬ E (f a b)=true
    rw [hE,hp]
    simp
   rw [this]
   simp
theorem q1e {p:ql} {c:Bool} (h:okP p):(yc p false).filter (fun v=>qea p v || !c)=yc p c:=by
 cases c with
 | false=>
  rw [List.filter_eq_self]
  intro v _
  simp
 | true=>
  have e:(fun v=>qea p v || !true)=qea p:=by funext v; simp
  rw [e]
  unfold yc
  rw [qwi (P:=fun x=>decide (max (x - p.pa) (p.pa - x)=p.sa)) (Q:=fun x=>decide (max (x - p.pb) (p.pb - x)=p.sb)) (fun a b=>rfl),qr3 h.1,qr3 h.2]
theorem qf7 {α β:Type} {P:α→Bool} {g:α→β}:∀ {l:List α},(l.flatMap fun v=>if P v then [g v] else [])=(l.filter P).map g
 | []=>rfl
 | v::l=>by
  rw [List.flatMap_cons,qf7,List.filter_cons]
  cases P v <;> rfl
theorem q8i {p:ql} (h:okP p) {v:GEl} (hv:v∈yc p false):(p.pa - 1≤v.a∧v.a≤p.pa + 1)∧p.pb - 1≤v.b∧v.b≤p.pb + 1:=by
 have key:∀ {a s x:Int},x∈yi a s false→a - 1≤x∧x≤a + 1:=by
  intro a s x hx
  unfold yi at hx
  split at hx
  ·simp only [List.mem_cons,List.not_mem_nil,or_false] at hx; omega
  ·simp only [Bool.false_eq_true,if_false,List.mem_cons,List.not_mem_nil,or_false] at hx; omega
 unfold yc at hv
 obtain ⟨a,ha,hv⟩:=List.mem_flatMap.1 hv
 obtain ⟨b,hb,rfl⟩:=List.mem_map.1 hv
 exact ⟨key ha,key hb⟩
theorem qwj {α β:Type} (c:Bool) (l:List α) (f:Bool × Option (List β) × Int × Bool→Option ((Bool × Option (List β) × Int × Bool) ⊕ (Bool × Option (List β) × Bool × Int))) (h:α→List β) (a0:List β) (I:Nat→List β→Prop) (hI:I 0 a0)
  (hend:∀ a,f (c,qi a,(l.length:Int),zh a)=some (.inr (c,qi a,zh a,(l.length:Int))))
  (hstep:∀ (i:Nat) x a,l[i]?=some x→i < l.length→I i a→I (i + 1) (a++h x)∧f (c,qi a,(i:Int),zh a)=some (.inl (c,qi (a++h x),((i + 1:Nat):Int),zh (a++h x)))):
  itO f (c,qi a0,0,zh a0)=some (c,qi (a0++l.flatMap h),zh (a0++l.flatMap h),(l.length:Int)):=by
 have key:∀ (k i:Nat),i + k=l.length→∀ a,I i a→itO f (c,qi a,(i:Int),zh a)=some (c,qi (a++(l.drop i).flatMap h),zh (a++(l.drop i).flatMap h),(l.length:Int)):=by
  intro k
  induction k with
  | zero=>
   intro i hi a _
   have:i=l.length:=by omega
   subst this
   rw [List.drop_eq_nil_of_le (Nat.le_refl _),List.flatMap_nil,List.append_nil,zy (hend a)]
  | succ k ih=>
   intro i hi a ha
   obtain ⟨x,hx⟩:∃ x,l[i]?=some x:=⟨_,List.getElem?_eq_getElem (by omega)⟩
   obtain ⟨h1,h2⟩:=hstep i x a hx (by omega) ha
   rw [qab h2,ih (i + 1) (by omega) _ h1,zr hx,List.flatMap_cons,List.append_assoc]
 have:=key l.length 0 (by omega) a0 hI
 rwa [List.drop_zero] at this
theorem q4d {x:List GEl} {v:GEl} (h:x.length≤1000):qc (apO (some []) ((qi x).getD [])) (fun y=>apO y [v])=some (qi (x++[v])):=by
 have e:apO (some []) ((qi x).getD [])=some (some x):=by
  unfold apO
  rw [jn,if_pos (by simp; omega)]
  cases x <;> rfl
 rw [e,qd]
 unfold apO
 rw [if_pos (by simp; omega)]
 cases x <;> rfl
theorem q8a {ps:Option (List ql)} {ch:Option (List Int)} {c o:Bool} {L:List (List GEl)} {i0:Int} {p:ql} {w:Bool} {st:Bool × Option (List (Option (List GEl))) × Int × Bool} {x:List GEl} {k:Nat} (hk:L[k]?=some x) (hx:x.length≤1000) (hst:st.2.2.1=(k:Int)) (h:okP p)
  {j:Nat} {v:GEl} {a:List (Option (List GEl))} (hj:(yc p false)[j]?=some v) (hl:a.length < 1073741824):
  qg2 ps ch (c,qi (L.map qi),i0,o) p (some (yc p false),w) st (c,qi a,(j:Int),zh a)=some (.inl (c,qi (a++if qea p v || !c then [qi (x++[v])] else []),((j + 1:Nat):Int),zh (a++if qea p v || !c then [qi (x++[v])] else []))):=by
 have hjl:j < (yc p false).length:=(List.getElem?_eq_some_iff.1 hj).1
 obtain ⟨⟨n1,n2⟩,n3,n4⟩:=q8i h (List.mem_of_getElem? hj)
 obtain ⟨⟨a1,a2,a3,a4⟩,b1,b2,b3,b4⟩:=h
 have hv9:=qdt (p:=p) (c:=false)
 have hidx:js ((qi (L.map qi)).getD []) st.2.2.1=some (qi x):=by
  rw [hst,jn,qei,List.getElem?_map,hk]; rfl
 have hap:∀ {γ:Type} {q:Option (List (Option (List GEl)))→Option γ},(qc (apO (some []) ((qi x).getD [])) fun v1=>qc (apO v1 [v]) fun v2=>cond (zh a) (qc (apO (qi a) [v2]) q) (cond (qi a).isNone (qc (apO (qi a) [v2]) q) none))=q (qi (a++[qi (x++[v])])):=by
  intro γ q
  have e:=q4d (v:=v) hx
  cases h1:apO (some []) ((qi x).getD []) with
  | none=>rw [h1] at e; cases e
  | some y=>
   rw [h1,qd] at e
   rw [qd,e,qd,qby hl]
 unfold qg2
 dsimp only
 simp only [Option.getD_some]
 rw [zu hjl,cond_true,zn hj,qd,y8 (x:=v.a - p.pa) (by omega),y8 (x:=p.pa - v.a) (by omega),y8 (x:=v.b - p.pb) (by omega),y8 (x:=p.pb - v.b) (by omega),jo hjl (by omega),hidx]
 unfold qea
 cases decide (max (v.a - p.pa) (p.pa - v.a)=p.sa) with
 | true=>
  cases decide (max (v.b - p.pb) (p.pb - v.b)=p.sb) with
  | true=>
   simp only [cond_true,qd]
   rw [hap]
   simp [qbq]
  | false=>
   cases c with
   | true=>simp
   | false=>
    simp only [cond_true,cond_false,qd]
    rw [hap]
    simp [qbq]
 | false=>
  cases c with
  | true=>simp
  | false=>
   simp only [cond_false,qd]
   rw [hap]
   simp [qbq]
theorem q8k {c:Bool} {L:List (List GEl)} {p:ql}:(qeb c L p).length≤9 * L.length:=by
 unfold qeb
 induction L with
 | nil=>simp
 | cons x L ih=>
  have:=qdt (p:=p) (c:=c)
  rw [List.flatMap_cons,List.length_append,List.length_map,List.length_cons]
  omega
theorem q7n {ps:Option (List ql)} {ch:Option (List Int)} {c:Bool} {L:List (List GEl)} {i:Nat} {k:Int} {p:ql} (hi:(ch.getD [])[i]?=some k) (hn:(ch.getD []).length≤1000) (hp:js (ps.getD []) k=some p) (h:okP p) (hL:L.length≤100000) (hx:∀ x∈L,x.length≤1000):
  qhb ps ch (c,qi (L.map qi),(i:Int),zh (L.map qi))=some (.inl (c,qi ((qeb c L p).map qi),((i + 1:Nat):Int),zh ((qeb c L p).map qi))):=by
 have hil:i < (ch.getD []).length:=(List.getElem?_eq_some_iff.1 hi).1
 unfold qhb
 dsimp only
 rw [zu hil,cond_true,zn hi,qd,hp,qd,q2z h,qd,jo hil (by omega)]
 have key:=qwj c L (qja ps ch (c,qi (L.map qi),(i:Int),zh (L.map qi)) p (some (yc p false),true)) (fun x=>(yc p false).flatMap fun v=>if qea p v || !c then [qi (x++[v])] else []) [] (fun j a=>a.length≤9 * j) (by simp) (fun a=>by
   unfold qja
   dsimp only
   rw [jn,List.length_map,zj]; rfl) (fun j x a hj hjl ha=>by
   have hin:=qwj c (yc p false) (qg2 ps ch (c,qi (L.map qi),(i:Int),zh (L.map qi)) p (some (yc p false),true) (c,qi a,(j:Int),zh a)) (fun v=>if qea p v || !c then [qi (x++[v])] else []) a (fun m b=>b.length≤a.length + m) (by simp) (fun b=>by
     unfold qg2
     dsimp only
     simp only [Option.getD_some]
     rw [zj]; rfl) (fun m v b hm hml hb=>by
     have hv9:=qdt (p:=p) (c:=false)
     refine ⟨?_,q8a hj (hx x (List.mem_of_getElem? hj)) rfl h hm (by omega)⟩
     rw [List.length_append]
     split <;> simp <;> omega)
   have hfl:((yc p false).flatMap fun v=>if qea p v || !c then [qi (x++[v])] else []).length≤9:=by
    rw [qf7 (P:=fun v=>qea p v || !c) (g:=fun v=>qi (x++[v])),List.length_map]
    exact Nat.le_trans (List.length_filter_le _ _) qdt
   refine ⟨by rw [List.length_append]; omega,?_⟩
   unfold qja
   dsimp only
   rw [jn,List.length_map,zu hjl,cond_true,hin,qd,jo hjl (by omega)])
 have e0:((none:Option (List (Option (List GEl)))),(0:Int),false)=(qi [],0,zh ([]:List (Option (List GEl)))):=rfl
 have e1:(L.flatMap fun x=>(yc p false).flatMap fun v=>if qea p v || !c then [qi (x++[v])] else [])=(qeb c L p).map qi:=by
  unfold qeb
  rw [List.map_flatMap]
  congr 1
  funext x
  rw [qf7 (P:=fun v=>qea p v || !c) (g:=fun v=>qi (x++[v])),q1e h,List.map_map]
  rfl
 rw [List.nil_append,e1] at key
 rw [e0,key,qd]
theorem jbv {ps:Option (List ql)} {ch:Option (List Int)} {c:Bool} {qs:List ql} (hp:qe9 (ps.getD []) (ch.getD []) qs) (ho:∀ q∈qs,okP q) (hn:(ch.getD []).length≤3):∀ {k i:Nat} {L:List (List GEl)},(ch.getD []).length=i + k→L.length≤9 ^ i→(∀ x∈L,x.length=i) →
  itO (qhb ps ch) (c,qi (L.map qi),(i:Int),zh (L.map qi))=some (c,qi (((qs.drop i).foldl (qeb c) L).map qi),zh (((qs.drop i).foldl (qeb c) L).map qi),((ch.getD []).length:Int))
 | 0,i,L,hk,hL,hx=>by
  rw [List.drop_eq_nil_of_le (by rw [hp.len]; omega)]
  refine zy ?_
  unfold qhb
  dsimp only
  rw [decide_eq_false (show ¬ (i:Int) < ((ch.getD []).length:Int) by omega),cond_false]
  have:(i:Int)=((ch.getD []).length:Int):=by omega
  rw [this]; rfl
 | k + 1,i,L,hk,hL,hx=>by
  have hil:i < (ch.getD []).length:=by omega
  obtain ⟨q,g1,g2⟩:=hp.at_ i _ (List.getElem?_eq_getElem hil)
  have hpow:9 ^ i≤729:=by
   match i,(show i≤3 by omega) with
   | 0,_=>decide
   | 1,_=>decide
   | 2,_=>decide
   | 3,_=>decide
  have hs:=q7n (c:=c) (L:=L) (List.getElem?_eq_getElem hil) (by omega) g2 (ho q (List.mem_of_getElem? g1)) (by omega) (fun x hm=>by rw [hx x hm]; omega)
  rw [qab hs,zr g1,List.foldl_cons]
  refine jbv (k:=k) (i:=i + 1) hp ho hn (by omega) ?_ ?_
  ·have:=q8k (c:=c) (L:=L) (p:=q)
   rw [Nat.pow_succ]
   omega
  ·intro y hy
   obtain ⟨x,hm,hy⟩:=List.mem_flatMap.1 hy
   obtain ⟨v,_,rfl⟩:=List.mem_map.1 hy
   rw [List.length_append,hx x hm]; rfl
theorem jee {ps:Option (List ql)} {ch:Option (List Int)} {c:Bool} {qs:List ql} (hp:qe9 (ps.getD []) (ch.getD []) qs) (ho:∀ q∈qs,okP q) (hn:(ch.getD []).length≤3):f112 ps ch c=some (qi ((qa7 c qs []).map qi),zh ((qa7 c qs []).map qi)):=by
 unfold f112
 have:=jbv (c:=c) hp ho hn (k:=(ch.getD []).length) (i:=0) (L:=[[]]) (by omega) (by decide) (by simp)
 have e:(c,qi (([[]]:List (List GEl)).map qi),((0:Nat):Int),zh (([[]]:List (List GEl)).map qi))=(c,some [none],0,true):=rfl
 rw [e,List.drop_zero,q9s] at this
 rw [this,qd]
theorem q0m {c:Bool}:∀ {qs:List ql} {x:List GEl},(qa7 c qs x).length≤9 ^ qs.length
 | [],x=>by simp [qa7]
 | p::qs,x=>by
  show ((yc p c).flatMap fun v=>qa7 c qs (x++[v])).length≤_
  have hv:=qdt (p:=p) (c:=c)
  have:∀ l:List GEl,(l.flatMap fun v=>qa7 c qs (x++[v])).length≤l.length * 9 ^ qs.length:=by
   intro l
   induction l with
   | nil=>simp
   | cons v l ih=>
    have:=q0m (c:=c) (qs:=qs) (x:=x++[v])
    rw [List.flatMap_cons,List.length_append,List.length_cons,Nat.succ_mul]
    omega
  refine Nat.le_trans (this _) ?_
  rw [List.length_cons,Nat.pow_succ,Nat.mul_comm]
  exact Nat.mul_le_mul_left _ hv
end Go.Z
