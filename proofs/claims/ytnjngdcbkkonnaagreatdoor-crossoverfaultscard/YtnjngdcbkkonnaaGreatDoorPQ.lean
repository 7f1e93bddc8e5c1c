/-
  Chapter 4: choices, and the visit of their ladders: a loop over a list of ladders.
-/
import Derived.Test.YtnjngdcbkkonnaaGreatDoorA8
import Derived.Test.YtnjngdcbkkonnaaGreatDoorPB
import Derived.Test.YtnjngdcbkkonnaaGreatDoorPH
set_option linter.unusedVariables false
set_option linter.unusedSimpArgs false
set_option maxRecDepth 100000
set_option maxHeartbeats 1000000
namespace Go.Z
open Go Go.Abs
def inB (n:Nat) (i:Int):Bool:=!(decide (i < 0)) && !(decide ((n:Int)≤i))
def qco (ps:List qi) (ch:List Int):Int:=if 3 < ch.length then 5 else yv (!ch.all fun i=>inB ps.length i) 10
theorem q9m {i:Int} {o:Option (List qi)}:f177 i o=some (!inB (o.getD []).length i):=by
 unfold f177 inB
 by_cases h:i < 0
 ·rw [decide_eq_true h]; rfl
 ·rw [decide_eq_false h,cond_false]
  simp
theorem q98 {ch:Option (List Int)} {ps:Option (List qi)} (hn:(ch.getD []).length≤9223372036854775807):f176 ch ps=some (!(ch.getD []).all fun i=>inB (ps.getD []).length i):=by
 unfold f176 f208
 obtain ⟨d,g1,g2⟩:=qb6 (ch.getD []) (qhx ch ps) (fun i=>inB (ps.getD []).length i) (fun d=>match d with | .inl i=>!decide (0≤i) | .inr _=>true) ⟨.inr _,by unfold qhx; rw [zq]; rfl,rfl⟩ (fun i x hx hi=>by
  unfold qhx
  rw [zx hi,cond_true,zb hx,qe,q9m,qe,jw hi hn]
  cases inB (ps.getD []).length x with
  | true=>exact .inl ⟨rfl,rfl⟩
  | false=>exact .inr ⟨rfl,.inl (i:Int),rfl,by simp⟩)
 rw [g1,qe]
 rw [← g2]
 rcases d with d | d
 ·simp [qd]
 ·simp [qd]
theorem q83 {ch:Option (List Int)} {ps:Option (List qi)} (hn:(ch.getD []).length≤9223372036854775807):f133 ps ch=some (ju [qee (ps.getD []),qco (ps.getD []) (ch.getD [])]):=by
 unfold f133
 rw [q98 hn,qe,q3v,qe,qak,qe,qak,qe,qca (by simp),qe]
 congr 1
 unfold qco
 by_cases h:3 < (ch.getD []).length
 ·rw [if_pos h,decide_eq_true (by omega)]; rfl
 ·rw [if_neg h,decide_eq_false (by omega)]; rfl
theorem jb4 {ch:Option (List Int)} {ps:Option (List qi)}:f33 ps ch=some (qco (ps.getD []) (ch.getD [])):=by
 unfold f33 qco
 by_cases h:3 < (ch.getD []).length
 ·rw [if_pos h,decide_eq_true (by omega)]; rfl
 ·rw [if_neg h,decide_eq_false (by omega),cond_false]
  obtain ⟨d,g1,g2⟩:=qb6 (ch.getD []) (qlu ps ch) (fun i=>inB (ps.getD []).length i) (fun d=>match d with | .inl _=>false | .inr _=>true) ⟨.inr _,by unfold qlu; rw [zq]; rfl,rfl⟩ (fun i x hx hi=>by
   unfold qlu inB
   rw [zx hi,cond_true,zb hx,qe,jw hi (by omega)]
   cases decide (x < 0) with
   | true=>exact .inr ⟨rfl,.inl (),rfl,rfl⟩
   | false=>
    cases decide (((ps.getD []).length:Int)≤x) with
    | true=>exact .inr ⟨rfl,.inl (),rfl,rfl⟩
    | false=>exact .inl ⟨rfl,rfl⟩)
  rw [g1,qe,← g2]
  rcases d with d | d <;> rfl
theorem jeg {o:Option (List Int)} (h:(o.getD []).length≤1073741824):f30 o=some (some (o.getD [])):=by
 unfold f30 apO
 rw [if_pos (by simpa using h)]
 cases o with
 | none=>rfl
 | some l=>cases l <;> rfl
structure qci (ps:List qi) (ch:List Int) (qs:List qi):Prop where
 len:qs.length=ch.length
 at_:∀ (k:Nat) i,ch[k]?=some i→∃ q,qs[k]?=some q∧j7 ps i=some q
 mem:∀ q∈qs,q∈ps
theorem qtu {ps:List qi}:∀ {ch:List Int},(ch.all fun i=>inB ps.length i)=true→∃ qs,qci ps ch qs
 | [],_=>⟨[],rfl,by simp,by simp⟩
 | i::ch,h=>by
  simp only [List.all_cons,Bool.and_eq_true] at h
  obtain ⟨qs,hq⟩:=qtu h.2
  have hi:=h.1
  unfold inB at hi
  simp only [Bool.and_eq_true,Bool.not_eq_true',decide_eq_false_iff_not] at hi
  have hlt:i.toNat < ps.length:=by omega
  have hx:ps[i.toNat]?=some ps[i.toNat]:=List.getElem?_eq_getElem hlt
  refine ⟨ps[i.toNat]::qs,by simp [hq.len],?_,?_⟩
  ·intro k j hk
   cases k with
   | zero=>
    simp only [List.getElem?_cons_zero,Option.some.injEq] at hk
    subst hk
    refine ⟨_,rfl,?_⟩
    unfold j7
    rw [if_pos (by omega),hx]
   | succ k=>
    simp only [List.getElem?_cons_succ] at hk ⊢
    exact hq.at_ k j hk
  ·intro q hm
   rcases List.mem_cons.1 hm with rfl | hm
   ·exact List.getElem_mem hlt
   ·exact hq.mem q hm
theorem q3w {ps:List qi} {ch:List Int} (h:qco ps ch=0):ch.length≤3∧∃ qs,qci ps ch qs:=by
 unfold qco at h
 split at h
 ·cases h
 ·next h1=>
  refine ⟨by omega,qtu ?_⟩
  cases ha:ch.all fun i=>inB ps.length i with
  | true=>rfl
  | false=>rw [ha] at h; cases h
def qa2 (c:Bool):List qi→List GEl→List (List GEl)
 | [],x=>[x]
 | p::l,x=>(za p c).flatMap fun v=>qa2 c l (x++[v])
section
variable {S D α β:Type}
theorem qnn {g:S→α→Option (S ⊕ D)}:∀ {a b:List α} {s:S},kj g (a++b) s=qd (kj g a s) fun r=>match r with | .inl s'=>kj g b s' | .inr d=>some (.inr d)
 | [],b,s=>rfl
 | v::a,b,s=>by
  simp only [List.cons_append,kj]
  cases g s v with
  | none=>rfl
  | some r=>
   cases r with
   | inl s'=>simp only [qe]; exact qnn
   | inr d=>rfl
theorem qp8 {g:S→α→Option (S ⊕ D)} {h:β→List α}:∀ {l:List β} {s:S},kj g (l.flatMap h) s=kj (fun s v=>kj g (h v) s) l s
 | [],s=>rfl
 | v::l,s=>by
  rw [List.flatMap_cons,qnn]
  simp only [kj]
  cases kj g (h v) s with
  | none=>rfl
  | some r=>
   cases r with
   | inl s'=>simp only [qe]; exact qp8
   | inr d=>rfl
theorem q12 {g:S→α→Option (S ⊕ D)} {x:α} {s:S}:kj g [x] s=g s x:=by
 simp only [kj]
 cases g s x with
 | none=>rfl
 | some r=>cases r <;> rfl
theorem qo0 {g g':S→α→Option (S ⊕ D)}:∀ {l:List α} {s:S},(∀ s,∀ v∈l,g s v=g' s v)→kj g l s=kj g' l s
 | [],s,_=>rfl
 | v::l,s,h=>by
  simp only [kj]
  rw [h s v (List.mem_cons_self ..)]
  cases g' s v with
  | none=>rfl
  | some r=>
   cases r with
   | inl s'=>simp only [qe]; exact qo0 fun s x hx=>h s x (List.mem_cons_of_mem _ hx)
   | inr d=>rfl
theorem qzg {x:List GEl} (h:x.length≤1073741824):∃ b,f198 (qv x)=some (qv x,b)∧(b || (qv x).isNone)=true:=by
 cases x with
 | nil=>exact ⟨false,rfl,rfl⟩
 | cons a l=>
  refine ⟨true,?_,rfl⟩
  unfold f198 apO
  rw [if_pos (by simpa [qv] using h)]
  rfl
theorem q5p {l:List β} {k:Nat} {x:β} (h:l[k]?=some x):j7 l (k:Int)=some x:=by rw [qhy,h]
theorem q2g {y:S→Option (List GEl)→Option (S ⊕ D)} {ps:Option (List qi)} {ch:Option (List Int)} {c:Bool} {qs:List qi} (hp:qci (ps.getD []) (ch.getD []) qs) (ho:∀ q∈qs,okP q) (hl:qs.length≤1000):
  ∀ (m:Nat) (x:List GEl) (s:S),x.length + m=qs.length→vis y ch ps c m (qv x) s=kj (fun s x=>y s (qv x)) (qa2 c (qs.drop x.length) x) s
 | 0,x,s,hm=>by
  rw [List.drop_eq_nil_of_le (by omega)]
  show _=kj _ [x] s
  rw [q12]
  obtain ⟨b,h1,h2⟩:=qzg (x:=x) (by omega)
  unfold vis
  rw [h1,qe]
 | m + 1,x,s,hm=>by
  have hk:x.length < (ch.getD []).length:=by rw [← hp.len]; omega
  obtain ⟨q,g1,g2⟩:=hp.at_ x.length _ (List.getElem?_eq_getElem hk)
  rw [z6 g1]
  show _=kj _ ((za q c).flatMap fun v=>qa2 c (qs.drop (x.length + 1)) (x++[v])) s
  rw [qp8]
  obtain ⟨b,h1,h2⟩:=qzg (x:=x) (by omega)
  have hq:okP q:=ho q (List.mem_of_getElem? g1)
  unfold vis
  rw [yb,q5p (List.getElem?_eq_getElem hk),qe,g2,qe,qxd hq,qe]
  simp only [Option.getD_some]
  rw [decide_eq_true (qb0 (p:=q) (c:=c)),cond_true,h1,qe]
  simp only [h2,cond_true]
  refine qo0 fun s v _=>?_
  rw [qqw (by omega),qe]
  have:=q2g (y:=y) (c:=c) hp ho hl m (x++[v]) s (by rw [List.length_append]; simp only [List.length_cons,List.length_nil]; omega)
  rw [this]
  congr 2
  simp
theorem q77 {y:S→Option (List GEl)→Option (S ⊕ D)} {ps:Option (List qi)} {ch:Option (List Int)} {c:Bool} {qs:List qi} {s:S} (hp:qci (ps.getD []) (ch.getD []) qs) (ho:∀ q∈qs,okP q) (hl:qs.length≤1000):vis y ch ps c (ch.getD []).length none s=kj (fun s x=>y s (qv x)) (qa2 c qs []) s:=by
 have:=q2g (y:=y) (c:=c) hp ho hl (ch.getD []).length [] s (by rw [hp.len]; simp)
 exact this
end
def qdq (c:Bool) (out:List (List GEl)) (p:qi):List (List GEl):=out.flatMap fun x=>(za p c).map fun v=>x++[v]
theorem qth {c:Bool}:∀ {qs:List qi} {out:List (List GEl)},qs.foldl (qdq c) out=out.flatMap (qa2 c qs)
 | [],out=>by
  show out=out.flatMap fun x=>[x]
  rw [qcj]; simp
 | p::qs,out=>by
  rw [List.foldl_cons,qth]
  unfold qdq
  rw [List.flatMap_assoc]
  congr 1
  funext x
  rw [List.flatMap_map]
  rfl
theorem q52 {c:Bool} {qs:List qi}:qs.foldl (qdq c) [[]]=qa2 c qs []:=by rw [qth]; simp
theorem q4t {p:qi} {c:Bool} (h:okP p) {v:GEl} (hv:v∈za p c):v∈za p false:=by
 obtain ⟨⟨a1,a2,a3,a4⟩,b1,b2,b3,b4⟩:=h
 have hs:∀ {a s:Int},0≤s→s≤1→∀ {x},x∈yh a s c→x∈yh a s false:=by
  intro a s h1 h2 x hx
  unfold yh at hx ⊢
  split at hx
  ·next h0=>rw [if_pos h0]; exact hx
  ·next h0=>
   rw [if_neg h0]
   have:s=1:=by omega
   subst this
   cases c with
   | false=>exact hx
   | true=>
    simp only [if_true,Bool.false_eq_true,if_false,List.mem_cons,List.not_mem_nil,or_false] at hx ⊢
    omega
 unfold za at hv ⊢
 obtain ⟨a,ha,hv⟩:=List.mem_flatMap.1 hv
 obtain ⟨b,hb,hv⟩:=List.mem_map.1 hv
 exact List.mem_flatMap.2 ⟨a,hs a3 a4 ha,List.mem_map.2 ⟨b,hs b3 b4 hb,hv⟩⟩
theorem qvj {c:Bool}:∀ {qs:List qi} {x y:List GEl},y∈qa2 c qs x→y.length=x.length + qs.length∧∀ v∈y,v∈x∨∃ q∈qs,v∈za q c
 | [],x,y,h=>by
  have:y=x:=by simpa [qa2] using h
  subst this
  exact ⟨rfl,fun v hv=>.inl hv⟩
 | p::qs,x,y,h=>by
  obtain ⟨v,hv,hy⟩:=List.mem_flatMap.1 h
  obtain ⟨h1,h2⟩:=qvj hy
  refine ⟨by rw [h1,List.length_append]; simp only [List.length_cons,List.length_nil]; omega,fun u hu=>?_⟩
  rcases h2 u hu with hu | ⟨q,hq,hu⟩
  ·rcases List.mem_append.1 hu with hu | hu
   ·exact .inl hu
   ·have:u=v:=by simpa using hu
    subst this
    exact .inr ⟨p,List.mem_cons_self ..,hv⟩
  ·exact .inr ⟨q,List.mem_cons_of_mem _ hq,hu⟩
theorem qqb:∀ {l:List qi} {ks:List (List UInt8)},qmp ks l=0→∀ p∈l,qbd p=0
 | [],_,_,_,h=>by cases h
 | q::l,ks,h,p,hp=>by
  unfold qmp at h
  split at h
  ·next h1=>
   rcases List.mem_cons.1 hp with rfl | hp
   ·exact kq.1 h1 _ (List.mem_cons_self ..)
   ·exact qqb h p hp
  ·next h1=>exact absurd h h1
theorem qmv {l:List qi} (h:qee l=0):l.length≤6∧∀ p∈l,qbd p=0:=by
 unfold qee at h
 split at h
 ·cases h
 ·exact ⟨by omega,qqb h⟩
theorem qs8 {p:qi} (h:qbd p=0) {v:GEl} (hv:v∈za p false):yx v=0:=by
 unfold qbd at h
 split at h
 ·next h1=>
  have h2:ju ((za p false).map yx)=0:=by
   by_cases hz:ju ((za p false).map yx)=0
   ·exact hz
   ·rw [decide_eq_false hz] at h; cases h
  exact kq.1 h2 _ (List.mem_map.2 ⟨v,hv,rfl⟩)
 ·next h1=>exact absurd h h1
theorem ja4 {c:Bool} {ps qs:List qi} {ch:List Int} (hc:qee ps=0) (hp:qci ps ch qs) (hn:ch.length≤3):(∀ q∈qs,okP q)∧∀ x∈qa2 c qs [],yp x=0:=by
 have h1:∀ q∈qs,qbd q=0:=fun q hq=>(qmv hc).2 q (hp.mem q hq)
 refine ⟨fun q hq=>qln (h1 q hq),fun x hx=>?_⟩
 obtain ⟨g1,g2⟩:=qvj hx
 unfold yp
 rw [if_neg (by rw [g1,hp.len]; simp; omega)]
 refine kq.2 fun e he=>?_
 obtain ⟨v,hv,rfl⟩:=List.mem_map.1 he
 rcases g2 v hv with hv | ⟨q,hq,hv⟩
 ·cases hv
 ·exact qs8 (h1 q hq) (q4t (qln (h1 q hq)) hv)
end Go.Z
/-
 Chapter 4: the extremes of a choice,in the program: a fold over its ladders.
-/
namespace Go.Z
open Go Go.Abs
structure okR (v:qz):Prop where
 a:0≤v.num
 b:v.num≤9223372036854775807
 c:1≤v.den
 d:v.den≤9223372036854775807
def qct (x y:qz):Bool:=decide (x.num * y.den < y.num * x.den)
theorem qsg {a b:qz} (ha:okR a) (hb:okR b):f127 a b=some (qct b a):=q5n ha.a ha.b (by have:=ha.c; omega) ha.d hb.a hb.b (by have:=hb.c; omega) hb.d
theorem q2j {a b:qz} (ha:okR a) (hb:okR b):f58 200 a b=some (qct a b):=q97 ha.a ha.b ha.c ha.d hb.a hb.b hb.c hb.d
def qlo (s:qc8):qz:=⟨s.a,s.b⟩
def qhi (s:qc8):qz:=⟨s.c,s.d⟩
def mkQ (x y:qz):qc8:=⟨x.num,x.den,y.num,y.den⟩
def jpr (s:Option qc8) (v:qz):qc8:=match s with
 | none=>mkQ v v
 | some s=>mkQ (cond (qct v (qlo s)) v (qlo s)) (cond (qct (qhi s) v) v (qhi s))
theorem qyr {x:List GEl} {w:Int} (hl:yp x=0) (hw:jq w 1 8=0):(lev w x).2=17∨((lev w x).2=0∧okR (lev w x).1):=by
 rcases jbd (o:=some x) hl hw with h | ⟨h1,h2,h3,h4,h5⟩
 ·exact .inl h
 ·exact .inr ⟨h1,h2,h3,h4,h5⟩
def ext (w:Int):List (List GEl)→Option qc8→Option (Option qc8)
 | [],s=>some s
 | x::l,s=>if (lev w x).2=0 then ext w l (some (jpr s (lev w x).1)) else none
end Go.Z
