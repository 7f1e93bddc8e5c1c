/- Chapter 4. -/
import Derived.Test.YtnjngdcbkkonnaaGreatDoorA8
import Derived.Test.YtnjngdcbkkonnaaGreatDoorPB
import Derived.Test.YtnjngdcbkkonnaaGreatDoorPH
set_option linter.unusedVariables false
set_option linter.unusedSimpArgs false
set_option maxRecDepth 100000
set_option maxHeartbeats 1000000
namespace Go.Z
open Go Go.Abs
def inB (n:Nat) (i:Int):Bool:=!(decide (i < 0)) && !(decide ((n:Int)≤i))
def km (ps:List qi) (ch:List Int):Int:=if 3 < ch.length then 5 else kg (!ch.all fun i=>inB ps.length i) 10
theorem jaf {i:Int} {o:Option (List qi)}:f177 i o=some (!inB (o.getD []).length i):=by
 unfold f177 inB
 by_cases h:i < 0
 ·rw [decide_eq_true h]; rfl
 ·rw [decide_eq_false h,cond_false]
  simp
theorem jay {ch:Option (List Int)} {ps:Option (List qi)} (hn:(ch.getD []).length≤9223372036854775807):f176 ch ps=some (!(ch.getD []).all fun i=>inB (ps.getD []).length i):=by
 unfold f176 f208
 obtain ⟨d,g1,g2⟩:=qfa (ch.getD []) (qib ch ps) (fun i=>inB (ps.getD []).length i) (fun d=>match d with | .inl i=>!decide (0≤i) | .inr _=>true) ⟨.inr _,by unfold qib; rw [yg]; rfl,rfl⟩ (fun i x hx hi=>by
  unfold qib
  rw [yu hi,cond_true,yk hx,qd,jaf,qd,ze hi hn]
  cases inB (ps.getD []).length x with
  | true=>exact .inl ⟨rfl,rfl⟩
  | false=>exact .inr ⟨rfl,.inl (i:Int),rfl,by simp⟩)
 rw [g1,qd]
 rw [← g2]
 rcases d with d | d
 ·simp [qe]
 ·simp [qe]
theorem q0z {ch:Option (List Int)} {ps:Option (List qi)} (hn:(ch.getD []).length≤9223372036854775807):f133 ps ch=some (js [qbm (ps.getD []),km (ps.getD []) (ch.getD [])]):=by
 unfold f133
 rw [jay hn,qd,q5w,qd,qcw,qd,qcw,qd,qda (by simp),qd]
 congr 1
 unfold km
 by_cases h:3 < (ch.getD []).length
 ·rw [if_pos h,decide_eq_true (by omega)]; rfl
 ·rw [if_neg h,decide_eq_false (by omega)]; rfl
theorem jeg {ch:Option (List Int)} {ps:Option (List qi)}:f33 ps ch=some (km (ps.getD []) (ch.getD [])):=by
 unfold f33 km
 by_cases h:3 < (ch.getD []).length
 ·rw [if_pos h,decide_eq_true (by omega)]; rfl
 ·rw [if_neg h,decide_eq_false (by omega),cond_false]
  obtain ⟨d,g1,g2⟩:=qfa (ch.getD []) (ql9 ps ch) (fun i=>inB (ps.getD []).length i) (fun d=>match d with | .inl _=>false | .inr _=>true) ⟨.inr _,by unfold ql9; rw [yg]; rfl,rfl⟩ (fun i x hx hi=>by
   unfold ql9 inB
   rw [yu hi,cond_true,yk hx,qd,ze hi (by omega)]
   cases decide (x < 0) with
   | true=>exact .inr ⟨rfl,.inl (),rfl,rfl⟩
   | false=>
    cases decide (((ps.getD []).length:Int)≤x) with
    | true=>exact .inr ⟨rfl,.inl (),rfl,rfl⟩
    | false=>exact .inl ⟨rfl,rfl⟩)
  rw [g1,qd,← g2]
  rcases d with d | d <;> rfl
theorem qyg {o:Option (List Int)} (h:(o.getD []).length≤1073741824):f30 o=some (some (o.getD [])):=by
 unfold f30 apO
 rw [if_pos (by simpa using h)]
 cases o with
 | none=>rfl
 | some l=>cases l <;> rfl
structure qbj (ps:List qi) (ch:List Int) (qs:List qi):Prop where
 len:qs.length=ch.length
 at_:∀ (k:Nat) i,ch[k]?=some i→∃ q,qs[k]?=some q∧zw ps i=some q
 mem:∀ q∈qs,q∈ps
theorem quc {ps:List qi}:∀ {ch:List Int},(ch.all fun i=>inB ps.length i)=true→∃ qs,qbj ps ch qs
 | [],_=>⟨[],rfl,by simp,by simp⟩
 | i::ch,h=>by
  simp only [List.all_cons,Bool.and_eq_true] at h
  obtain ⟨qs,hq⟩:=quc h.2
  have hi:=h.1
  unfold inB at hi
  simp only [Bool.and_eq_true,Bool.not_eq_true',decide_eq_false_iff_not] at hi
  have hlt:i.toNat < ps.length:=by omega
  have hx:ps[i.toNat]?=some ps[i.toNat]:=List.getElem?_eq_getElem hlt
  refine ⟨ps[i.toNat]::qs,by simp [hq.len],?_,?_⟩
  ·intro k j hk
   cases k with
   | zero=>
    simp only [List.getElem?_cons_zero,Option.some.injEq] at hk
    subst hk
    refine ⟨_,rfl,?_⟩
    unfold zw
    rw [if_pos (by omega),hx]
   | succ k=>
    simp only [List.getElem?_cons_succ] at hk ⊢
    exact hq.at_ k j hk
  ·intro q hm
   rcases List.mem_cons.1 hm with rfl | hm
   ·exact List.getElem_mem hlt
   ·exact hq.mem q hm
theorem qji {ps:List qi} {ch:List Int} (h:km ps ch=0):ch.length≤3∧∃ qs,qbj ps ch qs:=by
 unfold km at h
 split at h
 ·cases h
 ·next h1=>
  refine ⟨by omega,quc ?_⟩
  cases ha:ch.all fun i=>inB ps.length i with
  | true=>rfl
  | false=>rw [ha] at h; cases h
def j9 (c:Bool):List qi→List GEl→List (List GEl)
 | [],x=>[x]
 | p::l,x=>(yj p c).flatMap fun v=>j9 c l (x++[v])
section
variable {S D α β:Type}
theorem qnn {g:S→α→Option (S ⊕ D)}:∀ {a b:List α} {s:S},kl g (a++b) s=qe (kl g a s) fun r=>match r with | .inl s'=>kl g b s' | .inr d=>some (.inr d)
 | [],b,s=>rfl
 | v::a,b,s=>by
  simp only [List.cons_append,kl]
  cases g s v with
  | none=>rfl
  | some r=>
   cases r with
   | inl s'=>simp only [qd]; exact qnn
   | inr d=>rfl
theorem qr7 {g:S→α→Option (S ⊕ D)} {h:β→List α}:∀ {l:List β} {s:S},kl g (l.flatMap h) s=kl (fun s v=>kl g (h v) s) l s
 | [],s=>rfl
 | v::l,s=>by
  rw [List.flatMap_cons,qnn]
  simp only [kl]
  cases kl g (h v) s with
  | none=>rfl
  | some r=>
   cases r with
   | inl s'=>simp only [qd]; exact qr7
   | inr d=>rfl
theorem q59 {g:S→α→Option (S ⊕ D)} {x:α} {s:S}:kl g [x] s=g s x:=by
 simp only [kl]
 cases g s x with
 | none=>rfl
 | some r=>cases r <;> rfl
theorem qp0 {g g':S→α→Option (S ⊕ D)}:∀ {l:List α} {s:S},(∀ s,∀ v∈l,g s v=g' s v)→kl g l s=kl g' l s
 | [],s,_=>rfl
 | v::l,s,h=>by
  simp only [kl]
  rw [h s v (List.mem_cons_self ..)]
  cases g' s v with
  | none=>rfl
  | some r=>
   cases r with
   | inl s'=>simp only [qd]; exact qp0 fun s x hx=>h s x (List.mem_cons_of_mem _ hx)
   | inr d=>rfl
theorem q0h {x:List GEl} (h:x.length≤1073741824):∃ b,f198 (qt x)=some (qt x,b)∧(b || (qt x).isNone)=true:=by
 cases x with
 | nil=>exact ⟨false,rfl,rfl⟩
 | cons a l=>
  refine ⟨true,?_,rfl⟩
  unfold f198 apO
  rw [if_pos (by simpa [qt] using h)]
  rfl
theorem q6o {l:List β} {k:Nat} {x:β} (h:l[k]?=some x):zw l (k:Int)=some x:=by rw [qfm,h]
theorem q5k {y:S→Option (List GEl)→Option (S ⊕ D)} {ps:Option (List qi)} {ch:Option (List Int)} {c:Bool} {qs:List qi} (hp:qbj (ps.getD []) (ch.getD []) qs) (ho:∀ q∈qs,okP q) (hl:qs.length≤1000):
  ∀ (m:Nat) (x:List GEl) (s:S),x.length + m=qs.length→vis y ch ps c m (qt x) s=kl (fun s x=>y s (qt x)) (j9 c (qs.drop x.length) x) s
 | 0,x,s,hm=>by
  rw [List.drop_eq_nil_of_le (by omega)]
  show _=kl _ [x] s
  rw [q59]
  obtain ⟨b,h1,h2⟩:=q0h (x:=x) (by omega)
  unfold vis
  rw [h1,qd]
 | m + 1,x,s,hm=>by
  have hk:x.length < (ch.getD []).length:=by rw [← hp.len]; omega
  obtain ⟨q,g1,g2⟩:=hp.at_ x.length _ (List.getElem?_eq_getElem hk)
  rw [qab g1]
  show _=kl _ ((yj q c).flatMap fun v=>j9 c (qs.drop (x.length + 1)) (x++[v])) s
  rw [qr7]
  obtain ⟨b,h1,h2⟩:=q0h (x:=x) (by omega)
  have hq:okP q:=ho q (List.mem_of_getElem? g1)
  unfold vis
  rw [zi,q6o (List.getElem?_eq_getElem hk),qd,g2,qd,q6c hq,qd]
  simp only [Option.getD_some]
  rw [decide_eq_true (qfe (p:=q) (c:=c)),cond_true,h1,qd]
  simp only [h2,cond_true]
  refine qp0 fun s v _=>?_
  rw [qr1 (by omega),qd]
  have:=q5k (y:=y) (c:=c) hp ho hl m (x++[v]) s (by rw [List.length_append]; simp only [List.length_cons,List.length_nil]; omega)
  rw [this]
  congr 2
  simp
theorem q0v {y:S→Option (List GEl)→Option (S ⊕ D)} {ps:Option (List qi)} {ch:Option (List Int)} {c:Bool} {qs:List qi} {s:S} (hp:qbj (ps.getD []) (ch.getD []) qs) (ho:∀ q∈qs,okP q) (hl:qs.length≤1000):vis y ch ps c (ch.getD []).length none s=kl (fun s x=>y s (qt x)) (j9 c qs []) s:=by
 have:=q5k (y:=y) (c:=c) hp ho hl (ch.getD []).length [] s (by rw [hp.len]; simp)
 exact this
end
def qd1 (c:Bool) (out:List (List GEl)) (p:qi):List (List GEl):=out.flatMap fun x=>(yj p c).map fun v=>x++[v]
theorem quf {c:Bool}:∀ {qs:List qi} {out:List (List GEl)},qs.foldl (qd1 c) out=out.flatMap (j9 c qs)
 | [],out=>by
  show out=out.flatMap fun x=>[x]
  rw [qbk]; simp
 | p::qs,out=>by
  rw [List.foldl_cons,quf]
  unfold qd1
  rw [List.flatMap_assoc]
  congr 1
  funext x
  rw [List.flatMap_map]
  rfl
theorem q67 {c:Bool} {qs:List qi}:qs.foldl (qd1 c) [[]]=j9 c qs []:=by rw [quf]; simp
theorem qwq {p:qi} {c:Bool} (h:okP p) {v:GEl} (hv:v∈yj p c):v∈yj p false:=by
 obtain ⟨⟨a1,a2,a3,a4⟩,b1,b2,b3,b4⟩:=h
 have hs:∀ {a s:Int},0≤s→s≤1→∀ {x},x∈zn a s c→x∈zn a s false:=by
  intro a s h1 h2 x hx
  unfold zn at hx ⊢
  split at hx
  ·next h0=>rw [if_pos h0]; exact hx
  ·next h0=>
   rw [if_neg h0]
   have:s=1:=by omega
   subst this
   cases c with
   | false=>exact hx
   | true=>
    simp only [if_true,Bool.false_eq_true,if_false,List.mem_cons,List.not_mem_nil,or_false] at hx ⊢
    omega
 unfold yj at hv ⊢
 obtain ⟨a,ha,hv⟩:=List.mem_flatMap.1 hv
 obtain ⟨b,hb,hv⟩:=List.mem_map.1 hv
 exact List.mem_flatMap.2 ⟨a,hs a3 a4 ha,List.mem_map.2 ⟨b,hs b3 b4 hb,hv⟩⟩
theorem qp7 {c:Bool}:∀ {qs:List qi} {x y:List GEl},y∈j9 c qs x→y.length=x.length + qs.length∧∀ v∈y,v∈x∨∃ q∈qs,v∈yj q c
 | [],x,y,h=>by
  have:y=x:=by simpa [j9] using h
  subst this
  exact ⟨rfl,fun v hv=>.inl hv⟩
 | p::qs,x,y,h=>by
  obtain ⟨v,hv,hy⟩:=List.mem_flatMap.1 h
  obtain ⟨h1,h2⟩:=qp7 hy
  refine ⟨by rw [h1,List.length_append]; simp only [List.length_cons,List.length_nil]; omega,fun u hu=>?_⟩
  rcases h2 u hu with hu | ⟨q,hq,hu⟩
  ·rcases List.mem_append.1 hu with hu | hu
   ·exact .inl hu
   ·have:u=v:=by simpa using hu
    subst this
    exact .inr ⟨p,List.mem_cons_self ..,hv⟩
  ·exact .inr ⟨q,List.mem_cons_of_mem _ hq,hu⟩
theorem qri:∀ {l:List qi} {ks:List (List UInt8)},qgx ks l=0→∀ p∈l,qa2 p=0
 | [],_,_,_,h=>by cases h
 | q::l,ks,h,p,hp=>by
  unfold qgx at h
  split at h
  ·next h1=>
   rcases List.mem_cons.1 hp with rfl | hp
   ·exact zr.1 h1 _ (List.mem_cons_self ..)
   ·exact qri h p hp
  ·next h1=>exact absurd h h1
theorem qni {l:List qi} (h:qbm l=0):l.length≤6∧∀ p∈l,qa2 p=0:=by
 unfold qbm at h
 split at h
 ·cases h
 ·exact ⟨by omega,qri h⟩
theorem q5n {p:qi} (h:qa2 p=0) {v:GEl} (hv:v∈yj p false):kc v=0:=by
 unfold qa2 at h
 split at h
 ·next h1=>
  have h2:js ((yj p false).map kc)=0:=by
   by_cases hz:js ((yj p false).map kc)=0
   ·exact hz
   ·rw [decide_eq_false hz] at h; cases h
  exact zr.1 h2 _ (List.mem_map.2 ⟨v,hv,rfl⟩)
 ·next h1=>exact absurd h h1
theorem qsc {c:Bool} {ps qs:List qi} {ch:List Int} (hc:qbm ps=0) (hp:qbj ps ch qs) (hn:ch.length≤3):(∀ q∈qs,okP q)∧∀ x∈j9 c qs [],zy x=0:=by
 have h1:∀ q∈qs,qa2 q=0:=fun q hq=>(qni hc).2 q (hp.mem q hq)
 refine ⟨fun q hq=>qx6 (h1 q hq),fun x hx=>?_⟩
 obtain ⟨g1,g2⟩:=qp7 hx
 unfold zy
 rw [if_neg (by rw [g1,hp.len]; simp; omega)]
 refine zr.2 fun e he=>?_
 obtain ⟨v,hv,rfl⟩:=List.mem_map.1 he
 rcases g2 v hv with hv | ⟨q,hq,hv⟩
 ·cases hv
 ·exact q5n (h1 q hq) (qwq (qx6 (h1 q hq)) hv)
structure okR (v:GRat):Prop where
 a:0≤v.num
 b:v.num≤9223372036854775807
 c:1≤v.den
 d:v.den≤9223372036854775807
def ya (x y:GRat):Bool:=decide (x.num * y.den < y.num * x.den)
theorem qhp {a b:GRat} (ha:okR a) (hb:okR b):f127 a b=some (ya b a):=q7j ha.a ha.b (by have:=ha.c; omega) ha.d hb.a hb.b (by have:=hb.c; omega) hb.d
theorem qgc {a b:GRat} (ha:okR a) (hb:okR b):f58 200 a b=some (ya a b):=jab ha.a ha.b ha.c ha.d hb.a hb.b hb.c hb.d
theorem q5a {v:GRat}:ya v v=false:=decide_eq_false (by omega)
def qlo (s:jy):GRat:=⟨s.a,s.b⟩
def qhi (s:jy):GRat:=⟨s.c,s.d⟩
def mkQ (x y:GRat):jy:=⟨x.num,x.den,y.num,y.den⟩
def qz (s:Option jy):jy:=s.getD ⟨0,0,0,0⟩
def qjs (s:Option jy) (v:GRat):jy:=match s with
 | none=>mkQ v v
 | some s=>mkQ (cond (ya v (qlo s)) v (qlo s)) (cond (ya (qhi s) v) v (qhi s))
def okS:Option jy→Prop
 | none=>True
 | some s=>okR (qlo s)∧okR (qhi s)
theorem q9t {s:Option jy} {v:GRat} (hs:okS s) (hv:okR v):okS (some (qjs s v)):=by
 cases s with
 | none=>exact ⟨hv,hv⟩
 | some s=>
  obtain ⟨h1,h2⟩:=hs
  show okR (cond (ya v (qlo s)) v (qlo s))∧okR (cond (ya (qhi s) v) v (qhi s))
  constructor
  ·cases ya v (qlo s) with
   | true=>exact hv
   | false=>exact h1
  ·cases ya (qhi s) v with
   | true=>exact hv
   | false=>exact h2
theorem jch {s:Option jy} {v:GRat} (hs:okS s) (hv:okR v):upd (qz s) v=some (qjs s v):=by
 cases s with
 | none=>
  unfold upd
  rw [show isQ (qz none)=true from rfl]
  simp only [cond_true]
  rw [show (⟨v.num,v.den⟩:GRat)=v from rfl,qhp hv hv,q5a]
  rfl
 | some s=>
  obtain ⟨h1,h2⟩:=hs
  have hq:isQ (qz (some s))=false:=by
   unfold isQ
   have:=h1.c
   rw [decide_eq_false (show ¬ (qz (some s)).b=0 by show ¬ s.b=0; have:=h1.c; unfold qlo at this; dsimp only at this; omega)]
   simp
  unfold upd
  rw [hq]
  simp only [cond_false]
  rw [show (⟨(qz (some s)).a,(qz (some s)).b⟩:GRat)=qlo s from rfl,show (⟨(qz (some s)).c,(qz (some s)).d⟩:GRat)=qhi s from rfl,qhp h1 hv,qhp hv h2]
  simp only [qd]
  unfold qjs mkQ
  dsimp only
  cases ya v (qlo s) <;> cases ya (qhi s) v <;> rfl
theorem qoi {x:List GEl} {w:Int} (hl:zy x=0) (hw:jd w 1 8=0):(lev w x).2=17∨((lev w x).2=0∧okR (lev w x).1):=by
 rcases jd6 (o:=some x) hl hw with h | ⟨h1,h2,h3,h4,h5⟩
 ·exact .inl h
 ·exact .inr ⟨h1,h2,h3,h4,h5⟩
def ext (w:Int):List (List GEl)→Option jy→Option (Option jy)
 | [],s=>some s
 | x::l,s=>if (lev w x).2=0 then ext w l (some (qjs s (lev w x).1)) else none
theorem jbf {w:Int} {x:List GEl} {s:Option jy} (hs:okS s) (hl:zy x=0) (hw:jd w 1 8=0):
  ((lev w x).2=0∧okR (lev w x).1∧qmd w (qz s) (qt x)=some (.inl (qjs s (lev w x).1)))∨((lev w x).2 ≠ 0∧qmd w (qz s) (qt x)=some (.inr (17,qz s))):=by
 have e:f57 (qt x) w=some (lev w x):=by
  have:=qyr (o:=qt x) (w:=w) (by rw [zi]; exact hl) hw
  rw [zi] at this
  exact this
 unfold qmd
 rw [e,qd]
 rcases qoi hl hw with h | ⟨h1,h2⟩
 ·right
  rw [h]
  exact ⟨by decide,rfl⟩
 ·left
  refine ⟨h1,h2,?_⟩
  rw [decide_eq_true h1,cond_true,jch hs h2,qd]
theorem qyf {w:Int} (hw:jd w 1 8=0):∀ {l:List (List GEl)} {s:Option jy},okS s→(∀ x∈l,zy x=0) →
  ∃ r,kl (fun s x=>qmd w s (qt x)) l (qz s)=some r∧(match ext w l s with | some s'=>okS s'∧r=.inl (qz s') | none=>∃ q,r=.inr (17,q))
 | [],s,hs,_=>⟨_,rfl,hs,rfl⟩
 | x::l,s,hs,hl=>by
  simp only [kl,ext]
  rcases jbf hs (hl x (List.mem_cons_self ..)) hw with ⟨h1,h2,h3⟩ | ⟨h1,h2⟩
  ·rw [h3,qd,if_pos h1]
   exact qyf hw (s:=some (qjs s (lev w x).1)) (q9t hs h2) fun y hy=>hl y (List.mem_cons_of_mem _ hy)
  ·rw [h2,qd,if_neg h1]
   exact ⟨_,rfl,_,rfl⟩
def qg1 (w:Int) (l:List (List GEl)):jy × Int:=match ext w l none with
 | some s=>(qz s,0)
 | none=>(⟨0,0,0,0⟩,17)
theorem q01 {ps:Option (List qi)} {ch:Option (List Int)} {w:Int} {c:Bool} (hn:(ch.getD []).length≤9223372036854775807):
  (js [qbm (ps.getD []),km (ps.getD []) (ch.getD []),jd w 1 8]=0∧∃ qs,qbj (ps.getD []) (ch.getD []) qs∧f111 ps ch w c=some (qg1 w (j9 c qs []))) ∨
  (js [qbm (ps.getD []),km (ps.getD []) (ch.getD []),jd w 1 8] ≠ 0∧f111 ps ch w c=some (⟨0,0,0,0⟩,js [qbm (ps.getD []),km (ps.getD []) (ch.getD []),jd w 1 8])):=by
 have e:f111 ps ch w c=cond (decide (js [qbm (ps.getD []),km (ps.getD []) (ch.getD []),jd w 1 8]=0)) (qe (vis (qmd w) ch ps c (ch.getD []).length none ⟨0,0,0,0⟩) fun r=>match r with
  | .inl s=>some (s,0)
  | .inr d=>some (⟨0,0,0,0⟩,d.1)) (some (⟨0,0,0,0⟩,js [qbm (ps.getD []),km (ps.getD []) (ch.getD []),jd w 1 8])):=by
  unfold f111
  rw [q0z hn,qd,qz7,qd,qda (by simp),qd,qt1]
  rfl
 rw [e]
 by_cases h:js [qbm (ps.getD []),km (ps.getD []) (ch.getD []),jd w 1 8]=0
 ·left
  have hz:=zr.1 h
  have h1:qbm (ps.getD [])=0:=hz _ (by simp)
  have h2:km (ps.getD []) (ch.getD [])=0:=hz _ (by simp)
  have h3:jd w 1 8=0:=hz _ (by simp)
  obtain ⟨g1,qs,g2⟩:=qji h2
  obtain ⟨k1,k2⟩:=qsc (c:=c) h1 g2 g1
  refine ⟨h,qs,g2,?_⟩
  rw [decide_eq_true h,cond_true,q0v g2 k1 (by rw [g2.len]; omega)]
  obtain ⟨r,j1,j2⟩:=qyf h3 (l:=j9 c qs []) (s:=none) trivial k2
  rw [show (⟨0,0,0,0⟩:jy)=qz none from rfl,j1,qd]
  unfold qg1
  cases hx:ext w (j9 c qs []) none with
  | some s=>
   rw [hx] at j2
   obtain ⟨_,rfl⟩:=j2
   rfl
  | none=>
   rw [hx] at j2
   obtain ⟨q,rfl⟩:=j2
   rfl
 ·right
  exact ⟨h,by rw [decide_eq_false h]; rfl⟩
theorem q19 {x:List GEl} {v:GEl} (h:x.length≤1000):qe (apO (some []) ((qt x).getD [])) (fun y=>apO y [v])=some (qt (x++[v])):=by
 have e:apO (some []) ((qt x).getD [])=some (some x):=by
  unfold apO
  rw [zi,if_pos (by simp; omega)]
  cases x <;> rfl
 rw [e,qd]
 unfold apO
 rw [if_pos (by simp; omega)]
 cases x <;> rfl
theorem q6b {c:Bool} {L:List (List GEl)} {p:qi}:(qd1 c L p).length≤9 * L.length:=by
 unfold qd1
 induction L with
 | nil=>simp
 | cons x L ih=>
  have:=qfe (p:=p) (c:=c)
  rw [List.flatMap_cons,List.length_append,List.length_map,List.length_cons]
  omega
def q5 (i:Int) (s:jy):Int × Int × Int × Int × Int:=(i,s.a,s.b,s.c,s.d)
theorem qwu {c:Bool}:∀ {qs:List qi} {x:List GEl},(j9 c qs x).length≤9 ^ qs.length
 | [],x=>by simp [j9]
 | p::qs,x=>by
  show ((yj p c).flatMap fun v=>j9 c qs (x++[v])).length≤_
  have hv:=qfe (p:=p) (c:=c)
  have:∀ l:List GEl,(l.flatMap fun v=>j9 c qs (x++[v])).length≤l.length * 9 ^ qs.length:=by
   intro l
   induction l with
   | nil=>simp
   | cons v l ih=>
    have:=qwu (c:=c) (qs:=qs) (x:=x++[v])
    rw [List.flatMap_cons,List.length_append,List.length_cons,Nat.succ_mul]
    omega
  refine Nat.le_trans (this _) ?_
  rw [List.length_cons,Nat.pow_succ,Nat.mul_comm]
  exact Nat.mul_le_mul_left _ hv
end Go.Z
