/-
  Chapter 4: choices, and the visit of their ladders: a loop over a list of ladders.
-/
import Derived.Test.YtnjngdcbkkonnaaGreatDoorA8
import Derived.Test.YtnjngdcbkkonnaaGreatDoorPB
import Derived.Test.YtnjngdcbkkonnaaGreatDoorPH
set_option linter.unusedVariables false
set_option linter.unusedSimpArgs false
set_option maxRecDepth 100000
set_option maxHeartbeats 1000000
namespace Go.Z
open Go Go.Abs
def inB (n:Nat) (i:Int):Bool:=!(decide (i < 0)) && !(decide ((n:Int)≤i))
def choiceE (ps:List GPart) (ch:List Int):Int:=if 3 < ch.length then 5 else whenE (!ch.all fun i=>inB ps.length i) 10
theorem f177_eq {i:Int} {o:Option (List GPart)}:f177 i o=some (!inB (o.getD []).length i):=by
 unfold f177 inB
 by_cases h:i < 0
 ·rw [decide_eq_true h]; rfl
 ·rw [decide_eq_false h,cond_false]
  simp
theorem f176_eq {ch:Option (List Int)} {ps:Option (List GPart)} (hn:(ch.getD []).length≤9223372036854775807):f176 ch ps=some (!(ch.getD []).all fun i=>inB (ps.getD []).length i):=by
 unfold f176 f208
 obtain ⟨d,g1,g2⟩:=itO_allB (ch.getD []) (s208_0 ch ps) (fun i=>inB (ps.getD []).length i) (fun d=>match d with | .inl i=>!decide (0≤i) | .inr _=>true) ⟨.inr _,by unfold s208_0; rw [nlt_len]; rfl,rfl⟩ (fun i x hx hi=>by
  unfold s208_0
  rw [lt_len hi,cond_true,idxO_at hx,obind_at,f177_eq,obind_at,wrap_succ hi hn]
  cases inB (ps.getD []).length x with
  | true=>exact .inl ⟨rfl,rfl⟩
  | false=>exact .inr ⟨rfl,.inl (i:Int),rfl,by simp⟩)
 rw [g1,obind_at]
 rw [← g2]
 rcases d with d | d
 ·simp [obind]
 ·simp [obind]
theorem f133_eq {ch:Option (List Int)} {ps:Option (List GPart)} (hn:(ch.getD []).length≤9223372036854775807):f133 ps ch=some (firstNZ [catE (ps.getD []),choiceE (ps.getD []) (ch.getD [])]):=by
 unfold f133
 rw [f176_eq hn,obind_at,f23_eq,obind_at,f106_eq,obind_at,f106_eq,obind_at,f105_lit (by simp),obind_at]
 congr 1
 unfold choiceE
 by_cases h:3 < (ch.getD []).length
 ·rw [if_pos h,decide_eq_true (by omega)]; rfl
 ·rw [if_neg h,decide_eq_false (by omega)]; rfl
theorem f33_eq {ch:Option (List Int)} {ps:Option (List GPart)}:f33 ps ch=some (choiceE (ps.getD []) (ch.getD [])):=by
 unfold f33 choiceE
 by_cases h:3 < (ch.getD []).length
 ·rw [if_pos h,decide_eq_true (by omega)]; rfl
 ·rw [if_neg h,decide_eq_false (by omega),cond_false]
  obtain ⟨d,g1,g2⟩:=itO_allB (ch.getD []) (s33_0 ps ch) (fun i=>inB (ps.getD []).length i) (fun d=>match d with | .inl _=>false | .inr _=>true) ⟨.inr _,by unfold s33_0; rw [nlt_len]; rfl,rfl⟩ (fun i x hx hi=>by
   unfold s33_0 inB
   rw [lt_len hi,cond_true,idxO_at hx,obind_at,wrap_succ hi (by omega)]
   cases decide (x < 0) with
   | true=>exact .inr ⟨rfl,.inl (),rfl,rfl⟩
   | false=>
    cases decide (((ps.getD []).length:Int)≤x) with
    | true=>exact .inr ⟨rfl,.inl (),rfl,rfl⟩
    | false=>exact .inl ⟨rfl,rfl⟩)
  rw [g1,obind_at,← g2]
  rcases d with d | d <;> rfl
theorem f30_eq {o:Option (List Int)} (h:(o.getD []).length≤1073741824):f30 o=some (some (o.getD [])):=by
 unfold f30 apO
 rw [if_pos (by simpa using h)]
 cases o with
 | none=>rfl
 | some l=>cases l <;> rfl
structure Picked (ps:List GPart) (ch:List Int) (qs:List GPart):Prop where
 len:qs.length=ch.length
 at_:∀ (k:Nat) i,ch[k]?=some i→∃ q,qs[k]?=some q∧idxO ps i=some q
 mem:∀ q∈qs,q∈ps
theorem picked_of {ps:List GPart}:∀ {ch:List Int},(ch.all fun i=>inB ps.length i)=true→∃ qs,Picked ps ch qs
 | [],_=>⟨[],rfl,by simp,by simp⟩
 | i::ch,h=>by
  simp only [List.all_cons,Bool.and_eq_true] at h
  obtain ⟨qs,hq⟩:=picked_of h.2
  have hi:=h.1
  unfold inB at hi
  simp only [Bool.and_eq_true,Bool.not_eq_true',decide_eq_false_iff_not] at hi
  have hlt:i.toNat < ps.length:=by omega
  have hx:ps[i.toNat]?=some ps[i.toNat]:=List.getElem?_eq_getElem hlt
  refine ⟨ps[i.toNat]::qs,by simp [hq.len],?_,?_⟩
  ·intro k j hk
   cases k with
   | zero=>
    simp only [List.getElem?_cons_zero,Option.some.injEq] at hk
    subst hk
    refine ⟨_,rfl,?_⟩
    unfold idxO
    rw [if_pos (by omega),hx]
   | succ k=>
    simp only [List.getElem?_cons_succ] at hk ⊢
    exact hq.at_ k j hk
  ·intro q hm
   rcases List.mem_cons.1 hm with rfl | hm
   ·exact List.getElem_mem hlt
   ·exact hq.mem q hm
theorem choice_ok {ps:List GPart} {ch:List Int} (h:choiceE ps ch=0):ch.length≤3∧∃ qs,Picked ps ch qs:=by
 unfold choiceE at h
 split at h
 ·cases h
 ·next h1=>
  refine ⟨by omega,picked_of ?_⟩
  cases ha:ch.all fun i=>inB ps.length i with
  | true=>rfl
  | false=>rw [ha] at h; cases h
def ladV (c:Bool):List GPart→List GEl→List (List GEl)
 | [],x=>[x]
 | p::l,x=>(valsE p c).flatMap fun v=>ladV c l (x++[v])
section
variable {S D α β:Type}
theorem iterY_append {g:S→α→Option (S ⊕ D)}:∀ {a b:List α} {s:S},iterY g (a++b) s=obind (iterY g a s) fun r=>match r with | .inl s'=>iterY g b s' | .inr d=>some (.inr d)
 | [],b,s=>rfl
 | v::a,b,s=>by
  simp only [List.cons_append,iterY]
  cases g s v with
  | none=>rfl
  | some r=>
   cases r with
   | inl s'=>simp only [obind_at]; exact iterY_append
   | inr d=>rfl
theorem iterY_flat {g:S→α→Option (S ⊕ D)} {h:β→List α}:∀ {l:List β} {s:S},iterY g (l.flatMap h) s=iterY (fun s v=>iterY g (h v) s) l s
 | [],s=>rfl
 | v::l,s=>by
  rw [List.flatMap_cons,iterY_append]
  simp only [iterY]
  cases iterY g (h v) s with
  | none=>rfl
  | some r=>
   cases r with
   | inl s'=>simp only [obind_at]; exact iterY_flat
   | inr d=>rfl
theorem iterY_one {g:S→α→Option (S ⊕ D)} {x:α} {s:S}:iterY g [x] s=g s x:=by
 simp only [iterY]
 cases g s x with
 | none=>rfl
 | some r=>cases r <;> rfl
theorem iterY_congr {g g':S→α→Option (S ⊕ D)}:∀ {l:List α} {s:S},(∀ s,∀ v∈l,g s v=g' s v)→iterY g l s=iterY g' l s
 | [],s,_=>rfl
 | v::l,s,h=>by
  simp only [iterY]
  rw [h s v (List.mem_cons_self ..)]
  cases g' s v with
  | none=>rfl
  | some r=>
   cases r with
   | inl s'=>simp only [obind_at]; exact iterY_congr fun s x hx=>h s x (List.mem_cons_of_mem _ hx)
   | inr d=>rfl
theorem f198_eq {x:List GEl} (h:x.length≤1073741824):∃ b,f198 (nonNil x)=some (nonNil x,b)∧(b || (nonNil x).isNone)=true:=by
 cases x with
 | nil=>exact ⟨false,rfl,rfl⟩
 | cons a l=>
  refine ⟨true,?_,rfl⟩
  unfold f198 apO
  rw [if_pos (by simpa [nonNil] using h)]
  rfl
theorem idxO_len {l:List β} {k:Nat} {x:β} (h:l[k]?=some x):idxO l (k:Int)=some x:=by rw [idxO_nat,h]
theorem vis_eq {y:S→Option (List GEl)→Option (S ⊕ D)} {ps:Option (List GPart)} {ch:Option (List Int)} {c:Bool} {qs:List GPart} (hp:Picked (ps.getD []) (ch.getD []) qs) (ho:∀ q∈qs,okP q) (hl:qs.length≤1000):
  ∀ (m:Nat) (x:List GEl) (s:S),x.length + m=qs.length→vis y ch ps c m (nonNil x) s=iterY (fun s x=>y s (nonNil x)) (ladV c (qs.drop x.length) x) s
 | 0,x,s,hm=>by
  rw [List.drop_eq_nil_of_le (by omega)]
  show _=iterY _ [x] s
  rw [iterY_one]
  obtain ⟨b,h1,h2⟩:=f198_eq (x:=x) (by omega)
  unfold vis
  rw [h1,obind_at]
 | m + 1,x,s,hm=>by
  have hk:x.length < (ch.getD []).length:=by rw [← hp.len]; omega
  obtain ⟨q,g1,g2⟩:=hp.at_ x.length _ (List.getElem?_eq_getElem hk)
  rw [drop_cons g1]
  show _=iterY _ ((valsE q c).flatMap fun v=>ladV c (qs.drop (x.length + 1)) (x++[v])) s
  rw [iterY_flat]
  obtain ⟨b,h1,h2⟩:=f198_eq (x:=x) (by omega)
  have hq:okP q:=ho q (List.mem_of_getElem? g1)
  unfold vis
  rw [nonNil_getD,idxO_len (List.getElem?_eq_getElem hk),obind_at,g2,obind_at,f99_eq hq,obind_at]
  simp only [Option.getD_some]
  rw [decide_eq_true (vals_le (p:=q) (c:=c)),cond_true,h1,obind_at]
  simp only [h2,cond_true]
  refine iterY_congr fun s v _=>?_
  rw [apO_nonNil (by omega),obind_at]
  have:=vis_eq (y:=y) (c:=c) hp ho hl m (x++[v]) s (by rw [List.length_append]; simp only [List.length_cons,List.length_nil]; omega)
  rw [this]
  congr 2
  simp
theorem vis_all {y:S→Option (List GEl)→Option (S ⊕ D)} {ps:Option (List GPart)} {ch:Option (List Int)} {c:Bool} {qs:List GPart} {s:S} (hp:Picked (ps.getD []) (ch.getD []) qs) (ho:∀ q∈qs,okP q) (hl:qs.length≤1000):vis y ch ps c (ch.getD []).length none s=iterY (fun s x=>y s (nonNil x)) (ladV c qs []) s:=by
 have:=vis_eq (y:=y) (c:=c) hp ho hl (ch.getD []).length [] s (by rw [hp.len]; simp)
 exact this
end
def stepL (c:Bool) (out:List (List GEl)) (p:GPart):List (List GEl):=out.flatMap fun x=>(valsE p c).map fun v=>x++[v]
theorem ladV_fold {c:Bool}:∀ {qs:List GPart} {out:List (List GEl)},qs.foldl (stepL c) out=out.flatMap (ladV c qs)
 | [],out=>by
  show out=out.flatMap fun x=>[x]
  rw [flatMap_one]; simp
 | p::qs,out=>by
  rw [List.foldl_cons,ladV_fold]
  unfold stepL
  rw [List.flatMap_assoc]
  congr 1
  funext x
  rw [List.flatMap_map]
  rfl
theorem ladV_all {c:Bool} {qs:List GPart}:qs.foldl (stepL c) [[]]=ladV c qs []:=by rw [ladV_fold]; simp
theorem vals_sub {p:GPart} {c:Bool} (h:okP p) {v:GEl} (hv:v∈valsE p c):v∈valsE p false:=by
 obtain ⟨⟨a1,a2,a3,a4⟩,b1,b2,b3,b4⟩:=h
 have hs:∀ {a s:Int},0≤s→s≤1→∀ {x},x∈numsE a s c→x∈numsE a s false:=by
  intro a s h1 h2 x hx
  unfold numsE at hx ⊢
  split at hx
  ·next h0=>rw [if_pos h0]; exact hx
  ·next h0=>
   rw [if_neg h0]
   have:s=1:=by omega
   subst this
   cases c with
   | false=>exact hx
   | true=>
    simp only [if_true,Bool.false_eq_true,if_false,List.mem_cons,List.not_mem_nil,or_false] at hx ⊢
    omega
 unfold valsE at hv ⊢
 obtain ⟨a,ha,hv⟩:=List.mem_flatMap.1 hv
 obtain ⟨b,hb,hv⟩:=List.mem_map.1 hv
 exact List.mem_flatMap.2 ⟨a,hs a3 a4 ha,List.mem_map.2 ⟨b,hs b3 b4 hb,hv⟩⟩
theorem ladV_mem {c:Bool}:∀ {qs:List GPart} {x y:List GEl},y∈ladV c qs x→y.length=x.length + qs.length∧∀ v∈y,v∈x∨∃ q∈qs,v∈valsE q c
 | [],x,y,h=>by
  have:y=x:=by simpa [ladV] using h
  subst this
  exact ⟨rfl,fun v hv=>.inl hv⟩
 | p::qs,x,y,h=>by
  obtain ⟨v,hv,hy⟩:=List.mem_flatMap.1 h
  obtain ⟨h1,h2⟩:=ladV_mem hy
  refine ⟨by rw [h1,List.length_append]; simp only [List.length_cons,List.length_nil]; omega,fun u hu=>?_⟩
  rcases h2 u hu with hu | ⟨q,hq,hu⟩
  ·rcases List.mem_append.1 hu with hu | hu
   ·exact .inl hu
   ·have:u=v:=by simpa using hu
    subst this
    exact .inr ⟨p,List.mem_cons_self ..,hv⟩
  ·exact .inr ⟨q,List.mem_cons_of_mem _ hq,hu⟩
theorem catR_parts:∀ {l:List GPart} {ks:List (List UInt8)},catR ks l=0→∀ p∈l,partE p=0
 | [],_,_,_,h=>by cases h
 | q::l,ks,h,p,hp=>by
  unfold catR at h
  split at h
  ·next h1=>
   rcases List.mem_cons.1 hp with rfl | hp
   ·exact first_zero.1 h1 _ (List.mem_cons_self ..)
   ·exact catR_parts h p hp
  ·next h1=>exact absurd h h1
theorem cat_parts {l:List GPart} (h:catE l=0):l.length≤6∧∀ p∈l,partE p=0:=by
 unfold catE at h
 split at h
 ·cases h
 ·exact ⟨by omega,catR_parts h⟩
theorem part_vals {p:GPart} (h:partE p=0) {v:GEl} (hv:v∈valsE p false):elemE v=0:=by
 unfold partE at h
 split at h
 ·next h1=>
  have h2:firstNZ ((valsE p false).map elemE)=0:=by
   by_cases hz:firstNZ ((valsE p false).map elemE)=0
   ·exact hz
   ·rw [decide_eq_false hz] at h; cases h
  exact first_zero.1 h2 _ (List.mem_map.2 ⟨v,hv,rfl⟩)
 ·next h1=>exact absurd h h1
theorem lad_ok {c:Bool} {ps qs:List GPart} {ch:List Int} (hc:catE ps=0) (hp:Picked ps ch qs) (hn:ch.length≤3):(∀ q∈qs,okP q)∧∀ x∈ladV c qs [],ladderE x=0:=by
 have h1:∀ q∈qs,partE q=0:=fun q hq=>(cat_parts hc).2 q (hp.mem q hq)
 refine ⟨fun q hq=>part_okE (h1 q hq),fun x hx=>?_⟩
 obtain ⟨g1,g2⟩:=ladV_mem hx
 unfold ladderE
 rw [if_neg (by rw [g1,hp.len]; simp; omega)]
 refine first_zero.2 fun e he=>?_
 obtain ⟨v,hv,rfl⟩:=List.mem_map.1 he
 rcases g2 v hv with hv | ⟨q,hq,hv⟩
 ·cases hv
 ·exact part_vals (h1 q hq) (vals_sub (part_okE (h1 q hq)) hv)
end Go.Z
/-
 Chapter 4: the extremes of a choice,in the program: a fold over its ladders.
-/
namespace Go.Z
open Go Go.Abs
structure okR (v:GRat):Prop where
 a:0≤v.num
 b:v.num≤9223372036854775807
 c:1≤v.den
 d:v.den≤9223372036854775807
def bltR (x y:GRat):Bool:=decide (x.num * y.den < y.num * x.den)
theorem above_R {a b:GRat} (ha:okR a) (hb:okR b):f127 a b=some (bltR b a):=above_eq ha.a ha.b (by have:=ha.c; omega) ha.d hb.a hb.b (by have:=hb.c; omega) hb.d
theorem less_R {a b:GRat} (ha:okR a) (hb:okR b):f58 200 a b=some (bltR a b):=less_eq ha.a ha.b ha.c ha.d hb.a hb.b hb.c hb.d
theorem bltR_self {v:GRat}:bltR v v=false:=decide_eq_false (by omega)
def qlo (s:GQuad):GRat:=⟨s.a,s.b⟩
def qhi (s:GQuad):GRat:=⟨s.c,s.d⟩
def mkQ (x y:GRat):GQuad:=⟨x.num,x.den,y.num,y.den⟩
def qz (s:Option GQuad):GQuad:=s.getD ⟨0,0,0,0⟩
def updP (s:Option GQuad) (v:GRat):GQuad:=match s with
 | none=>mkQ v v
 | some s=>mkQ (cond (bltR v (qlo s)) v (qlo s)) (cond (bltR (qhi s) v) v (qhi s))
def okS:Option GQuad→Prop
 | none=>True
 | some s=>okR (qlo s)∧okR (qhi s)
theorem updP_ok {s:Option GQuad} {v:GRat} (hs:okS s) (hv:okR v):okS (some (updP s v)):=by
 cases s with
 | none=>exact ⟨hv,hv⟩
 | some s=>
  obtain ⟨h1,h2⟩:=hs
  show okR (cond (bltR v (qlo s)) v (qlo s))∧okR (cond (bltR (qhi s) v) v (qhi s))
  constructor
  ·cases bltR v (qlo s) with
   | true=>exact hv
   | false=>exact h1
  ·cases bltR (qhi s) v with
   | true=>exact hv
   | false=>exact h2
theorem upd_eq {s:Option GQuad} {v:GRat} (hs:okS s) (hv:okR v):upd (qz s) v=some (updP s v):=by
 cases s with
 | none=>
  unfold upd
  rw [show isQ (qz none)=true from rfl]
  simp only [cond_true]
  rw [show (⟨v.num,v.den⟩:GRat)=v from rfl,above_R hv hv,bltR_self]
  rfl
 | some s=>
  obtain ⟨h1,h2⟩:=hs
  have hq:isQ (qz (some s))=false:=by
   unfold isQ
   have:=h1.c
   rw [decide_eq_false (show ¬ (qz (some s)).b=0 by show ¬ s.b=0; have:=h1.c; unfold qlo at this; dsimp only at this; omega)]
   simp
  unfold upd
  rw [hq]
  simp only [cond_false]
  rw [show (⟨(qz (some s)).a,(qz (some s)).b⟩:GRat)=qlo s from rfl,show (⟨(qz (some s)).c,(qz (some s)).d⟩:GRat)=qhi s from rfl,above_R h1 hv,above_R hv h2]
  simp only [obind_at]
  unfold updP mkQ
  dsimp only
  cases bltR v (qlo s) <;> cases bltR (qhi s) v <;> rfl
theorem levR_ok {x:List GEl} {w:Int} (hl:ladderE x=0) (hw:checkRange w 1 8=0):(lev w x).2=17∨((lev w x).2=0∧okR (lev w x).1):=by
 rcases lev_ok (o:=some x) hl hw with h | ⟨h1,h2,h3,h4,h5⟩
 ·exact .inl h
 ·exact .inr ⟨h1,h2,h3,h4,h5⟩
def ext (w:Int):List (List GEl)→Option GQuad→Option (Option GQuad)
 | [],s=>some s
 | x::l,s=>if (lev w x).2=0 then ext w l (some (updP s (lev w x).1)) else none
theorem y111_eq {w:Int} {x:List GEl} {s:Option GQuad} (hs:okS s) (hl:ladderE x=0) (hw:checkRange w 1 8=0):
  ((lev w x).2=0∧okR (lev w x).1∧y111 w (qz s) (nonNil x)=some (.inl (updP s (lev w x).1)))∨((lev w x).2 ≠ 0∧y111 w (qz s) (nonNil x)=some (.inr (17,qz s))):=by
 have e:f57 (nonNil x) w=some (lev w x):=by
  have:=f57_eq (o:=nonNil x) (w:=w) (by rw [nonNil_getD]; exact hl) hw
  rw [nonNil_getD] at this
  exact this
 unfold y111
 rw [e,obind_at]
 rcases levR_ok hl hw with h | ⟨h1,h2⟩
 ·right
  rw [h]
  exact ⟨by decide,rfl⟩
 ·left
  refine ⟨h1,h2,?_⟩
  rw [decide_eq_true h1,cond_true,upd_eq hs h2,obind_at]
theorem iter_ext {w:Int} (hw:checkRange w 1 8=0):∀ {l:List (List GEl)} {s:Option GQuad},okS s→(∀ x∈l,ladderE x=0) →
  ∃ r,iterY (fun s x=>y111 w s (nonNil x)) l (qz s)=some r∧(match ext w l s with | some s'=>okS s'∧r=.inl (qz s') | none=>∃ q,r=.inr (17,q))
 | [],s,hs,_=>⟨_,rfl,hs,rfl⟩
 | x::l,s,hs,hl=>by
  simp only [iterY,ext]
  rcases y111_eq hs (hl x (List.mem_cons_self ..)) hw with ⟨h1,h2,h3⟩ | ⟨h1,h2⟩
  ·rw [h3,obind_at,if_pos h1]
   exact iter_ext hw (s:=some (updP s (lev w x).1)) (updP_ok hs h2) fun y hy=>hl y (List.mem_cons_of_mem _ hy)
  ·rw [h2,obind_at,if_neg h1]
   exact ⟨_,rfl,_,rfl⟩
def extR (w:Int) (l:List (List GEl)):GQuad × Int:=match ext w l none with
 | some s=>(qz s,0)
 | none=>(⟨0,0,0,0⟩,17)
theorem f111_eq {ps:Option (List GPart)} {ch:Option (List Int)} {w:Int} {c:Bool} (hn:(ch.getD []).length≤9223372036854775807):
  (firstNZ [catE (ps.getD []),choiceE (ps.getD []) (ch.getD []),checkRange w 1 8]=0∧∃ qs,Picked (ps.getD []) (ch.getD []) qs∧f111 ps ch w c=some (extR w (ladV c qs []))) ∨
  (firstNZ [catE (ps.getD []),choiceE (ps.getD []) (ch.getD []),checkRange w 1 8] ≠ 0∧f111 ps ch w c=some (⟨0,0,0,0⟩,firstNZ [catE (ps.getD []),choiceE (ps.getD []) (ch.getD []),checkRange w 1 8])):=by
 have e:f111 ps ch w c=cond (decide (firstNZ [catE (ps.getD []),choiceE (ps.getD []) (ch.getD []),checkRange w 1 8]=0)) (obind (vis (y111 w) ch ps c (ch.getD []).length none ⟨0,0,0,0⟩) fun r=>match r with
  | .inl s=>some (s,0)
  | .inr d=>some (⟨0,0,0,0⟩,d.1)) (some (⟨0,0,0,0⟩,firstNZ [catE (ps.getD []),choiceE (ps.getD []) (ch.getD []),checkRange w 1 8])):=by
  unfold f111
  rw [f133_eq hn,obind_at,f122_eq,obind_at,f105_lit (by simp),obind_at,first_two]
  rfl
 rw [e]
 by_cases h:firstNZ [catE (ps.getD []),choiceE (ps.getD []) (ch.getD []),checkRange w 1 8]=0
 ·left
  have hz:=first_zero.1 h
  have h1:catE (ps.getD [])=0:=hz _ (by simp)
  have h2:choiceE (ps.getD []) (ch.getD [])=0:=hz _ (by simp)
  have h3:checkRange w 1 8=0:=hz _ (by simp)
  obtain ⟨g1,qs,g2⟩:=choice_ok h2
  obtain ⟨k1,k2⟩:=lad_ok (c:=c) h1 g2 g1
  refine ⟨h,qs,g2,?_⟩
  rw [decide_eq_true h,cond_true,vis_all g2 k1 (by rw [g2.len]; omega)]
  obtain ⟨r,j1,j2⟩:=iter_ext h3 (l:=ladV c qs []) (s:=none) trivial k2
  rw [show (⟨0,0,0,0⟩:GQuad)=qz none from rfl,j1,obind_at]
  unfold extR
  cases hx:ext w (ladV c qs []) none with
  | some s=>
   rw [hx] at j2
   obtain ⟨_,rfl⟩:=j2
   rfl
  | none=>
   rw [hx] at j2
   obtain ⟨q,rfl⟩:=j2
   rfl
 ·right
  exact ⟨h,by rw [decide_eq_false h]; rfl⟩
end Go.Z
