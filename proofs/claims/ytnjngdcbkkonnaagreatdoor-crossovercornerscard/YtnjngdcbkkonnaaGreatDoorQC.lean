/- Chapter 4. -/
import Derived.Test.YtnjngdcbkkonnaaGreatDoorA13
import Derived.Test.YtnjngdcbkkonnaaGreatDoorPQ
import Derived.Test.YtnjngdcbkkonnaaGreatDoorA31
set_option linter.unusedVariables false
set_option linter.unusedSimpArgs false
set_option maxRecDepth 100000
set_option maxHeartbeats 1000000
namespace Go.Z
open Go Go.Abs
def qbp (v:GRat):Int:=if js [jd v.num 0 1000,jd v.den 1 1000]=0 then kg (!(decide (v.num=(low v.num v.den).num) && decide (v.den=(low v.num v.den).den))) 1 else js [jd v.num 0 1000,jd v.den 1 1000]
theorem qp8 {a b:Int} (h:js [a,b]=0):a=0∧b=0:=by
 have:=zr.1 h
 exact ⟨this a (by simp),this b (by simp)⟩
theorem q0s {v:GRat}:f143 v=some (qbp v):=by
 unfold f143 qbp
 rw [qo4,qd,qo4,qd,qda (by simp),qd]
 by_cases h:js [jd v.num 0 1000,jd v.den 1 1000]=0
 ·obtain ⟨h1,h2⟩:=qp8 h
  have k1:=qb4 h1
  have k2:=qb4 h2
  rw [decide_eq_true h,cond_true,if_pos h,q61 (by omega) (by omega) (by omega) (by omega),qd,qcw]; rfl
 ·rw [decide_eq_false h,cond_false,if_neg h]
theorem q0d {v:GRat}:f118 v=some (qbp v):=by
 unfold f118 qbp
 rw [qnu,qd,qnu,qd,qir (by simp),qd]
 by_cases h:js [jd v.num 0 1000,jd v.den 1 1000]=0
 ·obtain ⟨h1,h2⟩:=qp8 h
  have k1:=qb4 h1
  have k2:=qb4 h2
  rw [decide_eq_true h,cond_true,if_pos h,jbw (by omega) (by omega) (by omega) (by omega),qd,q0y]; rfl
 ·rw [decide_eq_false h,cond_false,if_neg h]
theorem qmo {v:GRat} (h:qbp v=0):(0≤v.num∧v.num≤1000)∧1≤v.den∧v.den≤1000:=by
 unfold qbp at h
 split at h
 ·next h1=>
  obtain ⟨h2,h3⟩:=qp8 h1
  exact ⟨qb4 h2,qb4 h3⟩
 ·next h1=>exact absurd h h1
theorem qee {v:GRat} (h:qbp v=0):okR v:=by
 obtain ⟨⟨h1,h2⟩,h3,h4⟩:=qmo h
 exact ⟨h1,by omega,h3,by omega⟩
def bLe (b:jm):GRat:=⟨b.ln,b.ld⟩
def bMo (b:jm):GRat:=⟨b.mn,b.md⟩
def qcf (b:jm):Int:=js [jd b.w 1 8,qbp (bLe b),qbp (bMo b)]
def qju (last:Int):List jm→Int
 | []=>0
 | b::l=>if qcf b=0 then (if ya (bMo b) (bLe b) || decide (b.w≤last) then 11 else qju b.w l) else qcf b
def qfo (l:List jm):Int:=if l.length=0 then 12 else if 8 < l.length then 5 else qju 0 l
theorem qma {b:jm} (h:qcf b=0):jd b.w 1 8=0∧qbp (bLe b)=0∧qbp (bMo b)=0:=by
 have:=zr.1 h
 exact ⟨this _ (by simp),this _ (by simp),this _ (by simp)⟩
theorem jew {o:Option (List jm)} (hn:(o.getD []).length≤8):∀ (k i:Nat) (last:Int),i + k=(o.getD []).length→∃ d,itO (qi1 o) (last,(i:Int))=some d∧(match d with | .inl e=>e.1 | .inr _=>0)=qju last ((o.getD []).drop i)
 | 0,i,last,hi=>by
  refine ⟨.inr (last,(i:Int)),qal ?_,?_⟩
  ·unfold qi1
   dsimp only
   rw [decide_eq_false (show ¬ (i:Int) < ((o.getD []).length:Int) by omega)]; rfl
  ·rw [List.drop_eq_nil_of_le (by omega)]; rfl
 | k + 1,i,last,hi=>by
  have hlt:i < (o.getD []).length:=by omega
  have hx:(o.getD [])[i]?=some (o.getD [])[i]:=List.getElem?_eq_getElem hlt
  generalize (o.getD [])[i]=b at hx
  rw [qab hx]
  have e:qi1 o (last,(i:Int))=cond (decide (qcf b=0)) (qe (f127 ⟨b.ln,b.ld⟩ ⟨b.mn,b.md⟩) fun v52=>cond v52 (some (.inr (.inl (11,b.w,b.ln,b.ld,b.mn,b.md)))) (cond (decide (b.w≤last)) (some (.inr (.inl (11,b.w,b.ln,b.ld,b.mn,b.md)))) (some (.inl (b.w,((i + 1:Nat):Int)))))) (some (.inr (.inl (qcf b,b.w,b.ln,b.ld,b.mn,b.md)))):=by
   unfold qi1
   dsimp only
   rw [yu hlt,cond_true,yk hx,qd,qz7,qd,q0s,qd,q0s,qd,qda (by simp),qd,ze hlt (by omega)]
   rfl
  unfold qju
  by_cases h:qcf b=0
  ·obtain ⟨h1,h2,h3⟩:=qma h
   rw [decide_eq_true h,cond_true,qhp (a:=⟨b.ln,b.ld⟩) (b:=⟨b.mn,b.md⟩) (qee h2) (qee h3),qd] at e
   rw [if_pos h]
   change _=cond (ya (bMo b) (bLe b)) _ _ at e
   cases hb:ya (bMo b) (bLe b) with
   | true=>
    rw [hb,cond_true] at e
    exact ⟨_,qal e,rfl⟩
   | false=>
    rw [hb,cond_false] at e
    by_cases hw:b.w≤last
    ·rw [decide_eq_true hw,cond_true] at e
     refine ⟨_,qal e,?_⟩
     rw [decide_eq_true hw]; rfl
    ·rw [decide_eq_false hw,cond_false] at e
     obtain ⟨d,g1,g2⟩:=jew hn k (i + 1) b.w (by omega)
     refine ⟨d,by rw [qcp e]; exact g1,?_⟩
     rw [decide_eq_false hw,Bool.or_false]
     simp only [Bool.false_eq_true,if_false]
     exact g2
  ·rw [decide_eq_false h,cond_false] at e
   rw [if_neg h]
   exact ⟨_,qal e,rfl⟩
theorem jev {o:Option (List jm)}:f81 o=some (qfo (o.getD [])):=by
 unfold f81 qfo
 rw [qcw,qd,qcw,qd,qda (by simp),qd]
 by_cases h0:(o.getD []).length=0
 ·rw [decide_eq_true (show ((o.getD []).length:Int)=0 by omega),if_pos h0]; rfl
 ·rw [decide_eq_false (show ¬ ((o.getD []).length:Int)=0 by omega),if_neg h0]
  by_cases h8:8 < (o.getD []).length
  ·rw [decide_eq_true (show (8:Int) < ((o.getD []).length:Int) by omega),if_pos h8]; rfl
  ·rw [decide_eq_false (show ¬ (8:Int) < ((o.getD []).length:Int) by omega),if_neg h8]
   obtain ⟨d,g1,g2⟩:=jew (o:=o) (by omega) (o.getD []).length 0 0 (by omega)
   rw [show (decide (js [kg false 12,kg false 5]=0))=true from rfl,cond_true]
   rw [show ((0:Int),(0:Int))=(0,((0:Nat):Int)) from rfl,g1,qd]
   rw [List.drop_zero] at g2
   rw [← g2]
   rcases d with d | d <;> rfl
theorem q6l {a b:GRat} (ha:qbp a=0) (hb:qbp b=0):∃ v,f119 a b=some v∧decide (0 < v)=ya b a:=by
 obtain ⟨⟨a1,a2⟩,a3,a4⟩:=qmo ha
 obtain ⟨⟨b1,b2⟩,b3,b4⟩:=qmo hb
 have k1:=qqe (B:=1000) (x:=a.num) (y:=b.den) (c:=1000) (by omega) (by omega) (by omega) (by omega) (by decide)
 have k2:=qqe (B:=1000) (x:=b.num) (y:=a.den) (c:=1000) (by omega) (by omega) (by omega) (by omega) (by decide)
 unfold f119 ya
 rw [za (x:=a.num * b.den) (by omega) (by omega),za (x:=b.num * a.den) (by omega) (by omega)]
 by_cases h:a.num * b.den < b.num * a.den
 ·rw [decide_eq_true h,cond_true]
  exact ⟨_,rfl,by rw [decide_eq_false (show ¬ b.num * a.den < a.num * b.den by omega)]; rfl⟩
 ·rw [decide_eq_false h,cond_false]
  by_cases h':b.num * a.den < a.num * b.den
  ·rw [decide_eq_true h',cond_true]
   exact ⟨_,rfl,rfl⟩
  ·rw [decide_eq_false h',cond_false]
   exact ⟨_,rfl,rfl⟩
theorem jdx {w:Int}:f34 w=some (jd w 1 8):=by unfold f34; rw [qnu]; rfl
def qvq (l:List jm):Nat→Int
 | 0=>0
 | i + 1=>match l[i]? with | some b=>b.w | none=>0
theorem jc7 {o:Option (List jm)}:f39 o=some (qfo (o.getD [])):=by
 unfold f39 qfo
 by_cases h0:(o.getD []).length=0
 ·rw [decide_eq_true (show ((o.getD []).length:Int)=0 by omega),if_pos h0]; rfl
 ·rw [decide_eq_false (show ¬ ((o.getD []).length:Int)=0 by omega),if_neg h0,cond_false]
  by_cases h8:8 < (o.getD []).length
  ·rw [decide_eq_true (show (8:Int) < ((o.getD []).length:Int) by omega),if_pos h8]; rfl
  ·rw [decide_eq_false (show ¬ (8:Int) < ((o.getD []).length:Int) by omega),if_neg h8,cond_false]
   obtain ⟨d,g1,g2⟩:=qgb (o.getD []).length (fun i=>(i:Int)) (qix o) (fun d=>match d with | .inl e=>e | .inr _=>0) (fun i=>qju (qvq (o.getD []) i) ((o.getD []).drop i)) ⟨.inr _,by unfold qix; rw [yg]; rfl,by rw [List.drop_eq_nil_of_le (Nat.le_refl _)]; rfl⟩ (fun i hlt=>by
    have hx:(o.getD [])[i]?=some (o.getD [])[i]:=List.getElem?_eq_getElem hlt
    generalize (o.getD [])[i]=b at hx
    rw [qab hx]
    have hl1:qvq (o.getD []) (i + 1)=b.w:=by
     show (match (o.getD [])[i]? with | some b=>b.w | none=>0)=b.w
     rw [hx]
    unfold qix
    rw [yu hlt,cond_true,yk hx,qd,jdx,qd,q0d,qd,q0d,qd,qir (by simp),qd,show js [jd b.w 1 8,qbp ⟨b.ln,b.ld⟩,qbp ⟨b.mn,b.md⟩]=qcf b from rfl]
    simp only [qju]
    by_cases h:qcf b=0
    ·obtain ⟨h1,h2,h3⟩:=qma h
     obtain ⟨v,hv,hv'⟩:=q6l (a:=⟨b.ln,b.ld⟩) (b:=⟨b.mn,b.md⟩) h2 h3
     rw [decide_eq_true h,cond_true,hv,qd,hv',if_pos h,hl1]
     rw [show ya ⟨b.mn,b.md⟩ ⟨b.ln,b.ld⟩=ya (bMo b) (bLe b) from rfl]
     cases hb:ya (bMo b) (bLe b) with
     | true=>exact .inr ⟨.inl 11,rfl,rfl⟩
     | false=>
      rw [cond_false,Bool.false_or,ze hlt (by omega)]
      have hw1:=(qb4 h1).1
      cases i with
      | zero=>
       rw [show qvq (o.getD []) 0=0 from rfl,decide_eq_false (show ¬ b.w≤0 by omega)]
       left
       rw [decide_eq_false (show ¬ (0:Int) < ((0:Nat):Int) by decide)]
       exact ⟨rfl,by simp⟩
      | succ j=>
       have hj:j < (o.getD []).length:=by omega
       have hy:(o.getD [])[j]?=some (o.getD [])[j]:=List.getElem?_eq_getElem hj
       generalize (o.getD [])[j]=c at hy
       have hl2:qvq (o.getD []) (j + 1)=c.w:=by
        show (match (o.getD [])[j]? with | some b=>b.w | none=>0)=c.w
        rw [hy]
       rw [hl2,decide_eq_true (show (0:Int) < ((j + 1:Nat):Int) by omega),cond_true,za (x:=((j + 1:Nat):Int) - 1) (by omega) (by omega),show ((j + 1:Nat):Int) - 1=(j:Int) by omega,yk hy,qd]
       by_cases hw:b.w≤c.w
       ·rw [decide_eq_true hw]
        exact .inr ⟨.inl 11,rfl,rfl⟩
       ·rw [decide_eq_false hw]
        exact .inl ⟨rfl,by simp⟩
    ·rw [decide_eq_false h,cond_false,if_neg h]
     exact .inr ⟨.inl _,rfl,rfl⟩)
   rw [List.drop_zero] at g2
   have g1':itO (qix o) 0=some d:=g1
   have g2':_=qju 0 (o.getD []):=g2
   rw [g1',qd,← g2']
   rcases d with d | d <;> rfl
theorem qrm:∀ {l:List jm} {last:Int},qju last l=0→∀ b∈l,qcf b=0
 | [],_,_,_,h=>by cases h
 | c::l,last,h,b,hb=>by
  unfold qju at h
  split at h
  ·next h1=>
   split at h
   ·cases h
   ·rcases List.mem_cons.1 hb with rfl | hb
    ·exact h1
    ·exact qrm h b hb
  ·next h1=>exact absurd h h1
theorem quj {l:List jm} (h:qfo l=0):(1≤l.length∧l.length≤8)∧∀ b∈l,qcf b=0:=by
 unfold qfo at h
 split at h
 ·cases h
 ·split at h
  ·cases h
  ·exact ⟨by omega,qrm h⟩
theorem jdt {o:Option (List jm)} (hn:(o.getD []).length≤1073741824):f38 o=some (qt (o.getD []),yw (o.getD [])):=by
 unfold f38
 have:=qku (o.getD []) (ql6 o) id (by omega) (fun a=>by unfold ql6; dsimp only; rw [yg]; rfl) (fun i x a hx hi hl=>by
  unfold ql6
  dsimp only
  rw [yu hi,cond_true,yk hx,qd,ze hi (by omega)]
  exact qch hl)
 rw [this,qd]
 simp
def qd0 (b:jm) (x:List GEl):Bool:=decide ((lev b.w x).2=0) && !ya (lev b.w x).1 (bLe b) && !ya (bMo b) (lev b.w x).1
theorem jat {b:jm} {o:Option (List GEl)} (hb:qcf b=0) (hl:zy (o.getD [])=0):f164 b o=some (qd0 b (o.getD [])):=by
 obtain ⟨h1,h2,h3⟩:=qma hb
 unfold f164 qd0
 rw [qyr hl h1,qd]
 rcases qoi hl h1 with k | ⟨k1,k2⟩
 ·rw [k]; rfl
 ·rw [decide_eq_true k1,cond_true,qhp (a:=⟨b.ln,b.ld⟩) (qee h2) k2,qd,qhp (b:=⟨b.mn,b.md⟩) k2 (qee h3)]
  change cond (ya (lev b.w (o.getD [])).1 (bLe b)) _ _=_
  cases ya (lev b.w (o.getD [])).1 (bLe b) <;> rfl
def qe8 (ls:List (List GEl)):Nat→List jm→Option (Nat × List GEl)
 | _,[]=>none
 | i,b::l=>match ls.find? (fun x=>!qd0 b x) with
  | some x=>some (i,x)
  | none=>qe8 ls (i + 1) l
def qj4:Option (Nat × List GEl)→qin × Bool
 | none=>(⟨0,none⟩,false)
 | some p=>(⟨p.1,qt p.2⟩,true)
theorem qui {b:jm} (hb:qcf b=0):∀ {l:List (List GEl)},(∀ x∈l,zy x=0)→kl (fun s x=>qqc b s (qt x)) l ()=some (match l.find? (fun x=>!qd0 b x) with | some x=>.inr (qt x) | none=>.inl ())
 | [],_=>rfl
 | x::l,h=>by
  have e:qqc b () (qt x)=cond (qd0 b x) (some (.inl ())) (some (.inr (qt x))):=by
   have:=jat (b:=b) (o:=qt x) hb (by rw [zi]; exact h x (List.mem_cons_self ..))
   rw [zi] at this
   unfold qqc
   rw [this,qd]
  simp only [kl]
  rw [e,List.find?_cons]
  cases qd0 b x with
  | true=>
   simp only [cond_true,qd,Bool.not_true]
   exact qui hb fun y hy=>h y (List.mem_cons_of_mem _ hy)
  | false=>rfl
theorem q74 {c:Bool} {qs:List qi} (h:qs.length≤3):(j9 c qs []).length≤729:=by
 have h1:=qwu (c:=c) (qs:=qs) (x:=[])
 have h2:9 ^ qs.length≤9 ^ 3:=Nat.pow_le_pow_right (by decide) h
 omega
section
variable {ps:Option (List qi)} {ch:Option (List Int)} {bs:Option (List jm)} {qs:List qi}
theorem jai (hp:qbj (ps.getD []) (ch.getD []) qs) (ho:∀ q∈qs,okP q) (hl:qs.length≤1000) (hb:∀ b∈bs.getD [],qcf b=0) (hn:(bs.getD []).length≤8) (hv:∀ x∈j9 false qs [],zy x=0):
  f117 ps ch bs=some (qj4 (qe8 (j9 false qs []) 0 (bs.getD []))):=by
 obtain ⟨d,g1,g2⟩:=qgb (bs.getD []).length (fun i=>(i:Int)) (qf7 ps ch bs) (fun d=>match d with | .inl _=>((⟨0,none⟩,false):qin × Bool) | .inr d=>(⟨d.1,d.2.2⟩,true)) (fun i=>qj4 (qe8 (j9 false qs []) i ((bs.getD []).drop i))) ⟨.inl _,by unfold qf7; rw [yg]; rfl,by rw [List.drop_eq_nil_of_le (Nat.le_refl _)]; rfl⟩ (fun i hlt=>by
  have hx:(bs.getD [])[i]?=some (bs.getD [])[i]:=List.getElem?_eq_getElem hlt
  have hbm:=hb _ (List.getElem_mem hlt)
  generalize (bs.getD [])[i]=b at hx hbm
  rw [qab hx]
  unfold qf7
  rw [yu hlt,cond_true,yk hx,qd,q0v hp ho hl,qui hbm hv,qd]
  simp only [qe8]
  cases hf:(j9 false qs []).find? (fun x=>!qd0 b x) with
  | none=>
   left
   exact ⟨by dsimp only; rw [ze hlt (by omega)],rfl⟩
  | some x=>exact .inr ⟨.inr ((i:Int),b,qt x),rfl,rfl⟩)
 unfold f117
 have g1':itO (qf7 ps ch bs) 0=some d:=g1
 have g2':_=qj4 (qe8 (j9 false qs []) 0 (bs.getD [])):=g2
 rw [g1',qd,← g2']
 rcases d with d | d <;> rfl
end
theorem qyv {l:List qi} (h:qkr l=true):l.length≤7:=by
 unfold qkr at h
 simp only [Bool.and_eq_true,Bool.or_eq_true,decide_eq_true_eq] at h
 omega
theorem q5i {a b c:Int}:f32 (some [a,b,c])=some (js [a,b,c]):=by unfold f32; rw [qir (by simp)]; rfl
theorem jfs {c:yl}:∃ b,f28 c=some b∧(b=true→qkr (c.parts.getD [])=true∧(c.choice.getD []).length≤5∧(c.bands.getD []).length≤9):=by
 unfold f28 f36
 rw [jey,qd]
 cases hs:qkr (c.parts.getD []) with
 | false=>exact ⟨false,rfl,fun h=>by cases h⟩
 | true=>
  rw [cond_true,show (decide ((0:Int)≤2))=true from rfl]
  by_cases h4:((c.bands.getD []).length:Int)≤4
  ·rw [decide_eq_true h4]
   exact ⟨_,rfl,fun h=>⟨rfl,by have:=of_decide_eq_true h; omega,by omega⟩⟩
  ·rw [decide_eq_false h4]
   by_cases h9:((c.bands.getD []).length:Int)=9
   ·rw [decide_eq_true h9]
    exact ⟨_,rfl,fun h=>⟨rfl,by have:=of_decide_eq_true h; omega,by omega⟩⟩
   ·rw [decide_eq_false h9]
    exact ⟨_,rfl,fun h=>by cases h⟩
def q89 (c:yl):Int:=js [qbm (c.parts.getD []),km (c.parts.getD []) (c.choice.getD []),qfo (c.bands.getD [])]
theorem jen {c:yl}:f54 c=some (q89 c):=by
 unfold f54
 rw [jcy,qd,jeg,qd,jc7,qd,q5i]
 rfl
end Go.Z
