/-
  Chapter 4: corridors, and whether a ladder keeps a band; faults: both sides.
-/
import Derived.Test.YtnjngdcbkkonnaaGreatDoorCW
import Derived.Test.YtnjngdcbkkonnaaGreatDoorPS
import Derived.Test.YtnjngdcbkkonnaaGreatDoorA15
set_option linter.unusedVariables false
set_option linter.unusedSimpArgs false
set_option maxRecDepth 100000
set_option maxHeartbeats 1000000
namespace Go.Z
open Go Go.Abs
def qba (v:qz):Int:=if ju [jq v.num 0 1000,jq v.den 1 1000]=0 then yv (!(decide (v.num=(low v.num v.den).num) && decide (v.den=(low v.num v.den).den))) 1 else ju [jq v.num 0 1000,jq v.den 1 1000]
theorem qpg {a b:Int} (h:ju [a,b]=0):a=0∧b=0:=by
 have:=kq.1 h
 exact ⟨this a (by simp),this b (by simp)⟩
theorem qzf {v:qz}:f143 v=some (qba v):=by
 unfold f143 qba
 rw [qog,qe,qog,qe,qca (by simp),qe]
 by_cases h:ju [jq v.num 0 1000,jq v.den 1 1000]=0
 ·obtain ⟨h1,h2⟩:=qpg h
  have k1:=qcg h1
  have k2:=qcg h2
  rw [decide_eq_true h,cond_true,if_pos h,q60 (by omega) (by omega) (by omega) (by omega),qe,qak]; rfl
 ·rw [decide_eq_false h,cond_false,if_neg h]
theorem qzn {v:qz}:f118 v=some (qba v):=by
 unfold f118 qba
 rw [qmt,qe,qmt,qe,qh1 (by simp),qe]
 by_cases h:ju [jq v.num 0 1000,jq v.den 1 1000]=0
 ·obtain ⟨h1,h2⟩:=qpg h
  have k1:=qcg h1
  have k2:=qcg h2
  rw [decide_eq_true h,cond_true,if_pos h,qyv (by omega) (by omega) (by omega) (by omega),qe,qr7]; rfl
 ·rw [decide_eq_false h,cond_false,if_neg h]
theorem qlv {v:qz} (h:qba v=0):(0≤v.num∧v.num≤1000)∧1≤v.den∧v.den≤1000:=by
 unfold qba at h
 split at h
 ·next h1=>
  obtain ⟨h2,h3⟩:=qpg h1
  exact ⟨qcg h2,qcg h3⟩
 ·next h1=>exact absurd h h1
theorem qd1 {v:qz} (h:qba v=0):okR v:=by
 obtain ⟨⟨h1,h2⟩,h3,h4⟩:=qlv h
 exact ⟨h1,by omega,h3,by omega⟩
def bLe (b:ja):qz:=⟨b.ln,b.ld⟩
def bMo (b:ja):qz:=⟨b.mn,b.md⟩
def qbj (b:ja):Int:=ju [jq b.w 1 8,qba (bLe b),qba (bMo b)]
def qkz (last:Int):List ja→Int
 | []=>0
 | b::l=>if qbj b=0 then (if qct (bMo b) (bLe b) || decide (b.w≤last) then 11 else qkz b.w l) else qbj b
def qjb (l:List ja):Int:=if l.length=0 then 12 else if 8 < l.length then 5 else qkz 0 l
theorem qlt {b:ja} (h:qbj b=0):jq b.w 1 8=0∧qba (bLe b)=0∧qba (bMo b)=0:=by
 have:=kq.1 h
 exact ⟨this _ (by simp),this _ (by simp),this _ (by simp)⟩
theorem jec {o:Option (List ja)} (hn:(o.getD []).length≤8):∀ (k i:Nat) (last:Int),i + k=(o.getD []).length→∃ d,itO (qip o) (last,(i:Int))=some d∧(match d with | .inl e=>e.1 | .inr _=>0)=qkz last ((o.getD []).drop i)
 | 0,i,last,hi=>by
  refine ⟨.inr (last,(i:Int)),qad ?_,?_⟩
  ·unfold qip
   dsimp only
   rw [decide_eq_false (show ¬ (i:Int) < ((o.getD []).length:Int) by omega)]; rfl
  ·rw [List.drop_eq_nil_of_le (by omega)]; rfl
 | k + 1,i,last,hi=>by
  have hlt:i < (o.getD []).length:=by omega
  have hx:(o.getD [])[i]?=some (o.getD [])[i]:=List.getElem?_eq_getElem hlt
  generalize (o.getD [])[i]=b at hx
  rw [z6 hx]
  have e:qip o (last,(i:Int))=cond (decide (qbj b=0)) (qd (f127 ⟨b.ln,b.ld⟩ ⟨b.mn,b.md⟩) fun v52=>cond v52 (some (.inr (.inl (11,b.w,b.ln,b.ld,b.mn,b.md)))) (cond (decide (b.w≤last)) (some (.inr (.inl (11,b.w,b.ln,b.ld,b.mn,b.md)))) (some (.inl (b.w,((i + 1:Nat):Int)))))) (some (.inr (.inl (qbj b,b.w,b.ln,b.ld,b.mn,b.md)))):=by
   unfold qip
   dsimp only
   rw [zx hlt,cond_true,zb hx,qe,q9f,qe,qzf,qe,qzf,qe,qca (by simp),qe,jw hlt (by omega)]
   rfl
  unfold qkz
  by_cases h:qbj b=0
  ·obtain ⟨h1,h2,h3⟩:=qlt h
   rw [decide_eq_true h,cond_true,qsg (a:=⟨b.ln,b.ld⟩) (b:=⟨b.mn,b.md⟩) (qd1 h2) (qd1 h3),qe] at e
   rw [if_pos h]
   change _=cond (qct (bMo b) (bLe b)) _ _ at e
   cases hb:qct (bMo b) (bLe b) with
   | true=>
    rw [hb,cond_true] at e
    exact ⟨_,qad e,rfl⟩
   | false=>
    rw [hb,cond_false] at e
    by_cases hw:b.w≤last
    ·rw [decide_eq_true hw,cond_true] at e
     refine ⟨_,qad e,?_⟩
     rw [decide_eq_true hw]; rfl
    ·rw [decide_eq_false hw,cond_false] at e
     obtain ⟨d,g1,g2⟩:=jec hn k (i + 1) b.w (by omega)
     refine ⟨d,by rw [qch e]; exact g1,?_⟩
     rw [decide_eq_false hw,Bool.or_false]
     simp only [Bool.false_eq_true,if_false]
     exact g2
  ·rw [decide_eq_false h,cond_false] at e
   rw [if_neg h]
   exact ⟨_,qad e,rfl⟩
theorem jbt {o:Option (List ja)}:f81 o=some (qjb (o.getD [])):=by
 unfold f81 qjb
 rw [qak,qe,qak,qe,qca (by simp),qe]
 by_cases h0:(o.getD []).length=0
 ·rw [decide_eq_true (show ((o.getD []).length:Int)=0 by omega),if_pos h0]; rfl
 ·rw [decide_eq_false (show ¬ ((o.getD []).length:Int)=0 by omega),if_neg h0]
  by_cases h8:8 < (o.getD []).length
  ·rw [decide_eq_true (show (8:Int) < ((o.getD []).length:Int) by omega),if_pos h8]; rfl
  ·rw [decide_eq_false (show ¬ (8:Int) < ((o.getD []).length:Int) by omega),if_neg h8]
   obtain ⟨d,g1,g2⟩:=jec (o:=o) (by omega) (o.getD []).length 0 0 (by omega)
   rw [show (decide (ju [yv false 12,yv false 5]=0))=true from rfl,cond_true]
   rw [show ((0:Int),(0:Int))=(0,((0:Nat):Int)) from rfl,g1,qe]
   rw [List.drop_zero] at g2
   rw [← g2]
   rcases d with d | d <;> rfl
theorem q5h {a b:qz} (ha:qba a=0) (hb:qba b=0):∃ v,f119 a b=some v∧decide (0 < v)=qct b a:=by
 obtain ⟨⟨a1,a2⟩,a3,a4⟩:=qlv ha
 obtain ⟨⟨b1,b2⟩,b3,b4⟩:=qlv hb
 have k1:=qpf (B:=1000) (x:=a.num) (y:=b.den) (c:=1000) (by omega) (by omega) (by omega) (by omega) (by decide)
 have k2:=qpf (B:=1000) (x:=b.num) (y:=a.den) (c:=1000) (by omega) (by omega) (by omega) (by omega) (by decide)
 unfold f119 qct
 rw [zu (x:=a.num * b.den) (by omega) (by omega),zu (x:=b.num * a.den) (by omega) (by omega)]
 by_cases h:a.num * b.den < b.num * a.den
 ·rw [decide_eq_true h,cond_true]
  exact ⟨_,rfl,by rw [decide_eq_false (show ¬ b.num * a.den < a.num * b.den by omega)]; rfl⟩
 ·rw [decide_eq_false h,cond_false]
  by_cases h':b.num * a.den < a.num * b.den
  ·rw [decide_eq_true h',cond_true]
   exact ⟨_,rfl,rfl⟩
  ·rw [decide_eq_false h',cond_false]
   exact ⟨_,rfl,rfl⟩
theorem jdj {w:Int}:f34 w=some (jq w 1 8):=by unfold f34; rw [qmt]; rfl
def qup (l:List ja):Nat→Int
 | 0=>0
 | i + 1=>match l[i]? with | some b=>b.w | none=>0
theorem q24 {o:Option (List ja)}:f39 o=some (qjb (o.getD [])):=by
 unfold f39 qjb
 by_cases h0:(o.getD []).length=0
 ·rw [decide_eq_true (show ((o.getD []).length:Int)=0 by omega),if_pos h0]; rfl
 ·rw [decide_eq_false (show ¬ ((o.getD []).length:Int)=0 by omega),if_neg h0,cond_false]
  by_cases h8:8 < (o.getD []).length
  ·rw [decide_eq_true (show (8:Int) < ((o.getD []).length:Int) by omega),if_pos h8]; rfl
  ·rw [decide_eq_false (show ¬ (8:Int) < ((o.getD []).length:Int) by omega),if_neg h8,cond_false]
   obtain ⟨d,g1,g2⟩:=qcc (o.getD []).length (fun i=>(i:Int)) (qiq o) (fun d=>match d with | .inl e=>e | .inr _=>0) (fun i=>qkz (qup (o.getD []) i) ((o.getD []).drop i)) ⟨.inr _,by unfold qiq; rw [zq]; rfl,by rw [List.drop_eq_nil_of_le (Nat.le_refl _)]; rfl⟩ (fun i hlt=>by
    have hx:(o.getD [])[i]?=some (o.getD [])[i]:=List.getElem?_eq_getElem hlt
    generalize (o.getD [])[i]=b at hx
    rw [z6 hx]
    have hl1:qup (o.getD []) (i + 1)=b.w:=by
     show (match (o.getD [])[i]? with | some b=>b.w | none=>0)=b.w
     rw [hx]
    unfold qiq
    rw [zx hlt,cond_true,zb hx,qe,jdj,qe,qzn,qe,qzn,qe,qh1 (by simp),qe,show ju [jq b.w 1 8,qba ⟨b.ln,b.ld⟩,qba ⟨b.mn,b.md⟩]=qbj b from rfl]
    simp only [qkz]
    by_cases h:qbj b=0
    ·obtain ⟨h1,h2,h3⟩:=qlt h
     obtain ⟨v,hv,hv'⟩:=q5h (a:=⟨b.ln,b.ld⟩) (b:=⟨b.mn,b.md⟩) h2 h3
     rw [decide_eq_true h,cond_true,hv,qe,hv',if_pos h,hl1]
     rw [show qct ⟨b.mn,b.md⟩ ⟨b.ln,b.ld⟩=qct (bMo b) (bLe b) from rfl]
     cases hb:qct (bMo b) (bLe b) with
     | true=>exact .inr ⟨.inl 11,rfl,rfl⟩
     | false=>
      rw [cond_false,Bool.false_or,jw hlt (by omega)]
      have hw1:=(qcg h1).1
      cases i with
      | zero=>
       rw [show qup (o.getD []) 0=0 from rfl,decide_eq_false (show ¬ b.w≤0 by omega)]
       left
       rw [decide_eq_false (show ¬ (0:Int) < ((0:Nat):Int) by decide)]
       exact ⟨rfl,by simp⟩
      | succ j=>
       have hj:j < (o.getD []).length:=by omega
       have hy:(o.getD [])[j]?=some (o.getD [])[j]:=List.getElem?_eq_getElem hj
       generalize (o.getD [])[j]=c at hy
       have hl2:qup (o.getD []) (j + 1)=c.w:=by
        show (match (o.getD [])[j]? with | some b=>b.w | none=>0)=c.w
        rw [hy]
       rw [hl2,decide_eq_true (show (0:Int) < ((j + 1:Nat):Int) by omega),cond_true,zu (x:=((j + 1:Nat):Int) - 1) (by omega) (by omega),show ((j + 1:Nat):Int) - 1=(j:Int) by omega,zb hy,qe]
       by_cases hw:b.w≤c.w
       ·rw [decide_eq_true hw]
        exact .inr ⟨.inl 11,rfl,rfl⟩
       ·rw [decide_eq_false hw]
        exact .inl ⟨rfl,by simp⟩
    ·rw [decide_eq_false h,cond_false,if_neg h]
     exact .inr ⟨.inl _,rfl,rfl⟩)
   rw [List.drop_zero] at g2
   have g1':itO (qiq o) 0=some d:=g1
   have g2':_=qkz 0 (o.getD []):=g2
   rw [g1',qe,← g2']
   rcases d with d | d <;> rfl
theorem qq9:∀ {l:List ja} {last:Int},qkz last l=0→∀ b∈l,qbj b=0
 | [],_,_,_,h=>by cases h
 | c::l,last,h,b,hb=>by
  unfold qkz at h
  split at h
  ·next h1=>
   split at h
   ·cases h
   ·rcases List.mem_cons.1 hb with rfl | hb
    ·exact h1
    ·exact qq9 h b hb
  ·next h1=>exact absurd h h1
theorem q3c {l:List ja} (h:qjb l=0):(1≤l.length∧l.length≤8)∧∀ b∈l,qbj b=0:=by
 unfold qjb at h
 split at h
 ·cases h
 ·split at h
  ·cases h
  ·exact ⟨by omega,qq9 h⟩
theorem ja1 {o:Option (List ja)} (hn:(o.getD []).length≤1073741824):f38 o=some (qv (o.getD []),z7 (o.getD [])):=by
 unfold f38
 have:=qha (o.getD []) (qlq o) id (by omega) (fun a=>by unfold qlq; dsimp only; rw [zq]; rfl) (fun i x a hx hi hl=>by
  unfold qlq
  dsimp only
  rw [zx hi,cond_true,zb hx,qe,jw hi (by omega)]
  exact qbm hl)
 rw [this,qe]
 simp
def qbq (b:ja) (x:List GEl):Bool:=decide ((lev b.w x).2=0) && !qct (lev b.w x).1 (bLe b) && !qct (bMo b) (lev b.w x).1
theorem qy2 {b:ja} {o:Option (List GEl)} (hb:qbj b=0) (hl:yp (o.getD [])=0):f164 b o=some (qbq b (o.getD [])):=by
 obtain ⟨h1,h2,h3⟩:=qlt hb
 unfold f164 qbq
 rw [ja7 hl h1,qe]
 rcases qyr hl h1 with k | ⟨k1,k2⟩
 ·rw [k]; rfl
 ·rw [decide_eq_true k1,cond_true,qsg (a:=⟨b.ln,b.ld⟩) (qd1 h2) k2,qe,qsg (b:=⟨b.mn,b.md⟩) k2 (qd1 h3)]
  change cond (qct (lev b.w (o.getD [])).1 (bLe b)) _ _=_
  cases qct (lev b.w (o.getD [])).1 (bLe b) <;> rfl
theorem qzk {b:ja} {o:Option (List GEl)} (hb:qbj b=0) (hl:yp (o.getD [])=0):f142 o b=some (qbq b (o.getD [])):=by
 obtain ⟨h1,h2,h3⟩:=qlt hb
 unfold f142 qbq
 rw [q85 hl h1,qe]
 rcases qyr hl h1 with k | ⟨k1,k2⟩
 ·rw [k]; rfl
 ·rw [decide_eq_true k1,cond_true,q2j (b:=⟨b.ln,b.ld⟩) k2 (qd1 h2),qe,q2j (a:=⟨b.mn,b.md⟩) (qd1 h3) k2]
  change cond (qct (lev b.w (o.getD [])).1 (bLe b)) _ _=_
  cases qct (lev b.w (o.getD [])).1 (bLe b) <;> rfl
end Go.Z
/-
 Chapter 4: faults of a choice: the first one,and whether a told one is one; both sides.
-/
namespace Go.Z
open Go Go.Abs
def qce (ls:List (List GEl)):Nat→List ja→Option (Nat × List GEl)
 | _,[]=>none
 | i,b::l=>match ls.find? (fun x=>!qbq b x) with
  | some x=>some (i,x)
  | none=>qce ls (i + 1) l
def qf9:Option (Nat × List GEl)→jx × Bool
 | none=>(⟨0,none⟩,false)
 | some p=>(⟨p.1,qv p.2⟩,true)
theorem qtb {b:ja} (hb:qbj b=0):∀ {l:List (List GEl)},(∀ x∈l,yp x=0)→kj (fun s x=>qpy b s (qv x)) l ()=some (match l.find? (fun x=>!qbq b x) with | some x=>.inr (qv x) | none=>.inl ())
 | [],_=>rfl
 | x::l,h=>by
  have e:qpy b () (qv x)=cond (qbq b x) (some (.inl ())) (some (.inr (qv x))):=by
   have:=qy2 (b:=b) (o:=qv x) hb (by rw [yb]; exact h x (List.mem_cons_self ..))
   rw [yb] at this
   unfold qpy
   rw [this,qe]
  simp only [kj]
  rw [e,List.find?_cons]
  cases qbq b x with
  | true=>
   simp only [cond_true,qe,Bool.not_true]
   exact qtb hb fun y hy=>h y (List.mem_cons_of_mem _ hy)
  | false=>rfl
theorem q54 {c:Bool} {qs:List qi} (h:qs.length≤3):(qa2 c qs []).length≤729:=by
 have h1:=qw7 (c:=c) (qs:=qs) (x:=[])
 have h2:9 ^ qs.length≤9 ^ 3:=Nat.pow_le_pow_right (by decide) h
 omega
section
variable {ps:Option (List qi)} {ch:Option (List Int)} {bs:Option (List ja)} {qs:List qi}
theorem q79 (hp:qci (ps.getD []) (ch.getD []) qs) (ho:∀ q∈qs,okP q) (hl:qs.length≤1000) (hb:∀ b∈bs.getD [],qbj b=0) (hn:(bs.getD []).length≤8) (hv:∀ x∈qa2 false qs [],yp x=0):
  f117 ps ch bs=some (qf9 (qce (qa2 false qs []) 0 (bs.getD []))):=by
 obtain ⟨d,g1,g2⟩:=qcc (bs.getD []).length (fun i=>(i:Int)) (qfw ps ch bs) (fun d=>match d with | .inl _=>((⟨0,none⟩,false):jx × Bool) | .inr d=>(⟨d.1,d.2.2⟩,true)) (fun i=>qf9 (qce (qa2 false qs []) i ((bs.getD []).drop i))) ⟨.inl _,by unfold qfw; rw [zq]; rfl,by rw [List.drop_eq_nil_of_le (Nat.le_refl _)]; rfl⟩ (fun i hlt=>by
  have hx:(bs.getD [])[i]?=some (bs.getD [])[i]:=List.getElem?_eq_getElem hlt
  have hbm:=hb _ (List.getElem_mem hlt)
  generalize (bs.getD [])[i]=b at hx hbm
  rw [z6 hx]
  unfold qfw
  rw [zx hlt,cond_true,zb hx,qe,q77 hp ho hl,qtb hbm hv,qe]
  simp only [qce]
  cases hf:(qa2 false qs []).find? (fun x=>!qbq b x) with
  | none=>
   left
   exact ⟨by dsimp only; rw [jw hlt (by omega)],rfl⟩
  | some x=>exact .inr ⟨.inr ((i:Int),b,qv x),rfl,rfl⟩)
 unfold f117
 have g1':itO (qfw ps ch bs) 0=some d:=g1
 have g2':_=qf9 (qce (qa2 false qs []) 0 (bs.getD [])):=g2
 rw [g1',qe,← g2']
 rcases d with d | d <;> rfl
theorem jdb (hp:qci (ps.getD []) (ch.getD []) qs) (ho:∀ q∈qs,okP q) (hl:(ch.getD []).length≤3) (hb:∀ b∈bs.getD [],qbj b=0) (hn:(bs.getD []).length≤8) (hv:∀ x∈qa2 false qs [],yp x=0):
  f79 ps ch bs=some (qf9 (qce (qa2 false qs []) 0 (bs.getD []))):=by
 unfold f79
 rw [q93 hp ho hl,qe]
 have hsz:=q54 (c:=false) (qs:=qs) (by rw [hp.len]; exact hl)
 generalize hL:qa2 false qs []=L at hv hsz
 have hg:(qv (L.map qv)).getD []=L.map qv:=yb _
 -- the inner loop
 have inner:∀ (i:Nat) (b:ja),(bs.getD [])[i]?=some b→∃ d,itO (qig bs (qv (L.map qv),z7 (L.map qv)) (i:Int)) 0=some d∧(match d with | .inl x=>some x | .inr _=>none)=(L.find? (fun x=>!qbq b x)).map qv:=by
  intro i b hx
  have hbm:=hb b (List.mem_of_getElem? hx)
  obtain ⟨d,g1,g2⟩:=qcc L.length (fun i=>(i:Int)) (qig bs (qv (L.map qv),z7 (L.map qv)) (i:Int)) (fun d=>match d with | .inl x=>some x | .inr _=>none) (fun k=>((L.drop k).find? (fun x=>!qbq b x)).map qv) ⟨.inr _,by unfold qig; dsimp only; rw [hg,List.length_map,zq]; rfl,by rw [List.drop_eq_nil_of_le (Nat.le_refl _)]; rfl⟩ (fun k hk=>by
   have hy:L[k]?=some L[k]:=List.getElem?_eq_getElem hk
   have hm:=hv _ (List.getElem_mem hk)
   generalize L[k]=x at hy hm
   have e142:f142 (qv x) b=some (qbq b x):=by
    have:=qzk (b:=b) (o:=qv x) hbm (by rw [yb]; exact hm)
    rwa [yb] at this
   have hy':(L.map qv)[k]?=some (qv x):=by rw [List.getElem?_map,hy]; rfl
   rw [z6 hy,List.find?_cons]
   unfold qig
   dsimp only
   rw [hg,List.length_map,zx hk,cond_true,zb hy',qe,zb hx,qe,e142,qe]
   cases qbq b x with
   | true=>exact .inl ⟨by rw [cond_true,jw hk (by omega)],rfl⟩
   | false=>exact .inr ⟨.inl (qv x),rfl,rfl⟩)
  exact ⟨d,g1,by simpa using g2⟩
 obtain ⟨d,g1,g2⟩:=qcc (bs.getD []).length (fun i=>(i:Int)) (qir bs (qv (L.map qv),z7 (L.map qv))) (fun d=>match d with | .inl d=>((⟨d.1,d.2⟩,true):jx × Bool) | .inr _=>(⟨0,none⟩,false)) (fun i=>qf9 (qce L i ((bs.getD []).drop i))) ⟨.inr _,by unfold qir; rw [zq]; rfl,by rw [List.drop_eq_nil_of_le (Nat.le_refl _)]; rfl⟩ (fun i hlt=>by
  have hx:(bs.getD [])[i]?=some (bs.getD [])[i]:=List.getElem?_eq_getElem hlt
  generalize (bs.getD [])[i]=b at hx
  rw [z6 hx]
  obtain ⟨d,k1,k2⟩:=inner i b hx
  unfold qir
  rw [zx hlt,cond_true,k1,qe]
  simp only [qce]
  cases hf:L.find? (fun x=>!qbq b x) with
  | none=>
   rw [hf] at k2
   rcases d with d | d
   ·cases k2
   ·exact .inl ⟨by dsimp only; rw [jw hlt (by omega)],rfl⟩
  | some x=>
   rw [hf] at k2
   rcases d with d | d
   ·obtain rfl:d=qv x:=Option.some.inj k2
    exact .inr ⟨.inl ((i:Int),qv x),rfl,rfl⟩
   ·cases k2)
 have g1':itO (qir bs (qv (L.map qv),z7 (L.map qv))) 0=some d:=g1
 have g2':_=qf9 (qce L 0 (bs.getD [])):=g2
 rw [g1',qe,← g2']
 rcases d with d | d <;> rfl
end
def eqE (x y:GEl):Bool:=decide (x.kind=y.kind) && decide (x.a=y.a) && decide (x.b=y.b)
def qd6 (l:List GEl) (x:GEl):Bool:=l.any fun e=>eqE e x
theorem q5t {l:List GEl} {x:GEl} (h:qd6 l x=true):x∈l:=by
 obtain ⟨e,he,h1⟩:=List.any_eq_true.1 h
 obtain rfl:=qwj.1 h1
 exact he
theorem q88 {o:Option (List GEl)} {x:GEl} (hn:(o.getD []).length≤1073741824):f180 o x.kind x.a x.b=some (qd6 (o.getD []) x):=by
 unfold f180 f210
 obtain ⟨d,g1,g2⟩:=qcc (o.getD []).length (fun i=>(i:Int)) (qft o x.kind x.a x.b) (fun d=>match d with | .inl i=>decide (0≤i) | .inr _=>false) (fun i=>qd6 ((o.getD []).drop i) x) ⟨.inr _,by unfold qft; rw [zq]; rfl,by rw [List.drop_eq_nil_of_le (Nat.le_refl _)]; rfl⟩ (fun i hlt=>by
  have hx:(o.getD [])[i]?=some (o.getD [])[i]:=List.getElem?_eq_getElem hlt
  generalize (o.getD [])[i]=e at hx
  rw [z6 hx]
  unfold qft f182 qd6
  rw [zx hlt,cond_true,zb hx,qe,qe,List.any_cons]
  rw [show (decide (e.kind=x.kind) && decide (e.a=x.a) && decide (e.b=x.b))=eqE e x from rfl]
  cases eqE e x with
  | true=>exact .inr ⟨.inl (i:Int),rfl,by simp⟩
  | false=>exact .inl ⟨by rw [cond_false,jw hlt (by omega)],rfl⟩)
 have g1':itO (qft o x.kind x.a x.b) 0=some d:=g1
 have g2':_=qd6 (o.getD []) x:=g2
 rw [g1',qe,← g2']
 rcases d with d | d <;> rfl
def qr0 (l:List GEl) (qs:List qi):Bool:=(l.zip qs).all fun p=>qd6 (za p.2 false) p.1
def qc0 (qs:List qi) (bs:List ja) (f:jx):Int:=
 if f.band < 0∨(bs.length:Int)≤f.band then 10 else if (f.ladder.getD []).length ≠ qs.length then 2 else if qr0 (f.ladder.getD []) qs=true then (match bs[f.band.toNat]? with | some b=>yv (qbq b (f.ladder.getD [])) 22 | none=>0) else 1
theorem q2y {α β:Type} {a:List α} {b:List β} {i:Nat} {x:α × β} (h:(a.zip b)[i]?=some x):a[i]?=some x.1∧b[i]?=some x.2:=by
 rw [List.getElem?_zip_eq_some] at h
 exact h
theorem qyp {l:List GEl} {qs:List qi} (hq:∀ q∈qs,qbd q=0) (hl:l.length=qs.length) (hn:l.length≤5) (h:qr0 l qs=true):yp l=0:=by
 unfold yp
 rw [if_neg (by omega)]
 refine kq.2 fun e he=>?_
 obtain ⟨v,hv,rfl⟩:=List.mem_map.1 he
 obtain ⟨i,hi,rfl⟩:=List.mem_iff_getElem.1 hv
 have hz:(l.zip qs)[i]?=some (l[i],qs[i]'(by omega)):=by
  rw [List.getElem?_zip_eq_some]
  exact ⟨List.getElem?_eq_getElem hi,List.getElem?_eq_getElem (by omega)⟩
 have:=List.all_eq_true.1 h _ (List.mem_of_getElem? hz)
 exact qs8 (hq _ (List.getElem_mem _)) (q5t this)
section
variable {ps:Option (List qi)} {ch:Option (List Int)} {bs:Option (List ja)} {qs:List qi} {f:jx}
theorem q8j (hc:qee (ps.getD [])=0) (hp:qci (ps.getD []) (ch.getD []) qs) (hl:(ch.getD []).length≤3) (hb:∀ b∈bs.getD [],qbj b=0):f141 f ps ch bs=some (qc0 qs (bs.getD []) f):=by
 have hq:∀ q∈qs,qbd q=0:=fun q h=>(qmv hc).2 q (hp.mem q h)
 have loop:(f.ladder.getD []).length=qs.length→∃ d,itO (qd9 f ps ch bs) 0=some d∧(match d with | .inl _=>false | .inr _=>true)=qr0 (f.ladder.getD []) qs:=by
  intro hlen
  have hpl:=hp.len
  have hz:((f.ladder.getD []).zip qs).length=(f.ladder.getD []).length:=by rw [List.length_zip]; omega
  exact qb6 ((f.ladder.getD []).zip qs) (qd9 f ps ch bs) (fun p=>qd6 (za p.2 false) p.1) (fun d=>match d with | .inl _=>false | .inr _=>true) ⟨.inr _,by unfold qd9; rw [hz,zq]; rfl,rfl⟩ (fun i x hx hi=>by
   obtain ⟨k1,k2⟩:=q2y hx
   have hi':i < (f.ladder.getD []).length:=by omega
   have hk:i < (ch.getD []).length:=by rw [← hp.len]; omega
   obtain ⟨q,g1,g2⟩:=hp.at_ i _ (List.getElem?_eq_getElem hk)
   rw [k2] at g1
   cases g1
   have ok:=qln (hq x.2 (List.mem_of_getElem? k2))
   unfold qd9
   rw [zx hi',cond_true,zb k1,qe,zb (List.getElem?_eq_getElem hk),qe,g2,qe,qxd ok,qe]
   dsimp only
   rw [q88 (o:=some (za x.2 false)) (by have:=qb0 (p:=x.2) (c:=false); simp only [Option.getD_some]; omega),qe,jw hi' (by omega)]
   simp only [Option.getD_some]
   cases qd6 (za x.2 false) x.1 with
   | true=>exact .inl ⟨rfl,rfl⟩
   | false=>exact .inr ⟨rfl,.inl _,rfl,rfl⟩)
 have key:(0≤f.band∧f.band < ((bs.getD []).length:Int))→(f.ladder.getD []).length=qs.length→(qd (itO (qd9 f ps ch bs) 0) fun d45=>match d45 with
    | .inl d47=>some 1
    | .inr d48=>qd (j7 (bs.getD []) f.band) fun v49=>qd (f164 v49 f.ladder) fun v51=>qd (f106 v51 22) fun v53=>some v53)=some (qc0 qs (bs.getD []) f):=by
  intro hbd hlen
  obtain ⟨d,g1,g2⟩:=loop hlen
  unfold qc0
  rw [if_neg (by omega),if_neg (by omega),g1,qe]
  cases ha:qr0 (f.ladder.getD []) qs with
  | false=>
   rw [ha] at g2
   rcases d with d | d
   ·simp
   ·cases g2
  | true=>
   rw [ha] at g2
   rcases d with d | d
   ·cases g2
   ·have hbt:f.band.toNat < (bs.getD []).length:=by omega
    have hx:(bs.getD [])[f.band.toNat]?=some (bs.getD [])[f.band.toNat]:=List.getElem?_eq_getElem hbt
    have hbm:=hb _ (List.getElem_mem hbt)
    generalize (bs.getD [])[f.band.toNat]=b at hx hbm
    have hix:j7 (bs.getD []) f.band=some b:=by
     unfold j7
     rw [if_pos hbd.1,hx]
    dsimp only
    rw [hix,qe,qy2 hbm (qyp hq hlen (by rw [hlen,hp.len]; omega) ha),qe,qak,qe,if_pos rfl,hx]
 unfold f141
 by_cases h0:f.band < 0
 ·rw [decide_eq_true h0,cond_true,qak,qe,qak,qe,qca (by simp),qe]
  unfold qc0
  rw [if_pos (.inl h0)]; rfl
 ·rw [decide_eq_false h0,cond_false,qak,qe,qak,qe,qca (by simp),qe]
  by_cases h1:((bs.getD []).length:Int)≤f.band
  ·rw [decide_eq_true h1]
   unfold qc0
   rw [if_pos (.inr h1)]; rfl
  ·rw [decide_eq_false h1]
   by_cases h2:(f.ladder.getD []).length=qs.length
   ·have h2':((f.ladder.getD []).length:Int)=((ch.getD []).length:Int):=by rw [← hp.len]; omega
    rw [decide_eq_true h2']
    exact key (by omega) h2
   ·have h2':¬ ((f.ladder.getD []).length:Int)=((ch.getD []).length:Int):=by rw [← hp.len]; omega
    rw [decide_eq_false h2']
    unfold qc0
    rw [if_neg (by omega),if_pos h2]; rfl
theorem jdl (hc:qee (ps.getD [])=0) (hp:qci (ps.getD []) (ch.getD []) qs) (hl:(ch.getD []).length≤3) (hb:∀ b∈bs.getD [],qbj b=0):f80 ps ch bs f=some (qc0 qs (bs.getD []) f):=by
 have hq:∀ q∈qs,qbd q=0:=fun q h=>(qmv hc).2 q (hp.mem q h)
 have inner:∀ (i:Nat) (x:GEl) (q:qi) (w:Bool),(f.ladder.getD [])[i]?=some x→∃ d,itO (qgv ps ch bs f (i:Int) (some (za q false),w)) (false,0)=some d∧d.1=qd6 (za q false) x:=by
  intro i x q w hx
  have hv9:=qb0 (p:=q) (c:=false)
  have key:∀ (k j:Nat) (t:Bool),j + k=(za q false).length→∃ d,itO (qgv ps ch bs f (i:Int) (some (za q false),w)) (t,(j:Int))=some d∧d.1=(t || qd6 ((za q false).drop j) x):=by
   intro k
   induction k with
   | zero=>
    intro j t hj
    have:j=(za q false).length:=by omega
    subst this
    refine ⟨(t,((za q false).length:Int)),qad ?_,?_⟩
    ·unfold qgv
     dsimp only
     simp only [Option.getD_some]
     rw [zq]; rfl
    ·rw [List.drop_eq_nil_of_le (Nat.le_refl _)]; simp [qd6]
   | succ k ih=>
    intro j t hj
    have hlt:j < (za q false).length:=by omega
    have hy:(za q false)[j]?=some (za q false)[j]:=List.getElem?_eq_getElem hlt
    generalize (za q false)[j]=e at hy
    have e1:qgv ps ch bs f (i:Int) (some (za q false),w) (t,(j:Int))=some (.inl (t || eqE e x,((j + 1:Nat):Int))):=by
     unfold qgv
     dsimp only
     simp only [Option.getD_some]
     rw [zx hlt,cond_true,jw hlt (by omega)]
     cases t with
     | true=>rfl
     | false=>rw [cond_false,zb hy,qe,zb hx,qe]; rfl
    obtain ⟨d,g1,g2⟩:=ih (j + 1) (t || eqE e x) (by omega)
    refine ⟨d,by rw [qch e1]; exact g1,?_⟩
    rw [g2,z6 hy]
    unfold qd6
    rw [List.any_cons,Bool.or_assoc]
  obtain ⟨d,g1,g2⟩:=key (za q false).length 0 false (by omega)
  exact ⟨d,g1,by simpa using g2⟩
 unfold f80 qc0
 by_cases h0:f.band < 0
 ·rw [decide_eq_true h0,if_pos (.inl h0)]; rfl
 rw [decide_eq_false h0,cond_false]
 by_cases h1:((bs.getD []).length:Int)≤f.band
 ·rw [decide_eq_true h1,if_pos (.inr h1)]; rfl
 rw [decide_eq_false h1,cond_false,if_neg (by omega)]
 by_cases h2:(f.ladder.getD []).length=qs.length
 ·have h2':((f.ladder.getD []).length:Int)=((ch.getD []).length:Int):=by rw [← hp.len]; omega
  rw [decide_eq_true h2',cond_true,if_neg (by omega)]
  have hz:((f.ladder.getD []).zip qs).length=(ch.getD []).length:=by rw [List.length_zip,← hp.len]; omega
  obtain ⟨d,g1,g2⟩:=qb6 ((f.ladder.getD []).zip qs) (qk3 ps ch bs f) (fun p=>qd6 (za p.2 false) p.1) (fun d=>match d with | .inl _=>false | .inr _=>true) ⟨.inr _,by unfold qk3; rw [hz,zq]; rfl,rfl⟩ (fun i x hx hi=>by
   obtain ⟨k1,k2⟩:=q2y hx
   have hk:i < (ch.getD []).length:=by omega
   obtain ⟨q,g1,g2⟩:=hp.at_ i _ (List.getElem?_eq_getElem hk)
   rw [k2] at g1
   cases g1
   have ok:=qln (hq x.2 (List.mem_of_getElem? k2))
   obtain ⟨d,j1,j2⟩:=inner i x.1 x.2 true k1
   unfold qk3
   rw [zx hk,cond_true,zb (List.getElem?_eq_getElem hk),qe,g2,qe,qse ok,qe,j1,qe,j2,jw hk (by omega)]
   cases qd6 (za x.2 false) x.1 with
   | true=>exact .inl ⟨rfl,rfl⟩
   | false=>exact .inr ⟨rfl,.inl _,rfl,rfl⟩)
  rw [g1,qe]
  change _=qr0 (f.ladder.getD []) qs at g2
  cases ha:qr0 (f.ladder.getD []) qs with
  | false=>
   rw [ha] at g2
   rcases d with d | d
   ·simp
   ·cases g2
  | true=>
   rw [ha] at g2
   rcases d with d | d
   ·cases g2
   ·have hbt:f.band.toNat < (bs.getD []).length:=by omega
    have hx:(bs.getD [])[f.band.toNat]?=some (bs.getD [])[f.band.toNat]:=List.getElem?_eq_getElem hbt
    have hbm:=hb _ (List.getElem_mem hbt)
    generalize (bs.getD [])[f.band.toNat]=b at hx hbm
    have hix:j7 (bs.getD []) f.band=some b:=by
     unfold j7
     rw [if_pos (by omega),hx]
    dsimp only
    rw [hix,qe,qzk hbm (qyp hq h2 (by rw [h2,hp.len]; omega) ha),qe,qr7,qe,if_pos rfl,hx]
 ·have h2':¬ ((f.ladder.getD []).length:Int)=((ch.getD []).length:Int):=by rw [← hp.len]; omega
  rw [decide_eq_false h2',cond_false,if_pos h2]
end
end Go.Z
/-
 CrossoverFaults: the law runs true.
-/
namespace Go.Z
open Go Go.Abs
theorem qxq {l:List qi} (h:qj4 l=true):l.length≤7:=by
 unfold qj4 at h
 simp only [Bool.and_eq_true,Bool.or_eq_true,decide_eq_true_eq] at h
 omega
theorem q23 {a b c:Int}:f32 (some [a,b,c])=some (ju [a,b,c]):=by unfold f32; rw [qh1 (by simp)]; rfl
theorem jek {c:qbr}:∃ b,f28 c=some b∧(b=true→qj4 (c.parts.getD [])=true∧(c.choice.getD []).length≤5∧(c.bands.getD []).length≤9):=by
 unfold f28 f36
 rw [jc8,qe]
 cases hs:qj4 (c.parts.getD []) with
 | false=>exact ⟨false,rfl,fun h=>by cases h⟩
 | true=>
  rw [cond_true,show (decide ((0:Int)≤2))=true from rfl]
  by_cases h4:((c.bands.getD []).length:Int)≤4
  ·rw [decide_eq_true h4]
   exact ⟨_,rfl,fun h=>⟨rfl,by have:=of_decide_eq_true h; omega,by omega⟩⟩
  ·rw [decide_eq_false h4]
   by_cases h9:((c.bands.getD []).length:Int)=9
   ·rw [decide_eq_true h9]
    exact ⟨_,rfl,fun h=>⟨rfl,by have:=of_decide_eq_true h; omega,by omega⟩⟩
   ·rw [decide_eq_false h9]
    exact ⟨_,rfl,fun h=>by cases h⟩
def qz5 (c:qbr):Int:=ju [qee (c.parts.getD []),qco (c.parts.getD []) (c.choice.getD []),qjb (c.bands.getD [])]
theorem jel {c:qbr}:f54 c=some (qz5 c):=by
 unfold f54
 rw [jcx,qe,jb4,qe,q24,qe,q23]
 rfl
theorem qpz {a:Int} {x y:Option (List GEl)} (hn:(x.getD []).length≤1073741824) (h:x.getD []=y.getD []):f82 ⟨a,x⟩ ⟨a,y⟩=some true:=by
 obtain ⟨r,h1,h2⟩:=jdo (a:=x) (b:=y) hn
 unfold f82
 rw [decide_eq_true rfl,cond_true,h1,h2.2 h]
 rfl
theorem qqe {ls:List (List GEl)}:∀ {l:List ja} {i:Nat} {p},qce ls i l=some p→p.2∈ls
 | [],_,_,h=>by cases h
 | b::l,i,p,h=>by
  unfold qce at h
  cases hf:ls.find? (fun x=>!qbq b x) with
  | some x=>rw [hf] at h; cases h; exact List.mem_of_find?_eq_some hf
  | none=>rw [hf] at h; exact qqe h
theorem q6x (c:qbr) (f:jx):f11 c f=some true:=by
 unfold f11
 rw [show E16=some true from rfl,qe,cond_true]
 obtain ⟨b,h1,h2⟩:=jek (c:=c)
 rw [h1,qe]
 cases b with
 | false=>rfl
 | true=>
  obtain ⟨hs,hc,hb⟩:=h2 rfl
  have hl:=qxq hs
  rw [cond_true]
  obtain ⟨b2,k3,k4⟩:=jbl (o:=f.ladder)
  rw [k3,qe]
  cases b2 with
  | false=>rfl
  | true=>
   have n2:=k4 rfl
   rw [cond_true,jb3 (by omega),qe,jeg (by omega),qe,ja1 (by omega),qe]
   have q1:=yb (c.parts.getD [])
   have q2:(some (c.choice.getD []):Option (List Int)).getD []=c.choice.getD []:=rfl
   have q3:=yb (c.bands.getD [])
   have q4:=yb (f.ladder.getD [])
   have e78:f78 f=some ⟨f.band,qv (f.ladder.getD [])⟩:=by unfold f78; rw [jbg (by omega)]; rfl
   rw [jel,e78]
   dsimp only
   generalize qv (c.parts.getD [])=P at q1 ⊢
   generalize (some (c.choice.getD []):Option (List Int))=C at q2 ⊢
   generalize qv (c.bands.getD [])=B at q3 ⊢
   generalize qv (f.ladder.getD [])=L at q4 ⊢
   have hB81:f81 B=some (qjb (c.bands.getD [])):=by rw [jbt,q3]
   have hC:f133 P C=some (ju [qee (c.parts.getD []),qco (c.parts.getD []) (c.choice.getD [])]):=by rw [q83 (by rw [q2]; omega),q1,q2]
   unfold f59 f77
   rw [hC,hB81,q24]
   simp only [qe]
   rw [qca (by simp),q2h]
   simp only [qe]
   rw [show ju [qee (c.parts.getD []),qco (c.parts.getD []) (c.choice.getD []),qjb (c.bands.getD [])]=qz5 c from rfl]
   by_cases hz:qz5 c=0
   ·have hz':=kq.1 hz
    have z1:qee (c.parts.getD [])=0:=hz' _ (by simp)
    have z2:qco (c.parts.getD []) (c.choice.getD [])=0:=hz' _ (by simp)
    have z3:qjb (c.bands.getD [])=0:=hz' _ (by simp)
    obtain ⟨z4,qs,hp⟩:=q3w z2
    obtain ⟨⟨b1,b8⟩,hb0⟩:=q3c z3
    obtain ⟨ok1,ok2⟩:=ja4 (c:=false) z1 hp z4
    have hp':qci (P.getD []) (C.getD []) qs:=by rw [q1,q2]; exact hp
    have e117:=q79 (ps:=P) (ch:=C) (bs:=B) hp' ok1 (by rw [hp.len]; omega) (by rw [q3]; exact hb0) (by rw [q3]; exact b8) ok2
    have e79:=jdb (ps:=c.parts) (ch:=c.choice) (bs:=c.bands) hp ok1 z4 hb0 b8 ok2
    have e141:=q8j (ps:=P) (ch:=C) (bs:=B) (f:=⟨f.band,L⟩) (by rw [q1]; exact z1) hp' (by rw [q2]; exact z4) (by rw [q3]; exact hb0)
    have e80:=jdl (ps:=c.parts) (ch:=c.choice) (bs:=c.bands) (f:=f) z1 hp z4 hb0
    have ecf:qc0 qs (B.getD []) ⟨f.band,L⟩=qc0 qs (c.bands.getD []) f:=by unfold qc0; rw [q3]; dsimp only; rw [q4]
    rw [q3] at e117
    rw [e117,e79,e141,e80,ecf]
    simp only [qe]
    rw [decide_eq_true hz,cond_true]
    cases hf:qce (qa2 false qs []) 0 (c.bands.getD []) with
    | none=>
     simp only [qf9,qak,qe,cond_false,cond_true,Bool.not_false]
     have e83:f83 ⟨0,none⟩=some ⟨0,none⟩:=by unfold f83; dsimp only; rw [qxc (by simp)]; rfl
     rw [e83,qe,qpz (by simp) rfl]
     simp [yv]
    | some p=>
     have hm:=qqe hf
     have hlen:=(qld (ok2 _ hm)).1
     simp only [qf9,qak,qe,cond_false,cond_true,Bool.not_true]
     have e83:f83 ⟨(p.1:Int),qv p.2⟩=some ⟨(p.1:Int),qv p.2⟩:=by
      unfold f83
      dsimp only
      rw [qxc (by rw [yb]; omega),yb]; rfl
     rw [e83,qe,qpz (by rw [yb]; omega) rfl]
     simp [yv,hz]
   ·rw [decide_eq_false hz]
    simp only [cond_false,qe]
    have e83:f83 ⟨0,none⟩=some ⟨0,none⟩:=by unfold f83; dsimp only; rw [qxc (by simp)]; rfl
    rw [e83]
    simp only [qe]
    rw [qpz (by simp) rfl]
    simp
theorem I11 (x:qbr) (f:jx):qc prZ (X prZ) 11 [.agg [sl 8 qn x.parts,sl 1 qu x.choice,sl 5 jd x.bands],.agg [.int .i64 f.band,sl 3 vel f.ladder]]=some (.bool true,false):=W11 (q6x x f)
end Go.Z
