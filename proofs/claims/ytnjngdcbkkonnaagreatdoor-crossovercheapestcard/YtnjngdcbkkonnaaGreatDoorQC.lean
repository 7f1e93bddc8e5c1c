/- Chapter 4. -/
import Derived.Test.YtnjngdcbkkonnaaGreatDoorA13
import Derived.Test.YtnjngdcbkkonnaaGreatDoorPQ
import Derived.Test.YtnjngdcbkkonnaaGreatDoorTK
import Derived.Test.YtnjngdcbkkonnaaGreatDoorA16
set_option linter.unusedVariables false
set_option linter.unusedSimpArgs false
set_option maxRecDepth 100000
set_option maxHeartbeats 1000000
namespace Go.Z
open Go Go.Abs
def qbg (v:qy):Int:=if j7 [ji v.num 0 1000,ji v.den 1 1000]=0 then kn (!(decide (v.num=(low v.num v.den).num) && decide (v.den=(low v.num v.den).den))) 1 else j7 [ji v.num 0 1000,ji v.den 1 1000]
theorem qsv {a b:Int} (h:j7 [a,b]=0):a=0∧b=0:=by
 have:=ko.1 h
 exact ⟨this a (by simp),this b (by simp)⟩
theorem q2i {v:qy}:f143 v=some (qbg v):=by
 unfold f143 qbg
 rw [qmy,qd,qmy,qd,qga (by simp),qd]
 by_cases h:j7 [ji v.num 0 1000,ji v.den 1 1000]=0
 ·obtain ⟨h1,h2⟩:=qsv h
  have k1:=qbh h1
  have k2:=qbh h2
  rw [decide_eq_true h,cond_true,if_pos h,q9n (by omega) (by omega) (by omega) (by omega),qd,qfx]; rfl
 ·rw [decide_eq_false h,cond_false,if_neg h]
theorem q2m {v:qy}:f118 v=some (qbg v):=by
 unfold f118 qbg
 rw [ql5,qd,ql5,qd,qje (by simp),qd]
 by_cases h:j7 [ji v.num 0 1000,ji v.den 1 1000]=0
 ·obtain ⟨h1,h2⟩:=qsv h
  have k1:=qbh h1
  have k2:=qbh h2
  rw [decide_eq_true h,cond_true,if_pos h,q2a (by omega) (by omega) (by omega) (by omega),qd,q2w]; rfl
 ·rw [decide_eq_false h,cond_false,if_neg h]
theorem qnv {v:qy} (h:qbg v=0):(0≤v.num∧v.num≤1000)∧1≤v.den∧v.den≤1000:=by
 unfold qbg at h
 split at h
 ·next h1=>
  obtain ⟨h2,h3⟩:=qsv h1
  exact ⟨qbh h2,qbh h3⟩
 ·next h1=>exact absurd h h1
theorem qeo {v:qy} (h:qbg v=0):okR v:=by
 obtain ⟨⟨h1,h2⟩,h3,h4⟩:=qnv h
 exact ⟨h1,by omega,h3,by omega⟩
def bLe (b:za):qy:=⟨b.ln,b.ld⟩
def bMo (b:za):qy:=⟨b.mn,b.md⟩
def qcf (b:za):Int:=j7 [ji b.w 1 8,qbg (bLe b),qbg (bMo b)]
def qm9 (last:Int):List za→Int
 | []=>0
 | b::l=>if qcf b=0 then (if qcy (bMo b) (bLe b) || decide (b.w≤last) then 11 else qm9 b.w l) else qcf b
def qhg (l:List za):Int:=if l.length=0 then 12 else if 8 < l.length then 5 else qm9 0 l
theorem qnz {b:za} (h:qcf b=0):ji b.w 1 8=0∧qbg (bLe b)=0∧qbg (bMo b)=0:=by
 have:=ko.1 h
 exact ⟨this _ (by simp),this _ (by simp),this _ (by simp)⟩
theorem jhx {o:Option (List za)} (hn:(o.getD []).length≤8):∀ (k i:Nat) (last:Int),i + k=(o.getD []).length→∃ d,itO (qkm o) (last,(i:Int))=some d∧(match d with | .inl e=>e.1 | .inr _=>0)=qm9 last ((o.getD []).drop i)
 | 0,i,last,hi=>by
  refine ⟨.inr (last,(i:Int)),zy ?_,?_⟩
  ·unfold qkm
   dsimp only
   rw [decide_eq_false (show ¬ (i:Int) < ((o.getD []).length:Int) by omega)]; rfl
  ·rw [List.drop_eq_nil_of_le (by omega)]; rfl
 | k + 1,i,last,hi=>by
  have hlt:i < (o.getD []).length:=by omega
  have hx:(o.getD [])[i]?=some (o.getD [])[i]:=List.getElem?_eq_getElem hlt
  generalize (o.getD [])[i]=b at hx
  rw [zr hx]
  have e:qkm o (last,(i:Int))=cond (decide (qcf b=0)) (qc (f127 ⟨b.ln,b.ld⟩ ⟨b.mn,b.md⟩) fun v52=>cond v52 (some (.inr (.inl (11,b.w,b.ln,b.ld,b.mn,b.md)))) (cond (decide (b.w≤last)) (some (.inr (.inl (11,b.w,b.ln,b.ld,b.mn,b.md)))) (some (.inl (b.w,((i + 1:Nat):Int)))))) (some (.inr (.inl (qcf b,b.w,b.ln,b.ld,b.mn,b.md)))):=by
   unfold qkm
   dsimp only
   rw [zu hlt,cond_true,zn hx,qd,jem,qd,q2i,qd,q2i,qd,qga (by simp),qd,jo hlt (by omega)]
   rfl
  unfold qm9
  by_cases h:qcf b=0
  ·obtain ⟨h1,h2,h3⟩:=qnz h
   rw [decide_eq_true h,cond_true,qv4 (a:=⟨b.ln,b.ld⟩) (b:=⟨b.mn,b.md⟩) (qeo h2) (qeo h3),qd] at e
   rw [if_pos h]
   change _=cond (qcy (bMo b) (bLe b)) _ _ at e
   cases hb:qcy (bMo b) (bLe b) with
   | true=>
    rw [hb,cond_true] at e
    exact ⟨_,zy e,rfl⟩
   | false=>
    rw [hb,cond_false] at e
    by_cases hw:b.w≤last
    ·rw [decide_eq_true hw,cond_true] at e
     refine ⟨_,zy e,?_⟩
     rw [decide_eq_true hw]; rfl
    ·rw [decide_eq_false hw,cond_false] at e
     obtain ⟨d,g1,g2⟩:=jhx hn k (i + 1) b.w (by omega)
     refine ⟨d,by rw [qab e]; exact g1,?_⟩
     rw [decide_eq_false hw,Bool.or_false]
     simp only [Bool.false_eq_true,if_false]
     exact g2
  ·rw [decide_eq_false h,cond_false] at e
   rw [if_neg h]
   exact ⟨_,zy e,rfl⟩
theorem jjm {o:Option (List za)}:f81 o=some (qhg (o.getD [])):=by
 unfold f81 qhg
 rw [qfx,qd,qfx,qd,qga (by simp),qd]
 by_cases h0:(o.getD []).length=0
 ·rw [decide_eq_true (show ((o.getD []).length:Int)=0 by omega),if_pos h0]; rfl
 ·rw [decide_eq_false (show ¬ ((o.getD []).length:Int)=0 by omega),if_neg h0]
  by_cases h8:8 < (o.getD []).length
  ·rw [decide_eq_true (show (8:Int) < ((o.getD []).length:Int) by omega),if_pos h8]; rfl
  ·rw [decide_eq_false (show ¬ (8:Int) < ((o.getD []).length:Int) by omega),if_neg h8]
   obtain ⟨d,g1,g2⟩:=jhx (o:=o) (by omega) (o.getD []).length 0 0 (by omega)
   rw [show (decide (j7 [kn false 12,kn false 5]=0))=true from rfl,cond_true]
   rw [show ((0:Int),(0:Int))=(0,((0:Nat):Int)) from rfl,g1,qd]
   rw [List.drop_zero] at g2
   rw [← g2]
   rcases d with d | d <;> rfl
theorem jad {a b:qy} (ha:qbg a=0) (hb:qbg b=0):∃ v,f119 a b=some v∧decide (0 < v)=qcy b a:=by
 obtain ⟨⟨a1,a2⟩,a3,a4⟩:=qnv ha
 obtain ⟨⟨b1,b2⟩,b3,b4⟩:=qnv hb
 have k1:=qtc (B:=1000) (x:=a.num) (y:=b.den) (c:=1000) (by omega) (by omega) (by omega) (by omega) (by decide)
 have k2:=qtc (B:=1000) (x:=b.num) (y:=a.den) (c:=1000) (by omega) (by omega) (by omega) (by omega) (by decide)
 unfold f119 qcy
 rw [jy (x:=a.num * b.den) (by omega) (by omega),jy (x:=b.num * a.den) (by omega) (by omega)]
 by_cases h:a.num * b.den < b.num * a.den
 ·rw [decide_eq_true h,cond_true]
  exact ⟨_,rfl,by rw [decide_eq_false (show ¬ b.num * a.den < a.num * b.den by omega)]; rfl⟩
 ·rw [decide_eq_false h,cond_false]
  by_cases h':b.num * a.den < a.num * b.den
  ·rw [decide_eq_true h',cond_true]
   exact ⟨_,rfl,rfl⟩
  ·rw [decide_eq_false h',cond_false]
   exact ⟨_,rfl,rfl⟩
theorem jfm {w:Int}:f34 w=some (ji w 1 8):=by unfold f34; rw [ql5]; rfl
def qx5 (l:List za):Nat→Int
 | 0=>0
 | i + 1=>match l[i]? with | some b=>b.w | none=>0
theorem jh1 {o:Option (List za)}:f39 o=some (qhg (o.getD [])):=by
 unfold f39 qhg
 by_cases h0:(o.getD []).length=0
 ·rw [decide_eq_true (show ((o.getD []).length:Int)=0 by omega),if_pos h0]; rfl
 ·rw [decide_eq_false (show ¬ ((o.getD []).length:Int)=0 by omega),if_neg h0,cond_false]
  by_cases h8:8 < (o.getD []).length
  ·rw [decide_eq_true (show (8:Int) < ((o.getD []).length:Int) by omega),if_pos h8]; rfl
  ·rw [decide_eq_false (show ¬ (8:Int) < ((o.getD []).length:Int) by omega),if_neg h8,cond_false]
   obtain ⟨d,g1,g2⟩:=qcd (o.getD []).length (fun i=>(i:Int)) (qkj o) (fun d=>match d with | .inl e=>e | .inr _=>0) (fun i=>qm9 (qx5 (o.getD []) i) ((o.getD []).drop i)) ⟨.inr _,by unfold qkj; rw [zj]; rfl,by rw [List.drop_eq_nil_of_le (Nat.le_refl _)]; rfl⟩ (fun i hlt=>by
    have hx:(o.getD [])[i]?=some (o.getD [])[i]:=List.getElem?_eq_getElem hlt
    generalize (o.getD [])[i]=b at hx
    rw [zr hx]
    have hl1:qx5 (o.getD []) (i + 1)=b.w:=by
     show (match (o.getD [])[i]? with | some b=>b.w | none=>0)=b.w
     rw [hx]
    unfold qkj
    rw [zu hlt,cond_true,zn hx,qd,jfm,qd,q2m,qd,q2m,qd,qje (by simp),qd,show j7 [ji b.w 1 8,qbg ⟨b.ln,b.ld⟩,qbg ⟨b.mn,b.md⟩]=qcf b from rfl]
    simp only [qm9]
    by_cases h:qcf b=0
    ·obtain ⟨h1,h2,h3⟩:=qnz h
     obtain ⟨v,hv,hv'⟩:=jad (a:=⟨b.ln,b.ld⟩) (b:=⟨b.mn,b.md⟩) h2 h3
     rw [decide_eq_true h,cond_true,hv,qd,hv',if_pos h,hl1]
     rw [show qcy ⟨b.mn,b.md⟩ ⟨b.ln,b.ld⟩=qcy (bMo b) (bLe b) from rfl]
     cases hb:qcy (bMo b) (bLe b) with
     | true=>exact .inr ⟨.inl 11,rfl,rfl⟩
     | false=>
      rw [cond_false,Bool.false_or,jo hlt (by omega)]
      have hw1:=(qbh h1).1
      cases i with
      | zero=>
       rw [show qx5 (o.getD []) 0=0 from rfl,decide_eq_false (show ¬ b.w≤0 by omega)]
       left
       rw [decide_eq_false (show ¬ (0:Int) < ((0:Nat):Int) by decide)]
       exact ⟨rfl,by simp⟩
      | succ j=>
       have hj:j < (o.getD []).length:=by omega
       have hy:(o.getD [])[j]?=some (o.getD [])[j]:=List.getElem?_eq_getElem hj
       generalize (o.getD [])[j]=c at hy
       have hl2:qx5 (o.getD []) (j + 1)=c.w:=by
        show (match (o.getD [])[j]? with | some b=>b.w | none=>0)=c.w
        rw [hy]
       rw [hl2,decide_eq_true (show (0:Int) < ((j + 1:Nat):Int) by omega),cond_true,jy (x:=((j + 1:Nat):Int) - 1) (by omega) (by omega),show ((j + 1:Nat):Int) - 1=(j:Int) by omega,zn hy,qd]
       by_cases hw:b.w≤c.w
       ·rw [decide_eq_true hw]
        exact .inr ⟨.inl 11,rfl,rfl⟩
       ·rw [decide_eq_false hw]
        exact .inl ⟨rfl,by simp⟩
    ·rw [decide_eq_false h,cond_false,if_neg h]
     exact .inr ⟨.inl _,rfl,rfl⟩)
   rw [List.drop_zero] at g2
   have g1':itO (qkj o) 0=some d:=g1
   have g2':_=qm9 0 (o.getD []):=g2
   rw [g1',qd,← g2']
   rcases d with d | d <;> rfl
theorem qti:∀ {l:List za} {last:Int},qm9 last l=0→∀ b∈l,qcf b=0
 | [],_,_,_,h=>by cases h
 | c::l,last,h,b,hb=>by
  unfold qm9 at h
  split at h
  ·next h1=>
   split at h
   ·cases h
   ·rcases List.mem_cons.1 hb with rfl | hb
    ·exact h1
    ·exact qti h b hb
  ·next h1=>exact absurd h h1
theorem q52 {l:List za} (h:qhg l=0):(1≤l.length∧l.length≤8)∧∀ b∈l,qcf b=0:=by
 unfold qhg at h
 split at h
 ·cases h
 ·split at h
  ·cases h
  ·exact ⟨by omega,qti h⟩
theorem jgl {o:Option (List za)} (hn:(o.getD []).length≤1073741824):f38 o=some (qi (o.getD []),zh (o.getD [])):=by
 unfold f38
 have:=qqu (o.getD []) (qna o) id (by omega) (fun a=>by unfold qna; dsimp only; rw [zj]; rfl) (fun i x a hx hi hl=>by
  unfold qna
  dsimp only
  rw [zu hi,cond_true,zn hx,qd,jo hi (by omega)]
  exact qby hl)
 rw [this,qd]
 simp
def qc4 (b:za) (x:List GEl):Bool:=decide ((lev b.w x).2=0) && !qcy (lev b.w x).1 (bLe b) && !qcy (bMo b) (lev b.w x).1
theorem jcc {b:za} {o:Option (List GEl)} (hb:qcf b=0) (hl:kg (o.getD [])=0):f164 b o=some (qc4 b (o.getD [])):=by
 obtain ⟨h1,h2,h3⟩:=qnz hb
 unfold f164 qc4
 rw [ji7 hl h1,qd]
 rcases q2e hl h1 with k | ⟨k1,k2⟩
 ·rw [k]; rfl
 ·rw [decide_eq_true k1,cond_true,qv4 (a:=⟨b.ln,b.ld⟩) (qeo h2) k2,qd,qv4 (b:=⟨b.mn,b.md⟩) k2 (qeo h3)]
  change cond (qcy (lev b.w (o.getD [])).1 (bLe b)) _ _=_
  cases qcy (lev b.w (o.getD [])).1 (bLe b) <;> rfl
theorem jc1 {b:za} {o:Option (List GEl)} (hb:qcf b=0) (hl:kg (o.getD [])=0):f142 o b=some (qc4 b (o.getD [])):=by
 obtain ⟨h1,h2,h3⟩:=qnz hb
 unfold f142 qc4
 rw [jdy hl h1,qd]
 rcases q2e hl h1 with k | ⟨k1,k2⟩
 ·rw [k]; rfl
 ·rw [decide_eq_true k1,cond_true,q5o (b:=⟨b.ln,b.ld⟩) k2 (qeo h2),qd,q5o (a:=⟨b.mn,b.md⟩) (qeo h3) k2]
  change cond (qcy (lev b.w (o.getD [])).1 (bLe b)) _ _=_
  cases qcy (lev b.w (o.getD [])).1 (bLe b) <;> rfl
def qd1 (ls:List (List GEl)):Nat→List za→Option (Nat × List GEl)
 | _,[]=>none
 | i,b::l=>match ls.find? (fun x=>!qc4 b x) with
  | some x=>some (i,x)
  | none=>qd1 ls (i + 1) l
def qe3:Option (Nat × List GEl)→qgu × Bool
 | none=>(⟨0,none⟩,false)
 | some p=>(⟨p.1,qi p.2⟩,true)
theorem qww {b:za} (hb:qcf b=0):∀ {l:List (List GEl)},(∀ x∈l,kg x=0)→kl (fun s x=>qs8 b s (qi x)) l ()=some (match l.find? (fun x=>!qc4 b x) with | some x=>.inr (qi x) | none=>.inl ())
 | [],_=>rfl
 | x::l,h=>by
  have e:qs8 b () (qi x)=cond (qc4 b x) (some (.inl ())) (some (.inr (qi x))):=by
   have:=jcc (b:=b) (o:=qi x) hb (by rw [jn]; exact h x (List.mem_cons_self ..))
   rw [jn] at this
   unfold qs8
   rw [this,qd]
  simp only [kl]
  rw [e,List.find?_cons]
  cases qc4 b x with
  | true=>
   simp only [cond_true,qd,Bool.not_true]
   exact qww hb fun y hy=>h y (List.mem_cons_of_mem _ hy)
  | false=>rfl
theorem q93 {c:Bool} {qs:List ql} (h:qs.length≤3):(qa7 c qs []).length≤729:=by
 have h1:=q0m (c:=c) (qs:=qs) (x:=[])
 have h2:9 ^ qs.length≤9 ^ 3:=Nat.pow_le_pow_right (by decide) h
 omega
section
variable {ps:Option (List ql)} {ch:Option (List Int)} {bs:Option (List za)} {qs:List ql}
theorem jc6 (hp:qe9 (ps.getD []) (ch.getD []) qs) (ho:∀ q∈qs,okP q) (hl:qs.length≤1000) (hb:∀ b∈bs.getD [],qcf b=0) (hn:(bs.getD []).length≤8) (hv:∀ x∈qa7 false qs [],kg x=0):
  f117 ps ch bs=some (qe3 (qd1 (qa7 false qs []) 0 (bs.getD []))):=by
 obtain ⟨d,g1,g2⟩:=qcd (bs.getD []).length (fun i=>(i:Int)) (qg1 ps ch bs) (fun d=>match d with | .inl _=>((⟨0,none⟩,false):qgu × Bool) | .inr d=>(⟨d.1,d.2.2⟩,true)) (fun i=>qe3 (qd1 (qa7 false qs []) i ((bs.getD []).drop i))) ⟨.inl _,by unfold qg1; rw [zj]; rfl,by rw [List.drop_eq_nil_of_le (Nat.le_refl _)]; rfl⟩ (fun i hlt=>by
  have hx:(bs.getD [])[i]?=some (bs.getD [])[i]:=List.getElem?_eq_getElem hlt
  have hbm:=hb _ (List.getElem_mem hlt)
  generalize (bs.getD [])[i]=b at hx hbm
  rw [zr hx]
  unfold qg1
  rw [zu hlt,cond_true,zn hx,qd,jea hp ho hl,qww hbm hv,qd]
  simp only [qd1]
  cases hf:(qa7 false qs []).find? (fun x=>!qc4 b x) with
  | none=>
   left
   exact ⟨by dsimp only; rw [jo hlt (by omega)],rfl⟩
  | some x=>exact .inr ⟨.inr ((i:Int),b,qi x),rfl,rfl⟩)
 unfold f117
 have g1':itO (qg1 ps ch bs) 0=some d:=g1
 have g2':_=qe3 (qd1 (qa7 false qs []) 0 (bs.getD [])):=g2
 rw [g1',qd,← g2']
 rcases d with d | d <;> rfl
theorem jfh (hp:qe9 (ps.getD []) (ch.getD []) qs) (ho:∀ q∈qs,okP q) (hl:(ch.getD []).length≤3) (hb:∀ b∈bs.getD [],qcf b=0) (hn:(bs.getD []).length≤8) (hv:∀ x∈qa7 false qs [],kg x=0):
  f79 ps ch bs=some (qe3 (qd1 (qa7 false qs []) 0 (bs.getD []))):=by
 unfold f79
 rw [jee hp ho hl,qd]
 have hsz:=q93 (c:=false) (qs:=qs) (by rw [hp.len]; exact hl)
 generalize hL:qa7 false qs []=L at hv hsz
 have hg:(qi (L.map qi)).getD []=L.map qi:=jn _
 -- the inner loop
 have inner:∀ (i:Nat) (b:za),(bs.getD [])[i]?=some b→∃ d,itO (qkq bs (qi (L.map qi),zh (L.map qi)) (i:Int)) 0=some d∧(match d with | .inl x=>some x | .inr _=>none)=(L.find? (fun x=>!qc4 b x)).map qi:=by
  intro i b hx
  have hbm:=hb b (List.mem_of_getElem? hx)
  obtain ⟨d,g1,g2⟩:=qcd L.length (fun i=>(i:Int)) (qkq bs (qi (L.map qi),zh (L.map qi)) (i:Int)) (fun d=>match d with | .inl x=>some x | .inr _=>none) (fun k=>((L.drop k).find? (fun x=>!qc4 b x)).map qi) ⟨.inr _,by unfold qkq; dsimp only; rw [hg,List.length_map,zj]; rfl,by rw [List.drop_eq_nil_of_le (Nat.le_refl _)]; rfl⟩ (fun k hk=>by
   have hy:L[k]?=some L[k]:=List.getElem?_eq_getElem hk
   have hm:=hv _ (List.getElem_mem hk)
   generalize L[k]=x at hy hm
   have e142:f142 (qi x) b=some (qc4 b x):=by
    have:=jc1 (b:=b) (o:=qi x) hbm (by rw [jn]; exact hm)
    rwa [jn] at this
   have hy':(L.map qi)[k]?=some (qi x):=by rw [List.getElem?_map,hy]; rfl
   rw [zr hy,List.find?_cons]
   unfold qkq
   dsimp only
   rw [hg,List.length_map,zu hk,cond_true,zn hy',qd,zn hx,qd,e142,qd]
   cases qc4 b x with
   | true=>exact .inl ⟨by rw [cond_true,jo hk (by omega)],rfl⟩
   | false=>exact .inr ⟨.inl (qi x),rfl,rfl⟩)
  exact ⟨d,g1,by simpa using g2⟩
 obtain ⟨d,g1,g2⟩:=qcd (bs.getD []).length (fun i=>(i:Int)) (qkl bs (qi (L.map qi),zh (L.map qi))) (fun d=>match d with | .inl d=>((⟨d.1,d.2⟩,true):qgu × Bool) | .inr _=>(⟨0,none⟩,false)) (fun i=>qe3 (qd1 L i ((bs.getD []).drop i))) ⟨.inr _,by unfold qkl; rw [zj]; rfl,by rw [List.drop_eq_nil_of_le (Nat.le_refl _)]; rfl⟩ (fun i hlt=>by
  have hx:(bs.getD [])[i]?=some (bs.getD [])[i]:=List.getElem?_eq_getElem hlt
  generalize (bs.getD [])[i]=b at hx
  rw [zr hx]
  obtain ⟨d,k1,k2⟩:=inner i b hx
  unfold qkl
  rw [zu hlt,cond_true,k1,qd]
  simp only [qd1]
  cases hf:L.find? (fun x=>!qc4 b x) with
  | none=>
   rw [hf] at k2
   rcases d with d | d
   ·cases k2
   ·exact .inl ⟨by dsimp only; rw [jo hlt (by omega)],rfl⟩
  | some x=>
   rw [hf] at k2
   rcases d with d | d
   ·obtain rfl:d=qi x:=Option.some.inj k2
    exact .inr ⟨.inl ((i:Int),qi x),rfl,rfl⟩
   ·cases k2)
 have g1':itO (qkl bs (qi (L.map qi),zh (L.map qi))) 0=some d:=g1
 have g2':_=qe3 (qd1 L 0 (bs.getD [])):=g2
 rw [g1',qd,← g2']
 rcases d with d | d <;> rfl
end
def qbk (qs:List ql):Int:=qs.foldl (fun s q=>s + q.cost) 0
theorem qjk {q:ql} (h:qas q=0):1≤q.cost∧q.cost≤1000000∧0≤q.stock∧q.stock≤100:=by
 unfold qas at h
 split at h
 ·next h1=>
  have:=ko.1 h1
  have k1:=qbh (this (ji q.cost 1 1000000) (by simp))
  have k2:=qbh (this (ji q.stock 0 100) (by simp))
  omega
 ·next h1=>exact absurd h h1
theorem qk5:∀ {qs:List ql} {s:Int},qs.foldl (fun s q=>s + q.cost) s=s + qbk qs
 | [],s=>by simp [qbk]
 | q::qs,s=>by
  unfold qbk
  rw [List.foldl_cons,List.foldl_cons,qk5,qk5 (s:=0 + q.cost)]
  omega
theorem q3f {qs:List ql} {q:ql}:qbk (qs++[q])=qbk qs + q.cost:=by
 unfold qbk; rw [List.foldl_append]; rfl
section
variable {ps:Option (List ql)} {ch:Option (List Int)} {qs:List ql}
theorem qyd:∀ {qs:List ql},(∀ q∈qs,qas q=0)→0≤qbk qs∧qbk qs≤1000000 * (qs.length:Int)
 | [],_=>by simp [qbk]
 | q::qs,h=>by
  have h1:=qjk (h q (List.mem_cons_self ..))
  have h2:=qyd (qs:=qs) fun q hq=>h q (List.mem_cons_of_mem _ hq)
  have e:qbk (q::qs)=q.cost + qbk qs:=by
   have:=qk5 (qs:=qs) (s:=0 + q.cost)
   unfold qbk at this ⊢
   rw [List.foldl_cons,this]; omega
  rw [e,List.length_cons]
  omega
theorem jhi (hp:qe9 (ps.getD []) (ch.getD []) qs) (hq:∀ q∈qs,qas q=0) (hl:(ch.getD []).length≤3):f71 ps ch=some (qbk qs):=by
 have hpl:=hp.len
 obtain ⟨d,g1,g2⟩:=qcd (ch.getD []).length (fun i=>(qbk (qs.take i),(i:Int))) (qkd ps ch) (fun d=>d.1) (fun _=>qbk qs) ⟨(qbk (qs.take (ch.getD []).length),((ch.getD []).length:Int)),by unfold qkd; dsimp only; rw [zj]; rfl,by dsimp only; rw [List.take_of_length_le (by omega)]⟩ (fun i hi=>by
  left
  refine ⟨?_,rfl⟩
  obtain ⟨q,k1,k2⟩:=hp.at_ i _ (List.getElem?_eq_getElem hi)
  have hi':i < qs.length:=by omega
  have b1:=qyd (qs:=qs.take i) fun q h=>hq q (List.mem_of_mem_take h)
  have b2:=qjk (hq q (List.mem_of_getElem? k1))
  have b3:(qs.take i).length≤3:=by rw [List.length_take]; omega
  unfold qkd
  dsimp only
  rw [zu hi,cond_true,zn (List.getElem?_eq_getElem hi),qd,k2,qd,jo hi (by omega),jy (x:=qbk (qs.take i) + q.cost) (by omega) (by omega)]
  have e:qs.take (i + 1)=qs.take i++[q]:=by rw [List.take_add_one,k1]; rfl
  rw [e,q3f])
 have g1':itO (qkd ps ch) (0,0)=some d:=g1
 unfold f71
 rw [g1',qd,g2]
theorem jcf:f116 ps ch=f71 ps ch:=rfl
end
def qda (ps:List ql) (ch:List Int):Prop:=∀ c∈ch,0≤c∧c < (ps.length:Int)
def qcz (l:List ql) (c:Int):List ql:=match l[c.toNat]? with
 | some p=>l.set c.toNat (qi5 p (p.stock - 1))
 | none=>l
def qeg (l:List ql) (ch:List Int):List ql:=ch.foldl qcz l
def qhs (l:List ql):Bool:=l.all fun p=>!decide (p.stock < 0)
def qgc (l:List ql) (ch:List Int):Option (List ql):=if qhs (qeg l ch) then some (qeg l ch) else none
theorem qjt {l:List ql} {c:Int}:(qcz l c).length=l.length:=by
 unfold qcz
 split
 ·exact List.length_set
 ·rfl
theorem qsz:∀ {ch:List Int} {l:List ql},(qeg l ch).length=l.length
 | [],l=>rfl
 | c::ch,l=>by
  show (qeg (qcz l c) ch).length=_
  rw [qsz,qjt]
theorem qve {l:List ql} {c:Int} {p:ql} (h:l[c.toNat]?=some p):qcz l c=l.set c.toNat (qi5 p (p.stock - 1)):=by
 unfold qcz
 rw [h]
def bdS (k:Nat) (l:List ql):Prop:=∀ p∈l,-1000 + (k:Int)≤p.stock∧p.stock≤1000
theorem q2x {k:Nat} {l:List ql} {c:Int} (h:bdS (k + 1) l):bdS k (qcz l c):=by
 intro p hp
 unfold qcz at hp
 split at hp
 ·next q hq=>
  rcases List.mem_or_eq_of_mem_set hp with hm | rfl
  ·have:=h p hm
   omega
  ·have:=h q (List.mem_of_getElem? hq)
   show -1000 + (k:Int)≤q.stock - 1∧q.stock - 1≤1000
   omega
 ·have:=h p hp
  omega
theorem qwy:∀ {ch:List Int} {l:List ql} {i:Nat} {p:ql},l[i]?=some p→∃ q,(qeg l ch)[i]?=some q∧q.stock≤p.stock
 | [],l,i,p,h=>⟨p,h,Int.le_refl _⟩
 | c::ch,l,i,p,h=>by
  have:∃ q,(qcz l c)[i]?=some q∧q.stock≤p.stock:=by
   unfold qcz
   split
   ·next r hr=>
    by_cases hi:c.toNat=i
    ·subst hi
     rw [h] at hr
     cases hr
     have hlt:=(List.getElem?_eq_some_iff.1 h).1
     exact ⟨qi5 p (p.stock - 1),by rw [List.getElem?_set_self hlt],by show p.stock - 1≤p.stock; omega⟩
    ·exact ⟨p,by rw [List.getElem?_set_ne hi]; exact h,Int.le_refl _⟩
   ·exact ⟨p,h,Int.le_refl _⟩
  obtain ⟨q,h1,h2⟩:=this
  obtain ⟨r,h3,h4⟩:=qwy (ch:=ch) h1
  exact ⟨r,h3,by omega⟩
theorem q61 {l:List ql} {c:Int} (h:0≤c∧c < (l.length:Int)):∃ p,l[c.toNat]?=some p∧qhh l.length l c=some p:=by
 have hlt:c.toNat < l.length:=by omega
 exact ⟨l[c.toNat],List.getElem?_eq_getElem hlt,by unfold qhh; rw [if_pos h,List.getElem?_eq_getElem hlt]⟩
section
variable {ch:Option (List Int)}
theorem jbp {n:Nat} (hch:(ch.getD []).length≤1000):∀ (k i:Nat) (l:List ql),i + k=(ch.getD []).length→l.length=n→qda l ((ch.getD []).drop i)→bdS k l→(∀ p∈l,0≤p.stock) →
  ∃ d,itO (qe5 n ch) ((i:Int),l)=some d∧(match d with | .inl _=>none | .inr s=>some s.2)=qgc l ((ch.getD []).drop i)
 | 0,i,l,hi,hn,hx,hb,hp=>by
  refine ⟨.inr ((i:Int),l),zy ?_,?_⟩
  ·unfold qe5
   dsimp only
   rw [decide_eq_false (show ¬ (i:Int) < ((ch.getD []).length:Int) by omega)]; rfl
  ·rw [List.drop_eq_nil_of_le (by omega)]
   have:qhs l=true:=by
    unfold qhs
    rw [List.all_eq_true]
    intro p hm
    have:=hp p hm
    rw [decide_eq_false (by omega)]; rfl
   unfold qgc
   show _=if qhs l=true then some l else none
   rw [if_pos this]
 | k + 1,i,l,hi,hn,hx,hb,hp=>by
  have hlt:i < (ch.getD []).length:=by omega
  have hc:(ch.getD [])[i]?=some (ch.getD [])[i]:=List.getElem?_eq_getElem hlt
  generalize (ch.getD [])[i]=c at hc
  rw [zr hc] at hx ⊢
  obtain ⟨p,g1,g2⟩:=q61 (hx c (List.mem_cons_self ..))
  have hbp:=hb p (List.mem_of_getElem? g1)
  have hpp:=hp p (List.mem_of_getElem? g1)
  have hlt2:c.toNat < l.length:=(List.getElem?_eq_some_iff.1 g1).1
  rw [hn] at g2
  have e:qe5 n ch ((i:Int),l)=cond (decide (p.stock=0)) (some (.inr (.inl l))) (some (.inl (((i + 1:Nat):Int),qcz l c))):=by
   unfold qe5
   dsimp only
   rw [zu hlt,cond_true,zn hc,qd,g2,qd,jo hlt (by omega),jy (x:=p.stock - 1) (by omega) (by omega),qve g1]
  by_cases h0:p.stock=0
  ·rw [decide_eq_true h0,cond_true] at e
   refine ⟨_,zy e,?_⟩
   have hd:(qcz l c)[c.toNat]?=some (qi5 p (p.stock - 1)):=by rw [qve g1,List.getElem?_set_self hlt2]
   obtain ⟨q,k1,k2⟩:=qwy (ch:=(ch.getD []).drop (i + 1)) hd
   have hq:q.stock < 0:=by
    have:(qi5 p (p.stock - 1)).stock=p.stock - 1:=rfl
    omega
   have hno:qhs (qeg (qcz l c) ((ch.getD []).drop (i + 1)))=false:=by
    unfold qhs
    rw [List.all_eq_false]
    exact ⟨q,List.mem_of_getElem? k1,by rw [decide_eq_true hq]; decide⟩
   unfold qgc
   show none=if qhs (qeg (qcz l c) ((ch.getD []).drop (i + 1)))=true then _ else none
   rw [hno]; rfl
  ·rw [decide_eq_false h0,cond_false] at e
   obtain ⟨d,j1,j2⟩:=jbp hch k (i + 1) (qcz l c) (by omega) (by rw [qjt,hn]) (fun x hm=>by
     rw [qjt]; exact hx x (List.mem_cons_of_mem _ hm)) (q2x hb) (fun q hm=>by
     unfold qcz at hm
     rw [g1] at hm
     rcases List.mem_or_eq_of_mem_set hm with hm | rfl
     ·exact hp q hm
     ·show 0≤p.stock - 1; omega)
   exact ⟨d,by rw [qab e]; exact j1,j2⟩
theorem jii {n:Nat} (hch:(ch.getD []).length≤1000):∀ (k i:Nat) (l:List ql),i + k=(ch.getD []).length→l.length=n→qda l ((ch.getD []).drop i)→bdS k l →
  ∃ j,itO (qh8 n ch) ((i:Int),l)=some (j,qeg l ((ch.getD []).drop i))
 | 0,i,l,hi,hn,hx,hb=>by
  refine ⟨(i:Int),zy ?_⟩
  unfold qh8
  dsimp only
  rw [decide_eq_false (show ¬ (i:Int) < ((ch.getD []).length:Int) by omega),List.drop_eq_nil_of_le (by omega)]; rfl
 | k + 1,i,l,hi,hn,hx,hb=>by
  have hlt:i < (ch.getD []).length:=by omega
  have hc:(ch.getD [])[i]?=some (ch.getD [])[i]:=List.getElem?_eq_getElem hlt
  generalize (ch.getD [])[i]=c at hc
  rw [zr hc] at hx ⊢
  obtain ⟨p,g1,g2⟩:=q61 (hx c (List.mem_cons_self ..))
  have hbp:=hb p (List.mem_of_getElem? g1)
  rw [hn] at g2
  have e:qh8 n ch ((i:Int),l)=some (.inl (((i + 1:Nat):Int),qcz l c)):=by
   unfold qh8
   dsimp only
   rw [zu hlt,cond_true,zn hc,qd,g2,qd,jo hlt (by omega),jy (x:=p.stock - 1) (by omega) (by omega),qve g1]
  obtain ⟨j,j1⟩:=jii hch k (i + 1) (qcz l c) (by omega) (by rw [qjt,hn]) (fun x hm=>by
    rw [qjt]; exact hx x (List.mem_cons_of_mem _ hm)) (q2x hb)
  exact ⟨j,by rw [qab e]; exact j1⟩
theorem jdb {ps:Option (List ql)} (hn:(ps.getD []).length≤1073741824) (hc:(ch.getD []).length≤3) (hx:qda (ps.getD []) (ch.getD [])) (hp:∀ p∈ps.getD [],qas p=0):f138 ps ch=some (match qgc (ps.getD []) (ch.getD []) with | some l=>(some l,true) | none=>(none,false)):=by
 obtain ⟨d,g1,g2⟩:=jbp (ch:=ch) (n:=(ps.getD []).length) (by omega) (ch.getD []).length 0 (ps.getD []) (by omega) rfl (by rw [List.drop_zero]; exact hx) (fun p h=>by have:=qjk (hp p h); omega) (fun p h=>by have:=qjk (hp p h); omega)
 rw [List.drop_zero] at g2
 have g1':itO (qe5 (ps.getD []).length ch) (0,ps.getD [])=some d:=g1
 unfold f138
 rw [decide_eq_true hn,cond_true,g1',qd]
 rcases d with d | d
 ·rw [← g2]
 ·have g2':some d.2=qgc (ps.getD []) (ch.getD []):=g2
  have hlen:d.2.length=(ps.getD []).length:=by
   unfold qgc at g2'
   split at g2'
   ·rw [Option.some.inj g2']; exact qsz
   ·cases g2'
  rw [← g2']
  dsimp only
  rw [decide_eq_true hlen]; rfl
theorem jfy {ps:Option (List ql)} (hn:(ps.getD []).length≤1073741824) (hc:(ch.getD []).length≤3) (hx:qda (ps.getD []) (ch.getD [])) (hp:∀ p∈ps.getD [],qas p=0):f72 ps ch=some (match qgc (ps.getD []) (ch.getD []) with | some l=>(some l,true) | none=>(none,false)):=by
 obtain ⟨j,g1⟩:=jii (ch:=ch) (n:=(ps.getD []).length) (by omega) (ch.getD []).length 0 (ps.getD []) (by omega) rfl (by rw [List.drop_zero]; exact hx) (fun p h=>by have:=qjk (hp p h); omega)
 rw [List.drop_zero] at g1
 have g1':itO (qh8 (ps.getD []).length ch) (0,ps.getD [])=some (j,qeg (ps.getD []) (ch.getD [])):=g1
 have hlen:(qeg (ps.getD []) (ch.getD [])).length=(ps.getD []).length:=qsz
 obtain ⟨d,k1,k2⟩:=qf3 (qeg (ps.getD []) (ch.getD [])) (qnn (ps.getD []).length (qeg (ps.getD []) (ch.getD []))) (fun p=>!decide (p.stock < 0)) (fun d=>match d with | .inl _=>false | .inr _=>true) ⟨.inr _,by unfold qnn; rw [hlen,zj]; rfl,rfl⟩ (fun i x hx' hi=>by
  have hix:qhh (ps.getD []).length (qeg (ps.getD []) (ch.getD [])) (i:Int)=some x:=by
   unfold qhh
   rw [if_pos (by omega)]
   exact hx'
  unfold qnn
  rw [decide_eq_true (show (i:Int) < ((ps.getD []).length:Int) by omega),cond_true,hix,qd,jo hi (by omega)]
  cases decide (x.stock < 0) with
  | true=>exact .inr ⟨rfl,.inl (),rfl,rfl⟩
  | false=>exact .inl ⟨rfl,rfl⟩)
 have k2':_=qhs (qeg (ps.getD []) (ch.getD [])):=k2
 unfold f72 qgc
 rw [decide_eq_true hn,cond_true,g1',qd]
 dsimp only
 rw [k1,qd]
 cases ho:qhs (qeg (ps.getD []) (ch.getD [])) with
 | true=>
  rw [ho] at k2'
  rcases d with d | d
  ·cases k2'
  ·dsimp only
   rw [decide_eq_true hlen]; rfl
 | false=>
  rw [ho] at k2'
  rcases d with d | d
  ·rfl
  ·cases k2'
end
theorem qsn {a b:Option (List Int)} (hn:(a.getD []).length≤1073741824) (h:a.getD []=b.getD []):f42 a b=some true:=by
 unfold f42
 rw [h,decide_eq_true rfl,cond_true]
 obtain ⟨d,g1,g2⟩:=qf3 (a.getD []) (qod a b) (fun _=>true) (fun d=>match d with | .inl _=>false | .inr _=>true) ⟨.inr _,by unfold qod; rw [zj]; rfl,rfl⟩ (fun i x hx hi=>by
  left
  unfold qod
  rw [zu hi,cond_true,zn hx,qd,← h,zn hx,qd,decide_eq_true rfl,jo hi (by omega)]
  exact ⟨rfl,rfl⟩)
 rw [g1,qd]
 rcases d with d | d
 ·simp at g2
 ·rfl
end Go.Z
