/-
  CrossoverBranches: the law runs true.
-/
import Derived.Test.YtnjngdcbkkonnaaGreatDoorPK
import Derived.Test.YtnjngdcbkkonnaaGreatDoorA12
set_option linter.unusedVariables false
set_option linter.unusedSimpArgs false
set_option maxRecDepth 100000
set_option maxHeartbeats 1000000
namespace Go.Z
open Go Go.Abs
theorem range_in {n lo hi:Int} (h1:lo≤n) (h2:n≤hi):checkRange n lo hi=0:=by
 unfold checkRange
 rw [if_neg (by omega),if_neg (by omega)]
theorem f137_ok {z:GRat} (h:bd 5329 z):f137 z=some 0:=by
 obtain ⟨h1,h2,h3,h4⟩:=h
 unfold f137
 rw [f40_eq,obind_at,f40_eq,obind_at,range_in (by omega) (by omega),range_in (by omega) (by omega),f100_lit (by simp)]
 rfl
theorem f61_ok {m:GMat} (h0:bd 5329 (en0 m)) (h1:bd 5329 (en1 m)) (h2:bd 5329 (en2 m)) (h3:bd 5329 (en3 m)):f61 m=some 0:=by
 unfold f61
 rw [show (⟨m.m0,m.m1⟩:GRat)=en0 m from rfl,show (⟨m.m2,m.m3⟩:GRat)=en1 m from rfl,show (⟨m.m4,m.m5⟩:GRat)=en2 m from rfl,show (⟨m.m6,m.m7⟩:GRat)=en3 m from rfl]
 rw [f137_ok h0,f137_ok h1,f137_ok h2,f137_ok h3]
 simp only [obind_at]
 rw [f100_lit (by simp)]
 rfl
theorem f62_ok {n d:GRat} (hn:bd 113592964 n) (hd:bd 113592964 d) (h:isZ d=false):f62 ⟨n.num,n.den,d.num,d.den⟩=some true:=by
 obtain ⟨a1,a2,a3,a4⟩:=hn
 obtain ⟨b1,b2,b3,b4⟩:=hd
 unfold f62
 rw [show (decide (d.num=0) && decide (d.den=0))=false from h,cond_false]
 dsimp only
 rw [decide_eq_true (show max (max (max n.num n.den) d.num) d.den < 134217728 by omega),cond_true]
 rw [decide_eq_true (by omega)]
section
variable {x:GBran} {v21 v25 v29 v31 v33 v35:GQuad × Int} {v50 v52 v54:GRat} {v70 v72 v74:GRat × Int} {c e:Int}
theorem s8_at (ha:ladderE (x.x.getD [])=0) (hb:ladderE (x.y.getD [])=0) (h1:1≤x.lo) (h8:x.hi≤8) (hc:CrossOK (x.x.getD []) (x.y.getD []) x.lo x.hi c e) {w:Int} (hw1:x.lo≤w) (hw2:w≤x.hi):
  (gW (x.x.getD []) (x.y.getD []) w=true∧s8_0 x v21 v25 v29 v31 v33 v35 v50 v52 v54 v70 v72 v74 (c,e) w=some (.inl (w + 1)))∨(gW (x.x.getD []) (x.y.getD []) w=false∧∃ d,s8_0 x v21 v25 v29 v31 v33 v35 v50 v52 v54 v70 v72 v74 (c,e) w=some (.inr (.inl d))∧d.1=true):=by
 have hr:checkRange w 1 8=0:=range_of (by omega) (by omega)
 have n1:=(ladderE_ok ha).1
 have n2:=(ladderE_ok hb).1
 have q1:=nonNil_getD (x.x.getD [])
 have q2:=nonNil_getD (x.y.getD [])
 have e1:f57 (nonNil (x.x.getD [])) w=some (lev w (x.x.getD [])):=by
  have:=f57_eq (o:=nonNil (x.x.getD [])) (w:=w) (by rw [q1]; exact ha) hr
  rwa [q1] at this
 have e2:f57 (nonNil (x.y.getD [])) w=some (lev w (x.y.getD [])):=by
  have:=f57_eq (o:=nonNil (x.y.getD [])) (w:=w) (by rw [q2]; exact hb) hr
  rwa [q2] at this
 unfold s8_0
 rw [decide_eq_true hw2,cond_true,f46_eq (by omega),obind_at,f46_eq (by omega)]
 dsimp only
 rw [e1]
 simp only [obind_at]
 rw [e2]
 simp only [obind_at]
 have hno:gW (x.x.getD []) (x.y.getD []) w=false→e=17:=by
  intro hg
  by_cases he:e=17
  ·exact he
  ·have:=hc.all he w hw1 hw2
   rw [hg] at this; cases this
 rcases lev_ok ha hr with k | ⟨k0,k1,k2,k3,k4⟩
 ·right
  have hg:gW (x.x.getD []) (x.y.getD []) w=false:=by unfold gW; rw [k]; rfl
  refine ⟨hg,?_⟩
  rw [k,show (decide ((17:Int)=0))=false from rfl,cond_false]
  exact ⟨_,rfl,decide_eq_true (hno hg)⟩
 rcases lev_ok hb hr with j | ⟨j0,j1,j2,j3,j4⟩
 ·right
  have hg:gW (x.x.getD []) (x.y.getD []) w=false:=by unfold gW; rw [j]; simp
  refine ⟨hg,?_⟩
  rw [k0,j,show (decide ((17:Int)=0))=false from rfl,show (decide ((0:Int)=0))=true from rfl,cond_true,cond_false]
  exact ⟨_,rfl,decide_eq_true (hno hg)⟩
 left
 have hg:gW (x.x.getD []) (x.y.getD []) w=true:=by unfold gW; rw [k0,j0]; rfl
 refine ⟨hg,?_⟩
 have hl:f58 200 (lev w (x.y.getD [])).1 (lev w (x.x.getD [])).1=some (!pW (x.x.getD []) (x.y.getD []) w):=by
  rw [less_eq j1 j2 j3 j4 k1 k2 k3 k4]
  unfold pW
  rw [Bool.not_not]
 rw [k0,j0,show (decide ((0:Int)=0))=true from rfl,cond_true,cond_true,decide_eq_false (show ¬ (lev w (x.x.getD [])).1.den < 1 by omega),cond_false,decide_eq_false (show ¬ (lev w (x.y.getD [])).1.den < 1 by omega),cond_false,decide_eq_false (show ¬ (lev w (x.x.getD [])).1.num < 0 by omega),cond_false,decide_eq_false (show ¬ (lev w (x.y.getD [])).1.num < 0 by omega),cond_false,hl,wrapF_i64 (x:=w + 1) (by omega) (by omega)]
 simp only [obind_at]
 rcases hc.one with he | he | he
 ·rw [he]
  simp
 ·have:=(hc.none he).2 w hw1 hw2
  rw [he,this]
  simp
 ·obtain ⟨c1,c2,c3,c4⟩:=hc.some he
  rw [he]
  rcases Int.lt_trichotomy w c with h | h | h
  ·rw [c4 w hw1 h,decide_eq_false (show ¬ w=c by omega),decide_eq_true h]
   simp
  ·subst h
   rw [c3]
   simp
  ·rw [decide_eq_false (show ¬ w=c by omega),decide_eq_false (show ¬ w < c by omega)]
   simp
theorem it8 (ha:ladderE (x.x.getD [])=0) (hb:ladderE (x.y.getD [])=0) (h1:1≤x.lo) (h8:x.hi≤8) (hc:CrossOK (x.x.getD []) (x.y.getD []) x.lo x.hi c e):∀ (n:Nat) (w:Int),x.lo≤w→w + n=x.hi + 1→(e=17→∃ k,w≤k∧k≤x.hi∧gW (x.x.getD []) (x.y.getD []) k=false) →
  ∃ d,itO (s8_0 x v21 v25 v29 v31 v33 v35 v50 v52 v54 v70 v72 v74 (c,e)) w=some d∧(match d with | .inl d=>d.1=true | .inr _=>e ≠ 17)
 | 0,w,hw,hn,hbad=>by
  refine ⟨.inr w,itO_out ?_,fun he=>?_⟩
  ·unfold s8_0
   rw [decide_eq_false (show ¬ w≤x.hi by omega)]; rfl
  ·obtain ⟨k,k1,k2,_⟩:=hbad he
   omega
 | n + 1,w,hw,hn,hbad=>by
  rcases s8_at (v21:=v21) (v25:=v25) (v29:=v29) (v31:=v31) (v33:=v33) (v35:=v35) (v50:=v50) (v52:=v52) (v54:=v54) (v70:=v70) (v72:=v72) (v74:=v74) ha hb h1 h8 hc hw (by omega) with ⟨g1,g2⟩ | ⟨g1,d,g2,g3⟩
  ·obtain ⟨d,i1,i2⟩:=it8 ha hb h1 h8 hc n (w + 1) (by omega) (by omega) (fun he=>by
    obtain ⟨k,k1,k2,k3⟩:=hbad he
    have:k ≠ w:=by intro h; rw [h,g1] at k3; cases k3
    exact ⟨k,by omega,k2,k3⟩)
   exact ⟨d,by rw [itO_in g2]; exact i1,i2⟩
  ·exact ⟨_,itO_out g2,g3⟩
end
theorem trf_pole {w:Int} {l:List GEl}:(trf w l).2=17∨((trf w l).2=0∧isZ (en0 (chn w l).1)=false∧trf w l=(⟨(chn w l).2.num,(chn w l).2.den,(en0 (chn w l).1).num,(en0 (chn w l).1).den⟩,0)):=by
 unfold trf
 cases isZ (en0 (chn w l).1) with
 | true=>exact .inl rfl
 | false=>exact .inr ⟨rfl,rfl,rfl⟩
theorem isZ_cm {a b:GRat} (ha:bd 5329 a) (hb:bd 5329 b) (h1:isZ a=false) (h2:isZ b=false):isZ (cm a b)=false:=by
 have p1:=sqV_pos (isZ_not h1)
 have p2:=sqV_pos (isZ_not h2)
 have e:sqV (cm a b)=sqV a * sqV b:=by rw [(cm_ex ha hb).1]; exact norm_mul _ _ _ _
 have hp:0 < sqV (cm a b):=by rw [e]; exact Int.mul_pos p1 p2
 cases h:isZ (cm a b) with
 | false=>rfl
 | true=>
  unfold isZ at h
  simp only [Bool.and_eq_true,decide_eq_true_eq] at h
  unfold sqV at hp
  rw [h.1,h.2] at hp
  simp at hp
theorem f8_true (x:GBran):f8 x=some true:=by
 unfold f8
 rw [show E16=some true from rfl,obind_at,cond_true]
 obtain ⟨b1,k1,k2⟩:=f44_eq (o:=x.x)
 rw [k1,obind_at]
 cases b1 with
 | false=>rfl
 | true=>
  obtain ⟨b2,k3,k4⟩:=f44_eq (o:=x.y)
  rw [cond_true,k3,obind_at]
  cases b2 with
  | false=>rfl
  | true=>
   have n1:=k2 rfl
   have n2:=k4 rfl
   rw [cond_true,f49_eq,obind_at]
   by_cases ha:¬ branchE (x.x.getD [])=0
   ·rw [decide_eq_false ha]; rfl
   have ha:=Decidable.not_not.1 ha
   rw [decide_eq_true ha,cond_true,f49_eq,obind_at]
   by_cases hb:¬ branchE (x.y.getD [])=0
   ·rw [decide_eq_false hb]; rfl
   have hb:=Decidable.not_not.1 hb
   rw [decide_eq_true hb,cond_true,f50_eq,obind_at]
   by_cases hf:¬ firstNZ [checkRange x.lo 1 8,checkRange x.hi 1 8,whenE (decide (x.hi < x.lo)) 11]=0
   ·rw [decide_eq_false hf]; rfl
   have hf:=Decidable.not_not.1 hf
   rw [decide_eq_true hf,cond_true,f46_eq (by omega),obind_at,f46_eq (by omega)]
   have hz:=first_zero.1 hf
   have w1:checkRange x.lo 1 8=0:=hz _ (by simp)
   have w2:checkRange x.hi 1 8=0:=hz _ (by simp)
   have w3:whenE (decide (x.hi < x.lo)) 11=0:=hz _ (by simp)
   have w1':=rangeZ w1
   have w2':=rangeZ w2
   have hcr:crossE (x.x.getD []) (x.y.getD []) x.lo x.hi=0:=by
    unfold crossE
    refine first_zero.2 fun y hy=>?_
    simp only [List.mem_cons,List.not_mem_nil,or_false] at hy
    rcases hy with rfl | rfl | rfl | rfl | rfl
    ·exact ha
    ·exact hb
    ·exact w1
    ·exact w2
    ·exact w3
   have q1:=nonNil_getD (x.x.getD [])
   have q2:=nonNil_getD (x.y.getD [])
   have la:=(branchE_ok ha).1
   have lb:=(branchE_ok hb).1
   dsimp only
   generalize nonNil (x.x.getD [])=P at q1 ⊢
   generalize nonNil (x.y.getD [])=Q at q2 ⊢
   have hP:branchE (P.getD [])=0:=by rw [q1]; exact ha
   have hQ:branchE (Q.getD [])=0:=by rw [q2]; exact hb
   have t1:=f60_eq (o:=P) (w:=x.lo) (by rw [q1]; exact la) w1
   have t2:=f60_eq (o:=Q) (w:=x.lo) (by rw [q2]; exact lb) w1
   rw [t1]
   simp only [obind_at]
   rw [t2]
   simp only [obind_at]
   rcases trf_pole (w:=x.lo) (l:=P.getD []) with p1 | ⟨p0,z1,p1⟩
   ·rw [p1,show (decide ((17:Int)=0))=false from rfl,cond_false,show (decide ((17:Int)=17))=true from rfl,cond_true]
   rcases trf_pole (w:=x.lo) (l:=Q.getD []) with r1 | ⟨r0,z2,r1⟩
   ·rw [p0,r1,show (decide ((17:Int)=0))=false from rfl,show (decide ((0:Int)=0))=true from rfl,cond_true,cond_false,show (decide ((0:Int)=17))=false from rfl,cond_false]
    rfl
   rw [p1,r1]
   dsimp only
   rw [show (decide ((0:Int)=0))=true from rfl,cond_true,cond_true]
   obtain ⟨a1,d1⟩:=chn_small w1 hP
   obtain ⟨a2,d2⟩:=chn_small w1 hQ
   rw [f45_ok hP hQ w1,f45_ok hQ hP w1,f45_ok hP hQ w1,f45_ok hQ hP w1]
   simp only [obind_at]
   rw [sumV_at z1 z2,sumV_at z2 z1,sumV_at z1 z2,sumV_at z2 z1]
   dsimp only
   rw [show (decide (wrapF .i64 (wrapF .i64 (wrapF .i64 ((0:Int) + 0) + 0) + 0)=0))=true from rfl,cond_true]
   have hm:f61 ⟨(chn x.lo (P.getD [])).2.num,(chn x.lo (P.getD [])).2.den,(en0 (chn x.lo (P.getD [])).1).num,(en0 (chn x.lo (P.getD [])).1).den,(chn x.lo (Q.getD [])).2.num,(chn x.lo (Q.getD [])).2.den,(en0 (chn x.lo (Q.getD [])).1).num,(en0 (chn x.lo (Q.getD [])).1).den⟩=some 0:=f61_ok (m:=⟨(chn x.lo (P.getD [])).2.num,(chn x.lo (P.getD [])).2.den,(en0 (chn x.lo (P.getD [])).1).num,(en0 (chn x.lo (P.getD [])).1).den,(chn x.lo (Q.getD [])).2.num,(chn x.lo (Q.getD [])).2.den,(en0 (chn x.lo (Q.getD [])).1).num,(en0 (chn x.lo (Q.getD [])).1).den⟩) d1 a1 d2 a2
   rw [hm,obind_at,show (decide ((0:Int)=0))=true from rfl,cond_true]
   have hnb:=num_bd (inv:=false) hP hQ w1
   have hnb':=num_bd (inv:=true) hP hQ w1
   have hdb:=bd_mono (B:=113592964) (by decide) (den_bd hP hQ w1)
   have hdz:isZ (denV x.lo (P.getD []) (Q.getD []))=false:=by unfold denV; exact isZ_cm a1 a2 z1 z2
   rw [num_comm (w:=x.lo) (a:=P.getD []) (b:=Q.getD []),den_comm (a:=P.getD []) (b:=Q.getD [])]
   rw [f62_ok hnb hdb hdz,obind_at,cond_true,f62_ok hnb' hdb hdz,obind_at,cond_true]
   rw [show ∀ (z u:GRat),(decide (z.num=z.num) && decide (z.den=z.den) && decide (u.num=u.num) && decide (u.den=u.den))=true from fun z u=>by simp,cond_true]
   rw [show ∀ (u:GRat),(decide (u.num=u.num) && decide (u.den=u.den))=true from fun u=>by simp,cond_true]
   have hneg:=num_neg hP hQ w1
   obtain ⟨m1',m2',m3',m4'⟩:=hnb'
   rw [hneg]
   dsimp only
   rw [wrapF_i64 (x:=0 - (numV x.lo (P.getD []) (Q.getD []) true).num) (by omega) (by omega),wrapF_i64 (x:=0 - (numV x.lo (P.getD []) (Q.getD []) true).den) (by omega) (by omega)]
   rw [show ∀ (z:GRat),(decide (-z.num=0 - z.num) && decide (-z.den=0 - z.den))=true from fun z=>by simp,cond_true]
   have en:ca (cm (chn x.lo (P.getD [])).2 (en0 (chn x.lo (Q.getD [])).1)) (cm (chn x.lo (Q.getD [])).2 (en0 (chn x.lo (P.getD [])).1))=numV x.lo (P.getD []) (Q.getD []) false:=rfl
   have en':cs (cm (chn x.lo (P.getD [])).2 (en0 (chn x.lo (Q.getD [])).1)) (cm (chn x.lo (Q.getD [])).2 (en0 (chn x.lo (P.getD [])).1))=numV x.lo (P.getD []) (Q.getD []) true:=rfl
   have ed:cm (en0 (chn x.lo (P.getD [])).1) (en0 (chn x.lo (Q.getD [])).1)=denV x.lo (P.getD []) (Q.getD []):=rfl
   have et:∀ z:GRat,(⟨z.num,z.den⟩:GRat)=z:=fun _=>rfl
   simp only [f63_eq,f64_eq,f65_eq,obind_at,et,en,en',ed]
   rw [show (decide True && decide True)=true from rfl,cond_true,cond_true]
   rw [f57_eq (o:=P) (by rw [q1]; exact la) w1,obind_at,self_four hP w1 z1,obind_at,self_none hP w1 z1,obind_at]
   obtain ⟨l0,l1,l2,l3,l4⟩:=lev_small hP w1 z1
   rw [l0]
   dsimp only
   rw [show (decide (wrapF .i64 (wrapF .i64 ((0:Int) + 0) + 0)=0))=true from rfl,cond_true]
   rw [decide_eq_false (by omega),cond_false,decide_eq_false (by omega),cond_false,decide_eq_false (by omega),cond_false,decide_eq_false (by omega),cond_false]
   rw [wrapF_i64 (x:=4 * (lev x.lo (P.getD [])).1.num) (by omega) (by omega),f66_low (by omega) (by omega) (by omega) (by omega),obind_at]
   rw [show ∀ (u:GRat),(decide (u.num=u.num) && decide (u.den=u.den))=true from fun u=>by simp,cond_true]
   rw [show (decide ((0:Int)=0) && decide ((1:Int)=1))=true from rfl,cond_true]
   obtain ⟨c,e,g1,g2⟩:=cross_at (o:=P) (q:=Q) (lo:=x.lo) (hi:=x.hi) (by rw [q1,q2]; exact hcr)
   rw [q1,q2] at g2
   rw [g1,obind_at]
   have w3':x.lo≤x.hi:=by
    by_cases k:x.hi < x.lo
    ·rw [decide_eq_true k] at w3; cases w3
    ·omega
   obtain ⟨d,i1,i2⟩:=it8 (x:=x) (c:=c) (e:=e) la lb w1'.1 w2'.2 g2 (x.hi - x.lo + 1).toNat x.lo (Int.le_refl _) (by omega) (fun he=>g2.bad he)
   rw [i1,obind_at]
   rcases d with d | d
   ·dsimp only at i2 ⊢
    rw [i2]
   ·dsimp only at i2 ⊢
    rcases g2.one with he | he | he
    ·exact absurd he i2
    ·rw [he,(g2.none he).1]; rfl
    ·obtain ⟨c1,c2,_,_⟩:=g2.some he
     rw [he,decide_eq_false (show ¬ (0:Int)=7 by decide),cond_false,decide_eq_true rfl,cond_true,decide_eq_true c1,cond_true,decide_eq_true c2]
theorem I8 (x:GBran):callIso prZ (X prZ) 8 [.agg [sl 3 vel x.x,sl 3 vel x.y,.int .i64 x.lo,.int .i64 x.hi]]=some (.bool true,false):=W8 (f8_true x)
end Go.Z
