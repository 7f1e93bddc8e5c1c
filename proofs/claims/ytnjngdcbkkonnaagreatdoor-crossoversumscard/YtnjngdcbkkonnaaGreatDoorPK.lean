/-
  Chapter 4: sums of branches, crossings; the law CrossoverSums is true.
-/
import Derived.Test.YtnjngdcbkkonnaaGreatDoorPH
import Derived.Test.YtnjngdcbkkonnaaGreatDoorA6
set_option linter.unusedVariables false
set_option linter.unusedSimpArgs false
set_option maxRecDepth 100000
set_option maxHeartbeats 1000000
namespace Go.Z
open Go Go.Abs
def cs (a b:GRat):GRat:=⟨wrapF .i64 (a.num - b.num),wrapF .i64 (a.den - b.den)⟩
theorem f65_eq {a b:GRat}:f65 a b=some (cs a b):=rfl
theorem mul_abs {B C x y:Int} (h1:-B≤x) (h2:x≤B) (h3:-C≤y) (h4:y≤C) (hB:0≤B) (hC:0≤C):-(B * C)≤x * y∧x * y≤B * C:=by
 rcases Int.le_total 0 y with h | h
 ·exact mulb h1 h2 h h4 hB
 ·have:=mulb (y:=-y) (c:=C) h1 h2 (by omega) (by omega) hB
  rw [Int.mul_neg] at this
  omega
theorem cm_ex {x y:GRat} (hx:bd 5329 x) (hy:bd 5329 y):cm x y=⟨x.num * y.num - x.den * y.den,x.num * y.den + x.den * y.num⟩∧bd 56796482 (cm x y):=by
 obtain ⟨x1,x2,x3,x4⟩:=hx
 obtain ⟨y1,y2,y3,y4⟩:=hy
 have k1:=mul_abs x1 x2 y1 y2 (by decide) (by decide)
 have k2:=mul_abs x3 x4 y3 y4 (by decide) (by decide)
 have k3:=mul_abs x1 x2 y3 y4 (by decide) (by decide)
 have k4:=mul_abs x3 x4 y1 y2 (by decide) (by decide)
 have e:cm x y=⟨x.num * y.num - x.den * y.den,x.num * y.den + x.den * y.num⟩:=by
  unfold cm
  rw [wrapF_i64 (x:=x.num * y.num) (by omega) (by omega),wrapF_i64 (x:=x.den * y.den) (by omega) (by omega),wrapF_i64 (x:=x.num * y.den) (by omega) (by omega),wrapF_i64 (x:=x.den * y.num) (by omega) (by omega),wrapF_i64 (by omega) (by omega),wrapF_i64 (by omega) (by omega)]
 refine ⟨e,?_⟩
 rw [e]
 exact ⟨by dsimp only; omega,by dsimp only; omega,by dsimp only; omega,by dsimp only; omega⟩
theorem cm_1 {u:GRat} (h:bd 56796482 u):cm ⟨1,0⟩ u=u:=by
 obtain ⟨h1,h2,h3,h4⟩:=h
 unfold cm
 simp only [Int.one_mul,Int.zero_mul]
 rw [wrapF_i64 (x:=u.num) (by omega) (by omega),wrapF_i64 (x:=0) (by omega) (by omega),wrapF_i64 (x:=u.den) (by omega) (by omega),wrapF_i64 (by omega) (by omega),wrapF_i64 (by omega) (by omega),Int.sub_zero,Int.add_zero]
theorem cm_m1 {u:GRat} (h:bd 56796482 u):cm ⟨-1,0⟩ u=⟨-u.num,-u.den⟩:=by
 obtain ⟨h1,h2,h3,h4⟩:=h
 unfold cm
 simp only [Int.neg_mul,Int.one_mul,Int.zero_mul]
 rw [wrapF_i64 (x:=-u.num) (by omega) (by omega),wrapF_i64 (x:=0) (by omega) (by omega),wrapF_i64 (x:=-u.den) (by omega) (by omega),wrapF_i64 (by omega) (by omega),wrapF_i64 (by omega) (by omega),Int.sub_zero,Int.add_zero]
theorem ca_neg {z u:GRat}:ca z ⟨-u.num,-u.den⟩=cs z u:=rfl
theorem cs_bd {A B:Int} {x y:GRat} (hA:0≤A) (hB:0≤B) (h:A + B≤9000000000000000000) (hx:bd A x) (hy:bd B y):bd (A + B) (cs x y):=by
 obtain ⟨x1,x2,x3,x4⟩:=hx
 obtain ⟨y1,y2,y3,y4⟩:=hy
 unfold cs
 rw [wrapF_i64 (by omega) (by omega),wrapF_i64 (by omega) (by omega)]
 exact ⟨by dsimp only; omega,by dsimp only; omega,by dsimp only; omega,by dsimp only; omega⟩
theorem norm_mul (a b c d:Int):(a * c - b * d) * (a * c - b * d) + (a * d + b * c) * (a * d + b * c)=(a * a + b * b) * (c * c + d * d):=by grind
def numV (w:Int) (a b:List GEl) (inv:Bool):GRat:=if inv then cs (cm (chn w a).2 (en0 (chn w b).1)) (cm (chn w b).2 (en0 (chn w a).1)) else ca (cm (chn w a).2 (en0 (chn w b).1)) (cm (chn w b).2 (en0 (chn w a).1))
def denV (w:Int) (a b:List GEl):GRat:=cm (en0 (chn w a).1) (en0 (chn w b).1)
def sumV (w:Int) (a b:List GEl) (inv:Bool):GQuad × Int:=
 if isZ (en0 (chn w a).1) then (⟨0,0,0,0⟩,17) else if isZ (en0 (chn w b).1) then (⟨0,0,0,0⟩,17) else (⟨(numV w a b inv).num,(numV w a b inv).den,(denV w a b).num,(denV w a b).den⟩,0)
section
variable {o q:Option (List GEl)} {w:Int} {inv:Bool}
theorem chn_small (hw:checkRange w 1 8=0) (h:branchE (o.getD [])=0):bd 5329 (en0 (chn w (o.getD [])).1)∧bd 5329 (chn w (o.getD [])).2:=by
 obtain ⟨h1,h2⟩:=branchE_ok h
 have hb:=chn_bd (rangeZ hw) (okL_of h1).n (okL_of h1).e
 have hm:pw (o.getD []).length≤5329:=by
  match (o.getD []).length,h2 with
  | 0,_=>decide
  | 1,_=>decide
  | 2,_=>decide
 exact ⟨bd_mono hm hb.a,bd_mono hm hb.e⟩
theorem f45_ok (ha:branchE (o.getD [])=0) (hb:branchE (q.getD [])=0) (hw:checkRange w 1 8=0):f45 o q w inv=some (sumV w (o.getD []) (q.getD []) inv):=by
 obtain ⟨a1,d1⟩:=chn_small hw ha
 obtain ⟨a2,d2⟩:=chn_small hw hb
 unfold f45
 rw [f121_eq,obind_at,f121_eq,obind_at,f122_eq,obind_at,f105_lit (by simp),obind_at,ha,hb,hw]
 rw [show (decide (firstNZ [0,0,0]=0))=true from rfl,cond_true,f60_eq (branchE_ok ha).1 hw,obind_at]
 unfold sumV
 cases h1:isZ (en0 (chn w (o.getD [])).1) with
 | true=>unfold trf; rw [h1]; rfl
 | false=>
  have t1:trf w (o.getD [])=(⟨(chn w (o.getD [])).2.num,(chn w (o.getD [])).2.den,(chn w (o.getD [])).1.m0,(chn w (o.getD [])).1.m1⟩,0):=by unfold trf; rw [h1]; rfl
  rw [t1]
  dsimp only
  rw [show (decide ((0:Int)=0))=true from rfl,cond_true,f60_eq (branchE_ok hb).1 hw,obind_at]
  cases h2:isZ (en0 (chn w (q.getD [])).1) with
  | true=>unfold trf; rw [h2]; rfl
  | false=>
   have t2:trf w (q.getD [])=(⟨(chn w (q.getD [])).2.num,(chn w (q.getD [])).2.den,(chn w (q.getD [])).1.m0,(chn w (q.getD [])).1.m1⟩,0):=by unfold trf; rw [h2]; rfl
   rw [t2]
   dsimp only
   rw [show (decide ((0:Int)=0))=true from rfl,cond_true]
   have x1:=(cm_ex d1 a2).2
   have x2:=(cm_ex d2 a1).2
   simp only [f124_eq,f123_eq,obind_at]
   have r1:(⟨(chn w (o.getD [])).2.num,(chn w (o.getD [])).2.den⟩:GRat)=(chn w (o.getD [])).2:=rfl
   have r2:(⟨(chn w (q.getD [])).2.num,(chn w (q.getD [])).2.den⟩:GRat)=(chn w (q.getD [])).2:=rfl
   have r3:(⟨(chn w (o.getD [])).1.m0,(chn w (o.getD [])).1.m1⟩:GRat)=en0 (chn w (o.getD [])).1:=rfl
   have r4:(⟨(chn w (q.getD [])).1.m0,(chn w (q.getD [])).1.m1⟩:GRat)=en0 (chn w (q.getD [])).1:=rfl
   rw [r1,r2,r3,r4,cm_1 x2,cm_m1 x2,ca_neg]
   cases inv <;> simp [numV,denV]
theorem f51_ok (ha:branchE (o.getD [])=0) (hb:branchE (q.getD [])=0) (hw:checkRange w 1 8=0):f51 o q w inv=some (sumV w (o.getD []) (q.getD []) inv):=by
 have n1:=(okL_of (branchE_ok ha).1).n
 have n2:=(okL_of (branchE_ok hb).1).n
 unfold f51 sumV
 rw [f128_eq n1,obind_at,f128_eq n2,obind_at,f129_eq n1,obind_at,f129_eq n2,obind_at]
 rw [show (decide ((chn w (o.getD [])).1.m0=0) && decide ((chn w (o.getD [])).1.m1=0))=isZ (en0 (chn w (o.getD [])).1) from rfl,show (decide ((chn w (q.getD [])).1.m0=0) && decide ((chn w (q.getD [])).1.m1=0))=isZ (en0 (chn w (q.getD [])).1) from rfl]
 cases h1:isZ (en0 (chn w (o.getD [])).1) with
 | true=>rfl
 | false=>
  rw [cond_false]
  cases h2:isZ (en0 (chn w (q.getD [])).1) with
  | true=>rfl
  | false=>
   rw [cond_false]
   simp only [f63_eq,f64_eq,f65_eq,obind_at]
   cases inv <;> simp [numV,denV,en0]
theorem sum_ok (ha:branchE (o.getD [])=0) (hb:branchE (q.getD [])=0) (hw:checkRange w 1 8=0) (h:(sumV w (o.getD []) (q.getD []) inv).2=0):
  ∃ L,f47 o q w inv=some (L,0)∧f52 (sumV w (o.getD []) (q.getD []) inv).1=some L:=by
 obtain ⟨a1,d1⟩:=chn_small hw ha
 obtain ⟨a2,d2⟩:=chn_small hw hb
 have hs:=f45_ok (inv:=inv) ha hb hw
 have x1:=(cm_ex d1 a2).2
 have x2:=(cm_ex d2 a1).2
 obtain ⟨xe,x3⟩:=cm_ex a1 a2
 have hn:bd 2073071593 (numV w (o.getD []) (q.getD []) inv):=by
  unfold numV
  split
  ·exact bd_mono (by decide) (cs_bd (by decide) (by decide) (by decide) x1 x2)
  ·exact bd_mono (by decide) (ca_bd (by decide) (by decide) (by decide) x1 x2)
 have hd:bd 2073071593 (denV w (o.getD []) (q.getD [])):=bd_mono (by decide) x3
 cases h1:isZ (en0 (chn w (o.getD [])).1) with
 | true=>unfold sumV at h; rw [h1] at h; cases h
 | false=>
  cases h2:isZ (en0 (chn w (q.getD [])).1) with
  | true=>unfold sumV at h; rw [h1,h2] at h; cases h
  | false=>
   have e:sumV w (o.getD []) (q.getD []) inv=(⟨(numV w (o.getD []) (q.getD []) inv).num,(numV w (o.getD []) (q.getD []) inv).den,(denV w (o.getD []) (q.getD [])).num,(denV w (o.getD []) (q.getD [])).den⟩,0):=by
    unfold sumV; rw [h1,h2]; rfl
   have hp:0 < sqV (denV w (o.getD []) (q.getD [])):=by
    have p1:=sqV_pos (isZ_not h1)
    have p2:=sqV_pos (isZ_not h2)
    have:sqV (denV w (o.getD []) (q.getD []))=sqV (en0 (chn w (o.getD [])).1) * sqV (en0 (chn w (q.getD [])).1):=by
     unfold denV
     rw [xe]
     exact norm_mul _ _ _ _
    rw [this]
    exact Int.mul_pos p1 p2
   have g1:=sqV_bd hn
   have g2:=sqV_bd hd
   refine ⟨low (sqV (numV w (o.getD []) (q.getD []) inv)) (sqV (denV w (o.getD []) (q.getD []))),?_,?_⟩
   ·unfold f47
    rw [hs,obind_at,e]
    dsimp only
    rw [show (decide ((0:Int)=0))=true from rfl,cond_true]
    rw [show (⟨(numV w (o.getD []) (q.getD []) inv).num,(numV w (o.getD []) (q.getD []) inv).den⟩:GRat)=numV w (o.getD []) (q.getD []) inv from rfl,show (⟨(denV w (o.getD []) (q.getD [])).num,(denV w (o.getD []) (q.getD [])).den⟩:GRat)=denV w (o.getD []) (q.getD []) from rfl,f126_sq hn,obind_at,f126_sq hd,obind_at,f125_low g1.1 g1.2.1 hp g2.2.1,obind_at]
   ·unfold f52
    rw [e]
    dsimp only
    rw [show (⟨(numV w (o.getD []) (q.getD []) inv).num,(numV w (o.getD []) (q.getD []) inv).den⟩:GRat)=numV w (o.getD []) (q.getD []) inv from rfl,show (⟨(denV w (o.getD []) (q.getD [])).num,(denV w (o.getD []) (q.getD [])).den⟩:GRat)=denV w (o.getD []) (q.getD []) from rfl,f130_sq hn,obind_at,f130_sq hd,obind_at,f66_low g1.1 g1.2.1 hp g2.2.1,obind_at]
theorem sum_no (ha:branchE (o.getD [])=0) (hb:branchE (q.getD [])=0) (hw:checkRange w 1 8=0) (h:(sumV w (o.getD []) (q.getD []) inv).2 ≠ 0):
  f47 o q w inv=some (⟨0,0⟩,(sumV w (o.getD []) (q.getD []) inv).2):=by
 unfold f47
 rw [f45_ok ha hb hw,obind_at,decide_eq_false h,cond_false]
end
end Go.Z
/-
 Chapter 4: crossings: both sides; the law CrossoverSums is true.
-/
namespace Go.Z
open Go Go.Abs
section
variable (g p:Int→Bool)
def up:Nat→Int→Int→Option Int
 | 0,_,f=>some f
 | n + 1,w,f=>if g w then up n (w + 1) (if f=0 then (if p w then w else f) else f) else none
def dn:Nat→Int→Int→Option Int
 | 0,_,f=>some f
 | n + 1,w,f=>if g w then dn n (w - 1) (if p w then w else f) else none
def rng (w:Int):Nat→List Int
 | 0=>[]
 | n + 1=>w::rng (w + 1) n
def fst1 (z:Int):List Int→Int
 | []=>z
 | x::l=>if p x then x else fst1 z l
theorem rng_snoc:∀ (n:Nat) (w:Int),rng w (n + 1)=rng w n++[w + n]
 | 0,w=>by simp [rng]
 | n + 1,w=>by
  show w::rng (w + 1) (n + 1)=w::rng (w + 1) n++[w + ((n + 1:Nat):Int)]
  rw [rng_snoc n (w + 1),List.cons_append,show w + 1 + (n:Int)=w + ((n + 1:Nat):Int) by omega]
theorem up_eq:∀ (n:Nat) (w f:Int),1≤w→up g p n w f=if (rng w n).all g then some (if f=0 then fst1 p 0 (rng w n) else f) else none
 | 0,w,f,_=>by
  show some f=some (if f=0 then 0 else f)
  split
  ·next h=>rw [h]
  ·rfl
 | n + 1,w,f,hw=>by
  show (if g w then up g p n (w + 1) _ else none)=if (w::rng (w + 1) n).all g then _ else none
  rw [List.all_cons]
  cases hg:g w with
  | false=>rfl
  | true=>
   rw [up_eq n (w + 1) _ (by omega),Bool.true_and]
   cases hr:(rng (w + 1) n).all g with
   | false=>rfl
   | true=>
    simp only [if_true]
    congr 1
    by_cases hf:f=0
    ·subst hf
     show (if (if (0:Int)=0 then (if p w then w else 0) else 0)=0 then _ else _)=if (0:Int)=0 then (if p w then w else fst1 p 0 (rng (w + 1) n)) else 0
     cases hp:p w with
     | true=>simp; omega
     | false=>simp
    ·simp [hf]
theorem fst1_snoc:∀ (l:List Int) (z x:Int),fst1 p z (l++[x])=fst1 p (if p x then x else z) l
 | [],z,x=>rfl
 | y::l,z,x=>by
  show (if p y then y else fst1 p z (l++[x]))=if p y then y else fst1 p (if p x then x else z) l
  rw [fst1_snoc l z x]
theorem dn_eq:∀ (n:Nat) (w f:Int),dn g p n (w + n - 1) f=if (rng w n).all g then some (fst1 p f (rng w n)) else none
 | 0,w,f=>rfl
 | n + 1,w,f=>by
  rw [show w + ((n + 1:Nat):Int) - 1=w + n by omega]
  show (if g (w + n) then dn g p n (w + n - 1) _ else none)=_
  rw [dn_eq n w,rng_snoc,List.all_append,fst1_snoc]
  cases hg:g (w + n) with
  | false=>simp [hg]
  | true=>simp [hg]
theorem up_dn {n:Nat} {w:Int} (hw:1≤w):up g p n w 0=dn g p n (w + n - 1) 0:=by
 rw [up_eq g p n w 0 hw,dn_eq]
 rfl
end
theorem range_of {w:Int} (h1:1≤w) (h2:w≤8):checkRange w 1 8=0:=by
 unfold checkRange
 rw [if_neg (by omega),if_neg (by omega)]
def gW (a b:List GEl) (w:Int):Bool:=decide ((lev w a).2=0) && decide ((lev w b).2=0)
def pW (a b:List GEl) (w:Int):Bool:=!decide ((lev w b).1.num * (lev w a).1.den < (lev w a).1.num * (lev w b).1.den)
section
variable {o q:Option (List GEl)}
theorem up_it (ha:ladderE (o.getD [])=0) (hb:ladderE (q.getD [])=0) {hi:Int} (h8:hi≤8):∀ (n:Nat) (w f:Int),1≤w→w + n=hi + 1 →
  ∃ d,itO (s48_0 o q hi) (f,w)=some d∧(match d with | .inl e=>up (gW (o.getD []) (q.getD [])) (pW (o.getD []) (q.getD [])) n w f=none∧e.1=17 | .inr r=>up (gW (o.getD []) (q.getD [])) (pW (o.getD []) (q.getD [])) n w f=some r.1)
 | 0,w,f,hw,hn=>by
  refine ⟨.inr (f,w),itO_out ?_,rfl⟩
  unfold s48_0
  dsimp only
  rw [decide_eq_false (show ¬ w≤hi by omega)]; rfl
 | n + 1,w,f,hw,hn=>by
  have hr:checkRange w 1 8=0:=range_of hw (by omega)
  have hst:s48_0 o q hi (f,w)=cond (gW (o.getD []) (q.getD []) w) (some (.inl (if f=0 then (if pW (o.getD []) (q.getD []) w then w else f) else f,w + 1))) (some (.inr (.inl (17,(lev w (o.getD [])).1.num,(lev w (o.getD [])).1.den,(lev w (q.getD [])).1.num,(lev w (q.getD [])).1.den)))):=by
   unfold s48_0
   dsimp only
   rw [decide_eq_true (show w≤hi by omega),cond_true,f57_eq ha hr,obind_at,f57_eq hb hr,obind_at,f105_lit (by simp),obind_at,wrapF_i64 (x:=w + 1) (by omega) (by omega)]
   unfold gW
   rcases lev_ok ha hr with h1 | ⟨h1,k1,k2,k3,k4⟩
   ·rw [h1]; rfl
   ·rcases lev_ok hb hr with h2 | ⟨h2,j1,j2,j3,j4⟩
    ·rw [h1,h2]; rfl
    ·rw [h1,h2]
     rw [show (decide (firstNZ [0,0]=0))=true from rfl,show (decide ((0:Int)=0) && decide ((0:Int)=0))=true from rfl,cond_true,cond_true,above_eq k1 k2 (by omega) k4 j1 j2 (by omega) j4,obind_at]
     unfold pW
     by_cases hf:f=0
     ·rw [decide_eq_true hf,cond_true,if_pos hf]
      cases decide ((lev w (q.getD [])).1.num * (lev w (o.getD [])).1.den < (lev w (o.getD [])).1.num * (lev w (q.getD [])).1.den) <;> rfl
     ·rw [decide_eq_false hf,cond_false,if_neg hf]
  cases hg:gW (o.getD []) (q.getD []) w with
  | false=>
   rw [hg] at hst
   exact ⟨_,itO_out hst,by simp [up,hg],rfl⟩
  | true=>
   rw [hg] at hst
   obtain ⟨d,g1,g2⟩:=up_it ha hb h8 n (w + 1) (if f=0 then (if pW (o.getD []) (q.getD []) w then w else f) else f) (by omega) (by omega)
   refine ⟨d,by rw [itO_in hst]; exact g1,?_⟩
   simpa only [up,hg,if_true] using g2
theorem dn_it (ha:ladderE (o.getD [])=0) (hb:ladderE (q.getD [])=0) {lo:Int} (h1':1≤lo):∀ (n:Nat) (w f:Int),w≤8→w=lo + n - 1 →
  ∃ d,itO (s53_0 o q lo) (f,w)=some d∧(match d with | .inl e=>dn (gW (o.getD []) (q.getD [])) (pW (o.getD []) (q.getD [])) n w f=none | .inr r=>dn (gW (o.getD []) (q.getD [])) (pW (o.getD []) (q.getD [])) n w f=some r.1)
 | 0,w,f,hw,hn=>by
  refine ⟨.inr (f,w),itO_out ?_,rfl⟩
  unfold s53_0
  dsimp only
  rw [decide_eq_false (show ¬ lo≤w by omega)]; rfl
 | n + 1,w,f,hw,hn=>by
  have hr:checkRange w 1 8=0:=range_of (by omega) (by omega)
  have hst:s53_0 o q lo (f,w)=cond (gW (o.getD []) (q.getD []) w) (some (.inl (if pW (o.getD []) (q.getD []) w then w else f,w - 1))) (some (.inr (.inl ((lev w (o.getD [])).1.num,(lev w (o.getD [])).1.den,(lev w (q.getD [])).1.num,(lev w (q.getD [])).1.den)))):=by
   unfold s53_0
   dsimp only
   rw [decide_eq_true (show lo≤w by omega),cond_true,f113_eq ha hr,obind_at,f113_eq hb hr,obind_at,wrapF_i64 (x:=w - 1) (by omega) (by omega)]
   unfold gW
   rcases lev_ok ha hr with h1 | ⟨h1,k1,k2,k3,k4⟩
   ·rw [h1]; rfl
   ·rcases lev_ok hb hr with h2 | ⟨h2,j1,j2,j3,j4⟩
    ·rw [h1,h2]; rfl
    ·rw [h1,h2]
     rw [show (decide ((0:Int)=0) && decide ((0:Int)=0))=true from rfl,show (decide ((0:Int)=0))=true from rfl,cond_true,cond_true,cond_true,less_eq j1 j2 j3 j4 k1 k2 k3 k4,obind_at]
     unfold pW
     cases decide ((lev w (q.getD [])).1.num * (lev w (o.getD [])).1.den < (lev w (o.getD [])).1.num * (lev w (q.getD [])).1.den) <;> rfl
  cases hg:gW (o.getD []) (q.getD []) w with
  | false=>
   rw [hg] at hst
   exact ⟨_,itO_out hst,by simp [dn,hg]⟩
  | true=>
   rw [hg] at hst
   obtain ⟨d,g1,g2⟩:=dn_it ha hb h1' n (w - 1) (if pW (o.getD []) (q.getD []) w then w else f) (by omega) (by omega)
   refine ⟨d,by rw [itO_in hst]; exact g1,?_⟩
   simpa only [dn,hg,if_true] using g2
theorem f34_eq {w:Int}:f34 w=some (checkRange w 1 8):=by unfold f34; rw [f40_eq]; rfl
theorem f50_eq {lo hi:Int}:f50 lo hi=some (firstNZ [checkRange lo 1 8,checkRange hi 1 8,whenE (decide (hi < lo)) 11]):=by
 unfold f50
 rw [f34_eq,obind_at,f34_eq,obind_at,f101_eq,obind_at,f100_lit (by simp),obind_at]
def crossE (a b:List GEl) (lo hi:Int):Int:=firstNZ [branchE a,branchE b,checkRange lo 1 8,checkRange hi 1 8,whenE (decide (hi < lo)) 11]
theorem cross_no {lo hi:Int} (h:crossE (o.getD []) (q.getD []) lo hi ≠ 0):f48 o q lo hi=some (0,crossE (o.getD []) (q.getD []) lo hi):=by
 unfold f48
 rw [f121_eq,obind_at,f121_eq,obind_at,f122_eq,obind_at,f122_eq,obind_at,f106_eq,obind_at,f105_lit (by simp),obind_at]
 show cond (decide (crossE (o.getD []) (q.getD []) lo hi=0)) _ _=_
 rw [decide_eq_false h]; rfl
theorem cross_ok {lo hi:Int} (h:crossE (o.getD []) (q.getD []) lo hi=0):∃ c e,f48 o q lo hi=some (c,e)∧f53 o q lo hi=some (c,e)∧(e ≠ 0→c=0):=by
 have h0:=h
 unfold crossE at h
 rw [first_zero] at h
 have ha:=(branchE_ok (h (branchE (o.getD [])) (by simp))).1
 have hb:=(branchE_ok (h (branchE (q.getD [])) (by simp))).1
 have h1:=rangeZ (h (checkRange lo 1 8) (by simp))
 have h2:=rangeZ (h (checkRange hi 1 8) (by simp))
 have h3:lo≤hi:=by
  have:=h (whenE (decide (hi < lo)) 11) (by simp)
  by_cases k:hi < lo
  ·rw [decide_eq_true k] at this; cases this
  ·omega
 obtain ⟨d,g1,g2⟩:=up_it ha hb h2.2 (hi - lo + 1).toNat lo 0 h1.1 (by omega)
 obtain ⟨d',g3,g4⟩:=dn_it ha hb h1.1 (hi - lo + 1).toNat hi 0 h2.2 (by omega)
 have hud:=up_dn (gW (o.getD []) (q.getD [])) (pW (o.getD []) (q.getD [])) (n:=(hi - lo + 1).toNat) h1.1
 rw [show lo + (((hi - lo + 1).toNat:Nat):Int) - 1=hi by omega] at hud
 have e48:f48 o q lo hi=obind (itO (s48_0 o q hi) (0,lo)) fun d49=>match d49 with
   | .inl d51=>some (0,d51.1)
   | .inr d52=>obind (f106 (decide (d52.1=0)) 7) fun v53=>some (d52.1,v53):=by
  unfold f48
  rw [f121_eq,obind_at,f121_eq,obind_at,f122_eq,obind_at,f122_eq,obind_at,f106_eq,obind_at,f105_lit (by simp),obind_at]
  show cond (decide (crossE (o.getD []) (q.getD []) lo hi=0)) _ _=_
  rw [decide_eq_true h0]; rfl
 rw [e48,g1,obind_at]
 unfold f53
 rw [g3,obind_at]
 rcases d with d | d
 ·rcases d' with d' | d'
  ·dsimp only at g2 ⊢
   exact ⟨0,17,by rw [g2.2],rfl,fun _=>rfl⟩
  ·dsimp only at g2 g4
   rw [hud,g4] at g2
   cases g2.1
 ·rcases d' with d' | d'
  ·dsimp only at g2 g4
   rw [hud,g4] at g2
   cases g2
  ·dsimp only at g2 g4 ⊢
   rw [hud,g4] at g2
   have e:=Option.some.inj g2
   rw [f106_eq,obind_at,f101_eq,obind_at,e]
   refine ⟨d.1,_,rfl,rfl,fun k=>?_⟩
   by_cases hz:d.1=0
   ·exact hz
   ·rw [decide_eq_false hz] at k; exact absurd rfl k
end
theorem f43_ok {c e:Int} (h:e ≠ 0→c=0):f43 c e e c=some true:=by
 unfold f43
 by_cases he:e=0
 ·rw [decide_eq_true he]; simp
 ·rw [decide_eq_false he,h he]; simp
theorem f43_no {e:Int} (h:e ≠ 0):f43 0 e e 0=some true:=by
 unfold f43
 rw [decide_eq_false h]; simp
theorem f6_true (x:GBran) (inv:Bool):f6 x inv=some true:=by
 unfold f6
 rw [show E16=some true from rfl,obind_at,cond_true]
 obtain ⟨b1,k1,k2⟩:=f44_eq (o:=x.x)
 rw [k1,obind_at]
 cases b1 with
 | false=>rfl
 | true=>
  obtain ⟨b2,k3,k4⟩:=f44_eq (o:=x.y)
  rw [cond_true,k3,obind_at]
  cases b2 with
  | false=>rfl
  | true=>
   have n1:=k2 rfl
   have n2:=k4 rfl
   rw [cond_true,f46_eq (by omega),obind_at,f46_eq (by omega),obind_at]
   dsimp only
   have q1:=nonNil_getD (x.x.getD [])
   have q2:=nonNil_getD (x.y.getD [])
   -- what the program gives for copies is what it gives for the lists
   have c45:f45 (nonNil (x.x.getD [])) (nonNil (x.y.getD [])) x.lo inv=f45 x.x x.y x.lo inv∨True:=.inr trivial
   rw [f49_eq,f49_eq]
   simp only [obind_at]
   rw [show f32 (some [branchE (x.x.getD []),branchE (x.y.getD [])])=some (firstNZ [branchE (x.x.getD []),branchE (x.y.getD [])]) by unfold f32; rw [f100_lit (by simp)]; rfl]
   simp only [obind_at]
   rw [f34_eq]
   simp only [obind_at]
   rw [show f32 (some [firstNZ [branchE (x.x.getD []),branchE (x.y.getD [])],checkRange x.lo 1 8])=some (firstNZ [branchE (x.x.getD []),branchE (x.y.getD []),checkRange x.lo 1 8]) by unfold f32; rw [f100_lit (by simp)]; simp only [obind_at,first_two]]
   rw [f50_eq]
   simp only [obind_at]
   rw [show f32 (some [firstNZ [branchE (x.x.getD []),branchE (x.y.getD [])],firstNZ [checkRange x.lo 1 8,checkRange x.hi 1 8,whenE (decide (x.hi < x.lo)) 11]])=some (crossE (x.x.getD []) (x.y.getD []) x.lo x.hi) by unfold f32; rw [f100_lit (by simp)]; simp only [obind_at,first_five]; rfl]
   simp only [obind_at]
   generalize hP:nonNil (x.x.getD [])=P at q1 ⊢
   generalize hQ:nonNil (x.y.getD [])=Q at q2 ⊢
   -- the crossing
   have hc:∃ c e,f48 P Q x.lo x.hi=some (c,e)∧((crossE (x.x.getD []) (x.y.getD []) x.lo x.hi=0∧f53 x.x x.y x.lo x.hi=some (c,e)∧(e ≠ 0→c=0))∨(crossE (x.x.getD []) (x.y.getD []) x.lo x.hi ≠ 0∧c=0∧e=crossE (x.x.getD []) (x.y.getD []) x.lo x.hi)):=by
    by_cases h:crossE (x.x.getD []) (x.y.getD []) x.lo x.hi=0
    ·obtain ⟨c,e,j1,j2,j3⟩:=cross_ok (o:=P) (q:=Q) (by rw [q1,q2]; exact h)
     obtain ⟨c',e',i1,i2,i3⟩:=cross_ok (o:=x.x) (q:=x.y) h
     have hh:f48 P Q x.lo x.hi=f48 x.x x.y x.lo x.hi∨True:=.inr trivial
     have e53:f53 P Q x.lo x.hi=f53 x.x x.y x.lo x.hi:=by
      unfold f53
      have:s53_0 P Q x.lo=s53_0 x.x x.y x.lo:=by
       funext s
       unfold s53_0 f113 f160 f128 f129
       have u1:∀ w,s128_0 P w=s128_0 x.x w:=fun w=>by funext s; unfold s128_0; rw [q1]
       have u2:∀ w,s129_0 P w=s129_0 x.x w:=fun w=>by funext s; unfold s129_0; rw [q1]
       have u3:∀ w,s128_0 Q w=s128_0 x.y w:=fun w=>by funext s; unfold s128_0; rw [q2]
       have u4:∀ w,s129_0 Q w=s129_0 x.y w:=fun w=>by funext s; unfold s129_0; rw [q2]
       rw [u1,u2,u3,u4]
      rw [this]
     rw [e53,i2] at j2
     exact ⟨c,e,j1,.inl ⟨h,by rw [i2,j2],j3⟩⟩
    ·exact ⟨0,_,cross_no (o:=P) (q:=Q) (by rw [q1,q2]; exact h),.inr ⟨h,rfl,by rw [q1,q2]⟩⟩
   obtain ⟨c,e,j1,j2⟩:=hc
   by_cases hs:firstNZ [branchE (x.x.getD []),branchE (x.y.getD []),checkRange x.lo 1 8]=0
   ·have hs':=hs
    rw [first_zero] at hs
    have ha:=hs (branchE (x.x.getD [])) (by simp)
    have hb:=hs (branchE (x.y.getD [])) (by simp)
    have hw:=hs (checkRange x.lo 1 8) (by simp)
    rw [hs']
    have g1:=f45_ok (o:=P) (q:=Q) (inv:=inv) (by rw [q1]; exact ha) (by rw [q2]; exact hb) hw
    have g2:=f51_ok (o:=x.x) (q:=x.y) (inv:=inv) ha hb hw
    rw [q1,q2] at g1
    rw [g1,obind_at,g2]
    by_cases hz:(sumV x.lo (x.x.getD []) (x.y.getD []) inv).2=0
    ·obtain ⟨L,g3,g4⟩:=sum_ok (o:=P) (q:=Q) (inv:=inv) (by rw [q1]; exact ha) (by rw [q2]; exact hb) hw (by rw [q1,q2]; exact hz)
     rw [q1,q2] at g4
     rw [g3,j1]
     simp only [obind_at,decide_true,cond_true,hz,g4]
     rcases j2 with ⟨h,i2,i3⟩ | ⟨h,i2,i3⟩
     ·rw [decide_eq_true h,cond_true,i2]
      simp [f43_ok i3]
     ·subst i2
      rw [decide_eq_false h,cond_false,← i3]
      simp [f43_no (show e ≠ 0 by rw [i3]; exact h)]
    ·have g3:=sum_no (o:=P) (q:=Q) (inv:=inv) (by rw [q1]; exact ha) (by rw [q2]; exact hb) hw (by rw [q1,q2]; exact hz)
     rw [q1,q2] at g3
     rw [g3,j1]
     simp only [obind_at,decide_true,cond_true,decide_eq_false hz,cond_false]
     rcases j2 with ⟨h,i2,i3⟩ | ⟨h,i2,i3⟩
     ·rw [decide_eq_true h,cond_true,i2]
      simp [f43_ok i3]
     ·subst i2
      rw [decide_eq_false h,cond_false,← i3]
      simp [f43_no (show e ≠ 0 by rw [i3]; exact h)]
   ·have g1:f45 P Q x.lo inv=some (⟨0,0,0,0⟩,firstNZ [branchE (x.x.getD []),branchE (x.y.getD []),checkRange x.lo 1 8]):=by
     unfold f45
     rw [f121_eq,obind_at,f121_eq,obind_at,f122_eq,obind_at,f105_lit (by simp),obind_at,q1,q2,decide_eq_false hs,cond_false]
    have g2:f47 P Q x.lo inv=some (⟨0,0⟩,firstNZ [branchE (x.x.getD []),branchE (x.y.getD []),checkRange x.lo 1 8]):=by
     unfold f47
     rw [g1,obind_at,decide_eq_false hs,cond_false]
    rw [g1,g2,j1]
    simp only [obind_at,decide_eq_false hs,cond_false]
    rcases j2 with ⟨h,i2,i3⟩ | ⟨h,i2,i3⟩
    ·rw [decide_eq_true h,cond_true,i2]
     simp [f43_ok i3]
    ·subst i2
     rw [decide_eq_false h,cond_false,← i3]
     simp [f43_no (show e ≠ 0 by rw [i3]; exact h)]
theorem I6 (x:GBran) (inv:Bool):callIso prZ (X prZ) 6 [.agg [sl 3 vel x.x,sl 3 vel x.y,.int .i64 x.lo,.int .i64 x.hi],.bool inv]=some (.bool true,false):=W6 (f6_true x inv)
end Go.Z
