/-
  Chapter 4: sums of branches, crossings; the law CrossoverSums is true.
-/
import Derived.Test.YtnjngdcbkkonnaaGreatDoorPH
import Derived.Test.YtnjngdcbkkonnaaGreatDoorA6
set_option linter.unusedVariables false
set_option linter.unusedSimpArgs false
set_option maxRecDepth 100000
set_option maxHeartbeats 1000000
namespace Go.Z
open Go Go.Abs
def cs (a b:GRat):GRat:=⟨wrapF .i64 (a.num - b.num),wrapF .i64 (a.den - b.den)⟩
theorem f65_eq {a b:GRat}:f65 a b=some (cs a b):=rfl
theorem mul_abs {B C x y:Int} (h1:-B≤x) (h2:x≤B) (h3:-C≤y) (h4:y≤C) (hB:0≤B) (hC:0≤C):-(B * C)≤x * y∧x * y≤B * C:=by
 rcases Int.le_total 0 y with h | h
 ·exact mulb h1 h2 h h4 hB
 ·have:=mulb (y:=-y) (c:=C) h1 h2 (by omega) (by omega) hB
  rw [Int.mul_neg] at this
  omega
theorem cm_ex {x y:GRat} (hx:bd 5329 x) (hy:bd 5329 y):cm x y=⟨x.num * y.num - x.den * y.den,x.num * y.den + x.den * y.num⟩∧bd 56796482 (cm x y):=by
 obtain ⟨x1,x2,x3,x4⟩:=hx
 obtain ⟨y1,y2,y3,y4⟩:=hy
 have k1:=mul_abs x1 x2 y1 y2 (by decide) (by decide)
 have k2:=mul_abs x3 x4 y3 y4 (by decide) (by decide)
 have k3:=mul_abs x1 x2 y3 y4 (by decide) (by decide)
 have k4:=mul_abs x3 x4 y1 y2 (by decide) (by decide)
 have e:cm x y=⟨x.num * y.num - x.den * y.den,x.num * y.den + x.den * y.num⟩:=by
  unfold cm
  rw [wrapF_i64 (x:=x.num * y.num) (by omega) (by omega),wrapF_i64 (x:=x.den * y.den) (by omega) (by omega),wrapF_i64 (x:=x.num * y.den) (by omega) (by omega),wrapF_i64 (x:=x.den * y.num) (by omega) (by omega),wrapF_i64 (by omega) (by omega),wrapF_i64 (by omega) (by omega)]
 refine ⟨e,?_⟩
 rw [e]
 exact ⟨by dsimp only; omega,by dsimp only; omega,by dsimp only; omega,by dsimp only; omega⟩
theorem cm_1 {u:GRat} (h:bd 56796482 u):cm ⟨1,0⟩ u=u:=by
 obtain ⟨h1,h2,h3,h4⟩:=h
 unfold cm
 simp only [Int.one_mul,Int.zero_mul]
 rw [wrapF_i64 (x:=u.num) (by omega) (by omega),wrapF_i64 (x:=0) (by omega) (by omega),wrapF_i64 (x:=u.den) (by omega) (by omega),wrapF_i64 (by omega) (by omega),wrapF_i64 (by omega) (by omega),Int.sub_zero,Int.add_zero]
theorem cm_m1 {u:GRat} (h:bd 56796482 u):cm ⟨-1,0⟩ u=⟨-u.num,-u.den⟩:=by
 obtain ⟨h1,h2,h3,h4⟩:=h
 unfold cm
 simp only [Int.neg_mul,Int.one_mul,Int.zero_mul]
 rw [wrapF_i64 (x:=-u.num) (by omega) (by omega),wrapF_i64 (x:=0) (by omega) (by omega),wrapF_i64 (x:=-u.den) (by omega) (by omega),wrapF_i64 (by omega) (by omega),wrapF_i64 (by omega) (by omega),Int.sub_zero,Int.add_zero]
theorem ca_neg {z u:GRat}:ca z ⟨-u.num,-u.den⟩=cs z u:=rfl
theorem cs_bd {A B:Int} {x y:GRat} (hA:0≤A) (hB:0≤B) (h:A + B≤9000000000000000000) (hx:bd A x) (hy:bd B y):bd (A + B) (cs x y):=by
 obtain ⟨x1,x2,x3,x4⟩:=hx
 obtain ⟨y1,y2,y3,y4⟩:=hy
 unfold cs
 rw [wrapF_i64 (by omega) (by omega),wrapF_i64 (by omega) (by omega)]
 exact ⟨by dsimp only; omega,by dsimp only; omega,by dsimp only; omega,by dsimp only; omega⟩
theorem norm_mul (a b c d:Int):(a * c - b * d) * (a * c - b * d) + (a * d + b * c) * (a * d + b * c)=(a * a + b * b) * (c * c + d * d):=by grind
def numV (w:Int) (a b:List GEl) (inv:Bool):GRat:=if inv then cs (cm (chn w a).2 (en0 (chn w b).1)) (cm (chn w b).2 (en0 (chn w a).1)) else ca (cm (chn w a).2 (en0 (chn w b).1)) (cm (chn w b).2 (en0 (chn w a).1))
def denV (w:Int) (a b:List GEl):GRat:=cm (en0 (chn w a).1) (en0 (chn w b).1)
def sumV (w:Int) (a b:List GEl) (inv:Bool):GQuad × Int:=
 if isZ (en0 (chn w a).1) then (⟨0,0,0,0⟩,17) else if isZ (en0 (chn w b).1) then (⟨0,0,0,0⟩,17) else (⟨(numV w a b inv).num,(numV w a b inv).den,(denV w a b).num,(denV w a b).den⟩,0)
section
variable {o q:Option (List GEl)} {w:Int} {inv:Bool}
theorem chn_small (hw:checkRange w 1 8=0) (h:branchE (o.getD [])=0):bd 5329 (en0 (chn w (o.getD [])).1)∧bd 5329 (chn w (o.getD [])).2:=by
 obtain ⟨h1,h2⟩:=branchE_ok h
 have hb:=chn_bd (rangeZ hw) (okL_of h1).n (okL_of h1).e
 have hm:pw (o.getD []).length≤5329:=by
  match (o.getD []).length,h2 with
  | 0,_=>decide
  | 1,_=>decide
  | 2,_=>decide
 exact ⟨bd_mono hm hb.a,bd_mono hm hb.e⟩
theorem f45_ok (ha:branchE (o.getD [])=0) (hb:branchE (q.getD [])=0) (hw:checkRange w 1 8=0):f45 o q w inv=some (sumV w (o.getD []) (q.getD []) inv):=by
 obtain ⟨a1,d1⟩:=chn_small hw ha
 obtain ⟨a2,d2⟩:=chn_small hw hb
 unfold f45
 rw [f121_eq,obind_at,f121_eq,obind_at,f122_eq,obind_at,f105_lit (by simp),obind_at,ha,hb,hw]
 rw [show (decide (firstNZ [0,0,0]=0))=true from rfl,cond_true,f60_eq (branchE_ok ha).1 hw,obind_at]
 unfold sumV
 cases h1:isZ (en0 (chn w (o.getD [])).1) with
 | true=>unfold trf; rw [h1]; rfl
 | false=>
  have t1:trf w (o.getD [])=(⟨(chn w (o.getD [])).2.num,(chn w (o.getD [])).2.den,(chn w (o.getD [])).1.m0,(chn w (o.getD [])).1.m1⟩,0):=by unfold trf; rw [h1]; rfl
  rw [t1]
  dsimp only
  rw [show (decide ((0:Int)=0))=true from rfl,cond_true,f60_eq (branchE_ok hb).1 hw,obind_at]
  cases h2:isZ (en0 (chn w (q.getD [])).1) with
  | true=>unfold trf; rw [h2]; rfl
  | false=>
   have t2:trf w (q.getD [])=(⟨(chn w (q.getD [])).2.num,(chn w (q.getD [])).2.den,(chn w (q.getD [])).1.m0,(chn w (q.getD [])).1.m1⟩,0):=by unfold trf; rw [h2]; rfl
   rw [t2]
   dsimp only
   rw [show (decide ((0:Int)=0))=true from rfl,cond_true]
   have x1:=(cm_ex d1 a2).2
   have x2:=(cm_ex d2 a1).2
   simp only [f124_eq,f123_eq,obind_at]
   have r1:(⟨(chn w (o.getD [])).2.num,(chn w (o.getD [])).2.den⟩:GRat)=(chn w (o.getD [])).2:=rfl
   have r2:(⟨(chn w (q.getD [])).2.num,(chn w (q.getD [])).2.den⟩:GRat)=(chn w (q.getD [])).2:=rfl
   have r3:(⟨(chn w (o.getD [])).1.m0,(chn w (o.getD [])).1.m1⟩:GRat)=en0 (chn w (o.getD [])).1:=rfl
   have r4:(⟨(chn w (q.getD [])).1.m0,(chn w (q.getD [])).1.m1⟩:GRat)=en0 (chn w (q.getD [])).1:=rfl
   rw [r1,r2,r3,r4,cm_1 x2,cm_m1 x2,ca_neg]
   cases inv <;> simp [numV,denV]
end
end Go.Z
/-
 Chapter 4: crossings: both sides; the law CrossoverSums is true.
-/
namespace Go.Z
open Go Go.Abs
section
variable (g p:Int→Bool)
def up:Nat→Int→Int→Option Int
 | 0,_,f=>some f
 | n + 1,w,f=>if g w then up n (w + 1) (if f=0 then (if p w then w else f) else f) else none
def rng (w:Int):Nat→List Int
 | 0=>[]
 | n + 1=>w::rng (w + 1) n
def fst1 (z:Int):List Int→Int
 | []=>z
 | x::l=>if p x then x else fst1 z l
theorem up_eq:∀ (n:Nat) (w f:Int),1≤w→up g p n w f=if (rng w n).all g then some (if f=0 then fst1 p 0 (rng w n) else f) else none
 | 0,w,f,_=>by
  show some f=some (if f=0 then 0 else f)
  split
  ·next h=>rw [h]
  ·rfl
 | n + 1,w,f,hw=>by
  show (if g w then up g p n (w + 1) _ else none)=if (w::rng (w + 1) n).all g then _ else none
  rw [List.all_cons]
  cases hg:g w with
  | false=>rfl
  | true=>
   rw [up_eq n (w + 1) _ (by omega),Bool.true_and]
   cases hr:(rng (w + 1) n).all g with
   | false=>rfl
   | true=>
    simp only [if_true]
    congr 1
    by_cases hf:f=0
    ·subst hf
     show (if (if (0:Int)=0 then (if p w then w else 0) else 0)=0 then _ else _)=if (0:Int)=0 then (if p w then w else fst1 p 0 (rng (w + 1) n)) else 0
     cases hp:p w with
     | true=>simp; omega
     | false=>simp
    ·simp [hf]
end
theorem range_of {w:Int} (h1:1≤w) (h2:w≤8):checkRange w 1 8=0:=by
 unfold checkRange
 rw [if_neg (by omega),if_neg (by omega)]
def gW (a b:List GEl) (w:Int):Bool:=decide ((lev w a).2=0) && decide ((lev w b).2=0)
def pW (a b:List GEl) (w:Int):Bool:=!decide ((lev w b).1.num * (lev w a).1.den < (lev w a).1.num * (lev w b).1.den)
section
variable {o q:Option (List GEl)}
theorem up_it (ha:ladderE (o.getD [])=0) (hb:ladderE (q.getD [])=0) {hi:Int} (h8:hi≤8):∀ (n:Nat) (w f:Int),1≤w→w + n=hi + 1 →
  ∃ d,itO (s48_0 o q hi) (f,w)=some d∧(match d with | .inl e=>up (gW (o.getD []) (q.getD [])) (pW (o.getD []) (q.getD [])) n w f=none∧e.1=17 | .inr r=>up (gW (o.getD []) (q.getD [])) (pW (o.getD []) (q.getD [])) n w f=some r.1)
 | 0,w,f,hw,hn=>by
  refine ⟨.inr (f,w),itO_out ?_,rfl⟩
  unfold s48_0
  dsimp only
  rw [decide_eq_false (show ¬ w≤hi by omega)]; rfl
 | n + 1,w,f,hw,hn=>by
  have hr:checkRange w 1 8=0:=range_of hw (by omega)
  have hst:s48_0 o q hi (f,w)=cond (gW (o.getD []) (q.getD []) w) (some (.inl (if f=0 then (if pW (o.getD []) (q.getD []) w then w else f) else f,w + 1))) (some (.inr (.inl (17,(lev w (o.getD [])).1.num,(lev w (o.getD [])).1.den,(lev w (q.getD [])).1.num,(lev w (q.getD [])).1.den)))):=by
   unfold s48_0
   dsimp only
   rw [decide_eq_true (show w≤hi by omega),cond_true,f57_eq ha hr,obind_at,f57_eq hb hr,obind_at,f105_lit (by simp),obind_at,wrapF_i64 (x:=w + 1) (by omega) (by omega)]
   unfold gW
   rcases lev_ok ha hr with h1 | ⟨h1,k1,k2,k3,k4⟩
   ·rw [h1]; rfl
   ·rcases lev_ok hb hr with h2 | ⟨h2,j1,j2,j3,j4⟩
    ·rw [h1,h2]; rfl
    ·rw [h1,h2]
     rw [show (decide (firstNZ [0,0]=0))=true from rfl,show (decide ((0:Int)=0) && decide ((0:Int)=0))=true from rfl,cond_true,cond_true,above_eq k1 k2 (by omega) k4 j1 j2 (by omega) j4,obind_at]
     unfold pW
     by_cases hf:f=0
     ·rw [decide_eq_true hf,cond_true,if_pos hf]
      cases decide ((lev w (q.getD [])).1.num * (lev w (o.getD [])).1.den < (lev w (o.getD [])).1.num * (lev w (q.getD [])).1.den) <;> rfl
     ·rw [decide_eq_false hf,cond_false,if_neg hf]
  cases hg:gW (o.getD []) (q.getD []) w with
  | false=>
   rw [hg] at hst
   exact ⟨_,itO_out hst,by simp [up,hg],rfl⟩
  | true=>
   rw [hg] at hst
   obtain ⟨d,g1,g2⟩:=up_it ha hb h8 n (w + 1) (if f=0 then (if pW (o.getD []) (q.getD []) w then w else f) else f) (by omega) (by omega)
   refine ⟨d,by rw [itO_in hst]; exact g1,?_⟩
   simpa only [up,hg,if_true] using g2
theorem f34_eq {w:Int}:f34 w=some (checkRange w 1 8):=by unfold f34; rw [f40_eq]; rfl
theorem f50_eq {lo hi:Int}:f50 lo hi=some (firstNZ [checkRange lo 1 8,checkRange hi 1 8,whenE (decide (hi < lo)) 11]):=by
 unfold f50
 rw [f34_eq,obind_at,f34_eq,obind_at,f101_eq,obind_at,f100_lit (by simp),obind_at]
def crossE (a b:List GEl) (lo hi:Int):Int:=firstNZ [branchE a,branchE b,checkRange lo 1 8,checkRange hi 1 8,whenE (decide (hi < lo)) 11]
end
end Go.Z
/-
 Chapter 4: sums of branches: their symmetries,and the levels of a branch with itself.
-/
namespace Go.Z
open Go Go.Abs
theorem ca_comm {x y:GRat}:ca x y=ca y x:=by
 unfold ca
 rw [Int.add_comm x.num y.num,Int.add_comm x.den y.den]
theorem cm_comm {x y:GRat}:cm x y=cm y x:=by
 unfold cm
 rw [Int.mul_comm x.num y.num,Int.mul_comm x.den y.den,Int.mul_comm x.num y.den,Int.mul_comm x.den y.num,Int.add_comm]
theorem num_comm {w:Int} {a b:List GEl}:numV w b a false=numV w a b false:=ca_comm
theorem den_comm {w:Int} {a b:List GEl}:denV w b a=denV w a b:=cm_comm
theorem cs_ex {A B:Int} {x y:GRat} (hA:0≤A) (hB:0≤B) (h:A + B≤9000000000000000000) (hx:bd A x) (hy:bd B y):cs x y=⟨x.num - y.num,x.den - y.den⟩:=by
 obtain ⟨x1,x2,x3,x4⟩:=hx
 obtain ⟨y1,y2,y3,y4⟩:=hy
 unfold cs
 rw [wrapF_i64 (by omega) (by omega),wrapF_i64 (by omega) (by omega)]
theorem ca_ex {A B:Int} {x y:GRat} (hA:0≤A) (hB:0≤B) (h:A + B≤9000000000000000000) (hx:bd A x) (hy:bd B y):ca x y=⟨x.num + y.num,x.den + y.den⟩:=by
 obtain ⟨x1,x2,x3,x4⟩:=hx
 obtain ⟨y1,y2,y3,y4⟩:=hy
 unfold ca
 rw [wrapF_i64 (by omega) (by omega),wrapF_i64 (by omega) (by omega)]
theorem sumV_at {w:Int} {a b:List GEl} {inv:Bool} (h1:isZ (en0 (chn w a).1)=false) (h2:isZ (en0 (chn w b).1)=false):
  sumV w a b inv=(⟨(numV w a b inv).num,(numV w a b inv).den,(denV w a b).num,(denV w a b).den⟩,0):=by
 unfold sumV
 rw [h1,h2]; rfl
section
variable {o q:Option (List GEl)} {w:Int} {inv:Bool}
theorem num_bd (ha:branchE (o.getD [])=0) (hb:branchE (q.getD [])=0) (hw:checkRange w 1 8=0):bd 113592964 (numV w (o.getD []) (q.getD []) inv):=by
 obtain ⟨a1,d1⟩:=chn_small hw ha
 obtain ⟨a2,d2⟩:=chn_small hw hb
 have x1:=(cm_ex d1 a2).2
 have x2:=(cm_ex d2 a1).2
 unfold numV
 split
 ·exact cs_bd (A:=56796482) (B:=56796482) (by decide) (by decide) (by decide) x1 x2
 ·exact ca_bd (A:=56796482) (B:=56796482) (by decide) (by decide) (by decide) x1 x2
theorem den_bd (ha:branchE (o.getD [])=0) (hb:branchE (q.getD [])=0) (hw:checkRange w 1 8=0):bd 56796482 (denV w (o.getD []) (q.getD [])):=(cm_ex (chn_small hw ha).1 (chn_small hw hb).1).2
theorem den_sq (ha:branchE (o.getD [])=0) (hb:branchE (q.getD [])=0) (hw:checkRange w 1 8=0):sqV (denV w (o.getD []) (q.getD []))=sqV (en0 (chn w (o.getD [])).1) * sqV (en0 (chn w (q.getD [])).1):=by
 unfold denV
 rw [(cm_ex (chn_small hw ha).1 (chn_small hw hb).1).1]
 exact norm_mul _ _ _ _
theorem num_neg (ha:branchE (o.getD [])=0) (hb:branchE (q.getD [])=0) (hw:checkRange w 1 8=0):numV w (q.getD []) (o.getD []) true=⟨-(numV w (o.getD []) (q.getD []) true).num,-(numV w (o.getD []) (q.getD []) true).den⟩:=by
 have x1:=(cm_ex (chn_small hw ha).2 (chn_small hw hb).1).2
 have x2:=(cm_ex (chn_small hw hb).2 (chn_small hw ha).1).2
 unfold numV
 simp only [if_true]
 rw [cs_ex (A:=56796482) (B:=56796482) (by decide) (by decide) (by decide) x1 x2,cs_ex (A:=56796482) (B:=56796482) (by decide) (by decide) (by decide) x2 x1]
 dsimp only
 congr 1 <;> omega
theorem sum_lev (ha:branchE (o.getD [])=0) (hb:branchE (q.getD [])=0) (hw:checkRange w 1 8=0) (h1:isZ (en0 (chn w (o.getD [])).1)=false) (h2:isZ (en0 (chn w (q.getD [])).1)=false):
  f47 o q w inv=some (low (sqV (numV w (o.getD []) (q.getD []) inv)) (sqV (denV w (o.getD []) (q.getD []))),0):=by
 have hs:=f45_ok (inv:=inv) ha hb hw
 have hn:bd 2073071593 (numV w (o.getD []) (q.getD []) inv):=bd_mono (by decide) (num_bd ha hb hw)
 have hd:bd 2073071593 (denV w (o.getD []) (q.getD [])):=bd_mono (by decide) (den_bd ha hb hw)
 have hp:0 < sqV (denV w (o.getD []) (q.getD [])):=by
  rw [den_sq ha hb hw]
  exact Int.mul_pos (sqV_pos (isZ_not h1)) (sqV_pos (isZ_not h2))
 have g1:=sqV_bd hn
 have g2:=sqV_bd hd
 unfold f47
 rw [hs,obind_at,sumV_at h1 h2]
 dsimp only
 rw [show (decide ((0:Int)=0))=true from rfl,cond_true]
 rw [show (⟨(numV w (o.getD []) (q.getD []) inv).num,(numV w (o.getD []) (q.getD []) inv).den⟩:GRat)=numV w (o.getD []) (q.getD []) inv from rfl,show (⟨(denV w (o.getD []) (q.getD [])).num,(denV w (o.getD []) (q.getD [])).den⟩:GRat)=denV w (o.getD []) (q.getD []) from rfl,f126_sq hn,obind_at,f126_sq hd,obind_at,f125_low g1.1 g1.2.1 hp g2.2.1,obind_at]
end
theorem low_mul {k a b:Int} (hk:0 < k) (ha:0≤a) (hb:0 < b):low (k * a) (k * b)=low a b:=by
 obtain ⟨k,rfl⟩:=Int.eq_ofNat_of_zero_le (show (0:Int)≤k by omega)
 obtain ⟨a,rfl⟩:=Int.eq_ofNat_of_zero_le ha
 obtain ⟨b,rfl⟩:=Int.eq_ofNat_of_zero_le (show (0:Int)≤b by omega)
 unfold low
 rw [← Int.natCast_mul,← Int.natCast_mul]
 simp only [Int.toNat_natCast]
 rw [Nat.gcd_mul_left]
 have hk':0 < k:=by omega
 simp only [← Int.natCast_ediv]
 rw [Nat.mul_div_mul_left _ _ hk',Nat.mul_div_mul_left _ _ hk']
theorem low_parts {a b:Int} (ha:0≤a) (hb:0 < b):∃ g:Int,0 < g∧a=g * (low a b).num∧b=g * (low a b).den:=by
 obtain ⟨a,rfl⟩:=Int.eq_ofNat_of_zero_le ha
 obtain ⟨b,rfl⟩:=Int.eq_ofNat_of_zero_le (show (0:Int)≤b by omega)
 have hg:0 < Nat.gcd a b:=Nat.gcd_pos_of_pos_right _ (by omega)
 refine ⟨(Nat.gcd a b:Nat),by omega,?_,?_⟩
 ·unfold low
  simp only [Int.toNat_natCast]
  rw [← Int.natCast_ediv,← Int.natCast_mul,Nat.mul_div_cancel' (Nat.gcd_dvd_left a b)]
 ·unfold low
  simp only [Int.toNat_natCast]
  rw [← Int.natCast_ediv,← Int.natCast_mul,Nat.mul_div_cancel' (Nat.gcd_dvd_right a b)]
theorem low_four {a b:Int} (ha:0≤a) (hb:0 < b):low (4 * (low a b).num) (low a b).den=low (4 * a) b:=by
 obtain ⟨g,hg,h1,h2⟩:=low_parts ha hb
 obtain ⟨k1,k2,k3,k4⟩:=low_ok ha hb
 generalize low a b=v at h1 h2 k1 k2 k3 k4 ⊢
 rw [h1,h2,show 4 * (g * v.num)=g * (4 * v.num) by rw [Int.mul_left_comm],low_mul hg (by omega) (by omega)]
theorem low_zero {b:Int} (hb:0 < b):low 0 b=⟨0,1⟩:=by
 have h:=low_mul (k:=b) (a:=0) (b:=1) hb (by decide) (by decide)
 rw [Int.mul_zero,Int.mul_one] at h
 rw [h]; rfl
section
variable {o:Option (List GEl)} {w:Int}
theorem self_four (ha:branchE (o.getD [])=0) (hw:checkRange w 1 8=0) (h1:isZ (en0 (chn w (o.getD [])).1)=false):
  f47 o o w false=some (low (4 * (lev w (o.getD [])).1.num) (lev w (o.getD [])).1.den,0):=by
 rw [sum_lev ha ha hw h1 h1]
 obtain ⟨a1,d1⟩:=chn_small hw ha
 obtain ⟨xe,x1⟩:=cm_ex d1 a1
 have hp:=sqV_pos (isZ_not h1)
 have hl:(lev w (o.getD [])).1=low (sqV (chn w (o.getD [])).2) (sqV (en0 (chn w (o.getD [])).1)):=by unfold lev; rw [h1]; rfl
 have hd0:0≤sqV (chn w (o.getD [])).2:=(sqV_bd (bd_mono (by decide) d1)).1
 rw [hl,low_four hd0 hp,den_sq ha ha hw]
 have e:sqV (numV w (o.getD []) (o.getD []) false)=sqV (en0 (chn w (o.getD [])).1) * (4 * sqV (chn w (o.getD [])).2):=by
  unfold numV
  simp only [Bool.false_eq_true,if_false]
  rw [ca_ex (A:=56796482) (B:=56796482) (by decide) (by decide) (by decide) x1 x1,xe]
  unfold sqV
  dsimp only
  generalize (chn w (o.getD [])).2=d
  generalize en0 (chn w (o.getD [])).1=a
  grind
 rw [e,low_mul hp (by omega) hp]
theorem self_none (ha:branchE (o.getD [])=0) (hw:checkRange w 1 8=0) (h1:isZ (en0 (chn w (o.getD [])).1)=false):
  f47 o o w true=some (⟨0,1⟩,0):=by
 rw [sum_lev ha ha hw h1 h1]
 obtain ⟨a1,d1⟩:=chn_small hw ha
 obtain ⟨xe,x1⟩:=cm_ex d1 a1
 have hp:=sqV_pos (isZ_not h1)
 have e:sqV (numV w (o.getD []) (o.getD []) true)=0:=by
  unfold numV
  simp only [if_true]
  rw [cs_ex (A:=56796482) (B:=56796482) (by decide) (by decide) (by decide) x1 x1]
  unfold sqV
  dsimp only
  rw [Int.sub_self,Int.sub_self]; rfl
 rw [e,den_sq ha ha hw,low_zero (Int.mul_pos hp hp)]
theorem lev_small (ha:branchE (o.getD [])=0) (hw:checkRange w 1 8=0) (h1:isZ (en0 (chn w (o.getD [])).1)=false):
  (lev w (o.getD [])).2=0∧0≤(lev w (o.getD [])).1.num∧(lev w (o.getD [])).1.num≤56796482∧1≤(lev w (o.getD [])).1.den∧(lev w (o.getD [])).1.den≤56796482:=by
 obtain ⟨⟨a1,a2,a3,a4⟩,d1,d2,d3,d4⟩:=chn_small hw ha
 have hp:=sqV_pos (isZ_not h1)
 have k1:=sq_le d1 d2 (by decide)
 have k2:=sq_le d3 d4 (by decide)
 have k3:=sq_le a1 a2 (by decide)
 have k4:=sq_le a3 a4 (by decide)
 have hd:0≤sqV (chn w (o.getD [])).2∧sqV (chn w (o.getD [])).2≤56796482:=by unfold sqV; omega
 have he:sqV (en0 (chn w (o.getD [])).1)≤56796482:=by unfold sqV; omega
 have:=low_ok hd.1 hp
 unfold lev
 rw [h1]
 simp only [Bool.false_eq_true,if_false]
 exact ⟨trivial,this.1,by omega,this.2.2.1,by omega⟩
end
end Go.Z
/-
 Chapter 4: crossings: what a crossing says of each frequency.
-/
namespace Go.Z
open Go Go.Abs
theorem rng_all {g:Int→Bool}:∀ {n:Nat} {w:Int},(rng w n).all g=true→∀ k,w≤k→k < w + n→g k=true
 | 0,w,_,k,h1,h2=>by omega
 | n + 1,w,h,k,h1,h2=>by
  have h':(g w && (rng (w + 1) n).all g)=true:=h
  rw [Bool.and_eq_true] at h'
  by_cases hk:k=w
  ·rw [hk]; exact h'.1
  ·exact rng_all h'.2 k (by omega) (by omega)
theorem rng_ex {g:Int→Bool}:∀ {n:Nat} {w:Int},(rng w n).all g=false→∃ k,w≤k∧k < w + n∧g k=false
 | 0,w,h=>by cases h
 | n + 1,w,h=>by
  have h':(g w && (rng (w + 1) n).all g)=false:=h
  cases hg:g w with
  | false=>exact ⟨w,by omega,by omega,hg⟩
  | true=>
   rw [hg,Bool.true_and] at h'
   obtain ⟨k,h1,h2,h3⟩:=rng_ex h'
   exact ⟨k,by omega,by omega,h3⟩
theorem fst1_spec {p:Int→Bool}:∀ {n:Nat} {w:Int},1≤w→(fst1 p 0 (rng w n)=0∧∀ k,w≤k→k < w + n→p k=false)∨(w≤fst1 p 0 (rng w n)∧fst1 p 0 (rng w n) < w + n∧p (fst1 p 0 (rng w n))=true∧∀ k,w≤k→k < fst1 p 0 (rng w n)→p k=false)
 | 0,w,_=>.inl ⟨rfl,fun k h1 h2=>by omega⟩
 | n + 1,w,hw=>by
  have e:fst1 p 0 (rng w (n + 1))=if p w then w else fst1 p 0 (rng (w + 1) n):=rfl
  rw [e]
  cases hp:p w with
  | true=>exact .inr ⟨by simp,by simp; omega,by simpa using hp,fun k h1 h2=>by simp at h2; omega⟩
  | false=>
   simp only [Bool.false_eq_true,if_false]
   rcases fst1_spec (p:=p) (n:=n) (w:=w + 1) (by omega) with ⟨h1,h2⟩ | ⟨h1,h2,h3,h4⟩
   ·refine .inl ⟨h1,fun k k1 k2=>?_⟩
    by_cases hk:k=w
    ·rw [hk]; exact hp
    ·exact h2 k (by omega) (by omega)
   ·refine .inr ⟨by omega,by omega,h3,fun k k1 k2=>?_⟩
    by_cases hk:k=w
    ·rw [hk]; exact hp
    ·exact h4 k (by omega) k2
structure CrossOK (a b:List GEl) (lo hi c e:Int):Prop where
 pole:e=17→c=0
 none:e=7→c=0∧∀ w,lo≤w→w≤hi→pW a b w=false
 some:e=0→lo≤c∧c≤hi∧pW a b c=true∧∀ w,lo≤w→w < c→pW a b w=false
 all:e ≠ 17→∀ w,lo≤w→w≤hi→gW a b w=true
 one:e=17∨e=7∨e=0
 bad:e=17→∃ w,lo≤w∧w≤hi∧gW a b w=false
section
variable {o q:Option (List GEl)}
theorem cross_at {lo hi:Int} (h:crossE (o.getD []) (q.getD []) lo hi=0):∃ c e,f48 o q lo hi=some (c,e)∧CrossOK (o.getD []) (q.getD []) lo hi c e:=by
 have h0:=h
 unfold crossE at h
 rw [first_zero] at h
 have ha:=(branchE_ok (h (branchE (o.getD [])) (by simp))).1
 have hb:=(branchE_ok (h (branchE (q.getD [])) (by simp))).1
 have h1:=rangeZ (h (checkRange lo 1 8) (by simp))
 have h2:=rangeZ (h (checkRange hi 1 8) (by simp))
 have h3:lo≤hi:=by
  have:=h (whenE (decide (hi < lo)) 11) (by simp)
  by_cases k:hi < lo
  ·rw [decide_eq_true k] at this; cases this
  ·omega
 obtain ⟨d,g1,g2⟩:=up_it ha hb h2.2 (hi - lo + 1).toNat lo 0 h1.1 (by omega)
 have e48:f48 o q lo hi=obind (itO (s48_0 o q hi) (0,lo)) fun d49=>match d49 with
   | .inl d51=>some (0,d51.1)
   | .inr d52=>obind (f106 (decide (d52.1=0)) 7) fun v53=>some (d52.1,v53):=by
  unfold f48
  rw [f121_eq,obind_at,f121_eq,obind_at,f122_eq,obind_at,f122_eq,obind_at,f106_eq,obind_at,f105_lit (by simp),obind_at]
  show cond (decide (crossE (o.getD []) (q.getD []) lo hi=0)) _ _=_
  rw [decide_eq_true h0]; rfl
 rw [e48,g1,obind_at]
 have hn:lo + (((hi - lo + 1).toNat:Nat):Int)=hi + 1:=by omega
 rcases d with d | d
 ·dsimp only at g2 ⊢
  refine ⟨0,d.1,rfl,fun _=>rfl,fun k=>?_,fun k=>?_,fun k=>absurd g2.2 k,.inl g2.2,fun _=>?_⟩
  ·rw [g2.2] at k; cases k
  ·rw [g2.2] at k; cases k
  ·have g3:=g2.1
   rw [up_eq _ _ _ _ _ h1.1] at g3
   cases hg:(rng lo (hi - lo + 1).toNat).all (gW (o.getD []) (q.getD [])) with
   | true=>rw [hg] at g3; cases g3
   | false=>
    obtain ⟨k,k1,k2,k3⟩:=rng_ex hg
    exact ⟨k,k1,by omega,k3⟩
 ·dsimp only at g2 ⊢
  rw [up_eq _ _ _ _ _ h1.1] at g2
  cases hg:(rng lo (hi - lo + 1).toNat).all (gW (o.getD []) (q.getD [])) with
  | false=>rw [hg] at g2; cases g2
  | true=>
   rw [hg] at g2
   have e:fst1 (pW (o.getD []) (q.getD [])) 0 (rng lo (hi - lo + 1).toNat)=d.1:=by simpa using g2
   rw [f106_eq,obind_at]
   have sp:=fst1_spec (p:=pW (o.getD []) (q.getD [])) (n:=(hi - lo + 1).toNat) (w:=lo) h1.1
   rw [e,hn] at sp
   have ga:∀ w,lo≤w→w≤hi→gW (o.getD []) (q.getD []) w=true:=fun w k1 k2=>rng_all hg w k1 (by omega)
   rcases sp with ⟨k1,k2⟩ | ⟨k1,k2,k3,k4⟩
   ·refine ⟨d.1,7,by rw [k1]; rfl,fun _=>k1,fun _=>⟨k1,fun w j1 j2=>k2 w j1 (by omega)⟩,fun k=>(by cases k),fun _=>ga,.inr (.inl rfl),fun k=>(by cases k)⟩
   ·have hz:¬ d.1=0:=by omega
    refine ⟨d.1,0,by rw [decide_eq_false hz]; rfl,fun k=>(by cases k),fun k=>(by cases k),fun _=>⟨k1,by omega,k3,k4⟩,fun _=>ga,.inr (.inr rfl),fun k=>(by cases k)⟩
end
end Go.Z
