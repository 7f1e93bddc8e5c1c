/-
  TopConeLine: what comes in, and how it is measured.
-/
import Derived.Test.YtlonjmhacojkjaaGreatDoorC8
import Derived.Test.YtlonjmhacojkjaaGreatDoorC3
import Derived.Test.YtlonjmhacojkjaaGreatDoorN18
import Derived.Test.YtlonjmhacojkjaaGreatDoorH1
import Derived.Test.YtlonjmhacojkjaaGreatDoorB2
set_option linter.unusedVariables false
set_option linter.unusedSimpArgs false
set_option maxRecDepth 100000
namespace Go.Z
open Go Go.Abs
theorem E17_two (a b:Int):E17 (some [a,b])=some (firstNZ [a,b]):=by unfold E17; rw [exO_of ⟨by simp,by simp⟩]; rfl
theorem loop54 {o:Option (List Int)} {l:List Int} (ha:o.getD []=l) (hn:l.length≤9223372036854775807):∀ (d i:Nat),i + d=l.length→∃ r,itO (s54_0 o) (i:Int)=some r
 | 0,i,hi=>by
  have hi:i=l.length:=by omega
  subst hi
  exact ⟨_,itO_out (by unfold s54_0; simp only [ha,Int.lt_irrefl,decide_false,cond_false]; rfl)⟩
 | d + 1,i,hi=>by
  have hlt:i < l.length:=by omega
  have hlt':(i:Int) < (l.length:Int):=by omega
  have hix:idxO l (i:Int)=some l[i]:=by rw [idxO_nat,List.getElem?_eq_getElem hlt]
  have hwr:wrapF .i64 ((i:Int) + 1)=((i + 1:Nat):Int):=wrap_nat (by omega)
  by_cases h1:1048576 < l[i]
  ·exact ⟨_,itO_out (by unfold s54_0; simp only [ha,hlt',decide_true,cond_true,hix,obind_at,h1]; rfl)⟩
  ·by_cases h2:l[i] < -1048576
   ·exact ⟨_,itO_out (by unfold s54_0; simp only [ha,hlt',decide_true,cond_true,hix,obind_at,h1,decide_false,cond_false,h2]; rfl)⟩
   ·obtain ⟨r,e⟩:=loop54 ha hn d (i + 1) (by omega)
    refine ⟨r,?_⟩
    rw [itO_in (s':=((i + 1:Nat):Int)),e]
    unfold s54_0
    simp only [ha,hlt',decide_true,cond_true,hix,obind_at,h1,decide_false,cond_false,h2,hwr]
theorem f18_some {o:Option (List Int)} (hn:(o.getD []).length≤9223372036854775807):∃ r,f18 o=some r:=by
 obtain ⟨r,e⟩:=loop54 rfl hn (o.getD []).length 0 (by omega)
 have e:itO (s54_0 o) 0=some r:=e
 have h54:∃ b,f54 o=some b:=by
  unfold f54
  rw [e,obind_at]
  cases r with
  | inl x=>exact ⟨_,rfl⟩
  | inr x=>exact ⟨_,rfl⟩
 obtain ⟨b,hb⟩:=h54
 have h19:∀ b e,f19 b e=some (if b then e else 0):=fun b e=>by cases b <;> rfl
 unfold f18
 simp only [h19,obind_at,hb,E17_two]
 exact ⟨_,rfl⟩
theorem loop4 {a0:Option (List (Option (List Int)))} {L:List (Option (List Int))} (ha:a0.getD []=L) (hL:L.length≤6) (hn:∀ h∈L,(h.getD []).length≤9223372036854775807) (h0:0 < L.length):∀ (d i:Nat),i + d=L.length →
  ∃ r,itO (s4_0 a0) (i:Int)=some r∧(∀ e,r=.inl e→e ≠ 0)∧(∀ x,r=.inr x→∀ j,i≤j→∀ h,L[j]?=some h→(h.getD []).length=(L[0].getD []).length)
 | 0,i,hi=>by
  have hi:i=L.length:=by omega
  subst hi
  refine ⟨.inr (L.length:Int),itO_out (by unfold s4_0; simp only [ha,Int.lt_irrefl,decide_false,cond_false]),(by intro e h; cases h),?_⟩
  intro x _ j hj h hh
  rw [List.getElem?_eq_none hj] at hh
  cases hh
 | d + 1,i,hi=>by
  have hlt:i < L.length:=by omega
  have hlt':(i:Int) < (L.length:Int):=by omega
  have hix:idxO L (i:Int)=some L[i]:=by rw [idxO_nat,List.getElem?_eq_getElem hlt]
  have hi0:idxO L 0=some L[0]:=by rw [show (0:Int)=((0:Nat):Int) from rfl,idxO_nat,List.getElem?_eq_getElem h0]
  have hwr:wrapF .i64 ((i:Int) + 1)=((i + 1:Nat):Int):=wrap_nat (by omega)
  obtain ⟨r18,e18⟩:=f18_some (hn _ (List.getElem_mem hlt))
  have h19:∀ b e,f19 b e=some (if b then e else 0):=fun b e=>by cases b <;> rfl
  by_cases hz:firstNZ [r18,if (!decide (((L[i].getD []).length:Int)=((L[0].getD []).length:Int)))=true then 2 else 0]=0
  ·obtain ⟨r,e,k1,k2⟩:=loop4 ha hL hn h0 d (i + 1) (by omega)
   refine ⟨r,?_,k1,?_⟩
   ·rw [itO_in (s':=((i + 1:Nat):Int)),e]
    unfold s4_0
    simp only [ha,hlt',decide_true,cond_true,hix,obind_at,e18,hi0,h19,E17_two,hz,hwr]
   ·intro x hx j hj h hh
    rcases Nat.lt_or_ge i j with hij | hij
    ·exact k2 x hx j hij h hh
    ·obtain rfl:i=j:=by omega
     rw [List.getElem?_eq_getElem hlt] at hh
     cases hh
     have h2:=firstNZ_zero hz _ (List.mem_cons_of_mem _ (List.mem_cons_self ..))
     by_cases c:((L[i].getD []).length:Int)=((L[0].getD []).length:Int)
     ·omega
     ·simp [c] at h2
  ·refine ⟨.inl _,itO_out (by unfold s4_0; simp only [ha,hlt',decide_true,cond_true,hix,obind_at,e18,hi0,h19,E17_two,hz,decide_false,cond_false]; rfl),?_,(by intro x h; cases h)⟩
   intro e h; cases h; exact hz
theorem f4_some {a0:Option (List (Option (List Int)))} {L:List (Option (List Int))} (ha:a0.getD []=L) (hL:L.length≤6) (hn:∀ h∈L,(h.getD []).length≤9223372036854775807) (h0:0 < L.length):∃ r,f4 a0=some r∧(r=0→∀ (j:Nat) (h:Option (List Int)),L[j]?=some h→(h.getD []).length=(L[0].getD []).length):=by
 obtain ⟨r,e,k1,k2⟩:=loop4 ha hL hn h0 L.length 0 (by omega)
 have e:itO (s4_0 a0) 0=some r:=e
 unfold f4
 rw [e,obind_at]
 cases r with
 | inl x=>exact ⟨x,rfl,fun h=>absurd h (k1 x rfl)⟩
 | inr x=>exact ⟨0,rfl,fun _ j h hh=>k2 x rfl j (Nat.zero_le _) h hh⟩
theorem loop31 {a0:Option (List (Option (List Int)))} {a1 a2:Int} {s0} {v:Option (List Int)} {l:List Int} (hv:v.getD []=l) (hl:l.length≤8):∀ (d i:Nat),i + d=l.length →
  ∃ r,itO (s3_1 a0 a1 a2 s0 v) (i:Int)=some r∧(r=.inl true∨(∃ x,r=.inr x)∧∀ j,i≤j→∀ y,l[j]?=some y→-100≤y∧y≤100)
 | 0,i,hi=>by
  have hi:i=l.length:=by omega
  subst hi
  refine ⟨.inr (l.length:Int),itO_out (by unfold s3_1; simp only [hv,Int.lt_irrefl,decide_false,cond_false]),.inr ⟨⟨_,rfl⟩,?_⟩⟩
  intro j hj y hy
  rw [List.getElem?_eq_none hj] at hy
  cases hy
 | d + 1,i,hi=>by
  have hlt:i < l.length:=by omega
  have hlt':(i:Int) < (l.length:Int):=by omega
  have hix:idxO l (i:Int)=some l[i]:=by rw [idxO_nat,List.getElem?_eq_getElem hlt]
  have hwr:wrapF .i64 ((i:Int) + 1)=((i + 1:Nat):Int):=wrap_nat (by omega)
  by_cases h1:100 < l[i]
  ·exact ⟨.inl true,itO_out (by unfold s3_1; simp only [hv,hlt',decide_true,cond_true,hix,obind_at,h1,E5]),.inl rfl⟩
  ·by_cases h2:l[i] < -100
   ·exact ⟨.inl true,itO_out (by unfold s3_1; simp only [hv,hlt',decide_true,cond_true,hix,obind_at,h1,decide_false,cond_false,h2,E5]),.inl rfl⟩
   ·obtain ⟨r,e,k⟩:=loop31 (a0:=a0) (a1:=a1) (a2:=a2) (s0:=s0) hv hl d (i + 1) (by omega)
    refine ⟨r,?_,?_⟩
    ·rw [itO_in (s':=((i + 1:Nat):Int)),e]
     unfold s3_1
     simp only [hv,hlt',decide_true,cond_true,hix,obind_at,h1,decide_false,cond_false,h2,hwr]
    ·rcases k with k | ⟨k,k2⟩
     ·exact .inl k
     ·refine .inr ⟨k,fun j hj y hy=>?_⟩
      rcases Nat.lt_or_ge i j with hij | hij
      ·exact k2 j hij y hy
      ·obtain rfl:i=j:=by omega
       rw [List.getElem?_eq_getElem hlt] at hy
       cases hy
       omega
def nameU (i:Nat):List UInt8:=117::Lib.decDigits i
def unitT (i:Nat) (h:List Int):GUnit:=⟨nameU i,some h⟩
def unitsT:Nat→List (Option (List Int))→List GUnit
 | _,[]=>[]
 | i,h::r=>unitT i (h.getD [])::unitsT (i + 1) r
theorem shl_at {k:Nat} (hk:k < 7):shlO .i64 1 (k:Int)=some ((2 ^ k:Nat):Int):=by
 rcases pow7 hk with rfl | rfl | rfl | rfl | rfl | rfl | rfl <;> kernel_rfl
theorem rem7 {n i:Nat} (hn:n≤255) (hi:i < 6):remO (wrapF .i64 (wrapF .i64 (n:Int) + (i:Int))) 7=some (((n + i) % 7:Nat):Int):=by
 rw [wrap_id (x:=(n:Int)) (by omega) (by omega),wrap_id (by omega) (by omega)]
 unfold remO
 rw [if_neg (by omega),Int.tmod_eq_emod_of_nonneg (by omega)]
 rfl
theorem E8_same {a b:Option (List Int)} {l:List Int} (h0:a.getD []=l) (h1:b.getD []=l) (hl:l.length≤1073741824):E8 a b=some true:=by
 unfold E8
 rw [exO_of (by rw [h0]; exact hl),h0,h1]
 simp
theorem ap_nil2 {α:Type} (l:List α) (h:l.length≤1073741824):apO (some []) l=some (some l):=by
 unfold apO apS
 simp [h]
theorem loop30 {a0:Option (List (Option (List Int)))} {a1:Int} {n2:Nat} {L:List (Option (List Int))} (ha:a0.getD []=L) (hL:L.length≤6) (hn2:n2≤255) (hlen:∀ h∈L,0 < (h.getD []).length∧(h.getD []).length≤8):
  ∀ (r:List (Option (List Int))) (i:Nat) (o:Option (List GUnit)) (f1 f2:Bool),L.drop i=r→(o.getD []).length≤i→(f1=true∨o=none)→(f2=true∨o=none) →
  ∃ d,itO (s3_0 a0 a1 (n2:Int)) (o,o,(i:Int),f1,f2)=some d∧(d=.inl true∨(∃ g1 g2 j,d=.inr (app o (unitsT i r),g1,app o (unitsT i r),g2,j))∧∀ h∈r,Lim 100 (h.getD []))
 | [],i,o,f1,f2,hr,hol,hf1,hf2=>by
  have:¬ (i:Int) < (L.length:Int):=by have:=List.drop_eq_nil_iff.1 hr; omega
  refine ⟨.inr (o,f1,o,f2,(i:Int)),itO_out ?_,.inr ⟨⟨f1,f2,_,rfl⟩,by simp⟩⟩
  unfold s3_0
  simp only [ha,this,decide_false,cond_false]
 | h::r,i,o,f1,f2,hr,hol,hf1,hf2=>by
  have hlt:i < L.length:=by
   rcases Nat.lt_or_ge i L.length with h | h
   ·exact h
   ·rw [List.drop_of_length_le h] at hr; cases hr
  have hlt':(i:Int) < (L.length:Int):=by omega
  rw [drop_at hlt] at hr
  have hiv:=(List.cons.inj hr).1
  have hix:idxO L (i:Int)=some h:=by rw [idxO_nat,List.getElem?_eq_getElem hlt,hiv]
  have hwr:wrapF .i64 ((i:Int) + 1)=((i + 1:Nat):Int):=wrap_nat (by omega)
  have hhl:=hlen h (by rw [← hiv]; exact List.getElem_mem _)
  obtain ⟨q,e1,k⟩:=loop31 (a0:=a0) (a1:=a1) (a2:=(n2:Int)) (s0:=(o,o,(i:Int),f1,f2)) (v:=h) rfl hhl.2 (h.getD []).length 0 (by omega)
  have e1:itO (s3_1 a0 a1 (n2:Int) (o,o,(i:Int),f1,f2) h) 0=some q:=e1
  rcases k with rfl | ⟨⟨x,rfl⟩,hin⟩
  ·refine ⟨.inl true,itO_out ?_,.inl rfl⟩
   unfold s3_0
   simp only [ha,hlt',decide_true,cond_true,hix,obind_at,e1]
  ·have hlim:Lim 100 (h.getD []):=fun y hy=>by
    obtain ⟨j,hj⟩:=List.getElem?_of_mem hy
    exact hin j (Nat.zero_le _) y hj
   have hl2:Lim 200 (h.getD []):=fun y hy=>by have:=hlim y hy; omega
   have hk:(n2 + i) % 7 < 7:=Nat.mod_lt _ (by omega)
   have e6:=E6a_eq (a0:=some (h.getD [])) hk hhl.1 hhl.2 hl2 rfl
   have e7:=E7d_eq hk hhl.1 hhl.2 hl2
   have e8:=E8_same (a:=some (h.getD [])) (b:=h) (l:=h.getD []) rfl rfl (by omega)
   have e9:f9 1 (i:Int)=some (Lib.decDigits i):=f9_eq (by omega)
   have hdl:=dec_len 0 i (by omega)
   have ec:catO [117] (Lib.decDigits i)=some (nameU i):=by
    unfold catO
    rw [if_pos (by simp only [List.length_singleton]; omega)]
    rfl
   have hap:apO o [⟨nameU i,some (h.getD [])⟩]=some (some (o.getD []++[unitT i (h.getD [])])):=apO_one (by omega)
   obtain ⟨d,e2,k2⟩:=loop30 ha hL hn2 hlen r (i + 1) (some (o.getD []++[unitT i (h.getD [])])) true true (List.cons.inj hr).2 (by simp; omega) (.inl rfl) (.inl rfl)
   refine ⟨d,?_,?_⟩
   ·rw [itO_in (s':=(some (o.getD []++[unitT i (h.getD [])]),some (o.getD []++[unitT i (h.getD [])]),((i + 1:Nat):Int),true,true)),e2]
    unfold s3_0
    simp only [ha,hlt',decide_true,cond_true,hix,obind_at,e1,rem7 hn2 (show i < 6 by omega),shl_at hk,ap_nil2 (h.getD []) (by omega),e6,e7,e8,e9,ec,hap,hwr]
    rcases hf1 with rfl | rfl
    ·rcases hf2 with rfl | rfl
     ·rfl
     ·cases f2 <;> rfl
    ·cases f1 <;> cases f2 <;> rfl
   ·rcases k2 with k2 | ⟨⟨g1,g2,j,rfl⟩,k3⟩
    ·exact .inl k2
    ·refine .inr ⟨⟨g1,g2,j,by rw [app_cons]; rfl⟩,fun y hy=>?_⟩
     rcases List.mem_cons.1 hy with rfl | hy
     ·exact hlim
     ·exact k3 y hy
end Go.Z
/-
 TopConeLine: the units are valid,printed and read back as they are.
-/
namespace Go.Z
open Go Go.Abs
structure GoodL (L:List (Option (List Int))) (m:Nat):Prop where
 few:L.length≤6
 some:0 < L.length
 m0:0 < m
 m8:m≤8
 len:∀ h∈L,(h.getD []).length=m
 lim:∀ h∈L,Lim 100 (h.getD [])
theorem unitsT_len:∀ (i:Nat) (L:List (Option (List Int))),(unitsT i L).length=L.length
 | _,[]=>rfl
 | i,h::r=>by rw [unitsT,List.length_cons,unitsT_len (i + 1) r,List.length_cons]
theorem unitsT_get:∀ (i:Nat) (L:List (Option (List Int))) (j:Nat),(unitsT i L)[j]?=(L[j]?).map fun h=>unitT (i + j) (h.getD [])
 | _,[],j=>by simp [unitsT]
 | i,h::r,0=>rfl
 | i,h::r,j + 1=>by
  rw [unitsT,List.getElem?_cons_succ,unitsT_get (i + 1) r j,List.getElem?_cons_succ,show i + 1 + j=i + (j + 1) by omega]
theorem unitsT_own:∀ (i:Nat) (L:List (Option (List Int))),(unitsT i L).map ownU=unitsT i L
 | _,[]=>rfl
 | i,h::r=>by
  rw [unitsT,List.map_cons,unitsT_own (i + 1) r]
  rfl
theorem unitsT_mem {i:Nat} {L:List (Option (List Int))} {u:GUnit} (h:u∈unitsT i L):∃ j x,L[j]?=some x∧u=unitT (i + j) (x.getD []):=by
 obtain ⟨j,hj⟩:=List.getElem?_of_mem h
 rw [unitsT_get] at hj
 cases hx:L[j]? with
 | none=>rw [hx] at hj; cases hj
 | some x=>rw [hx] at hj; cases hj; exact ⟨j,x,hx,rfl⟩
theorem name_inj {i j:Nat} (h:nameU i=nameU j):i=j:=by
 have e:=(List.cons.inj h).2
 have h1:=dec_digs i i (Nat.le_refl _)
 have h2:=dec_digs j j (Nat.le_refl _)
 rw [e,h2] at h1
 have:=Option.some.inj h1
 omega
theorem nameAll_digits:∀ {s:List UInt8} {i:Nat},0 < i→(∀ c∈s,48≤c.toNat∧c.toNat≤57)→nameAll i s=true
 | [],_,_,_=>rfl
 | c::s,i,hi,h=>by
  have hc:=h c (by simp)
  rw [nameAll,nameAll_digits (by omega) (fun x hx=>h x (by simp [hx])),Bool.and_true]
  unfold nameB
  have h1:decide (i ≠ 0)=true:=decide_eq_true (by omega)
  have h2:decide (48≤(c.toNat:Int)∧(c.toNat:Int)≤57)=true:=decide_eq_true (by omega)
  rw [h1,h2]
  simp
theorem name_ok {i:Nat} (hi:i < 10):isName (nameU i)=true:=by
 have hl:=dec_len 0 i (by omega)
 have ha:nameAll 0 (nameU i)=true:=by
  unfold nameU
  rw [nameAll,nameAll_digits (by omega) (dec_byte i i (Nat.le_refl _))]
  rfl
 unfold isName
 rw [ha,decide_eq_true (show nameU i ≠ [] by unfold nameU; simp),decide_eq_true (show (nameU i).length≤24 by unfold nameU; simp only [List.length_cons]; omega)]
 rfl
theorem each_ok {l:List Int} (h:Lim 100 l):checkEach (-100000) 100000 l=0:=by
 induction l with
 | nil=>rfl
 | cons x t ih=>
  have hx:=h x (by simp)
  have:checkRange x (-100000) 100000=0:=by
   unfold checkRange
   rw [if_neg (by omega),if_neg (by omega)]
  rw [checkEach,if_pos this]
  exact ih fun y hy=>h y (by simp [hy])
theorem unitT_ok {i:Nat} {h:List Int} (hi:i < 10) (h0:0 < h.length) (h8:h.length≤8) (hl:Lim 100 h):unitE (unitT i h)=0:=by
 have c1:¬ (h.length:Int)=0:=by omega
 have c2:¬ (16:Int) < (h.length:Int):=by omega
 unfold unitE unitT
 simp only [name_ok hi,Option.getD_some,c1,c2,decide_false,each_ok hl,Bool.not_true,whenE]
 rfl
theorem firstT_ok {m:Nat}:∀ (L:List (Option (List Int))) (i:Nat),i + L.length≤10→0 < m→m≤8→(∀ h∈L,(h.getD []).length=m)→(∀ h∈L,Lim 100 (h.getD []))→firstU (m:Int) ((List.range i).map nameU) (unitsT i L)=0
 | [],i,_,_,_,_,_=>rfl
 | h::r,i,hi,hm0,hm8,hlen,hlim=>by
  simp only [List.length_cons] at hi
  have hl:=hlen h (by simp)
  have hs:stepU (m:Int) ((List.range i).map nameU) (unitT i (h.getD []))=0:=by
   have c1:lenU (unitT i (h.getD []))=(m:Int):=by unfold lenU unitT; simp only [Option.getD_some,hl]
   have c2:¬ (unitT i (h.getD [])).serial∈(List.range i).map nameU:=by
    intro hm
    obtain ⟨j,hj,e⟩:=List.mem_map.1 hm
    have:=name_inj e
    have:=List.mem_range.1 hj
    omega
   unfold stepU
   rw [unitT_ok (by omega) (by omega) (by omega) (hlim h (by simp)),decide_eq_true c1,decide_eq_false c2]
   rfl
  rw [unitsT,firstU,if_pos hs]
  have e:(List.range i).map nameU++[(unitT i (h.getD [])).serial]=(List.range (i + 1)).map nameU:=by
   rw [List.range_succ,List.map_append]
   rfl
  rw [e]
  exact firstT_ok r (i + 1) (by omega) hm0 hm8 (fun x hx=>hlen x (by simp [hx])) (fun x hx=>hlim x (by simp [hx]))
theorem unitsT_ok {L:List (Option (List Int))} {m:Nat} (g:GoodL L m):unitsE (unitsT 0 L)=0:=by
 have h0:=g.some
 have hf:=g.few
 unfold unitsE
 rw [if_pos (by rw [unitsT_len]; omega)]
 have e:len0 (unitsT 0 L)=(m:Int):=by
  cases L with
  | nil=>simp at h0
  | cons x t=>
   have:=g.len x (by simp)
   show (((unitT 0 (x.getD [])).values.getD []).length:Int)=_
   unfold unitT
   simp only [Option.getD_some,this]
 rw [e]
 exact firstT_ok L 0 (by omega) g.m0 g.m8 g.len g.lim
theorem takeT:∀ (n i:Nat) (L:List (Option (List Int))),(unitsT i L).take n=unitsT i (L.take n)
 | 0,_,_=>rfl
 | n + 1,i,[]=>rfl
 | n + 1,i,h::r=>by rw [unitsT,List.take_succ_cons,List.take_succ_cons,unitsT,takeT n (i + 1) r]
theorem good_take {L:List (Option (List Int))} {m n:Nat} (g:GoodL L m) (hn:0 < n):GoodL (L.take n) m:=
 ⟨by rw [List.length_take]; have:=g.few; omega,by rw [List.length_take]; have:=g.some; omega,g.m0,g.m8,fun h hh=>g.len h (List.mem_of_mem_take hh),fun h hh=>g.lim h (List.mem_of_mem_take hh)⟩
theorem print_back {L:List (Option (List Int))} {m:Nat} (g:GoodL L m):f10 (some (unitsT 0 L))=some (printT (unitsT 0 L),0)∧f11 (printT (unitsT 0 L))=some (some (unitsT 0 L),0,0):=by
 have hu:=unitsT_ok g
 have hg:=units_unitN hu
 have hgo:∀ u∈unitsT 0 L,GoodU u:=fun u hm=>unit_good (hg.2 u hm)
 have htl:=printT_len hgo
 obtain ⟨hr1,_⟩:=print_read hgo
 refine ⟨f10_good rfl hu,?_⟩
 rw [f11_eq (by omega)]
 unfold parseR
 rw [hr1]
 dsimp only
 rw [unitsT_own,if_pos hu,nonNil_some]
 intro e
 have:=unitsT_len 0 L
 have:=g.some
 rw [e] at *
 simp at *
 omega
end Go.Z
/-
 TopConeLine: each unit that is read fails the tests in which its response leaves the mask,and differs as its response does.
-/
namespace Go.Z
open Go Go.Abs
theorem s33b:@s3_3b=@s3_3:=rfl
theorem s34b:@s3_4b=@s3_4:=rfl
theorem s35b:@s3_5b=@s3_5:=rfl
section
variable {a0:Option (List (Option (List Int)))} {p7:Option (List GUnit)} {o7:Bool} {p22:Option (List GUnit)} {p25:Int} {q0 q1:Option (List Int)} {s2:Int} {v766:GUnit}
theorem loop33 {v772:(Option (List Int)) × Int} {v:Option (List Int)} {x:List Int} (hv:v.getD []=x) (hx:x.length≤8) (h0:x.length≤(q0.getD []).length) (h1:x.length≤(q1.getD []).length):
  ∀ (r:List Int) (k:Nat) (o:Option (List Int)) (fl:Bool),x.drop k=r→(o.getD []).length≤k→(fl=true∨o=none) →
  ∃ fl' j,itO (s3_3 a0 p7 o7 p22 p25 q0 q1 s2 v766 v772 v) (o,(k:Int),fl)=some (app o (failsL ⟨q0,q1⟩ k r),fl',j)
 | [],k,o,fl,hr,hl,hf=>by
  have:¬ (k:Int) < (x.length:Int):=by have:=List.drop_eq_nil_iff.1 hr; omega
  refine ⟨fl,(k:Int),itO_out ?_⟩
  unfold s3_3
  simp only [hv,this,decide_false,cond_false,failsL,app]
 | y::r,k,o,fl,hr,hl,hf=>by
  have hlt:k < x.length:=by
   rcases Nat.lt_or_ge k x.length with h | h
   ·exact h
   ·rw [List.drop_of_length_le h] at hr; cases hr
  have hlt':(k:Int) < (x.length:Int):=by omega
  rw [drop_at hlt] at hr
  have hiv:=(List.cons.inj hr).1
  have hix:idxO x (k:Int)=some y:=by rw [idxO_nat,List.getElem?_eq_getElem hlt,hiv]
  have hi0:idxO (q0.getD []) (k:Int)=some (loM ⟨q0,q1⟩ k):=by rw [idxO_nat]; exact loM_get (m:=⟨q0,q1⟩) (by show k < (q0.getD []).length; omega)
  have hi1:idxO (q1.getD []) (k:Int)=some (hiM ⟨q0,q1⟩ k):=by rw [idxO_nat]; exact hiM_get (m:=⟨q0,q1⟩) (by show k < (q1.getD []).length; omega)
  have hwr:wrapF .i64 ((k:Int) + 1)=((k + 1:Nat):Int):=wrap_nat (by omega)
  by_cases c1:y < loM ⟨q0,q1⟩ k
  ·have hF:failsAt ⟨q0,q1⟩ k y=true:=by unfold failsAt failsB; rw [decide_eq_true c1]; rfl
   obtain ⟨fl',j,e⟩:=loop33 (v772:=v772) hv hx h0 h1 r (k + 1) (some (o.getD []++[(k:Int)])) true (List.cons.inj hr).2 (by simp; omega) (.inl rfl)
   refine ⟨fl',j,?_⟩
   rw [itO_in (s':=(some (o.getD []++[(k:Int)]),((k + 1:Nat):Int),true)),e,app_cons,failsL,if_pos hF]
   unfold s3_3
   simp only [hv,hlt',decide_true,cond_true,hix,obind_at,hi0,c1,hwr]
   exact app_own hf (by omega)
  ·by_cases c2:hiM ⟨q0,q1⟩ k < y
   ·have hF:failsAt ⟨q0,q1⟩ k y=true:=by unfold failsAt failsB; rw [decide_eq_true c2,Bool.or_true]
    obtain ⟨fl',j,e⟩:=loop33 (v772:=v772) hv hx h0 h1 r (k + 1) (some (o.getD []++[(k:Int)])) true (List.cons.inj hr).2 (by simp; omega) (.inl rfl)
    refine ⟨fl',j,?_⟩
    rw [itO_in (s':=(some (o.getD []++[(k:Int)]),((k + 1:Nat):Int),true)),e,app_cons,failsL,if_pos hF]
    unfold s3_3
    simp only [hv,hlt',decide_true,cond_true,hix,obind_at,hi0,c1,decide_false,cond_false,hi1,c2,hwr]
    exact app_own hf (by omega)
   ·have hF:¬ failsAt ⟨q0,q1⟩ k y=true:=by unfold failsAt failsB; rw [decide_eq_false c1,decide_eq_false c2]; simp
    obtain ⟨fl',j,e⟩:=loop33 (v772:=v772) hv hx h0 h1 r (k + 1) o fl (List.cons.inj hr).2 (by omega) hf
    refine ⟨fl',j,?_⟩
    rw [itO_in (s':=(o,((k + 1:Nat):Int),fl)),e,failsL,if_neg hF]
    unfold s3_3
    simp only [hv,hlt',decide_true,cond_true,hix,obind_at,hi0,c1,decide_false,cond_false,hi1,c2,hwr]
def sub2 (p:Int × Int):Int:=p.1 - p.2
theorem loop34 {v v0:Option (List Int)} {x x0:List Int} (hv:v.getD []=x) (hx:x.length≤8) (h00:idxO (a0.getD []) 0=some v0) (hv0:v0.getD []=x0) (hl0:x0.length=x.length) (hx1:Lim 100 x) (hx2:Lim 100 x0):
  ∀ (r:List (Int × Int)) (k:Nat) (o:Option (List Int)) (fl:Bool),(x.zip x0).drop k=r→(o.getD []).length≤k→(fl=true∨o=none) →
  ∃ fl' j,itO (s3_4 a0 p7 o7 p22 p25 q0 q1 s2 v766 v) (o,(k:Int),fl)=some (app o (r.map sub2),fl',j)
 | [],k,o,fl,hr,hl,hf=>by
  have:¬ (k:Int) < (x.length:Int):=by have:=List.drop_eq_nil_iff.1 hr; rw [List.length_zip] at this; omega
  refine ⟨fl,(k:Int),itO_out ?_⟩
  unfold s3_4
  simp only [hv,this,decide_false,cond_false,List.map_nil,app]
 | p::r,k,o,fl,hr,hl,hf=>by
  have hlz:k < (x.zip x0).length:=by
   rcases Nat.lt_or_ge k (x.zip x0).length with h | h
   ·exact h
   ·rw [List.drop_of_length_le h] at hr; cases hr
  have hlt:k < x.length:=by rw [List.length_zip] at hlz; omega
  have hlt0:k < x0.length:=by omega
  have hlt':(k:Int) < (x.length:Int):=by omega
  rw [drop_at hlz] at hr
  have hiv:=(List.cons.inj hr).1
  rw [List.getElem_zip] at hiv
  have hix:idxO x (k:Int)=some p.1:=by rw [idxO_nat,List.getElem?_eq_getElem hlt,← hiv]
  have hix0:idxO x0 (k:Int)=some p.2:=by rw [idxO_nat,List.getElem?_eq_getElem hlt0,← hiv]
  have b1:-100≤p.1∧p.1≤100:=hx1 _ (by rw [← hiv]; exact List.getElem_mem hlt)
  have b2:-100≤p.2∧p.2≤100:=hx2 _ (by rw [← hiv]; exact List.getElem_mem hlt0)
  have hwr:wrapF .i64 ((k:Int) + 1)=((k + 1:Nat):Int):=wrap_nat (by omega)
  have hws:wrapF .i64 (p.1 - p.2)=sub2 p:=wrap_id (by omega) (by omega)
  obtain ⟨fl',j,e⟩:=loop34 hv hx h00 hv0 hl0 hx1 hx2 r (k + 1) (some (o.getD []++[sub2 p])) true (List.cons.inj hr).2 (by simp; omega) (.inl rfl)
  refine ⟨fl',j,?_⟩
  rw [itO_in (s':=(some (o.getD []++[sub2 p]),((k + 1:Nat):Int),true)),e,app_cons]; · rfl
  unfold s3_4
  simp only [hv,hlt',decide_true,cond_true,hix,obind_at,h00,hv0,hix0,hws,hwr]
  exact app_own hf (by omega)
theorem loop35 {D:List Int} {e:Int} {v876:Int × Int} (hD:D.length≤8) (hB:Lim 200 D):∀ (r:List Int) (k:Nat) (s:Int),D.drop k=r →
  ∃ j,itO (s3_5 a0 p7 o7 p22 p25 q0 q1 s2 v766 (some D,e) v876) (s,(k:Int))=some (r.foldl (fun s d=>max (max s d) (0 - d)) s,j)
 | [],k,s,hr=>by
  have:¬ (k:Int) < (D.length:Int):=by have:=List.drop_eq_nil_iff.1 hr; omega
  refine ⟨(k:Int),itO_out ?_⟩
  unfold s3_5
  simp only [Option.getD_some,this,decide_false,cond_false,List.foldl_nil]
 | y::r,k,s,hr=>by
  have hlt:k < D.length:=by
   rcases Nat.lt_or_ge k D.length with h | h
   ·exact h
   ·rw [List.drop_of_length_le h] at hr; cases hr
  have hlt':(k:Int) < (D.length:Int):=by omega
  rw [drop_at hlt] at hr
  have hiv:=(List.cons.inj hr).1
  have hix:idxO D (k:Int)=some y:=by rw [idxO_nat,List.getElem?_eq_getElem hlt,hiv]
  have hy:=hB y (by rw [← hiv]; exact List.getElem_mem hlt)
  have hwr:wrapF .i64 ((k:Int) + 1)=((k + 1:Nat):Int):=wrap_nat (by omega)
  have hws:wrapF .i64 (0 - y)=0 - y:=wrap_id (by omega) (by omega)
  obtain ⟨j,e1⟩:=loop35 (e:=e) (v876:=v876) hD hB r (k + 1) (max (max s y) (0 - y)) (List.cons.inj hr).2
  refine ⟨j,?_⟩
  rw [itO_in (s':=(max (max s y) (0 - y),((k + 1:Nat):Int))),e1]; · rfl
  unfold s3_5
  simp only [Option.getD_some,hlt',decide_true,cond_true,hix,obind_at,hws,hwr]
end
theorem fold_diff:∀ (z:List (Int × Int)) (s:Int),(z.map sub2).foldl (fun s d=>max (max s d) (0 - d)) s=z.foldl stepD s
 | [],s=>rfl
 | p::z,s=>by
  rw [List.map_cons,List.foldl_cons,List.foldl_cons,fold_diff z]
  congr 1
  unfold stepD sub2
  congr 1
  omega
theorem f14_at {a b:GUnit} (ha:unitE a=0) (hb:unitE b=0) (sa:sizeU a) (sb:sizeU b) (hl:(a.values.getD []).length=(b.values.getD []).length):f14 a b=some (diffU a b,0):=by
 have c:((a.values.getD []).length:Int)=((b.values.getD []).length:Int):=by omega
 have h1:E50 a=some 0:=by unfold E50; rw [exO_of sa,ha]
 have h2:E50 b=some 0:=by unfold E50; rw [exO_of sb,hb]
 have h3:E17 (some [0,0,0])=some 0:=by unfold E17; rw [exO_of ⟨by simp,by simp⟩]; rfl
 unfold f14
 simp only [h1,obind_at,h2,c,decide_true,Bool.not_true,E57,whenE,Bool.false_eq_true,if_false,h3,cond_true,f51_eq (unit_ok ha) (unit_ok hb) hl]
end Go.Z
/-
 TopConeLine runs true.
-/
namespace Go.Z
open Go Go.Abs
theorem failsL_len {m:GMask}:∀ (l:List Int) (k:Nat),(failsL m k l).length≤l.length
 | [],_=>Nat.le_refl _
 | v::l,k=>by
  have:=failsL_len (m:=m) l (k + 1)
  rw [failsL]
  split <;> simp only [List.length_cons] <;> omega
theorem lenN_T {L:List (Option (List Int))} {m:Nat} (g:GoodL L m):lenN (unitsT 0 L)=m:=by
 have h0:=g.some
 cases L with
 | nil=>simp at h0
 | cons x t=>exact g.len x (by simp)
theorem win_T {i:Nat} {L:List (Option (List Int))} (hl:∀ h∈L,Lim 100 (h.getD [])):winU (unitsT i L):=by
 intro u hu v hv
 obtain ⟨j,x,hx,rfl⟩:=unitsT_mem hu
 have:=hl x (List.mem_of_getElem? hx) v hv
 omega
theorem size_T {i:Nat} {x:List Int} (hi:i < 10) (hx:x.length≤8):sizeU (unitT i x):=by
 have:=dec_len 0 i (by omega)
 refine ⟨?_,?_⟩
 ·show (nameU i).length≤_
  unfold nameU
  simp only [List.length_cons]; omega
 ·show x.length≤_
  omega
theorem step32 {a0:Option (List (Option (List Int)))} {L:List (Option (List Int))} {m n1 gN:Nat} (ha:a0.getD []=L) (g:GoodL L m) (h1:n1≤255) (hg0:0 < gN) (hgl:gN≤L.length) {o7:Bool} {i:Nat} (hi:i < L.length):
  s3_2 a0 (some (unitsT 0 L)) o7 (some (unitsT 0 L)) (gN:Int) (goldM (unitsT 0 (L.take gN)) (n1:Int)).least (goldM (unitsT 0 (L.take gN)) (n1:Int)).most (i:Int)=some (.inl ((i + 1:Nat):Int)):=by
 have hgT:=good_take (n:=gN) g hg0
 have hf:=g.few
 have hm8:=g.m8
 have hm0:=g.m0
 obtain ⟨T,hTe⟩:∃ T,unitsT 0 (L.take gN)=T:=⟨_,rfl⟩
 have hT:unitsE T=0:=by rw [← hTe]; exact unitsT_ok hgT
 have hTl:T.length=min gN L.length:=by rw [← hTe,unitsT_len,List.length_take]
 have hne:T ≠ []:=fun e=>by rw [e] at hTl; simp at hTl; omega
 have hw:winU T:=by rw [← hTe]; exact win_T hgT.lim
 have hlN:lenN T=m:=by rw [← hTe]; exact lenN_T hgT
 rw [hTe]
 obtain ⟨M,hM⟩:∃ M,goldM T (n1:Int)=M:=⟨_,rfl⟩
 have hMl:(M.least.getD []).length=m:=by rw [← hM]; simp [goldM,hlN]
 have hMm:(M.most.getD []).length=m:=by rw [← hM]; simp [goldM,hlN]
 have hMs:M=⟨some (M.least.getD []),some (M.most.getD [])⟩:=by rw [← hM]; rfl
 have hMk:maskE M=0:=by rw [← hM]; exact gold_mask hT hne hw (by omega) (by omega)
 obtain ⟨h,hh⟩:∃ h,L[i]=h:=⟨_,rfl⟩
 obtain ⟨h0,hh0⟩:∃ h,L[0]=h:=⟨_,rfl⟩
 have hmem:h∈L:=by rw [← hh]; exact List.getElem_mem hi
 have hmem0:h0∈L:=by rw [← hh0]; exact List.getElem_mem _
 have hxl:=g.len h hmem
 have hxl0:=g.len h0 hmem0
 have hxB:=g.lim h hmem
 have hxB0:=g.lim h0 hmem0
 obtain ⟨x,hx⟩:∃ x,h.getD []=x:=⟨_,rfl⟩
 obtain ⟨x0,hx0⟩:∃ x,h0.getD []=x:=⟨_,rfl⟩
 rw [hx] at hxl hxB
 rw [hx0] at hxl0 hxB0
 have hix:idxO L (i:Int)=some h:=by rw [idxO_nat,List.getElem?_eq_getElem hi,hh]
 have hi0:idxO L 0=some h0:=by rw [show (0:Int)=((0:Nat):Int) from rfl,idxO_nat,List.getElem?_eq_getElem (by omega),hh0]
 have hU:idxO (unitsT 0 L) (i:Int)=some (unitT i x):=by rw [idxO_nat,unitsT_get,List.getElem?_eq_getElem hi,hh,Option.map_some,hx,Nat.zero_add]
 have hU0:idxO (unitsT 0 L) 0=some (unitT 0 x0):=by rw [show (0:Int)=((0:Nat):Int) from rfl,idxO_nat,unitsT_get,List.getElem?_eq_getElem (by omega),hh0,Option.map_some,hx0]
 have hul:((unitsT 0 L).length:Int)=(L.length:Int):=by rw [unitsT_len]
 have hlt':(i:Int) < (L.length:Int):=by omega
 have hwr:wrapF .i64 ((i:Int) + 1)=((i + 1:Nat):Int):=wrap_nat (by omega)
 have hE:unitE (unitT i x)=0:=unitT_ok (by omega) (by omega) (by omega) hxB
 have hE0:unitE (unitT 0 x0)=0:=unitT_ok (by omega) (by omega) (by omega) hxB0
 have htest:testedE M (unitT i x)=0:=by
  have c:(((unitT i x).values.getD []).length:Int)=((M.least.getD []).length:Int):=by
   show (x.length:Int)=_
   rw [hMl,hxl]
  unfold testedE
  rw [hMk,hE,decide_eq_true c]
  rfl
 have h13:E13 ⟨some (M.least.getD []),some (M.most.getD [])⟩ (unitT i x)=some (nonNil (failsL M 0 x),0):=by
  rw [← hMs]
  unfold E13
  rw [exO_of ⟨⟨by omega,by omega⟩,size_T (by omega) (by omega)⟩,htest]
  unfold failuresM
  rw [if_pos htest]
  rfl
 have hap0:=ap_nil2 (M.least.getD []) (by omega)
 have hap1:=ap_nil2 (M.most.getD []) (by omega)
 have hfl:=failsL_len (m:=M) x 0
 obtain ⟨f3,j3,e33⟩:=loop33 (a0:=a0) (p7:=some (unitsT 0 L)) (o7:=o7) (p22:=some (unitsT 0 L)) (p25:=(gN:Int)) (q0:=M.least) (q1:=M.most) (s2:=(i:Int)) (v766:=unitT i x) (v772:=(nonNil (failsL M 0 x),0)) hx (by omega) (by omega) (by omega) x 0 none false rfl (by simp) (.inr rfl)
 have e33:itO (s3_3 a0 (some (unitsT 0 L)) o7 (some (unitsT 0 L)) (gN:Int) M.least M.most (i:Int) (unitT i x) (nonNil (failsL M 0 x),0) h) (none,0,false)=some (app none (failsL M 0 x),f3,j3):=e33
 have h8:E8 (nonNil (failsL M 0 x)) (app none (failsL M 0 x))=some true:=E8_same (l:=failsL M 0 x) (nonNil_get _) (by rw [app_get]; rfl) (by omega)
 obtain ⟨f4',j4,e34⟩:=loop34 (a0:=a0) (p7:=some (unitsT 0 L)) (o7:=o7) (p22:=some (unitsT 0 L)) (p25:=(gN:Int)) (q0:=M.least) (q1:=M.most) (s2:=(i:Int)) (v766:=unitT i x) hx (by omega) (by rw [ha]; exact hi0) hx0 (by omega) hxB hxB0 (x.zip x0) 0 none false rfl (by simp) (.inr rfl)
 obtain ⟨D,hD⟩:∃ D,(x.zip x0).map sub2=D:=⟨_,rfl⟩
 rw [hD] at e34
 have e34:itO (s3_4 a0 (some (unitsT 0 L)) o7 (some (unitsT 0 L)) (gN:Int) M.least M.most (i:Int) (unitT i x) h) (none,0,false)=some (app none D,f4',j4):=e34
 have hDl:D.length=m:=by rw [← hD,List.length_map,List.length_zip]; omega
 have hDB:Lim 200 D:=by
  intro d hd
  rw [← hD] at hd
  obtain ⟨p,hp,rfl⟩:=List.mem_map.1 hd
  have b1:=hxB _ (List.of_mem_zip (a:=p.1) (b:=p.2) hp).1
  have b2:=hxB0 _ (List.of_mem_zip (a:=p.1) (b:=p.2) hp).2
  unfold sub2
  omega
 have e6:E6a (app none D) 8=some (some (cv D (gol 3).1),some (cv D (gol 3).2),0):=E6a_eq (a0:=app none D) (h:=D) (k:=3) (by omega) (by omega) (by omega) hDB (by rw [app_get]; rfl)
 have e7:E7d (some (cv D (gol 3).1)) (some (cv D (gol 3).2)) 8=some (some D,0):=E7d_eq (h:=D) (k:=3) (by omega) (by omega) (by omega) hDB
 have e14:=f14_at hE hE0 (size_T (by omega) (by omega)) (size_T (by omega) (by omega)) (by show x.length=x0.length; omega)
 obtain ⟨j5,e35⟩:=loop35 (a0:=a0) (p7:=some (unitsT 0 L)) (o7:=o7) (p22:=some (unitsT 0 L)) (p25:=(gN:Int)) (q0:=M.least) (q1:=M.most) (s2:=(i:Int)) (v766:=unitT i x) (e:=0) (v876:=(diffU (unitT i x) (unitT 0 x0),0)) (by omega) hDB D 0 0 rfl
 have hfold:D.foldl (fun s d=>max (max s d) (0 - d)) 0=diffU (unitT i x) (unitT 0 x0):=by rw [← hD,fold_diff]; rfl
 rw [hfold] at e35
 have e35:itO (s3_5 a0 (some (unitsT 0 L)) o7 (some (unitsT 0 L)) (gN:Int) M.least M.most (i:Int) (unitT i x) (some D,0) (diffU (unitT i x) (unitT 0 x0),0)) (0,0)=some (diffU (unitT i x) (unitT 0 x0),j5):=e35
 unfold s3_2
 rw [hM]
 rw [s33b,s34b,s35b]
 by_cases hig:(i:Int) < (gN:Int)
 ·have hmT:unitT i x∈T:=by
   rw [← hTe]
   refine List.mem_of_getElem? (i:=i) ?_
   rw [unitsT_get,List.getElem?_take,if_pos (by omega),List.getElem?_eq_getElem hi,hh,Option.map_some,hx,Nat.zero_add]
  have hF:failsL M 0 x=[]:=by rw [← hM]; exact gold_fails hT hmT (by omega)
  have c0:(((nonNil (failsL M 0 x)).getD []).length:Int)=0:=by rw [nonNil_get,hF]; rfl
  simp only [ha,Option.getD_some,hul,hlt',decide_true,cond_true,hU,obind_at,hap0,hap1,h13,hig,c0,hix,e33,h8,e34,e6,e7,hU0,e14,e35,hwr]
 ·simp only [ha,Option.getD_some,hul,hlt',decide_true,cond_true,hU,obind_at,hap0,hap1,h13,hig,decide_false,cond_false,hix,e33,h8,e34,e6,e7,hU0,e14,e35,hwr]
end Go.Z
/-
 TopConeLine runs true: the whole.
-/
namespace Go.Z
open Go Go.Abs
theorem f16_self {a:Option (List GPair)} (hn:(a.getD []).length≤1000):f16 a a=some true:=by
 unfold f16
 simp only [decide_true,cond_true]
 rw [itO_thru (a.getD []).length (s16_0 a a),obind_at]
 ·unfold s16_0
  simp only [Int.lt_irrefl,decide_false,cond_false]
 ·intro i hi
  have hi':(i:Int) < ((a.getD []).length:Int):=by omega
  have hix:idxO (a.getD []) (i:Int)=some (a.getD [])[i]:=by rw [idxO_nat,List.getElem?_eq_getElem hi]
  have hwr:wrapF .i64 ((i:Int) + 1)=((i + 1:Nat):Int):=wrap_nat (by omega)
  unfold s16_0
  simp only [hi',decide_true,cond_true,hix,obind_at,hwr,Bool.and_self]
theorem best_len (l:List GUnit):∀ (n:Nat) (left:List Int) (p:List GPair),(bestP l n left p).1.length≤p.length + n
 | 0,left,p=>Nat.le_refl _
 | n + 1,left,p=>by
  have key:∀ (t:List Int) (st:Option PSch),(∀ s,st=some s→s.1.length≤p.length + (n + 1))→∀ s,t.foldl (fun st b=>updG st (bestP l n (left.tail.filter fun x=>x != b) (p++[⟨left.headD 0,b⟩]))) st=some s→s.1.length≤p.length + (n + 1):=by
   intro t
   induction t with
   | nil=>intro st hst s hs; exact hst s hs
   | cons b t ih=>
    intro st hst
    rw [List.foldl_cons]
    refine ih _ fun s hs=>?_
    have hb:=best_len l n (left.tail.filter fun x=>x != b) (p++[⟨left.headD 0,b⟩])
    simp only [List.length_append,List.length_singleton] at hb
    unfold updG at hs
    split at hs
    ·cases hs; omega
    ·rename_i s0
     split at hs
     ·cases hs; omega
     ·cases hs; exact hst _ rfl
  rw [bestP]
  cases hf:left.tail.foldl (fun st b=>updG st (bestP l n (left.tail.filter fun x=>x != b) (p++[⟨left.headD 0,b⟩]))) none with
  | none=>simp
  | some s=>exact key _ none (fun s h=>by cases h) s hf
theorem pairs_at {L:List (Option (List Int))} {m:Nat} (g:GoodL L m):∃ r,f15 (some (unitsT 0 L))=some r∧(decide (r.2.2=0) == decide ((L.length:Int).tmod 2=0))=true∧(r.1.getD []).length≤1000:=by
 have hu:=unitsT_ok g
 have hf:=g.few
 have hg:=units_unitN hu
 have hsz:∀ u∈unitsT 0 L,sizeU u:=fun u hm=>by
  have:=unit_good (hg.2 u hm)
  exact ⟨by have:=this.len; omega,by have:=this.few; omega⟩
 have e22:E1022 (some (unitsT 0 L))=some (unitsE (unitsT 0 L)):=by
  unfold E1022
  rw [exO_of ⟨by show (unitsT 0 L).length≤_; rw [unitsT_len]; omega,hsz⟩]
  rfl
 have h:=f15_eq (o:=some (unitsT 0 L)) (l:=unitsT 0 L) rfl (by rw [unitsT_len]; omega) e22
 have c8:¬ (8:Int) < ((unitsT 0 L).length:Int):=by rw [unitsT_len]; omega
 by_cases he:(L.length:Int).tmod 2=0
 ·have hp:pairsE (unitsT 0 L)=0:=by
   unfold pairsE
   rw [hu,unitsT_len,decide_eq_true he,← unitsT_len 0 L,decide_eq_false c8]
   rfl
  rw [if_pos hp] at h
  obtain ⟨b,w,h1,h2,h3⟩:=h
  refine ⟨_,h1,by rw [decide_eq_true he]; rfl,?_⟩
  show (b.getD []).length≤1000
  rw [h2]
  have:=best_len (unitsT 0 L) ((unitsT 0 L).length / 2) (allI (unitsT 0 L).length) []
  have hul:=unitsT_len 0 L
  simp only [List.length_nil] at this
  omega
 ·have hp:pairsE (unitsT 0 L)=35:=by
   unfold pairsE
   rw [hu,unitsT_len,decide_eq_false he]
   rfl
  rw [if_neg (by omega)] at h
  refine ⟨_,h,?_,by simp⟩
  rw [hp,decide_eq_false he]
  rfl
theorem true31 {a0:Option (List (Option (List Int)))} {a1 a2:Int}:j3_1 a0 a1 a2 true=some true:=rfl
theorem main31 {a0:Option (List (Option (List Int)))} {L:List (Option (List Int))} {n1 n2 m:Nat} (ha:a0.getD []=L) (hL:L.length≤6) (h0:0 < L.length) (h1:n1≤255) (h2:n2≤255) (hm0:0 < m) (hm8:m≤8) (hlen:∀ h∈L,(h.getD []).length=m):j3_1 a0 (n1:Int) (n2:Int) false=some true:=by
 obtain ⟨d,e,k⟩:=loop30 (a1:=(n1:Int)) ha hL h2 (fun h hh=>by have:=hlen h hh; omega) L 0 none false false rfl (by simp) (.inr rfl) (.inr rfl)
 have e:itO (s3_0 a0 (n1:Int) (n2:Int)) (none,none,0,false,false)=some d:=e
 unfold j3_1
 rw [cond_false,e,obind_at]
 rcases k with rfl | ⟨⟨g1,g2,j,rfl⟩,hlim⟩
 ·rfl
 have g:GoodL L m:=⟨hL,h0,hm0,hm8,hlen,hlim⟩
 have happ:app none (unitsT 0 L)=some (unitsT 0 L):=by
  have:=unitsT_len 0 L
  cases hc:unitsT 0 L with
  | nil=>rw [hc] at this; simp at this; omega
  | cons x t=>rfl
 rw [happ]
 obtain ⟨p1,p2⟩:=print_back g
 obtain ⟨gN,hgN⟩:∃ gN,gN=(L.length + 1) / 2:=⟨_,rfl⟩
 have hg0:0 < gN:=by omega
 have hgl:gN≤L.length:=by omega
 have hq:quoO .i64 (wrapF .i64 ((L.length:Int) + 1)) 2=some (gN:Int):=by
  rw [wrap_id (by omega) (by omega)]
  unfold quoO
  rw [if_neg (by omega),Int.tdiv_eq_ediv_of_nonneg (by omega),wrap_id (by omega) (by omega)]
  congr 1
  omega
 have hul:=unitsT_len 0 L
 have hcut:cutSO (some (unitsT 0 L)) none (some (gN:Int))=some (some (unitsT 0 (L.take gN))):=by
  unfold cutSO cutO bndI
  simp only [Option.getD_some,Int.natCast_nonneg,show (gN:Int)≤((unitsT 0 L).length:Int) by omega,and_self,if_true,Int.toNat_natCast,List.drop_zero,Option.map_some,takeT]
 have hgT:=good_take (n:=gN) g hg0
 have hT:=unitsT_ok hgT
 have hTl:=unitsT_len 0 (L.take gN)
 rw [List.length_take] at hTl
 have hne:unitsT 0 (L.take gN) ≠ []:=fun e=>by rw [e] at hTl; simp at hTl; omega
 have hw:=win_T (i:=0) hgT.lim
 have hlN:=lenN_T hgT
 have hap:=ap_nil2 (unitsT 0 (L.take gN)) (by omega)
 have hwm:wrapF .i64 (n1:Int)=(n1:Int):=wrap_id (by omega) (by omega)
 have h12:E12 (some (unitsT 0 (L.take gN))) (n1:Int)=some (goldM (unitsT 0 (L.take gN)) (n1:Int),0):=by
  unfold E12
  have hok:unitsOk (some (unitsT 0 (L.take gN))):=⟨by show (unitsT 0 (L.take gN)).length≤_; omega,fun u hu=>by
   obtain ⟨j,x,hx,rfl⟩:=unitsT_mem hu
   have hj:j < (L.take gN).length:=by
    rcases Nat.lt_or_ge j (L.take gN).length with h | h
    ·exact h
    ·rw [List.getElem?_eq_none h] at hx; cases hx
   have:=hgT.len x (List.mem_of_getElem? hx)
   have:=hgT.few
   exact size_T (by omega) (by omega)⟩
  rw [exO_of hok]
  simp only [Option.getD_some]
  rw [learnM_gold hT hne hw (by omega) (by omega),learn_ok hT hne (by omega) (by omega)]
 have hMl:((goldM (unitsT 0 (L.take gN)) (n1:Int)).least.getD []).length=m:=by simp [goldM,hlN]
 have hMm:((goldM (unitsT 0 (L.take gN)) (n1:Int)).most.getD []).length=m:=by simp [goldM,hlN]
 obtain ⟨hh,hhe⟩:∃ h,L[0]=h:=⟨_,rfl⟩
 have hi0:idxO L 0=some hh:=by rw [show (0:Int)=((0:Nat):Int) from rfl,idxO_nat,List.getElem?_eq_getElem h0,hhe]
 have hhl:=hlen hh (by rw [← hhe]; exact List.getElem_mem _)
 obtain ⟨r,e15,hpar,hrl⟩:=pairs_at g
 have h16:=f16_self hrl
 have h32:itO (s3_2 a0 (some (unitsT 0 L)) g1 (some (unitsT 0 L)) (gN:Int) (goldM (unitsT 0 (L.take gN)) (n1:Int)).least (goldM (unitsT 0 (L.take gN)) (n1:Int)).most) 0=some (.inr (L.length:Int)):=by
  refine itO_thru L.length _ ?_ (fun i hi=>step32 ha g h1 hg0 hgl hi)
  unfold s3_2
  simp only [Option.getD_some,hul,Int.lt_irrefl,decide_false,cond_false]
 have hrem:remO (L.length:Int) 2=some ((L.length:Int).tmod 2):=by unfold remO; rw [if_neg (by decide)]
 have hj12:j3_12 a0 (n1:Int) (n2:Int) r.2.2 false (goldM (unitsT 0 (L.take gN)) (n1:Int)).least (goldM (unitsT 0 (L.take gN)) (n1:Int)).most=some true:=by
  unfold j3_12
  simp only [cond_false,ha,hrem,obind_at,hpar,cond_true,E5]
 have hj8:j3_8 a0 (n1:Int) (n2:Int) (some (unitsT 0 L)) g1 (some (unitsT 0 L)) (gN:Int) false (goldM (unitsT 0 (L.take gN)) (n1:Int)).least (goldM (unitsT 0 (L.take gN)) (n1:Int)).most=some true:=by
  unfold j3_8
  simp only [cond_false,h32,obind_at,e15,decide_true,cond_true,h16,Bool.not_true,hj12]
 have c1:((unitsT 0 L).length:Int)=(L.length:Int):=by omega
 have c2:(((goldM (unitsT 0 (L.take gN)) (n1:Int)).least.getD []).length:Int)=((hh.getD []).length:Int):=by omega
 have c3:(((goldM (unitsT 0 (L.take gN)) (n1:Int)).most.getD []).length:Int)=((hh.getD []).length:Int):=by omega
 simp only [p1,obind_at,p2,ha,hq,hcut,Option.getD_some,hap,hwm,h12,decide_true,cond_true,c1,hi0,c2,c3,Bool.not_true,hj8]
theorem f3_true {a0:Option (List (Option (List Int)))} {n1 n2:Nat} (h1:n1≤255) (h2:n2≤255) (hn:∀ h∈a0.getD [],(h.getD []).length≤9223372036854775807):f3 a0 (n1:Int) (n2:Int)=some true:=by
 obtain ⟨L,ha⟩:∃ L,a0.getD []=L:=⟨_,rfl⟩
 rw [ha] at hn
 unfold f3
 rw [ha]
 by_cases c6:6 < (L.length:Int)
 ·rw [decide_eq_true c6,cond_true,true31]
 rw [decide_eq_false c6,cond_false]
 by_cases c0:(L.length:Int)=0
 ·have h4:f4 a0=some 0:=by
   unfold f4
   rw [show itO (s4_0 a0) 0=some (.inr 0) from itO_out (by
    unfold s4_0
    have:¬ (0:Int) < (L.length:Int):=by omega
    simp only [ha,this,decide_false,cond_false])]
   rfl
  simp only [h4,obind_at,decide_true,cond_true,c0,true31]
 have h0:0 < L.length:=by omega
 obtain ⟨r,h4,hr⟩:=f4_some ha (by omega) hn h0
 rw [h4,obind_at]
 by_cases hz:r=0
 case neg=>rw [decide_eq_false hz,cond_false,true31]
 rw [decide_eq_true hz,cond_true,decide_eq_false c0,cond_false]
 obtain ⟨hh,hhe⟩:∃ h,L[0]=h:=⟨_,rfl⟩
 have hi0:idxO L 0=some hh:=by rw [show (0:Int)=((0:Nat):Int) from rfl,idxO_nat,List.getElem?_eq_getElem h0,hhe]
 rw [hi0,obind_at]
 by_cases cz:((hh.getD []).length:Int)=0
 ·rw [decide_eq_true cz,cond_true,true31]
 rw [decide_eq_false cz,cond_false]
 by_cases c8:8 < ((hh.getD []).length:Int)
 ·rw [decide_eq_true c8,true31]
 rw [decide_eq_false c8]
 have hr:=hr hz
 rw [hhe] at hr
 exact main31 (m:=(hh.getD []).length) ha (by omega) h0 h1 h2 (by omega) (by omega) (fun h hm=>by
  obtain ⟨j,hj⟩:=List.getElem?_of_mem hm
  exact hr j h hj)
theorem I3 (a0:Option (List (Option (List Int)))) (a1 a2:Int) (b1:0≤a1∧a1≤255) (b2:0≤a2∧a2≤255) (hn:∀ h∈a0.getD [],(h.getD []).length≤9223372036854775807):callIso prE (X prE) 3 [sl 1 (sl 1 vint) a0,.int .u8 a1,.int .u8 a2]=some (.bool true,false):=by
 obtain ⟨n1,rfl⟩:∃ n:Nat,a1=(n:Int):=⟨a1.toNat,by omega⟩
 obtain ⟨n2,rfl⟩:∃ n:Nat,a2=(n:Int):=⟨a2.toNat,by omega⟩
 exact W3 (f3_true (by omega) (by omega) hn)
end Go.Z
