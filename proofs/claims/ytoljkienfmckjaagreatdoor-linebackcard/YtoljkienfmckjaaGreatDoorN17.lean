/-
  LineTexts, LineBack: the program's Parse and the reference's Parse read the same.
-/
import Derived.Test.YtoljkienfmckjaaGreatDoorN14
import Derived.Test.YtoljkienfmckjaaGreatDoorN5
set_option linter.unusedVariables false
set_option linter.unusedSimpArgs false
set_option maxRecDepth 100000
namespace Go.Z
open Go Go.Abs
def nums:List (List UInt8)→Option (List Int)
 | []=>some []
 | w::ws=>match sgnN w with
  | some v=>(match nums ws with
   | some l=>some (v::l)
   | none=>none)
  | none=>none
def unitW (w:List (List UInt8)):Option GUnit:=match w with
 | []=>none
 | s::ws=>if s=[]∨ws=[] then none else match nums ws with
  | some l=>some ⟨s,some l⟩
  | none=>none
def readL:List (List UInt8)→List GUnit ⊕ Nat
 | []=>.inl []
 | [l]=>if l=[] then .inl [] else .inr 0
 | l::m::r=>match unitW (spl 32 l) with
  | none=>.inr 0
  | some u=>(match readL (m::r) with
   | .inl us=>.inl (u::us)
   | .inr n=>.inr (n + 1))
theorem readL_cons {l:List UInt8} {r:List (List UInt8)} (hr:r ≠ []):readL (l::r)=match unitW (spl 32 l) with
  | none=>.inr 0
  | some u=>(match readL r with
   | .inl us=>.inl (u::us)
   | .inr n=>.inr (n + 1)):=by
 cases r with
 | nil=>exact absurd rfl hr
 | cons m r=>rfl
def app {α:Type} (o:Option (List α)) (l:List α):Option (List α):=match l with
 | []=>o
 | x::t=>some (o.getD []++x::t)
theorem app_get {α:Type} (o:Option (List α)) (l:List α):(app o l).getD []=o.getD []++l:=by cases l <;> simp [app]
theorem app_cons {α:Type} (o:Option (List α)) (x:α) (l:List α):app (some (o.getD []++[x])) l=app o (x::l):=by cases l <;> simp [app]
theorem app_own {α β:Type} {f:Bool} {o:Option (List α)} {x:α} {F:Option (List α)→Option β} (h:f=true∨o=none) (hl:(o.getD []).length + 1≤1073741824):cond f (obind (apO o [x]) F) (cond o.isNone (obind (apO o [x]) F) none)=F (some (o.getD []++[x])):=by
 have e:=apO_one (x:=x) hl
 rcases h with rfl | rfl
 ·rw [cond_true,e,obind_at]
 ·cases f <;> rfl
theorem cutS_tail {α:Type} {w:α} {ws:List α}:cutSO (some (w::ws)) (some 1) none=some (some ws):=by
 unfold cutSO cutO bndI
 have:(0:Int)≤1∧(1:Int)≤(((w::ws).length:Nat):Int):=by simp only [List.length_cons]; omega
 simp only [Option.getD_some,this,and_self,if_true,List.take_length]
 rfl
theorem nums_len:∀ {ws:List (List UInt8)} {l:List Int},nums ws=some l→l.length=ws.length
 | [],l,h=>by cases h; rfl
 | w::ws,l,h=>by
  rw [nums] at h
  cases hs:sgnN w with
  | none=>rw [hs] at h; cases h
  | some v=>
   cases hn:nums ws with
   | none=>rw [hs,hn] at h; cases h
   | some m=>rw [hs,hn] at h; cases h; simp [nums_len hn]
theorem readL_len:∀ {r:List (List UInt8)} {us:List GUnit},r ≠ []→readL r=.inl us→us.length + 1=r.length
 | [],us,h,_=>absurd rfl h
 | [l],us,_,h=>by
  rw [readL] at h
  split at h
  ·cases h; rfl
  ·cases h
 | l::m::r,us,_,h=>by
  rw [readL] at h
  cases hu:unitW (spl 32 l) with
  | none=>rw [hu] at h; cases h
  | some u=>
   rw [hu] at h
   cases hr:readL (m::r) with
   | inr n=>rw [hr] at h; cases h
   | inl vs=>rw [hr] at h; cases h; have:=readL_len (by simp) hr; simp only [List.length_cons] at this ⊢; omega
theorem loop45 (v5:List UInt8):∀ (ws:List (List UInt8)) (wrong:Bool) (o:Option (List Int)) (fl:Bool),(o.getD []).length + ws.length≤1100000→(fl=true∨o=none) →
  ∃ o' fl',itO (s45_0 v5) (some ws,wrong,o,fl)=some (some [],wrong || (nums ws).isNone,o',fl')∧(o'.getD []).length=(o.getD []).length + ws.length∧∀ l,nums ws=some l→o'=app o l
 | [],wrong,o,fl,hl,hf=>⟨o,fl,itO_out (by simp [s45_0,nums]),by simp,by intro l h; cases h; rfl⟩
 | w::ws,wrong,o,fl,hl,hf=>by
  obtain ⟨x,hx,hv⟩:=f121_eq w
  simp only [List.length_cons] at hl
  have hlt:0 < (((w::ws).length:Nat):Int):=by simp only [List.length_cons]; omega
  have h92:f92 [] none (some (w::ws)) wrong v5 o fl=some (x,some ws,wrong || !(sgnN w).isSome):=by
   unfold f92
   rw [show idxO ((some (w::ws)).getD []) 0=some w from rfl,obind_at,hx,obind_at,cutS_tail,obind_at]
   cases wrong <;> rfl
  obtain ⟨o',fl',h1,h2,h3⟩:=loop45 v5 ws (wrong || !(sgnN w).isSome) (some (o.getD []++[x])) true (by simp; omega) (.inl rfl)
  refine ⟨o',fl',?_,?_,?_⟩
  ·rw [itO_in (s':=(some ws,wrong || !(sgnN w).isSome,some (o.getD []++[x]),true)),h1]
   ·rw [nums]
    cases sgnN w with
    | none=>simp
    | some v=>cases nums ws <;> simp
   ·unfold s45_0
    simp only [Option.getD_some,hlt,decide_true,cond_true,h92,obind_at]
    exact app_own hf (by omega)
  ·rw [h2]; simp; omega
  ·intro l hl'
   rw [nums] at hl'
   cases hs:sgnN w with
   | none=>rw [hs] at hl'; cases hl'
   | some v=>
    cases hn:nums ws with
    | none=>rw [hs,hn] at hl'; cases hl'
    | some m=>
     rw [hs,hn] at hl'
     cases hl'
     rw [h3 m hn,hv v hs,app_cons]
theorem f45_eq {s:List UInt8} (hs:s.length≤1000000):∃ u,f45 s=some (u,(unitW (spl 32 s)).isSome)∧∀ g,unitW (spl 32 s)=some g→u=g:=by
 have hne:=spl_ne 32 s
 have hln:=spl_len 32 s
 unfold f45
 rw [E91_eq (by omega),obind_at]
 cases hw:spl 32 s with
 | nil=>exact absurd hw hne
 | cons w ws=>
  rw [hw] at hln
  simp only [List.length_cons] at hln
  obtain ⟨o',fl',h1,h2,h3⟩:=loop45 w ws false none false (by simp; omega) (.inr rfl)
  rw [cutS_tail,obind_at,show idxO ((some (w::ws)).getD []) 0=some w from rfl,obind_at,h1,obind_at]
  simp only [Bool.false_or]
  by_cases hw0:w=[]
  ·subst hw0
   refine ⟨⟨[],o'⟩,?_,?_⟩
   ·simp [unitW]
   ·intro g hg; simp [unitW] at hg
  ·simp only [hw0,decide_false,cond_false]
   refine ⟨⟨w,o'⟩,?_,?_⟩
   ·by_cases hws:ws=[]
    ·subst hws
     simp only [Option.getD_none,List.length_nil,Nat.add_zero] at h2
     simp [unitW,h2]
    ·have hp:0 < ws.length:=List.length_pos_iff.2 hws
     have h0:0 < ((o'.getD []).length:Int):=by rw [h2]; simp; omega
     simp only [h0,decide_true,cond_true,unitW,hw0,hws,or_self,if_false]
     cases nums ws <;> rfl
   ·intro g hg
    rw [unitW] at hg
    split at hg
    ·cases hg
    ·rename_i hc
     cases hn:nums ws with
     | none=>rw [hn] at hg; cases hg
     | some l=>
      rw [hn] at hg
      cases hg
      rw [h3 l hn]
      have hl:=nums_len hn
      cases l with
      | nil=>exact absurd (List.length_eq_zero_iff.1 (by rw [← hl]; rfl)) (fun e=>hc (.inr e))
      | cons a t=>rfl
theorem E44_whole {a:List UInt8} (h:a.length≤1000000):E44 (a++[10]) [10]=some (a,true):=by
 have hs:Lib.hasSuffix (a++[10]) [10]=true:=by
  unfold Lib.hasSuffix
  rw [List.isSuffixOf_iff_suffix]
  exact List.suffix_append _ _
 unfold E44
 rw [exO_of (by simp; omega)]
 unfold Lib.trimSuffix
 rw [hs]; simp
theorem E44_part {a:List UInt8} (h:a.length≤1000000) (hn:(10:UInt8) ∉ a):E44 a [10]=some (a,false):=by
 have hs:Lib.hasSuffix a [10]=false:=by
  cases hc:Lib.hasSuffix a [10] with
  | false=>rfl
  | true=>
   unfold Lib.hasSuffix at hc
   rw [List.isSuffixOf_iff_suffix] at hc
   obtain ⟨t,rfl⟩:=hc
   exact absurd (by simp) hn
 unfold E44
 rw [exO_of (by omega)]
 unfold Lib.trimSuffix
 rw [hs]; simp
theorem y9_whole {a:List UInt8} (ha:a.length≤1000000) {o:Option (List GUnit)} {fl:Bool} {n:Nat} (hf:fl=true∨o=none) (hl:(o.getD []).length + 1≤1073741824) (hn:n≤1000000):
  y9 (o,fl,(n:Int)) (a++[10])=match unitW (spl 32 a) with
   | some u=>some (.inl (some (o.getD []++[u]),true,((n + 1:Nat):Int)))
   | none=>some (.inr ()):=by
 obtain ⟨u,h1,h2⟩:=f45_eq ha
 have hwr:wrapF .i64 ((n:Int) + 1)=((n + 1:Nat):Int):=wrap_nat (by omega)
 unfold y9
 simp only [E44_whole ha,obind_at,h1,Bool.true_and]
 cases hu:unitW (spl 32 a) with
 | none=>rfl
 | some g=>
  have:=h2 g hu
  subst this
  have hc:(fl || o.isNone)=true:=by
   rcases hf with rfl | rfl
   ·rfl
   ·cases fl <;> rfl
  simp only [Option.isSome_some,cond_true,hc,apO_one hl,obind_at,hwr]
theorem y9_part {a:List UInt8} (ha:a.length≤1000000) (hn:(10:UInt8) ∉ a) {d:S9}:y9 d a=some (.inr ()):=by
 obtain ⟨u,h1,h2⟩:=f45_eq ha
 unfold y9
 simp only [E44_part ha hn,obind_at,h1,Bool.false_and,cond_false]
def Res9 (o:Option (List GUnit)) (n:Nat) (r:List GUnit ⊕ Nat) (d:(S9 × List UInt8) ⊕ (S9 × List UInt8)):Prop:=match r with
 | .inl us=>∃ fl' t,d=.inl ((app o us,fl',((n + us.length:Nat):Int)),t)
 | .inr k=>∃ x,d=.inr x∧x.1.2.2=((n + k:Nat):Int)
theorem loop88:∀ (N:Nat) (s:List UInt8),s.length≤N→∀ (o:Option (List GUnit)) (fl b:Bool) (n:Nat),s.length≤1000000→n + s.length≤1000000→(o.getD []).length≤n→(fl=true∨o=none) →
  ∃ d,itO s88 (((o,fl,(n:Int)),s),b)=some d∧Res9 o n (readL (spl 10 s)) d
 | N,s,hN,o,fl,b,n,hs,hns,hl,hf=>by
  rcases spl_cases 10 s with h | ⟨a,t,rfl,h⟩
  ·rw [spl_no h,readL]
   by_cases h0:s=[]
   ·subst h0
    rw [if_pos rfl]
    exact ⟨.inl ((o,fl,(n:Int)),[]),itO_out rfl,⟨fl,[],rfl⟩⟩
   ·rw [if_neg h0]
    have hp:0 < s.length:=List.length_pos_iff.2 h0
    have hp':0 < (s.length:Int):=by omega
    refine ⟨.inr ((o,fl,(n:Int)),[]),itO_out ?_,⟨_,rfl,rfl⟩⟩
    have h89:E89 s 10=some (-1):=by
     show some (Lib.indexByte s 10)=_
     rw [byte_no h]
    unfold s88
    simp only [hp',decide_true,cond_true,h89,obind_at,y9_part hs h]
    rfl
  ·cases N with
   | zero=>simp at hN
   | succ N=>
    simp only [List.length_append,List.length_cons] at hN hs hns
    have hp':0 < (((a++10::t).length:Nat):Int):=by simp only [List.length_append,List.length_cons]; omega
    have h89:E89 (a++10::t) 10=some (a.length:Int):=by
     show some (Lib.indexByte (a++10::t) 10)=_
     rw [byte_at h]
    have hwr:wrapF .i64 ((a.length:Int) + 1)=((a.length + 1:Nat):Int):=wrap_nat (by omega)
    have hge:(0:Int)≤(a.length:Int):=by omega
    have hsp:a++10::t=(a++[10])++t:=by simp
    have hlen:(a++[10]).length=a.length + 1:=by simp
    have hle:((a.length + 1:Nat):Int)≤(((a++10::t).length:Nat):Int):=by simp only [List.length_append,List.length_cons]; omega
    have c1:cutO (a++10::t) none (some ((a.length + 1:Nat):Int))=some (a++[10]):=by
     unfold cutO bndI
     simp only [Int.natCast_nonneg,hle,and_self,if_true,Int.toNat_natCast,List.drop_zero]
     rw [hsp,← hlen,List.take_left]
    have c2:cutO (a++10::t) (some ((a.length + 1:Nat):Int)) none=some t:=by
     unfold cutO bndI
     simp only [Int.natCast_nonneg,hle,and_self,if_true,Int.toNat_natCast,List.take_length]
     rw [hsp,← hlen,List.drop_left]
    rw [spl_at h,readL_cons (spl_ne 10 t)]
    have hy:=y9_whole (a:=a) (by omega) (o:=o) (fl:=fl) (n:=n) hf (by omega) (by omega)
    cases hu:unitW (spl 32 a) with
    | none=>
     rw [hu] at hy
     refine ⟨.inr ((o,fl,(n:Int)),t),itO_out ?_,⟨_,rfl,rfl⟩⟩
     unfold s88
     simp only [hp',decide_true,cond_true,h89,obind_at,hge,hwr,c1,c2,hy]
    | some u=>
     rw [hu] at hy
     obtain ⟨d,h1,h2⟩:=loop88 N t (by omega) (some (o.getD []++[u])) true false (n + 1) (by omega) (by omega) (by simp; omega) (.inl rfl)
     refine ⟨d,?_,?_⟩
     ·rw [itO_in (s':=(((some (o.getD []++[u]),true,((n + 1:Nat):Int)),t),false)),h1]
      unfold s88
      simp only [hp',decide_true,cond_true,h89,obind_at,hge,hwr,c1,c2,hy]
     ·dsimp only
      cases hr:readL (spl 10 t) with
      | inl us=>
       rw [hr] at h2
       obtain ⟨fl',x,rfl⟩:=h2
       refine ⟨fl',x,?_⟩
       rw [app_cons,List.length_cons,show n + 1 + us.length=n + (us.length + 1) by omega]
      | inr k=>
       rw [hr] at h2
       obtain ⟨x,rfl,hx⟩:=h2
       exact ⟨x,rfl,by rw [hx]; congr 1; omega⟩
end Go.Z
