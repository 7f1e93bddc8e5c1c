/-
  LineTexts: the law holds of the function that mirrors the run.
-/
import Derived.Test.YtoljkienfmckjaaGreatDoorN17
import Derived.Test.YtoljkienfmckjaaGreatDoorN13
import Derived.Test.YtoljkienfmckjaaGreatDoorL8
import Derived.Test.YtoljkienfmckjaaGreatDoorL14
set_option linter.unusedVariables false
set_option linter.unusedSimpArgs false
set_option maxRecDepth 100000
namespace Go.Z
open Go Go.Abs
def SmallU (N:Nat) (u:GUnit):Prop:=u.serial.length≤N∧(u.values.getD []).length≤N
theorem unitW_small {l:List UInt8} {u:GUnit} (h:unitW (spl 32 l)=some u):SmallU l.length u:=by
 have hm:=spl_mem 32 l
 have hl:=spl_len 32 l
 cases hw:spl 32 l with
 | nil=>rw [hw] at h; cases h
 | cons w ws=>
  rw [hw] at h hm hl
  rw [unitW] at h
  split at h
  ·cases h
  ·cases hn:nums ws with
   | none=>rw [hn] at h; cases h
   | some v=>
    rw [hn] at h
    cases h
    have:=nums_len hn
    refine ⟨(hm w (by simp)).1,?_⟩
    simp only [Option.getD_some,this]
    simp only [List.length_cons] at hl
    omega
theorem readL_small {N:Nat}:∀ {r:List (List UInt8)} {us:List GUnit},(∀ l∈r,l.length≤N)→readL r=.inl us→∀ u∈us,SmallU N u
 | [],us,_,h=>by cases h; intro u hu; cases hu
 | [l],us,_,h=>by
  rw [readL] at h
  split at h
  ·cases h; intro u hu; cases hu
  ·cases h
 | l::m::r,us,hl,h=>by
  rw [readL] at h
  cases hu:unitW (spl 32 l) with
  | none=>rw [hu] at h; cases h
  | some u=>
   rw [hu] at h
   cases hr:readL (m::r) with
   | inr n=>rw [hr] at h; cases h
   | inl vs=>
    rw [hr] at h; cases h
    intro x hx
    rcases List.mem_cons.1 hx with rfl | hx
    ·have h1:=unitW_small hu
     have h2:=hl l (by simp)
     exact ⟨by have:=h1.1; omega,by have:=h1.2; omega⟩
    ·exact readL_small (fun y hy=>hl y (List.mem_cons_of_mem _ hy)) hr x hx
def parseR (s:List UInt8):Option (List GUnit) × Int × Int:=match readL (spl 10 s) with
 | .inr n=>(none,n,26)
 | .inl us=>if unitsE us=0 then (nonNil us,0,0) else (none,us.length,unitsE us)
theorem app_none' {α:Type} (l:List α):app none l=nonNil l:=by cases l <;> rfl
theorem nonNil_get {α:Type} (l:List α):(nonNil l).getD []=l:=by cases l <;> rfl
theorem f9_eq {s:List UInt8} (hs:s.length≤1000000):f9 s=some (parseR s):=by
 obtain ⟨d,h1,h2⟩:=loop88 s.length s (Nat.le_refl _) none false true 0 hs (by omega) (by simp) (.inr rfl)
 have h1:lines9 (none,false,0) s=some d:=h1
 have hlt:¬ 1000000 < (s.length:Int):=by omega
 have hsm:=spl_mem 10 s
 unfold f9 parseR
 simp only [hlt,decide_false,cond_false,h1,obind_at]
 cases hr:readL (spl 10 s) with
 | inr n=>
  rw [hr] at h2
  obtain ⟨x,rfl,hx⟩:=h2
  simp only [hx,Nat.zero_add]
 | inl us=>
  rw [hr] at h2
  obtain ⟨fl,t,rfl⟩:=h2
  have hul:=readL_len (spl_ne 10 s) hr
  have hsl:=spl_len 10 s
  have hsz:∀ u∈us,sizeU u:=fun u hu=>by
   have:=readL_small (fun l hl=>(hsm l hl).1) hr u hu
   exact ⟨by have:=this.1; omega,by have:=this.2; omega⟩
  have hE:E10 (nonNil us)=some (unitsE us):=by
   unfold E10
   rw [nonNil_get,exO_of ⟨by omega,hsz⟩]
  simp only [hE,obind_at,app_none',Nat.zero_add]
  by_cases he:unitsE us=0
  ·simp only [he,decide_true,cond_true,if_true]
  ·simp only [he,decide_false,cond_false,if_false]
theorem f12_eq {s:List UInt8} (hs:s.length≤1000000):f12 s=some (parseR s):=by
 have hsl:=spl_len 10 s
 have hsm:=spl_mem 10 s
 obtain ⟨d,h1,h2⟩:=loop12 (L:=spl 10 s) (by omega) (fun w hw=>by have:=(hsm w hw).1; omega) (spl 10 s) 0 none false (spl_ne 10 s) rfl (by simp) (.inr rfl)
 have h1:itO (s12_0 (some (spl 10 s))) (none,0,false)=some d:=h1
 have hlt:¬ 1000000 < (s.length:Int):=by omega
 have h15:f15 s 10=some (some (spl 10 s)):=f15_eq (c:=10) hs
 unfold f12 parseR
 simp only [hlt,decide_false,cond_false,h15,obind_at,h1]
 cases hr:readL (spl 10 s) with
 | inr n=>
  rw [hr] at h2
  rcases h2 with rfl | ⟨x,rfl⟩
  ·simp only [Nat.zero_add]
  ·simp only [Nat.zero_add]
 | inl us=>
  rw [hr] at h2
  obtain ⟨fl,t,rfl⟩:=h2
  have hul:=readL_len (spl_ne 10 s) hr
  have hsz:∀ u∈us,sizeW u:=fun u hu=>by
   have:=readL_small (fun l hl=>(hsm l hl).1) hr u hu
   exact ⟨by have:=this.1; omega,by have:=this.2; omega⟩
  have hE:E10w (nonNil us)=some (unitsE us):=by
   unfold E10w
   rw [nonNil_get,exO_of ⟨by omega,hsz⟩]
  have hw:wrapF .i64 (((spl 10 s).length:Int) - 1)=(us.length:Int):=by rw [wrap_id (by omega) (by omega)]; omega
  simp only [hE,obind_at,app_none',Option.getD_some,hw]
  by_cases he:unitsE us=0
  ·simp only [he,decide_true,cond_true,if_true]
  ·simp only [he,decide_false,cond_false,if_false]
theorem firstU_unit {n0:Int}:∀ {l:List GUnit} {seen:List (List UInt8)},firstU n0 seen l=0→∀ u∈l,unitE u=0
 | x::l,seen,h,u,hu=>by
  rw [firstU] at h
  split at h
  ·rename_i hz
   rcases List.mem_cons.1 hu with rfl | hu
   ·exact firstNZ_zero hz _ (List.mem_cons_self ..)
   ·exact firstU_unit h u hu
  ·rename_i hz; exact absurd h hz
theorem units_unit {l:List GUnit} (h:unitsE l=0):l.length≤64∧∀ u∈l,unitE u=0:=by
 unfold unitsE at h
 split at h
 ·rename_i hl; exact ⟨hl,firstU_unit h⟩
 ·cases h
structure GoodU (u:GUnit):Prop where
 ne:u.serial ≠ []
 len:u.serial.length≤24
 name:nameAll 0 u.serial=true
 some:u.values.getD [] ≠ []
 few:(u.values.getD []).length≤16
 val:∀ v∈u.values.getD [],-100000≤v∧v≤100000
theorem unit_good {u:GUnit} (h:unitE u=0):GoodU u:=by
 have h1:=whenE_zero (by decide) (firstNZ_zero h _ (List.mem_cons_self ..))
 have h2:=whenE_zero (by decide) (firstNZ_zero h _ (List.mem_cons_of_mem _ (List.mem_cons_self ..)))
 have h3:=whenE_zero (by decide) (firstNZ_zero h _ (List.mem_cons_of_mem _ (List.mem_cons_of_mem _ (List.mem_cons_self ..))))
 simp only [isName,Bool.not_eq_false',Bool.and_eq_true,decide_eq_true_eq] at h1
 simp only [decide_eq_false_iff_not] at h2 h3
 exact ⟨h1.1.1,h1.1.2,h1.2,fun e=>h2 (by rw [e]; rfl),by omega,unitE_at h⟩
def lineT (u:GUnit):List UInt8:=Lib.join (u.serial::(u.values.getD []).map Lib.itoa) [32]++[10]
def printT (l:List GUnit):List UInt8:=(l.map lineT).flatten
theorem lens_le {k:Nat}:∀ {r:List (List UInt8)},(∀ x∈r,x.length≤k)→Lib.lens r≤k * r.length
 | [],_=>by simp [Lib.lens]
 | x::r,h=>by
  have h1:=h x (by simp)
  have h2:=lens_le (k:=k) (r:=r) (fun y hy=>h y (by simp [hy]))
  simp only [Lib.lens,List.map_cons,List.sum_cons,List.length_cons] at h2 ⊢
  rw [Nat.mul_succ]; omega
theorem tail_len {l:List Int} (h:∀ v∈l,-100000≤v∧v≤100000):(Lib.joinTail [32] (l.map Lib.itoa)).length≤11 * l.length:=by
 rw [Lib.joinTail_length]
 have:=lens_le (k:=10) (r:=l.map Lib.itoa) (fun x hx=>by
  obtain ⟨v,hv,rfl⟩:=List.mem_map.1 hx
  have:=h v hv
  exact itoa_len (by omega))
 rw [List.length_map] at this ⊢
 simp only [List.length_singleton]
 omega
theorem lineT_len {u:GUnit} (h:GoodU u):(lineT u).length≤201:=by
 unfold lineT
 rw [Lib.join_cons]
 simp only [List.length_append,List.length_singleton]
 have h1:=h.len
 have h2:=h.few
 have h3:=tail_len h.val
 omega
theorem loop39 {a0:Option (List Int)} {vs:List Int} (ha:a0.getD []=vs) (hn:vs.length≤1000) (hv:∀ v∈vs,-100000≤v∧v≤100000):∀ (r:List Int) (i:Nat) (o:Option (List (List UInt8))) (fl:Bool),vs.drop i=r→(o.getD []).length≤i→(fl=true∨o=none) →
  ∃ fl' j,itO (s39_0 a0) (o,(i:Int),fl)=some (app o (r.map Lib.itoa),fl',j)
 | [],i,o,fl,hr,hl,hf=>by
  have:¬ (i:Int) < (vs.length:Int):=by have:=List.drop_eq_nil_iff.1 hr; omega
  refine ⟨fl,(i:Int),itO_out ?_⟩
  unfold s39_0
  simp only [ha,this,decide_false,cond_false,List.map_nil,app]
 | v::r,i,o,fl,hr,hl,hf=>by
  have hlt:i < vs.length:=by
   rcases Nat.lt_or_ge i vs.length with h | h
   ·exact h
   ·rw [List.drop_of_length_le h] at hr; cases hr
  have hlt':(i:Int) < (vs.length:Int):=by omega
  rw [drop_at hlt] at hr
  have hiv:=(List.cons.inj hr).1
  have hix:idxO vs (i:Int)=some v:=by rw [idxO_nat,List.getElem?_eq_getElem hlt,hiv]
  have hwr:wrapF .i64 ((i:Int) + 1)=((i + 1:Nat):Int):=wrap_nat (by omega)
  have hvv:=hv v (by rw [← hiv]; exact List.getElem_mem _)
  have h40:E40 v=some (Lib.itoa v):=by unfold E40; rw [exO_of (by omega)]
  obtain ⟨fl',j,h1⟩:=loop39 ha hn hv r (i + 1) (some (o.getD []++[Lib.itoa v])) true (List.cons.inj hr).2 (by simp; omega) (.inl rfl)
  refine ⟨fl',j,?_⟩
  rw [itO_in (s':=(some (o.getD []++[Lib.itoa v]),((i + 1:Nat):Int),true)),h1,app_cons]; · rfl
  unfold s39_0
  simp only [ha,hlt',decide_true,cond_true,hix,obind_at,h40,hwr]
  exact app_own hf (by omega)
theorem f39_eq {a0:Option (List Int)} (hn:(a0.getD []).length≤1000) (hv:∀ v∈a0.getD [],-100000≤v∧v≤100000):∃ fl,f39 a0=some (app none ((a0.getD []).map Lib.itoa),fl):=by
 obtain ⟨fl,j,h⟩:=loop39 rfl hn hv (a0.getD []) 0 none false rfl (by simp) (.inr rfl)
 have h:itO (s39_0 a0) (none,0,false)=_:=h
 refine ⟨fl,?_⟩
 unfold f39
 rw [h,obind_at]
theorem line7 {u:GUnit} (h:GoodU u):∃ fl,f39 u.values=some (app none ((u.values.getD []).map Lib.itoa),fl) ∧
  apO (some [u.serial]) ((app none ((u.values.getD []).map Lib.itoa)).getD [])=some (some (u.serial::(u.values.getD []).map Lib.itoa)) ∧
  E38o (some (u.serial::(u.values.getD []).map Lib.itoa)) [32]=some (Lib.join (u.serial::(u.values.getD []).map Lib.itoa) [32]) ∧
  catO (Lib.join (u.serial::(u.values.getD []).map Lib.itoa) [32]) [10]=some (lineT u):=by
 obtain ⟨fl,h1⟩:=f39_eq (a0:=u.values) (by have:=h.few; omega) h.val
 have hl:=lineT_len h
 have hf:=h.few
 unfold lineT at hl
 simp only [List.length_append,List.length_singleton] at hl
 refine ⟨fl,h1,?_,?_,?_⟩
 ·rw [app_get]
  unfold apO
  rw [if_pos (by simp; omega)]
  rfl
 ·show E38 _ _=_
  unfold E38
  rw [exO_of ⟨by simp,by simp; omega,by omega⟩]
 ·unfold catO
  rw [if_pos (by simp only [List.length_singleton]; omega)]
  rfl
theorem loop7 {a0:Option (List GUnit)} {l:List GUnit} (ha:a0.getD []=l) (hn:l.length≤64) (hv:∀ u∈l,GoodU u):∀ (r:List GUnit) (i:Nat) (s:List UInt8),l.drop i=r→s.length≤201 * i →
  ∃ j,itO (s7_0 a0) ((i:Int),s)=some (j,s++printT r)
 | [],i,s,hr,hs=>by
  have:¬ (i:Int) < (l.length:Int):=by have:=List.drop_eq_nil_iff.1 hr; omega
  refine ⟨(i:Int),itO_out ?_⟩
  unfold s7_0
  simp only [ha,this,decide_false,cond_false]
  simp [printT]
 | u::r,i,s,hr,hs=>by
  have hlt:i < l.length:=by
   rcases Nat.lt_or_ge i l.length with h | h
   ·exact h
   ·rw [List.drop_of_length_le h] at hr; cases hr
  have hlt':(i:Int) < (l.length:Int):=by omega
  rw [drop_at hlt] at hr
  have hiv:=(List.cons.inj hr).1
  have hix:idxO l (i:Int)=some u:=by rw [idxO_nat,List.getElem?_eq_getElem hlt,hiv]
  have hwr:wrapF .i64 ((i:Int) + 1)=((i + 1:Nat):Int):=wrap_nat (by omega)
  have hu:=hv u (by rw [← hiv]; exact List.getElem_mem _)
  obtain ⟨fl,g1,g2,g3,g4⟩:=line7 hu
  have hll:=lineT_len hu
  have h37:E37 s (lineT u)=some (s++lineT u):=by unfold E37; rw [if_pos (by omega)]
  obtain ⟨j,h1⟩:=loop7 ha hn hv r (i + 1) (s++lineT u) (List.cons.inj hr).2 (by simp; omega)
  refine ⟨j,?_⟩
  rw [itO_in (s':=(((i + 1:Nat):Int),s++lineT u)),h1]
  ·simp [printT]
  ·unfold s7_0
   simp only [ha,hlt',decide_true,cond_true,hix,obind_at,g1,g2,g3,g4,h37,hwr]
theorem f7_good {a0:Option (List GUnit)} {l:List GUnit} (ha:a0.getD []=l) (hE:unitsE l=0):f7 a0=some (printT l,0):=by
 have hg:=units_unit hE
 have hgo:∀ u∈l,GoodU u:=fun u hu=>unit_good (hg.2 u hu)
 have hsz:∀ u∈l,sizeU u:=fun u hu=>by
  have:=hgo u hu
  exact ⟨by have:=this.len; omega,by have:=this.few; omega⟩
 have h10:E10 a0=some 0:=by
  unfold E10
  rw [ha,hE,exO_of ⟨by omega,hsz⟩]
 obtain ⟨j,h1⟩:=loop7 ha hg.1 hgo l 0 [] rfl (by simp)
 have h1:itO (s7_0 a0) (0,[])=some (j,[]++printT l):=h1
 unfold f7
 simp only [h10,obind_at,decide_true,cond_true,h1,List.nil_append]
theorem f7_bad {a0:Option (List GUnit)} {l:List GUnit} (ha:a0.getD []=l) (hE:unitsE l ≠ 0) (hl:l.length≤1073741824) (hs:∀ u∈l,sizeU u):f7 a0=some ([],unitsE l):=by
 have h10:E10 a0=some (unitsE l):=by
  unfold E10
  rw [ha,exO_of ⟨hl,hs⟩]
 unfold f7
 simp only [h10,obind_at,hE,decide_false,cond_false]
theorem loop11i {a0:Option (List GUnit)} {l:List GUnit} (ha:a0.getD []=l) {u:GUnit} {i:Nat} {s0:List UInt8} (hi:l[i]?=some u) (hu:GoodU u):∀ (r:List Int) (k:Nat) (s:List UInt8),(u.values.getD []).drop k=r→s.length≤1000000 + 11 * k →
  ∃ j,itO (s11_1 a0 (s0,(i:Int))) (s,(k:Int))=some (s++Lib.joinTail [32] (r.map Lib.itoa),j)
 | [],k,s,hr,hs=>by
  have:¬ (k:Int) < ((u.values.getD []).length:Int):=by have:=List.drop_eq_nil_iff.1 hr; omega
  have hix:idxO l (i:Int)=some u:=by rw [idxO_nat,hi]
  refine ⟨(k:Int),itO_out ?_⟩
  unfold s11_1
  simp only [ha,hix,obind_at,this,decide_false,cond_false]
  simp [Lib.joinTail]
 | v::r,k,s,hr,hs=>by
  have hf:=hu.few
  have hlt:k < (u.values.getD []).length:=by
   rcases Nat.lt_or_ge k (u.values.getD []).length with h | h
   ·exact h
   ·rw [List.drop_of_length_le h] at hr; cases hr
  have hlt':(k:Int) < ((u.values.getD []).length:Int):=by omega
  rw [drop_at hlt] at hr
  have hiv:=(List.cons.inj hr).1
  have hix:idxO l (i:Int)=some u:=by rw [idxO_nat,hi]
  have hix2:idxO (u.values.getD []) (k:Int)=some v:=by rw [idxO_nat,List.getElem?_eq_getElem hlt,hiv]
  have hwr:wrapF .i64 ((k:Int) + 1)=((k + 1:Nat):Int):=wrap_nat (by omega)
  have hvv:=hu.val v (by rw [← hiv]; exact List.getElem_mem _)
  have h49:=f49_eq (v:=v) (by omega)
  have hil:=itoa_len (v:=v) (by omega)
  have c1:catO s [32]=some (s++[32]):=by unfold catO; rw [if_pos (by simp only [List.length_singleton]; omega)]
  have c2:catO (s++[32]) (Lib.itoa v)=some (s++[32]++Lib.itoa v):=by unfold catO; rw [if_pos (by simp only [List.length_append,List.length_singleton]; omega)]
  obtain ⟨j,h1⟩:=loop11i ha hi hu r (k + 1) (s++[32]++Lib.itoa v) (List.cons.inj hr).2 (by simp only [List.length_append,List.length_singleton]; omega)
  refine ⟨j,?_⟩
  rw [itO_in (s':=(s++[32]++Lib.itoa v,((k + 1:Nat):Int))),h1]
  ·simp [Lib.joinTail]
  ·unfold s11_1
   simp only [ha,hix,obind_at,hlt',decide_true,cond_true,c1,hix2,h49,c2,hwr]
theorem loop11 {a0:Option (List GUnit)} {l:List GUnit} (ha:a0.getD []=l) (hn:l.length≤64) (hv:∀ u∈l,GoodU u):∀ (r:List GUnit) (i:Nat) (s:List UInt8),l.drop i=r→s.length≤201 * i →
  ∃ j,itO (s11_0 a0) (s,(i:Int))=some (s++printT r,j)
 | [],i,s,hr,hs=>by
  have:¬ (i:Int) < (l.length:Int):=by have:=List.drop_eq_nil_iff.1 hr; omega
  refine ⟨(i:Int),itO_out ?_⟩
  unfold s11_0
  simp only [ha,this,decide_false,cond_false]
  simp [printT]
 | u::r,i,s,hr,hs=>by
  have hlt:i < l.length:=by
   rcases Nat.lt_or_ge i l.length with h | h
   ·exact h
   ·rw [List.drop_of_length_le h] at hr; cases hr
  have hlt':(i:Int) < (l.length:Int):=by omega
  rw [drop_at hlt] at hr
  have hiv:=(List.cons.inj hr).1
  have hix:idxO l (i:Int)=some u:=by rw [idxO_nat,List.getElem?_eq_getElem hlt,hiv]
  have hwr:wrapF .i64 ((i:Int) + 1)=((i + 1:Nat):Int):=wrap_nat (by omega)
  have hu:=hv u (by rw [← hiv]; exact List.getElem_mem _)
  have hll:=lineT_len hu
  have hsl:=hu.len
  have c1:catO s u.serial=some (s++u.serial):=by unfold catO; rw [if_pos (by omega)]
  obtain ⟨j0,h0⟩:=loop11i (s0:=s) ha (by rw [List.getElem?_eq_getElem hlt,hiv]) hu (u.values.getD []) 0 (s++u.serial) rfl (by simp only [List.length_append]; omega)
  have h0:itO (s11_1 a0 (s,(i:Int))) (s++u.serial,0)=_:=h0
  have e:lineT u=u.serial++Lib.joinTail [32] ((u.values.getD []).map Lib.itoa)++[10]:=by unfold lineT; rw [Lib.join_cons]
  have c2:catO (s++u.serial++Lib.joinTail [32] ((u.values.getD []).map Lib.itoa)) [10]=some (s++lineT u):=by
   unfold catO
   rw [e] at hll ⊢
   simp only [List.length_append,List.length_singleton] at hll ⊢
   rw [if_pos (by omega)]
   simp
  obtain ⟨j,h1⟩:=loop11 ha hn hv r (i + 1) (s++lineT u) (List.cons.inj hr).2 (by simp; omega)
  refine ⟨j,?_⟩
  rw [itO_in (s':=(s++lineT u,((i + 1:Nat):Int))),h1]
  ·simp [printT]
  ·unfold s11_0
   simp only [ha,hlt',decide_true,cond_true,hix,obind_at,c1,h0,c2,hwr]
theorem f11_good {a0:Option (List GUnit)} {l:List GUnit} (ha:a0.getD []=l) (hE:unitsE l=0):f11 a0=some (printT l):=by
 have hg:=units_unit hE
 obtain ⟨j,h1⟩:=loop11 ha hg.1 (fun u hu=>unit_good (hg.2 u hu)) l 0 [] rfl (by simp)
 have h1:itO (s11_0 a0) ([],0)=some ([]++printT l,j):=h1
 unfold f11
 simp only [h1,obind_at,List.nil_append]
theorem loop14 {a0:Option (List GUnit)} {l:List GUnit} (ha:a0.getD []=l) (hn:l.length≤1000000):∀ (r:List GUnit) (i:Nat) (o:Option (List GUnit)) (fl:Bool),l.drop i=r→(o.getD []).length≤i→(fl=true∨o=none) →
  ∃ fl' j,itO (s14_0 a0) (o,(i:Int),fl)=some (app o r,fl',j)
 | [],i,o,fl,hr,hl,hf=>by
  have:¬ (i:Int) < (l.length:Int):=by have:=List.drop_eq_nil_iff.1 hr; omega
  refine ⟨fl,(i:Int),itO_out ?_⟩
  unfold s14_0
  simp only [ha,this,decide_false,cond_false,app]
 | v::r,i,o,fl,hr,hl,hf=>by
  have hlt:i < l.length:=by
   rcases Nat.lt_or_ge i l.length with h | h
   ·exact h
   ·rw [List.drop_of_length_le h] at hr; cases hr
  have hlt':(i:Int) < (l.length:Int):=by omega
  rw [drop_at hlt] at hr
  have hix:idxO l (i:Int)=some v:=by rw [idxO_nat,List.getElem?_eq_getElem hlt,(List.cons.inj hr).1]
  have hwr:wrapF .i64 ((i:Int) + 1)=((i + 1:Nat):Int):=wrap_nat (by omega)
  obtain ⟨fl',j,h1⟩:=loop14 ha hn r (i + 1) (some (o.getD []++[v])) true (List.cons.inj hr).2 (by simp; omega) (.inl rfl)
  refine ⟨fl',j,?_⟩
  rw [itO_in (s':=(some (o.getD []++[v]),((i + 1:Nat):Int),true)),h1,app_cons]
  unfold s14_0
  simp only [ha,hlt',decide_true,cond_true,hix,obind_at,hwr]
  exact app_own hf (by omega)
theorem f14_eq {a0:Option (List GUnit)} (hn:(a0.getD []).length≤1000000):∃ fl,f14 a0=some (nonNil (a0.getD []),fl):=by
 obtain ⟨fl,j,h⟩:=loop14 rfl hn (a0.getD []) 0 none false rfl (by simp) (.inr rfl)
 have h:itO (s14_0 a0) (none,0,false)=_:=h
 refine ⟨fl,?_⟩
 unfold f14
 rw [h,obind_at,app_none']
theorem f13_same {a0 a1:Option (List GUnit)} {l:List GUnit} (h0:a0.getD []=l) {m:List GUnit} (h1:a1.getD []=m) (hl:l.length≤1000000) (hm:l.map ownU=m.map ownU) (hs:∀ u∈l,(u.values.getD []).length≤1073741824):f13 a0 a1=some true:=by
 have hlen:l.length=m.length:=by have:=congrArg List.length hm; simpa using this
 unfold f13
 have he:((a0.getD []).length:Int)=((a1.getD []).length:Int):=by rw [h0,h1,hlen]
 simp only [he,decide_true,cond_true]
 rw [itO_thru l.length (s13_0 a0 a1),obind_at]
 ·unfold s13_0
  rw [h0]
  simp only [Int.lt_irrefl,decide_false,cond_false]
 ·intro i hi
  have hi':(i:Int) < (l.length:Int):=by omega
  have hix:idxO l (i:Int)=some l[i]:=by rw [idxO_nat,List.getElem?_eq_getElem hi]
  have him:i < m.length:=by omega
  have hix2:idxO m (i:Int)=some m[i]:=by rw [idxO_nat,List.getElem?_eq_getElem him]
  have hwr:wrapF .i64 ((i:Int) + 1)=((i + 1:Nat):Int):=wrap_nat (by omega)
  have ho:ownU l[i]=ownU m[i]:=by
   have b1:(l.map ownU)[i]?=(m.map ownU)[i]?:=by rw [hm]
   rw [List.getElem?_map,List.getElem?_map,List.getElem?_eq_getElem hi,List.getElem?_eq_getElem him] at b1
   simp only [Option.map_some] at b1
   exact Option.some.inj b1
  have ho1:l[i].serial=m[i].serial:=(show (ownU l[i]).serial=(ownU m[i]).serial by rw [ho])
  have ho2:l[i].values.getD []=m[i].values.getD []:=by
   have:=congrArg (fun u:GUnit=>u.values.getD []) ho
   simpa [ownU,ownI] using this
  have h23:E23 l[i].values m[i].values=some true:=by
   unfold E23
   rw [exO_of (hs _ (List.getElem_mem _)),ho2]
   simp
  unfold s13_0
  simp only [h0,h1,hi',decide_true,cond_true,hix,hix2,obind_at,ho1,h23,hwr]
end Go.Z
/-
 LineTexts runs true.
-/
namespace Go.Z
open Go Go.Abs
theorem own_get (l:List GUnit):(nonNil (l.map ownU)).getD []=l.map ownU:=nonNil_get _
theorem f3_true {a0:Option (List GUnit)} {a1:List UInt8}:f3 a0 a1=some true:=by
 have h6:E6 a0 10=some (shortUs (a0.getD []) 10):=by unfold E6; rw [exO_of (by decide)]
 unfold f3
 rw [show E5=some true from rfl,obind_at,cond_true,h6,obind_at]
 cases hs:shortUs (a0.getD []) 10 with
 | false=>rfl
 | true=>
  rw [cond_true]
  by_cases hl:300 < (a1.length:Int)
  ·rw [decide_eq_true hl,cond_true]
  ·rw [decide_eq_false hl,cond_false]
   obtain ⟨l,hll⟩:∃ l,a0.getD []=l:=⟨_,rfl⟩
   rw [hll] at hs
   have hlen:l.length≤65:=by
    unfold shortUs at hs
    split at hs
    ·cases hs
    ·omega
   have hshort:∀ u∈l,shortU u=true:=by
    unfold shortUs at hs
    split at hs
    ·cases hs
    ·exact List.all_eq_true.1 hs
   have hsz:∀ u∈l,u.serial.length≤60∧(u.values.getD []).length≤17:=fun u hu=>by
    have:=hshort u hu
    simp only [shortU,Bool.and_eq_true,decide_eq_true_eq] at this
    exact this
   have h8:E8 a0=some (nonNil (l.map ownU)):=by
    unfold E8
    have:∀ u∈a0.getD [],okLen u:=fun u hu=>by
     rw [hll] at hu
     have:=hsz u hu
     unfold okLen; omega
    rw [exO_of ⟨by rw [hll]; omega,this⟩,hll]
   have h10:E10w a0=some (unitsE l):=by
    unfold E10w
    have:∀ u∈a0.getD [],sizeW u:=fun u hu=>by
     rw [hll] at hu
     have:=hsz u hu
     exact ⟨by omega,by omega⟩
    rw [exO_of ⟨by rw [hll]; omega,this⟩,hll]
   have hs1:a1.length≤1000000:=by omega
   have hx:∀ us:List GUnit,(parseR a1).1=nonNil us→us.length≤1000→(∀ u∈us,(u.values.getD []).length≤1073741824)→∃ fl,f14 (parseR a1).1=some (nonNil us,fl)∧f13 (nonNil us) (parseR a1).1=some true:=by
    intro us he hu hv
    obtain ⟨fl,h⟩:=f14_eq (a0:=nonNil us) (by rw [nonNil_get]; omega)
    rw [nonNil_get] at h
    refine ⟨fl,by rw [he]; exact h,?_⟩
    rw [he]
    exact f13_same (nonNil_get us) (nonNil_get us) (by omega) rfl hv
   have hp:∃ us:List GUnit,(parseR a1).1=nonNil us∧us.length≤1000∧(∀ u∈us,(u.values.getD []).length≤1073741824):=by
    unfold parseR
    cases hr:readL (spl 10 a1) with
    | inr n=>exact ⟨[],rfl,by simp,by simp⟩
    | inl us=>
     dsimp only
     split
     ·refine ⟨us,rfl,?_,?_⟩
      ·have:=readL_len (spl_ne 10 a1) hr
       have:=spl_len 10 a1
       omega
      ·intro u hu
       have:=(readL_small (fun l hl=>(spl_mem 10 a1 l hl).1) hr u hu).2
       omega
     ·exact ⟨[],rfl,by simp,by simp⟩
   obtain ⟨us,hp1,hp2,hp3⟩:=hp
   obtain ⟨fl,h14,h13⟩:=hx us hp1 hp2 hp3
   rw [h8,obind_at]
   by_cases hE:unitsE l=0
   ·have h7:f7 (nonNil (l.map ownU))=some (printT (l.map ownU),0):=f7_good (own_get l) (by rw [unitsE_own]; exact hE)
    have hpr:printT (l.map ownU)=printT l:=by
     unfold printT
     rw [List.map_map]
     rfl
    rw [h7,hpr]
    simp only [obind_at,f9_eq hs1,h10,hE,f11_good hll hE,f12_eq hs1,h14,h13,decide_true,cond_true]
   ·have h7:f7 (nonNil (l.map ownU))=some ([],unitsE l):=by
     rw [f7_bad (own_get l) (by rw [unitsE_own]; exact hE) (by simp; omega),unitsE_own]
     intro u hu
     obtain ⟨w,hw,rfl⟩:=List.mem_map.1 hu
     have:=hsz w hw
     exact sizeU_own ⟨by omega,by omega⟩
    rw [h7]
    simp only [obind_at,f9_eq hs1,h10,hE,f12_eq hs1,h14,h13,decide_true,cond_true,decide_false,cond_false]
theorem I3 (a0:Option (List GUnit)) (a1:List UInt8):callIso prE (X prE) 3 [sl 2 vunit a0,.str a1]=some (.bool true,false):=W3 f3_true
end Go.Z
