/-
  LineTexts: the law holds of the function that mirrors the run.
-/
import Derived.Test.YtlonjmhacojkjaaGreatDoorN14
import Derived.Test.YtlonjmhacojkjaaGreatDoorZB
import Derived.Test.YtlonjmhacojkjaaGreatDoorL8
import Derived.Test.YtlonjmhacojkjaaGreatDoorL14
set_option linter.unusedVariables false
set_option linter.unusedSimpArgs false
set_option maxRecDepth 100000
namespace Go.Z
open Go Go.Abs
def SmallU (N:Nat) (u:GUnit):Prop:=u.serial.length≤N∧(u.values.getD []).length≤N
theorem unitW_small {l:List UInt8} {u:GUnit} (h:unitW (spl 32 l)=some u):SmallU l.length u:=by
 have hm:=spl_mem 32 l
 have hl:=spl_len 32 l
 cases hw:spl 32 l with
 | nil=>rw [hw] at h; cases h
 | cons w ws=>
  rw [hw] at h hm hl
  rw [unitW] at h
  split at h
  ·cases h
  ·cases hn:nums ws with
   | none=>rw [hn] at h; cases h
   | some v=>
    rw [hn] at h
    cases h
    have:=nums_len hn
    refine ⟨(hm w (by simp)).1,?_⟩
    simp only [Option.getD_some,this]
    simp only [List.length_cons] at hl
    omega
theorem readL_small {N:Nat}:∀ {r:List (List UInt8)} {us:List GUnit},(∀ l∈r,l.length≤N)→readL r=.inl us→∀ u∈us,SmallU N u
 | [],us,_,h=>by cases h; intro u hu; cases hu
 | [l],us,_,h=>by
  rw [readL] at h
  split at h
  ·cases h; intro u hu; cases hu
  ·cases h
 | l::m::r,us,hl,h=>by
  rw [readL] at h
  cases hu:unitW (spl 32 l) with
  | none=>rw [hu] at h; cases h
  | some u=>
   rw [hu] at h
   cases hr:readL (m::r) with
   | inr n=>rw [hr] at h; cases h
   | inl vs=>
    rw [hr] at h; cases h
    intro x hx
    rcases List.mem_cons.1 hx with rfl | hx
    ·have h1:=unitW_small hu
     have h2:=hl l (by simp)
     exact ⟨by have:=h1.1; omega,by have:=h1.2; omega⟩
    ·exact readL_small (fun y hy=>hl y (List.mem_cons_of_mem _ hy)) hr x hx
def parseR (s:List UInt8):Option (List GUnit) × Int × Int:=match readL (spl 10 s) with
 | .inr n=>(none,n,26)
 | .inl us=>if unitsE us=0 then (nonNil us,0,0) else (none,us.length,unitsE us)
theorem app_none' {α:Type} (l:List α):app none l=nonNil l:=by cases l <;> rfl
theorem nonNil_get {α:Type} (l:List α):(nonNil l).getD []=l:=by cases l <;> rfl
theorem f11_eq {s:List UInt8} (hs:s.length≤1000000):f11 s=some (parseR s):=by
 obtain ⟨d,h1,h2⟩:=loop88 s.length s (Nat.le_refl _) none false true 0 hs (by omega) (by simp) (.inr rfl)
 have h1:lines9 (none,false,0) s=some d:=h1
 have hlt:¬ 1000000 < (s.length:Int):=by omega
 have hsm:=spl_mem 10 s
 unfold f11 parseR
 simp only [hlt,decide_false,cond_false,h1,obind_at]
 cases hr:readL (spl 10 s) with
 | inr n=>
  rw [hr] at h2
  obtain ⟨x,rfl,hx⟩:=h2
  simp only [hx,Nat.zero_add]
 | inl us=>
  rw [hr] at h2
  obtain ⟨fl,t,rfl⟩:=h2
  have hul:=readL_len (spl_ne 10 s) hr
  have hsl:=spl_len 10 s
  have hsz:∀ u∈us,sizeU u:=fun u hu=>by
   have:=readL_small (fun l hl=>(hsm l hl).1) hr u hu
   exact ⟨by have:=this.1; omega,by have:=this.2; omega⟩
  have hE:E1022 (nonNil us)=some (unitsE us):=by
   unfold E1022
   rw [nonNil_get,exO_of ⟨by omega,hsz⟩]
  simp only [hE,obind_at,app_none',Nat.zero_add]
  by_cases he:unitsE us=0
  ·simp only [he,decide_true,cond_true,if_true]
  ·simp only [he,decide_false,cond_false,if_false]
theorem firstU_unitN {n0:Int}:∀ {l:List GUnit} {seen:List (List UInt8)},firstU n0 seen l=0→∀ u∈l,unitE u=0
 | x::l,seen,h,u,hu=>by
  rw [firstU] at h
  split at h
  ·rename_i hz
   rcases List.mem_cons.1 hu with rfl | hu
   ·exact firstNZ_zero hz _ (List.mem_cons_self ..)
   ·exact firstU_unitN h u hu
  ·rename_i hz; exact absurd h hz
theorem units_unitN {l:List GUnit} (h:unitsE l=0):l.length≤64∧∀ u∈l,unitE u=0:=by
 unfold unitsE at h
 split at h
 ·rename_i hl; exact ⟨hl,firstU_unitN h⟩
 ·cases h
structure GoodU (u:GUnit):Prop where
 ne:u.serial ≠ []
 len:u.serial.length≤24
 name:nameAll 0 u.serial=true
 some:u.values.getD [] ≠ []
 few:(u.values.getD []).length≤16
 val:∀ v∈u.values.getD [],-100000≤v∧v≤100000
theorem unit_good {u:GUnit} (h:unitE u=0):GoodU u:=by
 have h1:=whenE_zero (by decide) (firstNZ_zero h _ (List.mem_cons_self ..))
 have h2:=whenE_zero (by decide) (firstNZ_zero h _ (List.mem_cons_of_mem _ (List.mem_cons_self ..)))
 have h3:=whenE_zero (by decide) (firstNZ_zero h _ (List.mem_cons_of_mem _ (List.mem_cons_of_mem _ (List.mem_cons_self ..))))
 simp only [isName,Bool.not_eq_false',Bool.and_eq_true,decide_eq_true_eq] at h1
 simp only [decide_eq_false_iff_not] at h2 h3
 exact ⟨h1.1.1,h1.1.2,h1.2,fun e=>h2 (by rw [e]; rfl),by omega,unitE_at h⟩
def lineT (u:GUnit):List UInt8:=Lib.join (u.serial::(u.values.getD []).map Lib.itoa) [32]++[10]
def printT (l:List GUnit):List UInt8:=(l.map lineT).flatten
theorem lens_le {k:Nat}:∀ {r:List (List UInt8)},(∀ x∈r,x.length≤k)→Lib.lens r≤k * r.length
 | [],_=>by simp [Lib.lens]
 | x::r,h=>by
  have h1:=h x (by simp)
  have h2:=lens_le (k:=k) (r:=r) (fun y hy=>h y (by simp [hy]))
  simp only [Lib.lens,List.map_cons,List.sum_cons,List.length_cons] at h2 ⊢
  rw [Nat.mul_succ]; omega
theorem tail_len {l:List Int} (h:∀ v∈l,-100000≤v∧v≤100000):(Lib.joinTail [32] (l.map Lib.itoa)).length≤11 * l.length:=by
 rw [Lib.joinTail_length]
 have:=lens_le (k:=10) (r:=l.map Lib.itoa) (fun x hx=>by
  obtain ⟨v,hv,rfl⟩:=List.mem_map.1 hx
  have:=h v hv
  exact itoa_len (by omega))
 rw [List.length_map] at this ⊢
 simp only [List.length_singleton]
 omega
theorem lineT_len {u:GUnit} (h:GoodU u):(lineT u).length≤201:=by
 unfold lineT
 rw [Lib.join_cons]
 simp only [List.length_append,List.length_singleton]
 have h1:=h.len
 have h2:=h.few
 have h3:=tail_len h.val
 omega
theorem printT_len:∀ {l:List GUnit},(∀ u∈l,GoodU u)→(printT l).length≤201 * l.length
 | [],_=>by simp [printT]
 | u::l,h=>by
  have h1:=lineT_len (h u (by simp))
  have h2:=printT_len (l:=l) (fun x hx=>h x (by simp [hx]))
  unfold printT at h2 ⊢
  simp only [List.map_cons,List.flatten_cons,List.length_append,List.length_cons]
  omega
theorem loop39 {a0:Option (List Int)} {vs:List Int} (ha:a0.getD []=vs) (hn:vs.length≤1000) (hv:∀ v∈vs,-100000≤v∧v≤100000):∀ (r:List Int) (i:Nat) (o:Option (List (List UInt8))) (fl:Bool),vs.drop i=r→(o.getD []).length≤i→(fl=true∨o=none) →
  ∃ fl' j,itO (s35_0 a0) (o,(i:Int),fl)=some (app o (r.map Lib.itoa),fl',j)
 | [],i,o,fl,hr,hl,hf=>by
  have:¬ (i:Int) < (vs.length:Int):=by have:=List.drop_eq_nil_iff.1 hr; omega
  refine ⟨fl,(i:Int),itO_out ?_⟩
  unfold s35_0
  simp only [ha,this,decide_false,cond_false,List.map_nil,app]
 | v::r,i,o,fl,hr,hl,hf=>by
  have hlt:i < vs.length:=by
   rcases Nat.lt_or_ge i vs.length with h | h
   ·exact h
   ·rw [List.drop_of_length_le h] at hr; cases hr
  have hlt':(i:Int) < (vs.length:Int):=by omega
  rw [drop_at hlt] at hr
  have hiv:=(List.cons.inj hr).1
  have hix:idxO vs (i:Int)=some v:=by rw [idxO_nat,List.getElem?_eq_getElem hlt,hiv]
  have hwr:wrapF .i64 ((i:Int) + 1)=((i + 1:Nat):Int):=wrap_nat (by omega)
  have hvv:=hv v (by rw [← hiv]; exact List.getElem_mem _)
  have h40:E36 v=some (Lib.itoa v):=by unfold E36; rw [exO_of (by omega)]
  obtain ⟨fl',j,h1⟩:=loop39 ha hn hv r (i + 1) (some (o.getD []++[Lib.itoa v])) true (List.cons.inj hr).2 (by simp; omega) (.inl rfl)
  refine ⟨fl',j,?_⟩
  rw [itO_in (s':=(some (o.getD []++[Lib.itoa v]),((i + 1:Nat):Int),true)),h1,app_cons]; · rfl
  unfold s35_0
  simp only [ha,hlt',decide_true,cond_true,hix,obind_at,h40,hwr]
  exact app_own hf (by omega)
theorem f35_eq {a0:Option (List Int)} (hn:(a0.getD []).length≤1000) (hv:∀ v∈a0.getD [],-100000≤v∧v≤100000):∃ fl,f35 a0=some (app none ((a0.getD []).map Lib.itoa),fl):=by
 obtain ⟨fl,j,h⟩:=loop39 rfl hn hv (a0.getD []) 0 none false rfl (by simp) (.inr rfl)
 have h:itO (s35_0 a0) (none,0,false)=_:=h
 refine ⟨fl,?_⟩
 unfold f35
 rw [h,obind_at]
theorem line7 {u:GUnit} (h:GoodU u):∃ fl,f35 u.values=some (app none ((u.values.getD []).map Lib.itoa),fl) ∧
  apO (some [u.serial]) ((app none ((u.values.getD []).map Lib.itoa)).getD [])=some (some (u.serial::(u.values.getD []).map Lib.itoa)) ∧
  E34o (some (u.serial::(u.values.getD []).map Lib.itoa)) [32]=some (Lib.join (u.serial::(u.values.getD []).map Lib.itoa) [32]) ∧
  catO (Lib.join (u.serial::(u.values.getD []).map Lib.itoa) [32]) [10]=some (lineT u):=by
 obtain ⟨fl,h1⟩:=f35_eq (a0:=u.values) (by have:=h.few; omega) h.val
 have hl:=lineT_len h
 have hf:=h.few
 unfold lineT at hl
 simp only [List.length_append,List.length_singleton] at hl
 refine ⟨fl,h1,?_,?_,?_⟩
 ·rw [app_get]
  unfold apO
  rw [if_pos (by simp; omega)]
  rfl
 ·show E34 _ _=_
  unfold E34
  rw [exO_of ⟨by simp,by simp; omega,by omega⟩]
 ·unfold catO
  rw [if_pos (by simp only [List.length_singleton]; omega)]
  rfl
theorem loop7 {a0:Option (List GUnit)} {l:List GUnit} (ha:a0.getD []=l) (hn:l.length≤64) (hv:∀ u∈l,GoodU u):∀ (r:List GUnit) (i:Nat) (s:List UInt8),l.drop i=r→s.length≤201 * i →
  ∃ j,itO (s10_0 a0) ((i:Int),s)=some (j,s++printT r)
 | [],i,s,hr,hs=>by
  have:¬ (i:Int) < (l.length:Int):=by have:=List.drop_eq_nil_iff.1 hr; omega
  refine ⟨(i:Int),itO_out ?_⟩
  unfold s10_0
  simp only [ha,this,decide_false,cond_false]
  simp [printT]
 | u::r,i,s,hr,hs=>by
  have hlt:i < l.length:=by
   rcases Nat.lt_or_ge i l.length with h | h
   ·exact h
   ·rw [List.drop_of_length_le h] at hr; cases hr
  have hlt':(i:Int) < (l.length:Int):=by omega
  rw [drop_at hlt] at hr
  have hiv:=(List.cons.inj hr).1
  have hix:idxO l (i:Int)=some u:=by rw [idxO_nat,List.getElem?_eq_getElem hlt,hiv]
  have hwr:wrapF .i64 ((i:Int) + 1)=((i + 1:Nat):Int):=wrap_nat (by omega)
  have hu:=hv u (by rw [← hiv]; exact List.getElem_mem _)
  obtain ⟨fl,g1,g2,g3,g4⟩:=line7 hu
  have hll:=lineT_len hu
  have h37:E33 s (lineT u)=some (s++lineT u):=by unfold E33; rw [if_pos (by omega)]
  obtain ⟨j,h1⟩:=loop7 ha hn hv r (i + 1) (s++lineT u) (List.cons.inj hr).2 (by simp; omega)
  refine ⟨j,?_⟩
  rw [itO_in (s':=(((i + 1:Nat):Int),s++lineT u)),h1]
  ·simp [printT]
  ·unfold s10_0
   simp only [ha,hlt',decide_true,cond_true,hix,obind_at,g1,g2,g3,g4,h37,hwr]
theorem f10_good {a0:Option (List GUnit)} {l:List GUnit} (ha:a0.getD []=l) (hE:unitsE l=0):f10 a0=some (printT l,0):=by
 have hg:=units_unitN hE
 have hgo:∀ u∈l,GoodU u:=fun u hu=>unit_good (hg.2 u hu)
 have hsz:∀ u∈l,sizeU u:=fun u hu=>by
  have:=hgo u hu
  exact ⟨by have:=this.len; omega,by have:=this.few; omega⟩
 have h10:E1022 a0=some 0:=by
  unfold E1022
  rw [ha,hE,exO_of ⟨by omega,hsz⟩]
 obtain ⟨j,h1⟩:=loop7 ha hg.1 hgo l 0 [] rfl (by simp)
 have h1:itO (s10_0 a0) (0,[])=some (j,[]++printT l):=h1
 unfold f10
 simp only [h10,obind_at,decide_true,cond_true,h1,List.nil_append]
end Go.Z
/-
 LineBack runs true.
-/
namespace Go.Z
open Go Go.Abs
theorem name_byte:∀ {s:List UInt8} {i:Nat},nameAll i s=true→∀ c∈s,48≤c.toNat
 | x::s,i,h,c,hc=>by
  simp only [nameAll,Bool.and_eq_true] at h
  rcases List.mem_cons.1 hc with rfl | hc
  ·have h1:=h.1
   simp only [nameB,Bool.or_eq_true,Bool.and_eq_true,decide_eq_true_eq] at h1
   omega
  ·exact name_byte h.2 c hc
def bodyT (u:GUnit):List UInt8:=Lib.join (u.serial::(u.values.getD []).map Lib.itoa) [32]
theorem lineT_body (u:GUnit):lineT u=bodyT u++[10]:=rfl
theorem nums_itoa:∀ {vs:List Int},(∀ v∈vs,-100000≤v∧v≤100000)→nums (vs.map Lib.itoa)=some vs
 | [],_=>rfl
 | v::vs,h=>by
  have h1:=h v (by simp)
  rw [List.map_cons,nums,sgn_itoa (by omega),nums_itoa (fun x hx=>h x (by simp [hx]))]
theorem serial_no {u:GUnit} (h:GoodU u) {c:UInt8} (hc:c.toNat < 48):c ∉ u.serial:=fun hm=>by
 have:=name_byte h.name c hm
 omega
theorem itoa_no (v:Int) {c:UInt8} (hc:c.toNat < 45):c ∉ Lib.itoa v:=fun hm=>by
 have:=itoa_byte v c hm
 omega
theorem body_spl {u:GUnit} (h:GoodU u):spl 32 (bodyT u)=u.serial::(u.values.getD []).map Lib.itoa:=
 spl_of_join 32 _ _ (serial_no h (by decide)) (fun y hy=>by
  obtain ⟨v,_,rfl⟩:=List.mem_map.1 hy
  exact itoa_no v (by decide))
theorem body_unit {u:GUnit} (h:GoodU u):unitW (spl 32 (bodyT u))=some (ownU u):=by
 rw [body_spl h,unitW,if_neg,nums_itoa h.val]; · rfl
 rintro (e | e)
 ·exact h.ne e
 ·exact h.some (List.map_eq_nil_iff.1 e)
theorem body_no {u:GUnit} (h:GoodU u):(10:UInt8) ∉ bodyT u:=by
 intro hm
 unfold bodyT at hm
 rw [Lib.join_cons] at hm
 rcases List.mem_append.1 hm with hm | hm
 ·exact serial_no h (by decide) hm
 ·unfold Lib.joinTail at hm
  obtain ⟨w,hw,hm⟩:=List.mem_flatten.1 hm
  obtain ⟨x,hx,rfl⟩:=List.mem_map.1 hw
  obtain ⟨v,_,rfl⟩:=List.mem_map.1 hx
  rcases List.mem_append.1 hm with hm | hm
  ·simp at hm
  ·exact itoa_no v (by decide) hm
theorem printT_cons (u:GUnit) (l:List GUnit):printT (u::l)=bodyT u++10::printT l:=by
 unfold printT
 rw [List.map_cons,List.flatten_cons,lineT_body]
 simp
theorem print_read:∀ {l:List GUnit},(∀ u∈l,GoodU u)→readL (spl 10 (printT l))=.inl (l.map ownU)∧(spl 10 (printT l)).length=l.length + 1
 | [],_=>⟨rfl,rfl⟩
 | u::l,h=>by
  have hu:=h u (by simp)
  obtain ⟨h1,h2⟩:=print_read (l:=l) (fun x hx=>h x (by simp [hx]))
  rw [printT_cons,spl_at (body_no hu)]
  refine ⟨?_,by rw [List.length_cons,h2,List.length_cons]⟩
  rw [readL_cons (spl_ne 10 _),body_unit hu,h1]
  rfl
end Go.Z
