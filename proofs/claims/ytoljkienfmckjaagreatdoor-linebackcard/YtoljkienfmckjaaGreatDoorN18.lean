/-
  LineTexts: the law holds of the function that mirrors the run.
-/
import Derived.Test.YtoljkienfmckjaaGreatDoorN17
import Derived.Test.YtoljkienfmckjaaGreatDoorN13
import Derived.Test.YtoljkienfmckjaaGreatDoorL8
import Derived.Test.YtoljkienfmckjaaGreatDoorL14
set_option linter.unusedVariables false
set_option linter.unusedSimpArgs false
set_option maxRecDepth 100000
namespace Go.Z
open Go Go.Abs
def SmallU (N:Nat) (u:GUnit):Prop:=u.serial.length≤N∧(u.values.getD []).length≤N
theorem unitW_small {l:List UInt8} {u:GUnit} (h:unitW (spl 32 l)=some u):SmallU l.length u:=by
 have hm:=spl_mem 32 l
 have hl:=spl_len 32 l
 cases hw:spl 32 l with
 | nil=>rw [hw] at h; cases h
 | cons w ws=>
  rw [hw] at h hm hl
  rw [unitW] at h
  split at h
  ·cases h
  ·cases hn:nums ws with
   | none=>rw [hn] at h; cases h
   | some v=>
    rw [hn] at h
    cases h
    have:=nums_len hn
    refine ⟨(hm w (by simp)).1,?_⟩
    simp only [Option.getD_some,this]
    simp only [List.length_cons] at hl
    omega
theorem readL_small {N:Nat}:∀ {r:List (List UInt8)} {us:List GUnit},(∀ l∈r,l.length≤N)→readL r=.inl us→∀ u∈us,SmallU N u
 | [],us,_,h=>by cases h; intro u hu; cases hu
 | [l],us,_,h=>by
  rw [readL] at h
  split at h
  ·cases h; intro u hu; cases hu
  ·cases h
 | l::m::r,us,hl,h=>by
  rw [readL] at h
  cases hu:unitW (spl 32 l) with
  | none=>rw [hu] at h; cases h
  | some u=>
   rw [hu] at h
   cases hr:readL (m::r) with
   | inr n=>rw [hr] at h; cases h
   | inl vs=>
    rw [hr] at h; cases h
    intro x hx
    rcases List.mem_cons.1 hx with rfl | hx
    ·have h1:=unitW_small hu
     have h2:=hl l (by simp)
     exact ⟨by have:=h1.1; omega,by have:=h1.2; omega⟩
    ·exact readL_small (fun y hy=>hl y (List.mem_cons_of_mem _ hy)) hr x hx
def parseR (s:List UInt8):Option (List GUnit) × Int × Int:=match readL (spl 10 s) with
 | .inr n=>(none,n,26)
 | .inl us=>if unitsE us=0 then (nonNil us,0,0) else (none,us.length,unitsE us)
theorem app_none' {α:Type} (l:List α):app none l=nonNil l:=by cases l <;> rfl
theorem nonNil_get {α:Type} (l:List α):(nonNil l).getD []=l:=by cases l <;> rfl
theorem f9_eq {s:List UInt8} (hs:s.length≤1000000):f9 s=some (parseR s):=by
 obtain ⟨d,h1,h2⟩:=loop88 s.length s (Nat.le_refl _) none false true 0 hs (by omega) (by simp) (.inr rfl)
 have h1:lines9 (none,false,0) s=some d:=h1
 have hlt:¬ 1000000 < (s.length:Int):=by omega
 have hsm:=spl_mem 10 s
 unfold f9 parseR
 simp only [hlt,decide_false,cond_false,h1,obind_at]
 cases hr:readL (spl 10 s) with
 | inr n=>
  rw [hr] at h2
  obtain ⟨x,rfl,hx⟩:=h2
  simp only [hx,Nat.zero_add]
 | inl us=>
  rw [hr] at h2
  obtain ⟨fl,t,rfl⟩:=h2
  have hul:=readL_len (spl_ne 10 s) hr
  have hsl:=spl_len 10 s
  have hsz:∀ u∈us,sizeU u:=fun u hu=>by
   have:=readL_small (fun l hl=>(hsm l hl).1) hr u hu
   exact ⟨by have:=this.1; omega,by have:=this.2; omega⟩
  have hE:E10 (nonNil us)=some (unitsE us):=by
   unfold E10
   rw [nonNil_get,exO_of ⟨by omega,hsz⟩]
  simp only [hE,obind_at,app_none',Nat.zero_add]
  by_cases he:unitsE us=0
  ·simp only [he,decide_true,cond_true,if_true]
  ·simp only [he,decide_false,cond_false,if_false]
theorem firstU_unit {n0:Int}:∀ {l:List GUnit} {seen:List (List UInt8)},firstU n0 seen l=0→∀ u∈l,unitE u=0
 | x::l,seen,h,u,hu=>by
  rw [firstU] at h
  split at h
  ·rename_i hz
   rcases List.mem_cons.1 hu with rfl | hu
   ·exact firstNZ_zero hz _ (List.mem_cons_self ..)
   ·exact firstU_unit h u hu
  ·rename_i hz; exact absurd h hz
theorem units_unit {l:List GUnit} (h:unitsE l=0):l.length≤64∧∀ u∈l,unitE u=0:=by
 unfold unitsE at h
 split at h
 ·rename_i hl; exact ⟨hl,firstU_unit h⟩
 ·cases h
structure GoodU (u:GUnit):Prop where
 ne:u.serial ≠ []
 len:u.serial.length≤24
 name:nameAll 0 u.serial=true
 some:u.values.getD [] ≠ []
 few:(u.values.getD []).length≤16
 val:∀ v∈u.values.getD [],-100000≤v∧v≤100000
theorem unit_good {u:GUnit} (h:unitE u=0):GoodU u:=by
 have h1:=whenE_zero (by decide) (firstNZ_zero h _ (List.mem_cons_self ..))
 have h2:=whenE_zero (by decide) (firstNZ_zero h _ (List.mem_cons_of_mem _ (List.mem_cons_self ..)))
 have h3:=whenE_zero (by decide) (firstNZ_zero h _ (List.mem_cons_of_mem _ (List.mem_cons_of_mem _ (List.mem_cons_self ..))))
 simp only [isName,Bool.not_eq_false',Bool.and_eq_true,decide_eq_true_eq] at h1
 simp only [decide_eq_false_iff_not] at h2 h3
 exact ⟨h1.1.1,h1.1.2,h1.2,fun e=>h2 (by rw [e]; rfl),by omega,unitE_at h⟩
def lineT (u:GUnit):List UInt8:=Lib.join (u.serial::(u.values.getD []).map Lib.itoa) [32]++[10]
def printT (l:List GUnit):List UInt8:=(l.map lineT).flatten
theorem lens_le {k:Nat}:∀ {r:List (List UInt8)},(∀ x∈r,x.length≤k)→Lib.lens r≤k * r.length
 | [],_=>by simp [Lib.lens]
 | x::r,h=>by
  have h1:=h x (by simp)
  have h2:=lens_le (k:=k) (r:=r) (fun y hy=>h y (by simp [hy]))
  simp only [Lib.lens,List.map_cons,List.sum_cons,List.length_cons] at h2 ⊢
  rw [Nat.mul_succ]; omega
theorem tail_len {l:List Int} (h:∀ v∈l,-100000≤v∧v≤100000):(Lib.joinTail [32] (l.map Lib.itoa)).length≤11 * l.length:=by
 rw [Lib.joinTail_length]
 have:=lens_le (k:=10) (r:=l.map Lib.itoa) (fun x hx=>by
  obtain ⟨v,hv,rfl⟩:=List.mem_map.1 hx
  have:=h v hv
  exact itoa_len (by omega))
 rw [List.length_map] at this ⊢
 simp only [List.length_singleton]
 omega
theorem lineT_len {u:GUnit} (h:GoodU u):(lineT u).length≤201:=by
 unfold lineT
 rw [Lib.join_cons]
 simp only [List.length_append,List.length_singleton]
 have h1:=h.len
 have h2:=h.few
 have h3:=tail_len h.val
 omega
theorem printT_len:∀ {l:List GUnit},(∀ u∈l,GoodU u)→(printT l).length≤201 * l.length
 | [],_=>by simp [printT]
 | u::l,h=>by
  have h1:=lineT_len (h u (by simp))
  have h2:=printT_len (l:=l) (fun x hx=>h x (by simp [hx]))
  unfold printT at h2 ⊢
  simp only [List.map_cons,List.flatten_cons,List.length_append,List.length_cons]
  omega
theorem loop39 {a0:Option (List Int)} {vs:List Int} (ha:a0.getD []=vs) (hn:vs.length≤1000) (hv:∀ v∈vs,-100000≤v∧v≤100000):∀ (r:List Int) (i:Nat) (o:Option (List (List UInt8))) (fl:Bool),vs.drop i=r→(o.getD []).length≤i→(fl=true∨o=none) →
  ∃ fl' j,itO (s39_0 a0) (o,(i:Int),fl)=some (app o (r.map Lib.itoa),fl',j)
 | [],i,o,fl,hr,hl,hf=>by
  have:¬ (i:Int) < (vs.length:Int):=by have:=List.drop_eq_nil_iff.1 hr; omega
  refine ⟨fl,(i:Int),itO_out ?_⟩
  unfold s39_0
  simp only [ha,this,decide_false,cond_false,List.map_nil,app]
 | v::r,i,o,fl,hr,hl,hf=>by
  have hlt:i < vs.length:=by
   rcases Nat.lt_or_ge i vs.length with h | h
   ·exact h
   ·rw [List.drop_of_length_le h] at hr; cases hr
  have hlt':(i:Int) < (vs.length:Int):=by omega
  rw [drop_at hlt] at hr
  have hiv:=(List.cons.inj hr).1
  have hix:idxO vs (i:Int)=some v:=by rw [idxO_nat,List.getElem?_eq_getElem hlt,hiv]
  have hwr:wrapF .i64 ((i:Int) + 1)=((i + 1:Nat):Int):=wrap_nat (by omega)
  have hvv:=hv v (by rw [← hiv]; exact List.getElem_mem _)
  have h40:E40 v=some (Lib.itoa v):=by unfold E40; rw [exO_of (by omega)]
  obtain ⟨fl',j,h1⟩:=loop39 ha hn hv r (i + 1) (some (o.getD []++[Lib.itoa v])) true (List.cons.inj hr).2 (by simp; omega) (.inl rfl)
  refine ⟨fl',j,?_⟩
  rw [itO_in (s':=(some (o.getD []++[Lib.itoa v]),((i + 1:Nat):Int),true)),h1,app_cons]; · rfl
  unfold s39_0
  simp only [ha,hlt',decide_true,cond_true,hix,obind_at,h40,hwr]
  exact app_own hf (by omega)
theorem f39_eq {a0:Option (List Int)} (hn:(a0.getD []).length≤1000) (hv:∀ v∈a0.getD [],-100000≤v∧v≤100000):∃ fl,f39 a0=some (app none ((a0.getD []).map Lib.itoa),fl):=by
 obtain ⟨fl,j,h⟩:=loop39 rfl hn hv (a0.getD []) 0 none false rfl (by simp) (.inr rfl)
 have h:itO (s39_0 a0) (none,0,false)=_:=h
 refine ⟨fl,?_⟩
 unfold f39
 rw [h,obind_at]
theorem line7 {u:GUnit} (h:GoodU u):∃ fl,f39 u.values=some (app none ((u.values.getD []).map Lib.itoa),fl) ∧
  apO (some [u.serial]) ((app none ((u.values.getD []).map Lib.itoa)).getD [])=some (some (u.serial::(u.values.getD []).map Lib.itoa)) ∧
  E38o (some (u.serial::(u.values.getD []).map Lib.itoa)) [32]=some (Lib.join (u.serial::(u.values.getD []).map Lib.itoa) [32]) ∧
  catO (Lib.join (u.serial::(u.values.getD []).map Lib.itoa) [32]) [10]=some (lineT u):=by
 obtain ⟨fl,h1⟩:=f39_eq (a0:=u.values) (by have:=h.few; omega) h.val
 have hl:=lineT_len h
 have hf:=h.few
 unfold lineT at hl
 simp only [List.length_append,List.length_singleton] at hl
 refine ⟨fl,h1,?_,?_,?_⟩
 ·rw [app_get]
  unfold apO
  rw [if_pos (by simp; omega)]
  rfl
 ·show E38 _ _=_
  unfold E38
  rw [exO_of ⟨by simp,by simp; omega,by omega⟩]
 ·unfold catO
  rw [if_pos (by simp only [List.length_singleton]; omega)]
  rfl
theorem loop7 {a0:Option (List GUnit)} {l:List GUnit} (ha:a0.getD []=l) (hn:l.length≤64) (hv:∀ u∈l,GoodU u):∀ (r:List GUnit) (i:Nat) (s:List UInt8),l.drop i=r→s.length≤201 * i →
  ∃ j,itO (s7_0 a0) ((i:Int),s)=some (j,s++printT r)
 | [],i,s,hr,hs=>by
  have:¬ (i:Int) < (l.length:Int):=by have:=List.drop_eq_nil_iff.1 hr; omega
  refine ⟨(i:Int),itO_out ?_⟩
  unfold s7_0
  simp only [ha,this,decide_false,cond_false]
  simp [printT]
 | u::r,i,s,hr,hs=>by
  have hlt:i < l.length:=by
   rcases Nat.lt_or_ge i l.length with h | h
   ·exact h
   ·rw [List.drop_of_length_le h] at hr; cases hr
  have hlt':(i:Int) < (l.length:Int):=by omega
  rw [drop_at hlt] at hr
  have hiv:=(List.cons.inj hr).1
  have hix:idxO l (i:Int)=some u:=by rw [idxO_nat,List.getElem?_eq_getElem hlt,hiv]
  have hwr:wrapF .i64 ((i:Int) + 1)=((i + 1:Nat):Int):=wrap_nat (by omega)
  have hu:=hv u (by rw [← hiv]; exact List.getElem_mem _)
  obtain ⟨fl,g1,g2,g3,g4⟩:=line7 hu
  have hll:=lineT_len hu
  have h37:E37 s (lineT u)=some (s++lineT u):=by unfold E37; rw [if_pos (by omega)]
  obtain ⟨j,h1⟩:=loop7 ha hn hv r (i + 1) (s++lineT u) (List.cons.inj hr).2 (by simp; omega)
  refine ⟨j,?_⟩
  rw [itO_in (s':=(((i + 1:Nat):Int),s++lineT u)),h1]
  ·simp [printT]
  ·unfold s7_0
   simp only [ha,hlt',decide_true,cond_true,hix,obind_at,g1,g2,g3,g4,h37,hwr]
theorem f7_good {a0:Option (List GUnit)} {l:List GUnit} (ha:a0.getD []=l) (hE:unitsE l=0):f7 a0=some (printT l,0):=by
 have hg:=units_unit hE
 have hgo:∀ u∈l,GoodU u:=fun u hu=>unit_good (hg.2 u hu)
 have hsz:∀ u∈l,sizeU u:=fun u hu=>by
  have:=hgo u hu
  exact ⟨by have:=this.len; omega,by have:=this.few; omega⟩
 have h10:E10 a0=some 0:=by
  unfold E10
  rw [ha,hE,exO_of ⟨by omega,hsz⟩]
 obtain ⟨j,h1⟩:=loop7 ha hg.1 hgo l 0 [] rfl (by simp)
 have h1:itO (s7_0 a0) (0,[])=some (j,[]++printT l):=h1
 unfold f7
 simp only [h10,obind_at,decide_true,cond_true,h1,List.nil_append]
theorem loop14 {a0:Option (List GUnit)} {l:List GUnit} (ha:a0.getD []=l) (hn:l.length≤1000000):∀ (r:List GUnit) (i:Nat) (o:Option (List GUnit)) (fl:Bool),l.drop i=r→(o.getD []).length≤i→(fl=true∨o=none) →
  ∃ fl' j,itO (s14_0 a0) (o,(i:Int),fl)=some (app o r,fl',j)
 | [],i,o,fl,hr,hl,hf=>by
  have:¬ (i:Int) < (l.length:Int):=by have:=List.drop_eq_nil_iff.1 hr; omega
  refine ⟨fl,(i:Int),itO_out ?_⟩
  unfold s14_0
  simp only [ha,this,decide_false,cond_false,app]
 | v::r,i,o,fl,hr,hl,hf=>by
  have hlt:i < l.length:=by
   rcases Nat.lt_or_ge i l.length with h | h
   ·exact h
   ·rw [List.drop_of_length_le h] at hr; cases hr
  have hlt':(i:Int) < (l.length:Int):=by omega
  rw [drop_at hlt] at hr
  have hix:idxO l (i:Int)=some v:=by rw [idxO_nat,List.getElem?_eq_getElem hlt,(List.cons.inj hr).1]
  have hwr:wrapF .i64 ((i:Int) + 1)=((i + 1:Nat):Int):=wrap_nat (by omega)
  obtain ⟨fl',j,h1⟩:=loop14 ha hn r (i + 1) (some (o.getD []++[v])) true (List.cons.inj hr).2 (by simp; omega) (.inl rfl)
  refine ⟨fl',j,?_⟩
  rw [itO_in (s':=(some (o.getD []++[v]),((i + 1:Nat):Int),true)),h1,app_cons]
  unfold s14_0
  simp only [ha,hlt',decide_true,cond_true,hix,obind_at,hwr]
  exact app_own hf (by omega)
theorem f14_eq {a0:Option (List GUnit)} (hn:(a0.getD []).length≤1000000):∃ fl,f14 a0=some (nonNil (a0.getD []),fl):=by
 obtain ⟨fl,j,h⟩:=loop14 rfl hn (a0.getD []) 0 none false rfl (by simp) (.inr rfl)
 have h:itO (s14_0 a0) (none,0,false)=_:=h
 refine ⟨fl,?_⟩
 unfold f14
 rw [h,obind_at,app_none']
theorem f13_same {a0 a1:Option (List GUnit)} {l:List GUnit} (h0:a0.getD []=l) {m:List GUnit} (h1:a1.getD []=m) (hl:l.length≤1000000) (hm:l.map ownU=m.map ownU) (hs:∀ u∈l,(u.values.getD []).length≤1073741824):f13 a0 a1=some true:=by
 have hlen:l.length=m.length:=by have:=congrArg List.length hm; simpa using this
 unfold f13
 have he:((a0.getD []).length:Int)=((a1.getD []).length:Int):=by rw [h0,h1,hlen]
 simp only [he,decide_true,cond_true]
 rw [itO_thru l.length (s13_0 a0 a1),obind_at]
 ·unfold s13_0
  rw [h0]
  simp only [Int.lt_irrefl,decide_false,cond_false]
 ·intro i hi
  have hi':(i:Int) < (l.length:Int):=by omega
  have hix:idxO l (i:Int)=some l[i]:=by rw [idxO_nat,List.getElem?_eq_getElem hi]
  have him:i < m.length:=by omega
  have hix2:idxO m (i:Int)=some m[i]:=by rw [idxO_nat,List.getElem?_eq_getElem him]
  have hwr:wrapF .i64 ((i:Int) + 1)=((i + 1:Nat):Int):=wrap_nat (by omega)
  have ho:ownU l[i]=ownU m[i]:=by
   have b1:(l.map ownU)[i]?=(m.map ownU)[i]?:=by rw [hm]
   rw [List.getElem?_map,List.getElem?_map,List.getElem?_eq_getElem hi,List.getElem?_eq_getElem him] at b1
   simp only [Option.map_some] at b1
   exact Option.some.inj b1
  have ho1:l[i].serial=m[i].serial:=(show (ownU l[i]).serial=(ownU m[i]).serial by rw [ho])
  have ho2:l[i].values.getD []=m[i].values.getD []:=by
   have:=congrArg (fun u:GUnit=>u.values.getD []) ho
   simpa [ownU,ownI] using this
  have h23:E23 l[i].values m[i].values=some true:=by
   unfold E23
   rw [exO_of (hs _ (List.getElem_mem _)),ho2]
   simp
  unfold s13_0
  simp only [h0,h1,hi',decide_true,cond_true,hix,hix2,obind_at,ho1,h23,hwr]
end Go.Z
/-
 LineTexts runs true.
-/
namespace Go.Z
open Go Go.Abs
theorem own_get (l:List GUnit):(nonNil (l.map ownU)).getD []=l.map ownU:=nonNil_get _
end Go.Z
/-
 LineBack runs true.
-/
namespace Go.Z
open Go Go.Abs
theorem name_byte:∀ {s:List UInt8} {i:Nat},nameAll i s=true→∀ c∈s,48≤c.toNat
 | x::s,i,h,c,hc=>by
  simp only [nameAll,Bool.and_eq_true] at h
  rcases List.mem_cons.1 hc with rfl | hc
  ·have h1:=h.1
   simp only [nameB,Bool.or_eq_true,Bool.and_eq_true,decide_eq_true_eq] at h1
   omega
  ·exact name_byte h.2 c hc
def bodyT (u:GUnit):List UInt8:=Lib.join (u.serial::(u.values.getD []).map Lib.itoa) [32]
theorem lineT_body (u:GUnit):lineT u=bodyT u++[10]:=rfl
theorem nums_itoa:∀ {vs:List Int},(∀ v∈vs,-100000≤v∧v≤100000)→nums (vs.map Lib.itoa)=some vs
 | [],_=>rfl
 | v::vs,h=>by
  have h1:=h v (by simp)
  rw [List.map_cons,nums,sgn_itoa (by omega),nums_itoa (fun x hx=>h x (by simp [hx]))]
theorem serial_no {u:GUnit} (h:GoodU u) {c:UInt8} (hc:c.toNat < 48):c ∉ u.serial:=fun hm=>by
 have:=name_byte h.name c hm
 omega
theorem itoa_no (v:Int) {c:UInt8} (hc:c.toNat < 45):c ∉ Lib.itoa v:=fun hm=>by
 have:=itoa_byte v c hm
 omega
theorem body_spl {u:GUnit} (h:GoodU u):spl 32 (bodyT u)=u.serial::(u.values.getD []).map Lib.itoa:=
 spl_of_join 32 _ _ (serial_no h (by decide)) (fun y hy=>by
  obtain ⟨v,_,rfl⟩:=List.mem_map.1 hy
  exact itoa_no v (by decide))
theorem body_unit {u:GUnit} (h:GoodU u):unitW (spl 32 (bodyT u))=some (ownU u):=by
 rw [body_spl h,unitW,if_neg,nums_itoa h.val]; · rfl
 rintro (e | e)
 ·exact h.ne e
 ·exact h.some (List.map_eq_nil_iff.1 e)
theorem body_no {u:GUnit} (h:GoodU u):(10:UInt8) ∉ bodyT u:=by
 intro hm
 unfold bodyT at hm
 rw [Lib.join_cons] at hm
 rcases List.mem_append.1 hm with hm | hm
 ·exact serial_no h (by decide) hm
 ·unfold Lib.joinTail at hm
  obtain ⟨w,hw,hm⟩:=List.mem_flatten.1 hm
  obtain ⟨x,hx,rfl⟩:=List.mem_map.1 hw
  obtain ⟨v,_,rfl⟩:=List.mem_map.1 hx
  rcases List.mem_append.1 hm with hm | hm
  ·simp at hm
  ·exact itoa_no v (by decide) hm
theorem body_ne {u:GUnit} (h:GoodU u):bodyT u ≠ []:=by
 unfold bodyT
 rw [Lib.join_cons]
 intro e
 exact h.ne (List.append_eq_nil_iff.1 e).1
theorem printT_cons (u:GUnit) (l:List GUnit):printT (u::l)=bodyT u++10::printT l:=by
 unfold printT
 rw [List.map_cons,List.flatten_cons,lineT_body]
 simp
theorem print_read:∀ {l:List GUnit},(∀ u∈l,GoodU u)→readL (spl 10 (printT l))=.inl (l.map ownU)∧(spl 10 (printT l)).length=l.length + 1
 | [],_=>⟨rfl,rfl⟩
 | u::l,h=>by
  have hu:=h u (by simp)
  obtain ⟨h1,h2⟩:=print_read (l:=l) (fun x hx=>h x (by simp [hx]))
  rw [printT_cons,spl_at (body_no hu)]
  refine ⟨?_,by rw [List.length_cons,h2,List.length_cons]⟩
  rw [readL_cons (spl_ne 10 _),body_unit hu,h1]
  rfl
def cutT:List GUnit→List UInt8
 | []=>[]
 | [u]=>bodyT u
 | u::v::l=>bodyT u++10::cutT (v::l)
theorem print_cut:∀ {l:List GUnit},l ≠ []→printT l=cutT l++[10]
 | [],h=>absurd rfl h
 | [u],_=>by rw [printT_cons]; rfl
 | u::v::l,_=>by
  rw [printT_cons,print_cut (l:=v::l) (by simp),cutT]
  simp
theorem cut_read:∀ {l:List GUnit},l ≠ []→(∀ u∈l,GoodU u)→readL (spl 10 (cutT l))=.inr (l.length - 1)
 | [],h,_=>absurd rfl h
 | [u],_,h=>by
  have hu:=h u (by simp)
  rw [cutT,spl_no (body_no hu),readL,if_neg (body_ne hu)]
  rfl
 | u::v::l,_,h=>by
  have hu:=h u (by simp)
  rw [cutT,spl_at (body_no hu),readL_cons (spl_ne 10 _),body_unit hu,cut_read (l:=v::l) (by simp) (fun x hx=>h x (by simp [hx]))]
  simp
theorem nums_back:∀ {ws:List (List UInt8)} {vs:List Int},nums ws=some vs→vs.map Lib.itoa=ws
 | [],vs,h=>by cases h; rfl
 | w::ws,vs,h=>by
  rw [nums] at h
  cases hs:sgnN w with
  | none=>rw [hs] at h; cases h
  | some v=>
   cases hn:nums ws with
   | none=>rw [hs,hn] at h; cases h
   | some l=>
    rw [hs,hn] at h
    cases h
    rw [List.map_cons,itoa_sgn hs,nums_back hn]
theorem unit_back {l:List UInt8} {u:GUnit} (h:unitW (spl 32 l)=some u):bodyT u=l:=by
 have hj:=spl_join 32 l
 cases hw:spl 32 l with
 | nil=>exact absurd hw (spl_ne 32 l)
 | cons w ws=>
  rw [hw] at h hj
  rw [unitW] at h
  split at h
  ·cases h
  ·cases hn:nums ws with
   | none=>rw [hn] at h; cases h
   | some v=>
    rw [hn] at h
    cases h
    unfold bodyT
    simp only [Option.getD_some,nums_back hn,hj]
theorem read_print:∀ {r:List (List UInt8)} {us:List GUnit},r ≠ []→readL r=.inl us→Lib.join r [10]=printT us
 | [],us,h,_=>absurd rfl h
 | [l],us,_,h=>by
  rw [readL] at h
  split at h
  ·rename_i hl; cases h; rw [hl,Lib.join_one]; rfl
  ·cases h
 | l::m::r,us,_,h=>by
  rw [readL] at h
  cases hu:unitW (spl 32 l) with
  | none=>rw [hu] at h; cases h
  | some u=>
   rw [hu] at h
   cases hr:readL (m::r) with
   | inr n=>rw [hr] at h; cases h
   | inl vs=>
    rw [hr] at h
    cases h
    have ih:=read_print (r:=m::r) (by simp) hr
    rw [Lib.join_cons] at ih ⊢
    rw [printT_cons,unit_back hu,← ih]
    simp [Lib.joinTail]
theorem own_own (l:List GUnit):(l.map ownU).map ownU=l.map ownU:=by rw [List.map_map]; rfl
theorem back_ok {s:List UInt8} (hs:s.length≤300) (h0:(parseR s).2.2=0):f7 (parseR s).1=some (s,0):=by
 unfold parseR at h0 ⊢
 cases hr:readL (spl 10 s) with
 | inr n=>rw [hr] at h0; cases h0
 | inl us=>
  rw [hr] at h0
  dsimp only at h0 ⊢
  by_cases hE:unitsE us=0
  ·rw [if_pos hE,f7_good (nonNil_get us) hE,← read_print (spl_ne 10 s) hr,spl_join]
  ·rw [if_neg hE] at h0
   exact absurd h0 hE
theorem f4_true {a0:Option (List GUnit)} {a1:List UInt8} (hsz:∀ u∈a0.getD [],sizeW u):f4 a0 a1=some true:=by
 obtain ⟨l,hll⟩:∃ l,a0.getD []=l:=⟨_,rfl⟩
 rw [hll] at hsz
 unfold f4
 rw [show E5=some true from rfl,obind_at,cond_true,hll]
 by_cases hl:10 < (l.length:Int)
 ·rw [decide_eq_true hl,cond_true]
 rw [decide_eq_false hl,cond_false]
 have h10:E10w a0=some (unitsE l):=by
  unfold E10w
  rw [hll,exO_of ⟨by omega,hsz⟩]
 rw [h10,obind_at]
 by_cases hE:unitsE l=0
 case neg=>rw [decide_eq_false hE,cond_false]
 rw [decide_eq_true hE,cond_true]
 by_cases hs:300 < (a1.length:Int)
 ·rw [decide_eq_true hs,cond_true]
 rw [decide_eq_false hs,cond_false]
 have hu:=units_unit hE
 have hgo:∀ u∈l,GoodU u:=fun u hm=>unit_good (hu.2 u hm)
 have h8:E8 a0=some (nonNil (l.map ownU)):=by
  unfold E8
  have:∀ u∈a0.getD [],okLen u:=fun u hm=>by
   rw [hll] at hm
   have:=(hgo u hm).few
   unfold okLen; omega
  rw [exO_of ⟨by rw [hll]; omega,this⟩,hll]
 have hpr:printT (l.map ownU)=printT l:=by
  unfold printT
  rw [List.map_map]
  rfl
 have h7:f7 (nonNil (l.map ownU))=some (printT l,0):=by rw [f7_good (own_get l) (by rw [unitsE_own]; exact hE),hpr]
 have htl:=printT_len hgo
 obtain ⟨hr1,hr2⟩:=print_read hgo
 have hp:parseR (printT l)=(nonNil (l.map ownU),0,0):=by
  unfold parseR
  rw [hr1]
  dsimp only
  rw [if_pos (by rw [unitsE_own]; exact hE)]
 have h9:f9 (printT l)=some (nonNil (l.map ownU),0,0):=by rw [f9_eq (by omega),hp]
 obtain ⟨fl,h14⟩:=f14_eq (a0:=nonNil (l.map ownU)) (by rw [nonNil_get,List.length_map]; omega)
 rw [nonNil_get] at h14
 have h13:f13 (nonNil (l.map ownU)) a0=some true:=f13_same (nonNil_get _) hll (by simp; omega) (own_own l) (fun u hm=>by
  obtain ⟨w,hw,rfl⟩:=List.mem_map.1 hm
  have:=(hgo w hw).few
  show (w.values.getD []).length≤_
  omega)
 have h15:f15 (printT l) 10=some (some (spl 10 (printT l))):=f15_eq (c:=10) (by omega)
 have hw:wrapF .i64 ((l.length:Int) + 1)=((l.length + 1:Nat):Int):=wrap_nat (by omega)
 have hlen:(((some (spl 10 (printT l))).getD []).length:Int)=wrapF .i64 ((l.length:Int) + 1):=by rw [hw,Option.getD_some,hr2]
 have h9b:f9 a1=some (parseR a1):=f9_eq (by omega)
 -- the text without its last byte
 have last:(cond (decide (printT l=[])) (some (decide ((l.length:Int)=0))) (obind (cutO (printT l) none (some (wrapF .i64 (((printT l).length:Int) - 1)))) fun v34=>
   obind (f9 v34) fun v36=>cond (decide (v36.2.2=26)) (some (decide (v36.2.1=(wrapF .i64 ((l.length:Int) - 1))))) (some false)))=some true:=by
  by_cases hl0:l=[]
  ·subst hl0; rfl
  ·have hpc:=print_cut hl0
   have hne:printT l ≠ []:=by rw [hpc]; simp
   have hll0:0 < l.length:=List.length_pos_iff.2 hl0
   have hcl:(printT l).length=(cutT l).length + 1:=by rw [hpc]; simp
   have hwl:wrapF .i64 (((printT l).length:Int) - 1)=((cutT l).length:Int):=by rw [wrap_id (by omega) (by omega)]; omega
   have hw1:wrapF .i64 ((l.length:Int) - 1)=((l.length - 1:Nat):Int):=by rw [wrap_id (by omega) (by omega)]; omega
   have hcut:cutO (printT l) none (some ((cutT l).length:Int))=some (cutT l):=by
    unfold cutO bndI
    simp only [Int.natCast_nonneg,show ((cutT l).length:Int)≤((printT l).length:Int) by omega,and_self,if_true,Int.toNat_natCast,List.drop_zero]
    rw [hpc,List.take_left]
   have h9c:f9 (cutT l)=some (none,((l.length - 1:Nat):Int),26):=by
    rw [f9_eq (by omega)]
    unfold parseR
    rw [cut_read hl0 hgo]
   rw [decide_eq_false hne,cond_false,hwl,hcut,obind_at,h9c,obind_at,hw1]
   simp only [decide_true,cond_true]
 rw [h8]
 simp only [obind_at,h7,h9,decide_true,cond_true,h14,h13,h15,hlen,h9b]
 by_cases h0:(parseR a1).2.2=0
 ·rw [decide_eq_true h0,cond_true,back_ok (by omega) h0]
  simp only [obind_at,decide_true,cond_true]
  exact last
 ·rw [decide_eq_false h0,cond_false]
  exact last
theorem I4 (a0:Option (List GUnit)) (a1:List UInt8) (h:∀ u∈a0.getD [],sizeW u):callIso prE (X prE) 4 [sl 2 vunit a0,.str a1]=some (.bool true,false):=W4 (f4_true h)
end Go.Z
